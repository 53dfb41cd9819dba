-- Written by a program of this session (wip/tools) out of the translation; its shape is that of the kit print.
import Derived.Test.YtfpmeahdfipeeaaDoorPFnUtf8Cutx0
import Derived.Test.YtfpmeahdfipeeaaDoorPFnUtf8Cutx3
import Derived.Test.YtfpmeahdfipeeaaDoorPFnUtf8Cutx4
namespace Go.Proofs.YtfpmeahdfipeeaaDoor.PFnUtf8Cut
open Go.RowKit Go.Proofs.YtfpmeahdfipeeaaDoorW.PrintWords Go.Proofs.YtfpmeahdfipeeaaDoorW.PrintLast Go.Proofs.YtfpmeahdfipeeaaDoorW.PrintMore
attribute [local go_sem] max2_int min2_int max_two min_two max_three min_three max_four min_four   -- for this text's walks alone
set_option linter.unusedVariables false
set_option linter.unusedSimpArgs false

/-! ### laws_FnUtf8Cut: function 3 -/
mutual
def laws_FnUtf8Cut.j0 : Nat → List Int → List Int → Bool → Option (Bool)
  | 0, _, _, _ => none
  | k + 1, x0, x1, x25 => if x25 = true then (some true) else ((spec_DrawUtf8Get.f k x0).bind fun t247 => ((spec_DrawUtf8Get.f k x1).bind fun t248 => ((impl_Utf8Get.f k t247).bind fun bt249 => ((impl_Utf8Get.f k t248).bind fun bt253 => ((spec_Utf8Get.f k t247).bind fun bt257 => (if (bt249.2 != bt257.2) = true then (laws_FnUtf8Cut.j1 k t247 t248 bt249.1 bt249.2 bt253.1 bt257.1 bt257.2 true) else ((laws_wcInts.f k bt249.1 bt257.1).bind fun t261 => (if t261 = true then (if bt249.2 = true then (if bt253.2 = true then (laws_FnUtf8Cut.j1 k t247 t248 bt249.1 bt249.2 bt253.1 bt257.1 bt257.2 (decide ((wrap64 ((bt249.1.length : Int) + (bt253.1.length : Int))) > 80))) else (laws_FnUtf8Cut.j1 k t247 t248 bt249.1 bt249.2 bt253.1 bt257.1 bt257.2 true)) else (laws_FnUtf8Cut.j1 k t247 t248 bt249.1 bt249.2 bt253.1 bt257.1 bt257.2 true)) else (laws_FnUtf8Cut.j1 k t247 t248 bt249.1 bt249.2 bt253.1 bt257.1 bt257.2 true)))))))))
def laws_FnUtf8Cut.j1 : Nat → ByteArray → ByteArray → List Int → Bool → List Int → List Int → Bool → Bool → Option (Bool)
  | 0, _, _, _, _, _, _, _, _ => none
  | k + 1, x5, x6, x7, x8, x9, x11, x12, x69 => if x69 = true then (if (x8 == x12) = true then ((laws_wcInts.f k x7 x11).bind fun t262 => (some t262)) else (some false)) else (if x5.size + x6.size ≤ 9223372036854775807 then ((impl_Utf8Get.f k (x5 ++ x6)).bind fun bt263 => (laws_FnUtf8Cut.l0 k x5 x7 x9 bt263.1 bt263.2 0)) else (none))
def laws_FnUtf8Cut.l0 : Nat → ByteArray → List Int → List Int → List Int → Bool → Int → Option (Bool)
  | 0, _, _, _, _, _, _ => none
  | k + 1, x5, x7, x9, x13, x14, x15 => if x15 < (x5.size : Int) then (if 0 ≤ x15 then (if (bt x5 x15) ≥ 128 then (laws_FnUtf8Cut.j3 k x5 x7 x9 x13 x14 x15 (decide ((bt x5 x15) < 192))) else (laws_FnUtf8Cut.j3 k x5 x7 x9 x13 x14 x15 false)) else (none)) else (if x14 = true then (if 0 ≤ (x7.length : Int) then (if (x7.length : Int) ≤ (x13.length : Int) then ((laws_wcInts.f k (x13.take ((x7.length : Int) : Int).toNat) x7).bind fun t271 => (if t271 = true then ((laws_wcInts.f k (x13.drop ((x7.length : Int) : Int).toNat) x9).bind fun t276 => (some t276)) else (some false))) else (none)) else (none)) else (some false))
def laws_FnUtf8Cut.j3 : Nat → ByteArray → List Int → List Int → List Int → Bool → Int → Bool → Option (Bool)
  | 0, _, _, _, _, _, _, _ => none
  | k + 1, x5, x7, x9, x13, x14, x15, x100 => if x100 = true then (if 0 ≤ x15 then (if x15 ≤ (x5.size : Int) then ((impl_Utf8Get.f k (x5.extract 0 (x15 : Int).toNat)).bind fun bt277 => (if bt277.2 = true then (some false) else (laws_FnUtf8Cut.l0 k x5 x7 x9 x13 x14 (wrap64 (x15 + 1))))) else (none)) else (none)) else (laws_FnUtf8Cut.l0 k x5 x7 x9 x13 x14 (wrap64 (x15 + 1)))
end
def laws_FnUtf8Cut.f (k : Nat) (l0 : List Int) (l1 : List Int) : Option (Bool) := if (l0.length : Int) > 1048576 then (laws_FnUtf8Cut.j0 k l0 l1 true) else (laws_FnUtf8Cut.j0 k l0 l1 (decide ((l1.length : Int) > 1048576)))
theorem laws_FnUtf8Cut.mono_l : ∀ k, (∀ y0 y1 y2, LeO (laws_FnUtf8Cut.j0 k y0 y1 y2) (laws_FnUtf8Cut.j0 (k + 1) y0 y1 y2)) ∧ (∀ y0 y1 y2 y3 y4 y5 y6 y7, LeO (laws_FnUtf8Cut.j1 k y0 y1 y2 y3 y4 y5 y6 y7) (laws_FnUtf8Cut.j1 (k + 1) y0 y1 y2 y3 y4 y5 y6 y7)) ∧ (∀ y0 y1 y2 y3 y4 y5, LeO (laws_FnUtf8Cut.l0 k y0 y1 y2 y3 y4 y5) (laws_FnUtf8Cut.l0 (k + 1) y0 y1 y2 y3 y4 y5)) ∧ (∀ y0 y1 y2 y3 y4 y5 y6, LeO (laws_FnUtf8Cut.j3 k y0 y1 y2 y3 y4 y5 y6) (laws_FnUtf8Cut.j3 (k + 1) y0 y1 y2 y3 y4 y5 y6))
  | 0 => ⟨fun _ _ _ r h => by simp [laws_FnUtf8Cut.j0] at h, fun _ _ _ _ _ _ _ _ r h => by simp [laws_FnUtf8Cut.j1] at h, fun _ _ _ _ _ _ r h => by simp [laws_FnUtf8Cut.l0] at h, fun _ _ _ _ _ _ _ r h => by simp [laws_FnUtf8Cut.j3] at h⟩
  | k + 1 => by
    obtain ⟨ih0, ih1, ih2, ih3⟩ := laws_FnUtf8Cut.mono_l k
    refine ⟨?_, ?_, ?_, ?_⟩
    · intro y0 y1 y2
      unfold laws_FnUtf8Cut.j0
      repeat' first
      | (with_reducible exact ih0 _ _ _)
      | (with_reducible exact ih1 _ _ _ _ _ _ _ _)
      | (with_reducible exact ih2 _ _ _ _ _ _)
      | (with_reducible exact ih3 _ _ _ _ _ _ _)
      | (with_reducible exact impl_Utf8Get.mono _ _)
      | (with_reducible exact laws_wcInts.mono _ _ _)
      | (with_reducible exact spec_DrawUtf8Get.mono _ _)
      | (with_reducible exact spec_Utf8Get.mono _ _)
      | (with_reducible exact LeO.refl _)
      | (with_reducible exact LeO.none _)
      | (with_reducible refine LeO.ite ?_ ?_)
      | (with_reducible refine LeO.bind ?_ (fun _ => ?_))
      | exact ih0 _ _ _
      | exact ih1 _ _ _ _ _ _ _ _
      | exact ih2 _ _ _ _ _ _
      | exact ih3 _ _ _ _ _ _ _
      | exact impl_Utf8Get.mono _ _
      | exact laws_wcInts.mono _ _ _
      | exact spec_DrawUtf8Get.mono _ _
      | exact spec_Utf8Get.mono _ _
      | exact LeO.none _
      | refine LeO.ite ?_ ?_
      | refine LeO.bind ?_ (fun _ => ?_)
    · intro y0 y1 y2 y3 y4 y5 y6 y7
      unfold laws_FnUtf8Cut.j1
      repeat' first
      | (with_reducible exact ih0 _ _ _)
      | (with_reducible exact ih1 _ _ _ _ _ _ _ _)
      | (with_reducible exact ih2 _ _ _ _ _ _)
      | (with_reducible exact ih3 _ _ _ _ _ _ _)
      | (with_reducible exact impl_Utf8Get.mono _ _)
      | (with_reducible exact laws_wcInts.mono _ _ _)
      | (with_reducible exact spec_DrawUtf8Get.mono _ _)
      | (with_reducible exact spec_Utf8Get.mono _ _)
      | (with_reducible exact LeO.refl _)
      | (with_reducible exact LeO.none _)
      | (with_reducible refine LeO.ite ?_ ?_)
      | (with_reducible refine LeO.bind ?_ (fun _ => ?_))
      | exact ih0 _ _ _
      | exact ih1 _ _ _ _ _ _ _ _
      | exact ih2 _ _ _ _ _ _
      | exact ih3 _ _ _ _ _ _ _
      | exact impl_Utf8Get.mono _ _
      | exact laws_wcInts.mono _ _ _
      | exact spec_DrawUtf8Get.mono _ _
      | exact spec_Utf8Get.mono _ _
      | exact LeO.none _
      | refine LeO.ite ?_ ?_
      | refine LeO.bind ?_ (fun _ => ?_)
    · intro y0 y1 y2 y3 y4 y5
      unfold laws_FnUtf8Cut.l0
      repeat' first
      | (with_reducible exact ih0 _ _ _)
      | (with_reducible exact ih1 _ _ _ _ _ _ _ _)
      | (with_reducible exact ih2 _ _ _ _ _ _)
      | (with_reducible exact ih3 _ _ _ _ _ _ _)
      | (with_reducible exact impl_Utf8Get.mono _ _)
      | (with_reducible exact laws_wcInts.mono _ _ _)
      | (with_reducible exact spec_DrawUtf8Get.mono _ _)
      | (with_reducible exact spec_Utf8Get.mono _ _)
      | (with_reducible exact LeO.refl _)
      | (with_reducible exact LeO.none _)
      | (with_reducible refine LeO.ite ?_ ?_)
      | (with_reducible refine LeO.bind ?_ (fun _ => ?_))
      | exact ih0 _ _ _
      | exact ih1 _ _ _ _ _ _ _ _
      | exact ih2 _ _ _ _ _ _
      | exact ih3 _ _ _ _ _ _ _
      | exact impl_Utf8Get.mono _ _
      | exact laws_wcInts.mono _ _ _
      | exact spec_DrawUtf8Get.mono _ _
      | exact spec_Utf8Get.mono _ _
      | exact LeO.none _
      | refine LeO.ite ?_ ?_
      | refine LeO.bind ?_ (fun _ => ?_)
    · intro y0 y1 y2 y3 y4 y5 y6
      unfold laws_FnUtf8Cut.j3
      repeat' first
      | (with_reducible exact ih0 _ _ _)
      | (with_reducible exact ih1 _ _ _ _ _ _ _ _)
      | (with_reducible exact ih2 _ _ _ _ _ _)
      | (with_reducible exact ih3 _ _ _ _ _ _ _)
      | (with_reducible exact impl_Utf8Get.mono _ _)
      | (with_reducible exact laws_wcInts.mono _ _ _)
      | (with_reducible exact spec_DrawUtf8Get.mono _ _)
      | (with_reducible exact spec_Utf8Get.mono _ _)
      | (with_reducible exact LeO.refl _)
      | (with_reducible exact LeO.none _)
      | (with_reducible refine LeO.ite ?_ ?_)
      | (with_reducible refine LeO.bind ?_ (fun _ => ?_))
      | exact ih0 _ _ _
      | exact ih1 _ _ _ _ _ _ _ _
      | exact ih2 _ _ _ _ _ _
      | exact ih3 _ _ _ _ _ _ _
      | exact impl_Utf8Get.mono _ _
      | exact laws_wcInts.mono _ _ _
      | exact spec_DrawUtf8Get.mono _ _
      | exact spec_Utf8Get.mono _ _
      | exact LeO.none _
      | refine LeO.ite ?_ ?_
      | refine LeO.bind ?_ (fun _ => ?_)
theorem laws_FnUtf8Cut.mono : ∀ a0 a1 k, LeO (laws_FnUtf8Cut.f k a0 a1) (laws_FnUtf8Cut.f (k + 1) a0 a1) := by
  intro a0 a1 k
  obtain ⟨ih0, ih1, ih2, ih3⟩ := laws_FnUtf8Cut.mono_l k
  unfold laws_FnUtf8Cut.f
  repeat' first
      | (with_reducible exact ih0 _ _ _)
      | (with_reducible exact ih1 _ _ _ _ _ _ _ _)
      | (with_reducible exact ih2 _ _ _ _ _ _)
      | (with_reducible exact ih3 _ _ _ _ _ _ _)
      | (with_reducible exact impl_Utf8Get.mono _ _)
      | (with_reducible exact laws_wcInts.mono _ _ _)
      | (with_reducible exact spec_DrawUtf8Get.mono _ _)
      | (with_reducible exact spec_Utf8Get.mono _ _)
      | (with_reducible exact LeO.refl _)
      | (with_reducible exact LeO.none _)
      | (with_reducible refine LeO.ite ?_ ?_)
      | (with_reducible refine LeO.bind ?_ (fun _ => ?_))
      | exact ih0 _ _ _
      | exact ih1 _ _ _ _ _ _ _ _
      | exact ih2 _ _ _ _ _ _
      | exact ih3 _ _ _ _ _ _ _
      | exact impl_Utf8Get.mono _ _
      | exact laws_wcInts.mono _ _ _
      | exact spec_DrawUtf8Get.mono _ _
      | exact spec_Utf8Get.mono _ _
      | exact LeO.none _
      | refine LeO.ite ?_ ?_
      | refine LeO.bind ?_ (fun _ => ?_)
set_option maxHeartbeats 8000000 in
set_option maxRecDepth 100000 in
theorem laws_FnUtf8Cut.calls (k : Nat) (A0 : Option Addr) (c0 : Nat) (l0 : List Int) (A1 : Option Addr) (c1 : Nat) (l1 : List Int) (r : Bool) (w : World) (hr0 : Kd.C (Kd.int .u8) w A0 l0.length l0) (hc0 : l0.length ≤ c0) (hr1 : Kd.C (Kd.int .u8) w A1 l1.length l1) (hc1 : l1.length ≤ c1) (hT : Lib.Utf8Tabs (Tryd.laysDecode_ren.g 3) (Tryd.laysDecode_ren.g 4) w) (h : laws_FnUtf8Cut.f k l0 l1 = some r) :
    Calls Tryd.prog 3 #[.slice A0 l0.length c0, .slice A1 l1.length c1] w fun e w' => e = .returned (.bool r) ∧ Below w.heap.size w w' := by
  have HR0 := Aside0.mk hr0
  have HC0 := Aside0.mk hc0
  clear hr0 hc0
  have HR1 := Aside0.mk hr1
  have HC1 := Aside0.mk hc1
  clear hr1 hc1
  have HB := Aside0.mk (Below.refl w.heap.size w)
  have HTB := Aside0.mk hT
  clear hT
  have H : (if (l0.length : Int) > 1048576 then (laws_FnUtf8Cut.j0 k l0 l1 true) else (laws_FnUtf8Cut.j0 k l0 l1 (decide ((l1.length : Int) > 1048576)))) = some r := h
  clear h
  have HC3 := Aside0.mk H
  clear H
  go_enter Tryd.func3, Tryd.ntmps3
  go_upto_region 1 with (fail)
  go_cut [25] (fun v25 wc => ∃ (kq : Nat) (x25_2 : Bool), v25 = .bool x25_2 ∧ Aside0 (laws_FnUtf8Cut.j0 kq l0 l1 x25_2 = some r) ∧ Aside0 (kq ≤ k) ∧ Aside0 (Below w.heap.size w wc))
  case first =>
    have H := HC3.out
    clear HC3
    by_cases c4 : (l0.length : Int) > 1048576
    · rw [if_pos c4] at H
      have c4b0 : decide (1048576 < (l0.length : Int)) = true := decide_eq_true c4
      have c4b1 : decide (1048576 < l0.length) = true := decide_eq_true (by omega)
      clear c4
      (first | rw [c4b0] | (simp only [i64_w, i32_w]; rw [c4b0]) | skip)
      have H' := Aside0.mk H
      clear H
      go_wp2
      go_meet
      case rel => exact ⟨_, (true), (by first | rfl | (simp; done) | (simp [*]; done)), H', ⟨by first | omega | exact Nat.le_refl _⟩, ⟨by repeat (first | (with_reducible first | exact HB.out | apply below_alloc | apply pw_below_drewN | apply below_drew1) | exact HB.out)⟩⟩
    · rw [if_neg c4] at H
      have c4b0 : decide (1048576 < (l0.length : Int)) = false := decide_eq_false c4
      have c4b1 : decide (1048576 < l0.length) = false := decide_eq_false (by omega)
      clear c4
      (first | rw [c4b0] | (simp only [i64_w, i32_w]; rw [c4b0]) | skip)
      have H' := Aside0.mk H
      clear H
      go_wp2
      go_meet
      case rel => exact ⟨_, (decide ((l1.length : Int) > 1048576)), (by first | rfl | (simp; done) | (simp [*]; done)), H', ⟨by first | omega | exact Nat.le_refl _⟩, ⟨by repeat (first | (with_reducible first | exact HB.out | apply below_alloc | apply pw_below_drewN | apply below_drew1) | exact HB.out)⟩⟩
  case rest =>
    clear HC3
    try clear c1
    try clear p2
    try clear c3
    try clear c4
    try clear c4b0
    try clear c4b1
    obtain ⟨kq, x25_2, rfl, HA, HJ2, HB⟩ := hcut
    cases kq with
    | zero => exact absurd HA.out (by simp [laws_FnUtf8Cut.j0])
    | succ kj2 =>
      have H := HA.out
      clear HA
      simp only [laws_FnUtf8Cut.j0] at H
      by_cases c5 : x25_2 = true
      · subst c5
        have H1 : (some true) = some r := by rw [if_pos rfl] at H; exact H
        clear H
        have H := H1
        clear H1
        obtain rfl := Option.some.inj H
        go_wp2
        go_ret
        exact ⟨by first | rfl | (simp [errW_none, errW_some] <;> rfl) | (simp [*, errW_none, errW_some] <;> rfl), by repeat (first | (with_reducible first | exact HB.out | apply below_alloc | apply pw_below_drewN | apply below_drew1) | exact HB.out)⟩
      · replace c5 := Bool.eq_false_iff.mpr c5
        subst c5
        have H1 : ((spec_DrawUtf8Get.f kj2 l0).bind fun t247 => ((spec_DrawUtf8Get.f kj2 l1).bind fun t248 => ((impl_Utf8Get.f kj2 t247).bind fun bt249 => ((impl_Utf8Get.f kj2 t248).bind fun bt253 => ((spec_Utf8Get.f kj2 t247).bind fun bt257 => (if (bt249.2 != bt257.2) = true then (laws_FnUtf8Cut.j1 kj2 t247 t248 bt249.1 bt249.2 bt253.1 bt257.1 bt257.2 true) else ((laws_wcInts.f kj2 bt249.1 bt257.1).bind fun t261 => (if t261 = true then (if bt249.2 = true then (if bt253.2 = true then (laws_FnUtf8Cut.j1 kj2 t247 t248 bt249.1 bt249.2 bt253.1 bt257.1 bt257.2 (decide ((wrap64 ((bt249.1.length : Int) + (bt253.1.length : Int))) > 80))) else (laws_FnUtf8Cut.j1 kj2 t247 t248 bt249.1 bt249.2 bt253.1 bt257.1 bt257.2 true)) else (laws_FnUtf8Cut.j1 kj2 t247 t248 bt249.1 bt249.2 bt253.1 bt257.1 bt257.2 true)) else (laws_FnUtf8Cut.j1 kj2 t247 t248 bt249.1 bt249.2 bt253.1 bt257.1 bt257.2 true))))))))) = some r := by rw [if_neg (show ¬ (false = true) by decide)] at H; exact H
        clear H
        have H := H1
        clear H1
        replace H := Option.bind_eq_some_iff.mp H
        obtain ⟨t247, A60, H⟩ := H
        replace H : ((spec_DrawUtf8Get.f kj2 l1).bind fun t248 => ((impl_Utf8Get.f kj2 t247).bind fun bt249 => ((impl_Utf8Get.f kj2 t248).bind fun bt253 => ((spec_Utf8Get.f kj2 t247).bind fun bt257 => (if (bt249.2 != bt257.2) = true then (laws_FnUtf8Cut.j1 kj2 t247 t248 bt249.1 bt249.2 bt253.1 bt257.1 bt257.2 true) else ((laws_wcInts.f kj2 bt249.1 bt257.1).bind fun t261 => (if t261 = true then (if bt249.2 = true then (if bt253.2 = true then (laws_FnUtf8Cut.j1 kj2 t247 t248 bt249.1 bt249.2 bt253.1 bt257.1 bt257.2 (decide ((wrap64 ((bt249.1.length : Int) + (bt253.1.length : Int))) > 80))) else (laws_FnUtf8Cut.j1 kj2 t247 t248 bt249.1 bt249.2 bt253.1 bt257.1 bt257.2 true)) else (laws_FnUtf8Cut.j1 kj2 t247 t248 bt249.1 bt249.2 bt253.1 bt257.1 bt257.2 true)) else (laws_FnUtf8Cut.j1 kj2 t247 t248 bt249.1 bt249.2 bt253.1 bt257.1 bt257.2 true)))))))) = some r := H
        have A6 := Aside0.mk A60
        clear A60
        replace H := Option.bind_eq_some_iff.mp H
        obtain ⟨t248, A70, H⟩ := H
        replace H : ((impl_Utf8Get.f kj2 t247).bind fun bt249 => ((impl_Utf8Get.f kj2 t248).bind fun bt253 => ((spec_Utf8Get.f kj2 t247).bind fun bt257 => (if (bt249.2 != bt257.2) = true then (laws_FnUtf8Cut.j1 kj2 t247 t248 bt249.1 bt249.2 bt253.1 bt257.1 bt257.2 true) else ((laws_wcInts.f kj2 bt249.1 bt257.1).bind fun t261 => (if t261 = true then (if bt249.2 = true then (if bt253.2 = true then (laws_FnUtf8Cut.j1 kj2 t247 t248 bt249.1 bt249.2 bt253.1 bt257.1 bt257.2 (decide ((wrap64 ((bt249.1.length : Int) + (bt253.1.length : Int))) > 80))) else (laws_FnUtf8Cut.j1 kj2 t247 t248 bt249.1 bt249.2 bt253.1 bt257.1 bt257.2 true)) else (laws_FnUtf8Cut.j1 kj2 t247 t248 bt249.1 bt249.2 bt253.1 bt257.1 bt257.2 true)) else (laws_FnUtf8Cut.j1 kj2 t247 t248 bt249.1 bt249.2 bt253.1 bt257.1 bt257.2 true))))))) = some r := H
        have A7 := Aside0.mk A70
        clear A70
        replace H := Option.bind_eq_some_iff.mp H
        obtain ⟨⟨t249, t250⟩, A80, H⟩ := H
        replace H : ((impl_Utf8Get.f kj2 t248).bind fun bt253 => ((spec_Utf8Get.f kj2 t247).bind fun bt257 => (if (t250 != bt257.2) = true then (laws_FnUtf8Cut.j1 kj2 t247 t248 t249 t250 bt253.1 bt257.1 bt257.2 true) else ((laws_wcInts.f kj2 t249 bt257.1).bind fun t261 => (if t261 = true then (if t250 = true then (if bt253.2 = true then (laws_FnUtf8Cut.j1 kj2 t247 t248 t249 t250 bt253.1 bt257.1 bt257.2 (decide ((wrap64 ((t249.length : Int) + (bt253.1.length : Int))) > 80))) else (laws_FnUtf8Cut.j1 kj2 t247 t248 t249 t250 bt253.1 bt257.1 bt257.2 true)) else (laws_FnUtf8Cut.j1 kj2 t247 t248 t249 t250 bt253.1 bt257.1 bt257.2 true)) else (laws_FnUtf8Cut.j1 kj2 t247 t248 t249 t250 bt253.1 bt257.1 bt257.2 true)))))) = some r := H
        have A8 := Aside0.mk A80
        clear A80
        replace H := Option.bind_eq_some_iff.mp H
        obtain ⟨⟨t253, t254⟩, A90, H⟩ := H
        replace H : ((spec_Utf8Get.f kj2 t247).bind fun bt257 => (if (t250 != bt257.2) = true then (laws_FnUtf8Cut.j1 kj2 t247 t248 t249 t250 t253 bt257.1 bt257.2 true) else ((laws_wcInts.f kj2 t249 bt257.1).bind fun t261 => (if t261 = true then (if t250 = true then (if t254 = true then (laws_FnUtf8Cut.j1 kj2 t247 t248 t249 t250 t253 bt257.1 bt257.2 (decide ((wrap64 ((t249.length : Int) + (t253.length : Int))) > 80))) else (laws_FnUtf8Cut.j1 kj2 t247 t248 t249 t250 t253 bt257.1 bt257.2 true)) else (laws_FnUtf8Cut.j1 kj2 t247 t248 t249 t250 t253 bt257.1 bt257.2 true)) else (laws_FnUtf8Cut.j1 kj2 t247 t248 t249 t250 t253 bt257.1 bt257.2 true))))) = some r := H
        have A9 := Aside0.mk A90
        clear A90
        replace H := Option.bind_eq_some_iff.mp H
        obtain ⟨⟨t257, t258⟩, A100, H⟩ := H
        replace H : (if (t250 != t258) = true then (laws_FnUtf8Cut.j1 kj2 t247 t248 t249 t250 t253 t257 t258 true) else ((laws_wcInts.f kj2 t249 t257).bind fun t261 => (if t261 = true then (if t250 = true then (if t254 = true then (laws_FnUtf8Cut.j1 kj2 t247 t248 t249 t250 t253 t257 t258 (decide ((wrap64 ((t249.length : Int) + (t253.length : Int))) > 80))) else (laws_FnUtf8Cut.j1 kj2 t247 t248 t249 t250 t253 t257 t258 true)) else (laws_FnUtf8Cut.j1 kj2 t247 t248 t249 t250 t253 t257 t258 true)) else (laws_FnUtf8Cut.j1 kj2 t247 t248 t249 t250 t253 t257 t258 true)))) = some r := H
        have A10 := Aside0.mk A100
        clear A100
        have HC11 := Aside0.mk H
        clear H
        go_upto_region 8 with (first | ((with_reducible refine gate_callee (f := 5) rfl ?_); refine goesL_ (some 27) rfl rfl Tryd.func5 (by kernel_rfl) rfl #[.slice A0 l0.length c0] rfl (by (try simp only [List.map_toArray, List.map_cons, List.map_nil]); first | done | rfl | (simp only [List.length_drop, List.length_take]; rfl)) ?_; (with_reducible refine (spec_DrawUtf8Get.calls kj2 _ _ l0 t247 _ ?side1 ?side2 A6.out).mono ?_); (case side1 => repeat (first | exact (Kd.C_below HR0.out HB.out) | (with_reducible refine Kd.C_alloc ?_ _) | (with_reducible refine Kd.C_drewN ?_ _) | (with_reducible refine Kd.C_drew ?_))); (case side2 => exact HC0.out); rintro e w12 ⟨rfl, hb⟩; refine ⟨_, rfl, ?_⟩; have n0_ := Aside0.mk (below_step (by repeat (first | (with_reducible first | exact HB.out | apply below_alloc | apply pw_below_drewN | apply below_drew1) | exact HB.out)) hb); clear HB; have HB := n0_; clear n0_; (try clear hb); (try clear hb2); (try clear hk); (try clear hi)) | ((with_reducible refine gate_callee (f := 5) rfl ?_); refine goesL_ (some 29) rfl rfl Tryd.func5 (by kernel_rfl) rfl #[.slice A1 l1.length c1] rfl (by (try simp only [List.map_toArray, List.map_cons, List.map_nil]); first | done | rfl | (simp only [List.length_drop, List.length_take]; rfl)) ?_; (with_reducible refine (spec_DrawUtf8Get.calls kj2 _ _ l1 t248 _ ?side1 ?side2 A7.out).mono ?_); (case side1 => repeat (first | exact (Kd.C_below HR1.out HB.out) | (with_reducible refine Kd.C_alloc ?_ _) | (with_reducible refine Kd.C_drewN ?_ _) | (with_reducible refine Kd.C_drew ?_))); (case side2 => exact HC1.out); rintro e w13 ⟨rfl, hb⟩; refine ⟨_, rfl, ?_⟩; have n0_ := Aside0.mk (below_step (by repeat (first | (with_reducible first | exact HB.out | apply below_alloc | apply pw_below_drewN | apply below_drew1) | exact HB.out)) hb); clear HB; have HB := n0_; clear n0_; (try clear hb); (try clear hb2); (try clear hk); (try clear hi)) | ((with_reducible refine gate_callee (f := 6) rfl ?_); refine goesL_ (some 32) rfl rfl Tryd.func6 (by kernel_rfl) rfl #[.string t247] rfl (by (try simp only [List.map_toArray, List.map_cons, List.map_nil]); first | done | rfl | (simp only [List.length_drop, List.length_take]; rfl)) ?_; (with_reducible refine (impl_Utf8Get.calls kj2 t247 t249 t250 _ (Utf8Tabs_below HTB.out (by repeat (first | (with_reducible first | exact HB.out | apply below_alloc | apply pw_below_drewN | apply below_drew1) | exact HB.out))) A8.out).mono ?_); rintro e w14 ⟨v251, rfl, ho0, hb⟩; refine ⟨_, rfl, ?_⟩; have n0_ := Aside0.mk (Kd.R_lower ho0 (below_size (by repeat (first | (with_reducible first | exact HB.out | apply below_alloc | apply pw_below_drewN | apply below_drew1) | exact HB.out)))); have n1_ := Aside0.mk (below_step (by repeat (first | (with_reducible first | exact HB.out | apply below_alloc | apply pw_below_drewN | apply below_drew1) | exact HB.out)) hb); clear HB; have HO252 := n0_; have HB := n1_; clear n0_ n1_; (try clear hb); (try clear hb2); (try clear hk); (try clear hi); (try clear ho0)) | ((with_reducible refine gate_callee (f := 6) rfl ?_); refine goesL_ (some 37) rfl rfl Tryd.func6 (by kernel_rfl) rfl #[.string t248] rfl (by (try simp only [List.map_toArray, List.map_cons, List.map_nil]); first | done | rfl | (simp only [List.length_drop, List.length_take]; rfl)) ?_; (with_reducible refine (impl_Utf8Get.calls kj2 t248 t253 t254 _ (Utf8Tabs_below HTB.out (by repeat (first | (with_reducible first | exact HB.out | apply below_alloc | apply pw_below_drewN | apply below_drew1) | exact HB.out))) A9.out).mono ?_); rintro e w15 ⟨v255, rfl, ho0, hb⟩; refine ⟨_, rfl, ?_⟩; have n0_ := Aside0.mk (Kd.R_elder' (by (with_reducible repeat (first | apply Kd.R_alloc | apply Kd.R_drewN | apply Kd.R_drew)); exact HO252.out) (Kd.R_base ho0) hb); have n1_ := Aside0.mk (Kd.R_lower (Kd.R_new' ho0 (Kd.R_lt (by (with_reducible repeat (first | apply Kd.R_alloc | apply Kd.R_drewN | apply Kd.R_drew)); exact HO252.out))) (below_size (by repeat (first | (with_reducible first | exact HB.out | apply below_alloc | apply pw_below_drewN | apply below_drew1) | exact HB.out)))); have n2_ := Aside0.mk (below_step (by repeat (first | (with_reducible first | exact HB.out | apply below_alloc | apply pw_below_drewN | apply below_drew1) | exact HB.out)) hb); clear HO252; clear HB; have HO252 := n0_; have HO256 := n1_; have HB := n2_; clear n0_ n1_ n2_; (try clear hb); (try clear hb2); (try clear hk); (try clear hi); (try clear ho0)) | ((with_reducible refine gate_callee (f := 7) rfl ?_); refine goesL_ (some 42) rfl rfl Tryd.func7 (by kernel_rfl) rfl #[.string t247] rfl (by (try simp only [List.map_toArray, List.map_cons, List.map_nil]); first | done | rfl | (simp only [List.length_drop, List.length_take]; rfl)) ?_; (with_reducible refine (spec_Utf8Get.calls kj2 t247 t257 t258 _ A10.out).mono ?_); rintro e w16 ⟨v259, rfl, ho0, hb⟩; refine ⟨_, rfl, ?_⟩; have n0_ := Aside0.mk (Kd.R_elder' (by (with_reducible repeat (first | apply Kd.R_alloc | apply Kd.R_drewN | apply Kd.R_drew)); exact HO252.out) (Kd.R_base ho0) hb); have n1_ := Aside0.mk (Kd.R_elder' (by (with_reducible repeat (first | apply Kd.R_alloc | apply Kd.R_drewN | apply Kd.R_drew)); exact HO256.out) (Kd.R_base ho0) hb); have n2_ := Aside0.mk (Kd.R_lower (Kd.R_new' (Kd.R_new' ho0 (Kd.R_lt (by (with_reducible repeat (first | apply Kd.R_alloc | apply Kd.R_drewN | apply Kd.R_drew)); exact HO252.out))) (Kd.R_lt (by (with_reducible repeat (first | apply Kd.R_alloc | apply Kd.R_drewN | apply Kd.R_drew)); exact HO256.out))) (below_size (by repeat (first | (with_reducible first | exact HB.out | apply below_alloc | apply pw_below_drewN | apply below_drew1) | exact HB.out)))); have n3_ := Aside0.mk (below_step (by repeat (first | (with_reducible first | exact HB.out | apply below_alloc | apply pw_below_drewN | apply below_drew1) | exact HB.out)) hb); clear HO252; clear HO256; clear HB; have HO252 := n0_; have HO256 := n1_; have HO260 := n2_; have HB := n3_; clear n0_ n1_ n2_ n3_; (try clear hb); (try clear hb2); (try clear hk); (try clear hi); (try clear ho0)))
        (try simp only [Act.put, List.setIfInBounds_toArray, List.set_cons_zero, List.set_cons_succ])
        go_cut [69] (fun v69 wc => ∃ (kq : Nat) (x69_10 : Bool), v69 = .bool x69_10 ∧ Aside0 (laws_FnUtf8Cut.j1 kq t247 t248 t249 t250 t253 t257 t258 x69_10 = some r) ∧ Aside0 (kq ≤ kj2) ∧ Aside0 (Kd.R (Kd.int .i64) 3 wc w.heap.size (fun k_ => some k_ ≠ (v255 : Value).ownBlock ∧ some k_ ≠ (v259 : Value).ownBlock) v251 t249) ∧ Aside0 (Kd.R (Kd.int .i64) 3 wc w.heap.size (fun k_ => some k_ ≠ (v251 : Value).ownBlock ∧ some k_ ≠ (v259 : Value).ownBlock) v255 t253) ∧ Aside0 (Kd.R (Kd.int .i64) 3 wc w.heap.size (fun k_ => some k_ ≠ (v251 : Value).ownBlock ∧ some k_ ≠ (v255 : Value).ownBlock) v259 t257) ∧ Aside0 (Below w.heap.size w wc))
        case first =>
          have H := HC11.out
          clear HC11
          by_cases c17 : (t250 != t258) = true
          · rw [if_pos c17] at H
            have c17b0 : (t250 != t258) = true := c17
            (try (have c17b1 : decide (t250 = t258) = false := by simpa using c17))
            (try (have c17b2 : (t250 == t258) = false := by simpa using c17))
            (try (have c17b3 : ¬ (t250 = t258) := by simpa using c17))
            clear c17
            (first | rw [c17b0] | (simp only [i64_w, i32_w]; rw [c17b0]) | skip)
            have H' := Aside0.mk H
            clear H
            go_wp2
            go_meet
            case rel => exact ⟨_, (true), (by first | rfl | (simp; done) | (simp [*]; done)), H', ⟨by have := HJ2.out; first | omega | exact Nat.le_refl _⟩, ⟨by (with_reducible repeat (first | apply Kd.R_alloc | apply Kd.R_drewN | apply Kd.R_drew)); exact Kd.R_mono HO252.out (fun _ hk => ⟨hk.1.2, hk.2⟩)⟩, ⟨by (with_reducible repeat (first | apply Kd.R_alloc | apply Kd.R_drewN | apply Kd.R_drew)); exact Kd.R_mono HO256.out (fun _ hk => ⟨hk.1.2, hk.2⟩)⟩, ⟨by (with_reducible repeat (first | apply Kd.R_alloc | apply Kd.R_drewN | apply Kd.R_drew)); exact Kd.R_mono HO260.out (fun _ hk => ⟨hk.1.2, hk.2⟩)⟩, ⟨by repeat (first | (with_reducible first | exact HB.out | apply below_alloc | apply pw_below_drewN | apply below_drew1) | exact HB.out)⟩⟩
          · rw [if_neg c17] at H
            have c17b0 : (t250 != t258) = false := by simpa using c17
            (try (have c17b1 : decide (t250 = t258) = true := by simpa using c17))
            (try (have c17b2 : (t250 == t258) = true := by simpa using c17))
            clear c17
            (first | rw [c17b0] | (simp only [i64_w, i32_w]; rw [c17b0]) | skip)
            replace H := Option.bind_eq_some_iff.mp H
            obtain ⟨t261, A180, H⟩ := H
            replace H : (if t261 = true then (if t250 = true then (if t254 = true then (laws_FnUtf8Cut.j1 kj2 t247 t248 t249 t250 t253 t257 t258 (decide ((wrap64 ((t249.length : Int) + (t253.length : Int))) > 80))) else (laws_FnUtf8Cut.j1 kj2 t247 t248 t249 t250 t253 t257 t258 true)) else (laws_FnUtf8Cut.j1 kj2 t247 t248 t249 t250 t253 t257 t258 true)) else (laws_FnUtf8Cut.j1 kj2 t247 t248 t249 t250 t253 t257 t258 true)) = some r := H
            have A18 := Aside0.mk A180
            clear A180
            by_cases c19 : t261 = true
            · subst c19
              have H1 : (if t250 = true then (if t254 = true then (laws_FnUtf8Cut.j1 kj2 t247 t248 t249 t250 t253 t257 t258 (decide ((wrap64 ((t249.length : Int) + (t253.length : Int))) > 80))) else (laws_FnUtf8Cut.j1 kj2 t247 t248 t249 t250 t253 t257 t258 true)) else (laws_FnUtf8Cut.j1 kj2 t247 t248 t249 t250 t253 t257 t258 true)) = some r := by rw [if_pos rfl] at H; exact H
              clear H
              have H := H1
              clear H1
              by_cases c20 : t250 = true
              · subst c20
                have H1 : (if t254 = true then (laws_FnUtf8Cut.j1 kj2 t247 t248 t249 true t253 t257 t258 (decide ((wrap64 ((t249.length : Int) + (t253.length : Int))) > 80))) else (laws_FnUtf8Cut.j1 kj2 t247 t248 t249 true t253 t257 t258 true)) = some r := by rw [if_pos rfl] at H; exact H
                clear H
                have H := H1
                clear H1
                by_cases c21 : t254 = true
                · subst c21
                  have H1 : (laws_FnUtf8Cut.j1 kj2 t247 t248 t249 true t253 t257 t258 (decide ((wrap64 ((t249.length : Int) + (t253.length : Int))) > 80))) = some r := by rw [if_pos rfl] at H; exact H
                  clear H
                  have H := H1
                  clear H1
                  have H' := Aside0.mk H
                  clear H
                  obtain ⟨Ao22, co22, eo22⟩ := Kd.R_slice HO252.out
                  subst eo22
                  obtain ⟨Ao23, co23, eo23⟩ := Kd.R_slice HO260.out
                  subst eo23
                  go_wp2_with (first | (go_at_call 8; (with_reducible refine (laws_wcInts.calls kj2 _ _ t249 _ _ t257 true _ ?side1 ?side2 ?side3 ?side4 A18.out).mono ?_); (case side1 => repeat (first | exact (Kd.R_reads' HO252.out).2.2 | (with_reducible refine Kd.C_alloc ?_ _) | (with_reducible refine Kd.C_drewN ?_ _) | (with_reducible refine Kd.C_drew ?_))); (case side2 => exact (Kd.R_reads' HO252.out).2.1); (case side3 => repeat (first | exact (Kd.R_reads' HO260.out).2.2 | (with_reducible refine Kd.C_alloc ?_ _) | (with_reducible refine Kd.C_drewN ?_ _) | (with_reducible refine Kd.C_drew ?_))); (case side4 => exact (Kd.R_reads' HO260.out).2.1); rintro e w' ⟨rfl, ⟨nd, rfl⟩⟩; obtain ⟨Ao24, co24, eo24⟩ := Kd.R_slice HO256.out; subst eo24))
                  go_meet
                  case rel => exact ⟨_, (decide ((wrap64 ((t249.length : Int) + (t253.length : Int))) > 80)), (by first | rfl | (simp; done) | (simp [*]; done)), H', ⟨by have := HJ2.out; first | omega | exact Nat.le_refl _⟩, ⟨by (with_reducible repeat (first | apply Kd.R_alloc | apply Kd.R_drewN | apply Kd.R_drew)); exact Kd.R_mono HO252.out (fun _ hk => ⟨hk.1.2, hk.2⟩)⟩, ⟨by (with_reducible repeat (first | apply Kd.R_alloc | apply Kd.R_drewN | apply Kd.R_drew)); exact Kd.R_mono HO256.out (fun _ hk => ⟨hk.1.2, hk.2⟩)⟩, ⟨by (with_reducible repeat (first | apply Kd.R_alloc | apply Kd.R_drewN | apply Kd.R_drew)); exact Kd.R_mono HO260.out (fun _ hk => ⟨hk.1.2, hk.2⟩)⟩, ⟨by repeat (first | (with_reducible first | exact HB.out | apply below_alloc | apply pw_below_drewN | apply below_drew1) | exact HB.out)⟩⟩
                · replace c21 := Bool.eq_false_iff.mpr c21
                  subst c21
                  have H1 : (laws_FnUtf8Cut.j1 kj2 t247 t248 t249 true t253 t257 t258 true) = some r := by rw [if_neg (show ¬ (false = true) by decide)] at H; exact H
                  clear H
                  have H := H1
                  clear H1
                  have H' := Aside0.mk H
                  clear H
                  obtain ⟨Ao25, co25, eo25⟩ := Kd.R_slice HO252.out
                  subst eo25
                  obtain ⟨Ao26, co26, eo26⟩ := Kd.R_slice HO260.out
                  subst eo26
                  go_wp2_with (first | (go_at_call 8; (with_reducible refine (laws_wcInts.calls kj2 _ _ t249 _ _ t257 true _ ?side1 ?side2 ?side3 ?side4 A18.out).mono ?_); (case side1 => repeat (first | exact (Kd.R_reads' HO252.out).2.2 | (with_reducible refine Kd.C_alloc ?_ _) | (with_reducible refine Kd.C_drewN ?_ _) | (with_reducible refine Kd.C_drew ?_))); (case side2 => exact (Kd.R_reads' HO252.out).2.1); (case side3 => repeat (first | exact (Kd.R_reads' HO260.out).2.2 | (with_reducible refine Kd.C_alloc ?_ _) | (with_reducible refine Kd.C_drewN ?_ _) | (with_reducible refine Kd.C_drew ?_))); (case side4 => exact (Kd.R_reads' HO260.out).2.1); rintro e w' ⟨rfl, ⟨nd, rfl⟩⟩))
                  go_meet
                  case rel => exact ⟨_, (true), (by first | rfl | (simp; done) | (simp [*]; done)), H', ⟨by have := HJ2.out; first | omega | exact Nat.le_refl _⟩, ⟨by (with_reducible repeat (first | apply Kd.R_alloc | apply Kd.R_drewN | apply Kd.R_drew)); exact Kd.R_mono HO252.out (fun _ hk => ⟨hk.1.2, hk.2⟩)⟩, ⟨by (with_reducible repeat (first | apply Kd.R_alloc | apply Kd.R_drewN | apply Kd.R_drew)); exact Kd.R_mono HO256.out (fun _ hk => ⟨hk.1.2, hk.2⟩)⟩, ⟨by (with_reducible repeat (first | apply Kd.R_alloc | apply Kd.R_drewN | apply Kd.R_drew)); exact Kd.R_mono HO260.out (fun _ hk => ⟨hk.1.2, hk.2⟩)⟩, ⟨by repeat (first | (with_reducible first | exact HB.out | apply below_alloc | apply pw_below_drewN | apply below_drew1) | exact HB.out)⟩⟩
              · replace c20 := Bool.eq_false_iff.mpr c20
                subst c20
                have H1 : (laws_FnUtf8Cut.j1 kj2 t247 t248 t249 false t253 t257 t258 true) = some r := by rw [if_neg (show ¬ (false = true) by decide)] at H; exact H
                clear H
                have H := H1
                clear H1
                have H' := Aside0.mk H
                clear H
                obtain ⟨Ao27, co27, eo27⟩ := Kd.R_slice HO252.out
                subst eo27
                obtain ⟨Ao28, co28, eo28⟩ := Kd.R_slice HO260.out
                subst eo28
                go_wp2_with (first | (go_at_call 8; (with_reducible refine (laws_wcInts.calls kj2 _ _ t249 _ _ t257 true _ ?side1 ?side2 ?side3 ?side4 A18.out).mono ?_); (case side1 => repeat (first | exact (Kd.R_reads' HO252.out).2.2 | (with_reducible refine Kd.C_alloc ?_ _) | (with_reducible refine Kd.C_drewN ?_ _) | (with_reducible refine Kd.C_drew ?_))); (case side2 => exact (Kd.R_reads' HO252.out).2.1); (case side3 => repeat (first | exact (Kd.R_reads' HO260.out).2.2 | (with_reducible refine Kd.C_alloc ?_ _) | (with_reducible refine Kd.C_drewN ?_ _) | (with_reducible refine Kd.C_drew ?_))); (case side4 => exact (Kd.R_reads' HO260.out).2.1); rintro e w' ⟨rfl, ⟨nd, rfl⟩⟩))
                go_meet
                case rel => exact ⟨_, (true), (by first | rfl | (simp; done) | (simp [*]; done)), H', ⟨by have := HJ2.out; first | omega | exact Nat.le_refl _⟩, ⟨by (with_reducible repeat (first | apply Kd.R_alloc | apply Kd.R_drewN | apply Kd.R_drew)); exact Kd.R_mono HO252.out (fun _ hk => ⟨hk.1.2, hk.2⟩)⟩, ⟨by (with_reducible repeat (first | apply Kd.R_alloc | apply Kd.R_drewN | apply Kd.R_drew)); exact Kd.R_mono HO256.out (fun _ hk => ⟨hk.1.2, hk.2⟩)⟩, ⟨by (with_reducible repeat (first | apply Kd.R_alloc | apply Kd.R_drewN | apply Kd.R_drew)); exact Kd.R_mono HO260.out (fun _ hk => ⟨hk.1.2, hk.2⟩)⟩, ⟨by repeat (first | (with_reducible first | exact HB.out | apply below_alloc | apply pw_below_drewN | apply below_drew1) | exact HB.out)⟩⟩
            · replace c19 := Bool.eq_false_iff.mpr c19
              subst c19
              have H1 : (laws_FnUtf8Cut.j1 kj2 t247 t248 t249 t250 t253 t257 t258 true) = some r := by rw [if_neg (show ¬ (false = true) by decide)] at H; exact H
              clear H
              have H := H1
              clear H1
              have H' := Aside0.mk H
              clear H
              obtain ⟨Ao29, co29, eo29⟩ := Kd.R_slice HO252.out
              subst eo29
              obtain ⟨Ao30, co30, eo30⟩ := Kd.R_slice HO260.out
              subst eo30
              go_wp2_with (first | (go_at_call 8; (with_reducible refine (laws_wcInts.calls kj2 _ _ t249 _ _ t257 false _ ?side1 ?side2 ?side3 ?side4 A18.out).mono ?_); (case side1 => repeat (first | exact (Kd.R_reads' HO252.out).2.2 | (with_reducible refine Kd.C_alloc ?_ _) | (with_reducible refine Kd.C_drewN ?_ _) | (with_reducible refine Kd.C_drew ?_))); (case side2 => exact (Kd.R_reads' HO252.out).2.1); (case side3 => repeat (first | exact (Kd.R_reads' HO260.out).2.2 | (with_reducible refine Kd.C_alloc ?_ _) | (with_reducible refine Kd.C_drewN ?_ _) | (with_reducible refine Kd.C_drew ?_))); (case side4 => exact (Kd.R_reads' HO260.out).2.1); rintro e w' ⟨rfl, ⟨nd, rfl⟩⟩))
              go_meet
              case rel => exact ⟨_, (true), (by first | rfl | (simp; done) | (simp [*]; done)), H', ⟨by have := HJ2.out; first | omega | exact Nat.le_refl _⟩, ⟨by (with_reducible repeat (first | apply Kd.R_alloc | apply Kd.R_drewN | apply Kd.R_drew)); exact Kd.R_mono HO252.out (fun _ hk => ⟨hk.1.2, hk.2⟩)⟩, ⟨by (with_reducible repeat (first | apply Kd.R_alloc | apply Kd.R_drewN | apply Kd.R_drew)); exact Kd.R_mono HO256.out (fun _ hk => ⟨hk.1.2, hk.2⟩)⟩, ⟨by (with_reducible repeat (first | apply Kd.R_alloc | apply Kd.R_drewN | apply Kd.R_drew)); exact Kd.R_mono HO260.out (fun _ hk => ⟨hk.1.2, hk.2⟩)⟩, ⟨by repeat (first | (with_reducible first | exact HB.out | apply below_alloc | apply pw_below_drewN | apply below_drew1) | exact HB.out)⟩⟩
        case rest =>
          clear HC11
          try clear c1
          try clear c2
          try clear p2
          try clear c3
          try clear c4
          try clear c4b0
          try clear c4b1
          try clear c5
          try clear c6
          try clear p6
          try clear c7
          try clear c17
          try clear c17b0
          try clear c17b1
          try clear c17b2
          try clear c19
          try clear c20
          try clear c21
          try clear p2
          obtain ⟨kq, x69_10, rfl, HA, HJ10, HO_7, HO_9, HO_11, HB⟩ := hcut
          cases kq with
          | zero => exact absurd HA.out (by simp [laws_FnUtf8Cut.j1])
          | succ kj10 =>
            have H := HA.out
            clear HA
            simp only [laws_FnUtf8Cut.j1] at H
            by_cases c31 : x69_10 = true
            · subst c31
              have H1 : (if (t250 == t258) = true then ((laws_wcInts.f kj10 t249 t257).bind fun t262 => (some t262)) else (some false)) = some r := by rw [if_pos rfl] at H; exact H
              clear H
              have H := H1
              clear H1
              by_cases c32 : (t250 == t258) = true
              · rw [if_pos c32] at H
                have c32b0 : (t250 == t258) = true := c32
                (try (have c32b1 : decide (t250 = t258) = true := by simpa using c32))
                (try (have c32b2 : (t250 == t258) = true := by simpa using c32))
                clear c32
                replace H := Option.bind_eq_some_iff.mp H
                obtain ⟨t262, A330, H⟩ := H
                replace H : (some t262) = some r := H
                have A33 := Aside0.mk A330
                clear A330
                obtain rfl := Option.some.inj H
                obtain ⟨Ao34, co34, eo34⟩ := Kd.R_slice HO_7.out
                subst eo34
                obtain ⟨Ao35, co35, eo35⟩ := Kd.R_slice HO_11.out
                subst eo35
                go_wp2_with (first | (go_at_call 8; (with_reducible refine (laws_wcInts.calls kj10 _ _ t249 _ _ t257 t262 _ ?side1 ?side2 ?side3 ?side4 A33.out).mono ?_); (case side1 => repeat (first | exact (Kd.R_reads' HO_7.out).2.2 | (with_reducible refine Kd.C_alloc ?_ _) | (with_reducible refine Kd.C_drewN ?_ _) | (with_reducible refine Kd.C_drew ?_))); (case side2 => exact (Kd.R_reads' HO_7.out).2.1); (case side3 => repeat (first | exact (Kd.R_reads' HO_11.out).2.2 | (with_reducible refine Kd.C_alloc ?_ _) | (with_reducible refine Kd.C_drewN ?_ _) | (with_reducible refine Kd.C_drew ?_))); (case side4 => exact (Kd.R_reads' HO_11.out).2.1); rintro e w' ⟨rfl, ⟨nd, rfl⟩⟩))
                go_ret
                exact ⟨by first | rfl | (simp [errW_none, errW_some] <;> rfl) | (simp [*, errW_none, errW_some] <;> rfl), by repeat (first | (with_reducible first | exact HB.out | apply below_alloc | apply pw_below_drewN | apply below_drew1) | exact HB.out)⟩
              · rw [if_neg c32] at H
                have c32b0 : (t250 == t258) = false := by simpa using c32
                (try (have c32b1 : decide (t250 = t258) = false := by simpa using c32))
                (try (have c32b2 : (t250 == t258) = false := by simpa using c32))
                (try (have c32b3 : ¬ (t250 = t258) := by simpa using c32))
                clear c32
                obtain rfl := Option.some.inj H
                go_wp2
                go_ret
                exact ⟨by first | rfl | (simp [errW_none, errW_some] <;> rfl) | (simp [*, errW_none, errW_some] <;> rfl), by repeat (first | (with_reducible first | exact HB.out | apply below_alloc | apply pw_below_drewN | apply below_drew1) | exact HB.out)⟩
            · replace c31 := Bool.eq_false_iff.mpr c31
              subst c31
              have H1 : (if t247.size + t248.size ≤ 9223372036854775807 then ((impl_Utf8Get.f kj10 (t247 ++ t248)).bind fun bt263 => (laws_FnUtf8Cut.l0 kj10 t247 t249 t253 bt263.1 bt263.2 0)) else (none)) = some r := by rw [if_neg (show ¬ (false = true) by decide)] at H; exact H
              clear H
              have H := H1
              clear H1
              by_cases c36 : t247.size + t248.size ≤ 9223372036854775807
              · rw [if_pos c36] at H
                have c36b0 := eq_true c36
                have c36b1 : decide (t247.size + t248.size ≤ 9223372036854775807) = true := decide_eq_true c36
                try have c36b2 : (9223372036854775807 < t247.size + t248.size) = False := eq_false (Nat.not_lt.2 c36)
                replace H := Option.bind_eq_some_iff.mp H
                obtain ⟨⟨t263, t264⟩, A370, H⟩ := H
                replace H : (laws_FnUtf8Cut.l0 kj10 t247 t249 t253 t263 t264 0) = some r := H
                have A37 := Aside0.mk A370
                clear A370
                have H' := Aside0.mk H
                clear H
                go_wp2_with (first | ((with_reducible refine gate_callee (f := 6) rfl ?_); refine goesL_ (some 82) rfl rfl Tryd.func6 (by kernel_rfl) rfl #[.string (t247 ++ t248)] rfl (by (try simp only [List.map_toArray, List.map_cons, List.map_nil]); first | done | rfl | (simp only [List.length_drop, List.length_take]; rfl)) ?_; (with_reducible refine (impl_Utf8Get.calls kj10 (t247 ++ t248) t263 t264 _ (Utf8Tabs_below HTB.out (by repeat (first | (with_reducible first | exact HB.out | apply below_alloc | apply pw_below_drewN | apply below_drew1) | exact HB.out))) A37.out).mono ?_); rintro e w38 ⟨v265, rfl, ho0, hb⟩; refine ⟨_, rfl, ?_⟩; have n0_ := Aside0.mk (Kd.R_elder' (by (with_reducible repeat (first | apply Kd.R_alloc | apply Kd.R_drewN | apply Kd.R_drew)); exact HO_7.out) (Kd.R_base ho0) hb); have n1_ := Aside0.mk (Kd.R_elder' (by (with_reducible repeat (first | apply Kd.R_alloc | apply Kd.R_drewN | apply Kd.R_drew)); exact HO_9.out) (Kd.R_base ho0) hb); have n2_ := Aside0.mk (Kd.R_elder' (by (with_reducible repeat (first | apply Kd.R_alloc | apply Kd.R_drewN | apply Kd.R_drew)); exact HO_11.out) (Kd.R_base ho0) hb); have n3_ := Aside0.mk (Kd.R_lower (Kd.R_new' (Kd.R_new' (Kd.R_new' ho0 (Kd.R_lt (by (with_reducible repeat (first | apply Kd.R_alloc | apply Kd.R_drewN | apply Kd.R_drew)); exact HO_7.out))) (Kd.R_lt (by (with_reducible repeat (first | apply Kd.R_alloc | apply Kd.R_drewN | apply Kd.R_drew)); exact HO_9.out))) (Kd.R_lt (by (with_reducible repeat (first | apply Kd.R_alloc | apply Kd.R_drewN | apply Kd.R_drew)); exact HO_11.out))) (below_size (by repeat (first | (with_reducible first | exact HB.out | apply below_alloc | apply pw_below_drewN | apply below_drew1) | exact HB.out)))); have n4_ := Aside0.mk (below_step (by repeat (first | (with_reducible first | exact HB.out | apply below_alloc | apply pw_below_drewN | apply below_drew1) | exact HB.out)) hb); clear HO_7; clear HO_9; clear HO_11; clear HB; have HO_7 := n0_; have HO_9 := n1_; have HO_11 := n2_; have HO266 := n3_; have HB := n4_; clear n0_ n1_ n2_ n3_ n4_; (try clear hb); (try clear hb2); (try clear hk); (try clear hi); (try clear ho0)))
                go_loopg [15] kj10 (fun kq v15 w' => ∃ (x15_3 : Int), v15 = .int .i64 x15_3 ∧ Aside0 (laws_FnUtf8Cut.l0 kq t247 t249 t253 t263 t264 x15_3 = some r) ∧ Aside0 (kq ≤ kj10) ∧ Aside0 (Kd.R (Kd.int .i64) 3 w' w.heap.size (fun k_ => some k_ ≠ (v255 : Value).ownBlock ∧ some k_ ≠ (v265 : Value).ownBlock) v251 t249) ∧ Aside0 (Kd.R (Kd.int .i64) 3 w' w.heap.size (fun k_ => some k_ ≠ (v251 : Value).ownBlock ∧ some k_ ≠ (v265 : Value).ownBlock) v255 t253) ∧ Aside0 (Kd.R (Kd.int .i64) 3 w' w.heap.size (fun k_ => some k_ ≠ (v251 : Value).ownBlock ∧ some k_ ≠ (v255 : Value).ownBlock) v265 t263) ∧ Aside0 (Below w.heap.size w w'))
                case atStart => exact ⟨(0), (by first | rfl | (simp; done) | (simp [*]; done)), H', ⟨Nat.le_refl _⟩, ⟨by (with_reducible repeat (first | apply Kd.R_alloc | apply Kd.R_drewN | apply Kd.R_drew)); exact Kd.R_mono HO_7.out (fun _ hk => ⟨hk.1.1, hk.2⟩)⟩, ⟨by (with_reducible repeat (first | apply Kd.R_alloc | apply Kd.R_drewN | apply Kd.R_drew)); exact Kd.R_mono HO_9.out (fun _ hk => ⟨hk.1.1, hk.2⟩)⟩, ⟨by (with_reducible repeat (first | apply Kd.R_alloc | apply Kd.R_drewN | apply Kd.R_drew)); exact Kd.R_mono HO266.out (fun _ hk => ⟨hk.1.1.2, hk.1.2⟩)⟩, ⟨by repeat (first | (with_reducible first | exact HB.out | apply below_alloc | apply pw_below_drewN | apply below_drew1) | exact HB.out)⟩⟩
                case round =>
                  clear H'
                  try clear c1
                  try clear c2
                  try clear p2
                  try clear c3
                  try clear c4
                  try clear c4b0
                  try clear c4b1
                  try clear c5
                  try clear c6
                  try clear p6
                  try clear c7
                  try clear c17
                  try clear c17b0
                  try clear c17b1
                  try clear c17b2
                  try clear c19
                  try clear c20
                  try clear c21
                  try clear c31
                  try clear c32
                  try clear c32b0
                  try clear c32b1
                  try clear c32b2
                  try clear c36
                  try clear c36b0
                  try clear c36b1
                  try clear c36b2
                  try clear p2
                  try clear p6
                  obtain ⟨x15_3, rfl, HA, HK3, HO_7, HO_9, HO_13, HB⟩ := hrel
                  cases gk with
                  | zero => exact absurd HA.out (by simp [laws_FnUtf8Cut.l0])
                  | succ k3 =>
                    have H := HA.out
                    clear HA
                    simp only [laws_FnUtf8Cut.l0] at H
                    by_cases c39 : x15_3 < (t247.size : Int)
                    · rw [if_pos c39] at H
                      have c39b0 : decide (x15_3 < (t247.size : Int)) = true := decide_eq_true c39
                      clear c39
                      have HC40 := Aside0.mk H
                      clear H
                      go_upto_region 14 with (fail)
                      go_cut [100] (fun v100 wc => ∃ (kq : Nat) (x100_39 : Bool), v100 = .bool x100_39 ∧ Aside0 (laws_FnUtf8Cut.j3 kq t247 t249 t253 t263 t264 x15_3 x100_39 = some r) ∧ Aside0 (kq ≤ k3) ∧ Aside0 (Kd.R (Kd.int .i64) 3 wc w.heap.size (fun k_ => some k_ ≠ (v255 : Value).ownBlock ∧ some k_ ≠ (v265 : Value).ownBlock) v251 t249) ∧ Aside0 (Kd.R (Kd.int .i64) 3 wc w.heap.size (fun k_ => some k_ ≠ (v251 : Value).ownBlock ∧ some k_ ≠ (v265 : Value).ownBlock) v255 t253) ∧ Aside0 (Kd.R (Kd.int .i64) 3 wc w.heap.size (fun k_ => some k_ ≠ (v251 : Value).ownBlock ∧ some k_ ≠ (v255 : Value).ownBlock) v265 t263) ∧ Aside0 (Below w.heap.size w wc))
                      case first =>
                        have H := HC40.out
                        clear HC40
                        by_cases c41 : 0 ≤ x15_3
                        · rw [if_pos c41] at H
                          have c41b0 : decide (0 ≤ x15_3) = true := decide_eq_true c41
                          clear c41
                          (first | rw [c41b0] | (simp only [i64_w, i32_w]; rw [c41b0]) | skip)
                          by_cases c43 : (bt t247 x15_3) ≥ 128
                          · rw [if_pos c43] at H
                            have c43b0 : decide (128 ≤ (bt t247 x15_3)) = true := decide_eq_true c43
                            clear c43
                            have H' := Aside0.mk H
                            clear H
                            have p42 : 0 ≤ (x15_3 : Int) := of_decide_eq_true (by first | (with_reducible assumption) | assumption)
                            have q42 : x15_3 < (t247.size : Int) := of_decide_eq_true (by first | (with_reducible assumption) | assumption)
                            have hx42 := bt_at t247 x15_3
                            replace p42 := eq_true p42
                            replace q42 := eq_true q42
                            have p44 : 0 ≤ (x15_3 : Int) := of_decide_eq_true (by first | (with_reducible assumption) | assumption)
                            have q44 : x15_3 < (t247.size : Int) := of_decide_eq_true (by first | (with_reducible assumption) | assumption)
                            have hx44 := bt_at t247 x15_3
                            replace p44 := eq_true p44
                            replace q44 := eq_true q44
                            go_wp2
                            go_meet
                            case rel => exact ⟨_, (decide ((bt t247 x15_3) < 192)), (by first | rfl | (simp; done) | (simp [*]; done)), H', ⟨by have := HJ2.out; have := HJ10.out; have := HK3.out; first | omega | exact Nat.le_refl _⟩, ⟨by (with_reducible repeat (first | apply Kd.R_alloc | apply Kd.R_drewN | apply Kd.R_drew)); exact HO_7.out⟩, ⟨by (with_reducible repeat (first | apply Kd.R_alloc | apply Kd.R_drewN | apply Kd.R_drew)); exact HO_9.out⟩, ⟨by (with_reducible repeat (first | apply Kd.R_alloc | apply Kd.R_drewN | apply Kd.R_drew)); exact HO_13.out⟩, ⟨by repeat (first | (with_reducible first | exact HB.out | apply below_alloc | apply pw_below_drewN | apply below_drew1) | exact HB.out)⟩⟩
                          · rw [if_neg c43] at H
                            have c43b0 : decide (128 ≤ (bt t247 x15_3)) = false := decide_eq_false c43
                            clear c43
                            have H' := Aside0.mk H
                            clear H
                            have p42 : 0 ≤ (x15_3 : Int) := of_decide_eq_true (by first | (with_reducible assumption) | assumption)
                            have q42 : x15_3 < (t247.size : Int) := of_decide_eq_true (by first | (with_reducible assumption) | assumption)
                            have hx42 := bt_at t247 x15_3
                            replace p42 := eq_true p42
                            replace q42 := eq_true q42
                            go_wp2
                            go_meet
                            case rel => exact ⟨_, (false), (by first | rfl | (simp; done) | (simp [*]; done)), H', ⟨by have := HJ2.out; have := HJ10.out; have := HK3.out; first | omega | exact Nat.le_refl _⟩, ⟨by (with_reducible repeat (first | apply Kd.R_alloc | apply Kd.R_drewN | apply Kd.R_drew)); exact HO_7.out⟩, ⟨by (with_reducible repeat (first | apply Kd.R_alloc | apply Kd.R_drewN | apply Kd.R_drew)); exact HO_9.out⟩, ⟨by (with_reducible repeat (first | apply Kd.R_alloc | apply Kd.R_drewN | apply Kd.R_drew)); exact HO_13.out⟩, ⟨by repeat (first | (with_reducible first | exact HB.out | apply below_alloc | apply pw_below_drewN | apply below_drew1) | exact HB.out)⟩⟩
                        · rw [if_neg c41] at H
                          exact absurd H (by simp)
                      case rest =>
                        clear HC40
                        try clear c1
                        try clear c2
                        try clear p2
                        try clear c3
                        try clear c4
                        try clear c4b0
                        try clear c4b1
                        try clear p4
                        try clear q4
                        try clear hx4
                        try clear c5
                        try clear c6
                        try clear p6
                        try clear c7
                        try clear c17
                        try clear c17b0
                        try clear c17b1
                        try clear c17b2
                        try clear c19
                        try clear c20
                        try clear c21
                        try clear c31
                        try clear c32
                        try clear c32b0
                        try clear c32b1
                        try clear c32b2
                        try clear c36
                        try clear c36b0
                        try clear c36b1
                        try clear c36b2
                        try clear c39
                        try clear c39b0
                        try clear c41
                        try clear c41b0
                        try clear p42
                        try clear q42
                        try clear hx42
                        try clear c43
                        try clear c43b0
                        try clear p44
                        try clear q44
                        try clear hx44
                        try clear p2
                        try clear p42
                        try clear p44
                        try clear p6
                        try clear q42
                        try clear q44
                        obtain ⟨kq, x100_39, rfl, HA, HJ39, HO_7, HO_9, HO_13, HB⟩ := hcut
                        cases kq with
                        | zero => exact absurd HA.out (by simp [laws_FnUtf8Cut.j3])
                        | succ kj39 =>
                          have H := HA.out
                          clear HA
                          simp only [laws_FnUtf8Cut.j3] at H
                          by_cases c45 : x100_39 = true
                          · subst c45
                            have H1 : (if 0 ≤ x15_3 then (if x15_3 ≤ (t247.size : Int) then ((impl_Utf8Get.f kj39 (t247.extract 0 (x15_3 : Int).toNat)).bind fun bt277 => (if bt277.2 = true then (some false) else (laws_FnUtf8Cut.l0 kj39 t247 t249 t253 t263 t264 (wrap64 (x15_3 + 1))))) else (none)) else (none)) = some r := by rw [if_pos rfl] at H; exact H
                            clear H
                            have H := H1
                            clear H1
                            by_cases c46 : 0 ≤ x15_3
                            · rw [if_pos c46] at H
                              have c46b0 := eq_true c46
                              have c46b1 : decide (0 ≤ x15_3) = true := decide_eq_true c46
                              clear c46
                              by_cases c47 : x15_3 ≤ (t247.size : Int)
                              · rw [if_pos c47] at H
                                have c47b0 := eq_true c47
                                have c47b1 : decide (x15_3 ≤ (t247.size : Int)) = true := decide_eq_true c47
                                clear c47
                                replace H := Option.bind_eq_some_iff.mp H
                                obtain ⟨⟨t277, t278⟩, A480, H⟩ := H
                                replace H : (if t278 = true then (some false) else (laws_FnUtf8Cut.l0 kj39 t247 t249 t253 t263 t264 (wrap64 (x15_3 + 1)))) = some r := H
                                have A48 := Aside0.mk A480
                                clear A480
                                by_cases c49 : t278 = true
                                · subst c49
                                  have H1 : (some false) = some r := by rw [if_pos rfl] at H; exact H
                                  clear H
                                  have H := H1
                                  clear H1
                                  obtain rfl := Option.some.inj H
                                  go_wp2_with (first | ((with_reducible refine gate_callee (f := 6) rfl ?_); refine goesL_ (some 105) rfl rfl Tryd.func6 (by kernel_rfl) rfl #[.string (t247.extract 0 (x15_3 : Int).toNat)] rfl (by (try simp only [List.map_toArray, List.map_cons, List.map_nil]); first | done | rfl | (simp only [List.length_drop, List.length_take]; rfl)) ?_; (with_reducible refine (impl_Utf8Get.calls kj39 (t247.extract 0 (x15_3 : Int).toNat) t277 true _ (Utf8Tabs_below HTB.out (by repeat (first | (with_reducible first | exact HB.out | apply below_alloc | apply pw_below_drewN | apply below_drew1) | exact HB.out))) A48.out).mono ?_); rintro e w50 ⟨v279, rfl, ho0, hb⟩; refine ⟨_, rfl, ?_⟩; have n0_ := Aside0.mk (Kd.R_elder' (by (with_reducible repeat (first | apply Kd.R_alloc | apply Kd.R_drewN | apply Kd.R_drew)); exact HO_7.out) (Kd.R_base ho0) hb); have n1_ := Aside0.mk (Kd.R_elder' (by (with_reducible repeat (first | apply Kd.R_alloc | apply Kd.R_drewN | apply Kd.R_drew)); exact HO_9.out) (Kd.R_base ho0) hb); have n2_ := Aside0.mk (Kd.R_elder' (by (with_reducible repeat (first | apply Kd.R_alloc | apply Kd.R_drewN | apply Kd.R_drew)); exact HO_13.out) (Kd.R_base ho0) hb); have n3_ := Aside0.mk (Kd.R_lower (Kd.R_new' (Kd.R_new' (Kd.R_new' ho0 (Kd.R_lt (by (with_reducible repeat (first | apply Kd.R_alloc | apply Kd.R_drewN | apply Kd.R_drew)); exact HO_7.out))) (Kd.R_lt (by (with_reducible repeat (first | apply Kd.R_alloc | apply Kd.R_drewN | apply Kd.R_drew)); exact HO_9.out))) (Kd.R_lt (by (with_reducible repeat (first | apply Kd.R_alloc | apply Kd.R_drewN | apply Kd.R_drew)); exact HO_13.out))) (below_size (by repeat (first | (with_reducible first | exact HB.out | apply below_alloc | apply pw_below_drewN | apply below_drew1) | exact HB.out)))); have n4_ := Aside0.mk (below_step (by repeat (first | (with_reducible first | exact HB.out | apply below_alloc | apply pw_below_drewN | apply below_drew1) | exact HB.out)) hb); clear HO_7; clear HO_9; clear HO_13; clear HB; have HO_7 := n0_; have HO_9 := n1_; have HO_13 := n2_; have HO280 := n3_; have HB := n4_; clear n0_ n1_ n2_ n3_ n4_; (try clear hb); (try clear hb2); (try clear hk); (try clear hi); (try clear ho0)))
                                  go_ret
                                  exact ⟨by first | rfl | (simp [errW_none, errW_some] <;> rfl) | (simp [*, errW_none, errW_some] <;> rfl), by repeat (first | (with_reducible first | exact HB.out | apply below_alloc | apply pw_below_drewN | apply below_drew1) | exact HB.out)⟩
                                · replace c49 := Bool.eq_false_iff.mpr c49
                                  subst c49
                                  have H1 : (laws_FnUtf8Cut.l0 kj39 t247 t249 t253 t263 t264 (wrap64 (x15_3 + 1))) = some r := by rw [if_neg (show ¬ (false = true) by decide)] at H; exact H
                                  clear H
                                  have H := H1
                                  clear H1
                                  have H' := Aside0.mk H
                                  clear H
                                  go_wp2_with (first | ((with_reducible refine gate_callee (f := 6) rfl ?_); refine goesL_ (some 105) rfl rfl Tryd.func6 (by kernel_rfl) rfl #[.string (t247.extract 0 (x15_3 : Int).toNat)] rfl (by (try simp only [List.map_toArray, List.map_cons, List.map_nil]); first | done | rfl | (simp only [List.length_drop, List.length_take]; rfl)) ?_; (with_reducible refine (impl_Utf8Get.calls kj39 (t247.extract 0 (x15_3 : Int).toNat) t277 false _ (Utf8Tabs_below HTB.out (by repeat (first | (with_reducible first | exact HB.out | apply below_alloc | apply pw_below_drewN | apply below_drew1) | exact HB.out))) A48.out).mono ?_); rintro e w51 ⟨v279, rfl, ho0, hb⟩; refine ⟨_, rfl, ?_⟩; have n0_ := Aside0.mk (Kd.R_elder' (by (with_reducible repeat (first | apply Kd.R_alloc | apply Kd.R_drewN | apply Kd.R_drew)); exact HO_7.out) (Kd.R_base ho0) hb); have n1_ := Aside0.mk (Kd.R_elder' (by (with_reducible repeat (first | apply Kd.R_alloc | apply Kd.R_drewN | apply Kd.R_drew)); exact HO_9.out) (Kd.R_base ho0) hb); have n2_ := Aside0.mk (Kd.R_elder' (by (with_reducible repeat (first | apply Kd.R_alloc | apply Kd.R_drewN | apply Kd.R_drew)); exact HO_13.out) (Kd.R_base ho0) hb); have n3_ := Aside0.mk (Kd.R_lower (Kd.R_new' (Kd.R_new' (Kd.R_new' ho0 (Kd.R_lt (by (with_reducible repeat (first | apply Kd.R_alloc | apply Kd.R_drewN | apply Kd.R_drew)); exact HO_7.out))) (Kd.R_lt (by (with_reducible repeat (first | apply Kd.R_alloc | apply Kd.R_drewN | apply Kd.R_drew)); exact HO_9.out))) (Kd.R_lt (by (with_reducible repeat (first | apply Kd.R_alloc | apply Kd.R_drewN | apply Kd.R_drew)); exact HO_13.out))) (below_size (by repeat (first | (with_reducible first | exact HB.out | apply below_alloc | apply pw_below_drewN | apply below_drew1) | exact HB.out)))); have n4_ := Aside0.mk (below_step (by repeat (first | (with_reducible first | exact HB.out | apply below_alloc | apply pw_below_drewN | apply below_drew1) | exact HB.out)) hb); clear HO_7; clear HO_9; clear HO_13; clear HB; have HO_7 := n0_; have HO_9 := n1_; have HO_13 := n2_; have HO280 := n3_; have HB := n4_; clear n0_ n1_ n2_ n3_ n4_; (try clear hb); (try clear hb2); (try clear hk); (try clear hi); (try clear ho0)))
                                  go_roundg kj39
                                  case measure => have := HJ2.out; have := HJ10.out; have := HK3.out; have := HJ39.out; omega
                                  case rel => exact ⟨(wrap64 (x15_3 + 1)), (by first | rfl | (simp; done) | (simp [*]; done)), H', ⟨by have := HJ2.out; have := HJ10.out; have := HK3.out; have := HJ39.out; omega⟩, ⟨by (with_reducible repeat (first | apply Kd.R_alloc | apply Kd.R_drewN | apply Kd.R_drew)); exact Kd.R_mono HO_7.out (fun _ hk => ⟨hk.1.1, hk.1.2⟩)⟩, ⟨by (with_reducible repeat (first | apply Kd.R_alloc | apply Kd.R_drewN | apply Kd.R_drew)); exact Kd.R_mono HO_9.out (fun _ hk => ⟨hk.1.1, hk.1.2⟩)⟩, ⟨by (with_reducible repeat (first | apply Kd.R_alloc | apply Kd.R_drewN | apply Kd.R_drew)); exact Kd.R_mono HO_13.out (fun _ hk => ⟨hk.1.1, hk.1.2⟩)⟩, ⟨by repeat (first | (with_reducible first | exact HB.out | apply below_alloc | apply pw_below_drewN | apply below_drew1) | exact HB.out)⟩⟩
                              · rw [if_neg c47] at H
                                exact absurd H (by simp)
                            · rw [if_neg c46] at H
                              exact absurd H (by simp)
                          · replace c45 := Bool.eq_false_iff.mpr c45
                            subst c45
                            have H1 : (laws_FnUtf8Cut.l0 kj39 t247 t249 t253 t263 t264 (wrap64 (x15_3 + 1))) = some r := by rw [if_neg (show ¬ (false = true) by decide)] at H; exact H
                            clear H
                            have H := H1
                            clear H1
                            have H' := Aside0.mk H
                            clear H
                            go_wp2
                            go_roundg kj39
                            case measure => have := HJ2.out; have := HJ10.out; have := HK3.out; have := HJ39.out; omega
                            case rel => exact ⟨(wrap64 (x15_3 + 1)), (by first | rfl | (simp; done) | (simp [*]; done)), H', ⟨by have := HJ2.out; have := HJ10.out; have := HK3.out; have := HJ39.out; omega⟩, ⟨by (with_reducible repeat (first | apply Kd.R_alloc | apply Kd.R_drewN | apply Kd.R_drew)); exact HO_7.out⟩, ⟨by (with_reducible repeat (first | apply Kd.R_alloc | apply Kd.R_drewN | apply Kd.R_drew)); exact HO_9.out⟩, ⟨by (with_reducible repeat (first | apply Kd.R_alloc | apply Kd.R_drewN | apply Kd.R_drew)); exact HO_13.out⟩, ⟨by repeat (first | (with_reducible first | exact HB.out | apply below_alloc | apply pw_below_drewN | apply below_drew1) | exact HB.out)⟩⟩
                    · rw [if_neg c39] at H
                      have c39b0 : decide (x15_3 < (t247.size : Int)) = false := decide_eq_false c39
                      clear c39
                      by_cases c52 : t264 = true
                      · subst c52
                        have H1 : (if 0 ≤ (t249.length : Int) then (if (t249.length : Int) ≤ (t263.length : Int) then ((laws_wcInts.f k3 (t263.take ((t249.length : Int) : Int).toNat) t249).bind fun t271 => (if t271 = true then ((laws_wcInts.f k3 (t263.drop ((t249.length : Int) : Int).toNat) t253).bind fun t276 => (some t276)) else (some false))) else (none)) else (none)) = some r := by rw [if_pos rfl] at H; exact H
                        clear H
                        have H := H1
                        clear H1
                        by_cases c53 : 0 ≤ (t249.length : Int)
                        · rw [if_pos c53] at H
                          have c53b0 := eq_true c53
                          have c53b1 : decide (0 ≤ (t249.length : Int)) = true := decide_eq_true c53
                          clear c53
                          by_cases c54 : (t249.length : Int) ≤ (t263.length : Int)
                          · rw [if_pos c54] at H
                            have c54b0 := eq_true c54
                            have c54b1 : decide ((t249.length : Int) ≤ (t263.length : Int)) = true := decide_eq_true c54
                            clear c54
                            obtain ⟨y267, hy267⟩ : ∃ y_ : List Int, y_ = (t263.take ((t249.length : Int) : Int).toNat) := ⟨_, rfl⟩
                            replace H : ((laws_wcInts.f k3 y267 t249).bind fun t271 => (if t271 = true then ((laws_wcInts.f k3 (t263.drop ((t249.length : Int) : Int).toNat) t253).bind fun t276 => (some t276)) else (some false))) = some r := by first | (rw [hy267]; with_reducible exact H) | (have H2_ := (Option.bind_some _ _).symm.trans H; rw [hy267]; with_reducible exact H2_) | (have H2_ := (Option.bind_some _ _).symm.trans H; with_reducible exact H2_) | with_reducible exact H | (rw [hy267]; exact H) | exact H
                            have Ny267 := Aside0.mk hy267
                            clear hy267
                            replace H := Option.bind_eq_some_iff.mp H
                            obtain ⟨t271, A550, H⟩ := H
                            replace H : (if t271 = true then ((laws_wcInts.f k3 (t263.drop ((t249.length : Int) : Int).toNat) t253).bind fun t276 => (some t276)) else (some false)) = some r := H
                            have A55 := Aside0.mk A550
                            clear A550
                            by_cases c56 : t271 = true
                            · subst c56
                              have H1 : ((laws_wcInts.f k3 (t263.drop ((t249.length : Int) : Int).toNat) t253).bind fun t276 => (some t276)) = some r := by rw [if_pos rfl] at H; exact H
                              clear H
                              have H := H1
                              clear H1
                              have c57b0 := eq_true (of_decide_eq_true (by first | (with_reducible assumption) | assumption) : 0 ≤ (t249.length : Int))
                              have c58b0 := eq_true (of_decide_eq_true (by first | (with_reducible assumption) | assumption) : (t249.length : Int) ≤ (t263.length : Int))
                              obtain ⟨y272, hy272⟩ : ∃ y_ : List Int, y_ = (t263.drop ((t249.length : Int) : Int).toNat) := ⟨_, rfl⟩
                              replace H : ((laws_wcInts.f k3 y272 t253).bind fun t276 => (some t276)) = some r := by first | (rw [hy272]; with_reducible exact H) | (have H2_ := (Option.bind_some _ _).symm.trans H; rw [hy272]; with_reducible exact H2_) | (have H2_ := (Option.bind_some _ _).symm.trans H; with_reducible exact H2_) | with_reducible exact H | (rw [hy272]; exact H) | exact H
                              have Ny272 := Aside0.mk hy272
                              clear hy272
                              replace H := Option.bind_eq_some_iff.mp H
                              obtain ⟨t276, A590, H⟩ := H
                              replace H : (some t276) = some r := H
                              have A59 := Aside0.mk A590
                              clear A590
                              obtain rfl := Option.some.inj H
                              obtain ⟨Ao60, co60, eo60⟩ := Kd.R_slice HO_7.out
                              subst eo60
                              obtain ⟨Ao62, co62, eo62⟩ := Kd.R_slice HO_13.out
                              subst eo62
                              have q61 : ((t249.length : Int) : Int) ≤ ((t263.length : Int) : Int) := of_decide_eq_true (by first | (with_reducible assumption) | assumption)
                              obtain ⟨i061, hi061, _, hsz61, _⟩ := info_parts info3
                              have hroom61 : t263.length ≤ co62 := (Kd.R_reads' HO_13.out).2.1
                              have hC61 : Kd.C (Kd.int .i64) _ Ao62 t263.length t263 := (Kd.R_reads' HO_13.out).2.2
                              have hcut61 := cut_to (P := Tryd.prog) 24 3 .i64 Tryd.underlying24 hi061 Ao62 t263.length co62 (t249.length : Int) (of_decide_eq_true (by first | (with_reducible assumption) | assumption)) q61 hroom61
                              have hr61 := Kd.C_take (m := ((t249.length : Int) : Int).toNat) hC61 (by omega)
                              have hy61 : y267.length = ((t249.length : Int) : Int).toNat := (by rw [Ny267.out, List.length_take]; omega)
                              rw [← Ny267.out] at hr61
                              rw [← hy61] at hcut61
                              have HR270 := Aside0.mk hr61
                              have HC270 := Aside0.mk (show y267.length ≤ co62 from by omega)
                              clear hr61 hC61 hroom61 hi061 hsz61
                              have KY61 := Aside0.mk hy61
                              clear hy61
                              have KL61 := Aside0.mk (show ((t249.length : Int) : Int).toNat ≤ t263.length from by omega)
                              replace q61 := eq_true q61
                              go_wp2_with (first | (go_at_call 8; (with_reducible refine (laws_wcInts.calls k3 _ _ y267 _ _ t249 true _ ?side1 ?side2 ?side3 ?side4 A55.out).mono ?_); (case side1 => repeat (first | exact (by repeat (first | (with_reducible exact HR270.out) | (with_reducible refine Kd.C_alloc ?_ _) | (with_reducible refine Kd.C_drewN ?_ _) | (with_reducible refine Kd.C_drew ?_) | exact HR270.out)) | (with_reducible refine Kd.C_alloc ?_ _) | (with_reducible refine Kd.C_drewN ?_ _) | (with_reducible refine Kd.C_drew ?_))); (case side2 => exact HC270.out); (case side3 => repeat (first | exact (Kd.R_reads' HO_7.out).2.2 | (with_reducible refine Kd.C_alloc ?_ _) | (with_reducible refine Kd.C_drewN ?_ _) | (with_reducible refine Kd.C_drew ?_))); (case side4 => exact (Kd.R_reads' HO_7.out).2.1); rintro e w' ⟨rfl, ⟨nd, rfl⟩⟩; have q63 : ((t249.length : Int) : Int) ≤ ((t263.length : Int) : Int) := of_decide_eq_true (by first | (with_reducible assumption) | assumption); obtain ⟨i063, hi063, _, hsz63, _⟩ := info_parts info3; have hroom63 : t263.length ≤ co62 := (Kd.R_reads' HO_13.out).2.1; have hC63 : Kd.C (Kd.int .i64) _ Ao62 t263.length t263 := (Kd.R_reads' HO_13.out).2.2; have q063 : (0 : Int) ≤ ((t249.length : Int) : Int) := of_decide_eq_true (by first | (with_reducible assumption) | assumption); have hcut63 := cut_from (P := Tryd.prog) 24 3 .i64 Tryd.underlying24 hi063 1 hsz63 Ao62 t263.length co62 (t249.length : Int) q063 q63; have hr63 := Kd.C_drop (m := ((t249.length : Int) : Int).toNat) (c := co62) hC63 (by omega) hroom63; obtain ⟨A63, hA63⟩ : ∃ A1, A1 = (if co62 = ((t249.length : Int) : Int).toNat then Ao62 else (Ao62 : Option Addr).map (·.add (((t249.length : Int) : Int).toNat * 1))) := ⟨_, rfl⟩; obtain ⟨c63, hc63⟩ : ∃ c1, c1 = co62 - ((t249.length : Int) : Int).toNat := ⟨_, rfl⟩; have hy63 : y272.length = t263.length - ((t249.length : Int) : Int).toNat := (by rw [Ny272.out, List.length_drop] <;> omega); rw [show (t263).drop ((t249.length : Int) : Int).toNat = y272 from Ny272.out.symm] at hr63; replace hr63 : Kd.C (Kd.int .i64) _ A63 y272.length y272 := (by rw [hA63]; exact hr63); rw [← hy63, ← hA63, ← hc63] at hcut63; have HR275 := Aside0.mk hr63; have HC275 := Aside0.mk (show y272.length ≤ c63 from by rw [hy63, hc63]; exact Nat.sub_le_sub_right hroom63 _); clear hr63 hC63 hroom63 hi063 hsz63 hc63; have KY63 := Aside0.mk hy63; have KA63 := Aside0.mk hA63; clear hy63 hA63; have KL63 := Aside0.mk (show ((t249.length : Int) : Int).toNat ≤ t263.length from by omega); replace q63 := eq_true q63; obtain ⟨Ao64, co64, eo64⟩ := Kd.R_slice HO_9.out; subst eo64) | (go_at_call 8; (with_reducible refine (laws_wcInts.calls k3 _ _ y272 _ _ t253 t276 _ ?side1 ?side2 ?side3 ?side4 A59.out).mono ?_); (case side1 => repeat (first | exact (by repeat (first | (with_reducible exact HR275.out) | (with_reducible refine Kd.C_alloc ?_ _) | (with_reducible refine Kd.C_drewN ?_ _) | (with_reducible refine Kd.C_drew ?_) | exact HR275.out)) | (with_reducible refine Kd.C_alloc ?_ _) | (with_reducible refine Kd.C_drewN ?_ _) | (with_reducible refine Kd.C_drew ?_))); (case side2 => exact HC275.out); (case side3 => repeat (first | exact (Kd.R_reads' HO_9.out).2.2 | (with_reducible refine Kd.C_alloc ?_ _) | (with_reducible refine Kd.C_drewN ?_ _) | (with_reducible refine Kd.C_drew ?_))); (case side4 => exact (Kd.R_reads' HO_9.out).2.1); rintro e w' ⟨rfl, ⟨nd, rfl⟩⟩))
                              go_ret
                              exact ⟨by first | rfl | (simp [errW_none, errW_some] <;> rfl) | (simp [*, errW_none, errW_some] <;> rfl), by repeat (first | (with_reducible first | exact HB.out | apply below_alloc | apply pw_below_drewN | apply below_drew1) | exact HB.out)⟩
                            · replace c56 := Bool.eq_false_iff.mpr c56
                              subst c56
                              have H1 : (some false) = some r := by rw [if_neg (show ¬ (false = true) by decide)] at H; exact H
                              clear H
                              have H := H1
                              clear H1
                              obtain rfl := Option.some.inj H
                              obtain ⟨Ao65, co65, eo65⟩ := Kd.R_slice HO_7.out
                              subst eo65
                              obtain ⟨Ao67, co67, eo67⟩ := Kd.R_slice HO_13.out
                              subst eo67
                              have q66 : ((t249.length : Int) : Int) ≤ ((t263.length : Int) : Int) := of_decide_eq_true (by first | (with_reducible assumption) | assumption)
                              obtain ⟨i066, hi066, _, hsz66, _⟩ := info_parts info3
                              have hroom66 : t263.length ≤ co67 := (Kd.R_reads' HO_13.out).2.1
                              have hC66 : Kd.C (Kd.int .i64) _ Ao67 t263.length t263 := (Kd.R_reads' HO_13.out).2.2
                              have hcut66 := cut_to (P := Tryd.prog) 24 3 .i64 Tryd.underlying24 hi066 Ao67 t263.length co67 (t249.length : Int) (of_decide_eq_true (by first | (with_reducible assumption) | assumption)) q66 hroom66
                              have hr66 := Kd.C_take (m := ((t249.length : Int) : Int).toNat) hC66 (by omega)
                              have hy66 : y267.length = ((t249.length : Int) : Int).toNat := (by rw [Ny267.out, List.length_take]; omega)
                              rw [← Ny267.out] at hr66
                              rw [← hy66] at hcut66
                              have HR270 := Aside0.mk hr66
                              have HC270 := Aside0.mk (show y267.length ≤ co67 from by omega)
                              clear hr66 hC66 hroom66 hi066 hsz66
                              have KY66 := Aside0.mk hy66
                              clear hy66
                              have KL66 := Aside0.mk (show ((t249.length : Int) : Int).toNat ≤ t263.length from by omega)
                              replace q66 := eq_true q66
                              go_wp2_with (first | (go_at_call 8; (with_reducible refine (laws_wcInts.calls k3 _ _ y267 _ _ t249 false _ ?side1 ?side2 ?side3 ?side4 A55.out).mono ?_); (case side1 => repeat (first | exact (by repeat (first | (with_reducible exact HR270.out) | (with_reducible refine Kd.C_alloc ?_ _) | (with_reducible refine Kd.C_drewN ?_ _) | (with_reducible refine Kd.C_drew ?_) | exact HR270.out)) | (with_reducible refine Kd.C_alloc ?_ _) | (with_reducible refine Kd.C_drewN ?_ _) | (with_reducible refine Kd.C_drew ?_))); (case side2 => exact HC270.out); (case side3 => repeat (first | exact (Kd.R_reads' HO_7.out).2.2 | (with_reducible refine Kd.C_alloc ?_ _) | (with_reducible refine Kd.C_drewN ?_ _) | (with_reducible refine Kd.C_drew ?_))); (case side4 => exact (Kd.R_reads' HO_7.out).2.1); rintro e w' ⟨rfl, ⟨nd, rfl⟩⟩))
                              go_ret
                              exact ⟨by first | rfl | (simp [errW_none, errW_some] <;> rfl) | (simp [*, errW_none, errW_some] <;> rfl), by repeat (first | (with_reducible first | exact HB.out | apply below_alloc | apply pw_below_drewN | apply below_drew1) | exact HB.out)⟩
                          · rw [if_neg c54] at H
                            exact absurd H (by simp)
                        · rw [if_neg c53] at H
                          exact absurd H (by simp)
                      · replace c52 := Bool.eq_false_iff.mpr c52
                        subst c52
                        have H1 : (some false) = some r := by rw [if_neg (show ¬ (false = true) by decide)] at H; exact H
                        clear H
                        have H := H1
                        clear H1
                        obtain rfl := Option.some.inj H
                        go_wp2
                        go_ret
                        exact ⟨by first | rfl | (simp [errW_none, errW_some] <;> rfl) | (simp [*, errW_none, errW_some] <;> rfl), by repeat (first | (with_reducible first | exact HB.out | apply below_alloc | apply pw_below_drewN | apply below_drew1) | exact HB.out)⟩
              · rw [if_neg c36] at H
                exact absurd H (by simp)

/-- THE ONE PURE STATEMENT of laws_FnUtf8Cut: yours. -/
def laws_FnUtf8Cut.Pure : Prop := ∀ (l0 : List Int) (l1 : List Int), l0.length ≤ maxLen → l0.length * 1 ≤ 140737488351232 → (∀ x ∈ l0, (Lit.int .u8 x).wf = true) → l1.length ≤ maxLen → l1.length * 1 ≤ 140737488351232 → (∀ x ∈ l1, (Lit.int .u8 x).wf = true) → ∃ k, laws_FnUtf8Cut.f k l0 l1 = some true
theorem laws_FnUtf8Cut.walk (P : laws_FnUtf8Cut.Pure) (a0 : Option Addr) (len0 cap0 : Nat) (z0 : List Int) (a1 : Option Addr) (len1 cap1 : Nat) (z1 : List Int) (w : World) (hT : Lib.Utf8Tabs (Tryd.laysDecode_ren.g 3) (Tryd.laysDecode_ren.g 4) w) (w0 : (a0 = none ∧ len0 = 0 ∧ cap0 = 0 ∧ z0 = []) ∨ ∃ x, a0 = some x ∧ len0 ≤ cap0 ∧ cap0 ≤ maxLen ∧ z0.length = cap0 ∧ (∀ i, i < z0.length → w.cell? (x.add i) = some (.int .u8 (z0.getD i 0))) ∧ ∀ n ∈ z0, (Lit.int .u8 n).wf = true) (y0 : len0 * 1 ≤ 140737488351232) (w1 : (a1 = none ∧ len1 = 0 ∧ cap1 = 0 ∧ z1 = []) ∨ ∃ x, a1 = some x ∧ len1 ≤ cap1 ∧ cap1 ≤ maxLen ∧ z1.length = cap1 ∧ (∀ i, i < z1.length → w.cell? (x.add i) = some (.int .u8 (z1.getD i 0))) ∧ ∀ n ∈ z1, (Lit.int .u8 n).wf = true) (y1 : len1 * 1 ≤ 140737488351232) :
    Calls Tryd.prog 3 #[.slice a0 len0 cap0, .slice a1 len1 cap1] w fun e w' => e = .returned (.bool true) ∧ Below w.heap.size w w' := by
  obtain ⟨l0, rfl, hr0, hm0, hw0, hc0⟩ := ReadsInt.ofRowC w0
  obtain ⟨l1, rfl, hr1, hm1, hw1, hc1⟩ := ReadsInt.ofRowC w1
  obtain ⟨k, h⟩ := P l0 l1 hm0 y0 hw0 hm1 y1 hw1
  refine (laws_FnUtf8Cut.calls k _ _ l0 _ _ l1 true w (Kd.C_of_reads (d := (0 : Int)) (h1 := fun _ => rfl) hr0) hc0 (Kd.C_of_reads (d := (0 : Int)) (h1 := fun _ => rfl) hr1) hc1 hT h).mono ?_
  rintro e w' ⟨rfl, hd⟩
  exact ⟨rfl, hd⟩

end Go.Proofs.YtfpmeahdfipeeaaDoor.PFnUtf8Cut
