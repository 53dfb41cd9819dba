-- Written by a program of this session (wip/tools) out of the translation; its shape is that of the kit print.
import Derived.Test.YtpdkddhadgeheaaPFnOrderx0
import Derived.Test.YtpdkddhadgeheaaPFnOrderx1
import Derived.Test.YtpdkddhadgeheaaPFnOrderx3
import Derived.Test.YtpdkddhadgeheaaPFnOrderx4
import Derived.Test.YtpdkddhadgeheaaPFnOrderx5
namespace Go.Proofs.Ytpdkddhadgeheaa.PFnOrder
open Go.RowKit Go.Proofs.YtpdkddhadgeheaaW.PrintWords Go.Proofs.YtpdkddhadgeheaaW.PrintLast Go.Proofs.YtpdkddhadgeheaaW.PrintMore
attribute [local go_sem] max2_int min2_int max_two min_two max_three min_three max_four min_four   -- for this text's walks alone
set_option linter.unusedVariables false
set_option linter.unusedSimpArgs false

/-! ### laws_FnOrder: function 10 -/
mutual
def laws_FnOrder.j0 : Nat → List Int → List Int → List Int → Bool → Option (Bool)
  | 0, _, _, _, _ => none
  | k + 1, x3, x4, x5, x33 => if x33 = true then ((spec_OrderOf.f k x3).bind fun t233 => ((laws_wcInts.f k x4 t233).bind fun t236 => (if t236 = true then ((spec_OrderBack.f k x3).bind fun t237 => ((laws_wcInts.f k x5 t237).bind fun t240 => (some t240))) else (some false)))) else (laws_FnOrder.l0 k x3 x4 x5 0 0)
def laws_FnOrder.l0 : Nat → List Int → List Int → List Int → Int → Int → Option (Bool)
  | 0, _, _, _, _, _ => none
  | k + 1, x3, x4, x5, x6, x7 => if x7 < (x3.length : Int) then (if 0 ≤ x7 then (if (rd x3 x7) < 0 then (if x7 < (x5.length : Int) then (if (rd x5 x7) = (-1) then (if (rd x3 x7) ≥ 0 then ((laws_wcIn.f (rd x5 x7) 0 (wrap64 ((x4.length : Int) - 1))).bind fun t245 => (if t245 = true then (if 0 ≤ (rd x5 x7) then (if (rd x5 x7) < (x4.length : Int) then (laws_FnOrder.j2 k x3 x4 x5 x6 x7 ((rd x4 (rd x5 x7)) != x7)) else (none)) else (none)) else (laws_FnOrder.j2 k x3 x4 x5 x6 x7 true))) else (laws_FnOrder.j2 k x3 x4 x5 x6 x7 false)) else (laws_FnOrder.j2 k x3 x4 x5 x6 x7 true)) else (none)) else (if (rd x3 x7) ≥ 0 then (if x7 < (x5.length : Int) then ((laws_wcIn.f (rd x5 x7) 0 (wrap64 ((x4.length : Int) - 1))).bind fun t250 => (if t250 = true then (if 0 ≤ (rd x5 x7) then (if (rd x5 x7) < (x4.length : Int) then (laws_FnOrder.j2 k x3 x4 x5 x6 x7 ((rd x4 (rd x5 x7)) != x7)) else (none)) else (none)) else (laws_FnOrder.j2 k x3 x4 x5 x6 x7 true))) else (none)) else (laws_FnOrder.j2 k x3 x4 x5 x6 x7 false))) else (none)) else (some (x6 == (x4.length : Int)))
def laws_FnOrder.j2 : Nat → List Int → List Int → List Int → Int → Int → Bool → Option (Bool)
  | 0, _, _, _, _, _, _ => none
  | k + 1, x3, x4, x5, x6, x7, x90 => if x90 = true then (some false) else (if 0 ≤ x7 then (if x7 < (x3.length : Int) then (if (rd x3 x7) ≥ 0 then (laws_FnOrder.l0 k x3 x4 x5 (wrap64 (x6 + 1)) (wrap64 (x7 + 1))) else (laws_FnOrder.l0 k x3 x4 x5 x6 (wrap64 (x7 + 1)))) else (none)) else (none))
end
def laws_FnOrder.f (k : Nat) (l0 : List Int) : Option (Bool) := if (l0.length : Int) > 1048576 then (some true) else ((spec_DrawOrderOf.f k l0).bind fun t216 => ((impl_OrderOf.f t216).bind fun t219 => ((impl_OrderBack.f k t216).bind fun t222 => ((spec_OrderOf.f k t216).bind fun t225 => ((laws_wcInts.f k t219 t225).bind fun t228 => (if t228 = true then ((spec_OrderBack.f k t216).bind fun t229 => ((laws_wcInts.f k t222 t229).bind fun t232 => (if t232 = true then (laws_FnOrder.j0 k t216 t219 t222 ((t222.length : Int) == 0)) else (laws_FnOrder.j0 k t216 t219 t222 true)))) else (laws_FnOrder.j0 k t216 t219 t222 true)))))))
theorem laws_FnOrder.mono_l : ∀ k, (∀ y0 y1 y2 y3, LeO (laws_FnOrder.j0 k y0 y1 y2 y3) (laws_FnOrder.j0 (k + 1) y0 y1 y2 y3)) ∧ (∀ y0 y1 y2 y3 y4, LeO (laws_FnOrder.l0 k y0 y1 y2 y3 y4) (laws_FnOrder.l0 (k + 1) y0 y1 y2 y3 y4)) ∧ (∀ y0 y1 y2 y3 y4 y5, LeO (laws_FnOrder.j2 k y0 y1 y2 y3 y4 y5) (laws_FnOrder.j2 (k + 1) y0 y1 y2 y3 y4 y5))
  | 0 => ⟨fun _ _ _ _ r h => by simp [laws_FnOrder.j0] at h, fun _ _ _ _ _ r h => by simp [laws_FnOrder.l0] at h, fun _ _ _ _ _ _ r h => by simp [laws_FnOrder.j2] at h⟩
  | k + 1 => by
    obtain ⟨ih0, ih1, ih2⟩ := laws_FnOrder.mono_l k
    refine ⟨?_, ?_, ?_⟩
    · intro y0 y1 y2 y3
      unfold laws_FnOrder.j0
      repeat' first
      | (with_reducible exact ih0 _ _ _ _)
      | (with_reducible exact ih1 _ _ _ _ _)
      | (with_reducible exact ih2 _ _ _ _ _ _)
      | (with_reducible exact impl_OrderBack.mono _ _)
      | (with_reducible exact laws_wcInts.mono _ _ _)
      | (with_reducible exact spec_DrawOrderOf.mono _ _)
      | (with_reducible exact spec_OrderBack.mono _ _)
      | (with_reducible exact spec_OrderOf.mono _ _)
      | (with_reducible exact LeO.refl _)
      | (with_reducible exact LeO.none _)
      | (with_reducible refine LeO.ite ?_ ?_)
      | (with_reducible refine LeO.bind ?_ (fun _ => ?_))
      | exact ih0 _ _ _ _
      | exact ih1 _ _ _ _ _
      | exact ih2 _ _ _ _ _ _
      | exact impl_OrderBack.mono _ _
      | exact laws_wcInts.mono _ _ _
      | exact spec_DrawOrderOf.mono _ _
      | exact spec_OrderBack.mono _ _
      | exact spec_OrderOf.mono _ _
      | exact LeO.none _
      | refine LeO.ite ?_ ?_
      | refine LeO.bind ?_ (fun _ => ?_)
    · intro y0 y1 y2 y3 y4
      unfold laws_FnOrder.l0
      repeat' first
      | (with_reducible exact ih0 _ _ _ _)
      | (with_reducible exact ih1 _ _ _ _ _)
      | (with_reducible exact ih2 _ _ _ _ _ _)
      | (with_reducible exact impl_OrderBack.mono _ _)
      | (with_reducible exact laws_wcInts.mono _ _ _)
      | (with_reducible exact spec_DrawOrderOf.mono _ _)
      | (with_reducible exact spec_OrderBack.mono _ _)
      | (with_reducible exact spec_OrderOf.mono _ _)
      | (with_reducible exact LeO.refl _)
      | (with_reducible exact LeO.none _)
      | (with_reducible refine LeO.ite ?_ ?_)
      | (with_reducible refine LeO.bind ?_ (fun _ => ?_))
      | exact ih0 _ _ _ _
      | exact ih1 _ _ _ _ _
      | exact ih2 _ _ _ _ _ _
      | exact impl_OrderBack.mono _ _
      | exact laws_wcInts.mono _ _ _
      | exact spec_DrawOrderOf.mono _ _
      | exact spec_OrderBack.mono _ _
      | exact spec_OrderOf.mono _ _
      | exact LeO.none _
      | refine LeO.ite ?_ ?_
      | refine LeO.bind ?_ (fun _ => ?_)
    · intro y0 y1 y2 y3 y4 y5
      unfold laws_FnOrder.j2
      repeat' first
      | (with_reducible exact ih0 _ _ _ _)
      | (with_reducible exact ih1 _ _ _ _ _)
      | (with_reducible exact ih2 _ _ _ _ _ _)
      | (with_reducible exact impl_OrderBack.mono _ _)
      | (with_reducible exact laws_wcInts.mono _ _ _)
      | (with_reducible exact spec_DrawOrderOf.mono _ _)
      | (with_reducible exact spec_OrderBack.mono _ _)
      | (with_reducible exact spec_OrderOf.mono _ _)
      | (with_reducible exact LeO.refl _)
      | (with_reducible exact LeO.none _)
      | (with_reducible refine LeO.ite ?_ ?_)
      | (with_reducible refine LeO.bind ?_ (fun _ => ?_))
      | exact ih0 _ _ _ _
      | exact ih1 _ _ _ _ _
      | exact ih2 _ _ _ _ _ _
      | exact impl_OrderBack.mono _ _
      | exact laws_wcInts.mono _ _ _
      | exact spec_DrawOrderOf.mono _ _
      | exact spec_OrderBack.mono _ _
      | exact spec_OrderOf.mono _ _
      | exact LeO.none _
      | refine LeO.ite ?_ ?_
      | refine LeO.bind ?_ (fun _ => ?_)
theorem laws_FnOrder.mono : ∀ a0 k, LeO (laws_FnOrder.f k a0) (laws_FnOrder.f (k + 1) a0) := by
  intro a0 k
  obtain ⟨ih0, ih1, ih2⟩ := laws_FnOrder.mono_l k
  unfold laws_FnOrder.f
  repeat' first
      | (with_reducible exact ih0 _ _ _ _)
      | (with_reducible exact ih1 _ _ _ _ _)
      | (with_reducible exact ih2 _ _ _ _ _ _)
      | (with_reducible exact impl_OrderBack.mono _ _)
      | (with_reducible exact laws_wcInts.mono _ _ _)
      | (with_reducible exact spec_DrawOrderOf.mono _ _)
      | (with_reducible exact spec_OrderBack.mono _ _)
      | (with_reducible exact spec_OrderOf.mono _ _)
      | (with_reducible exact LeO.refl _)
      | (with_reducible exact LeO.none _)
      | (with_reducible refine LeO.ite ?_ ?_)
      | (with_reducible refine LeO.bind ?_ (fun _ => ?_))
      | exact ih0 _ _ _ _
      | exact ih1 _ _ _ _ _
      | exact ih2 _ _ _ _ _ _
      | exact impl_OrderBack.mono _ _
      | exact laws_wcInts.mono _ _ _
      | exact spec_DrawOrderOf.mono _ _
      | exact spec_OrderBack.mono _ _
      | exact spec_OrderOf.mono _ _
      | exact LeO.none _
      | refine LeO.ite ?_ ?_
      | refine LeO.bind ?_ (fun _ => ?_)
set_option maxHeartbeats 8000000 in
set_option maxRecDepth 100000 in
theorem laws_FnOrder.calls (k : Nat) (A0 : Option Addr) (c0 : Nat) (l0 : List Int) (r : Bool) (w : World) (hr0 : Kd.C (Kd.int .u8) w A0 l0.length l0) (hc0 : l0.length ≤ c0) (h : laws_FnOrder.f k l0 = some r) :
    Calls Try.prog 10 #[.slice A0 l0.length c0] w fun e w' => e = .returned (.bool r) ∧ Below w.heap.size w w' := by
  have HR0 := Aside0.mk hr0
  have HC0 := Aside0.mk hc0
  clear hr0 hc0
  have HB := Aside0.mk (Below.refl w.heap.size w)
  have H : (if (l0.length : Int) > 1048576 then (some true) else ((spec_DrawOrderOf.f k l0).bind fun t216 => ((impl_OrderOf.f t216).bind fun t219 => ((impl_OrderBack.f k t216).bind fun t222 => ((spec_OrderOf.f k t216).bind fun t225 => ((laws_wcInts.f k t219 t225).bind fun t228 => (if t228 = true then ((spec_OrderBack.f k t216).bind fun t229 => ((laws_wcInts.f k t222 t229).bind fun t232 => (if t232 = true then (laws_FnOrder.j0 k t216 t219 t222 ((t222.length : Int) == 0)) else (laws_FnOrder.j0 k t216 t219 t222 true)))) else (laws_FnOrder.j0 k t216 t219 t222 true)))))))) = some r := h
  clear h
  by_cases c2 : (l0.length : Int) > 1048576
  · rw [if_pos c2] at H
    have c2b0 : decide (1048576 < (l0.length : Int)) = true := decide_eq_true c2
    have c2b1 : decide (1048576 < l0.length) = true := decide_eq_true (by omega)
    clear c2
    obtain rfl := Option.some.inj H
    go_enter Try.func10, Try.ntmps10
    go_wp2
    go_ret
    exact ⟨by first | rfl | (simp [errW_none, errW_some] <;> rfl) | (simp [*, errW_none, errW_some] <;> rfl), by repeat (first | (with_reducible first | exact HB.out | apply below_alloc | apply pw_below_drewN | apply below_drew1) | exact HB.out)⟩
  · rw [if_neg c2] at H
    have c2b0 : decide (1048576 < (l0.length : Int)) = false := decide_eq_false c2
    have c2b1 : decide (1048576 < l0.length) = false := decide_eq_false (by omega)
    clear c2
    replace H := Option.bind_eq_some_iff.mp H
    obtain ⟨t216, A30, H⟩ := H
    replace H : ((impl_OrderOf.f t216).bind fun t219 => ((impl_OrderBack.f k t216).bind fun t222 => ((spec_OrderOf.f k t216).bind fun t225 => ((laws_wcInts.f k t219 t225).bind fun t228 => (if t228 = true then ((spec_OrderBack.f k t216).bind fun t229 => ((laws_wcInts.f k t222 t229).bind fun t232 => (if t232 = true then (laws_FnOrder.j0 k t216 t219 t222 ((t222.length : Int) == 0)) else (laws_FnOrder.j0 k t216 t219 t222 true)))) else (laws_FnOrder.j0 k t216 t219 t222 true)))))) = some r := H
    have A3 := Aside0.mk A30
    clear A30
    replace H := Option.bind_eq_some_iff.mp H
    obtain ⟨t219, A40, H⟩ := H
    replace H : ((impl_OrderBack.f k t216).bind fun t222 => ((spec_OrderOf.f k t216).bind fun t225 => ((laws_wcInts.f k t219 t225).bind fun t228 => (if t228 = true then ((spec_OrderBack.f k t216).bind fun t229 => ((laws_wcInts.f k t222 t229).bind fun t232 => (if t232 = true then (laws_FnOrder.j0 k t216 t219 t222 ((t222.length : Int) == 0)) else (laws_FnOrder.j0 k t216 t219 t222 true)))) else (laws_FnOrder.j0 k t216 t219 t222 true))))) = some r := H
    have A4 := Aside0.mk A40
    clear A40
    replace H := Option.bind_eq_some_iff.mp H
    obtain ⟨t222, A50, H⟩ := H
    replace H : ((spec_OrderOf.f k t216).bind fun t225 => ((laws_wcInts.f k t219 t225).bind fun t228 => (if t228 = true then ((spec_OrderBack.f k t216).bind fun t229 => ((laws_wcInts.f k t222 t229).bind fun t232 => (if t232 = true then (laws_FnOrder.j0 k t216 t219 t222 ((t222.length : Int) == 0)) else (laws_FnOrder.j0 k t216 t219 t222 true)))) else (laws_FnOrder.j0 k t216 t219 t222 true)))) = some r := H
    have A5 := Aside0.mk A50
    clear A50
    have HC6 := Aside0.mk H
    clear H
    go_enter Try.func10, Try.ntmps10
    go_upto_region 6 with (first | ((with_reducible refine gate_callee (f := 28) rfl ?_); refine goesL_ (some 12) rfl rfl Try.func28 (by kernel_rfl) rfl #[.slice A0 l0.length c0] rfl (by (try simp only [List.map_toArray, List.map_cons, List.map_nil]); first | done | rfl | (simp only [List.length_drop, List.length_take]; rfl)) ?_; (with_reducible refine (spec_DrawOrderOf.calls k _ _ l0 t216 _ ?side1 ?side2 A3.out).mono ?_); (case side1 => repeat (first | exact HR0.out | (with_reducible refine Kd.C_alloc ?_ _) | (with_reducible refine Kd.C_drewN ?_ _) | (with_reducible refine Kd.C_drew ?_))); (case side2 => exact HC0.out); rintro e w7 ⟨v217, rfl, ho0, hb⟩; refine ⟨_, rfl, ?_⟩; have n0_ := Aside0.mk (Kd.R_lower ho0 (below_size (by repeat (first | (with_reducible first | exact HB.out | apply below_alloc | apply pw_below_drewN | apply below_drew1) | exact HB.out)))); have n1_ := Aside0.mk (below_step (by repeat (first | (with_reducible first | exact HB.out | apply below_alloc | apply pw_below_drewN | apply below_drew1) | exact HB.out)) hb); clear HB; have HO218 := n0_; have HB := n1_; clear n0_ n1_; (try clear hb); (try clear hb2); (try clear hk); (try clear hi); (try clear ho0); obtain ⟨Ao8, co8, eo8⟩ := Kd.R_slice HO218.out; subst eo8) | ((with_reducible refine gate_callee (f := 29) rfl ?_); refine goesL_ (some 14) rfl rfl Try.func29 (by kernel_rfl) rfl #[.slice Ao8 t216.length co8] rfl (by (try simp only [List.map_toArray, List.map_cons, List.map_nil]); first | done | rfl | (simp only [List.length_drop, List.length_take]; rfl)) ?_; (with_reducible refine (impl_OrderOf.calls _ _ t216 t219 _ ?side1 ?side2 A4.out).mono ?_); (case side1 => repeat (first | exact (Kd.R_reads' HO218.out).2.2 | (with_reducible refine Kd.C_alloc ?_ _) | (with_reducible refine Kd.C_drewN ?_ _) | (with_reducible refine Kd.C_drew ?_))); (case side2 => exact (Kd.R_reads' HO218.out).2.1); rintro e w9 ⟨v220, rfl, ho0, hb⟩; refine ⟨_, rfl, ?_⟩; have n0_ := Aside0.mk (Kd.R_elder' (by (with_reducible repeat (first | apply Kd.R_alloc | apply Kd.R_drewN | apply Kd.R_drew)); exact HO218.out) (Kd.R_base ho0) hb); have n1_ := Aside0.mk (Kd.R_lower (Kd.R_new' ho0 (Kd.R_lt (by (with_reducible repeat (first | apply Kd.R_alloc | apply Kd.R_drewN | apply Kd.R_drew)); exact HO218.out))) (below_size (by repeat (first | (with_reducible first | exact HB.out | apply below_alloc | apply pw_below_drewN | apply below_drew1) | exact HB.out)))); have n2_ := Aside0.mk (below_step (by repeat (first | (with_reducible first | exact HB.out | apply below_alloc | apply pw_below_drewN | apply below_drew1) | exact HB.out)) hb); clear HO218; clear HB; have HO218 := n0_; have HO221 := n1_; have HB := n2_; clear n0_ n1_ n2_; (try clear hb); (try clear hb2); (try clear hk); (try clear hi); (try clear ho0)) | ((with_reducible refine gate_callee (f := 32) rfl ?_); refine goesL_ (some 16) rfl rfl Try.func32 (by kernel_rfl) rfl #[.slice Ao8 t216.length co8] rfl (by (try simp only [List.map_toArray, List.map_cons, List.map_nil]); first | done | rfl | (simp only [List.length_drop, List.length_take]; rfl)) ?_; (with_reducible refine (impl_OrderBack.calls k _ _ t216 t222 _ ?side1 ?side2 A5.out).mono ?_); (case side1 => repeat (first | exact (Kd.R_reads' HO218.out).2.2 | (with_reducible refine Kd.C_alloc ?_ _) | (with_reducible refine Kd.C_drewN ?_ _) | (with_reducible refine Kd.C_drew ?_))); (case side2 => exact (Kd.R_reads' HO218.out).2.1); rintro e w10 ⟨v223, rfl, ho0, hb⟩; refine ⟨_, rfl, ?_⟩; have n0_ := Aside0.mk (Kd.R_elder' (by (with_reducible repeat (first | apply Kd.R_alloc | apply Kd.R_drewN | apply Kd.R_drew)); exact HO218.out) (Kd.R_base ho0) hb); have n1_ := Aside0.mk (Kd.R_elder' (by (with_reducible repeat (first | apply Kd.R_alloc | apply Kd.R_drewN | apply Kd.R_drew)); exact HO221.out) (Kd.R_base ho0) hb); have n2_ := Aside0.mk (Kd.R_lower (Kd.R_new' (Kd.R_new' ho0 (Kd.R_lt (by (with_reducible repeat (first | apply Kd.R_alloc | apply Kd.R_drewN | apply Kd.R_drew)); exact HO218.out))) (Kd.R_lt (by (with_reducible repeat (first | apply Kd.R_alloc | apply Kd.R_drewN | apply Kd.R_drew)); exact HO221.out))) (below_size (by repeat (first | (with_reducible first | exact HB.out | apply below_alloc | apply pw_below_drewN | apply below_drew1) | exact HB.out)))); have n3_ := Aside0.mk (below_step (by repeat (first | (with_reducible first | exact HB.out | apply below_alloc | apply pw_below_drewN | apply below_drew1) | exact HB.out)) hb); clear HO218; clear HO221; clear HB; have HO218 := n0_; have HO221 := n1_; have HO224 := n2_; have HB := n3_; clear n0_ n1_ n2_ n3_; (try clear hb); (try clear hb2); (try clear hk); (try clear hi); (try clear ho0)))
    (try simp only [Act.put, List.setIfInBounds_toArray, List.set_cons_zero, List.set_cons_succ])
    go_cut [33] (fun v33 wc => ∃ (kq : Nat) (x33_5 : Bool), v33 = .bool x33_5 ∧ Aside0 (laws_FnOrder.j0 kq t216 t219 t222 x33_5 = some r) ∧ Aside0 (kq ≤ k) ∧ Aside0 (Kd.R (Kd.int .i64) 3 wc w.heap.size (fun k_ => some k_ ≠ (v220 : Value).ownBlock ∧ some k_ ≠ (v223 : Value).ownBlock) (.slice Ao8 t216.length co8) t216) ∧ Aside0 (Kd.R (Kd.int .i64) 3 wc w.heap.size (fun k_ => some k_ ≠ ((.slice Ao8 t216.length co8) : Value).ownBlock ∧ some k_ ≠ (v223 : Value).ownBlock) v220 t219) ∧ Aside0 (Kd.R (Kd.int .i64) 3 wc w.heap.size (fun k_ => some k_ ≠ ((.slice Ao8 t216.length co8) : Value).ownBlock ∧ some k_ ≠ (v220 : Value).ownBlock) v223 t222) ∧ Aside0 (Below w.heap.size w wc))
    case first =>
      have H := HC6.out
      clear HC6
      replace H := Option.bind_eq_some_iff.mp H
      obtain ⟨t225, A110, H⟩ := H
      replace H : ((laws_wcInts.f k t219 t225).bind fun t228 => (if t228 = true then ((spec_OrderBack.f k t216).bind fun t229 => ((laws_wcInts.f k t222 t229).bind fun t232 => (if t232 = true then (laws_FnOrder.j0 k t216 t219 t222 ((t222.length : Int) == 0)) else (laws_FnOrder.j0 k t216 t219 t222 true)))) else (laws_FnOrder.j0 k t216 t219 t222 true))) = some r := H
      have A11 := Aside0.mk A110
      clear A110
      replace H := Option.bind_eq_some_iff.mp H
      obtain ⟨t228, A120, H⟩ := H
      replace H : (if t228 = true then ((spec_OrderBack.f k t216).bind fun t229 => ((laws_wcInts.f k t222 t229).bind fun t232 => (if t232 = true then (laws_FnOrder.j0 k t216 t219 t222 ((t222.length : Int) == 0)) else (laws_FnOrder.j0 k t216 t219 t222 true)))) else (laws_FnOrder.j0 k t216 t219 t222 true)) = some r := H
      have A12 := Aside0.mk A120
      clear A120
      by_cases c13 : t228 = true
      · subst c13
        have H1 : ((spec_OrderBack.f k t216).bind fun t229 => ((laws_wcInts.f k t222 t229).bind fun t232 => (if t232 = true then (laws_FnOrder.j0 k t216 t219 t222 ((t222.length : Int) == 0)) else (laws_FnOrder.j0 k t216 t219 t222 true)))) = some r := by rw [if_pos rfl] at H; exact H
        clear H
        have H := H1
        clear H1
        replace H := Option.bind_eq_some_iff.mp H
        obtain ⟨t229, A140, H⟩ := H
        replace H : ((laws_wcInts.f k t222 t229).bind fun t232 => (if t232 = true then (laws_FnOrder.j0 k t216 t219 t222 ((t222.length : Int) == 0)) else (laws_FnOrder.j0 k t216 t219 t222 true))) = some r := H
        have A14 := Aside0.mk A140
        clear A140
        replace H := Option.bind_eq_some_iff.mp H
        obtain ⟨t232, A150, H⟩ := H
        replace H : (if t232 = true then (laws_FnOrder.j0 k t216 t219 t222 ((t222.length : Int) == 0)) else (laws_FnOrder.j0 k t216 t219 t222 true)) = some r := H
        have A15 := Aside0.mk A150
        clear A150
        by_cases c16 : t232 = true
        · subst c16
          have H1 : (laws_FnOrder.j0 k t216 t219 t222 ((t222.length : Int) == 0)) = some r := by rw [if_pos rfl] at H; exact H
          clear H
          have H := H1
          clear H1
          have H' := Aside0.mk H
          clear H
          go_wp2_with (first | ((with_reducible refine gate_callee (f := 30) rfl ?_); refine goesL_ (some 19) rfl rfl Try.func30 (by kernel_rfl) rfl #[.slice Ao8 t216.length co8] rfl (by (try simp only [List.map_toArray, List.map_cons, List.map_nil]); first | done | rfl | (simp only [List.length_drop, List.length_take]; rfl)) ?_; (with_reducible refine (spec_OrderOf.calls k _ _ t216 t225 _ ?side1 ?side2 A11.out).mono ?_); (case side1 => repeat (first | exact (Kd.R_reads' HO218.out).2.2 | (with_reducible refine Kd.C_alloc ?_ _) | (with_reducible refine Kd.C_drewN ?_ _) | (with_reducible refine Kd.C_drew ?_))); (case side2 => exact (Kd.R_reads' HO218.out).2.1); rintro e w17 ⟨v226, rfl, ho0, hb⟩; refine ⟨_, rfl, ?_⟩; have n0_ := Aside0.mk (Kd.R_elder' (by (with_reducible repeat (first | apply Kd.R_alloc | apply Kd.R_drewN | apply Kd.R_drew)); exact HO218.out) (Kd.R_base ho0) hb); have n1_ := Aside0.mk (Kd.R_elder' (by (with_reducible repeat (first | apply Kd.R_alloc | apply Kd.R_drewN | apply Kd.R_drew)); exact HO221.out) (Kd.R_base ho0) hb); have n2_ := Aside0.mk (Kd.R_elder' (by (with_reducible repeat (first | apply Kd.R_alloc | apply Kd.R_drewN | apply Kd.R_drew)); exact HO224.out) (Kd.R_base ho0) hb); have n3_ := Aside0.mk (Kd.R_lower (Kd.R_new' (Kd.R_new' (Kd.R_new' ho0 (Kd.R_lt (by (with_reducible repeat (first | apply Kd.R_alloc | apply Kd.R_drewN | apply Kd.R_drew)); exact HO218.out))) (Kd.R_lt (by (with_reducible repeat (first | apply Kd.R_alloc | apply Kd.R_drewN | apply Kd.R_drew)); exact HO221.out))) (Kd.R_lt (by (with_reducible repeat (first | apply Kd.R_alloc | apply Kd.R_drewN | apply Kd.R_drew)); exact HO224.out))) (below_size (by repeat (first | (with_reducible first | exact HB.out | apply below_alloc | apply pw_below_drewN | apply below_drew1) | exact HB.out)))); have n4_ := Aside0.mk (below_step (by repeat (first | (with_reducible first | exact HB.out | apply below_alloc | apply pw_below_drewN | apply below_drew1) | exact HB.out)) hb); clear HO218; clear HO221; clear HO224; clear HB; have HO218 := n0_; have HO221 := n1_; have HO224 := n2_; have HO227 := n3_; have HB := n4_; clear n0_ n1_ n2_ n3_ n4_; (try clear hb); (try clear hb2); (try clear hk); (try clear hi); (try clear ho0); obtain ⟨Ao18, co18, eo18⟩ := Kd.R_slice HO221.out; subst eo18; obtain ⟨Ao19, co19, eo19⟩ := Kd.R_slice HO227.out; subst eo19) | ((with_reducible refine gate_callee (f := 25) rfl ?_); refine goesL_ (some 20) rfl rfl Try.func25 (by kernel_rfl) rfl #[.slice Ao18 t219.length co18, .slice Ao19 t225.length co19] rfl (by (try simp only [List.map_toArray, List.map_cons, List.map_nil]); first | done | rfl | (simp only [List.length_drop, List.length_take]; rfl)) ?_; (with_reducible refine (laws_wcInts.calls k _ _ t219 _ _ t225 true _ ?side1 ?side2 ?side3 ?side4 A12.out).mono ?_); (case side1 => repeat (first | exact (Kd.R_reads' HO221.out).2.2 | (with_reducible refine Kd.C_alloc ?_ _) | (with_reducible refine Kd.C_drewN ?_ _) | (with_reducible refine Kd.C_drew ?_))); (case side2 => exact (Kd.R_reads' HO221.out).2.1); (case side3 => repeat (first | exact (Kd.R_reads' HO227.out).2.2 | (with_reducible refine Kd.C_alloc ?_ _) | (with_reducible refine Kd.C_drewN ?_ _) | (with_reducible refine Kd.C_drew ?_))); (case side4 => exact (Kd.R_reads' HO227.out).2.1); rintro e w' ⟨rfl, ⟨nd, rfl⟩⟩; refine ⟨_, rfl, ?_⟩) | (go_at_call 31; (with_reducible refine (spec_OrderBack.calls k _ _ t216 t229 _ ?side1 ?side2 A14.out).mono ?_); (case side1 => repeat (first | exact (Kd.R_reads' HO218.out).2.2 | (with_reducible refine Kd.C_alloc ?_ _) | (with_reducible refine Kd.C_drewN ?_ _) | (with_reducible refine Kd.C_drew ?_))); (case side2 => exact (Kd.R_reads' HO218.out).2.1); rintro e w20 ⟨v230, rfl, ho0, hb⟩; have n0_ := Aside0.mk (Kd.R_elder' (by (with_reducible repeat (first | apply Kd.R_alloc | apply Kd.R_drewN | apply Kd.R_drew)); exact HO218.out) (Kd.R_base ho0) hb); have n1_ := Aside0.mk (Kd.R_elder' (by (with_reducible repeat (first | apply Kd.R_alloc | apply Kd.R_drewN | apply Kd.R_drew)); exact HO221.out) (Kd.R_base ho0) hb); have n2_ := Aside0.mk (Kd.R_elder' (by (with_reducible repeat (first | apply Kd.R_alloc | apply Kd.R_drewN | apply Kd.R_drew)); exact HO224.out) (Kd.R_base ho0) hb); have n3_ := Aside0.mk (Kd.R_elder' (by (with_reducible repeat (first | apply Kd.R_alloc | apply Kd.R_drewN | apply Kd.R_drew)); exact HO227.out) (Kd.R_base ho0) hb); have n4_ := Aside0.mk (Kd.R_lower (Kd.R_new' (Kd.R_new' (Kd.R_new' (Kd.R_new' ho0 (Kd.R_lt (by (with_reducible repeat (first | apply Kd.R_alloc | apply Kd.R_drewN | apply Kd.R_drew)); exact HO218.out))) (Kd.R_lt (by (with_reducible repeat (first | apply Kd.R_alloc | apply Kd.R_drewN | apply Kd.R_drew)); exact HO221.out))) (Kd.R_lt (by (with_reducible repeat (first | apply Kd.R_alloc | apply Kd.R_drewN | apply Kd.R_drew)); exact HO224.out))) (Kd.R_lt (by (with_reducible repeat (first | apply Kd.R_alloc | apply Kd.R_drewN | apply Kd.R_drew)); exact HO227.out))) (below_size (by repeat (first | (with_reducible first | exact HB.out | apply below_alloc | apply pw_below_drewN | apply below_drew1) | exact HB.out)))); have n5_ := Aside0.mk (below_step (by repeat (first | (with_reducible first | exact HB.out | apply below_alloc | apply pw_below_drewN | apply below_drew1) | exact HB.out)) hb); clear HO218; clear HO221; clear HO224; clear HO227; clear HB; have HO218 := n0_; have HO221 := n1_; have HO224 := n2_; have HO227 := n3_; have HO231 := n4_; have HB := n5_; clear n0_ n1_ n2_ n3_ n4_ n5_; (try clear hb); (try clear hb2); (try clear hk); (try clear hi); (try clear ho0); obtain ⟨Ao21, co21, eo21⟩ := Kd.R_slice HO224.out; subst eo21; obtain ⟨Ao22, co22, eo22⟩ := Kd.R_slice HO231.out; subst eo22) | (go_at_call 25; (with_reducible refine (laws_wcInts.calls k _ _ t222 _ _ t229 true _ ?side1 ?side2 ?side3 ?side4 A15.out).mono ?_); (case side1 => repeat (first | exact (Kd.R_reads' HO224.out).2.2 | (with_reducible refine Kd.C_alloc ?_ _) | (with_reducible refine Kd.C_drewN ?_ _) | (with_reducible refine Kd.C_drew ?_))); (case side2 => exact (Kd.R_reads' HO224.out).2.1); (case side3 => repeat (first | exact (Kd.R_reads' HO231.out).2.2 | (with_reducible refine Kd.C_alloc ?_ _) | (with_reducible refine Kd.C_drewN ?_ _) | (with_reducible refine Kd.C_drew ?_))); (case side4 => exact (Kd.R_reads' HO231.out).2.1); rintro e w' ⟨rfl, ⟨nd, rfl⟩⟩))
          go_meet
          case rel => exact ⟨_, (((t222.length : Int) == 0)), (by first | rfl | (simp; done) | (simp [*]; done)), H', ⟨by first | omega | exact Nat.le_refl _⟩, ⟨by (with_reducible repeat (first | apply Kd.R_alloc | apply Kd.R_drewN | apply Kd.R_drew)); exact Kd.R_mono HO218.out (fun _ hk => ⟨hk.1.1.1.2, hk.1.1.2⟩)⟩, ⟨by (with_reducible repeat (first | apply Kd.R_alloc | apply Kd.R_drewN | apply Kd.R_drew)); exact Kd.R_mono HO221.out (fun _ hk => ⟨hk.1.1.1.2, hk.1.1.2⟩)⟩, ⟨by (with_reducible repeat (first | apply Kd.R_alloc | apply Kd.R_drewN | apply Kd.R_drew)); exact Kd.R_mono HO224.out (fun _ hk => ⟨hk.1.1.1.2, hk.1.1.2⟩)⟩, ⟨by repeat (first | (with_reducible first | exact HB.out | apply below_alloc | apply pw_below_drewN | apply below_drew1) | exact HB.out)⟩⟩
        · replace c16 := Bool.eq_false_iff.mpr c16
          subst c16
          have H1 : (laws_FnOrder.j0 k t216 t219 t222 true) = some r := by rw [if_neg (show ¬ (false = true) by decide)] at H; exact H
          clear H
          have H := H1
          clear H1
          have H' := Aside0.mk H
          clear H
          go_wp2_with (first | ((with_reducible refine gate_callee (f := 30) rfl ?_); refine goesL_ (some 19) rfl rfl Try.func30 (by kernel_rfl) rfl #[.slice Ao8 t216.length co8] rfl (by (try simp only [List.map_toArray, List.map_cons, List.map_nil]); first | done | rfl | (simp only [List.length_drop, List.length_take]; rfl)) ?_; (with_reducible refine (spec_OrderOf.calls k _ _ t216 t225 _ ?side1 ?side2 A11.out).mono ?_); (case side1 => repeat (first | exact (Kd.R_reads' HO218.out).2.2 | (with_reducible refine Kd.C_alloc ?_ _) | (with_reducible refine Kd.C_drewN ?_ _) | (with_reducible refine Kd.C_drew ?_))); (case side2 => exact (Kd.R_reads' HO218.out).2.1); rintro e w23 ⟨v226, rfl, ho0, hb⟩; refine ⟨_, rfl, ?_⟩; have n0_ := Aside0.mk (Kd.R_elder' (by (with_reducible repeat (first | apply Kd.R_alloc | apply Kd.R_drewN | apply Kd.R_drew)); exact HO218.out) (Kd.R_base ho0) hb); have n1_ := Aside0.mk (Kd.R_elder' (by (with_reducible repeat (first | apply Kd.R_alloc | apply Kd.R_drewN | apply Kd.R_drew)); exact HO221.out) (Kd.R_base ho0) hb); have n2_ := Aside0.mk (Kd.R_elder' (by (with_reducible repeat (first | apply Kd.R_alloc | apply Kd.R_drewN | apply Kd.R_drew)); exact HO224.out) (Kd.R_base ho0) hb); have n3_ := Aside0.mk (Kd.R_lower (Kd.R_new' (Kd.R_new' (Kd.R_new' ho0 (Kd.R_lt (by (with_reducible repeat (first | apply Kd.R_alloc | apply Kd.R_drewN | apply Kd.R_drew)); exact HO218.out))) (Kd.R_lt (by (with_reducible repeat (first | apply Kd.R_alloc | apply Kd.R_drewN | apply Kd.R_drew)); exact HO221.out))) (Kd.R_lt (by (with_reducible repeat (first | apply Kd.R_alloc | apply Kd.R_drewN | apply Kd.R_drew)); exact HO224.out))) (below_size (by repeat (first | (with_reducible first | exact HB.out | apply below_alloc | apply pw_below_drewN | apply below_drew1) | exact HB.out)))); have n4_ := Aside0.mk (below_step (by repeat (first | (with_reducible first | exact HB.out | apply below_alloc | apply pw_below_drewN | apply below_drew1) | exact HB.out)) hb); clear HO218; clear HO221; clear HO224; clear HB; have HO218 := n0_; have HO221 := n1_; have HO224 := n2_; have HO227 := n3_; have HB := n4_; clear n0_ n1_ n2_ n3_ n4_; (try clear hb); (try clear hb2); (try clear hk); (try clear hi); (try clear ho0); obtain ⟨Ao24, co24, eo24⟩ := Kd.R_slice HO221.out; subst eo24; obtain ⟨Ao25, co25, eo25⟩ := Kd.R_slice HO227.out; subst eo25) | ((with_reducible refine gate_callee (f := 25) rfl ?_); refine goesL_ (some 20) rfl rfl Try.func25 (by kernel_rfl) rfl #[.slice Ao24 t219.length co24, .slice Ao25 t225.length co25] rfl (by (try simp only [List.map_toArray, List.map_cons, List.map_nil]); first | done | rfl | (simp only [List.length_drop, List.length_take]; rfl)) ?_; (with_reducible refine (laws_wcInts.calls k _ _ t219 _ _ t225 true _ ?side1 ?side2 ?side3 ?side4 A12.out).mono ?_); (case side1 => repeat (first | exact (Kd.R_reads' HO221.out).2.2 | (with_reducible refine Kd.C_alloc ?_ _) | (with_reducible refine Kd.C_drewN ?_ _) | (with_reducible refine Kd.C_drew ?_))); (case side2 => exact (Kd.R_reads' HO221.out).2.1); (case side3 => repeat (first | exact (Kd.R_reads' HO227.out).2.2 | (with_reducible refine Kd.C_alloc ?_ _) | (with_reducible refine Kd.C_drewN ?_ _) | (with_reducible refine Kd.C_drew ?_))); (case side4 => exact (Kd.R_reads' HO227.out).2.1); rintro e w' ⟨rfl, ⟨nd, rfl⟩⟩; refine ⟨_, rfl, ?_⟩) | (go_at_call 31; (with_reducible refine (spec_OrderBack.calls k _ _ t216 t229 _ ?side1 ?side2 A14.out).mono ?_); (case side1 => repeat (first | exact (Kd.R_reads' HO218.out).2.2 | (with_reducible refine Kd.C_alloc ?_ _) | (with_reducible refine Kd.C_drewN ?_ _) | (with_reducible refine Kd.C_drew ?_))); (case side2 => exact (Kd.R_reads' HO218.out).2.1); rintro e w26 ⟨v230, rfl, ho0, hb⟩; have n0_ := Aside0.mk (Kd.R_elder' (by (with_reducible repeat (first | apply Kd.R_alloc | apply Kd.R_drewN | apply Kd.R_drew)); exact HO218.out) (Kd.R_base ho0) hb); have n1_ := Aside0.mk (Kd.R_elder' (by (with_reducible repeat (first | apply Kd.R_alloc | apply Kd.R_drewN | apply Kd.R_drew)); exact HO221.out) (Kd.R_base ho0) hb); have n2_ := Aside0.mk (Kd.R_elder' (by (with_reducible repeat (first | apply Kd.R_alloc | apply Kd.R_drewN | apply Kd.R_drew)); exact HO224.out) (Kd.R_base ho0) hb); have n3_ := Aside0.mk (Kd.R_elder' (by (with_reducible repeat (first | apply Kd.R_alloc | apply Kd.R_drewN | apply Kd.R_drew)); exact HO227.out) (Kd.R_base ho0) hb); have n4_ := Aside0.mk (Kd.R_lower (Kd.R_new' (Kd.R_new' (Kd.R_new' (Kd.R_new' ho0 (Kd.R_lt (by (with_reducible repeat (first | apply Kd.R_alloc | apply Kd.R_drewN | apply Kd.R_drew)); exact HO218.out))) (Kd.R_lt (by (with_reducible repeat (first | apply Kd.R_alloc | apply Kd.R_drewN | apply Kd.R_drew)); exact HO221.out))) (Kd.R_lt (by (with_reducible repeat (first | apply Kd.R_alloc | apply Kd.R_drewN | apply Kd.R_drew)); exact HO224.out))) (Kd.R_lt (by (with_reducible repeat (first | apply Kd.R_alloc | apply Kd.R_drewN | apply Kd.R_drew)); exact HO227.out))) (below_size (by repeat (first | (with_reducible first | exact HB.out | apply below_alloc | apply pw_below_drewN | apply below_drew1) | exact HB.out)))); have n5_ := Aside0.mk (below_step (by repeat (first | (with_reducible first | exact HB.out | apply below_alloc | apply pw_below_drewN | apply below_drew1) | exact HB.out)) hb); clear HO218; clear HO221; clear HO224; clear HO227; clear HB; have HO218 := n0_; have HO221 := n1_; have HO224 := n2_; have HO227 := n3_; have HO231 := n4_; have HB := n5_; clear n0_ n1_ n2_ n3_ n4_ n5_; (try clear hb); (try clear hb2); (try clear hk); (try clear hi); (try clear ho0); obtain ⟨Ao27, co27, eo27⟩ := Kd.R_slice HO224.out; subst eo27; obtain ⟨Ao28, co28, eo28⟩ := Kd.R_slice HO231.out; subst eo28) | (go_at_call 25; (with_reducible refine (laws_wcInts.calls k _ _ t222 _ _ t229 false _ ?side1 ?side2 ?side3 ?side4 A15.out).mono ?_); (case side1 => repeat (first | exact (Kd.R_reads' HO224.out).2.2 | (with_reducible refine Kd.C_alloc ?_ _) | (with_reducible refine Kd.C_drewN ?_ _) | (with_reducible refine Kd.C_drew ?_))); (case side2 => exact (Kd.R_reads' HO224.out).2.1); (case side3 => repeat (first | exact (Kd.R_reads' HO231.out).2.2 | (with_reducible refine Kd.C_alloc ?_ _) | (with_reducible refine Kd.C_drewN ?_ _) | (with_reducible refine Kd.C_drew ?_))); (case side4 => exact (Kd.R_reads' HO231.out).2.1); rintro e w' ⟨rfl, ⟨nd, rfl⟩⟩))
          go_meet
          case rel => exact ⟨_, (true), (by first | rfl | (simp; done) | (simp [*]; done)), H', ⟨by first | omega | exact Nat.le_refl _⟩, ⟨by (with_reducible repeat (first | apply Kd.R_alloc | apply Kd.R_drewN | apply Kd.R_drew)); exact Kd.R_mono HO218.out (fun _ hk => ⟨hk.1.1.1.2, hk.1.1.2⟩)⟩, ⟨by (with_reducible repeat (first | apply Kd.R_alloc | apply Kd.R_drewN | apply Kd.R_drew)); exact Kd.R_mono HO221.out (fun _ hk => ⟨hk.1.1.1.2, hk.1.1.2⟩)⟩, ⟨by (with_reducible repeat (first | apply Kd.R_alloc | apply Kd.R_drewN | apply Kd.R_drew)); exact Kd.R_mono HO224.out (fun _ hk => ⟨hk.1.1.1.2, hk.1.1.2⟩)⟩, ⟨by repeat (first | (with_reducible first | exact HB.out | apply below_alloc | apply pw_below_drewN | apply below_drew1) | exact HB.out)⟩⟩
      · replace c13 := Bool.eq_false_iff.mpr c13
        subst c13
        have H1 : (laws_FnOrder.j0 k t216 t219 t222 true) = some r := by rw [if_neg (show ¬ (false = true) by decide)] at H; exact H
        clear H
        have H := H1
        clear H1
        have H' := Aside0.mk H
        clear H
        go_wp2_with (first | ((with_reducible refine gate_callee (f := 30) rfl ?_); refine goesL_ (some 19) rfl rfl Try.func30 (by kernel_rfl) rfl #[.slice Ao8 t216.length co8] rfl (by (try simp only [List.map_toArray, List.map_cons, List.map_nil]); first | done | rfl | (simp only [List.length_drop, List.length_take]; rfl)) ?_; (with_reducible refine (spec_OrderOf.calls k _ _ t216 t225 _ ?side1 ?side2 A11.out).mono ?_); (case side1 => repeat (first | exact (Kd.R_reads' HO218.out).2.2 | (with_reducible refine Kd.C_alloc ?_ _) | (with_reducible refine Kd.C_drewN ?_ _) | (with_reducible refine Kd.C_drew ?_))); (case side2 => exact (Kd.R_reads' HO218.out).2.1); rintro e w29 ⟨v226, rfl, ho0, hb⟩; refine ⟨_, rfl, ?_⟩; have n0_ := Aside0.mk (Kd.R_elder' (by (with_reducible repeat (first | apply Kd.R_alloc | apply Kd.R_drewN | apply Kd.R_drew)); exact HO218.out) (Kd.R_base ho0) hb); have n1_ := Aside0.mk (Kd.R_elder' (by (with_reducible repeat (first | apply Kd.R_alloc | apply Kd.R_drewN | apply Kd.R_drew)); exact HO221.out) (Kd.R_base ho0) hb); have n2_ := Aside0.mk (Kd.R_elder' (by (with_reducible repeat (first | apply Kd.R_alloc | apply Kd.R_drewN | apply Kd.R_drew)); exact HO224.out) (Kd.R_base ho0) hb); have n3_ := Aside0.mk (Kd.R_lower (Kd.R_new' (Kd.R_new' (Kd.R_new' ho0 (Kd.R_lt (by (with_reducible repeat (first | apply Kd.R_alloc | apply Kd.R_drewN | apply Kd.R_drew)); exact HO218.out))) (Kd.R_lt (by (with_reducible repeat (first | apply Kd.R_alloc | apply Kd.R_drewN | apply Kd.R_drew)); exact HO221.out))) (Kd.R_lt (by (with_reducible repeat (first | apply Kd.R_alloc | apply Kd.R_drewN | apply Kd.R_drew)); exact HO224.out))) (below_size (by repeat (first | (with_reducible first | exact HB.out | apply below_alloc | apply pw_below_drewN | apply below_drew1) | exact HB.out)))); have n4_ := Aside0.mk (below_step (by repeat (first | (with_reducible first | exact HB.out | apply below_alloc | apply pw_below_drewN | apply below_drew1) | exact HB.out)) hb); clear HO218; clear HO221; clear HO224; clear HB; have HO218 := n0_; have HO221 := n1_; have HO224 := n2_; have HO227 := n3_; have HB := n4_; clear n0_ n1_ n2_ n3_ n4_; (try clear hb); (try clear hb2); (try clear hk); (try clear hi); (try clear ho0); obtain ⟨Ao30, co30, eo30⟩ := Kd.R_slice HO221.out; subst eo30; obtain ⟨Ao31, co31, eo31⟩ := Kd.R_slice HO227.out; subst eo31) | ((with_reducible refine gate_callee (f := 25) rfl ?_); refine goesL_ (some 20) rfl rfl Try.func25 (by kernel_rfl) rfl #[.slice Ao30 t219.length co30, .slice Ao31 t225.length co31] rfl (by (try simp only [List.map_toArray, List.map_cons, List.map_nil]); first | done | rfl | (simp only [List.length_drop, List.length_take]; rfl)) ?_; (with_reducible refine (laws_wcInts.calls k _ _ t219 _ _ t225 false _ ?side1 ?side2 ?side3 ?side4 A12.out).mono ?_); (case side1 => repeat (first | exact (Kd.R_reads' HO221.out).2.2 | (with_reducible refine Kd.C_alloc ?_ _) | (with_reducible refine Kd.C_drewN ?_ _) | (with_reducible refine Kd.C_drew ?_))); (case side2 => exact (Kd.R_reads' HO221.out).2.1); (case side3 => repeat (first | exact (Kd.R_reads' HO227.out).2.2 | (with_reducible refine Kd.C_alloc ?_ _) | (with_reducible refine Kd.C_drewN ?_ _) | (with_reducible refine Kd.C_drew ?_))); (case side4 => exact (Kd.R_reads' HO227.out).2.1); rintro e w' ⟨rfl, ⟨nd, rfl⟩⟩; refine ⟨_, rfl, ?_⟩))
        go_meet
        case rel => exact ⟨_, (true), (by first | rfl | (simp; done) | (simp [*]; done)), H', ⟨by first | omega | exact Nat.le_refl _⟩, ⟨by (with_reducible repeat (first | apply Kd.R_alloc | apply Kd.R_drewN | apply Kd.R_drew)); exact Kd.R_mono HO218.out (fun _ hk => ⟨hk.1.1.2, hk.1.2⟩)⟩, ⟨by (with_reducible repeat (first | apply Kd.R_alloc | apply Kd.R_drewN | apply Kd.R_drew)); exact Kd.R_mono HO221.out (fun _ hk => ⟨hk.1.1.2, hk.1.2⟩)⟩, ⟨by (with_reducible repeat (first | apply Kd.R_alloc | apply Kd.R_drewN | apply Kd.R_drew)); exact Kd.R_mono HO224.out (fun _ hk => ⟨hk.1.1.2, hk.1.2⟩)⟩, ⟨by repeat (first | (with_reducible first | exact HB.out | apply below_alloc | apply pw_below_drewN | apply below_drew1) | exact HB.out)⟩⟩
    case rest =>
      clear HC6
      try clear c1
      try clear c2
      try clear c2b0
      try clear c2b1
      try clear p2
      try clear c3
      try clear c10
      try clear c13
      try clear c16
      try clear c25
      try clear c28
      try clear c29
      try clear c30
      obtain ⟨kq, x33_5, rfl, HA, HJ5, HO_3, HO_4, HO_5, HB⟩ := hcut
      cases kq with
      | zero => exact absurd HA.out (by simp [laws_FnOrder.j0])
      | succ kj5 =>
        have H := HA.out
        clear HA
        simp only [laws_FnOrder.j0] at H
        by_cases c32 : x33_5 = true
        · subst c32
          have H1 : ((spec_OrderOf.f kj5 t216).bind fun t233 => ((laws_wcInts.f kj5 t219 t233).bind fun t236 => (if t236 = true then ((spec_OrderBack.f kj5 t216).bind fun t237 => ((laws_wcInts.f kj5 t222 t237).bind fun t240 => (some t240))) else (some false)))) = some r := by rw [if_pos rfl] at H; exact H
          clear H
          have H := H1
          clear H1
          replace H := Option.bind_eq_some_iff.mp H
          obtain ⟨t233, A330, H⟩ := H
          replace H : ((laws_wcInts.f kj5 t219 t233).bind fun t236 => (if t236 = true then ((spec_OrderBack.f kj5 t216).bind fun t237 => ((laws_wcInts.f kj5 t222 t237).bind fun t240 => (some t240))) else (some false))) = some r := H
          have A33 := Aside0.mk A330
          clear A330
          replace H := Option.bind_eq_some_iff.mp H
          obtain ⟨t236, A340, H⟩ := H
          replace H : (if t236 = true then ((spec_OrderBack.f kj5 t216).bind fun t237 => ((laws_wcInts.f kj5 t222 t237).bind fun t240 => (some t240))) else (some false)) = some r := H
          have A34 := Aside0.mk A340
          clear A340
          by_cases c35 : t236 = true
          · subst c35
            have H1 : ((spec_OrderBack.f kj5 t216).bind fun t237 => ((laws_wcInts.f kj5 t222 t237).bind fun t240 => (some t240))) = some r := by rw [if_pos rfl] at H; exact H
            clear H
            have H := H1
            clear H1
            replace H := Option.bind_eq_some_iff.mp H
            obtain ⟨t237, A360, H⟩ := H
            replace H : ((laws_wcInts.f kj5 t222 t237).bind fun t240 => (some t240)) = some r := H
            have A36 := Aside0.mk A360
            clear A360
            replace H := Option.bind_eq_some_iff.mp H
            obtain ⟨t240, A370, H⟩ := H
            replace H : (some t240) = some r := H
            have A37 := Aside0.mk A370
            clear A370
            obtain rfl := Option.some.inj H
            go_wp2_with (first | ((with_reducible refine gate_callee (f := 30) rfl ?_); refine goesL_ (some 36) rfl rfl Try.func30 (by kernel_rfl) rfl #[.slice Ao8 t216.length co8] rfl (by (try simp only [List.map_toArray, List.map_cons, List.map_nil]); first | done | rfl | (simp only [List.length_drop, List.length_take]; rfl)) ?_; (with_reducible refine (spec_OrderOf.calls kj5 _ _ t216 t233 _ ?side1 ?side2 A33.out).mono ?_); (case side1 => repeat (first | exact (Kd.R_reads' HO_3.out).2.2 | (with_reducible refine Kd.C_alloc ?_ _) | (with_reducible refine Kd.C_drewN ?_ _) | (with_reducible refine Kd.C_drew ?_))); (case side2 => exact (Kd.R_reads' HO_3.out).2.1); rintro e w38 ⟨v234, rfl, ho0, hb⟩; refine ⟨_, rfl, ?_⟩; have n0_ := Aside0.mk (Kd.R_elder' (by (with_reducible repeat (first | apply Kd.R_alloc | apply Kd.R_drewN | apply Kd.R_drew)); exact HO_3.out) (Kd.R_base ho0) hb); have n1_ := Aside0.mk (Kd.R_elder' (by (with_reducible repeat (first | apply Kd.R_alloc | apply Kd.R_drewN | apply Kd.R_drew)); exact HO_4.out) (Kd.R_base ho0) hb); have n2_ := Aside0.mk (Kd.R_elder' (by (with_reducible repeat (first | apply Kd.R_alloc | apply Kd.R_drewN | apply Kd.R_drew)); exact HO_5.out) (Kd.R_base ho0) hb); have n3_ := Aside0.mk (Kd.R_lower (Kd.R_new' (Kd.R_new' (Kd.R_new' ho0 (Kd.R_lt (by (with_reducible repeat (first | apply Kd.R_alloc | apply Kd.R_drewN | apply Kd.R_drew)); exact HO_3.out))) (Kd.R_lt (by (with_reducible repeat (first | apply Kd.R_alloc | apply Kd.R_drewN | apply Kd.R_drew)); exact HO_4.out))) (Kd.R_lt (by (with_reducible repeat (first | apply Kd.R_alloc | apply Kd.R_drewN | apply Kd.R_drew)); exact HO_5.out))) (below_size (by repeat (first | (with_reducible first | exact HB.out | apply below_alloc | apply pw_below_drewN | apply below_drew1) | exact HB.out)))); have n4_ := Aside0.mk (below_step (by repeat (first | (with_reducible first | exact HB.out | apply below_alloc | apply pw_below_drewN | apply below_drew1) | exact HB.out)) hb); clear HO_3; clear HO_4; clear HO_5; clear HB; have HO_3 := n0_; have HO_4 := n1_; have HO_5 := n2_; have HO235 := n3_; have HB := n4_; clear n0_ n1_ n2_ n3_ n4_; (try clear hb); (try clear hb2); (try clear hk); (try clear hi); (try clear ho0); obtain ⟨Ao39, co39, eo39⟩ := Kd.R_slice HO_4.out; subst eo39; obtain ⟨Ao40, co40, eo40⟩ := Kd.R_slice HO235.out; subst eo40) | ((with_reducible refine gate_callee (f := 25) rfl ?_); refine goesL_ (some 37) rfl rfl Try.func25 (by kernel_rfl) rfl #[.slice Ao39 t219.length co39, .slice Ao40 t233.length co40] rfl (by (try simp only [List.map_toArray, List.map_cons, List.map_nil]); first | done | rfl | (simp only [List.length_drop, List.length_take]; rfl)) ?_; (with_reducible refine (laws_wcInts.calls kj5 _ _ t219 _ _ t233 true _ ?side1 ?side2 ?side3 ?side4 A34.out).mono ?_); (case side1 => repeat (first | exact (Kd.R_reads' HO_4.out).2.2 | (with_reducible refine Kd.C_alloc ?_ _) | (with_reducible refine Kd.C_drewN ?_ _) | (with_reducible refine Kd.C_drew ?_))); (case side2 => exact (Kd.R_reads' HO_4.out).2.1); (case side3 => repeat (first | exact (Kd.R_reads' HO235.out).2.2 | (with_reducible refine Kd.C_alloc ?_ _) | (with_reducible refine Kd.C_drewN ?_ _) | (with_reducible refine Kd.C_drew ?_))); (case side4 => exact (Kd.R_reads' HO235.out).2.1); rintro e w' ⟨rfl, ⟨nd, rfl⟩⟩; refine ⟨_, rfl, ?_⟩) | (go_at_call 31; (with_reducible refine (spec_OrderBack.calls kj5 _ _ t216 t237 _ ?side1 ?side2 A36.out).mono ?_); (case side1 => repeat (first | exact (Kd.R_reads' HO_3.out).2.2 | (with_reducible refine Kd.C_alloc ?_ _) | (with_reducible refine Kd.C_drewN ?_ _) | (with_reducible refine Kd.C_drew ?_))); (case side2 => exact (Kd.R_reads' HO_3.out).2.1); rintro e w41 ⟨v238, rfl, ho0, hb⟩; have n0_ := Aside0.mk (Kd.R_elder' (by (with_reducible repeat (first | apply Kd.R_alloc | apply Kd.R_drewN | apply Kd.R_drew)); exact HO_3.out) (Kd.R_base ho0) hb); have n1_ := Aside0.mk (Kd.R_elder' (by (with_reducible repeat (first | apply Kd.R_alloc | apply Kd.R_drewN | apply Kd.R_drew)); exact HO_4.out) (Kd.R_base ho0) hb); have n2_ := Aside0.mk (Kd.R_elder' (by (with_reducible repeat (first | apply Kd.R_alloc | apply Kd.R_drewN | apply Kd.R_drew)); exact HO_5.out) (Kd.R_base ho0) hb); have n3_ := Aside0.mk (Kd.R_elder' (by (with_reducible repeat (first | apply Kd.R_alloc | apply Kd.R_drewN | apply Kd.R_drew)); exact HO235.out) (Kd.R_base ho0) hb); have n4_ := Aside0.mk (Kd.R_lower (Kd.R_new' (Kd.R_new' (Kd.R_new' (Kd.R_new' ho0 (Kd.R_lt (by (with_reducible repeat (first | apply Kd.R_alloc | apply Kd.R_drewN | apply Kd.R_drew)); exact HO_3.out))) (Kd.R_lt (by (with_reducible repeat (first | apply Kd.R_alloc | apply Kd.R_drewN | apply Kd.R_drew)); exact HO_4.out))) (Kd.R_lt (by (with_reducible repeat (first | apply Kd.R_alloc | apply Kd.R_drewN | apply Kd.R_drew)); exact HO_5.out))) (Kd.R_lt (by (with_reducible repeat (first | apply Kd.R_alloc | apply Kd.R_drewN | apply Kd.R_drew)); exact HO235.out))) (below_size (by repeat (first | (with_reducible first | exact HB.out | apply below_alloc | apply pw_below_drewN | apply below_drew1) | exact HB.out)))); have n5_ := Aside0.mk (below_step (by repeat (first | (with_reducible first | exact HB.out | apply below_alloc | apply pw_below_drewN | apply below_drew1) | exact HB.out)) hb); clear HO_3; clear HO_4; clear HO_5; clear HO235; clear HB; have HO_3 := n0_; have HO_4 := n1_; have HO_5 := n2_; have HO235 := n3_; have HO239 := n4_; have HB := n5_; clear n0_ n1_ n2_ n3_ n4_ n5_; (try clear hb); (try clear hb2); (try clear hk); (try clear hi); (try clear ho0); obtain ⟨Ao42, co42, eo42⟩ := Kd.R_slice HO_5.out; subst eo42; obtain ⟨Ao43, co43, eo43⟩ := Kd.R_slice HO239.out; subst eo43) | (go_at_call 25; (with_reducible refine (laws_wcInts.calls kj5 _ _ t222 _ _ t237 t240 _ ?side1 ?side2 ?side3 ?side4 A37.out).mono ?_); (case side1 => repeat (first | exact (Kd.R_reads' HO_5.out).2.2 | (with_reducible refine Kd.C_alloc ?_ _) | (with_reducible refine Kd.C_drewN ?_ _) | (with_reducible refine Kd.C_drew ?_))); (case side2 => exact (Kd.R_reads' HO_5.out).2.1); (case side3 => repeat (first | exact (Kd.R_reads' HO239.out).2.2 | (with_reducible refine Kd.C_alloc ?_ _) | (with_reducible refine Kd.C_drewN ?_ _) | (with_reducible refine Kd.C_drew ?_))); (case side4 => exact (Kd.R_reads' HO239.out).2.1); rintro e w' ⟨rfl, ⟨nd, rfl⟩⟩))
            go_ret
            exact ⟨by first | rfl | (simp [errW_none, errW_some] <;> rfl) | (simp [*, errW_none, errW_some] <;> rfl), by repeat (first | (with_reducible first | exact HB.out | apply below_alloc | apply pw_below_drewN | apply below_drew1) | exact HB.out)⟩
          · replace c35 := Bool.eq_false_iff.mpr c35
            subst c35
            have H1 : (some false) = some r := by rw [if_neg (show ¬ (false = true) by decide)] at H; exact H
            clear H
            have H := H1
            clear H1
            obtain rfl := Option.some.inj H
            go_wp2_with (first | ((with_reducible refine gate_callee (f := 30) rfl ?_); refine goesL_ (some 36) rfl rfl Try.func30 (by kernel_rfl) rfl #[.slice Ao8 t216.length co8] rfl (by (try simp only [List.map_toArray, List.map_cons, List.map_nil]); first | done | rfl | (simp only [List.length_drop, List.length_take]; rfl)) ?_; (with_reducible refine (spec_OrderOf.calls kj5 _ _ t216 t233 _ ?side1 ?side2 A33.out).mono ?_); (case side1 => repeat (first | exact (Kd.R_reads' HO_3.out).2.2 | (with_reducible refine Kd.C_alloc ?_ _) | (with_reducible refine Kd.C_drewN ?_ _) | (with_reducible refine Kd.C_drew ?_))); (case side2 => exact (Kd.R_reads' HO_3.out).2.1); rintro e w44 ⟨v234, rfl, ho0, hb⟩; refine ⟨_, rfl, ?_⟩; have n0_ := Aside0.mk (Kd.R_elder' (by (with_reducible repeat (first | apply Kd.R_alloc | apply Kd.R_drewN | apply Kd.R_drew)); exact HO_3.out) (Kd.R_base ho0) hb); have n1_ := Aside0.mk (Kd.R_elder' (by (with_reducible repeat (first | apply Kd.R_alloc | apply Kd.R_drewN | apply Kd.R_drew)); exact HO_4.out) (Kd.R_base ho0) hb); have n2_ := Aside0.mk (Kd.R_elder' (by (with_reducible repeat (first | apply Kd.R_alloc | apply Kd.R_drewN | apply Kd.R_drew)); exact HO_5.out) (Kd.R_base ho0) hb); have n3_ := Aside0.mk (Kd.R_lower (Kd.R_new' (Kd.R_new' (Kd.R_new' ho0 (Kd.R_lt (by (with_reducible repeat (first | apply Kd.R_alloc | apply Kd.R_drewN | apply Kd.R_drew)); exact HO_3.out))) (Kd.R_lt (by (with_reducible repeat (first | apply Kd.R_alloc | apply Kd.R_drewN | apply Kd.R_drew)); exact HO_4.out))) (Kd.R_lt (by (with_reducible repeat (first | apply Kd.R_alloc | apply Kd.R_drewN | apply Kd.R_drew)); exact HO_5.out))) (below_size (by repeat (first | (with_reducible first | exact HB.out | apply below_alloc | apply pw_below_drewN | apply below_drew1) | exact HB.out)))); have n4_ := Aside0.mk (below_step (by repeat (first | (with_reducible first | exact HB.out | apply below_alloc | apply pw_below_drewN | apply below_drew1) | exact HB.out)) hb); clear HO_3; clear HO_4; clear HO_5; clear HB; have HO_3 := n0_; have HO_4 := n1_; have HO_5 := n2_; have HO235 := n3_; have HB := n4_; clear n0_ n1_ n2_ n3_ n4_; (try clear hb); (try clear hb2); (try clear hk); (try clear hi); (try clear ho0); obtain ⟨Ao45, co45, eo45⟩ := Kd.R_slice HO_4.out; subst eo45; obtain ⟨Ao46, co46, eo46⟩ := Kd.R_slice HO235.out; subst eo46) | ((with_reducible refine gate_callee (f := 25) rfl ?_); refine goesL_ (some 37) rfl rfl Try.func25 (by kernel_rfl) rfl #[.slice Ao45 t219.length co45, .slice Ao46 t233.length co46] rfl (by (try simp only [List.map_toArray, List.map_cons, List.map_nil]); first | done | rfl | (simp only [List.length_drop, List.length_take]; rfl)) ?_; (with_reducible refine (laws_wcInts.calls kj5 _ _ t219 _ _ t233 false _ ?side1 ?side2 ?side3 ?side4 A34.out).mono ?_); (case side1 => repeat (first | exact (Kd.R_reads' HO_4.out).2.2 | (with_reducible refine Kd.C_alloc ?_ _) | (with_reducible refine Kd.C_drewN ?_ _) | (with_reducible refine Kd.C_drew ?_))); (case side2 => exact (Kd.R_reads' HO_4.out).2.1); (case side3 => repeat (first | exact (Kd.R_reads' HO235.out).2.2 | (with_reducible refine Kd.C_alloc ?_ _) | (with_reducible refine Kd.C_drewN ?_ _) | (with_reducible refine Kd.C_drew ?_))); (case side4 => exact (Kd.R_reads' HO235.out).2.1); rintro e w' ⟨rfl, ⟨nd, rfl⟩⟩; refine ⟨_, rfl, ?_⟩))
            go_ret
            exact ⟨by first | rfl | (simp [errW_none, errW_some] <;> rfl) | (simp [*, errW_none, errW_some] <;> rfl), by repeat (first | (with_reducible first | exact HB.out | apply below_alloc | apply pw_below_drewN | apply below_drew1) | exact HB.out)⟩
        · replace c32 := Bool.eq_false_iff.mpr c32
          subst c32
          have H1 : (laws_FnOrder.l0 kj5 t216 t219 t222 0 0) = some r := by rw [if_neg (show ¬ (false = true) by decide)] at H; exact H
          clear H
          have H := H1
          clear H1
          have H' := Aside0.mk H
          clear H
          go_wp2
          go_loopg [6, 7] kj5 (fun kq v6 v7 w' => ∃ (x6_2 : Int) (x7_2 : Int), v6 = .int .i64 x6_2 ∧ v7 = .int .i64 x7_2 ∧ Aside0 (laws_FnOrder.l0 kq t216 t219 t222 x6_2 x7_2 = some r) ∧ Aside0 (kq ≤ kj5) ∧ Aside0 (Kd.R (Kd.int .i64) 3 w' w.heap.size (fun k_ => some k_ ≠ (v220 : Value).ownBlock ∧ some k_ ≠ (v223 : Value).ownBlock) (.slice Ao8 t216.length co8) t216) ∧ Aside0 (Kd.R (Kd.int .i64) 3 w' w.heap.size (fun k_ => some k_ ≠ ((.slice Ao8 t216.length co8) : Value).ownBlock ∧ some k_ ≠ (v223 : Value).ownBlock) v220 t219) ∧ Aside0 (Kd.R (Kd.int .i64) 3 w' w.heap.size (fun k_ => some k_ ≠ ((.slice Ao8 t216.length co8) : Value).ownBlock ∧ some k_ ≠ (v220 : Value).ownBlock) v223 t222) ∧ Aside0 (Below w.heap.size w w'))
          case atStart => exact ⟨(0), (0), (by first | rfl | (simp; done) | (simp [*]; done)), (by first | rfl | (simp; done) | (simp [*]; done)), H', ⟨Nat.le_refl _⟩, ⟨by (with_reducible repeat (first | apply Kd.R_alloc | apply Kd.R_drewN | apply Kd.R_drew)); exact HO_3.out⟩, ⟨by (with_reducible repeat (first | apply Kd.R_alloc | apply Kd.R_drewN | apply Kd.R_drew)); exact HO_4.out⟩, ⟨by (with_reducible repeat (first | apply Kd.R_alloc | apply Kd.R_drewN | apply Kd.R_drew)); exact HO_5.out⟩, ⟨by repeat (first | (with_reducible first | exact HB.out | apply below_alloc | apply pw_below_drewN | apply below_drew1) | exact HB.out)⟩⟩
          case round =>
            clear H'
            try clear c1
            try clear c2
            try clear c2b0
            try clear c2b1
            try clear p2
            try clear c3
            try clear c10
            try clear c13
            try clear c16
            try clear c25
            try clear c28
            try clear c29
            try clear c30
            try clear c32
            try clear c35
            try clear p2
            obtain ⟨x6_2, x7_2, rfl, rfl, HA, HK2, HO_3, HO_4, HO_5, HB⟩ := hrel
            cases gk with
            | zero => exact absurd HA.out (by simp [laws_FnOrder.l0])
            | succ k2 =>
              have H := HA.out
              clear HA
              simp only [laws_FnOrder.l0] at H
              by_cases c47 : x7_2 < (t216.length : Int)
              · rw [if_pos c47] at H
                have c47b0 : decide (x7_2 < (t216.length : Int)) = true := decide_eq_true c47
                clear c47
                have HC48 := Aside0.mk H
                clear H
                go_upto_region 12 with (fail)
                go_cut [90] (fun v90 wc => ∃ (kq : Nat) (x90_47 : Bool), v90 = .bool x90_47 ∧ Aside0 (laws_FnOrder.j2 kq t216 t219 t222 x6_2 x7_2 x90_47 = some r) ∧ Aside0 (kq ≤ k2) ∧ Aside0 (Kd.R (Kd.int .i64) 3 wc w.heap.size (fun k_ => some k_ ≠ (v220 : Value).ownBlock ∧ some k_ ≠ (v223 : Value).ownBlock) (.slice Ao8 t216.length co8) t216) ∧ Aside0 (Kd.R (Kd.int .i64) 3 wc w.heap.size (fun k_ => some k_ ≠ ((.slice Ao8 t216.length co8) : Value).ownBlock ∧ some k_ ≠ (v223 : Value).ownBlock) v220 t219) ∧ Aside0 (Kd.R (Kd.int .i64) 3 wc w.heap.size (fun k_ => some k_ ≠ ((.slice Ao8 t216.length co8) : Value).ownBlock ∧ some k_ ≠ (v220 : Value).ownBlock) v223 t222) ∧ Aside0 (Below w.heap.size w wc))
                case first =>
                  have H := HC48.out
                  clear HC48
                  by_cases c49 : 0 ≤ x7_2
                  · rw [if_pos c49] at H
                    have c49b0 : decide (0 ≤ x7_2) = true := decide_eq_true c49
                    clear c49
                    (first | rw [c49b0] | (simp only [i64_w, i32_w]; rw [c49b0]) | skip)
                    by_cases c50 : (rd t216 x7_2) < 0
                    · rw [if_pos c50] at H
                      have c50b0 : decide ((rd t216 x7_2) < 0) = true := decide_eq_true c50
                      clear c50
                      by_cases c51 : x7_2 < (t222.length : Int)
                      · rw [if_pos c51] at H
                        have c51b0 : decide (x7_2 < (t222.length : Int)) = true := decide_eq_true c51
                        clear c51
                        by_cases c52 : (rd t222 x7_2) = (-1)
                        · rw [if_pos c52] at H
                          have c52b0 : ((rd t222 x7_2) == (-1)) = true := beq_iff_eq.mpr c52
                          have c52b1 : ((rd t222 x7_2) != (-1)) = false := bne_eq_false_iff_eq.mpr c52
                          clear c52
                          by_cases c53 : (rd t216 x7_2) ≥ 0
                          · rw [if_pos c53] at H
                            have c53b0 : decide (0 ≤ (rd t216 x7_2)) = true := decide_eq_true c53
                            clear c53
                            replace H := Option.bind_eq_some_iff.mp H
                            obtain ⟨t245, A540, H⟩ := H
                            replace H : (if t245 = true then (if 0 ≤ (rd t222 x7_2) then (if (rd t222 x7_2) < (t219.length : Int) then (laws_FnOrder.j2 k2 t216 t219 t222 x6_2 x7_2 ((rd t219 (rd t222 x7_2)) != x7_2)) else (none)) else (none)) else (laws_FnOrder.j2 k2 t216 t219 t222 x6_2 x7_2 true)) = some r := H
                            have A54 := Aside0.mk A540
                            clear A540
                            by_cases c55 : t245 = true
                            · subst c55
                              have H1 : (if 0 ≤ (rd t222 x7_2) then (if (rd t222 x7_2) < (t219.length : Int) then (laws_FnOrder.j2 k2 t216 t219 t222 x6_2 x7_2 ((rd t219 (rd t222 x7_2)) != x7_2)) else (none)) else (none)) = some r := by rw [if_pos rfl] at H; exact H
                              clear H
                              have H := H1
                              clear H1
                              by_cases c56 : 0 ≤ (rd t222 x7_2)
                              · rw [if_pos c56] at H
                                have c56b0 : decide (0 ≤ (rd t222 x7_2)) = true := decide_eq_true c56
                                clear c56
                                by_cases c57 : (rd t222 x7_2) < (t219.length : Int)
                                · rw [if_pos c57] at H
                                  have c57b0 : decide ((rd t222 x7_2) < (t219.length : Int)) = true := decide_eq_true c57
                                  clear c57
                                  have H' := Aside0.mk H
                                  clear H
                                  have p241 : 0 ≤ (x7_2 : Int) := of_decide_eq_true (by first | (with_reducible assumption) | assumption)
                                  have q241 : x7_2 < (t216.length : Int) := of_decide_eq_true (by first | (with_reducible assumption) | assumption)
                                  obtain ⟨ad241, e241, hx241_0⟩ := Kd.at_int (Kd.R_reads' HO_3.out).2.2 x7_2 p241 q241
                                  cases e241
                                  replace p241 := eq_true p241
                                  replace q241 := eq_true q241
                                  obtain ⟨Ao58, co58, eo58⟩ := Kd.R_slice HO_5.out
                                  subst eo58
                                  have p242 : 0 ≤ (x7_2 : Int) := of_decide_eq_true (by first | (with_reducible assumption) | assumption)
                                  have q242 : x7_2 < (t222.length : Int) := of_decide_eq_true (by first | (with_reducible assumption) | assumption)
                                  obtain ⟨ad242, e242, hx242_0⟩ := Kd.at_int (Kd.R_reads' HO_5.out).2.2 x7_2 p242 q242
                                  cases e242
                                  replace p242 := eq_true p242
                                  replace q242 := eq_true q242
                                  have p243 : 0 ≤ (x7_2 : Int) := of_decide_eq_true (by first | (with_reducible assumption) | assumption)
                                  have q243 : x7_2 < (t216.length : Int) := of_decide_eq_true (by first | (with_reducible assumption) | assumption)
                                  obtain ⟨ad243, e243, hx243_0⟩ := Kd.at_int (Kd.R_reads' HO_3.out).2.2 x7_2 p243 q243
                                  obtain rfl : ad241 = ad243 := (by injection e243)
                                  replace p243 := eq_true p243
                                  replace q243 := eq_true q243
                                  have p244 : 0 ≤ (x7_2 : Int) := of_decide_eq_true (by first | (with_reducible assumption) | assumption)
                                  have q244 : x7_2 < (t222.length : Int) := of_decide_eq_true (by first | (with_reducible assumption) | assumption)
                                  obtain ⟨ad244, e244, hx244_0⟩ := Kd.at_int (Kd.R_reads' HO_5.out).2.2 x7_2 p244 q244
                                  obtain rfl : ad242 = ad244 := (by injection e244)
                                  replace p244 := eq_true p244
                                  replace q244 := eq_true q244
                                  obtain ⟨Ao59, co59, eo59⟩ := Kd.R_slice HO_4.out
                                  subst eo59
                                  go_wp2_with (first | (go_at_call 39; (with_reducible refine (laws_wcIn.calls (rd t222 x7_2) 0 (wrap64 ((t219.length : Int) - 1)) true _ A54.out).mono ?_); rintro e w' ⟨rfl, ⟨nd, rfl⟩⟩; have p246 : 0 ≤ (x7_2 : Int) := of_decide_eq_true (by first | (with_reducible assumption) | assumption); have q246 : x7_2 < (t222.length : Int) := of_decide_eq_true (by first | (with_reducible assumption) | assumption); obtain ⟨ad246, e246, hx246_0⟩ := Kd.at_int (Kd.R_reads' HO_5.out).2.2 x7_2 p246 q246; obtain rfl : ad242 = ad246 := (by injection e246); replace p246 := eq_true p246; replace q246 := eq_true q246; have p247 : 0 ≤ ((rd t222 x7_2) : Int) := of_decide_eq_true (by first | (with_reducible assumption) | assumption); have q247 : (rd t222 x7_2) < (t219.length : Int) := of_decide_eq_true (by first | (with_reducible assumption) | assumption); obtain ⟨ad247, e247, hx247_0⟩ := Kd.at_int (Kd.R_reads' HO_4.out).2.2 (rd t222 x7_2) p247 q247; cases e247; replace p247 := eq_true p247; replace q247 := eq_true q247))
                                  go_meet
                                  case rel => exact ⟨_, (((rd t219 (rd t222 x7_2)) != x7_2)), (by first | rfl | (simp; done) | (simp [*]; done)), H', ⟨by have := HJ5.out; have := HK2.out; first | omega | exact Nat.le_refl _⟩, ⟨by (with_reducible repeat (first | apply Kd.R_alloc | apply Kd.R_drewN | apply Kd.R_drew)); exact HO_3.out⟩, ⟨by (with_reducible repeat (first | apply Kd.R_alloc | apply Kd.R_drewN | apply Kd.R_drew)); exact HO_4.out⟩, ⟨by (with_reducible repeat (first | apply Kd.R_alloc | apply Kd.R_drewN | apply Kd.R_drew)); exact HO_5.out⟩, ⟨by repeat (first | (with_reducible first | exact HB.out | apply below_alloc | apply pw_below_drewN | apply below_drew1) | exact HB.out)⟩⟩
                                · rw [if_neg c57] at H
                                  exact absurd H (by simp)
                              · rw [if_neg c56] at H
                                exact absurd H (by simp)
                            · replace c55 := Bool.eq_false_iff.mpr c55
                              subst c55
                              have H1 : (laws_FnOrder.j2 k2 t216 t219 t222 x6_2 x7_2 true) = some r := by rw [if_neg (show ¬ (false = true) by decide)] at H; exact H
                              clear H
                              have H := H1
                              clear H1
                              have H' := Aside0.mk H
                              clear H
                              have p241 : 0 ≤ (x7_2 : Int) := of_decide_eq_true (by first | (with_reducible assumption) | assumption)
                              have q241 : x7_2 < (t216.length : Int) := of_decide_eq_true (by first | (with_reducible assumption) | assumption)
                              obtain ⟨ad241, e241, hx241_0⟩ := Kd.at_int (Kd.R_reads' HO_3.out).2.2 x7_2 p241 q241
                              cases e241
                              replace p241 := eq_true p241
                              replace q241 := eq_true q241
                              obtain ⟨Ao60, co60, eo60⟩ := Kd.R_slice HO_5.out
                              subst eo60
                              have p242 : 0 ≤ (x7_2 : Int) := of_decide_eq_true (by first | (with_reducible assumption) | assumption)
                              have q242 : x7_2 < (t222.length : Int) := of_decide_eq_true (by first | (with_reducible assumption) | assumption)
                              obtain ⟨ad242, e242, hx242_0⟩ := Kd.at_int (Kd.R_reads' HO_5.out).2.2 x7_2 p242 q242
                              cases e242
                              replace p242 := eq_true p242
                              replace q242 := eq_true q242
                              have p243 : 0 ≤ (x7_2 : Int) := of_decide_eq_true (by first | (with_reducible assumption) | assumption)
                              have q243 : x7_2 < (t216.length : Int) := of_decide_eq_true (by first | (with_reducible assumption) | assumption)
                              obtain ⟨ad243, e243, hx243_0⟩ := Kd.at_int (Kd.R_reads' HO_3.out).2.2 x7_2 p243 q243
                              obtain rfl : ad241 = ad243 := (by injection e243)
                              replace p243 := eq_true p243
                              replace q243 := eq_true q243
                              have p244 : 0 ≤ (x7_2 : Int) := of_decide_eq_true (by first | (with_reducible assumption) | assumption)
                              have q244 : x7_2 < (t222.length : Int) := of_decide_eq_true (by first | (with_reducible assumption) | assumption)
                              obtain ⟨ad244, e244, hx244_0⟩ := Kd.at_int (Kd.R_reads' HO_5.out).2.2 x7_2 p244 q244
                              obtain rfl : ad242 = ad244 := (by injection e244)
                              replace p244 := eq_true p244
                              replace q244 := eq_true q244
                              obtain ⟨Ao61, co61, eo61⟩ := Kd.R_slice HO_4.out
                              subst eo61
                              go_wp2_with (first | (go_at_call 39; (with_reducible refine (laws_wcIn.calls (rd t222 x7_2) 0 (wrap64 ((t219.length : Int) - 1)) false _ A54.out).mono ?_); rintro e w' ⟨rfl, ⟨nd, rfl⟩⟩))
                              go_meet
                              case rel => exact ⟨_, (true), (by first | rfl | (simp; done) | (simp [*]; done)), H', ⟨by have := HJ5.out; have := HK2.out; first | omega | exact Nat.le_refl _⟩, ⟨by (with_reducible repeat (first | apply Kd.R_alloc | apply Kd.R_drewN | apply Kd.R_drew)); exact HO_3.out⟩, ⟨by (with_reducible repeat (first | apply Kd.R_alloc | apply Kd.R_drewN | apply Kd.R_drew)); exact HO_4.out⟩, ⟨by (with_reducible repeat (first | apply Kd.R_alloc | apply Kd.R_drewN | apply Kd.R_drew)); exact HO_5.out⟩, ⟨by repeat (first | (with_reducible first | exact HB.out | apply below_alloc | apply pw_below_drewN | apply below_drew1) | exact HB.out)⟩⟩
                          · rw [if_neg c53] at H
                            have c53b0 : decide (0 ≤ (rd t216 x7_2)) = false := decide_eq_false c53
                            clear c53
                            have H' := Aside0.mk H
                            clear H
                            have p241 : 0 ≤ (x7_2 : Int) := of_decide_eq_true (by first | (with_reducible assumption) | assumption)
                            have q241 : x7_2 < (t216.length : Int) := of_decide_eq_true (by first | (with_reducible assumption) | assumption)
                            obtain ⟨ad241, e241, hx241_0⟩ := Kd.at_int (Kd.R_reads' HO_3.out).2.2 x7_2 p241 q241
                            cases e241
                            replace p241 := eq_true p241
                            replace q241 := eq_true q241
                            obtain ⟨Ao62, co62, eo62⟩ := Kd.R_slice HO_5.out
                            subst eo62
                            have p242 : 0 ≤ (x7_2 : Int) := of_decide_eq_true (by first | (with_reducible assumption) | assumption)
                            have q242 : x7_2 < (t222.length : Int) := of_decide_eq_true (by first | (with_reducible assumption) | assumption)
                            obtain ⟨ad242, e242, hx242_0⟩ := Kd.at_int (Kd.R_reads' HO_5.out).2.2 x7_2 p242 q242
                            cases e242
                            replace p242 := eq_true p242
                            replace q242 := eq_true q242
                            have p243 : 0 ≤ (x7_2 : Int) := of_decide_eq_true (by first | (with_reducible assumption) | assumption)
                            have q243 : x7_2 < (t216.length : Int) := of_decide_eq_true (by first | (with_reducible assumption) | assumption)
                            obtain ⟨ad243, e243, hx243_0⟩ := Kd.at_int (Kd.R_reads' HO_3.out).2.2 x7_2 p243 q243
                            obtain rfl : ad241 = ad243 := (by injection e243)
                            replace p243 := eq_true p243
                            replace q243 := eq_true q243
                            go_wp2
                            go_meet
                            case rel => exact ⟨_, (false), (by first | rfl | (simp; done) | (simp [*]; done)), H', ⟨by have := HJ5.out; have := HK2.out; first | omega | exact Nat.le_refl _⟩, ⟨by (with_reducible repeat (first | apply Kd.R_alloc | apply Kd.R_drewN | apply Kd.R_drew)); exact HO_3.out⟩, ⟨by (with_reducible repeat (first | apply Kd.R_alloc | apply Kd.R_drewN | apply Kd.R_drew)); exact HO_4.out⟩, ⟨by (with_reducible repeat (first | apply Kd.R_alloc | apply Kd.R_drewN | apply Kd.R_drew)); exact HO_5.out⟩, ⟨by repeat (first | (with_reducible first | exact HB.out | apply below_alloc | apply pw_below_drewN | apply below_drew1) | exact HB.out)⟩⟩
                        · rw [if_neg c52] at H
                          have c52b0 : ((rd t222 x7_2) == (-1)) = false := beq_eq_false_iff_ne.mpr c52
                          have c52b1 : ((rd t222 x7_2) != (-1)) = true := bne_iff_ne.mpr c52
                          have H' := Aside0.mk H
                          clear H
                          have p241 : 0 ≤ (x7_2 : Int) := of_decide_eq_true (by first | (with_reducible assumption) | assumption)
                          have q241 : x7_2 < (t216.length : Int) := of_decide_eq_true (by first | (with_reducible assumption) | assumption)
                          obtain ⟨ad241, e241, hx241_0⟩ := Kd.at_int (Kd.R_reads' HO_3.out).2.2 x7_2 p241 q241
                          cases e241
                          replace p241 := eq_true p241
                          replace q241 := eq_true q241
                          obtain ⟨Ao63, co63, eo63⟩ := Kd.R_slice HO_5.out
                          subst eo63
                          have p242 : 0 ≤ (x7_2 : Int) := of_decide_eq_true (by first | (with_reducible assumption) | assumption)
                          have q242 : x7_2 < (t222.length : Int) := of_decide_eq_true (by first | (with_reducible assumption) | assumption)
                          obtain ⟨ad242, e242, hx242_0⟩ := Kd.at_int (Kd.R_reads' HO_5.out).2.2 x7_2 p242 q242
                          cases e242
                          replace p242 := eq_true p242
                          replace q242 := eq_true q242
                          go_wp2
                          go_meet
                          case rel => exact ⟨_, (true), (by first | rfl | (simp; done) | (simp [*]; done)), H', ⟨by have := HJ5.out; have := HK2.out; first | omega | exact Nat.le_refl _⟩, ⟨by (with_reducible repeat (first | apply Kd.R_alloc | apply Kd.R_drewN | apply Kd.R_drew)); exact HO_3.out⟩, ⟨by (with_reducible repeat (first | apply Kd.R_alloc | apply Kd.R_drewN | apply Kd.R_drew)); exact HO_4.out⟩, ⟨by (with_reducible repeat (first | apply Kd.R_alloc | apply Kd.R_drewN | apply Kd.R_drew)); exact HO_5.out⟩, ⟨by repeat (first | (with_reducible first | exact HB.out | apply below_alloc | apply pw_below_drewN | apply below_drew1) | exact HB.out)⟩⟩
                      · rw [if_neg c51] at H
                        exact absurd H (by simp)
                    · rw [if_neg c50] at H
                      have c50b0 : decide ((rd t216 x7_2) < 0) = false := decide_eq_false c50
                      clear c50
                      by_cases c64 : (rd t216 x7_2) ≥ 0
                      · rw [if_pos c64] at H
                        have c64b0 : decide (0 ≤ (rd t216 x7_2)) = true := decide_eq_true c64
                        clear c64
                        by_cases c65 : x7_2 < (t222.length : Int)
                        · rw [if_pos c65] at H
                          have c65b0 : decide (x7_2 < (t222.length : Int)) = true := decide_eq_true c65
                          clear c65
                          replace H := Option.bind_eq_some_iff.mp H
                          obtain ⟨t250, A660, H⟩ := H
                          replace H : (if t250 = true then (if 0 ≤ (rd t222 x7_2) then (if (rd t222 x7_2) < (t219.length : Int) then (laws_FnOrder.j2 k2 t216 t219 t222 x6_2 x7_2 ((rd t219 (rd t222 x7_2)) != x7_2)) else (none)) else (none)) else (laws_FnOrder.j2 k2 t216 t219 t222 x6_2 x7_2 true)) = some r := H
                          have A66 := Aside0.mk A660
                          clear A660
                          by_cases c67 : t250 = true
                          · subst c67
                            have H1 : (if 0 ≤ (rd t222 x7_2) then (if (rd t222 x7_2) < (t219.length : Int) then (laws_FnOrder.j2 k2 t216 t219 t222 x6_2 x7_2 ((rd t219 (rd t222 x7_2)) != x7_2)) else (none)) else (none)) = some r := by rw [if_pos rfl] at H; exact H
                            clear H
                            have H := H1
                            clear H1
                            by_cases c68 : 0 ≤ (rd t222 x7_2)
                            · rw [if_pos c68] at H
                              have c68b0 : decide (0 ≤ (rd t222 x7_2)) = true := decide_eq_true c68
                              clear c68
                              by_cases c69 : (rd t222 x7_2) < (t219.length : Int)
                              · rw [if_pos c69] at H
                                have c69b0 : decide ((rd t222 x7_2) < (t219.length : Int)) = true := decide_eq_true c69
                                clear c69
                                have H' := Aside0.mk H
                                clear H
                                have p241 : 0 ≤ (x7_2 : Int) := of_decide_eq_true (by first | (with_reducible assumption) | assumption)
                                have q241 : x7_2 < (t216.length : Int) := of_decide_eq_true (by first | (with_reducible assumption) | assumption)
                                obtain ⟨ad241, e241, hx241_0⟩ := Kd.at_int (Kd.R_reads' HO_3.out).2.2 x7_2 p241 q241
                                cases e241
                                replace p241 := eq_true p241
                                replace q241 := eq_true q241
                                have p248 : 0 ≤ (x7_2 : Int) := of_decide_eq_true (by first | (with_reducible assumption) | assumption)
                                have q248 : x7_2 < (t216.length : Int) := of_decide_eq_true (by first | (with_reducible assumption) | assumption)
                                obtain ⟨ad248, e248, hx248_0⟩ := Kd.at_int (Kd.R_reads' HO_3.out).2.2 x7_2 p248 q248
                                obtain rfl : ad241 = ad248 := (by injection e248)
                                replace p248 := eq_true p248
                                replace q248 := eq_true q248
                                obtain ⟨Ao70, co70, eo70⟩ := Kd.R_slice HO_5.out
                                subst eo70
                                have p249 : 0 ≤ (x7_2 : Int) := of_decide_eq_true (by first | (with_reducible assumption) | assumption)
                                have q249 : x7_2 < (t222.length : Int) := of_decide_eq_true (by first | (with_reducible assumption) | assumption)
                                obtain ⟨ad249, e249, hx249_0⟩ := Kd.at_int (Kd.R_reads' HO_5.out).2.2 x7_2 p249 q249
                                cases e249
                                replace p249 := eq_true p249
                                replace q249 := eq_true q249
                                obtain ⟨Ao71, co71, eo71⟩ := Kd.R_slice HO_4.out
                                subst eo71
                                go_wp2_with (first | (go_at_call 39; (with_reducible refine (laws_wcIn.calls (rd t222 x7_2) 0 (wrap64 ((t219.length : Int) - 1)) true _ A66.out).mono ?_); rintro e w' ⟨rfl, ⟨nd, rfl⟩⟩; have p251 : 0 ≤ (x7_2 : Int) := of_decide_eq_true (by first | (with_reducible assumption) | assumption); have q251 : x7_2 < (t222.length : Int) := of_decide_eq_true (by first | (with_reducible assumption) | assumption); obtain ⟨ad251, e251, hx251_0⟩ := Kd.at_int (Kd.R_reads' HO_5.out).2.2 x7_2 p251 q251; obtain rfl : ad249 = ad251 := (by injection e251); replace p251 := eq_true p251; replace q251 := eq_true q251; have p252 : 0 ≤ ((rd t222 x7_2) : Int) := of_decide_eq_true (by first | (with_reducible assumption) | assumption); have q252 : (rd t222 x7_2) < (t219.length : Int) := of_decide_eq_true (by first | (with_reducible assumption) | assumption); obtain ⟨ad252, e252, hx252_0⟩ := Kd.at_int (Kd.R_reads' HO_4.out).2.2 (rd t222 x7_2) p252 q252; cases e252; replace p252 := eq_true p252; replace q252 := eq_true q252))
                                go_meet
                                case rel => exact ⟨_, (((rd t219 (rd t222 x7_2)) != x7_2)), (by first | rfl | (simp; done) | (simp [*]; done)), H', ⟨by have := HJ5.out; have := HK2.out; first | omega | exact Nat.le_refl _⟩, ⟨by (with_reducible repeat (first | apply Kd.R_alloc | apply Kd.R_drewN | apply Kd.R_drew)); exact HO_3.out⟩, ⟨by (with_reducible repeat (first | apply Kd.R_alloc | apply Kd.R_drewN | apply Kd.R_drew)); exact HO_4.out⟩, ⟨by (with_reducible repeat (first | apply Kd.R_alloc | apply Kd.R_drewN | apply Kd.R_drew)); exact HO_5.out⟩, ⟨by repeat (first | (with_reducible first | exact HB.out | apply below_alloc | apply pw_below_drewN | apply below_drew1) | exact HB.out)⟩⟩
                              · rw [if_neg c69] at H
                                exact absurd H (by simp)
                            · rw [if_neg c68] at H
                              exact absurd H (by simp)
                          · replace c67 := Bool.eq_false_iff.mpr c67
                            subst c67
                            have H1 : (laws_FnOrder.j2 k2 t216 t219 t222 x6_2 x7_2 true) = some r := by rw [if_neg (show ¬ (false = true) by decide)] at H; exact H
                            clear H
                            have H := H1
                            clear H1
                            have H' := Aside0.mk H
                            clear H
                            have p241 : 0 ≤ (x7_2 : Int) := of_decide_eq_true (by first | (with_reducible assumption) | assumption)
                            have q241 : x7_2 < (t216.length : Int) := of_decide_eq_true (by first | (with_reducible assumption) | assumption)
                            obtain ⟨ad241, e241, hx241_0⟩ := Kd.at_int (Kd.R_reads' HO_3.out).2.2 x7_2 p241 q241
                            cases e241
                            replace p241 := eq_true p241
                            replace q241 := eq_true q241
                            have p248 : 0 ≤ (x7_2 : Int) := of_decide_eq_true (by first | (with_reducible assumption) | assumption)
                            have q248 : x7_2 < (t216.length : Int) := of_decide_eq_true (by first | (with_reducible assumption) | assumption)
                            obtain ⟨ad248, e248, hx248_0⟩ := Kd.at_int (Kd.R_reads' HO_3.out).2.2 x7_2 p248 q248
                            obtain rfl : ad241 = ad248 := (by injection e248)
                            replace p248 := eq_true p248
                            replace q248 := eq_true q248
                            obtain ⟨Ao72, co72, eo72⟩ := Kd.R_slice HO_5.out
                            subst eo72
                            have p249 : 0 ≤ (x7_2 : Int) := of_decide_eq_true (by first | (with_reducible assumption) | assumption)
                            have q249 : x7_2 < (t222.length : Int) := of_decide_eq_true (by first | (with_reducible assumption) | assumption)
                            obtain ⟨ad249, e249, hx249_0⟩ := Kd.at_int (Kd.R_reads' HO_5.out).2.2 x7_2 p249 q249
                            cases e249
                            replace p249 := eq_true p249
                            replace q249 := eq_true q249
                            obtain ⟨Ao73, co73, eo73⟩ := Kd.R_slice HO_4.out
                            subst eo73
                            go_wp2_with (first | (go_at_call 39; (with_reducible refine (laws_wcIn.calls (rd t222 x7_2) 0 (wrap64 ((t219.length : Int) - 1)) false _ A66.out).mono ?_); rintro e w' ⟨rfl, ⟨nd, rfl⟩⟩))
                            go_meet
                            case rel => exact ⟨_, (true), (by first | rfl | (simp; done) | (simp [*]; done)), H', ⟨by have := HJ5.out; have := HK2.out; first | omega | exact Nat.le_refl _⟩, ⟨by (with_reducible repeat (first | apply Kd.R_alloc | apply Kd.R_drewN | apply Kd.R_drew)); exact HO_3.out⟩, ⟨by (with_reducible repeat (first | apply Kd.R_alloc | apply Kd.R_drewN | apply Kd.R_drew)); exact HO_4.out⟩, ⟨by (with_reducible repeat (first | apply Kd.R_alloc | apply Kd.R_drewN | apply Kd.R_drew)); exact HO_5.out⟩, ⟨by repeat (first | (with_reducible first | exact HB.out | apply below_alloc | apply pw_below_drewN | apply below_drew1) | exact HB.out)⟩⟩
                        · rw [if_neg c65] at H
                          exact absurd H (by simp)
                      · rw [if_neg c64] at H
                        have c64b0 : decide (0 ≤ (rd t216 x7_2)) = false := decide_eq_false c64
                        clear c64
                        have H' := Aside0.mk H
                        clear H
                        have p241 : 0 ≤ (x7_2 : Int) := of_decide_eq_true (by first | (with_reducible assumption) | assumption)
                        have q241 : x7_2 < (t216.length : Int) := of_decide_eq_true (by first | (with_reducible assumption) | assumption)
                        obtain ⟨ad241, e241, hx241_0⟩ := Kd.at_int (Kd.R_reads' HO_3.out).2.2 x7_2 p241 q241
                        cases e241
                        replace p241 := eq_true p241
                        replace q241 := eq_true q241
                        have p248 : 0 ≤ (x7_2 : Int) := of_decide_eq_true (by first | (with_reducible assumption) | assumption)
                        have q248 : x7_2 < (t216.length : Int) := of_decide_eq_true (by first | (with_reducible assumption) | assumption)
                        obtain ⟨ad248, e248, hx248_0⟩ := Kd.at_int (Kd.R_reads' HO_3.out).2.2 x7_2 p248 q248
                        obtain rfl : ad241 = ad248 := (by injection e248)
                        replace p248 := eq_true p248
                        replace q248 := eq_true q248
                        go_wp2
                        go_meet
                        case rel => exact ⟨_, (false), (by first | rfl | (simp; done) | (simp [*]; done)), H', ⟨by have := HJ5.out; have := HK2.out; first | omega | exact Nat.le_refl _⟩, ⟨by (with_reducible repeat (first | apply Kd.R_alloc | apply Kd.R_drewN | apply Kd.R_drew)); exact HO_3.out⟩, ⟨by (with_reducible repeat (first | apply Kd.R_alloc | apply Kd.R_drewN | apply Kd.R_drew)); exact HO_4.out⟩, ⟨by (with_reducible repeat (first | apply Kd.R_alloc | apply Kd.R_drewN | apply Kd.R_drew)); exact HO_5.out⟩, ⟨by repeat (first | (with_reducible first | exact HB.out | apply below_alloc | apply pw_below_drewN | apply below_drew1) | exact HB.out)⟩⟩
                  · rw [if_neg c49] at H
                    exact absurd H (by simp)
                case rest =>
                  clear HC48
                  try clear c1
                  try clear c2
                  try clear c2b0
                  try clear c2b1
                  try clear p2
                  try clear q2
                  try clear hx2
                  try clear c3
                  try clear c4
                  try clear c5
                  try clear c6
                  try clear p6
                  try clear c10
                  try clear c13
                  try clear c16
                  try clear p24
                  try clear q24
                  try clear hx24
                  try clear c25
                  try clear p25
                  try clear q25
                  try clear hx25
                  try clear c28
                  try clear c29
                  try clear c30
                  try clear c32
                  try clear c35
                  try clear c47
                  try clear c47b0
                  try clear c49
                  try clear c49b0
                  try clear c50
                  try clear c50b0
                  try clear c51
                  try clear c51b0
                  try clear c52
                  try clear c52b0
                  try clear c52b1
                  try clear c53
                  try clear c53b0
                  try clear c55
                  try clear c56
                  try clear c56b0
                  try clear c57
                  try clear c57b0
                  try clear c64
                  try clear c64b0
                  try clear p64
                  try clear c65
                  try clear c65b0
                  try clear c67
                  try clear c68
                  try clear c68b0
                  try clear c69
                  try clear c69b0
                  try clear hx241_0
                  try clear hx242_0
                  try clear hx243_0
                  try clear hx244_0
                  try clear hx246_0
                  try clear hx247_0
                  try clear hx248_0
                  try clear hx249_0
                  try clear hx251_0
                  try clear hx252_0
                  try clear p2
                  try clear p241
                  try clear p242
                  try clear p243
                  try clear p244
                  try clear p246
                  try clear p247
                  try clear p248
                  try clear p249
                  try clear p251
                  try clear p252
                  try clear q241
                  try clear q242
                  try clear q243
                  try clear q244
                  try clear q246
                  try clear q247
                  try clear q248
                  try clear q249
                  try clear q251
                  try clear q252
                  obtain ⟨kq, x90_47, rfl, HA, HJ47, HO_3, HO_4, HO_5, HB⟩ := hcut
                  cases kq with
                  | zero => exact absurd HA.out (by simp [laws_FnOrder.j2])
                  | succ kj47 =>
                    have H := HA.out
                    clear HA
                    simp only [laws_FnOrder.j2] at H
                    by_cases c74 : x90_47 = true
                    · subst c74
                      have H1 : (some false) = some r := by rw [if_pos rfl] at H; exact H
                      clear H
                      have H := H1
                      clear H1
                      obtain rfl := Option.some.inj H
                      go_wp2
                      go_ret
                      exact ⟨by first | rfl | (simp [errW_none, errW_some] <;> rfl) | (simp [*, errW_none, errW_some] <;> rfl), by repeat (first | (with_reducible first | exact HB.out | apply below_alloc | apply pw_below_drewN | apply below_drew1) | exact HB.out)⟩
                    · replace c74 := Bool.eq_false_iff.mpr c74
                      subst c74
                      have H1 : (if 0 ≤ x7_2 then (if x7_2 < (t216.length : Int) then (if (rd t216 x7_2) ≥ 0 then (laws_FnOrder.l0 kj47 t216 t219 t222 (wrap64 (x6_2 + 1)) (wrap64 (x7_2 + 1))) else (laws_FnOrder.l0 kj47 t216 t219 t222 x6_2 (wrap64 (x7_2 + 1)))) else (none)) else (none)) = some r := by rw [if_neg (show ¬ (false = true) by decide)] at H; exact H
                      clear H
                      have H := H1
                      clear H1
                      by_cases c75 : 0 ≤ x7_2
                      · rw [if_pos c75] at H
                        have c75b0 : decide (0 ≤ x7_2) = true := decide_eq_true c75
                        clear c75
                        by_cases c76 : x7_2 < (t216.length : Int)
                        · rw [if_pos c76] at H
                          have c76b0 : decide (x7_2 < (t216.length : Int)) = true := decide_eq_true c76
                          clear c76
                          by_cases c77 : (rd t216 x7_2) ≥ 0
                          · rw [if_pos c77] at H
                            have c77b0 : decide (0 ≤ (rd t216 x7_2)) = true := decide_eq_true c77
                            clear c77
                            have H' := Aside0.mk H
                            clear H
                            have p253 : 0 ≤ (x7_2 : Int) := of_decide_eq_true (by first | (with_reducible assumption) | assumption)
                            have q253 : x7_2 < (t216.length : Int) := of_decide_eq_true (by first | (with_reducible assumption) | assumption)
                            obtain ⟨ad253, e253, hx253_0⟩ := Kd.at_int (Kd.R_reads' HO_3.out).2.2 x7_2 p253 q253
                            cases e253
                            replace p253 := eq_true p253
                            replace q253 := eq_true q253
                            go_wp2
                            go_roundg kj47
                            case measure => have := HJ5.out; have := HK2.out; have := HJ47.out; omega
                            case rel => exact ⟨(wrap64 (x6_2 + 1)), (wrap64 (x7_2 + 1)), (by first | rfl | (simp; done) | (simp [*]; done)), (by first | rfl | (simp; done) | (simp [*]; done)), H', ⟨by have := HJ5.out; have := HK2.out; have := HJ47.out; omega⟩, ⟨by (with_reducible repeat (first | apply Kd.R_alloc | apply Kd.R_drewN | apply Kd.R_drew)); exact HO_3.out⟩, ⟨by (with_reducible repeat (first | apply Kd.R_alloc | apply Kd.R_drewN | apply Kd.R_drew)); exact HO_4.out⟩, ⟨by (with_reducible repeat (first | apply Kd.R_alloc | apply Kd.R_drewN | apply Kd.R_drew)); exact HO_5.out⟩, ⟨by repeat (first | (with_reducible first | exact HB.out | apply below_alloc | apply pw_below_drewN | apply below_drew1) | exact HB.out)⟩⟩
                          · rw [if_neg c77] at H
                            have c77b0 : decide (0 ≤ (rd t216 x7_2)) = false := decide_eq_false c77
                            clear c77
                            have H' := Aside0.mk H
                            clear H
                            have p253 : 0 ≤ (x7_2 : Int) := of_decide_eq_true (by first | (with_reducible assumption) | assumption)
                            have q253 : x7_2 < (t216.length : Int) := of_decide_eq_true (by first | (with_reducible assumption) | assumption)
                            obtain ⟨ad253, e253, hx253_0⟩ := Kd.at_int (Kd.R_reads' HO_3.out).2.2 x7_2 p253 q253
                            cases e253
                            replace p253 := eq_true p253
                            replace q253 := eq_true q253
                            go_wp2
                            go_roundg kj47
                            case measure => have := HJ5.out; have := HK2.out; have := HJ47.out; omega
                            case rel => exact ⟨(x6_2), (wrap64 (x7_2 + 1)), (by first | rfl | (simp; done) | (simp [*]; done)), (by first | rfl | (simp; done) | (simp [*]; done)), H', ⟨by have := HJ5.out; have := HK2.out; have := HJ47.out; omega⟩, ⟨by (with_reducible repeat (first | apply Kd.R_alloc | apply Kd.R_drewN | apply Kd.R_drew)); exact HO_3.out⟩, ⟨by (with_reducible repeat (first | apply Kd.R_alloc | apply Kd.R_drewN | apply Kd.R_drew)); exact HO_4.out⟩, ⟨by (with_reducible repeat (first | apply Kd.R_alloc | apply Kd.R_drewN | apply Kd.R_drew)); exact HO_5.out⟩, ⟨by repeat (first | (with_reducible first | exact HB.out | apply below_alloc | apply pw_below_drewN | apply below_drew1) | exact HB.out)⟩⟩
                        · rw [if_neg c76] at H
                          exact absurd H (by simp)
                      · rw [if_neg c75] at H
                        exact absurd H (by simp)
              · rw [if_neg c47] at H
                have c47b0 : decide (x7_2 < (t216.length : Int)) = false := decide_eq_false c47
                clear c47
                obtain rfl := Option.some.inj H
                obtain ⟨Ao78, co78, eo78⟩ := Kd.R_slice HO_4.out
                subst eo78
                go_wp2
                go_ret
                exact ⟨by first | rfl | (simp [errW_none, errW_some] <;> rfl) | (simp [*, errW_none, errW_some] <;> rfl), by repeat (first | (with_reducible first | exact HB.out | apply below_alloc | apply pw_below_drewN | apply below_drew1) | exact HB.out)⟩

/-- THE ONE PURE STATEMENT of laws_FnOrder: yours. -/
def laws_FnOrder.Pure : Prop := ∀ (l0 : List Int), l0.length ≤ maxLen → l0.length * 1 ≤ 140737488351232 → (∀ x ∈ l0, (Lit.int .u8 x).wf = true) → ∃ k, laws_FnOrder.f k l0 = some true
theorem laws_FnOrder.walk (P : laws_FnOrder.Pure) (a0 : Option Addr) (len0 cap0 : Nat) (z0 : List Int) (w : World) (w0 : (a0 = none ∧ len0 = 0 ∧ cap0 = 0 ∧ z0 = []) ∨ ∃ x, a0 = some x ∧ len0 ≤ cap0 ∧ cap0 ≤ maxLen ∧ z0.length = cap0 ∧ (∀ i, i < z0.length → w.cell? (x.add i) = some (.int .u8 (z0.getD i 0))) ∧ ∀ n ∈ z0, (Lit.int .u8 n).wf = true) (y0 : len0 * 1 ≤ 140737488351232) :
    Calls Try.prog 10 #[.slice a0 len0 cap0] w fun e w' => e = .returned (.bool true) ∧ Below w.heap.size w w' := by
  obtain ⟨l0, rfl, hr0, hm0, hw0, hc0⟩ := ReadsInt.ofRowC w0
  obtain ⟨k, h⟩ := P l0 hm0 y0 hw0
  refine (laws_FnOrder.calls k _ _ l0 true w (Kd.C_of_reads (d := (0 : Int)) (h1 := fun _ => rfl) hr0) hc0 h).mono ?_
  rintro e w' ⟨rfl, hd⟩
  exact ⟨rfl, hd⟩

end Go.Proofs.Ytpdkddhadgeheaa.PFnOrder
