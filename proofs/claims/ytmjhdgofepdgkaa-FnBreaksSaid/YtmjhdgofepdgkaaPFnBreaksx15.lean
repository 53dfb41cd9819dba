-- Written by a program of this session (wip/tools) out of the translation; its shape is that of the kit print.
import Derived.Test.YtmjhdgofepdgkaaPFnBreaksx0
import Derived.Test.YtmjhdgofepdgkaaPFnBreaksx1
import Derived.Test.YtmjhdgofepdgkaaPFnBreaksx2
import Derived.Test.YtmjhdgofepdgkaaPFnBreaksx4
import Derived.Test.YtmjhdgofepdgkaaPFnBreaksx9
import Derived.Test.YtmjhdgofepdgkaaPFnBreaksx12
import Derived.Test.YtmjhdgofepdgkaaPFnBreaksx14
namespace Go.Proofs.Ytmjhdgofepdgkaa.PFnBreaks
open Go.RowKit Go.Proofs.YtmjhdgofepdgkaaW.PrintWords Go.Proofs.YtmjhdgofepdgkaaW.PrintLast Go.Proofs.YtmjhdgofepdgkaaW.PrintMore
attribute [local go_sem] max2_int min2_int max_two min_two max_three min_three max_four min_four   -- for this text's walks alone
set_option linter.unusedVariables false
set_option linter.unusedSimpArgs false

/-! ### laws_FnBreaks: function 10 -/
mutual
def laws_FnBreaks.j0 : Nat → List Int → List Int → Bool → Option (Bool)
 | 0, _, _, _ => none
 | k + 1, x3, x4, x24 => if x24 = true then ((spec_BreaksOf.f k x3).bind fun t426 => ((laws_wcInts.f k x4 t426).bind fun t429 => (some t429))) else (laws_FnBreaks.l0 k x3 x4 0)
def laws_FnBreaks.l0 : Nat → List Int → List Int → Int → Option (Bool)
 | 0, _, _, _ => none
 | k + 1, x3, x4, x5 => if (wrap64 (x5 + 1)) < (x4.length : Int) then (if 0 ≤ x5 then (if x5 < (x3.length : Int) then ((spec_RuneLine.f k (rd x3 x5)).bind fun t432 => (if 0 ≤ (wrap64 (x5 + 1)) then (if (wrap64 (x5 + 1)) < (x3.length : Int) then ((spec_RuneLine.f k (rd x3 (wrap64 (x5 + 1)))).bind fun t434 => (if x5 < (x4.length : Int) then (if (((rd x4 x5) == 2) != (t432 == 4)) = true then (laws_FnBreaks.j2 k x3 x4 x5 t432 t434 true) else (if (rd x4 x5) = 1 then ((impl_ClusterAt.f k x3 (wrap64 (x5 + 1))).bind fun t437 => (if t437 = (wrap64 (x5 + 1)) then (if t434 = 3 then (laws_FnBreaks.j2 k x3 x4 x5 t432 t434 true) else (laws_FnBreaks.j2 k x3 x4 x5 t432 t434 (t434 == 4))) else (laws_FnBreaks.j2 k x3 x4 x5 t432 t434 true))) else (laws_FnBreaks.j2 k x3 x4 x5 t432 t434 false))) else (none))) else (none)) else (none))) else (none)) else (none)) else (if (x4.length : Int) = (x3.length : Int) then (if 0 ≤ (wrap64 ((x4.length : Int) - 1)) then (if (wrap64 ((x4.length : Int) - 1)) < (x4.length : Int) then (some ((rd x4 (wrap64 ((x4.length : Int) - 1))) == 2)) else (none)) else (none)) else (some false))
def laws_FnBreaks.j2 : Nat → List Int → List Int → Int → Int → Int → Bool → Option (Bool)
 | 0, _, _, _, _, _, _ => none
 | k + 1, x3, x4, x5, x6, x7, x78 => if x78 = true then (some false) else (if 0 ≤ x5 then (if x5 < (x4.length : Int) then (if (rd x4 x5) = 1 then (if x7 = 9 then (if x6 = 1 then (some false) else (if x6 = 2 then (some false) else (laws_FnBreaks.l0 k x3 x4 (wrap64 (x5 + 1))))) else (if x7 = 13 then (if x6 = 1 then (some false) else (if x6 = 2 then (some false) else (laws_FnBreaks.l0 k x3 x4 (wrap64 (x5 + 1))))) else (laws_FnBreaks.l0 k x3 x4 (wrap64 (x5 + 1))))) else (laws_FnBreaks.l0 k x3 x4 (wrap64 (x5 + 1)))) else (none)) else (none))
end
def laws_FnBreaks.f (k : Nat) (l0 : List Int) : Option (Bool) := if (l0.length : Int) > 1048576 then (some true) else ((spec_DrawBreaksOf.f k l0).bind fun t416 => ((impl_BreaksOf.f k t416).bind fun t419 => ((spec_BreaksOf.f k t416).bind fun t422 => ((laws_wcInts.f k t419 t422).bind fun t425 => (if t425 = true then (laws_FnBreaks.j0 k t416 t419 ((t419.length : Int) == 0)) else (laws_FnBreaks.j0 k t416 t419 true))))))
theorem laws_FnBreaks.mono_l : ∀ k, (∀ y0 y1 y2, LeO (laws_FnBreaks.j0 k y0 y1 y2) (laws_FnBreaks.j0 (k + 1) y0 y1 y2)) ∧ (∀ y0 y1 y2, LeO (laws_FnBreaks.l0 k y0 y1 y2) (laws_FnBreaks.l0 (k + 1) y0 y1 y2)) ∧ (∀ y0 y1 y2 y3 y4 y5, LeO (laws_FnBreaks.j2 k y0 y1 y2 y3 y4 y5) (laws_FnBreaks.j2 (k + 1) y0 y1 y2 y3 y4 y5))
 | 0 => ⟨fun _ _ _ r h => by simp [laws_FnBreaks.j0] at h, fun _ _ _ r h => by simp [laws_FnBreaks.l0] at h, fun _ _ _ _ _ _ r h => by simp [laws_FnBreaks.j2] at h⟩
 | k + 1 => by
  obtain ⟨ih0, ih1, ih2⟩ := laws_FnBreaks.mono_l k
  refine ⟨?_, ?_, ?_⟩
  ·intro y0 y1 y2
   unfold laws_FnBreaks.j0
   repeat' first
   | (with_reducible exact ih0 _ _ _)
   | (with_reducible exact ih1 _ _ _)
   | (with_reducible exact ih2 _ _ _ _ _ _)
   | (with_reducible exact impl_BreaksOf.mono _ _)
   | (with_reducible exact impl_ClusterAt.mono _ _ _)
   | (with_reducible exact laws_wcInts.mono _ _ _)
   | (with_reducible exact spec_BreaksOf.mono _ _)
   | (with_reducible exact spec_DrawBreaksOf.mono _ _)
   | (with_reducible exact spec_RuneLine.mono _ _)
   | (with_reducible exact LeO.refl _)
   | (with_reducible exact LeO.none _)
   | (with_reducible refine LeO.ite ?_ ?_)
   | (with_reducible refine LeO.bind ?_ (fun _ => ?_))
   | exact ih0 _ _ _
   | exact ih1 _ _ _
   | exact ih2 _ _ _ _ _ _
   | exact impl_BreaksOf.mono _ _
   | exact impl_ClusterAt.mono _ _ _
   | exact laws_wcInts.mono _ _ _
   | exact spec_BreaksOf.mono _ _
   | exact spec_DrawBreaksOf.mono _ _
   | exact spec_RuneLine.mono _ _
   | exact LeO.none _
   | refine LeO.ite ?_ ?_
   | refine LeO.bind ?_ (fun _ => ?_)
  ·intro y0 y1 y2
   unfold laws_FnBreaks.l0
   repeat' first
   | (with_reducible exact ih0 _ _ _)
   | (with_reducible exact ih1 _ _ _)
   | (with_reducible exact ih2 _ _ _ _ _ _)
   | (with_reducible exact impl_BreaksOf.mono _ _)
   | (with_reducible exact impl_ClusterAt.mono _ _ _)
   | (with_reducible exact laws_wcInts.mono _ _ _)
   | (with_reducible exact spec_BreaksOf.mono _ _)
   | (with_reducible exact spec_DrawBreaksOf.mono _ _)
   | (with_reducible exact spec_RuneLine.mono _ _)
   | (with_reducible exact LeO.refl _)
   | (with_reducible exact LeO.none _)
   | (with_reducible refine LeO.ite ?_ ?_)
   | (with_reducible refine LeO.bind ?_ (fun _ => ?_))
   | exact ih0 _ _ _
   | exact ih1 _ _ _
   | exact ih2 _ _ _ _ _ _
   | exact impl_BreaksOf.mono _ _
   | exact impl_ClusterAt.mono _ _ _
   | exact laws_wcInts.mono _ _ _
   | exact spec_BreaksOf.mono _ _
   | exact spec_DrawBreaksOf.mono _ _
   | exact spec_RuneLine.mono _ _
   | exact LeO.none _
   | refine LeO.ite ?_ ?_
   | refine LeO.bind ?_ (fun _ => ?_)
  ·intro y0 y1 y2 y3 y4 y5
   unfold laws_FnBreaks.j2
   repeat' first
   | (with_reducible exact ih0 _ _ _)
   | (with_reducible exact ih1 _ _ _)
   | (with_reducible exact ih2 _ _ _ _ _ _)
   | (with_reducible exact impl_BreaksOf.mono _ _)
   | (with_reducible exact impl_ClusterAt.mono _ _ _)
   | (with_reducible exact laws_wcInts.mono _ _ _)
   | (with_reducible exact spec_BreaksOf.mono _ _)
   | (with_reducible exact spec_DrawBreaksOf.mono _ _)
   | (with_reducible exact spec_RuneLine.mono _ _)
   | (with_reducible exact LeO.refl _)
   | (with_reducible exact LeO.none _)
   | (with_reducible refine LeO.ite ?_ ?_)
   | (with_reducible refine LeO.bind ?_ (fun _ => ?_))
   | exact ih0 _ _ _
   | exact ih1 _ _ _
   | exact ih2 _ _ _ _ _ _
   | exact impl_BreaksOf.mono _ _
   | exact impl_ClusterAt.mono _ _ _
   | exact laws_wcInts.mono _ _ _
   | exact spec_BreaksOf.mono _ _
   | exact spec_DrawBreaksOf.mono _ _
   | exact spec_RuneLine.mono _ _
   | exact LeO.none _
   | refine LeO.ite ?_ ?_
   | refine LeO.bind ?_ (fun _ => ?_)
theorem laws_FnBreaks.mono : ∀ a0 k, LeO (laws_FnBreaks.f k a0) (laws_FnBreaks.f (k + 1) a0) := by
 intro a0 k
 obtain ⟨ih0, ih1, ih2⟩ := laws_FnBreaks.mono_l k
 unfold laws_FnBreaks.f
 repeat' first
   | (with_reducible exact ih0 _ _ _)
   | (with_reducible exact ih1 _ _ _)
   | (with_reducible exact ih2 _ _ _ _ _ _)
   | (with_reducible exact impl_BreaksOf.mono _ _)
   | (with_reducible exact impl_ClusterAt.mono _ _ _)
   | (with_reducible exact laws_wcInts.mono _ _ _)
   | (with_reducible exact spec_BreaksOf.mono _ _)
   | (with_reducible exact spec_DrawBreaksOf.mono _ _)
   | (with_reducible exact spec_RuneLine.mono _ _)
   | (with_reducible exact LeO.refl _)
   | (with_reducible exact LeO.none _)
   | (with_reducible refine LeO.ite ?_ ?_)
   | (with_reducible refine LeO.bind ?_ (fun _ => ?_))
   | exact ih0 _ _ _
   | exact ih1 _ _ _
   | exact ih2 _ _ _ _ _ _
   | exact impl_BreaksOf.mono _ _
   | exact impl_ClusterAt.mono _ _ _
   | exact laws_wcInts.mono _ _ _
   | exact spec_BreaksOf.mono _ _
   | exact spec_DrawBreaksOf.mono _ _
   | exact spec_RuneLine.mono _ _
   | exact LeO.none _
   | refine LeO.ite ?_ ?_
   | refine LeO.bind ?_ (fun _ => ?_)
set_option maxHeartbeats 8000000 in
set_option maxRecDepth 100000 in
theorem laws_FnBreaks.calls (k : Nat) (A0 : Option Addr) (c0 : Nat) (l0 : List Int) (r : Bool) (w : World) (hr0 : Kd.C (Kd.int .u8) w A0 l0.length l0) (hc0 : l0.length ≤ c0) (h : laws_FnBreaks.f k l0 = some r) :
  Calls Try.prog 10 #[.slice A0 l0.length c0] w fun e w' => e = .returned (.bool r) ∧ Below w.heap.size w w' := by
 have HR0 := Aside0.mk hr0
 have HC0 := Aside0.mk hc0
 clear hr0 hc0
 have HB := Aside0.mk (Below.refl w.heap.size w)
 have H : (if (l0.length : Int) > 1048576 then (some true) else ((spec_DrawBreaksOf.f k l0).bind fun t416 => ((impl_BreaksOf.f k t416).bind fun t419 => ((spec_BreaksOf.f k t416).bind fun t422 => ((laws_wcInts.f k t419 t422).bind fun t425 => (if t425 = true then (laws_FnBreaks.j0 k t416 t419 ((t419.length : Int) == 0)) else (laws_FnBreaks.j0 k t416 t419 true))))))) = some r := h
 clear h
 by_cases c2 : (l0.length : Int) > 1048576
 ·rw [if_pos c2] at H
  have c2b0 : decide (1048576 < (l0.length : Int)) = true := decide_eq_true c2
  have c2b1 : decide (1048576 < l0.length) = true := decide_eq_true (by omega)
  clear c2
  obtain rfl := Option.some.inj H
  go_enter Try.func10, Try.ntmps10
  go_wp2
  go_ret
  exact ⟨by first | rfl | (simp [errW_none, errW_some] <;> rfl) | (simp [*, errW_none, errW_some] <;> rfl), by repeat (first | (with_reducible first | exact HB.out | apply below_alloc | apply pw_below_drewN | apply below_drew1) | exact HB.out)⟩
 ·rw [if_neg c2] at H
  have c2b0 : decide (1048576 < (l0.length : Int)) = false := decide_eq_false c2
  have c2b1 : decide (1048576 < l0.length) = false := decide_eq_false (by omega)
  clear c2
  replace H := Option.bind_eq_some_iff.mp H
  obtain ⟨t416, A30, H⟩ := H
  replace H : ((impl_BreaksOf.f k t416).bind fun t419 => ((spec_BreaksOf.f k t416).bind fun t422 => ((laws_wcInts.f k t419 t422).bind fun t425 => (if t425 = true then (laws_FnBreaks.j0 k t416 t419 ((t419.length : Int) == 0)) else (laws_FnBreaks.j0 k t416 t419 true))))) = some r := H
  have A3 := Aside0.mk A30
  clear A30
  replace H := Option.bind_eq_some_iff.mp H
  obtain ⟨t419, A40, H⟩ := H
  replace H : ((spec_BreaksOf.f k t416).bind fun t422 => ((laws_wcInts.f k t419 t422).bind fun t425 => (if t425 = true then (laws_FnBreaks.j0 k t416 t419 ((t419.length : Int) == 0)) else (laws_FnBreaks.j0 k t416 t419 true)))) = some r := H
  have A4 := Aside0.mk A40
  clear A40
  have HC5 := Aside0.mk H
  clear H
  go_enter Try.func10, Try.ntmps10
  go_upto_region 5 with (first | ((with_reducible refine gate_callee (f := 36) rfl ?_); refine goesL_ (some 12) rfl rfl Try.func36 (by kernel_rfl) rfl #[.slice A0 l0.length c0] rfl (by (try simp only [List.map_toArray, List.map_cons, List.map_nil]); first | done | rfl | (simp only [List.length_drop, List.length_take]; rfl)) ?_; (with_reducible refine (spec_DrawBreaksOf.calls k _ _ l0 t416 _ ?side1 ?side2 A3.out).mono ?_); (case side1 => repeat (first | exact HR0.out | (with_reducible refine Kd.C_alloc ?_ _) | (with_reducible refine Kd.C_drewN ?_ _) | (with_reducible refine Kd.C_drew ?_))); (case side2 => exact HC0.out); rintro e w6 ⟨v417, rfl, ho0, hb⟩; refine ⟨_, rfl, ?_⟩; have n0_ := Aside0.mk (Kd.R_lower ho0 (below_size (by repeat (first | (with_reducible first | exact HB.out | apply below_alloc | apply pw_below_drewN | apply below_drew1) | exact HB.out)))); have n1_ := Aside0.mk (below_step (by repeat (first | (with_reducible first | exact HB.out | apply below_alloc | apply pw_below_drewN | apply below_drew1) | exact HB.out)) hb); clear HB; have HO418 := n0_; have HB := n1_; clear n0_ n1_; (try clear hb); (try clear hb2); (try clear hk); (try clear hi); (try clear ho0); obtain ⟨Ao7, co7, eo7⟩ := Kd.R_slice HO418.out; subst eo7) | ((with_reducible refine gate_callee (f := 33) rfl ?_); refine goesL_ (some 14) rfl rfl Try.func33 (by kernel_rfl) rfl #[.slice Ao7 t416.length co7] rfl (by (try simp only [List.map_toArray, List.map_cons, List.map_nil]); first | done | rfl | (simp only [List.length_drop, List.length_take]; rfl)) ?_; (with_reducible refine (impl_BreaksOf.calls k _ _ t416 t419 _ ?side1 ?side2 A4.out).mono ?_); (case side1 => repeat (first | exact (Kd.R_reads' HO418.out).2.2 | (with_reducible refine Kd.C_alloc ?_ _) | (with_reducible refine Kd.C_drewN ?_ _) | (with_reducible refine Kd.C_drew ?_))); (case side2 => exact (Kd.R_reads' HO418.out).2.1); rintro e w8 ⟨v420, rfl, ho0, hb⟩; refine ⟨_, rfl, ?_⟩; have n0_ := Aside0.mk (Kd.R_elder' (by (with_reducible repeat (first | apply Kd.R_alloc | apply Kd.R_drewN | apply Kd.R_drew)); exact HO418.out) (Kd.R_base ho0) hb); have n1_ := Aside0.mk (Kd.R_lower (Kd.R_new' ho0 (Kd.R_lt (by (with_reducible repeat (first | apply Kd.R_alloc | apply Kd.R_drewN | apply Kd.R_drew)); exact HO418.out))) (below_size (by repeat (first | (with_reducible first | exact HB.out | apply below_alloc | apply pw_below_drewN | apply below_drew1) | exact HB.out)))); have n2_ := Aside0.mk (below_step (by repeat (first | (with_reducible first | exact HB.out | apply below_alloc | apply pw_below_drewN | apply below_drew1) | exact HB.out)) hb); clear HO418; clear HB; have HO418 := n0_; have HO421 := n1_; have HB := n2_; clear n0_ n1_ n2_; (try clear hb); (try clear hb2); (try clear hk); (try clear hi); (try clear ho0)))
  (try simp only [Act.put, List.setIfInBounds_toArray, List.set_cons_zero, List.set_cons_succ])
  go_cut [24] (fun v24 wc => ∃ (kq : Nat) (x24_4 : Bool), v24 = .bool x24_4 ∧ Aside0 (laws_FnBreaks.j0 kq t416 t419 x24_4 = some r) ∧ Aside0 (kq ≤ k) ∧ Aside0 (Kd.R (Kd.int .i64) 3 wc w.heap.size (fun k_ => some k_ ≠ (v420 : Value).ownBlock) (.slice Ao7 t416.length co7) t416) ∧ Aside0 (Kd.R (Kd.int .i64) 3 wc w.heap.size (fun k_ => some k_ ≠ ((.slice Ao7 t416.length co7) : Value).ownBlock) v420 t419) ∧ Aside0 (Below w.heap.size w wc))
  case first =>
   have H := HC5.out
   clear HC5
   replace H := Option.bind_eq_some_iff.mp H
   obtain ⟨t422, A90, H⟩ := H
   replace H : ((laws_wcInts.f k t419 t422).bind fun t425 => (if t425 = true then (laws_FnBreaks.j0 k t416 t419 ((t419.length : Int) == 0)) else (laws_FnBreaks.j0 k t416 t419 true))) = some r := H
   have A9 := Aside0.mk A90
   clear A90
   replace H := Option.bind_eq_some_iff.mp H
   obtain ⟨t425, A100, H⟩ := H
   replace H : (if t425 = true then (laws_FnBreaks.j0 k t416 t419 ((t419.length : Int) == 0)) else (laws_FnBreaks.j0 k t416 t419 true)) = some r := H
   have A10 := Aside0.mk A100
   clear A100
   by_cases c11 : t425 = true
   ·subst c11
    have H1 : (laws_FnBreaks.j0 k t416 t419 ((t419.length : Int) == 0)) = some r := by rw [if_pos rfl] at H; exact H
    clear H
    have H := H1
    clear H1
    have H' := Aside0.mk H
    clear H
    go_wp2_with (first | ((with_reducible refine gate_callee (f := 32) rfl ?_); refine goesL_ (some 17) rfl rfl Try.func32 (by kernel_rfl) rfl #[.slice Ao7 t416.length co7] rfl (by (try simp only [List.map_toArray, List.map_cons, List.map_nil]); first | done | rfl | (simp only [List.length_drop, List.length_take]; rfl)) ?_; (with_reducible refine (spec_BreaksOf.calls k _ _ t416 t422 _ ?side1 ?side2 A9.out).mono ?_); (case side1 => repeat (first | exact (Kd.R_reads' HO418.out).2.2 | (with_reducible refine Kd.C_alloc ?_ _) | (with_reducible refine Kd.C_drewN ?_ _) | (with_reducible refine Kd.C_drew ?_))); (case side2 => exact (Kd.R_reads' HO418.out).2.1); rintro e w12 ⟨v423, rfl, ho0, hb⟩; refine ⟨_, rfl, ?_⟩; have n0_ := Aside0.mk (Kd.R_elder' (by (with_reducible repeat (first | apply Kd.R_alloc | apply Kd.R_drewN | apply Kd.R_drew)); exact HO418.out) (Kd.R_base ho0) hb); have n1_ := Aside0.mk (Kd.R_elder' (by (with_reducible repeat (first | apply Kd.R_alloc | apply Kd.R_drewN | apply Kd.R_drew)); exact HO421.out) (Kd.R_base ho0) hb); have n2_ := Aside0.mk (Kd.R_lower (Kd.R_new' (Kd.R_new' ho0 (Kd.R_lt (by (with_reducible repeat (first | apply Kd.R_alloc | apply Kd.R_drewN | apply Kd.R_drew)); exact HO418.out))) (Kd.R_lt (by (with_reducible repeat (first | apply Kd.R_alloc | apply Kd.R_drewN | apply Kd.R_drew)); exact HO421.out))) (below_size (by repeat (first | (with_reducible first | exact HB.out | apply below_alloc | apply pw_below_drewN | apply below_drew1) | exact HB.out)))); have n3_ := Aside0.mk (below_step (by repeat (first | (with_reducible first | exact HB.out | apply below_alloc | apply pw_below_drewN | apply below_drew1) | exact HB.out)) hb); clear HO418; clear HO421; clear HB; have HO418 := n0_; have HO421 := n1_; have HO424 := n2_; have HB := n3_; clear n0_ n1_ n2_ n3_; (try clear hb); (try clear hb2); (try clear hk); (try clear hi); (try clear ho0); obtain ⟨Ao13, co13, eo13⟩ := Kd.R_slice HO421.out; subst eo13; obtain ⟨Ao14, co14, eo14⟩ := Kd.R_slice HO424.out; subst eo14) | ((with_reducible refine gate_callee (f := 25) rfl ?_); refine goesL_ (some 18) rfl rfl Try.func25 (by kernel_rfl) rfl #[.slice Ao13 t419.length co13, .slice Ao14 t422.length co14] rfl (by (try simp only [List.map_toArray, List.map_cons, List.map_nil]); first | done | rfl | (simp only [List.length_drop, List.length_take]; rfl)) ?_; (with_reducible refine (laws_wcInts.calls k _ _ t419 _ _ t422 true _ ?side1 ?side2 ?side3 ?side4 A10.out).mono ?_); (case side1 => repeat (first | exact (Kd.R_reads' HO421.out).2.2 | (with_reducible refine Kd.C_alloc ?_ _) | (with_reducible refine Kd.C_drewN ?_ _) | (with_reducible refine Kd.C_drew ?_))); (case side2 => exact (Kd.R_reads' HO421.out).2.1); (case side3 => repeat (first | exact (Kd.R_reads' HO424.out).2.2 | (with_reducible refine Kd.C_alloc ?_ _) | (with_reducible refine Kd.C_drewN ?_ _) | (with_reducible refine Kd.C_drew ?_))); (case side4 => exact (Kd.R_reads' HO424.out).2.1); rintro e w' ⟨rfl, ⟨nd, rfl⟩⟩; refine ⟨_, rfl, ?_⟩))
    go_meet
    case rel => exact ⟨_, (((t419.length : Int) == 0)), (by first | rfl | (simp; done) | (simp [*]; done)), (by first | exact H' | (simp only [hji28]; exact H') | (simp only [hji56]; exact H') | (simp only [hji28, hji56]; exact H')), ⟨by first | omega | exact Nat.le_refl _⟩, ⟨by (with_reducible repeat (first | apply Kd.R_alloc | apply Kd.R_drewN | apply Kd.R_drew)); exact Kd.R_mono HO418.out (fun _ hk => hk.1.2)⟩, ⟨by (with_reducible repeat (first | apply Kd.R_alloc | apply Kd.R_drewN | apply Kd.R_drew)); exact Kd.R_mono HO421.out (fun _ hk => hk.1.2)⟩, ⟨by repeat (first | (with_reducible first | exact HB.out | apply below_alloc | apply pw_below_drewN | apply below_drew1) | exact HB.out)⟩⟩
   ·replace c11 := Bool.eq_false_iff.mpr c11
    subst c11
    have H1 : (laws_FnBreaks.j0 k t416 t419 true) = some r := by rw [if_neg (show ¬ (false = true) by decide)] at H; exact H
    clear H
    have H := H1
    clear H1
    have H' := Aside0.mk H
    clear H
    go_wp2_with (first | ((with_reducible refine gate_callee (f := 32) rfl ?_); refine goesL_ (some 17) rfl rfl Try.func32 (by kernel_rfl) rfl #[.slice Ao7 t416.length co7] rfl (by (try simp only [List.map_toArray, List.map_cons, List.map_nil]); first | done | rfl | (simp only [List.length_drop, List.length_take]; rfl)) ?_; (with_reducible refine (spec_BreaksOf.calls k _ _ t416 t422 _ ?side1 ?side2 A9.out).mono ?_); (case side1 => repeat (first | exact (Kd.R_reads' HO418.out).2.2 | (with_reducible refine Kd.C_alloc ?_ _) | (with_reducible refine Kd.C_drewN ?_ _) | (with_reducible refine Kd.C_drew ?_))); (case side2 => exact (Kd.R_reads' HO418.out).2.1); rintro e w15 ⟨v423, rfl, ho0, hb⟩; refine ⟨_, rfl, ?_⟩; have n0_ := Aside0.mk (Kd.R_elder' (by (with_reducible repeat (first | apply Kd.R_alloc | apply Kd.R_drewN | apply Kd.R_drew)); exact HO418.out) (Kd.R_base ho0) hb); have n1_ := Aside0.mk (Kd.R_elder' (by (with_reducible repeat (first | apply Kd.R_alloc | apply Kd.R_drewN | apply Kd.R_drew)); exact HO421.out) (Kd.R_base ho0) hb); have n2_ := Aside0.mk (Kd.R_lower (Kd.R_new' (Kd.R_new' ho0 (Kd.R_lt (by (with_reducible repeat (first | apply Kd.R_alloc | apply Kd.R_drewN | apply Kd.R_drew)); exact HO418.out))) (Kd.R_lt (by (with_reducible repeat (first | apply Kd.R_alloc | apply Kd.R_drewN | apply Kd.R_drew)); exact HO421.out))) (below_size (by repeat (first | (with_reducible first | exact HB.out | apply below_alloc | apply pw_below_drewN | apply below_drew1) | exact HB.out)))); have n3_ := Aside0.mk (below_step (by repeat (first | (with_reducible first | exact HB.out | apply below_alloc | apply pw_below_drewN | apply below_drew1) | exact HB.out)) hb); clear HO418; clear HO421; clear HB; have HO418 := n0_; have HO421 := n1_; have HO424 := n2_; have HB := n3_; clear n0_ n1_ n2_ n3_; (try clear hb); (try clear hb2); (try clear hk); (try clear hi); (try clear ho0); obtain ⟨Ao16, co16, eo16⟩ := Kd.R_slice HO421.out; subst eo16; obtain ⟨Ao17, co17, eo17⟩ := Kd.R_slice HO424.out; subst eo17) | ((with_reducible refine gate_callee (f := 25) rfl ?_); refine goesL_ (some 18) rfl rfl Try.func25 (by kernel_rfl) rfl #[.slice Ao16 t419.length co16, .slice Ao17 t422.length co17] rfl (by (try simp only [List.map_toArray, List.map_cons, List.map_nil]); first | done | rfl | (simp only [List.length_drop, List.length_take]; rfl)) ?_; (with_reducible refine (laws_wcInts.calls k _ _ t419 _ _ t422 false _ ?side1 ?side2 ?side3 ?side4 A10.out).mono ?_); (case side1 => repeat (first | exact (Kd.R_reads' HO421.out).2.2 | (with_reducible refine Kd.C_alloc ?_ _) | (with_reducible refine Kd.C_drewN ?_ _) | (with_reducible refine Kd.C_drew ?_))); (case side2 => exact (Kd.R_reads' HO421.out).2.1); (case side3 => repeat (first | exact (Kd.R_reads' HO424.out).2.2 | (with_reducible refine Kd.C_alloc ?_ _) | (with_reducible refine Kd.C_drewN ?_ _) | (with_reducible refine Kd.C_drew ?_))); (case side4 => exact (Kd.R_reads' HO424.out).2.1); rintro e w' ⟨rfl, ⟨nd, rfl⟩⟩; refine ⟨_, rfl, ?_⟩))
    go_meet
    case rel => exact ⟨_, (true), (by first | rfl | (simp; done) | (simp [*]; done)), (by first | exact H' | (simp only [hji28]; exact H') | (simp only [hji56]; exact H') | (simp only [hji28, hji56]; exact H')), ⟨by first | omega | exact Nat.le_refl _⟩, ⟨by (with_reducible repeat (first | apply Kd.R_alloc | apply Kd.R_drewN | apply Kd.R_drew)); exact Kd.R_mono HO418.out (fun _ hk => hk.1.2)⟩, ⟨by (with_reducible repeat (first | apply Kd.R_alloc | apply Kd.R_drewN | apply Kd.R_drew)); exact Kd.R_mono HO421.out (fun _ hk => hk.1.2)⟩, ⟨by repeat (first | (with_reducible first | exact HB.out | apply below_alloc | apply pw_below_drewN | apply below_drew1) | exact HB.out)⟩⟩
  case rest =>
   clear HC5
   try clear c1
   try clear c2
   try clear c2b0
   try clear c2b1
   try clear p2
   try clear c3
   try clear c10
   try clear c11
   obtain ⟨kq, x24_4, rfl, HA, HJ4, HO_3, HO_4, HB⟩ := hcut
   cases kq with
   | zero => exact absurd HA.out (by simp [laws_FnBreaks.j0])
   | succ kj4 =>
    have H := HA.out
    clear HA
    simp only [laws_FnBreaks.j0] at H
    by_cases c18 : x24_4 = true
    ·subst c18
     have H1 : ((spec_BreaksOf.f kj4 t416).bind fun t426 => ((laws_wcInts.f kj4 t419 t426).bind fun t429 => (some t429))) = some r := by rw [if_pos rfl] at H; exact H
     clear H
     have H := H1
     clear H1
     replace H := Option.bind_eq_some_iff.mp H
     obtain ⟨t426, A190, H⟩ := H
     replace H : ((laws_wcInts.f kj4 t419 t426).bind fun t429 => (some t429)) = some r := H
     have A19 := Aside0.mk A190
     clear A190
     replace H := Option.bind_eq_some_iff.mp H
     obtain ⟨t429, A200, H⟩ := H
     replace H : (some t429) = some r := H
     have A20 := Aside0.mk A200
     clear A200
     obtain rfl := Option.some.inj H
     go_wp2_with (first | ((with_reducible refine gate_callee (f := 32) rfl ?_); refine goesL_ (some 27) rfl rfl Try.func32 (by kernel_rfl) rfl #[.slice Ao7 t416.length co7] rfl (by (try simp only [List.map_toArray, List.map_cons, List.map_nil]); first | done | rfl | (simp only [List.length_drop, List.length_take]; rfl)) ?_; (with_reducible refine (spec_BreaksOf.calls kj4 _ _ t416 t426 _ ?side1 ?side2 A19.out).mono ?_); (case side1 => repeat (first | exact (Kd.R_reads' HO_3.out).2.2 | (with_reducible refine Kd.C_alloc ?_ _) | (with_reducible refine Kd.C_drewN ?_ _) | (with_reducible refine Kd.C_drew ?_))); (case side2 => exact (Kd.R_reads' HO_3.out).2.1); rintro e w21 ⟨v427, rfl, ho0, hb⟩; refine ⟨_, rfl, ?_⟩; have n0_ := Aside0.mk (Kd.R_elder' (by (with_reducible repeat (first | apply Kd.R_alloc | apply Kd.R_drewN | apply Kd.R_drew)); exact HO_3.out) (Kd.R_base ho0) hb); have n1_ := Aside0.mk (Kd.R_elder' (by (with_reducible repeat (first | apply Kd.R_alloc | apply Kd.R_drewN | apply Kd.R_drew)); exact HO_4.out) (Kd.R_base ho0) hb); have n2_ := Aside0.mk (Kd.R_lower (Kd.R_new' (Kd.R_new' ho0 (Kd.R_lt (by (with_reducible repeat (first | apply Kd.R_alloc | apply Kd.R_drewN | apply Kd.R_drew)); exact HO_3.out))) (Kd.R_lt (by (with_reducible repeat (first | apply Kd.R_alloc | apply Kd.R_drewN | apply Kd.R_drew)); exact HO_4.out))) (below_size (by repeat (first | (with_reducible first | exact HB.out | apply below_alloc | apply pw_below_drewN | apply below_drew1) | exact HB.out)))); have n3_ := Aside0.mk (below_step (by repeat (first | (with_reducible first | exact HB.out | apply below_alloc | apply pw_below_drewN | apply below_drew1) | exact HB.out)) hb); clear HO_3; clear HO_4; clear HB; have HO_3 := n0_; have HO_4 := n1_; have HO428 := n2_; have HB := n3_; clear n0_ n1_ n2_ n3_; (try clear hb); (try clear hb2); (try clear hk); (try clear hi); (try clear ho0); obtain ⟨Ao22, co22, eo22⟩ := Kd.R_slice HO_4.out; subst eo22; obtain ⟨Ao23, co23, eo23⟩ := Kd.R_slice HO428.out; subst eo23) | ((with_reducible refine gate_callee (f := 25) rfl ?_); refine goesL_ (some 28) rfl rfl Try.func25 (by kernel_rfl) rfl #[.slice Ao22 t419.length co22, .slice Ao23 t426.length co23] rfl (by (try simp only [List.map_toArray, List.map_cons, List.map_nil]); first | done | rfl | (simp only [List.length_drop, List.length_take]; rfl)) ?_; (with_reducible refine (laws_wcInts.calls kj4 _ _ t419 _ _ t426 t429 _ ?side1 ?side2 ?side3 ?side4 A20.out).mono ?_); (case side1 => repeat (first | exact (Kd.R_reads' HO_4.out).2.2 | (with_reducible refine Kd.C_alloc ?_ _) | (with_reducible refine Kd.C_drewN ?_ _) | (with_reducible refine Kd.C_drew ?_))); (case side2 => exact (Kd.R_reads' HO_4.out).2.1); (case side3 => repeat (first | exact (Kd.R_reads' HO428.out).2.2 | (with_reducible refine Kd.C_alloc ?_ _) | (with_reducible refine Kd.C_drewN ?_ _) | (with_reducible refine Kd.C_drew ?_))); (case side4 => exact (Kd.R_reads' HO428.out).2.1); rintro e w' ⟨rfl, ⟨nd, rfl⟩⟩; refine ⟨_, rfl, ?_⟩))
     go_ret
     exact ⟨by first | rfl | (simp [errW_none, errW_some] <;> rfl) | (simp [*, errW_none, errW_some] <;> rfl), by repeat (first | (with_reducible first | exact HB.out | apply below_alloc | apply pw_below_drewN | apply below_drew1) | exact HB.out)⟩
    ·replace c18 := Bool.eq_false_iff.mpr c18
     subst c18
     have H1 : (laws_FnBreaks.l0 kj4 t416 t419 0) = some r := by rw [if_neg (show ¬ (false = true) by decide)] at H; exact H
     clear H
     have H := H1
     clear H1
     have H' := Aside0.mk H
     clear H
     go_wp2
     go_loopg [5] kj4 (fun kq v5 w' => ∃ (x5_2 : Int), v5 = .int .i64 x5_2 ∧ Aside0 (laws_FnBreaks.l0 kq t416 t419 x5_2 = some r) ∧ Aside0 (kq ≤ kj4) ∧ Aside0 (Kd.R (Kd.int .i64) 3 w' w.heap.size (fun k_ => some k_ ≠ (v420 : Value).ownBlock) (.slice Ao7 t416.length co7) t416) ∧ Aside0 (Kd.R (Kd.int .i64) 3 w' w.heap.size (fun k_ => some k_ ≠ ((.slice Ao7 t416.length co7) : Value).ownBlock) v420 t419) ∧ Aside0 (Below w.heap.size w w'))
     case atStart => exact ⟨(0), (by first | rfl | (simp; done) | (simp [*]; done)), H', ⟨Nat.le_refl _⟩, ⟨by (with_reducible repeat (first | apply Kd.R_alloc | apply Kd.R_drewN | apply Kd.R_drew)); exact HO_3.out⟩, ⟨by (with_reducible repeat (first | apply Kd.R_alloc | apply Kd.R_drewN | apply Kd.R_drew)); exact HO_4.out⟩, ⟨by repeat (first | (with_reducible first | exact HB.out | apply below_alloc | apply pw_below_drewN | apply below_drew1) | exact HB.out)⟩⟩
     case round =>
      clear H'
      try clear c1
      try clear c2
      try clear c2b0
      try clear c2b1
      try clear p2
      try clear c3
      try clear c10
      try clear c11
      try clear c18
      try clear p2
      obtain ⟨x5_2, rfl, HA, HK2, HO_3, HO_4, HB⟩ := hrel
      cases gk with
      | zero => exact absurd HA.out (by simp [laws_FnBreaks.l0])
      | succ k2 =>
       have H := HA.out
       clear HA
       simp only [laws_FnBreaks.l0] at H
       by_cases c24 : (wrap64 (x5_2 + 1)) < (t419.length : Int)
       ·rw [if_pos c24] at H
        have c24b0 : decide ((wrap64 (x5_2 + 1)) < (t419.length : Int)) = true := decide_eq_true c24
        clear c24
        by_cases c25 : 0 ≤ x5_2
        ·rw [if_pos c25] at H
         have c25b0 : decide (0 ≤ x5_2) = true := decide_eq_true c25
         clear c25
         by_cases c26 : x5_2 < (t416.length : Int)
         ·rw [if_pos c26] at H
          have c26b0 : decide (x5_2 < (t416.length : Int)) = true := decide_eq_true c26
          clear c26
          replace H := Option.bind_eq_some_iff.mp H
          obtain ⟨t432, A270, H⟩ := H
          replace H : (if 0 ≤ (wrap64 (x5_2 + 1)) then (if (wrap64 (x5_2 + 1)) < (t416.length : Int) then ((spec_RuneLine.f k2 (rd t416 (wrap64 (x5_2 + 1)))).bind fun t434 => (if x5_2 < (t419.length : Int) then (if (((rd t419 x5_2) == 2) != (t432 == 4)) = true then (laws_FnBreaks.j2 k2 t416 t419 x5_2 t432 t434 true) else (if (rd t419 x5_2) = 1 then ((impl_ClusterAt.f k2 t416 (wrap64 (x5_2 + 1))).bind fun t437 => (if t437 = (wrap64 (x5_2 + 1)) then (if t434 = 3 then (laws_FnBreaks.j2 k2 t416 t419 x5_2 t432 t434 true) else (laws_FnBreaks.j2 k2 t416 t419 x5_2 t432 t434 (t434 == 4))) else (laws_FnBreaks.j2 k2 t416 t419 x5_2 t432 t434 true))) else (laws_FnBreaks.j2 k2 t416 t419 x5_2 t432 t434 false))) else (none))) else (none)) else (none)) = some r := H
          have A27 := Aside0.mk A270
          clear A270
          obtain ⟨ji28, hji28⟩ : ∃ j_ : Int, (wrap64 (x5_2 + 1)) = j_ := ⟨_, rfl⟩
          replace H : (if 0 ≤ (ji28) then (if (ji28) < (t416.length : Int) then ((spec_RuneLine.f k2 (rd t416 (ji28))).bind fun t434 => (if x5_2 < (t419.length : Int) then (if (((rd t419 x5_2) == 2) != (t432 == 4)) = true then (laws_FnBreaks.j2 k2 t416 t419 x5_2 t432 t434 true) else (if (rd t419 x5_2) = 1 then ((impl_ClusterAt.f k2 t416 (ji28)).bind fun t437 => (if t437 = (ji28) then (if t434 = 3 then (laws_FnBreaks.j2 k2 t416 t419 x5_2 t432 t434 true) else (laws_FnBreaks.j2 k2 t416 t419 x5_2 t432 t434 (t434 == 4))) else (laws_FnBreaks.j2 k2 t416 t419 x5_2 t432 t434 true))) else (laws_FnBreaks.j2 k2 t416 t419 x5_2 t432 t434 false))) else (none))) else (none)) else (none)) = some r := by first | (rw [hji28] at H; exact H) | (simp only [hji28] at H ⊢; exact H)
          (try rw [hji28] at c24b0)
          (try rw [hji28] at A27)
          have hji28w : (IntKind.i64.wrap (x5_2 + 1)) = ji28 := (i64_w _).trans hji28
          by_cases c29 : 0 ≤ (ji28)
          ·rw [if_pos c29] at H
           have c29b0 : decide (0 ≤ (ji28)) = true := decide_eq_true c29
           clear c29
           by_cases c30 : (ji28) < (t416.length : Int)
           ·rw [if_pos c30] at H
            have c30b0 : decide ((ji28) < (t416.length : Int)) = true := decide_eq_true c30
            clear c30
            replace H := Option.bind_eq_some_iff.mp H
            obtain ⟨t434, A310, H⟩ := H
            replace H : (if x5_2 < (t419.length : Int) then (if (((rd t419 x5_2) == 2) != (t432 == 4)) = true then (laws_FnBreaks.j2 k2 t416 t419 x5_2 t432 t434 true) else (if (rd t419 x5_2) = 1 then ((impl_ClusterAt.f k2 t416 (ji28)).bind fun t437 => (if t437 = (ji28) then (if t434 = 3 then (laws_FnBreaks.j2 k2 t416 t419 x5_2 t432 t434 true) else (laws_FnBreaks.j2 k2 t416 t419 x5_2 t432 t434 (t434 == 4))) else (laws_FnBreaks.j2 k2 t416 t419 x5_2 t432 t434 true))) else (laws_FnBreaks.j2 k2 t416 t419 x5_2 t432 t434 false))) else (none)) = some r := H
            have A31 := Aside0.mk A310
            clear A310
            have HC32 := Aside0.mk H
            clear H
            obtain ⟨Ao33, co33, eo33⟩ := Kd.R_slice HO_4.out
            subst eo33
            have p431 : 0 ≤ (x5_2 : Int) := of_decide_eq_true (by first | (with_reducible assumption) | assumption)
            have q431 : x5_2 < (t416.length : Int) := of_decide_eq_true (by first | (with_reducible assumption) | assumption)
            obtain ⟨ad431, e431, hx431_0⟩ := Kd.at_int (Kd.R_reads' HO_3.out).2.2 x5_2 p431 q431
            cases e431
            replace p431 := eq_true p431
            replace q431 := eq_true q431
            go_upto_region 12 with (first | ((with_reducible refine gate_callee (f := 37) rfl ?_); refine goesL_ (some 40) rfl rfl Try.func37 (by kernel_rfl) rfl #[.int .i64 (rd t416 x5_2)] rfl (by (try simp only [List.map_toArray, List.map_cons, List.map_nil]); first | done | rfl | (simp only [List.length_drop, List.length_take]; rfl)) ?_; (with_reducible refine (spec_RuneLine.calls k2 (rd t416 x5_2) t432 _ A27.out).mono ?_); rintro e w34 ⟨rfl, hb⟩; refine ⟨_, rfl, ?_⟩; have n0_ := Aside0.mk (Kd.R_below (by (with_reducible repeat (first | apply Kd.R_alloc | apply Kd.R_drewN | apply Kd.R_drew)); exact HO_3.out) hb); have n1_ := Aside0.mk (Kd.R_below (by (with_reducible repeat (first | apply Kd.R_alloc | apply Kd.R_drewN | apply Kd.R_drew)); exact HO_4.out) hb); have n2_ := Aside0.mk (below_step (by repeat (first | (with_reducible first | exact HB.out | apply below_alloc | apply pw_below_drewN | apply below_drew1) | exact HB.out)) hb); clear HO_3; clear HO_4; clear HB; have HO_3 := n0_; have HO_4 := n1_; have HB := n2_; clear n0_ n1_ n2_; (try clear hb); (try clear hb2); (try clear hk); (try clear hi); have p433 : 0 ≤ ((ji28) : Int) := of_decide_eq_true (by first | (with_reducible assumption) | assumption); have q433 : (ji28) < (t416.length : Int) := of_decide_eq_true (by first | (with_reducible assumption) | assumption); obtain ⟨ad433, e433, hx433_0⟩ := Kd.at_int (Kd.R_reads' HO_3.out).2.2 (ji28) p433 q433; obtain rfl : ad431 = ad433 := (by injection e433); replace p433 := eq_true p433; replace q433 := eq_true q433) | ((with_reducible refine gate_callee (f := 37) rfl ?_); refine goesL_ (some 46) rfl rfl Try.func37 (by kernel_rfl) rfl #[.int .i64 (rd t416 (ji28))] rfl (by (try simp only [List.map_toArray, List.map_cons, List.map_nil]); first | done | (simp only [hji28]; rfl) | rfl | (simp only [List.length_drop, List.length_take]; rfl)) ?_; (with_reducible refine (spec_RuneLine.calls k2 (rd t416 (ji28)) t434 _ A31.out).mono ?_); rintro e w35 ⟨rfl, hb⟩; refine ⟨_, rfl, ?_⟩; have n0_ := Aside0.mk (Kd.R_below (by (with_reducible repeat (first | apply Kd.R_alloc | apply Kd.R_drewN | apply Kd.R_drew)); exact HO_3.out) hb); have n1_ := Aside0.mk (Kd.R_below (by (with_reducible repeat (first | apply Kd.R_alloc | apply Kd.R_drewN | apply Kd.R_drew)); exact HO_4.out) hb); have n2_ := Aside0.mk (below_step (by repeat (first | (with_reducible first | exact HB.out | apply below_alloc | apply pw_below_drewN | apply below_drew1) | exact HB.out)) hb); clear HO_3; clear HO_4; clear HB; have HO_3 := n0_; have HO_4 := n1_; have HB := n2_; clear n0_ n1_ n2_; (try clear hb); (try clear hb2); (try clear hk); (try clear hi)))
            (try simp only [Act.put, List.setIfInBounds_toArray, List.set_cons_zero, List.set_cons_succ])
            go_cut [78] (fun v78 wc => ∃ (kq : Nat) (x78_31 : Bool), v78 = .bool x78_31 ∧ Aside0 (laws_FnBreaks.j2 kq t416 t419 x5_2 t432 t434 x78_31 = some r) ∧ Aside0 (kq ≤ k2) ∧ Aside0 (Kd.R (Kd.int .i64) 3 wc w.heap.size (fun k_ => some k_ ≠ ((.slice Ao33 t419.length co33) : Value).ownBlock) (.slice (some ad431) t416.length co7) t416) ∧ Aside0 (Kd.R (Kd.int .i64) 3 wc w.heap.size (fun k_ => some k_ ≠ ((.slice (some ad431) t416.length co7) : Value).ownBlock) (.slice Ao33 t419.length co33) t419) ∧ Aside0 (Below w.heap.size w wc))
            case first =>
             have H := HC32.out
             clear HC32
             by_cases c36 : x5_2 < (t419.length : Int)
             ·rw [if_pos c36] at H
              have c36b0 : decide (x5_2 < (t419.length : Int)) = true := decide_eq_true c36
              clear c36
              (first | rw [c36b0] | (simp only [i64_w, i32_w]; rw [c36b0]) | skip)
              by_cases c37 : (((rd t419 x5_2) == 2) != (t432 == 4)) = true
              ·rw [if_pos c37] at H
               have c37b0 : (((rd t419 x5_2) == 2) != (t432 == 4)) = true := c37
               (try (have c37b1 : decide (((rd t419 x5_2) == 2) = (t432 == 4)) = false := by simpa using c37))
               (try (have c37b2 : (((rd t419 x5_2) == 2) == (t432 == 4)) = false := by simpa using c37))
               (try (have c37b3 : ¬ (((rd t419 x5_2) == 2) = (t432 == 4)) := by simpa using c37))
               clear c37
               have H' := Aside0.mk H
               clear H
               have p435 : 0 ≤ (x5_2 : Int) := of_decide_eq_true (by first | (with_reducible assumption) | assumption)
               have q435 : x5_2 < (t419.length : Int) := of_decide_eq_true (by first | (with_reducible assumption) | assumption)
               obtain ⟨ad435, e435, hx435_0⟩ := Kd.at_int (Kd.R_reads' HO_4.out).2.2 x5_2 p435 q435
               cases e435
               replace p435 := eq_true p435
               replace q435 := eq_true q435
               go_wp2
               go_meet
               case rel => exact ⟨_, (true), (by first | rfl | (simp; done) | (simp [*]; done)), (by first | exact H' | (simp only [hji28]; exact H') | (simp only [hji56]; exact H') | (simp only [hji28, hji56]; exact H')), ⟨by have := HJ4.out; have := HK2.out; first | omega | exact Nat.le_refl _⟩, ⟨by (with_reducible repeat (first | apply Kd.R_alloc | apply Kd.R_drewN | apply Kd.R_drew)); exact HO_3.out⟩, ⟨by (with_reducible repeat (first | apply Kd.R_alloc | apply Kd.R_drewN | apply Kd.R_drew)); exact HO_4.out⟩, ⟨by repeat (first | (with_reducible first | exact HB.out | apply below_alloc | apply pw_below_drewN | apply below_drew1) | exact HB.out)⟩⟩
              ·rw [if_neg c37] at H
               have c37b0 : (((rd t419 x5_2) == 2) != (t432 == 4)) = false := by simpa using c37
               (try (have c37b1 : decide (((rd t419 x5_2) == 2) = (t432 == 4)) = true := by simpa using c37))
               (try (have c37b2 : (((rd t419 x5_2) == 2) == (t432 == 4)) = true := by simpa using c37))
               clear c37
               by_cases c38 : (rd t419 x5_2) = 1
               ·rw [if_pos c38] at H
                have c38b0 : ((rd t419 x5_2) == 1) = true := beq_iff_eq.mpr c38
                have c38b1 : ((rd t419 x5_2) != 1) = false := bne_eq_false_iff_eq.mpr c38
                clear c38
                replace H := Option.bind_eq_some_iff.mp H
                obtain ⟨t437, A390, H⟩ := H
                replace H : (if t437 = (ji28) then (if t434 = 3 then (laws_FnBreaks.j2 k2 t416 t419 x5_2 t432 t434 true) else (laws_FnBreaks.j2 k2 t416 t419 x5_2 t432 t434 (t434 == 4))) else (laws_FnBreaks.j2 k2 t416 t419 x5_2 t432 t434 true)) = some r := H
                have A39 := Aside0.mk A390
                clear A390
                by_cases c40 : t437 = (ji28)
                ·rw [if_pos c40] at H
                 have c40b0 : (t437 == (ji28)) = true := beq_iff_eq.mpr c40
                 have c40b1 : (t437 != (ji28)) = false := bne_eq_false_iff_eq.mpr c40
                 clear c40
                 by_cases c41 : t434 = 3
                 ·rw [if_pos c41] at H
                  have c41b0 : (t434 == 3) = true := beq_iff_eq.mpr c41
                  have c41b1 : (t434 != 3) = false := bne_eq_false_iff_eq.mpr c41
                  clear c41
                  have H' := Aside0.mk H
                  clear H
                  have p435 : 0 ≤ (x5_2 : Int) := of_decide_eq_true (by first | (with_reducible assumption) | assumption)
                  have q435 : x5_2 < (t419.length : Int) := of_decide_eq_true (by first | (with_reducible assumption) | assumption)
                  obtain ⟨ad435, e435, hx435_0⟩ := Kd.at_int (Kd.R_reads' HO_4.out).2.2 x5_2 p435 q435
                  cases e435
                  replace p435 := eq_true p435
                  replace q435 := eq_true q435
                  have p436 : 0 ≤ (x5_2 : Int) := of_decide_eq_true (by first | (with_reducible assumption) | assumption)
                  have q436 : x5_2 < (t419.length : Int) := of_decide_eq_true (by first | (with_reducible assumption) | assumption)
                  obtain ⟨ad436, e436, hx436_0⟩ := Kd.at_int (Kd.R_reads' HO_4.out).2.2 x5_2 p436 q436
                  obtain rfl : ad435 = ad436 := (by injection e436)
                  replace p436 := eq_true p436
                  replace q436 := eq_true q436
                  go_wp2_with (first | (go_at_call 27; (with_reducible refine (impl_ClusterAt.calls k2 _ _ t416 ji28 t437 _ ?side1 ?side2 A39.out).mono ?_); (case side1 => repeat (first | exact (Kd.R_reads' HO_3.out).2.2 | (with_reducible refine Kd.C_alloc ?_ _) | (with_reducible refine Kd.C_drewN ?_ _) | (with_reducible refine Kd.C_drew ?_))); (case side2 => exact (Kd.R_reads' HO_3.out).2.1); rintro e w42 ⟨rfl, hb⟩; have n0_ := Aside0.mk (Kd.R_below (by (with_reducible repeat (first | apply Kd.R_alloc | apply Kd.R_drewN | apply Kd.R_drew)); exact HO_3.out) hb); have n1_ := Aside0.mk (Kd.R_below (by (with_reducible repeat (first | apply Kd.R_alloc | apply Kd.R_drewN | apply Kd.R_drew)); exact HO_4.out) hb); have n2_ := Aside0.mk (below_step (by repeat (first | (with_reducible first | exact HB.out | apply below_alloc | apply pw_below_drewN | apply below_drew1) | exact HB.out)) hb); clear HO_3; clear HO_4; clear HB; have HO_3 := n0_; have HO_4 := n1_; have HB := n2_; clear n0_ n1_ n2_; (try clear hb); (try clear hb2); (try clear hk); (try clear hi)))
                  go_meet
                  case rel => exact ⟨_, (true), (by first | rfl | (simp; done) | (simp [*]; done)), (by first | exact H' | (simp only [hji28]; exact H') | (simp only [hji56]; exact H') | (simp only [hji28, hji56]; exact H')), ⟨by have := HJ4.out; have := HK2.out; first | omega | exact Nat.le_refl _⟩, ⟨by (with_reducible repeat (first | apply Kd.R_alloc | apply Kd.R_drewN | apply Kd.R_drew)); exact HO_3.out⟩, ⟨by (with_reducible repeat (first | apply Kd.R_alloc | apply Kd.R_drewN | apply Kd.R_drew)); exact HO_4.out⟩, ⟨by repeat (first | (with_reducible first | exact HB.out | apply below_alloc | apply pw_below_drewN | apply below_drew1) | exact HB.out)⟩⟩
                 ·rw [if_neg c41] at H
                  have c41b0 : (t434 == 3) = false := beq_eq_false_iff_ne.mpr c41
                  have c41b1 : (t434 != 3) = true := bne_iff_ne.mpr c41
                  have H' := Aside0.mk H
                  clear H
                  have p435 : 0 ≤ (x5_2 : Int) := of_decide_eq_true (by first | (with_reducible assumption) | assumption)
                  have q435 : x5_2 < (t419.length : Int) := of_decide_eq_true (by first | (with_reducible assumption) | assumption)
                  obtain ⟨ad435, e435, hx435_0⟩ := Kd.at_int (Kd.R_reads' HO_4.out).2.2 x5_2 p435 q435
                  cases e435
                  replace p435 := eq_true p435
                  replace q435 := eq_true q435
                  have p436 : 0 ≤ (x5_2 : Int) := of_decide_eq_true (by first | (with_reducible assumption) | assumption)
                  have q436 : x5_2 < (t419.length : Int) := of_decide_eq_true (by first | (with_reducible assumption) | assumption)
                  obtain ⟨ad436, e436, hx436_0⟩ := Kd.at_int (Kd.R_reads' HO_4.out).2.2 x5_2 p436 q436
                  obtain rfl : ad435 = ad436 := (by injection e436)
                  replace p436 := eq_true p436
                  replace q436 := eq_true q436
                  go_wp2_with (first | (go_at_call 27; (with_reducible refine (impl_ClusterAt.calls k2 _ _ t416 ji28 t437 _ ?side1 ?side2 A39.out).mono ?_); (case side1 => repeat (first | exact (Kd.R_reads' HO_3.out).2.2 | (with_reducible refine Kd.C_alloc ?_ _) | (with_reducible refine Kd.C_drewN ?_ _) | (with_reducible refine Kd.C_drew ?_))); (case side2 => exact (Kd.R_reads' HO_3.out).2.1); rintro e w43 ⟨rfl, hb⟩; have n0_ := Aside0.mk (Kd.R_below (by (with_reducible repeat (first | apply Kd.R_alloc | apply Kd.R_drewN | apply Kd.R_drew)); exact HO_3.out) hb); have n1_ := Aside0.mk (Kd.R_below (by (with_reducible repeat (first | apply Kd.R_alloc | apply Kd.R_drewN | apply Kd.R_drew)); exact HO_4.out) hb); have n2_ := Aside0.mk (below_step (by repeat (first | (with_reducible first | exact HB.out | apply below_alloc | apply pw_below_drewN | apply below_drew1) | exact HB.out)) hb); clear HO_3; clear HO_4; clear HB; have HO_3 := n0_; have HO_4 := n1_; have HB := n2_; clear n0_ n1_ n2_; (try clear hb); (try clear hb2); (try clear hk); (try clear hi)))
                  go_meet
                  case rel => exact ⟨_, ((t434 == 4)), (by first | rfl | (simp; done) | (simp [*]; done)), (by first | exact H' | (simp only [hji28]; exact H') | (simp only [hji56]; exact H') | (simp only [hji28, hji56]; exact H')), ⟨by have := HJ4.out; have := HK2.out; first | omega | exact Nat.le_refl _⟩, ⟨by (with_reducible repeat (first | apply Kd.R_alloc | apply Kd.R_drewN | apply Kd.R_drew)); exact HO_3.out⟩, ⟨by (with_reducible repeat (first | apply Kd.R_alloc | apply Kd.R_drewN | apply Kd.R_drew)); exact HO_4.out⟩, ⟨by repeat (first | (with_reducible first | exact HB.out | apply below_alloc | apply pw_below_drewN | apply below_drew1) | exact HB.out)⟩⟩
                ·rw [if_neg c40] at H
                 have c40b0 : (t437 == (ji28)) = false := beq_eq_false_iff_ne.mpr c40
                 have c40b1 : (t437 != (ji28)) = true := bne_iff_ne.mpr c40
                 have H' := Aside0.mk H
                 clear H
                 have p435 : 0 ≤ (x5_2 : Int) := of_decide_eq_true (by first | (with_reducible assumption) | assumption)
                 have q435 : x5_2 < (t419.length : Int) := of_decide_eq_true (by first | (with_reducible assumption) | assumption)
                 obtain ⟨ad435, e435, hx435_0⟩ := Kd.at_int (Kd.R_reads' HO_4.out).2.2 x5_2 p435 q435
                 cases e435
                 replace p435 := eq_true p435
                 replace q435 := eq_true q435
                 have p436 : 0 ≤ (x5_2 : Int) := of_decide_eq_true (by first | (with_reducible assumption) | assumption)
                 have q436 : x5_2 < (t419.length : Int) := of_decide_eq_true (by first | (with_reducible assumption) | assumption)
                 obtain ⟨ad436, e436, hx436_0⟩ := Kd.at_int (Kd.R_reads' HO_4.out).2.2 x5_2 p436 q436
                 obtain rfl : ad435 = ad436 := (by injection e436)
                 replace p436 := eq_true p436
                 replace q436 := eq_true q436
                 go_wp2_with (first | (go_at_call 27; (with_reducible refine (impl_ClusterAt.calls k2 _ _ t416 ji28 t437 _ ?side1 ?side2 A39.out).mono ?_); (case side1 => repeat (first | exact (Kd.R_reads' HO_3.out).2.2 | (with_reducible refine Kd.C_alloc ?_ _) | (with_reducible refine Kd.C_drewN ?_ _) | (with_reducible refine Kd.C_drew ?_))); (case side2 => exact (Kd.R_reads' HO_3.out).2.1); rintro e w44 ⟨rfl, hb⟩; have n0_ := Aside0.mk (Kd.R_below (by (with_reducible repeat (first | apply Kd.R_alloc | apply Kd.R_drewN | apply Kd.R_drew)); exact HO_3.out) hb); have n1_ := Aside0.mk (Kd.R_below (by (with_reducible repeat (first | apply Kd.R_alloc | apply Kd.R_drewN | apply Kd.R_drew)); exact HO_4.out) hb); have n2_ := Aside0.mk (below_step (by repeat (first | (with_reducible first | exact HB.out | apply below_alloc | apply pw_below_drewN | apply below_drew1) | exact HB.out)) hb); clear HO_3; clear HO_4; clear HB; have HO_3 := n0_; have HO_4 := n1_; have HB := n2_; clear n0_ n1_ n2_; (try clear hb); (try clear hb2); (try clear hk); (try clear hi)))
                 go_meet
                 case rel => exact ⟨_, (true), (by first | rfl | (simp; done) | (simp [*]; done)), (by first | exact H' | (simp only [hji28]; exact H') | (simp only [hji56]; exact H') | (simp only [hji28, hji56]; exact H')), ⟨by have := HJ4.out; have := HK2.out; first | omega | exact Nat.le_refl _⟩, ⟨by (with_reducible repeat (first | apply Kd.R_alloc | apply Kd.R_drewN | apply Kd.R_drew)); exact HO_3.out⟩, ⟨by (with_reducible repeat (first | apply Kd.R_alloc | apply Kd.R_drewN | apply Kd.R_drew)); exact HO_4.out⟩, ⟨by repeat (first | (with_reducible first | exact HB.out | apply below_alloc | apply pw_below_drewN | apply below_drew1) | exact HB.out)⟩⟩
               ·rw [if_neg c38] at H
                have c38b0 : ((rd t419 x5_2) == 1) = false := beq_eq_false_iff_ne.mpr c38
                have c38b1 : ((rd t419 x5_2) != 1) = true := bne_iff_ne.mpr c38
                have H' := Aside0.mk H
                clear H
                have p435 : 0 ≤ (x5_2 : Int) := of_decide_eq_true (by first | (with_reducible assumption) | assumption)
                have q435 : x5_2 < (t419.length : Int) := of_decide_eq_true (by first | (with_reducible assumption) | assumption)
                obtain ⟨ad435, e435, hx435_0⟩ := Kd.at_int (Kd.R_reads' HO_4.out).2.2 x5_2 p435 q435
                cases e435
                replace p435 := eq_true p435
                replace q435 := eq_true q435
                have p436 : 0 ≤ (x5_2 : Int) := of_decide_eq_true (by first | (with_reducible assumption) | assumption)
                have q436 : x5_2 < (t419.length : Int) := of_decide_eq_true (by first | (with_reducible assumption) | assumption)
                obtain ⟨ad436, e436, hx436_0⟩ := Kd.at_int (Kd.R_reads' HO_4.out).2.2 x5_2 p436 q436
                obtain rfl : ad435 = ad436 := (by injection e436)
                replace p436 := eq_true p436
                replace q436 := eq_true q436
                go_wp2
                go_meet
                case rel => exact ⟨_, (false), (by first | rfl | (simp; done) | (simp [*]; done)), (by first | exact H' | (simp only [hji28]; exact H') | (simp only [hji56]; exact H') | (simp only [hji28, hji56]; exact H')), ⟨by have := HJ4.out; have := HK2.out; first | omega | exact Nat.le_refl _⟩, ⟨by (with_reducible repeat (first | apply Kd.R_alloc | apply Kd.R_drewN | apply Kd.R_drew)); exact HO_3.out⟩, ⟨by (with_reducible repeat (first | apply Kd.R_alloc | apply Kd.R_drewN | apply Kd.R_drew)); exact HO_4.out⟩, ⟨by repeat (first | (with_reducible first | exact HB.out | apply below_alloc | apply pw_below_drewN | apply below_drew1) | exact HB.out)⟩⟩
             ·rw [if_neg c36] at H
              exact absurd H (by simp)
            case rest =>
             clear HC32
             try clear c1
             try clear c2
             try clear c2b0
             try clear c2b1
             try clear p2
             try clear c3
             try clear c4
             try clear p4
             try clear q4
             try clear hx4
             try clear p6
             try clear c10
             try clear c11
             try clear c18
             try clear c24
             try clear c24b0
             try clear c25
             try clear c25b0
             try clear c26
             try clear c26b0
             try clear c29
             try clear c29b0
             try clear c30
             try clear c30b0
             try clear c32
             try clear c33
             try clear c36
             try clear c36b0
             try clear c37
             try clear c37b0
             try clear c37b1
             try clear c37b2
             try clear c38
             try clear c38b0
             try clear c38b1
             try clear c40
             try clear c40b0
             try clear c40b1
             try clear c41
             try clear c41b0
             try clear c41b1
             try clear p43
             try clear q43
             try clear hx43
             try clear hx431_0
             try clear hx433_0
             try clear hx435_0
             try clear hx436_0
             try clear p2
             try clear p431
             try clear p433
             try clear p435
             try clear p436
             try clear q431
             try clear q433
             try clear q435
             try clear q436
             obtain ⟨kq, x78_31, rfl, HA, HJ31, HO_3, HO_4, HB⟩ := hcut
             cases kq with
             | zero => exact absurd HA.out (by simp [laws_FnBreaks.j2])
             | succ kj31 =>
              have H := HA.out
              clear HA
              simp only [laws_FnBreaks.j2] at H
              by_cases c45 : x78_31 = true
              ·subst c45
               have H1 : (some false) = some r := by rw [if_pos rfl] at H; exact H
               clear H
               have H := H1
               clear H1
               obtain rfl := Option.some.inj H
               go_wp2
               go_ret
               exact ⟨by first | rfl | (simp [errW_none, errW_some] <;> rfl) | (simp only [← hji28]; first | rfl | (simp [errW_none, errW_some] <;> rfl)) | (simp [*, errW_none, errW_some] <;> rfl), by repeat (first | (with_reducible first | exact HB.out | apply below_alloc | apply pw_below_drewN | apply below_drew1) | exact HB.out)⟩
              ·replace c45 := Bool.eq_false_iff.mpr c45
               subst c45
               have H1 : (if 0 ≤ x5_2 then (if x5_2 < (t419.length : Int) then (if (rd t419 x5_2) = 1 then (if t434 = 9 then (if t432 = 1 then (some false) else (if t432 = 2 then (some false) else (laws_FnBreaks.l0 kj31 t416 t419 (wrap64 (x5_2 + 1))))) else (if t434 = 13 then (if t432 = 1 then (some false) else (if t432 = 2 then (some false) else (laws_FnBreaks.l0 kj31 t416 t419 (wrap64 (x5_2 + 1))))) else (laws_FnBreaks.l0 kj31 t416 t419 (wrap64 (x5_2 + 1))))) else (laws_FnBreaks.l0 kj31 t416 t419 (wrap64 (x5_2 + 1)))) else (none)) else (none)) = some r := by rw [if_neg (show ¬ (false = true) by decide)] at H; exact H
               clear H
               have H := H1
               clear H1
               by_cases c46 : 0 ≤ x5_2
               ·rw [if_pos c46] at H
                have c46b0 : decide (0 ≤ x5_2) = true := decide_eq_true c46
                clear c46
                by_cases c47 : x5_2 < (t419.length : Int)
                ·rw [if_pos c47] at H
                 have c47b0 : decide (x5_2 < (t419.length : Int)) = true := decide_eq_true c47
                 clear c47
                 by_cases c48 : (rd t419 x5_2) = 1
                 ·rw [if_pos c48] at H
                  have c48b0 : ((rd t419 x5_2) == 1) = true := beq_iff_eq.mpr c48
                  have c48b1 : ((rd t419 x5_2) != 1) = false := bne_eq_false_iff_eq.mpr c48
                  clear c48
                  by_cases c49 : t434 = 9
                  ·rw [if_pos c49] at H
                   have c49b0 : (t434 == 9) = true := beq_iff_eq.mpr c49
                   have c49b1 : (t434 != 9) = false := bne_eq_false_iff_eq.mpr c49
                   clear c49
                   by_cases c50 : t432 = 1
                   ·rw [if_pos c50] at H
                    have c50b0 : (t432 == 1) = true := beq_iff_eq.mpr c50
                    have c50b1 : (t432 != 1) = false := bne_eq_false_iff_eq.mpr c50
                    clear c50
                    obtain rfl := Option.some.inj H
                    have p438 : 0 ≤ (x5_2 : Int) := of_decide_eq_true (by first | (with_reducible assumption) | assumption)
                    have q438 : x5_2 < (t419.length : Int) := of_decide_eq_true (by first | (with_reducible assumption) | assumption)
                    obtain ⟨ad438, e438, hx438_0⟩ := Kd.at_int (Kd.R_reads' HO_4.out).2.2 x5_2 p438 q438
                    cases e438
                    replace p438 := eq_true p438
                    replace q438 := eq_true q438
                    go_wp2
                    go_ret
                    exact ⟨by first | rfl | (simp [errW_none, errW_some] <;> rfl) | (simp only [← hji28]; first | rfl | (simp [errW_none, errW_some] <;> rfl)) | (simp [*, errW_none, errW_some] <;> rfl), by repeat (first | (with_reducible first | exact HB.out | apply below_alloc | apply pw_below_drewN | apply below_drew1) | exact HB.out)⟩
                   ·rw [if_neg c50] at H
                    have c50b0 : (t432 == 1) = false := beq_eq_false_iff_ne.mpr c50
                    have c50b1 : (t432 != 1) = true := bne_iff_ne.mpr c50
                    by_cases c51 : t432 = 2
                    ·rw [if_pos c51] at H
                     have c51b0 : (t432 == 2) = true := beq_iff_eq.mpr c51
                     have c51b1 : (t432 != 2) = false := bne_eq_false_iff_eq.mpr c51
                     clear c51
                     obtain rfl := Option.some.inj H
                     have p438 : 0 ≤ (x5_2 : Int) := of_decide_eq_true (by first | (with_reducible assumption) | assumption)
                     have q438 : x5_2 < (t419.length : Int) := of_decide_eq_true (by first | (with_reducible assumption) | assumption)
                     obtain ⟨ad438, e438, hx438_0⟩ := Kd.at_int (Kd.R_reads' HO_4.out).2.2 x5_2 p438 q438
                     cases e438
                     replace p438 := eq_true p438
                     replace q438 := eq_true q438
                     go_wp2
                     go_ret
                     exact ⟨by first | rfl | (simp [errW_none, errW_some] <;> rfl) | (simp only [← hji28]; first | rfl | (simp [errW_none, errW_some] <;> rfl)) | (simp [*, errW_none, errW_some] <;> rfl), by repeat (first | (with_reducible first | exact HB.out | apply below_alloc | apply pw_below_drewN | apply below_drew1) | exact HB.out)⟩
                    ·rw [if_neg c51] at H
                     have c51b0 : (t432 == 2) = false := beq_eq_false_iff_ne.mpr c51
                     have c51b1 : (t432 != 2) = true := bne_iff_ne.mpr c51
                     have H' := Aside0.mk H
                     clear H
                     have p438 : 0 ≤ (x5_2 : Int) := of_decide_eq_true (by first | (with_reducible assumption) | assumption)
                     have q438 : x5_2 < (t419.length : Int) := of_decide_eq_true (by first | (with_reducible assumption) | assumption)
                     obtain ⟨ad438, e438, hx438_0⟩ := Kd.at_int (Kd.R_reads' HO_4.out).2.2 x5_2 p438 q438
                     cases e438
                     replace p438 := eq_true p438
                     replace q438 := eq_true q438
                     go_wp2
                     go_roundg kj31
                     case measure => have := HJ4.out; have := HK2.out; have := HJ31.out; omega
                     case rel => exact ⟨(wrap64 (x5_2 + 1)), (by first | rfl | (simp; done) | (simp [*]; done)), (by first | exact H' | (simp only [hji28]; exact H') | (simp only [hji56]; exact H') | (simp only [hji28, hji56]; exact H')), ⟨by have := HJ4.out; have := HK2.out; have := HJ31.out; omega⟩, ⟨by (with_reducible repeat (first | apply Kd.R_alloc | apply Kd.R_drewN | apply Kd.R_drew)); exact HO_3.out⟩, ⟨by (with_reducible repeat (first | apply Kd.R_alloc | apply Kd.R_drewN | apply Kd.R_drew)); exact HO_4.out⟩, ⟨by repeat (first | (with_reducible first | exact HB.out | apply below_alloc | apply pw_below_drewN | apply below_drew1) | exact HB.out)⟩⟩
                  ·rw [if_neg c49] at H
                   have c49b0 : (t434 == 9) = false := beq_eq_false_iff_ne.mpr c49
                   have c49b1 : (t434 != 9) = true := bne_iff_ne.mpr c49
                   by_cases c52 : t434 = 13
                   ·rw [if_pos c52] at H
                    have c52b0 : (t434 == 13) = true := beq_iff_eq.mpr c52
                    have c52b1 : (t434 != 13) = false := bne_eq_false_iff_eq.mpr c52
                    clear c52
                    by_cases c53 : t432 = 1
                    ·rw [if_pos c53] at H
                     have c53b0 : (t432 == 1) = true := beq_iff_eq.mpr c53
                     have c53b1 : (t432 != 1) = false := bne_eq_false_iff_eq.mpr c53
                     clear c53
                     obtain rfl := Option.some.inj H
                     have p438 : 0 ≤ (x5_2 : Int) := of_decide_eq_true (by first | (with_reducible assumption) | assumption)
                     have q438 : x5_2 < (t419.length : Int) := of_decide_eq_true (by first | (with_reducible assumption) | assumption)
                     obtain ⟨ad438, e438, hx438_0⟩ := Kd.at_int (Kd.R_reads' HO_4.out).2.2 x5_2 p438 q438
                     cases e438
                     replace p438 := eq_true p438
                     replace q438 := eq_true q438
                     go_wp2
                     go_ret
                     exact ⟨by first | rfl | (simp [errW_none, errW_some] <;> rfl) | (simp only [← hji28]; first | rfl | (simp [errW_none, errW_some] <;> rfl)) | (simp [*, errW_none, errW_some] <;> rfl), by repeat (first | (with_reducible first | exact HB.out | apply below_alloc | apply pw_below_drewN | apply below_drew1) | exact HB.out)⟩
                    ·rw [if_neg c53] at H
                     have c53b0 : (t432 == 1) = false := beq_eq_false_iff_ne.mpr c53
                     have c53b1 : (t432 != 1) = true := bne_iff_ne.mpr c53
                     by_cases c54 : t432 = 2
                     ·rw [if_pos c54] at H
                      have c54b0 : (t432 == 2) = true := beq_iff_eq.mpr c54
                      have c54b1 : (t432 != 2) = false := bne_eq_false_iff_eq.mpr c54
                      clear c54
                      obtain rfl := Option.some.inj H
                      have p438 : 0 ≤ (x5_2 : Int) := of_decide_eq_true (by first | (with_reducible assumption) | assumption)
                      have q438 : x5_2 < (t419.length : Int) := of_decide_eq_true (by first | (with_reducible assumption) | assumption)
                      obtain ⟨ad438, e438, hx438_0⟩ := Kd.at_int (Kd.R_reads' HO_4.out).2.2 x5_2 p438 q438
                      cases e438
                      replace p438 := eq_true p438
                      replace q438 := eq_true q438
                      go_wp2
                      go_ret
                      exact ⟨by first | rfl | (simp [errW_none, errW_some] <;> rfl) | (simp only [← hji28]; first | rfl | (simp [errW_none, errW_some] <;> rfl)) | (simp [*, errW_none, errW_some] <;> rfl), by repeat (first | (with_reducible first | exact HB.out | apply below_alloc | apply pw_below_drewN | apply below_drew1) | exact HB.out)⟩
                     ·rw [if_neg c54] at H
                      have c54b0 : (t432 == 2) = false := beq_eq_false_iff_ne.mpr c54
                      have c54b1 : (t432 != 2) = true := bne_iff_ne.mpr c54
                      have H' := Aside0.mk H
                      clear H
                      have p438 : 0 ≤ (x5_2 : Int) := of_decide_eq_true (by first | (with_reducible assumption) | assumption)
                      have q438 : x5_2 < (t419.length : Int) := of_decide_eq_true (by first | (with_reducible assumption) | assumption)
                      obtain ⟨ad438, e438, hx438_0⟩ := Kd.at_int (Kd.R_reads' HO_4.out).2.2 x5_2 p438 q438
                      cases e438
                      replace p438 := eq_true p438
                      replace q438 := eq_true q438
                      go_wp2
                      go_roundg kj31
                      case measure => have := HJ4.out; have := HK2.out; have := HJ31.out; omega
                      case rel => exact ⟨(wrap64 (x5_2 + 1)), (by first | rfl | (simp; done) | (simp [*]; done)), (by first | exact H' | (simp only [hji28]; exact H') | (simp only [hji56]; exact H') | (simp only [hji28, hji56]; exact H')), ⟨by have := HJ4.out; have := HK2.out; have := HJ31.out; omega⟩, ⟨by (with_reducible repeat (first | apply Kd.R_alloc | apply Kd.R_drewN | apply Kd.R_drew)); exact HO_3.out⟩, ⟨by (with_reducible repeat (first | apply Kd.R_alloc | apply Kd.R_drewN | apply Kd.R_drew)); exact HO_4.out⟩, ⟨by repeat (first | (with_reducible first | exact HB.out | apply below_alloc | apply pw_below_drewN | apply below_drew1) | exact HB.out)⟩⟩
                   ·rw [if_neg c52] at H
                    have c52b0 : (t434 == 13) = false := beq_eq_false_iff_ne.mpr c52
                    have c52b1 : (t434 != 13) = true := bne_iff_ne.mpr c52
                    have H' := Aside0.mk H
                    clear H
                    have p438 : 0 ≤ (x5_2 : Int) := of_decide_eq_true (by first | (with_reducible assumption) | assumption)
                    have q438 : x5_2 < (t419.length : Int) := of_decide_eq_true (by first | (with_reducible assumption) | assumption)
                    obtain ⟨ad438, e438, hx438_0⟩ := Kd.at_int (Kd.R_reads' HO_4.out).2.2 x5_2 p438 q438
                    cases e438
                    replace p438 := eq_true p438
                    replace q438 := eq_true q438
                    go_wp2
                    go_roundg kj31
                    case measure => have := HJ4.out; have := HK2.out; have := HJ31.out; omega
                    case rel => exact ⟨(wrap64 (x5_2 + 1)), (by first | rfl | (simp; done) | (simp [*]; done)), (by first | exact H' | (simp only [hji28]; exact H') | (simp only [hji56]; exact H') | (simp only [hji28, hji56]; exact H')), ⟨by have := HJ4.out; have := HK2.out; have := HJ31.out; omega⟩, ⟨by (with_reducible repeat (first | apply Kd.R_alloc | apply Kd.R_drewN | apply Kd.R_drew)); exact HO_3.out⟩, ⟨by (with_reducible repeat (first | apply Kd.R_alloc | apply Kd.R_drewN | apply Kd.R_drew)); exact HO_4.out⟩, ⟨by repeat (first | (with_reducible first | exact HB.out | apply below_alloc | apply pw_below_drewN | apply below_drew1) | exact HB.out)⟩⟩
                 ·rw [if_neg c48] at H
                  have c48b0 : ((rd t419 x5_2) == 1) = false := beq_eq_false_iff_ne.mpr c48
                  have c48b1 : ((rd t419 x5_2) != 1) = true := bne_iff_ne.mpr c48
                  have H' := Aside0.mk H
                  clear H
                  have p438 : 0 ≤ (x5_2 : Int) := of_decide_eq_true (by first | (with_reducible assumption) | assumption)
                  have q438 : x5_2 < (t419.length : Int) := of_decide_eq_true (by first | (with_reducible assumption) | assumption)
                  obtain ⟨ad438, e438, hx438_0⟩ := Kd.at_int (Kd.R_reads' HO_4.out).2.2 x5_2 p438 q438
                  cases e438
                  replace p438 := eq_true p438
                  replace q438 := eq_true q438
                  go_wp2
                  go_roundg kj31
                  case measure => have := HJ4.out; have := HK2.out; have := HJ31.out; omega
                  case rel => exact ⟨(wrap64 (x5_2 + 1)), (by first | rfl | (simp; done) | (simp [*]; done)), (by first | exact H' | (simp only [hji28]; exact H') | (simp only [hji56]; exact H') | (simp only [hji28, hji56]; exact H')), ⟨by have := HJ4.out; have := HK2.out; have := HJ31.out; omega⟩, ⟨by (with_reducible repeat (first | apply Kd.R_alloc | apply Kd.R_drewN | apply Kd.R_drew)); exact HO_3.out⟩, ⟨by (with_reducible repeat (first | apply Kd.R_alloc | apply Kd.R_drewN | apply Kd.R_drew)); exact HO_4.out⟩, ⟨by repeat (first | (with_reducible first | exact HB.out | apply below_alloc | apply pw_below_drewN | apply below_drew1) | exact HB.out)⟩⟩
                ·rw [if_neg c47] at H
                 exact absurd H (by simp)
               ·rw [if_neg c46] at H
                exact absurd H (by simp)
           ·rw [if_neg c30] at H
            exact absurd H (by simp)
          ·rw [if_neg c29] at H
           exact absurd H (by simp)
         ·rw [if_neg c26] at H
          exact absurd H (by simp)
        ·rw [if_neg c25] at H
         exact absurd H (by simp)
       ·rw [if_neg c24] at H
        have c24b0 : decide ((wrap64 (x5_2 + 1)) < (t419.length : Int)) = false := decide_eq_false c24
        clear c24
        by_cases c55 : (t419.length : Int) = (t416.length : Int)
        ·rw [if_pos c55] at H
         have c55b0 : ((t419.length : Int) == (t416.length : Int)) = true := beq_iff_eq.mpr c55
         have c55b1 : ((t419.length : Int) != (t416.length : Int)) = false := bne_eq_false_iff_eq.mpr c55
         have c55b2 : (t419.length == t416.length) = true := by first | simpa using c55 | (simp at c55 ⊢; omega)
         clear c55
         obtain ⟨ji56, hji56⟩ : ∃ j_ : Int, (wrap64 ((t419.length : Int) - 1)) = j_ := ⟨_, rfl⟩
         replace H : (if 0 ≤ (ji56) then (if (ji56) < (t419.length : Int) then (some ((rd t419 (ji56)) == 2)) else (none)) else (none)) = some r := by first | (rw [hji56] at H; exact H) | (simp only [hji56] at H ⊢; exact H)
         have hji56w : (IntKind.i64.wrap ((t419.length : Int) - 1)) = ji56 := (i64_w _).trans hji56
         by_cases c57 : 0 ≤ (ji56)
         ·rw [if_pos c57] at H
          have c57b0 : decide (0 ≤ (ji56)) = true := decide_eq_true c57
          clear c57
          by_cases c58 : (ji56) < (t419.length : Int)
          ·rw [if_pos c58] at H
           have c58b0 : decide ((ji56) < (t419.length : Int)) = true := decide_eq_true c58
           clear c58
           obtain rfl := Option.some.inj H
           obtain ⟨Ao59, co59, eo59⟩ := Kd.R_slice HO_4.out
           subst eo59
           have p430 : 0 ≤ ((ji56) : Int) := of_decide_eq_true (by first | (with_reducible assumption) | assumption)
           have q430 : (ji56) < (t419.length : Int) := of_decide_eq_true (by first | (with_reducible assumption) | assumption)
           obtain ⟨ad430, e430, hx430_0⟩ := Kd.at_int (Kd.R_reads' HO_4.out).2.2 (ji56) p430 q430
           cases e430
           replace p430 := eq_true p430
           replace q430 := eq_true q430
           go_wp2
           go_ret
           exact ⟨by first | rfl | (simp [errW_none, errW_some] <;> rfl) | (simp only [← hji56]; first | rfl | (simp [errW_none, errW_some] <;> rfl)) | (simp [*, errW_none, errW_some] <;> rfl), by repeat (first | (with_reducible first | exact HB.out | apply below_alloc | apply pw_below_drewN | apply below_drew1) | exact HB.out)⟩
          ·rw [if_neg c58] at H
           exact absurd H (by simp)
         ·rw [if_neg c57] at H
          exact absurd H (by simp)
        ·rw [if_neg c55] at H
         have c55b0 : ((t419.length : Int) == (t416.length : Int)) = false := beq_eq_false_iff_ne.mpr c55
         have c55b1 : ((t419.length : Int) != (t416.length : Int)) = true := bne_iff_ne.mpr c55
         have c55b2 : (t419.length == t416.length) = false := by first | simpa using c55 | (simp at c55 ⊢; omega)
         obtain rfl := Option.some.inj H
         obtain ⟨Ao60, co60, eo60⟩ := Kd.R_slice HO_4.out
         subst eo60
         go_wp2
         go_ret
         exact ⟨by first | rfl | (simp [errW_none, errW_some] <;> rfl) | (simp [*, errW_none, errW_some] <;> rfl), by repeat (first | (with_reducible first | exact HB.out | apply below_alloc | apply pw_below_drewN | apply below_drew1) | exact HB.out)⟩

/-- THE ONE PURE STATEMENT of laws_FnBreaks: yours. -/
def laws_FnBreaks.Pure : Prop := ∀ (l0 : List Int), l0.length ≤ maxLen → l0.length * 1 ≤ 140737488351232 → (∀ x ∈ l0, (Lit.int .u8 x).wf = true) → ∃ k, laws_FnBreaks.f k l0 = some true
theorem laws_FnBreaks.walk (P : laws_FnBreaks.Pure) (a0 : Option Addr) (len0 cap0 : Nat) (z0 : List Int) (w : World) (w0 : (a0 = none ∧ len0 = 0 ∧ cap0 = 0 ∧ z0 = []) ∨ ∃ x, a0 = some x ∧ len0 ≤ cap0 ∧ cap0 ≤ maxLen ∧ z0.length = cap0 ∧ (∀ i, i < z0.length → w.cell? (x.add i) = some (.int .u8 (z0.getD i 0))) ∧ ∀ n ∈ z0, (Lit.int .u8 n).wf = true) (y0 : len0 * 1 ≤ 140737488351232) :
  Calls Try.prog 10 #[.slice a0 len0 cap0] w fun e w' => e = .returned (.bool true) ∧ Below w.heap.size w w' := by
 obtain ⟨l0, rfl, hr0, hm0, hw0, hc0⟩ := ReadsInt.ofRowC w0
 obtain ⟨k, h⟩ := P l0 hm0 y0 hw0
 refine (laws_FnBreaks.calls k _ _ l0 true w (Kd.C_of_reads (d := (0 : Int)) (h1 := fun _ => rfl) hr0) hc0 h).mono ?_
 rintro e w' ⟨rfl, hd⟩
 exact ⟨rfl, hd⟩

end Go.Proofs.Ytmjhdgofepdgkaa.PFnBreaks
