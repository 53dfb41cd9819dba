-- Written by a program of this session (wip/tools) out of the translation; its shape is that of the kit print.
import Derived.Test.YtmjhdgofepdgkaaPFnBreakWordsx0
import Derived.Test.YtmjhdgofepdgkaaPFnBreakWordsx1
import Derived.Test.YtmjhdgofepdgkaaPFnBreakWordsx3
import Derived.Test.YtmjhdgofepdgkaaPFnBreakWordsx8
import Derived.Test.YtmjhdgofepdgkaaPFnBreakWordsx12
import Derived.Test.YtmjhdgofepdgkaaPFnBreakWordsx14
namespace Go.Proofs.Ytmjhdgofepdgkaa.PFnBreakWords
open Go.RowKit Go.Proofs.YtmjhdgofepdgkaaW.PrintWords Go.Proofs.YtmjhdgofepdgkaaW.PrintLast Go.Proofs.YtmjhdgofepdgkaaW.PrintMore
attribute [local go_sem] max2_int min2_int max_two min_two max_three min_three max_four min_four   -- for this text's walks alone
set_option linter.unusedVariables false
set_option linter.unusedSimpArgs false

/-! ### laws_FnBreakWords: function 8 -/
mutual
def laws_FnBreakWords.l0 : Nat → List Int → List Int → Int → Option (Bool)
 | 0, _, _, _ => none
 | k + 1, x3, x4, x5 => if (wrap64 (x5 + 1)) < (x4.length : Int) then (if 0 ≤ x5 then (if x5 < (x3.length : Int) then ((spec_RuneLine.f k (rd x3 x5)).bind fun t421 => (if 0 ≤ (wrap64 (x5 + 1)) then (if (wrap64 (x5 + 1)) < (x3.length : Int) then ((spec_RuneLine.f k (rd x3 (wrap64 (x5 + 1)))).bind fun t423 => (if t423 = 1 then (laws_FnBreakWords.j1 k x3 x4 x5 t421 true) else (laws_FnBreakWords.j1 k x3 x4 x5 t421 (t423 == 2)))) else (none)) else (none))) else (none)) else (none)) else (some true)
def laws_FnBreakWords.j1 : Nat → List Int → List Int → Int → Int → Bool → Option (Bool)
 | 0, _, _, _, _, _ => none
 | k + 1, x3, x4, x5, x6, x8 => if x8 = true then (if x6 = 1 then (if 0 ≤ x5 then (if x5 < (x4.length : Int) then (laws_FnBreakWords.j2 k x3 x4 x5 x6 x8 ((rd x4 x5) != 0)) else (none)) else (none)) else (if x6 = 2 then (if 0 ≤ x5 then (if x5 < (x4.length : Int) then (laws_FnBreakWords.j2 k x3 x4 x5 x6 x8 ((rd x4 x5) != 0)) else (none)) else (none)) else (laws_FnBreakWords.j2 k x3 x4 x5 x6 x8 false))) else (laws_FnBreakWords.j2 k x3 x4 x5 x6 x8 false)
def laws_FnBreakWords.j2 : Nat → List Int → List Int → Int → Int → Bool → Bool → Option (Bool)
 | 0, _, _, _, _, _, _ => none
 | k + 1, x3, x4, x5, x6, x8, x60 => if x60 = true then (some false) else (if x8 = true then (if x6 = 3 then (if x5 > 0 then (if 0 ≤ (wrap64 (x5 - 1)) then (if (wrap64 (x5 - 1)) < (x3.length : Int) then ((spec_RuneLine.f k (rd x3 (wrap64 (x5 - 1)))).bind fun t427 => (if t427 = 1 then (if 0 ≤ x5 then (if x5 < (x4.length : Int) then (if (rd x4 x5) = 1 then (laws_FnBreakWords.l0 k x3 x4 (wrap64 (x5 + 1))) else (some false)) else (none)) else (none)) else ((spec_RuneLine.f k (rd x3 (wrap64 (x5 - 1)))).bind fun t430 => (if t430 = 2 then (if 0 ≤ x5 then (if x5 < (x4.length : Int) then (if (rd x4 x5) = 1 then (laws_FnBreakWords.l0 k x3 x4 (wrap64 (x5 + 1))) else (some false)) else (none)) else (none)) else (laws_FnBreakWords.l0 k x3 x4 (wrap64 (x5 + 1))))))) else (none)) else (none)) else (laws_FnBreakWords.l0 k x3 x4 (wrap64 (x5 + 1)))) else (laws_FnBreakWords.l0 k x3 x4 (wrap64 (x5 + 1)))) else (laws_FnBreakWords.l0 k x3 x4 (wrap64 (x5 + 1))))
end
def laws_FnBreakWords.f (k : Nat) (l0 : List Int) : Option (Bool) := if (l0.length : Int) > 1048576 then (some true) else ((spec_DrawBreaksOf.f k l0).bind fun t410 => ((impl_BreaksOf.f k t410).bind fun t413 => ((spec_BreaksOf.f k t410).bind fun t416 => ((laws_wcInts.f k t413 t416).bind fun t419 => (if t419 = true then (laws_FnBreakWords.l0 k t410 t413 0) else (some false))))))
theorem laws_FnBreakWords.mono_l : ∀ k, (∀ y0 y1 y2, LeO (laws_FnBreakWords.l0 k y0 y1 y2) (laws_FnBreakWords.l0 (k + 1) y0 y1 y2)) ∧ (∀ y0 y1 y2 y3 y4, LeO (laws_FnBreakWords.j1 k y0 y1 y2 y3 y4) (laws_FnBreakWords.j1 (k + 1) y0 y1 y2 y3 y4)) ∧ (∀ y0 y1 y2 y3 y4 y5, LeO (laws_FnBreakWords.j2 k y0 y1 y2 y3 y4 y5) (laws_FnBreakWords.j2 (k + 1) y0 y1 y2 y3 y4 y5))
 | 0 => ⟨fun _ _ _ r h => by simp [laws_FnBreakWords.l0] at h, fun _ _ _ _ _ r h => by simp [laws_FnBreakWords.j1] at h, fun _ _ _ _ _ _ r h => by simp [laws_FnBreakWords.j2] at h⟩
 | k + 1 => by
  obtain ⟨ih0, ih1, ih2⟩ := laws_FnBreakWords.mono_l k
  refine ⟨?_, ?_, ?_⟩
  ·intro y0 y1 y2
   unfold laws_FnBreakWords.l0
   repeat' first
   | (with_reducible exact ih0 _ _ _)
   | (with_reducible exact ih1 _ _ _ _ _)
   | (with_reducible exact ih2 _ _ _ _ _ _)
   | (with_reducible exact impl_BreaksOf.mono _ _)
   | (with_reducible exact laws_wcInts.mono _ _ _)
   | (with_reducible exact spec_BreaksOf.mono _ _)
   | (with_reducible exact spec_DrawBreaksOf.mono _ _)
   | (with_reducible exact spec_RuneLine.mono _ _)
   | (with_reducible exact LeO.refl _)
   | (with_reducible exact LeO.none _)
   | (with_reducible refine LeO.ite ?_ ?_)
   | (with_reducible refine LeO.bind ?_ (fun _ => ?_))
   | exact ih0 _ _ _
   | exact ih1 _ _ _ _ _
   | exact ih2 _ _ _ _ _ _
   | exact impl_BreaksOf.mono _ _
   | exact laws_wcInts.mono _ _ _
   | exact spec_BreaksOf.mono _ _
   | exact spec_DrawBreaksOf.mono _ _
   | exact spec_RuneLine.mono _ _
   | exact LeO.none _
   | refine LeO.ite ?_ ?_
   | refine LeO.bind ?_ (fun _ => ?_)
  ·intro y0 y1 y2 y3 y4
   unfold laws_FnBreakWords.j1
   repeat' first
   | (with_reducible exact ih0 _ _ _)
   | (with_reducible exact ih1 _ _ _ _ _)
   | (with_reducible exact ih2 _ _ _ _ _ _)
   | (with_reducible exact impl_BreaksOf.mono _ _)
   | (with_reducible exact laws_wcInts.mono _ _ _)
   | (with_reducible exact spec_BreaksOf.mono _ _)
   | (with_reducible exact spec_DrawBreaksOf.mono _ _)
   | (with_reducible exact spec_RuneLine.mono _ _)
   | (with_reducible exact LeO.refl _)
   | (with_reducible exact LeO.none _)
   | (with_reducible refine LeO.ite ?_ ?_)
   | (with_reducible refine LeO.bind ?_ (fun _ => ?_))
   | exact ih0 _ _ _
   | exact ih1 _ _ _ _ _
   | exact ih2 _ _ _ _ _ _
   | exact impl_BreaksOf.mono _ _
   | exact laws_wcInts.mono _ _ _
   | exact spec_BreaksOf.mono _ _
   | exact spec_DrawBreaksOf.mono _ _
   | exact spec_RuneLine.mono _ _
   | exact LeO.none _
   | refine LeO.ite ?_ ?_
   | refine LeO.bind ?_ (fun _ => ?_)
  ·intro y0 y1 y2 y3 y4 y5
   unfold laws_FnBreakWords.j2
   repeat' first
   | (with_reducible exact ih0 _ _ _)
   | (with_reducible exact ih1 _ _ _ _ _)
   | (with_reducible exact ih2 _ _ _ _ _ _)
   | (with_reducible exact impl_BreaksOf.mono _ _)
   | (with_reducible exact laws_wcInts.mono _ _ _)
   | (with_reducible exact spec_BreaksOf.mono _ _)
   | (with_reducible exact spec_DrawBreaksOf.mono _ _)
   | (with_reducible exact spec_RuneLine.mono _ _)
   | (with_reducible exact LeO.refl _)
   | (with_reducible exact LeO.none _)
   | (with_reducible refine LeO.ite ?_ ?_)
   | (with_reducible refine LeO.bind ?_ (fun _ => ?_))
   | exact ih0 _ _ _
   | exact ih1 _ _ _ _ _
   | exact ih2 _ _ _ _ _ _
   | exact impl_BreaksOf.mono _ _
   | exact laws_wcInts.mono _ _ _
   | exact spec_BreaksOf.mono _ _
   | exact spec_DrawBreaksOf.mono _ _
   | exact spec_RuneLine.mono _ _
   | exact LeO.none _
   | refine LeO.ite ?_ ?_
   | refine LeO.bind ?_ (fun _ => ?_)
theorem laws_FnBreakWords.mono : ∀ a0 k, LeO (laws_FnBreakWords.f k a0) (laws_FnBreakWords.f (k + 1) a0) := by
 intro a0 k
 obtain ⟨ih0, ih1, ih2⟩ := laws_FnBreakWords.mono_l k
 unfold laws_FnBreakWords.f
 repeat' first
   | (with_reducible exact ih0 _ _ _)
   | (with_reducible exact ih1 _ _ _ _ _)
   | (with_reducible exact ih2 _ _ _ _ _ _)
   | (with_reducible exact impl_BreaksOf.mono _ _)
   | (with_reducible exact laws_wcInts.mono _ _ _)
   | (with_reducible exact spec_BreaksOf.mono _ _)
   | (with_reducible exact spec_DrawBreaksOf.mono _ _)
   | (with_reducible exact spec_RuneLine.mono _ _)
   | (with_reducible exact LeO.refl _)
   | (with_reducible exact LeO.none _)
   | (with_reducible refine LeO.ite ?_ ?_)
   | (with_reducible refine LeO.bind ?_ (fun _ => ?_))
   | exact ih0 _ _ _
   | exact ih1 _ _ _ _ _
   | exact ih2 _ _ _ _ _ _
   | exact impl_BreaksOf.mono _ _
   | exact laws_wcInts.mono _ _ _
   | exact spec_BreaksOf.mono _ _
   | exact spec_DrawBreaksOf.mono _ _
   | exact spec_RuneLine.mono _ _
   | exact LeO.none _
   | refine LeO.ite ?_ ?_
   | refine LeO.bind ?_ (fun _ => ?_)
set_option maxHeartbeats 8000000 in
set_option maxRecDepth 100000 in
theorem laws_FnBreakWords.calls (k : Nat) (A0 : Option Addr) (c0 : Nat) (l0 : List Int) (r : Bool) (w : World) (hr0 : Kd.C (Kd.int .u8) w A0 l0.length l0) (hc0 : l0.length ≤ c0) (h : laws_FnBreakWords.f k l0 = some r) :
  Calls Try.prog 8 #[.slice A0 l0.length c0] w fun e w' => e = .returned (.bool r) ∧ Below w.heap.size w w' := by
 have HR0 := Aside0.mk hr0
 have HC0 := Aside0.mk hc0
 clear hr0 hc0
 have HB := Aside0.mk (Below.refl w.heap.size w)
 have H : (if (l0.length : Int) > 1048576 then (some true) else ((spec_DrawBreaksOf.f k l0).bind fun t410 => ((impl_BreaksOf.f k t410).bind fun t413 => ((spec_BreaksOf.f k t410).bind fun t416 => ((laws_wcInts.f k t413 t416).bind fun t419 => (if t419 = true then (laws_FnBreakWords.l0 k t410 t413 0) else (some false))))))) = some r := h
 clear h
 by_cases c2 : (l0.length : Int) > 1048576
 ·rw [if_pos c2] at H
  have c2b0 : decide (1048576 < (l0.length : Int)) = true := decide_eq_true c2
  have c2b1 : decide (1048576 < l0.length) = true := decide_eq_true (by omega)
  clear c2
  obtain rfl := Option.some.inj H
  go_enter Try.func8, Try.ntmps8
  go_wp2
  go_ret
  exact ⟨by first | rfl | (simp [errW_none, errW_some] <;> rfl) | (simp [*, errW_none, errW_some] <;> rfl), by repeat (first | (with_reducible first | exact HB.out | apply below_alloc | apply pw_below_drewN | apply below_drew1) | exact HB.out)⟩
 ·rw [if_neg c2] at H
  have c2b0 : decide (1048576 < (l0.length : Int)) = false := decide_eq_false c2
  have c2b1 : decide (1048576 < l0.length) = false := decide_eq_false (by omega)
  clear c2
  replace H := Option.bind_eq_some_iff.mp H
  obtain ⟨t410, A30, H⟩ := H
  replace H : ((impl_BreaksOf.f k t410).bind fun t413 => ((spec_BreaksOf.f k t410).bind fun t416 => ((laws_wcInts.f k t413 t416).bind fun t419 => (if t419 = true then (laws_FnBreakWords.l0 k t410 t413 0) else (some false))))) = some r := H
  have A3 := Aside0.mk A30
  clear A30
  replace H := Option.bind_eq_some_iff.mp H
  obtain ⟨t413, A40, H⟩ := H
  replace H : ((spec_BreaksOf.f k t410).bind fun t416 => ((laws_wcInts.f k t413 t416).bind fun t419 => (if t419 = true then (laws_FnBreakWords.l0 k t410 t413 0) else (some false)))) = some r := H
  have A4 := Aside0.mk A40
  clear A40
  replace H := Option.bind_eq_some_iff.mp H
  obtain ⟨t416, A50, H⟩ := H
  replace H : ((laws_wcInts.f k t413 t416).bind fun t419 => (if t419 = true then (laws_FnBreakWords.l0 k t410 t413 0) else (some false))) = some r := H
  have A5 := Aside0.mk A50
  clear A50
  replace H := Option.bind_eq_some_iff.mp H
  obtain ⟨t419, A60, H⟩ := H
  replace H : (if t419 = true then (laws_FnBreakWords.l0 k t410 t413 0) else (some false)) = some r := H
  have A6 := Aside0.mk A60
  clear A60
  by_cases c7 : t419 = true
  ·subst c7
   have H1 : (laws_FnBreakWords.l0 k t410 t413 0) = some r := by rw [if_pos rfl] at H; exact H
   clear H
   have H := H1
   clear H1
   have H' := Aside0.mk H
   clear H
   go_enter Try.func8, Try.ntmps8
   go_wp2_with (first | ((with_reducible refine gate_callee (f := 36) rfl ?_); refine goesL_ (some 13) rfl rfl Try.func36 (by kernel_rfl) rfl #[.slice A0 l0.length c0] rfl (by (try simp only [List.map_toArray, List.map_cons, List.map_nil]); first | done | rfl | (simp only [List.length_drop, List.length_take]; rfl)) ?_; (with_reducible refine (spec_DrawBreaksOf.calls k _ _ l0 t410 _ ?side1 ?side2 A3.out).mono ?_); (case side1 => repeat (first | exact HR0.out | (with_reducible refine Kd.C_alloc ?_ _) | (with_reducible refine Kd.C_drewN ?_ _) | (with_reducible refine Kd.C_drew ?_))); (case side2 => exact HC0.out); rintro e w8 ⟨v411, rfl, ho0, hb⟩; refine ⟨_, rfl, ?_⟩; have n0_ := Aside0.mk (Kd.R_lower ho0 (below_size (by repeat (first | (with_reducible first | exact HB.out | apply below_alloc | apply pw_below_drewN | apply below_drew1) | exact HB.out)))); have n1_ := Aside0.mk (below_step (by repeat (first | (with_reducible first | exact HB.out | apply below_alloc | apply pw_below_drewN | apply below_drew1) | exact HB.out)) hb); clear HB; have HO412 := n0_; have HB := n1_; clear n0_ n1_; (try clear hb); (try clear hb2); (try clear hk); (try clear hi); (try clear ho0); obtain ⟨Ao9, co9, eo9⟩ := Kd.R_slice HO412.out; subst eo9) | ((with_reducible refine gate_callee (f := 33) rfl ?_); refine goesL_ (some 15) rfl rfl Try.func33 (by kernel_rfl) rfl #[.slice Ao9 t410.length co9] rfl (by (try simp only [List.map_toArray, List.map_cons, List.map_nil]); first | done | rfl | (simp only [List.length_drop, List.length_take]; rfl)) ?_; (with_reducible refine (impl_BreaksOf.calls k _ _ t410 t413 _ ?side1 ?side2 A4.out).mono ?_); (case side1 => repeat (first | exact (Kd.R_reads' HO412.out).2.2 | (with_reducible refine Kd.C_alloc ?_ _) | (with_reducible refine Kd.C_drewN ?_ _) | (with_reducible refine Kd.C_drew ?_))); (case side2 => exact (Kd.R_reads' HO412.out).2.1); rintro e w10 ⟨v414, rfl, ho0, hb⟩; refine ⟨_, rfl, ?_⟩; have n0_ := Aside0.mk (Kd.R_elder' (by (with_reducible repeat (first | apply Kd.R_alloc | apply Kd.R_drewN | apply Kd.R_drew)); exact HO412.out) (Kd.R_base ho0) hb); have n1_ := Aside0.mk (Kd.R_lower (Kd.R_new' ho0 (Kd.R_lt (by (with_reducible repeat (first | apply Kd.R_alloc | apply Kd.R_drewN | apply Kd.R_drew)); exact HO412.out))) (below_size (by repeat (first | (with_reducible first | exact HB.out | apply below_alloc | apply pw_below_drewN | apply below_drew1) | exact HB.out)))); have n2_ := Aside0.mk (below_step (by repeat (first | (with_reducible first | exact HB.out | apply below_alloc | apply pw_below_drewN | apply below_drew1) | exact HB.out)) hb); clear HO412; clear HB; have HO412 := n0_; have HO415 := n1_; have HB := n2_; clear n0_ n1_ n2_; (try clear hb); (try clear hb2); (try clear hk); (try clear hi); (try clear ho0)) | ((with_reducible refine gate_callee (f := 32) rfl ?_); refine goesL_ (some 18) rfl rfl Try.func32 (by kernel_rfl) rfl #[.slice Ao9 t410.length co9] rfl (by (try simp only [List.map_toArray, List.map_cons, List.map_nil]); first | done | rfl | (simp only [List.length_drop, List.length_take]; rfl)) ?_; (with_reducible refine (spec_BreaksOf.calls k _ _ t410 t416 _ ?side1 ?side2 A5.out).mono ?_); (case side1 => repeat (first | exact (Kd.R_reads' HO412.out).2.2 | (with_reducible refine Kd.C_alloc ?_ _) | (with_reducible refine Kd.C_drewN ?_ _) | (with_reducible refine Kd.C_drew ?_))); (case side2 => exact (Kd.R_reads' HO412.out).2.1); rintro e w11 ⟨v417, rfl, ho0, hb⟩; refine ⟨_, rfl, ?_⟩; have n0_ := Aside0.mk (Kd.R_elder' (by (with_reducible repeat (first | apply Kd.R_alloc | apply Kd.R_drewN | apply Kd.R_drew)); exact HO412.out) (Kd.R_base ho0) hb); have n1_ := Aside0.mk (Kd.R_elder' (by (with_reducible repeat (first | apply Kd.R_alloc | apply Kd.R_drewN | apply Kd.R_drew)); exact HO415.out) (Kd.R_base ho0) hb); have n2_ := Aside0.mk (Kd.R_lower (Kd.R_new' (Kd.R_new' ho0 (Kd.R_lt (by (with_reducible repeat (first | apply Kd.R_alloc | apply Kd.R_drewN | apply Kd.R_drew)); exact HO412.out))) (Kd.R_lt (by (with_reducible repeat (first | apply Kd.R_alloc | apply Kd.R_drewN | apply Kd.R_drew)); exact HO415.out))) (below_size (by repeat (first | (with_reducible first | exact HB.out | apply below_alloc | apply pw_below_drewN | apply below_drew1) | exact HB.out)))); have n3_ := Aside0.mk (below_step (by repeat (first | (with_reducible first | exact HB.out | apply below_alloc | apply pw_below_drewN | apply below_drew1) | exact HB.out)) hb); clear HO412; clear HO415; clear HB; have HO412 := n0_; have HO415 := n1_; have HO418 := n2_; have HB := n3_; clear n0_ n1_ n2_ n3_; (try clear hb); (try clear hb2); (try clear hk); (try clear hi); (try clear ho0); obtain ⟨Ao12, co12, eo12⟩ := Kd.R_slice HO415.out; subst eo12; obtain ⟨Ao13, co13, eo13⟩ := Kd.R_slice HO418.out; subst eo13) | ((with_reducible refine gate_callee (f := 25) rfl ?_); refine goesL_ (some 19) rfl rfl Try.func25 (by kernel_rfl) rfl #[.slice Ao12 t413.length co12, .slice Ao13 t416.length co13] rfl (by (try simp only [List.map_toArray, List.map_cons, List.map_nil]); first | done | rfl | (simp only [List.length_drop, List.length_take]; rfl)) ?_; (with_reducible refine (laws_wcInts.calls k _ _ t413 _ _ t416 true _ ?side1 ?side2 ?side3 ?side4 A6.out).mono ?_); (case side1 => repeat (first | exact (Kd.R_reads' HO415.out).2.2 | (with_reducible refine Kd.C_alloc ?_ _) | (with_reducible refine Kd.C_drewN ?_ _) | (with_reducible refine Kd.C_drew ?_))); (case side2 => exact (Kd.R_reads' HO415.out).2.1); (case side3 => repeat (first | exact (Kd.R_reads' HO418.out).2.2 | (with_reducible refine Kd.C_alloc ?_ _) | (with_reducible refine Kd.C_drewN ?_ _) | (with_reducible refine Kd.C_drew ?_))); (case side4 => exact (Kd.R_reads' HO418.out).2.1); rintro e w' ⟨rfl, ⟨nd, rfl⟩⟩; refine ⟨_, rfl, ?_⟩))
   go_loopg [5] k (fun kq v5 w' => ∃ (x5_1 : Int), v5 = .int .i64 x5_1 ∧ Aside0 (laws_FnBreakWords.l0 kq t410 t413 x5_1 = some r) ∧ Aside0 (kq ≤ k) ∧ Aside0 (Kd.R (Kd.int .i64) 3 w' w.heap.size (fun k_ => some k_ ≠ ((.slice Ao12 t413.length co12) : Value).ownBlock) (.slice Ao9 t410.length co9) t410) ∧ Aside0 (Kd.R (Kd.int .i64) 3 w' w.heap.size (fun k_ => some k_ ≠ ((.slice Ao9 t410.length co9) : Value).ownBlock) (.slice Ao12 t413.length co12) t413) ∧ Aside0 (Below w.heap.size w w'))
   case atStart => exact ⟨(0), (by first | rfl | (simp; done) | (simp [*]; done)), H', ⟨Nat.le_refl _⟩, ⟨by (with_reducible repeat (first | apply Kd.R_alloc | apply Kd.R_drewN | apply Kd.R_drew)); exact Kd.R_mono HO412.out (fun _ hk => hk.1.2)⟩, ⟨by (with_reducible repeat (first | apply Kd.R_alloc | apply Kd.R_drewN | apply Kd.R_drew)); exact Kd.R_mono HO415.out (fun _ hk => hk.1.2)⟩, ⟨by repeat (first | (with_reducible first | exact HB.out | apply below_alloc | apply pw_below_drewN | apply below_drew1) | exact HB.out)⟩⟩
   case round =>
    clear H'
    try clear c2
    try clear c2b0
    try clear c2b1
    try clear p2
    try clear c3
    try clear c7
    try clear c8
    obtain ⟨x5_1, rfl, HA, HK1, HO_3, HO_4, HB⟩ := hrel
    cases gk with
    | zero => exact absurd HA.out (by simp [laws_FnBreakWords.l0])
    | succ k1 =>
     have H := HA.out
     clear HA
     simp only [laws_FnBreakWords.l0] at H
     by_cases c14 : (wrap64 (x5_1 + 1)) < (t413.length : Int)
     ·rw [if_pos c14] at H
      have c14b0 : decide ((wrap64 (x5_1 + 1)) < (t413.length : Int)) = true := decide_eq_true c14
      clear c14
      by_cases c15 : 0 ≤ x5_1
      ·rw [if_pos c15] at H
       have c15b0 : decide (0 ≤ x5_1) = true := decide_eq_true c15
       clear c15
       by_cases c16 : x5_1 < (t410.length : Int)
       ·rw [if_pos c16] at H
        have c16b0 : decide (x5_1 < (t410.length : Int)) = true := decide_eq_true c16
        clear c16
        replace H := Option.bind_eq_some_iff.mp H
        obtain ⟨t421, A170, H⟩ := H
        replace H : (if 0 ≤ (wrap64 (x5_1 + 1)) then (if (wrap64 (x5_1 + 1)) < (t410.length : Int) then ((spec_RuneLine.f k1 (rd t410 (wrap64 (x5_1 + 1)))).bind fun t423 => (if t423 = 1 then (laws_FnBreakWords.j1 k1 t410 t413 x5_1 t421 true) else (laws_FnBreakWords.j1 k1 t410 t413 x5_1 t421 (t423 == 2)))) else (none)) else (none)) = some r := H
        have A17 := Aside0.mk A170
        clear A170
        obtain ⟨ji18, hji18⟩ : ∃ j_ : Int, (wrap64 (x5_1 + 1)) = j_ := ⟨_, rfl⟩
        replace H : (if 0 ≤ (ji18) then (if (ji18) < (t410.length : Int) then ((spec_RuneLine.f k1 (rd t410 (ji18))).bind fun t423 => (if t423 = 1 then (laws_FnBreakWords.j1 k1 t410 t413 x5_1 t421 true) else (laws_FnBreakWords.j1 k1 t410 t413 x5_1 t421 (t423 == 2)))) else (none)) else (none)) = some r := by first | (rw [hji18] at H; exact H) | (simp only [hji18] at H ⊢; exact H)
        (try rw [hji18] at c14b0)
        (try rw [hji18] at A17)
        have hji18w : (IntKind.i64.wrap (x5_1 + 1)) = ji18 := (i64_w _).trans hji18
        by_cases c19 : 0 ≤ (ji18)
        ·rw [if_pos c19] at H
         have c19b0 : decide (0 ≤ (ji18)) = true := decide_eq_true c19
         clear c19
         by_cases c20 : (ji18) < (t410.length : Int)
         ·rw [if_pos c20] at H
          have c20b0 : decide ((ji18) < (t410.length : Int)) = true := decide_eq_true c20
          clear c20
          replace H := Option.bind_eq_some_iff.mp H
          obtain ⟨t423, A210, H⟩ := H
          replace H : (if t423 = 1 then (laws_FnBreakWords.j1 k1 t410 t413 x5_1 t421 true) else (laws_FnBreakWords.j1 k1 t410 t413 x5_1 t421 (t423 == 2))) = some r := H
          have A21 := Aside0.mk A210
          clear A210
          have HC22 := Aside0.mk H
          clear H
          have p420 : 0 ≤ (x5_1 : Int) := of_decide_eq_true (by first | (with_reducible assumption) | assumption)
          have q420 : x5_1 < (t410.length : Int) := of_decide_eq_true (by first | (with_reducible assumption) | assumption)
          obtain ⟨ad420, e420, hx420_0⟩ := Kd.at_int (Kd.R_reads' HO_3.out).2.2 x5_1 p420 q420
          cases e420
          replace p420 := eq_true p420
          replace q420 := eq_true q420
          go_upto_region 12 with (first | ((with_reducible refine gate_callee (f := 37) rfl ?_); refine goesL_ (some 32) rfl rfl Try.func37 (by kernel_rfl) rfl #[.int .i64 (rd t410 x5_1)] rfl (by (try simp only [List.map_toArray, List.map_cons, List.map_nil]); first | done | rfl | (simp only [List.length_drop, List.length_take]; rfl)) ?_; (with_reducible refine (spec_RuneLine.calls k1 (rd t410 x5_1) t421 _ A17.out).mono ?_); rintro e w23 ⟨rfl, hb⟩; refine ⟨_, rfl, ?_⟩; have n0_ := Aside0.mk (Kd.R_below (by (with_reducible repeat (first | apply Kd.R_alloc | apply Kd.R_drewN | apply Kd.R_drew)); exact HO_3.out) hb); have n1_ := Aside0.mk (Kd.R_below (by (with_reducible repeat (first | apply Kd.R_alloc | apply Kd.R_drewN | apply Kd.R_drew)); exact HO_4.out) hb); have n2_ := Aside0.mk (below_step (by repeat (first | (with_reducible first | exact HB.out | apply below_alloc | apply pw_below_drewN | apply below_drew1) | exact HB.out)) hb); clear HO_3; clear HO_4; clear HB; have HO_3 := n0_; have HO_4 := n1_; have HB := n2_; clear n0_ n1_ n2_; (try clear hb); (try clear hb2); (try clear hk); (try clear hi); have p422 : 0 ≤ ((ji18) : Int) := of_decide_eq_true (by first | (with_reducible assumption) | assumption); have q422 : (ji18) < (t410.length : Int) := of_decide_eq_true (by first | (with_reducible assumption) | assumption); obtain ⟨ad422, e422, hx422_0⟩ := Kd.at_int (Kd.R_reads' HO_3.out).2.2 (ji18) p422 q422; obtain rfl : ad420 = ad422 := (by injection e422); replace p422 := eq_true p422; replace q422 := eq_true q422) | ((with_reducible refine gate_callee (f := 37) rfl ?_); refine goesL_ (some 38) rfl rfl Try.func37 (by kernel_rfl) rfl #[.int .i64 (rd t410 (ji18))] rfl (by (try simp only [List.map_toArray, List.map_cons, List.map_nil]); first | done | (simp only [hji18]; rfl) | rfl | (simp only [List.length_drop, List.length_take]; rfl)) ?_; (with_reducible refine (spec_RuneLine.calls k1 (rd t410 (ji18)) t423 _ A21.out).mono ?_); rintro e w24 ⟨rfl, hb⟩; refine ⟨_, rfl, ?_⟩; have n0_ := Aside0.mk (Kd.R_below (by (with_reducible repeat (first | apply Kd.R_alloc | apply Kd.R_drewN | apply Kd.R_drew)); exact HO_3.out) hb); have n1_ := Aside0.mk (Kd.R_below (by (with_reducible repeat (first | apply Kd.R_alloc | apply Kd.R_drewN | apply Kd.R_drew)); exact HO_4.out) hb); have n2_ := Aside0.mk (below_step (by repeat (first | (with_reducible first | exact HB.out | apply below_alloc | apply pw_below_drewN | apply below_drew1) | exact HB.out)) hb); clear HO_3; clear HO_4; clear HB; have HO_3 := n0_; have HO_4 := n1_; have HB := n2_; clear n0_ n1_ n2_; (try clear hb); (try clear hb2); (try clear hk); (try clear hi)))
          (try simp only [Act.put, List.setIfInBounds_toArray, List.set_cons_zero, List.set_cons_succ])
          go_cut [8] (fun v8 wc => ∃ (kq : Nat) (x8_21 : Bool), v8 = .bool x8_21 ∧ Aside0 (laws_FnBreakWords.j1 kq t410 t413 x5_1 t421 x8_21 = some r) ∧ Aside0 (kq ≤ k1) ∧ Aside0 (Kd.R (Kd.int .i64) 3 wc w.heap.size (fun k_ => some k_ ≠ ((.slice Ao12 t413.length co12) : Value).ownBlock) (.slice (some ad420) t410.length co9) t410) ∧ Aside0 (Kd.R (Kd.int .i64) 3 wc w.heap.size (fun k_ => some k_ ≠ ((.slice (some ad420) t410.length co9) : Value).ownBlock) (.slice Ao12 t413.length co12) t413) ∧ Aside0 (Below w.heap.size w wc))
          case first =>
           have H := HC22.out
           clear HC22
           by_cases c25 : t423 = 1
           ·rw [if_pos c25] at H
            have c25b0 : (t423 == 1) = true := beq_iff_eq.mpr c25
            have c25b1 : (t423 != 1) = false := bne_eq_false_iff_eq.mpr c25
            clear c25
            (first | rw [c25b0] | (simp only [i64_w, i32_w]; rw [c25b0]) | skip)
            have H' := Aside0.mk H
            clear H
            go_wp2
            go_meet
            case rel => exact ⟨_, (true), (by first | rfl | (simp; done) | (simp [*]; done)), (by first | exact H' | (simp only [hji18]; exact H') | (simp only [hji38]; exact H') | (simp only [hji18, hji38]; exact H')), ⟨by have := HK1.out; first | omega | exact Nat.le_refl _⟩, ⟨by (with_reducible repeat (first | apply Kd.R_alloc | apply Kd.R_drewN | apply Kd.R_drew)); exact HO_3.out⟩, ⟨by (with_reducible repeat (first | apply Kd.R_alloc | apply Kd.R_drewN | apply Kd.R_drew)); exact HO_4.out⟩, ⟨by repeat (first | (with_reducible first | exact HB.out | apply below_alloc | apply pw_below_drewN | apply below_drew1) | exact HB.out)⟩⟩
           ·rw [if_neg c25] at H
            have c25b0 : (t423 == 1) = false := beq_eq_false_iff_ne.mpr c25
            have c25b1 : (t423 != 1) = true := bne_iff_ne.mpr c25
            (first | rw [c25b0] | (simp only [i64_w, i32_w]; rw [c25b0]) | skip)
            have H' := Aside0.mk H
            clear H
            go_wp2
            go_meet
            case rel => exact ⟨_, ((t423 == 2)), (by first | rfl | (simp; done) | (simp [*]; done)), (by first | exact H' | (simp only [hji18]; exact H') | (simp only [hji38]; exact H') | (simp only [hji18, hji38]; exact H')), ⟨by have := HK1.out; first | omega | exact Nat.le_refl _⟩, ⟨by (with_reducible repeat (first | apply Kd.R_alloc | apply Kd.R_drewN | apply Kd.R_drew)); exact HO_3.out⟩, ⟨by (with_reducible repeat (first | apply Kd.R_alloc | apply Kd.R_drewN | apply Kd.R_drew)); exact HO_4.out⟩, ⟨by repeat (first | (with_reducible first | exact HB.out | apply below_alloc | apply pw_below_drewN | apply below_drew1) | exact HB.out)⟩⟩
          case rest =>
           clear HC22
           try clear c1
           try clear c2
           try clear c2b0
           try clear c2b1
           try clear p2
           try clear c3
           try clear p4
           try clear q4
           try clear hx4
           try clear p6
           try clear c7
           try clear c8
           try clear c14
           try clear c14b0
           try clear c15
           try clear c15b0
           try clear c16
           try clear c16b0
           try clear c19
           try clear c19b0
           try clear c20
           try clear c20b0
           try clear c25
           try clear c25b0
           try clear c25b1
           try clear hx420_0
           try clear hx422_0
           try clear p2
           try clear p420
           try clear p422
           try clear q420
           try clear q422
           obtain ⟨kq, x8_21, rfl, HA, HJ21, HO_3, HO_4, HB⟩ := hcut
           cases kq with
           | zero => exact absurd HA.out (by simp [laws_FnBreakWords.j1])
           | succ kj21 =>
            have H := HA.out
            clear HA
            simp only [laws_FnBreakWords.j1] at H
            have HC26 := Aside0.mk H
            clear H
            go_upto_region 13 with (fail)
            go_cut [60] (fun v60 wc => ∃ (kq : Nat) (x60_25 : Bool), v60 = .bool x60_25 ∧ Aside0 (laws_FnBreakWords.j2 kq t410 t413 x5_1 t421 x8_21 x60_25 = some r) ∧ Aside0 (kq ≤ kj21) ∧ Aside0 (Kd.R (Kd.int .i64) 3 wc w.heap.size (fun k_ => some k_ ≠ ((.slice Ao12 t413.length co12) : Value).ownBlock) (.slice (some ad420) t410.length co9) t410) ∧ Aside0 (Kd.R (Kd.int .i64) 3 wc w.heap.size (fun k_ => some k_ ≠ ((.slice (some ad420) t410.length co9) : Value).ownBlock) (.slice Ao12 t413.length co12) t413) ∧ Aside0 (Below w.heap.size w wc))
            case first =>
             have H := HC26.out
             clear HC26
             by_cases c27 : x8_21 = true
             ·subst c27
              have H1 : (if t421 = 1 then (if 0 ≤ x5_1 then (if x5_1 < (t413.length : Int) then (laws_FnBreakWords.j2 kj21 t410 t413 x5_1 t421 true ((rd t413 x5_1) != 0)) else (none)) else (none)) else (if t421 = 2 then (if 0 ≤ x5_1 then (if x5_1 < (t413.length : Int) then (laws_FnBreakWords.j2 kj21 t410 t413 x5_1 t421 true ((rd t413 x5_1) != 0)) else (none)) else (none)) else (laws_FnBreakWords.j2 kj21 t410 t413 x5_1 t421 true false))) = some r := by rw [if_pos rfl] at H; exact H
              clear H
              have H := H1
              clear H1
              by_cases c28 : t421 = 1
              ·rw [if_pos c28] at H
               have c28b0 : (t421 == 1) = true := beq_iff_eq.mpr c28
               have c28b1 : (t421 != 1) = false := bne_eq_false_iff_eq.mpr c28
               clear c28
               (first | rw [c28b0] | (simp only [i64_w, i32_w]; rw [c28b0]) | skip)
               by_cases c29 : 0 ≤ x5_1
               ·rw [if_pos c29] at H
                have c29b0 : decide (0 ≤ x5_1) = true := decide_eq_true c29
                clear c29
                by_cases c30 : x5_1 < (t413.length : Int)
                ·rw [if_pos c30] at H
                 have c30b0 : decide (x5_1 < (t413.length : Int)) = true := decide_eq_true c30
                 clear c30
                 have H' := Aside0.mk H
                 clear H
                 have p424 : 0 ≤ (x5_1 : Int) := of_decide_eq_true (by first | (with_reducible assumption) | assumption)
                 have q424 : x5_1 < (t413.length : Int) := of_decide_eq_true (by first | (with_reducible assumption) | assumption)
                 obtain ⟨ad424, e424, hx424_0⟩ := Kd.at_int (Kd.R_reads' HO_4.out).2.2 x5_1 p424 q424
                 cases e424
                 replace p424 := eq_true p424
                 replace q424 := eq_true q424
                 go_wp2
                 go_meet
                 case rel => exact ⟨_, (((rd t413 x5_1) != 0)), (by first | rfl | (simp; done) | (simp [*]; done)), (by first | exact H' | (simp only [hji18]; exact H') | (simp only [hji38]; exact H') | (simp only [hji18, hji38]; exact H')), ⟨by have := HK1.out; have := HJ21.out; first | omega | exact Nat.le_refl _⟩, ⟨by (with_reducible repeat (first | apply Kd.R_alloc | apply Kd.R_drewN | apply Kd.R_drew)); exact HO_3.out⟩, ⟨by (with_reducible repeat (first | apply Kd.R_alloc | apply Kd.R_drewN | apply Kd.R_drew)); exact HO_4.out⟩, ⟨by repeat (first | (with_reducible first | exact HB.out | apply below_alloc | apply pw_below_drewN | apply below_drew1) | exact HB.out)⟩⟩
                ·rw [if_neg c30] at H
                 exact absurd H (by simp)
               ·rw [if_neg c29] at H
                exact absurd H (by simp)
              ·rw [if_neg c28] at H
               have c28b0 : (t421 == 1) = false := beq_eq_false_iff_ne.mpr c28
               have c28b1 : (t421 != 1) = true := bne_iff_ne.mpr c28
               (first | rw [c28b0] | (simp only [i64_w, i32_w]; rw [c28b0]) | skip)
               by_cases c31 : t421 = 2
               ·rw [if_pos c31] at H
                have c31b0 : (t421 == 2) = true := beq_iff_eq.mpr c31
                have c31b1 : (t421 != 2) = false := bne_eq_false_iff_eq.mpr c31
                clear c31
                by_cases c32 : 0 ≤ x5_1
                ·rw [if_pos c32] at H
                 have c32b0 : decide (0 ≤ x5_1) = true := decide_eq_true c32
                 clear c32
                 by_cases c33 : x5_1 < (t413.length : Int)
                 ·rw [if_pos c33] at H
                  have c33b0 : decide (x5_1 < (t413.length : Int)) = true := decide_eq_true c33
                  clear c33
                  have H' := Aside0.mk H
                  clear H
                  have p425 : 0 ≤ (x5_1 : Int) := of_decide_eq_true (by first | (with_reducible assumption) | assumption)
                  have q425 : x5_1 < (t413.length : Int) := of_decide_eq_true (by first | (with_reducible assumption) | assumption)
                  obtain ⟨ad425, e425, hx425_0⟩ := Kd.at_int (Kd.R_reads' HO_4.out).2.2 x5_1 p425 q425
                  cases e425
                  replace p425 := eq_true p425
                  replace q425 := eq_true q425
                  go_wp2
                  go_meet
                  case rel => exact ⟨_, (((rd t413 x5_1) != 0)), (by first | rfl | (simp; done) | (simp [*]; done)), (by first | exact H' | (simp only [hji18]; exact H') | (simp only [hji38]; exact H') | (simp only [hji18, hji38]; exact H')), ⟨by have := HK1.out; have := HJ21.out; first | omega | exact Nat.le_refl _⟩, ⟨by (with_reducible repeat (first | apply Kd.R_alloc | apply Kd.R_drewN | apply Kd.R_drew)); exact HO_3.out⟩, ⟨by (with_reducible repeat (first | apply Kd.R_alloc | apply Kd.R_drewN | apply Kd.R_drew)); exact HO_4.out⟩, ⟨by repeat (first | (with_reducible first | exact HB.out | apply below_alloc | apply pw_below_drewN | apply below_drew1) | exact HB.out)⟩⟩
                 ·rw [if_neg c33] at H
                  exact absurd H (by simp)
                ·rw [if_neg c32] at H
                 exact absurd H (by simp)
               ·rw [if_neg c31] at H
                have c31b0 : (t421 == 2) = false := beq_eq_false_iff_ne.mpr c31
                have c31b1 : (t421 != 2) = true := bne_iff_ne.mpr c31
                have H' := Aside0.mk H
                clear H
                go_wp2
                go_meet
                case rel => exact ⟨_, (false), (by first | rfl | (simp; done) | (simp [*]; done)), (by first | exact H' | (simp only [hji18]; exact H') | (simp only [hji38]; exact H') | (simp only [hji18, hji38]; exact H')), ⟨by have := HK1.out; have := HJ21.out; first | omega | exact Nat.le_refl _⟩, ⟨by (with_reducible repeat (first | apply Kd.R_alloc | apply Kd.R_drewN | apply Kd.R_drew)); exact HO_3.out⟩, ⟨by (with_reducible repeat (first | apply Kd.R_alloc | apply Kd.R_drewN | apply Kd.R_drew)); exact HO_4.out⟩, ⟨by repeat (first | (with_reducible first | exact HB.out | apply below_alloc | apply pw_below_drewN | apply below_drew1) | exact HB.out)⟩⟩
             ·replace c27 := Bool.eq_false_iff.mpr c27
              subst c27
              have H1 : (laws_FnBreakWords.j2 kj21 t410 t413 x5_1 t421 false false) = some r := by rw [if_neg (show ¬ (false = true) by decide)] at H; exact H
              clear H
              have H := H1
              clear H1
              have H' := Aside0.mk H
              clear H
              go_wp2
              go_meet
              case rel => exact ⟨_, (false), (by first | rfl | (simp; done) | (simp [*]; done)), (by first | exact H' | (simp only [hji18]; exact H') | (simp only [hji38]; exact H') | (simp only [hji18, hji38]; exact H')), ⟨by have := HK1.out; have := HJ21.out; first | omega | exact Nat.le_refl _⟩, ⟨by (with_reducible repeat (first | apply Kd.R_alloc | apply Kd.R_drewN | apply Kd.R_drew)); exact HO_3.out⟩, ⟨by (with_reducible repeat (first | apply Kd.R_alloc | apply Kd.R_drewN | apply Kd.R_drew)); exact HO_4.out⟩, ⟨by repeat (first | (with_reducible first | exact HB.out | apply below_alloc | apply pw_below_drewN | apply below_drew1) | exact HB.out)⟩⟩
            case rest =>
             clear HC26
             try clear c1
             try clear c2
             try clear c2b0
             try clear c2b1
             try clear p2
             try clear c3
             try clear p4
             try clear q4
             try clear hx4
             try clear p6
             try clear c7
             try clear c8
             try clear c14
             try clear c14b0
             try clear c15
             try clear c15b0
             try clear c16
             try clear c16b0
             try clear c19
             try clear c19b0
             try clear c20
             try clear c20b0
             try clear c25
             try clear c25b0
             try clear c25b1
             try clear c27
             try clear c28
             try clear c28b0
             try clear c28b1
             try clear c29
             try clear c29b0
             try clear c30
             try clear c30b0
             try clear c31
             try clear c31b0
             try clear c31b1
             try clear c32
             try clear c32b0
             try clear c33
             try clear c33b0
             try clear hx420_0
             try clear hx422_0
             try clear hx424_0
             try clear hx425_0
             try clear p2
             try clear p4
             try clear p420
             try clear p422
             try clear p424
             try clear p425
             try clear p6
             try clear q4
             try clear q420
             try clear q422
             try clear q424
             try clear q425
             obtain ⟨kq, x60_25, rfl, HA, HJ25, HO_3, HO_4, HB⟩ := hcut
             cases kq with
             | zero => exact absurd HA.out (by simp [laws_FnBreakWords.j2])
             | succ kj25 =>
              have H := HA.out
              clear HA
              simp only [laws_FnBreakWords.j2] at H
              by_cases c34 : x60_25 = true
              ·subst c34
               have H1 : (some false) = some r := by rw [if_pos rfl] at H; exact H
               clear H
               have H := H1
               clear H1
               obtain rfl := Option.some.inj H
               go_wp2
               go_ret
               exact ⟨by first | rfl | (simp [errW_none, errW_some] <;> rfl) | (simp only [← hji18]; first | rfl | (simp [errW_none, errW_some] <;> rfl)) | (simp [*, errW_none, errW_some] <;> rfl), by repeat (first | (with_reducible first | exact HB.out | apply below_alloc | apply pw_below_drewN | apply below_drew1) | exact HB.out)⟩
              ·replace c34 := Bool.eq_false_iff.mpr c34
               subst c34
               have H1 : (if x8_21 = true then (if t421 = 3 then (if x5_1 > 0 then (if 0 ≤ (wrap64 (x5_1 - 1)) then (if (wrap64 (x5_1 - 1)) < (t410.length : Int) then ((spec_RuneLine.f kj25 (rd t410 (wrap64 (x5_1 - 1)))).bind fun t427 => (if t427 = 1 then (if 0 ≤ x5_1 then (if x5_1 < (t413.length : Int) then (if (rd t413 x5_1) = 1 then (laws_FnBreakWords.l0 kj25 t410 t413 (wrap64 (x5_1 + 1))) else (some false)) else (none)) else (none)) else ((spec_RuneLine.f kj25 (rd t410 (wrap64 (x5_1 - 1)))).bind fun t430 => (if t430 = 2 then (if 0 ≤ x5_1 then (if x5_1 < (t413.length : Int) then (if (rd t413 x5_1) = 1 then (laws_FnBreakWords.l0 kj25 t410 t413 (wrap64 (x5_1 + 1))) else (some false)) else (none)) else (none)) else (laws_FnBreakWords.l0 kj25 t410 t413 (wrap64 (x5_1 + 1))))))) else (none)) else (none)) else (laws_FnBreakWords.l0 kj25 t410 t413 (wrap64 (x5_1 + 1)))) else (laws_FnBreakWords.l0 kj25 t410 t413 (wrap64 (x5_1 + 1)))) else (laws_FnBreakWords.l0 kj25 t410 t413 (wrap64 (x5_1 + 1)))) = some r := by rw [if_neg (show ¬ (false = true) by decide)] at H; exact H
               clear H
               have H := H1
               clear H1
               by_cases c35 : x8_21 = true
               ·subst c35
                have H1 : (if t421 = 3 then (if x5_1 > 0 then (if 0 ≤ (wrap64 (x5_1 - 1)) then (if (wrap64 (x5_1 - 1)) < (t410.length : Int) then ((spec_RuneLine.f kj25 (rd t410 (wrap64 (x5_1 - 1)))).bind fun t427 => (if t427 = 1 then (if 0 ≤ x5_1 then (if x5_1 < (t413.length : Int) then (if (rd t413 x5_1) = 1 then (laws_FnBreakWords.l0 kj25 t410 t413 (wrap64 (x5_1 + 1))) else (some false)) else (none)) else (none)) else ((spec_RuneLine.f kj25 (rd t410 (wrap64 (x5_1 - 1)))).bind fun t430 => (if t430 = 2 then (if 0 ≤ x5_1 then (if x5_1 < (t413.length : Int) then (if (rd t413 x5_1) = 1 then (laws_FnBreakWords.l0 kj25 t410 t413 (wrap64 (x5_1 + 1))) else (some false)) else (none)) else (none)) else (laws_FnBreakWords.l0 kj25 t410 t413 (wrap64 (x5_1 + 1))))))) else (none)) else (none)) else (laws_FnBreakWords.l0 kj25 t410 t413 (wrap64 (x5_1 + 1)))) else (laws_FnBreakWords.l0 kj25 t410 t413 (wrap64 (x5_1 + 1)))) = some r := by rw [if_pos rfl] at H; exact H
                clear H
                have H := H1
                clear H1
                by_cases c36 : t421 = 3
                ·rw [if_pos c36] at H
                 have c36b0 : (t421 == 3) = true := beq_iff_eq.mpr c36
                 have c36b1 : (t421 != 3) = false := bne_eq_false_iff_eq.mpr c36
                 clear c36
                 by_cases c37 : x5_1 > 0
                 ·rw [if_pos c37] at H
                  have c37b0 : decide (0 < x5_1) = true := decide_eq_true c37
                  clear c37
                  obtain ⟨ji38, hji38⟩ : ∃ j_ : Int, (wrap64 (x5_1 - 1)) = j_ := ⟨_, rfl⟩
                  replace H : (if 0 ≤ (ji38) then (if (ji38) < (t410.length : Int) then ((spec_RuneLine.f kj25 (rd t410 (ji38))).bind fun t427 => (if t427 = 1 then (if 0 ≤ x5_1 then (if x5_1 < (t413.length : Int) then (if (rd t413 x5_1) = 1 then (laws_FnBreakWords.l0 kj25 t410 t413 (wrap64 (x5_1 + 1))) else (some false)) else (none)) else (none)) else ((spec_RuneLine.f kj25 (rd t410 (ji38))).bind fun t430 => (if t430 = 2 then (if 0 ≤ x5_1 then (if x5_1 < (t413.length : Int) then (if (rd t413 x5_1) = 1 then (laws_FnBreakWords.l0 kj25 t410 t413 (wrap64 (x5_1 + 1))) else (some false)) else (none)) else (none)) else (laws_FnBreakWords.l0 kj25 t410 t413 (wrap64 (x5_1 + 1))))))) else (none)) else (none)) = some r := by first | (rw [hji38] at H; exact H) | (simp only [hji38] at H ⊢; exact H)
                  have hji38w : (IntKind.i64.wrap (x5_1 - 1)) = ji38 := (i64_w _).trans hji38
                  by_cases c39 : 0 ≤ (ji38)
                  ·rw [if_pos c39] at H
                   have c39b0 : decide (0 ≤ (ji38)) = true := decide_eq_true c39
                   clear c39
                   by_cases c40 : (ji38) < (t410.length : Int)
                   ·rw [if_pos c40] at H
                    have c40b0 : decide ((ji38) < (t410.length : Int)) = true := decide_eq_true c40
                    clear c40
                    replace H := Option.bind_eq_some_iff.mp H
                    obtain ⟨t427, A410, H⟩ := H
                    replace H : (if t427 = 1 then (if 0 ≤ x5_1 then (if x5_1 < (t413.length : Int) then (if (rd t413 x5_1) = 1 then (laws_FnBreakWords.l0 kj25 t410 t413 (wrap64 (x5_1 + 1))) else (some false)) else (none)) else (none)) else ((spec_RuneLine.f kj25 (rd t410 (ji38))).bind fun t430 => (if t430 = 2 then (if 0 ≤ x5_1 then (if x5_1 < (t413.length : Int) then (if (rd t413 x5_1) = 1 then (laws_FnBreakWords.l0 kj25 t410 t413 (wrap64 (x5_1 + 1))) else (some false)) else (none)) else (none)) else (laws_FnBreakWords.l0 kj25 t410 t413 (wrap64 (x5_1 + 1)))))) = some r := H
                    have A41 := Aside0.mk A410
                    clear A410
                    by_cases c42 : t427 = 1
                    ·rw [if_pos c42] at H
                     have c42b0 : (t427 == 1) = true := beq_iff_eq.mpr c42
                     have c42b1 : (t427 != 1) = false := bne_eq_false_iff_eq.mpr c42
                     clear c42
                     by_cases c43 : 0 ≤ x5_1
                     ·rw [if_pos c43] at H
                      have c43b0 : decide (0 ≤ x5_1) = true := decide_eq_true c43
                      clear c43
                      by_cases c44 : x5_1 < (t413.length : Int)
                      ·rw [if_pos c44] at H
                       have c44b0 : decide (x5_1 < (t413.length : Int)) = true := decide_eq_true c44
                       clear c44
                       by_cases c45 : (rd t413 x5_1) = 1
                       ·rw [if_pos c45] at H
                        have c45b0 : ((rd t413 x5_1) == 1) = true := beq_iff_eq.mpr c45
                        have c45b1 : ((rd t413 x5_1) != 1) = false := bne_eq_false_iff_eq.mpr c45
                        clear c45
                        have H' := Aside0.mk H
                        clear H
                        have p426 : 0 ≤ ((ji38) : Int) := of_decide_eq_true (by first | (with_reducible assumption) | assumption)
                        have q426 : (ji38) < (t410.length : Int) := of_decide_eq_true (by first | (with_reducible assumption) | assumption)
                        obtain ⟨ad426, e426, hx426_0⟩ := Kd.at_int (Kd.R_reads' HO_3.out).2.2 (ji38) p426 q426
                        obtain rfl : ad420 = ad426 := (by injection e426)
                        replace p426 := eq_true p426
                        replace q426 := eq_true q426
                        go_wp2_with (first | (go_at_call 37; (with_reducible refine (spec_RuneLine.calls kj25 (rd t410 (ji38)) t427 _ A41.out).mono ?_); rintro e w46 ⟨rfl, hb⟩; have n0_ := Aside0.mk (Kd.R_below (by (with_reducible repeat (first | apply Kd.R_alloc | apply Kd.R_drewN | apply Kd.R_drew)); exact HO_3.out) hb); have n1_ := Aside0.mk (Kd.R_below (by (with_reducible repeat (first | apply Kd.R_alloc | apply Kd.R_drewN | apply Kd.R_drew)); exact HO_4.out) hb); have n2_ := Aside0.mk (below_step (by repeat (first | (with_reducible first | exact HB.out | apply below_alloc | apply pw_below_drewN | apply below_drew1) | exact HB.out)) hb); clear HO_3; clear HO_4; clear HB; have HO_3 := n0_; have HO_4 := n1_; have HB := n2_; clear n0_ n1_ n2_; (try clear hb); (try clear hb2); (try clear hk); (try clear hi); have p428 : 0 ≤ (x5_1 : Int) := of_decide_eq_true (by first | (with_reducible assumption) | assumption); have q428 : x5_1 < (t413.length : Int) := of_decide_eq_true (by first | (with_reducible assumption) | assumption); obtain ⟨ad428, e428, hx428_0⟩ := Kd.at_int (Kd.R_reads' HO_4.out).2.2 x5_1 p428 q428; cases e428; replace p428 := eq_true p428; replace q428 := eq_true q428))
                        go_roundg kj25
                        case measure => have := HK1.out; have := HJ21.out; have := HJ25.out; omega
                        case rel => exact ⟨(wrap64 (x5_1 + 1)), (by first | rfl | (simp; done) | (simp [*]; done)), (by first | exact H' | (simp only [hji18]; exact H') | (simp only [hji38]; exact H') | (simp only [hji18, hji38]; exact H')), ⟨by have := HK1.out; have := HJ21.out; have := HJ25.out; omega⟩, ⟨by (with_reducible repeat (first | apply Kd.R_alloc | apply Kd.R_drewN | apply Kd.R_drew)); exact HO_3.out⟩, ⟨by (with_reducible repeat (first | apply Kd.R_alloc | apply Kd.R_drewN | apply Kd.R_drew)); exact HO_4.out⟩, ⟨by repeat (first | (with_reducible first | exact HB.out | apply below_alloc | apply pw_below_drewN | apply below_drew1) | exact HB.out)⟩⟩
                       ·rw [if_neg c45] at H
                        have c45b0 : ((rd t413 x5_1) == 1) = false := beq_eq_false_iff_ne.mpr c45
                        have c45b1 : ((rd t413 x5_1) != 1) = true := bne_iff_ne.mpr c45
                        obtain rfl := Option.some.inj H
                        have p426 : 0 ≤ ((ji38) : Int) := of_decide_eq_true (by first | (with_reducible assumption) | assumption)
                        have q426 : (ji38) < (t410.length : Int) := of_decide_eq_true (by first | (with_reducible assumption) | assumption)
                        obtain ⟨ad426, e426, hx426_0⟩ := Kd.at_int (Kd.R_reads' HO_3.out).2.2 (ji38) p426 q426
                        obtain rfl : ad420 = ad426 := (by injection e426)
                        replace p426 := eq_true p426
                        replace q426 := eq_true q426
                        go_wp2_with (first | (go_at_call 37; (with_reducible refine (spec_RuneLine.calls kj25 (rd t410 (ji38)) t427 _ A41.out).mono ?_); rintro e w47 ⟨rfl, hb⟩; have n0_ := Aside0.mk (Kd.R_below (by (with_reducible repeat (first | apply Kd.R_alloc | apply Kd.R_drewN | apply Kd.R_drew)); exact HO_3.out) hb); have n1_ := Aside0.mk (Kd.R_below (by (with_reducible repeat (first | apply Kd.R_alloc | apply Kd.R_drewN | apply Kd.R_drew)); exact HO_4.out) hb); have n2_ := Aside0.mk (below_step (by repeat (first | (with_reducible first | exact HB.out | apply below_alloc | apply pw_below_drewN | apply below_drew1) | exact HB.out)) hb); clear HO_3; clear HO_4; clear HB; have HO_3 := n0_; have HO_4 := n1_; have HB := n2_; clear n0_ n1_ n2_; (try clear hb); (try clear hb2); (try clear hk); (try clear hi); have p428 : 0 ≤ (x5_1 : Int) := of_decide_eq_true (by first | (with_reducible assumption) | assumption); have q428 : x5_1 < (t413.length : Int) := of_decide_eq_true (by first | (with_reducible assumption) | assumption); obtain ⟨ad428, e428, hx428_0⟩ := Kd.at_int (Kd.R_reads' HO_4.out).2.2 x5_1 p428 q428; cases e428; replace p428 := eq_true p428; replace q428 := eq_true q428))
                        go_ret
                        exact ⟨by first | rfl | (simp [errW_none, errW_some] <;> rfl) | (simp only [← hji18, ← hji38]; first | rfl | (simp [errW_none, errW_some] <;> rfl)) | (simp [*, errW_none, errW_some] <;> rfl), by repeat (first | (with_reducible first | exact HB.out | apply below_alloc | apply pw_below_drewN | apply below_drew1) | exact HB.out)⟩
                      ·rw [if_neg c44] at H
                       exact absurd H (by simp)
                     ·rw [if_neg c43] at H
                      exact absurd H (by simp)
                    ·rw [if_neg c42] at H
                     have c42b0 : (t427 == 1) = false := beq_eq_false_iff_ne.mpr c42
                     have c42b1 : (t427 != 1) = true := bne_iff_ne.mpr c42
                     replace H := Option.bind_eq_some_iff.mp H
                     obtain ⟨t430, A480, H⟩ := H
                     replace H : (if t430 = 2 then (if 0 ≤ x5_1 then (if x5_1 < (t413.length : Int) then (if (rd t413 x5_1) = 1 then (laws_FnBreakWords.l0 kj25 t410 t413 (wrap64 (x5_1 + 1))) else (some false)) else (none)) else (none)) else (laws_FnBreakWords.l0 kj25 t410 t413 (wrap64 (x5_1 + 1)))) = some r := H
                     have A48 := Aside0.mk A480
                     clear A480
                     by_cases c49 : t430 = 2
                     ·rw [if_pos c49] at H
                      have c49b0 : (t430 == 2) = true := beq_iff_eq.mpr c49
                      have c49b1 : (t430 != 2) = false := bne_eq_false_iff_eq.mpr c49
                      clear c49
                      by_cases c50 : 0 ≤ x5_1
                      ·rw [if_pos c50] at H
                       have c50b0 : decide (0 ≤ x5_1) = true := decide_eq_true c50
                       clear c50
                       by_cases c51 : x5_1 < (t413.length : Int)
                       ·rw [if_pos c51] at H
                        have c51b0 : decide (x5_1 < (t413.length : Int)) = true := decide_eq_true c51
                        clear c51
                        by_cases c52 : (rd t413 x5_1) = 1
                        ·rw [if_pos c52] at H
                         have c52b0 : ((rd t413 x5_1) == 1) = true := beq_iff_eq.mpr c52
                         have c52b1 : ((rd t413 x5_1) != 1) = false := bne_eq_false_iff_eq.mpr c52
                         clear c52
                         have H' := Aside0.mk H
                         clear H
                         have p426 : 0 ≤ ((ji38) : Int) := of_decide_eq_true (by first | (with_reducible assumption) | assumption)
                         have q426 : (ji38) < (t410.length : Int) := of_decide_eq_true (by first | (with_reducible assumption) | assumption)
                         obtain ⟨ad426, e426, hx426_0⟩ := Kd.at_int (Kd.R_reads' HO_3.out).2.2 (ji38) p426 q426
                         obtain rfl : ad420 = ad426 := (by injection e426)
                         replace p426 := eq_true p426
                         replace q426 := eq_true q426
                         go_wp2_with (first | (go_at_call 37; (with_reducible refine (spec_RuneLine.calls kj25 (rd t410 (ji38)) t427 _ A41.out).mono ?_); rintro e w53 ⟨rfl, hb⟩; clear A41; have n0_ := Aside0.mk (Kd.R_below (by (with_reducible repeat (first | apply Kd.R_alloc | apply Kd.R_drewN | apply Kd.R_drew)); exact HO_3.out) hb); have n1_ := Aside0.mk (Kd.R_below (by (with_reducible repeat (first | apply Kd.R_alloc | apply Kd.R_drewN | apply Kd.R_drew)); exact HO_4.out) hb); have n2_ := Aside0.mk (below_step (by repeat (first | (with_reducible first | exact HB.out | apply below_alloc | apply pw_below_drewN | apply below_drew1) | exact HB.out)) hb); clear HO_3; clear HO_4; clear HB; have HO_3 := n0_; have HO_4 := n1_; have HB := n2_; clear n0_ n1_ n2_; (try clear hb); (try clear hb2); (try clear hk); (try clear hi); have p429 : 0 ≤ ((ji38) : Int) := of_decide_eq_true (by first | (with_reducible assumption) | assumption); have q429 : (ji38) < (t410.length : Int) := of_decide_eq_true (by first | (with_reducible assumption) | assumption); obtain ⟨ad429, e429, hx429_0⟩ := Kd.at_int (Kd.R_reads' HO_3.out).2.2 (ji38) p429 q429; obtain rfl : ad420 = ad429 := (by injection e429); replace p429 := eq_true p429; replace q429 := eq_true q429) | (go_at_call 37; (with_reducible refine (spec_RuneLine.calls kj25 (rd t410 (ji38)) t430 _ A48.out).mono ?_); rintro e w54 ⟨rfl, hb⟩; have n0_ := Aside0.mk (Kd.R_below (by (with_reducible repeat (first | apply Kd.R_alloc | apply Kd.R_drewN | apply Kd.R_drew)); exact HO_3.out) hb); have n1_ := Aside0.mk (Kd.R_below (by (with_reducible repeat (first | apply Kd.R_alloc | apply Kd.R_drewN | apply Kd.R_drew)); exact HO_4.out) hb); have n2_ := Aside0.mk (below_step (by repeat (first | (with_reducible first | exact HB.out | apply below_alloc | apply pw_below_drewN | apply below_drew1) | exact HB.out)) hb); clear HO_3; clear HO_4; clear HB; have HO_3 := n0_; have HO_4 := n1_; have HB := n2_; clear n0_ n1_ n2_; (try clear hb); (try clear hb2); (try clear hk); (try clear hi); have p431 : 0 ≤ (x5_1 : Int) := of_decide_eq_true (by first | (with_reducible assumption) | assumption); have q431 : x5_1 < (t413.length : Int) := of_decide_eq_true (by first | (with_reducible assumption) | assumption); obtain ⟨ad431, e431, hx431_0⟩ := Kd.at_int (Kd.R_reads' HO_4.out).2.2 x5_1 p431 q431; cases e431; replace p431 := eq_true p431; replace q431 := eq_true q431))
                         go_roundg kj25
                         case measure => have := HK1.out; have := HJ21.out; have := HJ25.out; omega
                         case rel => exact ⟨(wrap64 (x5_1 + 1)), (by first | rfl | (simp; done) | (simp [*]; done)), (by first | exact H' | (simp only [hji18]; exact H') | (simp only [hji38]; exact H') | (simp only [hji18, hji38]; exact H')), ⟨by have := HK1.out; have := HJ21.out; have := HJ25.out; omega⟩, ⟨by (with_reducible repeat (first | apply Kd.R_alloc | apply Kd.R_drewN | apply Kd.R_drew)); exact HO_3.out⟩, ⟨by (with_reducible repeat (first | apply Kd.R_alloc | apply Kd.R_drewN | apply Kd.R_drew)); exact HO_4.out⟩, ⟨by repeat (first | (with_reducible first | exact HB.out | apply below_alloc | apply pw_below_drewN | apply below_drew1) | exact HB.out)⟩⟩
                        ·rw [if_neg c52] at H
                         have c52b0 : ((rd t413 x5_1) == 1) = false := beq_eq_false_iff_ne.mpr c52
                         have c52b1 : ((rd t413 x5_1) != 1) = true := bne_iff_ne.mpr c52
                         obtain rfl := Option.some.inj H
                         have p426 : 0 ≤ ((ji38) : Int) := of_decide_eq_true (by first | (with_reducible assumption) | assumption)
                         have q426 : (ji38) < (t410.length : Int) := of_decide_eq_true (by first | (with_reducible assumption) | assumption)
                         obtain ⟨ad426, e426, hx426_0⟩ := Kd.at_int (Kd.R_reads' HO_3.out).2.2 (ji38) p426 q426
                         obtain rfl : ad420 = ad426 := (by injection e426)
                         replace p426 := eq_true p426
                         replace q426 := eq_true q426
                         go_wp2_with (first | (go_at_call 37; (with_reducible refine (spec_RuneLine.calls kj25 (rd t410 (ji38)) t427 _ A41.out).mono ?_); rintro e w55 ⟨rfl, hb⟩; clear A41; have n0_ := Aside0.mk (Kd.R_below (by (with_reducible repeat (first | apply Kd.R_alloc | apply Kd.R_drewN | apply Kd.R_drew)); exact HO_3.out) hb); have n1_ := Aside0.mk (Kd.R_below (by (with_reducible repeat (first | apply Kd.R_alloc | apply Kd.R_drewN | apply Kd.R_drew)); exact HO_4.out) hb); have n2_ := Aside0.mk (below_step (by repeat (first | (with_reducible first | exact HB.out | apply below_alloc | apply pw_below_drewN | apply below_drew1) | exact HB.out)) hb); clear HO_3; clear HO_4; clear HB; have HO_3 := n0_; have HO_4 := n1_; have HB := n2_; clear n0_ n1_ n2_; (try clear hb); (try clear hb2); (try clear hk); (try clear hi); have p429 : 0 ≤ ((ji38) : Int) := of_decide_eq_true (by first | (with_reducible assumption) | assumption); have q429 : (ji38) < (t410.length : Int) := of_decide_eq_true (by first | (with_reducible assumption) | assumption); obtain ⟨ad429, e429, hx429_0⟩ := Kd.at_int (Kd.R_reads' HO_3.out).2.2 (ji38) p429 q429; obtain rfl : ad420 = ad429 := (by injection e429); replace p429 := eq_true p429; replace q429 := eq_true q429) | (go_at_call 37; (with_reducible refine (spec_RuneLine.calls kj25 (rd t410 (ji38)) t430 _ A48.out).mono ?_); rintro e w56 ⟨rfl, hb⟩; have n0_ := Aside0.mk (Kd.R_below (by (with_reducible repeat (first | apply Kd.R_alloc | apply Kd.R_drewN | apply Kd.R_drew)); exact HO_3.out) hb); have n1_ := Aside0.mk (Kd.R_below (by (with_reducible repeat (first | apply Kd.R_alloc | apply Kd.R_drewN | apply Kd.R_drew)); exact HO_4.out) hb); have n2_ := Aside0.mk (below_step (by repeat (first | (with_reducible first | exact HB.out | apply below_alloc | apply pw_below_drewN | apply below_drew1) | exact HB.out)) hb); clear HO_3; clear HO_4; clear HB; have HO_3 := n0_; have HO_4 := n1_; have HB := n2_; clear n0_ n1_ n2_; (try clear hb); (try clear hb2); (try clear hk); (try clear hi); have p431 : 0 ≤ (x5_1 : Int) := of_decide_eq_true (by first | (with_reducible assumption) | assumption); have q431 : x5_1 < (t413.length : Int) := of_decide_eq_true (by first | (with_reducible assumption) | assumption); obtain ⟨ad431, e431, hx431_0⟩ := Kd.at_int (Kd.R_reads' HO_4.out).2.2 x5_1 p431 q431; cases e431; replace p431 := eq_true p431; replace q431 := eq_true q431))
                         go_ret
                         exact ⟨by first | rfl | (simp [errW_none, errW_some] <;> rfl) | (simp only [← hji18, ← hji38]; first | rfl | (simp [errW_none, errW_some] <;> rfl)) | (simp [*, errW_none, errW_some] <;> rfl), by repeat (first | (with_reducible first | exact HB.out | apply below_alloc | apply pw_below_drewN | apply below_drew1) | exact HB.out)⟩
                       ·rw [if_neg c51] at H
                        exact absurd H (by simp)
                      ·rw [if_neg c50] at H
                       exact absurd H (by simp)
                     ·rw [if_neg c49] at H
                      have c49b0 : (t430 == 2) = false := beq_eq_false_iff_ne.mpr c49
                      have c49b1 : (t430 != 2) = true := bne_iff_ne.mpr c49
                      have H' := Aside0.mk H
                      clear H
                      have p426 : 0 ≤ ((ji38) : Int) := of_decide_eq_true (by first | (with_reducible assumption) | assumption)
                      have q426 : (ji38) < (t410.length : Int) := of_decide_eq_true (by first | (with_reducible assumption) | assumption)
                      obtain ⟨ad426, e426, hx426_0⟩ := Kd.at_int (Kd.R_reads' HO_3.out).2.2 (ji38) p426 q426
                      obtain rfl : ad420 = ad426 := (by injection e426)
                      replace p426 := eq_true p426
                      replace q426 := eq_true q426
                      go_wp2_with (first | (go_at_call 37; (with_reducible refine (spec_RuneLine.calls kj25 (rd t410 (ji38)) t427 _ A41.out).mono ?_); rintro e w57 ⟨rfl, hb⟩; clear A41; have n0_ := Aside0.mk (Kd.R_below (by (with_reducible repeat (first | apply Kd.R_alloc | apply Kd.R_drewN | apply Kd.R_drew)); exact HO_3.out) hb); have n1_ := Aside0.mk (Kd.R_below (by (with_reducible repeat (first | apply Kd.R_alloc | apply Kd.R_drewN | apply Kd.R_drew)); exact HO_4.out) hb); have n2_ := Aside0.mk (below_step (by repeat (first | (with_reducible first | exact HB.out | apply below_alloc | apply pw_below_drewN | apply below_drew1) | exact HB.out)) hb); clear HO_3; clear HO_4; clear HB; have HO_3 := n0_; have HO_4 := n1_; have HB := n2_; clear n0_ n1_ n2_; (try clear hb); (try clear hb2); (try clear hk); (try clear hi); have p429 : 0 ≤ ((ji38) : Int) := of_decide_eq_true (by first | (with_reducible assumption) | assumption); have q429 : (ji38) < (t410.length : Int) := of_decide_eq_true (by first | (with_reducible assumption) | assumption); obtain ⟨ad429, e429, hx429_0⟩ := Kd.at_int (Kd.R_reads' HO_3.out).2.2 (ji38) p429 q429; obtain rfl : ad420 = ad429 := (by injection e429); replace p429 := eq_true p429; replace q429 := eq_true q429) | (go_at_call 37; (with_reducible refine (spec_RuneLine.calls kj25 (rd t410 (ji38)) t430 _ A48.out).mono ?_); rintro e w58 ⟨rfl, hb⟩; have n0_ := Aside0.mk (Kd.R_below (by (with_reducible repeat (first | apply Kd.R_alloc | apply Kd.R_drewN | apply Kd.R_drew)); exact HO_3.out) hb); have n1_ := Aside0.mk (Kd.R_below (by (with_reducible repeat (first | apply Kd.R_alloc | apply Kd.R_drewN | apply Kd.R_drew)); exact HO_4.out) hb); have n2_ := Aside0.mk (below_step (by repeat (first | (with_reducible first | exact HB.out | apply below_alloc | apply pw_below_drewN | apply below_drew1) | exact HB.out)) hb); clear HO_3; clear HO_4; clear HB; have HO_3 := n0_; have HO_4 := n1_; have HB := n2_; clear n0_ n1_ n2_; (try clear hb); (try clear hb2); (try clear hk); (try clear hi)))
                      go_roundg kj25
                      case measure => have := HK1.out; have := HJ21.out; have := HJ25.out; omega
                      case rel => exact ⟨(wrap64 (x5_1 + 1)), (by first | rfl | (simp; done) | (simp [*]; done)), (by first | exact H' | (simp only [hji18]; exact H') | (simp only [hji38]; exact H') | (simp only [hji18, hji38]; exact H')), ⟨by have := HK1.out; have := HJ21.out; have := HJ25.out; omega⟩, ⟨by (with_reducible repeat (first | apply Kd.R_alloc | apply Kd.R_drewN | apply Kd.R_drew)); exact HO_3.out⟩, ⟨by (with_reducible repeat (first | apply Kd.R_alloc | apply Kd.R_drewN | apply Kd.R_drew)); exact HO_4.out⟩, ⟨by repeat (first | (with_reducible first | exact HB.out | apply below_alloc | apply pw_below_drewN | apply below_drew1) | exact HB.out)⟩⟩
                   ·rw [if_neg c40] at H
                    exact absurd H (by simp)
                  ·rw [if_neg c39] at H
                   exact absurd H (by simp)
                 ·rw [if_neg c37] at H
                  have c37b0 : decide (0 < x5_1) = false := decide_eq_false c37
                  clear c37
                  have H' := Aside0.mk H
                  clear H
                  go_wp2
                  go_roundg kj25
                  case measure => have := HK1.out; have := HJ21.out; have := HJ25.out; omega
                  case rel => exact ⟨(wrap64 (x5_1 + 1)), (by first | rfl | (simp; done) | (simp [*]; done)), (by first | exact H' | (simp only [hji18]; exact H') | (simp only [hji38]; exact H') | (simp only [hji18, hji38]; exact H')), ⟨by have := HK1.out; have := HJ21.out; have := HJ25.out; omega⟩, ⟨by (with_reducible repeat (first | apply Kd.R_alloc | apply Kd.R_drewN | apply Kd.R_drew)); exact HO_3.out⟩, ⟨by (with_reducible repeat (first | apply Kd.R_alloc | apply Kd.R_drewN | apply Kd.R_drew)); exact HO_4.out⟩, ⟨by repeat (first | (with_reducible first | exact HB.out | apply below_alloc | apply pw_below_drewN | apply below_drew1) | exact HB.out)⟩⟩
                ·rw [if_neg c36] at H
                 have c36b0 : (t421 == 3) = false := beq_eq_false_iff_ne.mpr c36
                 have c36b1 : (t421 != 3) = true := bne_iff_ne.mpr c36
                 have H' := Aside0.mk H
                 clear H
                 go_wp2
                 go_roundg kj25
                 case measure => have := HK1.out; have := HJ21.out; have := HJ25.out; omega
                 case rel => exact ⟨(wrap64 (x5_1 + 1)), (by first | rfl | (simp; done) | (simp [*]; done)), (by first | exact H' | (simp only [hji18]; exact H') | (simp only [hji38]; exact H') | (simp only [hji18, hji38]; exact H')), ⟨by have := HK1.out; have := HJ21.out; have := HJ25.out; omega⟩, ⟨by (with_reducible repeat (first | apply Kd.R_alloc | apply Kd.R_drewN | apply Kd.R_drew)); exact HO_3.out⟩, ⟨by (with_reducible repeat (first | apply Kd.R_alloc | apply Kd.R_drewN | apply Kd.R_drew)); exact HO_4.out⟩, ⟨by repeat (first | (with_reducible first | exact HB.out | apply below_alloc | apply pw_below_drewN | apply below_drew1) | exact HB.out)⟩⟩
               ·replace c35 := Bool.eq_false_iff.mpr c35
                subst c35
                have H1 : (laws_FnBreakWords.l0 kj25 t410 t413 (wrap64 (x5_1 + 1))) = some r := by rw [if_neg (show ¬ (false = true) by decide)] at H; exact H
                clear H
                have H := H1
                clear H1
                have H' := Aside0.mk H
                clear H
                go_wp2
                go_roundg kj25
                case measure => have := HK1.out; have := HJ21.out; have := HJ25.out; omega
                case rel => exact ⟨(wrap64 (x5_1 + 1)), (by first | rfl | (simp; done) | (simp [*]; done)), (by first | exact H' | (simp only [hji18]; exact H') | (simp only [hji38]; exact H') | (simp only [hji18, hji38]; exact H')), ⟨by have := HK1.out; have := HJ21.out; have := HJ25.out; omega⟩, ⟨by (with_reducible repeat (first | apply Kd.R_alloc | apply Kd.R_drewN | apply Kd.R_drew)); exact HO_3.out⟩, ⟨by (with_reducible repeat (first | apply Kd.R_alloc | apply Kd.R_drewN | apply Kd.R_drew)); exact HO_4.out⟩, ⟨by repeat (first | (with_reducible first | exact HB.out | apply below_alloc | apply pw_below_drewN | apply below_drew1) | exact HB.out)⟩⟩
         ·rw [if_neg c20] at H
          exact absurd H (by simp)
        ·rw [if_neg c19] at H
         exact absurd H (by simp)
       ·rw [if_neg c16] at H
        exact absurd H (by simp)
      ·rw [if_neg c15] at H
       exact absurd H (by simp)
     ·rw [if_neg c14] at H
      have c14b0 : decide ((wrap64 (x5_1 + 1)) < (t413.length : Int)) = false := decide_eq_false c14
      clear c14
      obtain rfl := Option.some.inj H
      go_wp2
      go_ret
      exact ⟨by first | rfl | (simp [errW_none, errW_some] <;> rfl) | (simp [*, errW_none, errW_some] <;> rfl), by repeat (first | (with_reducible first | exact HB.out | apply below_alloc | apply pw_below_drewN | apply below_drew1) | exact HB.out)⟩
  ·replace c7 := Bool.eq_false_iff.mpr c7
   subst c7
   have H1 : (some false) = some r := by rw [if_neg (show ¬ (false = true) by decide)] at H; exact H
   clear H
   have H := H1
   clear H1
   obtain rfl := Option.some.inj H
   go_enter Try.func8, Try.ntmps8
   go_wp2_with (first | ((with_reducible refine gate_callee (f := 36) rfl ?_); refine goesL_ (some 13) rfl rfl Try.func36 (by kernel_rfl) rfl #[.slice A0 l0.length c0] rfl (by (try simp only [List.map_toArray, List.map_cons, List.map_nil]); first | done | rfl | (simp only [List.length_drop, List.length_take]; rfl)) ?_; (with_reducible refine (spec_DrawBreaksOf.calls k _ _ l0 t410 _ ?side1 ?side2 A3.out).mono ?_); (case side1 => repeat (first | exact HR0.out | (with_reducible refine Kd.C_alloc ?_ _) | (with_reducible refine Kd.C_drewN ?_ _) | (with_reducible refine Kd.C_drew ?_))); (case side2 => exact HC0.out); rintro e w59 ⟨v411, rfl, ho0, hb⟩; refine ⟨_, rfl, ?_⟩; have n0_ := Aside0.mk (Kd.R_lower ho0 (below_size (by repeat (first | (with_reducible first | exact HB.out | apply below_alloc | apply pw_below_drewN | apply below_drew1) | exact HB.out)))); have n1_ := Aside0.mk (below_step (by repeat (first | (with_reducible first | exact HB.out | apply below_alloc | apply pw_below_drewN | apply below_drew1) | exact HB.out)) hb); clear HB; have HO412 := n0_; have HB := n1_; clear n0_ n1_; (try clear hb); (try clear hb2); (try clear hk); (try clear hi); (try clear ho0); obtain ⟨Ao60, co60, eo60⟩ := Kd.R_slice HO412.out; subst eo60) | ((with_reducible refine gate_callee (f := 33) rfl ?_); refine goesL_ (some 15) rfl rfl Try.func33 (by kernel_rfl) rfl #[.slice Ao60 t410.length co60] rfl (by (try simp only [List.map_toArray, List.map_cons, List.map_nil]); first | done | rfl | (simp only [List.length_drop, List.length_take]; rfl)) ?_; (with_reducible refine (impl_BreaksOf.calls k _ _ t410 t413 _ ?side1 ?side2 A4.out).mono ?_); (case side1 => repeat (first | exact (Kd.R_reads' HO412.out).2.2 | (with_reducible refine Kd.C_alloc ?_ _) | (with_reducible refine Kd.C_drewN ?_ _) | (with_reducible refine Kd.C_drew ?_))); (case side2 => exact (Kd.R_reads' HO412.out).2.1); rintro e w61 ⟨v414, rfl, ho0, hb⟩; refine ⟨_, rfl, ?_⟩; have n0_ := Aside0.mk (Kd.R_elder' (by (with_reducible repeat (first | apply Kd.R_alloc | apply Kd.R_drewN | apply Kd.R_drew)); exact HO412.out) (Kd.R_base ho0) hb); have n1_ := Aside0.mk (Kd.R_lower (Kd.R_new' ho0 (Kd.R_lt (by (with_reducible repeat (first | apply Kd.R_alloc | apply Kd.R_drewN | apply Kd.R_drew)); exact HO412.out))) (below_size (by repeat (first | (with_reducible first | exact HB.out | apply below_alloc | apply pw_below_drewN | apply below_drew1) | exact HB.out)))); have n2_ := Aside0.mk (below_step (by repeat (first | (with_reducible first | exact HB.out | apply below_alloc | apply pw_below_drewN | apply below_drew1) | exact HB.out)) hb); clear HO412; clear HB; have HO412 := n0_; have HO415 := n1_; have HB := n2_; clear n0_ n1_ n2_; (try clear hb); (try clear hb2); (try clear hk); (try clear hi); (try clear ho0)) | ((with_reducible refine gate_callee (f := 32) rfl ?_); refine goesL_ (some 18) rfl rfl Try.func32 (by kernel_rfl) rfl #[.slice Ao60 t410.length co60] rfl (by (try simp only [List.map_toArray, List.map_cons, List.map_nil]); first | done | rfl | (simp only [List.length_drop, List.length_take]; rfl)) ?_; (with_reducible refine (spec_BreaksOf.calls k _ _ t410 t416 _ ?side1 ?side2 A5.out).mono ?_); (case side1 => repeat (first | exact (Kd.R_reads' HO412.out).2.2 | (with_reducible refine Kd.C_alloc ?_ _) | (with_reducible refine Kd.C_drewN ?_ _) | (with_reducible refine Kd.C_drew ?_))); (case side2 => exact (Kd.R_reads' HO412.out).2.1); rintro e w62 ⟨v417, rfl, ho0, hb⟩; refine ⟨_, rfl, ?_⟩; have n0_ := Aside0.mk (Kd.R_elder' (by (with_reducible repeat (first | apply Kd.R_alloc | apply Kd.R_drewN | apply Kd.R_drew)); exact HO412.out) (Kd.R_base ho0) hb); have n1_ := Aside0.mk (Kd.R_elder' (by (with_reducible repeat (first | apply Kd.R_alloc | apply Kd.R_drewN | apply Kd.R_drew)); exact HO415.out) (Kd.R_base ho0) hb); have n2_ := Aside0.mk (Kd.R_lower (Kd.R_new' (Kd.R_new' ho0 (Kd.R_lt (by (with_reducible repeat (first | apply Kd.R_alloc | apply Kd.R_drewN | apply Kd.R_drew)); exact HO412.out))) (Kd.R_lt (by (with_reducible repeat (first | apply Kd.R_alloc | apply Kd.R_drewN | apply Kd.R_drew)); exact HO415.out))) (below_size (by repeat (first | (with_reducible first | exact HB.out | apply below_alloc | apply pw_below_drewN | apply below_drew1) | exact HB.out)))); have n3_ := Aside0.mk (below_step (by repeat (first | (with_reducible first | exact HB.out | apply below_alloc | apply pw_below_drewN | apply below_drew1) | exact HB.out)) hb); clear HO412; clear HO415; clear HB; have HO412 := n0_; have HO415 := n1_; have HO418 := n2_; have HB := n3_; clear n0_ n1_ n2_ n3_; (try clear hb); (try clear hb2); (try clear hk); (try clear hi); (try clear ho0); obtain ⟨Ao63, co63, eo63⟩ := Kd.R_slice HO415.out; subst eo63; obtain ⟨Ao64, co64, eo64⟩ := Kd.R_slice HO418.out; subst eo64) | ((with_reducible refine gate_callee (f := 25) rfl ?_); refine goesL_ (some 19) rfl rfl Try.func25 (by kernel_rfl) rfl #[.slice Ao63 t413.length co63, .slice Ao64 t416.length co64] rfl (by (try simp only [List.map_toArray, List.map_cons, List.map_nil]); first | done | rfl | (simp only [List.length_drop, List.length_take]; rfl)) ?_; (with_reducible refine (laws_wcInts.calls k _ _ t413 _ _ t416 false _ ?side1 ?side2 ?side3 ?side4 A6.out).mono ?_); (case side1 => repeat (first | exact (Kd.R_reads' HO415.out).2.2 | (with_reducible refine Kd.C_alloc ?_ _) | (with_reducible refine Kd.C_drewN ?_ _) | (with_reducible refine Kd.C_drew ?_))); (case side2 => exact (Kd.R_reads' HO415.out).2.1); (case side3 => repeat (first | exact (Kd.R_reads' HO418.out).2.2 | (with_reducible refine Kd.C_alloc ?_ _) | (with_reducible refine Kd.C_drewN ?_ _) | (with_reducible refine Kd.C_drew ?_))); (case side4 => exact (Kd.R_reads' HO418.out).2.1); rintro e w' ⟨rfl, ⟨nd, rfl⟩⟩; refine ⟨_, rfl, ?_⟩))
   go_ret
   exact ⟨by first | rfl | (simp [errW_none, errW_some] <;> rfl) | (simp [*, errW_none, errW_some] <;> rfl), by repeat (first | (with_reducible first | exact HB.out | apply below_alloc | apply pw_below_drewN | apply below_drew1) | exact HB.out)⟩

/-- THE ONE PURE STATEMENT of laws_FnBreakWords: yours. -/
def laws_FnBreakWords.Pure : Prop := ∀ (l0 : List Int), l0.length ≤ maxLen → l0.length * 1 ≤ 140737488351232 → (∀ x ∈ l0, (Lit.int .u8 x).wf = true) → ∃ k, laws_FnBreakWords.f k l0 = some true
theorem laws_FnBreakWords.walk (P : laws_FnBreakWords.Pure) (a0 : Option Addr) (len0 cap0 : Nat) (z0 : List Int) (w : World) (w0 : (a0 = none ∧ len0 = 0 ∧ cap0 = 0 ∧ z0 = []) ∨ ∃ x, a0 = some x ∧ len0 ≤ cap0 ∧ cap0 ≤ maxLen ∧ z0.length = cap0 ∧ (∀ i, i < z0.length → w.cell? (x.add i) = some (.int .u8 (z0.getD i 0))) ∧ ∀ n ∈ z0, (Lit.int .u8 n).wf = true) (y0 : len0 * 1 ≤ 140737488351232) :
  Calls Try.prog 8 #[.slice a0 len0 cap0] w fun e w' => e = .returned (.bool true) ∧ Below w.heap.size w w' := by
 obtain ⟨l0, rfl, hr0, hm0, hw0, hc0⟩ := ReadsInt.ofRowC w0
 obtain ⟨k, h⟩ := P l0 hm0 y0 hw0
 refine (laws_FnBreakWords.calls k _ _ l0 true w (Kd.C_of_reads (d := (0 : Int)) (h1 := fun _ => rfl) hr0) hc0 h).mono ?_
 rintro e w' ⟨rfl, hd⟩
 exact ⟨rfl, hd⟩

end Go.Proofs.Ytmjhdgofepdgkaa.PFnBreakWords
