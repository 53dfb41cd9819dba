-- Written by a program of this session (wip/tools) out of the translation; its shape is that of the kit print.
import Derived.Test.YtkapjhlcmicpnaaPFnSpansPutx0
import Derived.Test.YtkapjhlcmicpnaaPFnSpansPutx10
import Derived.Test.YtkapjhlcmicpnaaPFnSpansPutx12
namespace Go.Proofs.Ytkapjhlcmicpnaa.PFnSpansPut
open Go.RowKit Go.Proofs.YtkapjhlcmicpnaaW.PrintWords Go.Proofs.YtkapjhlcmicpnaaW.PrintLast Go.Proofs.YtkapjhlcmicpnaaW.PrintMore
attribute [local go_sem] max2_int min2_int max_two min_two max_three min_three max_four min_four   -- for this text's walks alone
set_option linter.unusedVariables false
set_option linter.unusedSimpArgs false

/-! ### spec_DrawSpansPut: function 41 -/
def spec_DrawSpansPut.f (k : Nat) (l0 : List Int) : Option ((List (S50)) × Int × Int × Int × Int × Int) := (spec_l1Open.f l0).bind fun bt287 => ((spec_l1Rd_pick.f k bt287.1 bt287.2 20).bind fun bt290 => ((spec_l1Rd_pick.f k bt287.1 bt290.2 (wrap64 (bt290.1 + 1))).bind fun bt292 => ((spec_l13AnySpans.f k bt287.1 bt292.2 bt290.1).bind fun bt294 => ((spec_l1Rd_pick.f k bt287.1 bt294.2 (wrap64 ((wrap64 (bt290.1 - bt292.1)) + 1))).bind fun bt298 => ((some (([10, 20, 0] : List Int) : List Int)).bind fun y300 => ((spec_l1Rd_pick.f k bt287.1 bt298.2 16).bind fun bt303 => (if 0 ≤ (wrap64 (Int.tdiv (wrap64 (bt303.1 * 3)) 16)) then (if (wrap64 (Int.tdiv (wrap64 (bt303.1 * 3)) 16)) < (y300.length : Int) then ((spec_l1Rd_pick.f k bt287.1 bt303.2 3).bind fun bt306 => (some (bt294.1, bt290.1, bt292.1, wrap64 ((wrap64 (bt292.1 + 1)) + bt298.1), rd y300 (wrap64 (Int.tdiv (wrap64 (bt303.1 * 3)) 16)), bt306.1))) else (none)) else (none))))))))
theorem spec_DrawSpansPut.mono : ∀ a0 k, LeO (spec_DrawSpansPut.f k a0) (spec_DrawSpansPut.f (k + 1) a0) := by
 intro a0 k
 unfold spec_DrawSpansPut.f
 repeat' first
   | (with_reducible exact spec_l13AnySpans.mono _ _ _ _)
   | (with_reducible exact spec_l1Rd_pick.mono _ _ _ _)
   | (with_reducible exact LeO.refl _)
   | (with_reducible exact LeO.none _)
   | (with_reducible refine LeO.ite ?_ ?_)
   | (with_reducible refine LeO.bind ?_ (fun _ => ?_))
   | exact spec_l13AnySpans.mono _ _ _ _
   | exact spec_l1Rd_pick.mono _ _ _ _
   | exact LeO.none _
   | refine LeO.ite ?_ ?_
   | refine LeO.bind ?_ (fun _ => ?_)
def spec_DrawSpansPut.T4 : Bool × List (List Nat × List Nat) := (true, [([], []), ([], []), ([0, 1], [0, 1]), ([], []), ([], []), ([], []), ([5], [5]), ([], []), ([], []), ([], []), ([8, 9], [8, 9]), ([10], [10]), ([7, 11, 2], [7, 11]), ([6, 12], [6, 12]), ([], []), ([], []), ([15, 12], [15]), ([16], [16]), ([17], [17]), ([14, 18], [14, 18]), ([19], [19]), ([], []), ([21, 16], [21]), ([4, 13, 20, 22], [4, 13, 20, 22]), ([2, 22, 0, 1, 2], [2]), ([3, 24, 0, 1, 2, 3, 24], [3]), ([23, 25, 0, 1, 2, 3, 4, 5, 6, 7, 8, 9, 10, 11, 12, 13, 14, 15, 16, 17, 18, 19, 20, 21, 22, 23, 24, 25], [23])])
def spec_DrawSpansPut.B4 : List Nat := [0, 0, 3, 0, 0, 0, 32, 0, 0, 0, 768, 1792, 3975, 8167, 0, 0, 40839, 106375, 237447, 515975, 1040263, 0, 2203527, 8388599, 6397831, 23175055, 67108863]
theorem spec_DrawSpansPut.tab4 : rtab .any (opsOf Try.f41 4) = spec_DrawSpansPut.T4 := by kernel_rfl
theorem spec_DrawSpansPut.bits4 : waitsOk spec_DrawSpansPut.T4.2 spec_DrawSpansPut.B4 = true := by kernel_rfl
set_option maxHeartbeats 8000000 in
set_option maxRecDepth 100000 in
theorem spec_DrawSpansPut.calls (k : Nat) (A0 : Option Addr) (c0 : Nat) (l0 : List Int) (r1 : List (S50)) (r2 : Int) (r3 : Int) (r4 : Int) (r5 : Int) (r6 : Int) (w : World) (hr0 : Kd.C (Kd.int .u8) w A0 l0.length l0) (hc0 : l0.length ≤ c0) (h : spec_DrawSpansPut.f k l0 = some (r1, r2, r3, r4, r5, r6)) :
  Calls Try.prog 41 #[.slice A0 l0.length c0] w fun e w' => ∃ v0_ : Value, e = .returned (.tuple #[v0_, .int .i64 r2, .agg #[.int .i64 r3, .int .i64 r4, .int .i64 r5, .int .i64 r6]]) ∧ Kd.R k50 50 w' w.heap.size (fun _ => True) v0_ r1 ∧ Below w.heap.size w w' := by
 have hu50 := Try.underlying50
 have HR0 := Aside0.mk hr0
 have HC0 := Aside0.mk hc0
 clear hr0 hc0
 have HB := Aside0.mk (Below.refl w.heap.size w)
 have H : ((spec_l1Open.f l0).bind fun bt287 => ((spec_l1Rd_pick.f k bt287.1 bt287.2 20).bind fun bt290 => ((spec_l1Rd_pick.f k bt287.1 bt290.2 (wrap64 (bt290.1 + 1))).bind fun bt292 => ((spec_l13AnySpans.f k bt287.1 bt292.2 bt290.1).bind fun bt294 => ((spec_l1Rd_pick.f k bt287.1 bt294.2 (wrap64 ((wrap64 (bt290.1 - bt292.1)) + 1))).bind fun bt298 => ((some (([10, 20, 0] : List Int) : List Int)).bind fun y300 => ((spec_l1Rd_pick.f k bt287.1 bt298.2 16).bind fun bt303 => (if 0 ≤ (wrap64 (Int.tdiv (wrap64 (bt303.1 * 3)) 16)) then (if (wrap64 (Int.tdiv (wrap64 (bt303.1 * 3)) 16)) < (y300.length : Int) then ((spec_l1Rd_pick.f k bt287.1 bt303.2 3).bind fun bt306 => (some (bt294.1, bt290.1, bt292.1, wrap64 ((wrap64 (bt292.1 + 1)) + bt298.1), rd y300 (wrap64 (Int.tdiv (wrap64 (bt303.1 * 3)) 16)), bt306.1))) else (none)) else (none))))))))) = some (r1, r2, r3, r4, r5, r6) := h
 clear h
 replace H := Option.bind_eq_some_iff.mp H
 obtain ⟨⟨t287, t288⟩, A20, H⟩ := H
 replace H : ((spec_l1Rd_pick.f k t287 t288 20).bind fun bt290 => ((spec_l1Rd_pick.f k t287 bt290.2 (wrap64 (bt290.1 + 1))).bind fun bt292 => ((spec_l13AnySpans.f k t287 bt292.2 bt290.1).bind fun bt294 => ((spec_l1Rd_pick.f k t287 bt294.2 (wrap64 ((wrap64 (bt290.1 - bt292.1)) + 1))).bind fun bt298 => ((some (([10, 20, 0] : List Int) : List Int)).bind fun y300 => ((spec_l1Rd_pick.f k t287 bt298.2 16).bind fun bt303 => (if 0 ≤ (wrap64 (Int.tdiv (wrap64 (bt303.1 * 3)) 16)) then (if (wrap64 (Int.tdiv (wrap64 (bt303.1 * 3)) 16)) < (y300.length : Int) then ((spec_l1Rd_pick.f k t287 bt303.2 3).bind fun bt306 => (some (bt294.1, bt290.1, bt292.1, wrap64 ((wrap64 (bt292.1 + 1)) + bt298.1), rd y300 (wrap64 (Int.tdiv (wrap64 (bt303.1 * 3)) 16)), bt306.1))) else (none)) else (none)))))))) = some (r1, r2, r3, r4, r5, r6) := H
 have A2 := Aside0.mk A20
 clear A20
 replace H := Option.bind_eq_some_iff.mp H
 obtain ⟨⟨t290, t291⟩, A30, H⟩ := H
 replace H : ((spec_l1Rd_pick.f k t287 t291 (wrap64 (t290 + 1))).bind fun bt292 => ((spec_l13AnySpans.f k t287 bt292.2 t290).bind fun bt294 => ((spec_l1Rd_pick.f k t287 bt294.2 (wrap64 ((wrap64 (t290 - bt292.1)) + 1))).bind fun bt298 => ((some (([10, 20, 0] : List Int) : List Int)).bind fun y300 => ((spec_l1Rd_pick.f k t287 bt298.2 16).bind fun bt303 => (if 0 ≤ (wrap64 (Int.tdiv (wrap64 (bt303.1 * 3)) 16)) then (if (wrap64 (Int.tdiv (wrap64 (bt303.1 * 3)) 16)) < (y300.length : Int) then ((spec_l1Rd_pick.f k t287 bt303.2 3).bind fun bt306 => (some (bt294.1, t290, bt292.1, wrap64 ((wrap64 (bt292.1 + 1)) + bt298.1), rd y300 (wrap64 (Int.tdiv (wrap64 (bt303.1 * 3)) 16)), bt306.1))) else (none)) else (none))))))) = some (r1, r2, r3, r4, r5, r6) := H
 have A3 := Aside0.mk A30
 clear A30
 replace H := Option.bind_eq_some_iff.mp H
 obtain ⟨⟨t292, t293⟩, A40, H⟩ := H
 replace H : ((spec_l13AnySpans.f k t287 t293 t290).bind fun bt294 => ((spec_l1Rd_pick.f k t287 bt294.2 (wrap64 ((wrap64 (t290 - t292)) + 1))).bind fun bt298 => ((some (([10, 20, 0] : List Int) : List Int)).bind fun y300 => ((spec_l1Rd_pick.f k t287 bt298.2 16).bind fun bt303 => (if 0 ≤ (wrap64 (Int.tdiv (wrap64 (bt303.1 * 3)) 16)) then (if (wrap64 (Int.tdiv (wrap64 (bt303.1 * 3)) 16)) < (y300.length : Int) then ((spec_l1Rd_pick.f k t287 bt303.2 3).bind fun bt306 => (some (bt294.1, t290, t292, wrap64 ((wrap64 (t292 + 1)) + bt298.1), rd y300 (wrap64 (Int.tdiv (wrap64 (bt303.1 * 3)) 16)), bt306.1))) else (none)) else (none)))))) = some (r1, r2, r3, r4, r5, r6) := H
 have A4 := Aside0.mk A40
 clear A40
 replace H := Option.bind_eq_some_iff.mp H
 obtain ⟨⟨t294, t297⟩, A50, H⟩ := H
 replace H : ((spec_l1Rd_pick.f k t287 t297 (wrap64 ((wrap64 (t290 - t292)) + 1))).bind fun bt298 => ((some (([10, 20, 0] : List Int) : List Int)).bind fun y300 => ((spec_l1Rd_pick.f k t287 bt298.2 16).bind fun bt303 => (if 0 ≤ (wrap64 (Int.tdiv (wrap64 (bt303.1 * 3)) 16)) then (if (wrap64 (Int.tdiv (wrap64 (bt303.1 * 3)) 16)) < (y300.length : Int) then ((spec_l1Rd_pick.f k t287 bt303.2 3).bind fun bt306 => (some (t294, t290, t292, wrap64 ((wrap64 (t292 + 1)) + bt298.1), rd y300 (wrap64 (Int.tdiv (wrap64 (bt303.1 * 3)) 16)), bt306.1))) else (none)) else (none))))) = some (r1, r2, r3, r4, r5, r6) := H
 have A5 := Aside0.mk A50
 clear A50
 replace H := Option.bind_eq_some_iff.mp H
 obtain ⟨⟨t298, t299⟩, A60, H⟩ := H
 replace H : ((some (([10, 20, 0] : List Int) : List Int)).bind fun y300 => ((spec_l1Rd_pick.f k t287 t299 16).bind fun bt303 => (if 0 ≤ (wrap64 (Int.tdiv (wrap64 (bt303.1 * 3)) 16)) then (if (wrap64 (Int.tdiv (wrap64 (bt303.1 * 3)) 16)) < (y300.length : Int) then ((spec_l1Rd_pick.f k t287 bt303.2 3).bind fun bt306 => (some (t294, t290, t292, wrap64 ((wrap64 (t292 + 1)) + t298), rd y300 (wrap64 (Int.tdiv (wrap64 (bt303.1 * 3)) 16)), bt306.1))) else (none)) else (none)))) = some (r1, r2, r3, r4, r5, r6) := H
 have A6 := Aside0.mk A60
 clear A60
 obtain ⟨y300, hy300⟩ : ∃ y_ : List Int, y_ = (([10, 20, 0] : List Int)) := ⟨_, rfl⟩
 replace H : ((spec_l1Rd_pick.f k t287 t299 16).bind fun bt303 => (if 0 ≤ (wrap64 (Int.tdiv (wrap64 (bt303.1 * 3)) 16)) then (if (wrap64 (Int.tdiv (wrap64 (bt303.1 * 3)) 16)) < (y300.length : Int) then ((spec_l1Rd_pick.f k t287 bt303.2 3).bind fun bt306 => (some (t294, t290, t292, wrap64 ((wrap64 (t292 + 1)) + t298), rd y300 (wrap64 (Int.tdiv (wrap64 (bt303.1 * 3)) 16)), bt306.1))) else (none)) else (none))) = some (r1, r2, r3, r4, r5, r6) := by first | (rw [hy300]; with_reducible exact H) | (have H2_ := (Option.bind_some _ _).symm.trans H; rw [hy300]; with_reducible exact H2_) | (have H2_ := (Option.bind_some _ _).symm.trans H; with_reducible exact H2_) | with_reducible exact H | (rw [hy300]; exact H) | exact H
 have Ny300 := Aside0.mk hy300
 clear hy300
 replace H := Option.bind_eq_some_iff.mp H
 obtain ⟨⟨t303, t304⟩, A70, H⟩ := H
 replace H : (if 0 ≤ (wrap64 (Int.tdiv (wrap64 (t303 * 3)) 16)) then (if (wrap64 (Int.tdiv (wrap64 (t303 * 3)) 16)) < (y300.length : Int) then ((spec_l1Rd_pick.f k t287 t304 3).bind fun bt306 => (some (t294, t290, t292, wrap64 ((wrap64 (t292 + 1)) + t298), rd y300 (wrap64 (Int.tdiv (wrap64 (t303 * 3)) 16)), bt306.1))) else (none)) else (none)) = some (r1, r2, r3, r4, r5, r6) := H
 have A7 := Aside0.mk A70
 clear A70
 obtain ⟨ji8, hji8⟩ : ∃ j_ : Int, (wrap64 (Int.tdiv (wrap64 (t303 * 3)) 16)) = j_ := ⟨_, rfl⟩
 replace H : (if 0 ≤ (ji8) then (if (ji8) < (y300.length : Int) then ((spec_l1Rd_pick.f k t287 t304 3).bind fun bt306 => (some (t294, t290, t292, wrap64 ((wrap64 (t292 + 1)) + t298), rd y300 (ji8), bt306.1))) else (none)) else (none)) = some (r1, r2, r3, r4, r5, r6) := by first | (rw [hji8] at H; exact H) | (simp only [hji8] at H ⊢; exact H)
 (try rw [hji8] at A2)
 (try rw [hji8] at A3)
 (try rw [hji8] at A4)
 (try rw [hji8] at A5)
 (try rw [hji8] at A6)
 (try rw [hji8] at A7)
 have hji8w : (IntKind.i64.wrap (Int.tdiv (wrap64 (t303 * 3)) 16)) = ji8 := (i64_w _).trans hji8
 by_cases c9 : 0 ≤ (ji8)
 ·rw [if_pos c9] at H
  have c9b0 : decide (0 ≤ (ji8)) = true := decide_eq_true c9
  clear c9
  by_cases c10 : (ji8) < (y300.length : Int)
  ·rw [if_pos c10] at H
   have c10b0 : decide ((ji8) < (y300.length : Int)) = true := decide_eq_true c10
   clear c10
   replace H := Option.bind_eq_some_iff.mp H
   obtain ⟨⟨t306, t307⟩, A110, H⟩ := H
   replace H : (some (t294, t290, t292, wrap64 ((wrap64 (t292 + 1)) + t298), rd y300 (ji8), t306)) = some (r1, r2, r3, r4, r5, r6) := H
   have A11 := Aside0.mk A110
   clear A110
   simp only [Option.some.injEq, Prod.mk.injEq] at H
   obtain ⟨rfl, rfl, rfl, rfl, rfl, rfl⟩ := H
   go_enter Try.func41, Try.ntmps41
   try go_wp2_with (first | ((with_reducible refine gate_dst (N := 4) rfl ?_); refine box_event ?hg (N := 4) ?hd (cs := #[.int .i64 0, .int .i64 0, .int .i64 0, .int .i64 0]) (t := 50) ?hr ?_; (case hd => rfl); (case hg => rfl); (case hr => first | (go_simp; done) | (go_simp; rfl)); intro gb286 hg w12 hbox hb; have n0_ := Aside0.mk (below_step (by repeat (first | (with_reducible first | exact HB.out | apply below_alloc | apply pw_below_drewN | apply below_drew1) | exact HB.out)) hb); have n1_ := Aside0.mk (hbox); have n2_ := Aside0.mk ((by rw [hg]; exact (below_size (by repeat (first | (with_reducible first | exact HB.out | apply below_alloc | apply pw_below_drewN | apply below_drew1) | exact HB.out))) : w.heap.size ≤ gb286)); have n3_ := Aside0.mk ((by rw [hg]; exact (below_size (by repeat (first | (with_reducible first | exact HB.out | apply below_alloc | apply pw_below_drewN | apply below_drew1) | exact HB.out))) : w.heap.size ≤ gb286)); clear HB; have HB := n0_; have BK286 := n1_; have GW286 := n2_; have GE286 := n3_; clear n0_ n1_ n2_ n3_; clear hb hbox hg) | ((with_reducible refine gate_callee (f := 59) rfl ?_); refine goesL_ (some 9) rfl rfl Try.func59 (by kernel_rfl) rfl #[.slice A0 l0.length c0] rfl (by (try simp only [List.map_toArray, List.map_cons, List.map_nil]); first | done | rfl | (simp only [List.length_drop, List.length_take]; rfl)) ?_; (with_reducible refine (spec_l1Open.calls _ _ l0 t287 t288 w _ ?side1 ?side2 ?side3 A2.out).mono ?_); (case side1 => repeat (first | (with_reducible first | exact HB.out | apply below_alloc | apply pw_below_drewN | apply below_drew1 | refine below_set ?_ GE286.out) | exact HB.out)); (case side2 => exact HR0.out); (case side3 => exact HC0.out); rintro e w13 ⟨g289, rfl, hi, hb, hb2⟩; refine ⟨_, rfl, ?_⟩; have n0_ := Aside0.mk (blk_below (g := gb286) (o := .cells #[.int .i64 0, .int .i64 0, .int .i64 0, .int .i64 0] 50 (0, 0)) (by (with_reducible repeat (first | refine blk_drewN ?_ _ | refine blk_drew ?_ | refine blk_alloc ?_ _)); exact BK286.out) hb2); have n1_ := Aside0.mk (hb); have n2_ := Aside0.mk (hi); have n3_ := Aside0.mk (IsS95.ne_blk hi (blk_below (g := gb286) (o := .cells #[.int .i64 0, .int .i64 0, .int .i64 0, .int .i64 0] 50 (0, 0)) (by (with_reducible repeat (first | refine blk_drewN ?_ _ | refine blk_drew ?_ | refine blk_alloc ?_ _)); exact BK286.out) hb2) (by decide)); have n4_ := Aside0.mk (Ne.symm (IsS95.ne_blk hi (blk_below (g := gb286) (o := .cells #[.int .i64 0, .int .i64 0, .int .i64 0, .int .i64 0] 50 (0, 0)) (by (with_reducible repeat (first | refine blk_drewN ?_ _ | refine blk_drew ?_ | refine blk_alloc ?_ _)); exact BK286.out) hb2) (by decide))); clear BK286; clear HB; have BK286 := n0_; have HB := n1_; have HI289 := n2_; have NB289_286 := n3_; have NB286_289 := n4_; clear n0_ n1_ n2_ n3_ n4_; (try clear hb); (try clear hb2); (try clear hk); (try clear hi)) | ((with_reducible refine gate_callee (f := 61) rfl ?_); refine goesL_ (some 11) rfl rfl Try.func61 (by kernel_rfl) rfl #[.pointer (some ⟨g289, 0, none⟩), .int .i64 20] rfl (by (try simp only [List.map_toArray, List.map_cons, List.map_nil]); first | done | rfl | (simp only [List.length_drop, List.length_take]; rfl)) ?_; (with_reducible refine (spec_l1Rd_pick.calls k g289 t287 t288 20 t290 t291 w _ ?side1 ?side2 A3.out).mono ?_); (case side1 => repeat (first | (with_reducible first | exact HI289.out | apply IsS95.alloc | apply IsS95.drewN | apply IsS95.drew | apply IsS95.set_1 | refine IsS95.far ?_ NB289_286.out _) | exact HI289.out)); (case side2 => repeat (first | (with_reducible first | exact HB.out | apply below_alloc | apply pw_below_drewN | apply below_drew1 | refine below_set ?_ (IsS95.ge HI289.out) | refine below_set ?_ GE286.out) | exact HB.out)); rintro e w14 ⟨rfl, hi, hb, hk⟩; refine ⟨_, rfl, ?_⟩; have n0_ := Aside0.mk (KeepBut.blk hk (g' := gb286) (o := .cells #[.int .i64 0, .int .i64 0, .int .i64 0, .int .i64 0] 50 (0, 0)) (by (with_reducible repeat (first | refine blk_drewN ?_ _ | refine blk_drew ?_ | refine blk_alloc ?_ _)); exact BK286.out) NB286_289.out (by simp)); have n1_ := Aside0.mk (hb); have n2_ := Aside0.mk (hi); clear BK286; clear HB; clear HI289; have BK286 := n0_; have HB := n1_; have HI289 := n2_; clear n0_ n1_ n2_; (try clear hb); (try clear hb2); (try clear hk); (try clear hi)) | ((with_reducible refine gate_callee (f := 61) rfl ?_); refine goesL_ (some 15) rfl rfl Try.func61 (by kernel_rfl) rfl #[.pointer (some ⟨g289, 0, none⟩), .int .i64 (wrap64 (t290 + 1))] rfl (by (try simp only [List.map_toArray, List.map_cons, List.map_nil]); first | done | rfl | (simp only [List.length_drop, List.length_take]; rfl)) ?_; (with_reducible refine (spec_l1Rd_pick.calls k g289 t287 t291 (wrap64 (t290 + 1)) t292 t293 w _ ?side1 ?side2 A4.out).mono ?_); (case side1 => repeat (first | (with_reducible first | exact HI289.out | apply IsS95.alloc | apply IsS95.drewN | apply IsS95.drew | apply IsS95.set_1 | refine IsS95.far ?_ NB289_286.out _) | exact HI289.out)); (case side2 => repeat (first | (with_reducible first | exact HB.out | apply below_alloc | apply pw_below_drewN | apply below_drew1 | refine below_set ?_ (IsS95.ge HI289.out) | refine below_set ?_ GE286.out) | exact HB.out)); rintro e w15 ⟨rfl, hi, hb, hk⟩; refine ⟨_, rfl, ?_⟩; have n0_ := Aside0.mk (KeepBut.blk hk (g' := gb286) (o := .cells #[.int .i64 0, .int .i64 0, .int .i64 0, .int .i64 0] 50 (0, 0)) (by (with_reducible repeat (first | refine blk_drewN ?_ _ | refine blk_drew ?_ | refine blk_alloc ?_ _)); exact BK286.out) NB286_289.out (by simp)); have n1_ := Aside0.mk (hb); have n2_ := Aside0.mk (hi); clear BK286; clear HB; clear HI289; have BK286 := n0_; have HB := n1_; have HI289 := n2_; clear n0_ n1_ n2_; (try clear hb); (try clear hb2); (try clear hk); (try clear hi)))
   have pi305 : (0 ≤ ((ji8) : Int)) = True := eq_true (of_decide_eq_true (by first | (with_reducible assumption) | assumption))
   have qi305 : ((ji8) < (y300.length : Int)) = True := eq_true (of_decide_eq_true (by first | (with_reducible assumption) | assumption))
   have n0_ := Aside0.mk (blk_drew BK286.out)
   have n1_ := Aside0.mk (IsS95.drew HI289.out)
   have n2_ := Aside0.mk (below_drew1 HB.out)
   clear BK286
   clear HI289
   clear HB
   have BK286 := n0_
   have HI289 := n1_
   have HB := n2_
   clear n0_ n1_ n2_
   refine start_ (n := 27) (S := fun w' => True) (ds := []) #[false, false, false, false, false, false, false, false, false, false, false, false, false, false, false, false, false, false, false, false, false, false, false, false, false, false, false] (by kernel_rfl) rfl rfl trivial (fun hHeld => ?_); refine with_tabW spec_DrawSpansPut.tab4 spec_DrawSpansPut.bits4 (fun HT_ HW_ => ?_)
   generalize w15.drew = w16 at BK286 HI289 HB hHeld ⊢
   refine pure_ (i := 0) (N := some 16) (v := ?_) (a' := ?_) #[true, false, false, false, false, false, false, false, false, false, false, false, false, false, false, false, false, false, false, false, false, false, false, false, false, false, false] rfl rfl (any_of HT_.out (by kernel_rfl)) (fun _ _ _ h => h) (Or.inl ⟨by rfl, ?_⟩) ?_ ?_
   rotate_left
   ·intro w'
    go_simp
    with_reducible rfl
   rotate_left
   ·simp only [Act.put, List.setIfInBounds_toArray, List.set_cons_zero, List.set_cons_succ, i64_w, i32_w]
    rfl
   refine pure_ (i := 1) (N := some 17) (v := ?_) (a' := ?_) #[true, true, false, false, false, false, false, false, false, false, false, false, false, false, false, false, false, false, false, false, false, false, false, false, false, false, false] rfl rfl (any_of HT_.out (by kernel_rfl)) (fun _ _ _ h => h) (Or.inl ⟨by rfl, ?_⟩) ?_ ?_
   rotate_left
   ·intro w'
    go_simp
    with_reducible rfl
   rotate_left
   ·simp only [Act.put, List.setIfInBounds_toArray, List.set_cons_zero, List.set_cons_succ, i64_w, i32_w]
    rfl
   refine pure_ (i := 3) (N := some 19) (v := ?_) (a' := ?_) #[true, true, false, true, false, false, false, false, false, false, false, false, false, false, false, false, false, false, false, false, false, false, false, false, false, false, false] rfl rfl (any_of HT_.out (by kernel_rfl)) (fun _ _ _ h => h) (Or.inl ⟨by rfl, ?_⟩) ?_ ?_
   rotate_left
   ·intro w'
    go_simp
    with_reducible rfl
   rotate_left
   ·simp only [Act.put, List.setIfInBounds_toArray, List.set_cons_zero, List.set_cons_succ, i64_w, i32_w]
    rfl
   refine pure_ (i := 4) (N := some 20) (v := ?_) (a' := ?_) #[true, true, false, true, true, false, false, false, false, false, false, false, false, false, false, false, false, false, false, false, false, false, false, false, false, false, false] rfl rfl (any_of HT_.out (by kernel_rfl)) (fun _ _ _ h => h) (Or.inl ⟨by rfl, ?_⟩) ?_ ?_
   rotate_left
   ·intro w'
    go_simp
    with_reducible rfl
   rotate_left
   ·simp only [Act.put, List.setIfInBounds_toArray, List.set_cons_zero, List.set_cons_succ, i64_w, i32_w]
    rfl
   refine pure_ (i := 5) (N := some 21) (v := ?_) (a' := ?_) #[true, true, false, true, true, true, false, false, false, false, false, false, false, false, false, false, false, false, false, false, false, false, false, false, false, false, false] rfl rfl (any_of HT_.out (by kernel_rfl)) (fun _ _ _ h => h) (Or.inl ⟨by rfl, ?_⟩) ?_ ?_
   rotate_left
   ·intro w'
    go_simp
    with_reducible rfl
   rotate_left
   ·simp only [Act.put, List.setIfInBounds_toArray, List.set_cons_zero, List.set_cons_succ, i64_w, i32_w]
    rfl
   refine pure_ (i := 7) (N := some 23) (v := ?_) (a' := ?_) #[true, true, false, true, true, true, false, true, false, false, false, false, false, false, false, false, false, false, false, false, false, false, false, false, false, false, false] rfl rfl (any_of HT_.out (by kernel_rfl)) (fun _ _ _ h => h) (Or.inl ⟨by rfl, ?_⟩) ?_ ?_
   rotate_left
   ·intro w'
    go_simp
    with_reducible rfl
   rotate_left
   ·simp only [Act.put, List.setIfInBounds_toArray, List.set_cons_zero, List.set_cons_succ, i64_w, i32_w]
    rfl
   refine pure_ (i := 8) (N := some 24) (v := ?_) (a' := ?_) #[true, true, false, true, true, true, false, true, true, false, false, false, false, false, false, false, false, false, false, false, false, false, false, false, false, false, false] rfl rfl (any_of HT_.out (by kernel_rfl)) (fun _ _ _ h => h) (Or.inl ⟨by rfl, ?_⟩) ?_ ?_
   rotate_left
   ·intro w'
    go_simp
    with_reducible rfl
   rotate_left
   ·simp only [Act.put, List.setIfInBounds_toArray, List.set_cons_zero, List.set_cons_succ, i64_w, i32_w]
    rfl
   refine pure_ (i := 9) (N := some 25) (v := ?_) (a' := ?_) #[true, true, false, true, true, true, false, true, true, true, false, false, false, false, false, false, false, false, false, false, false, false, false, false, false, false, false] rfl rfl (any_of HT_.out (by kernel_rfl)) (fun _ _ _ h => h) (Or.inl ⟨by rfl, ?_⟩) ?_ ?_
   rotate_left
   ·intro w'
    go_simp
    with_reducible rfl
   rotate_left
   ·simp only [Act.put, List.setIfInBounds_toArray, List.set_cons_zero, List.set_cons_succ, i64_w, i32_w]
    rfl
   refine pure_ (i := 15) (N := some 31) (v := ?_) (a' := ?_) #[true, true, false, true, true, true, false, true, true, true, false, false, false, false, false, true, false, false, false, false, false, false, false, false, false, false, false] rfl rfl (any_of HT_.out (by kernel_rfl)) (fun _ _ _ h => h) (Or.inl ⟨by rfl, ?_⟩) ?_ ?_
   rotate_left
   ·intro w'
    go_simp
    with_reducible rfl
   rotate_left
   ·simp only [Act.put, List.setIfInBounds_toArray, List.set_cons_zero, List.set_cons_succ, i64_w, i32_w]
    rfl
   refine pure_ (i := 21) (N := some 37) (v := ?_) (a' := ?_) #[true, true, false, true, true, true, false, true, true, true, false, false, false, false, false, true, false, false, false, false, false, true, false, false, false, false, false] rfl rfl (any_of HT_.out (by kernel_rfl)) (fun _ _ _ h => h) (Or.inl ⟨by rfl, ?_⟩) ?_ ?_
   rotate_left
   ·intro w'
    go_simp
    with_reducible rfl
   rotate_left
   ·simp only [Act.put, List.setIfInBounds_toArray, List.set_cons_zero, List.set_cons_succ, i64_w, i32_w]
    rfl
   refine inv_at [2, 6, 10, 11, 12, 13, 14, 16, 17, 18, 19, 20, 22, 23, 24, 25, 26] (fun a0_ b a w' => ∃ (v295 : Value) (v301 : Value) (adz_v301 : Addr) (m19_ : Value) (m24_ : Value), a = putSel a0_ b [(2, 18, v295), (6, 22, .int .i64 (wrap64 (t292 + 1))), (10, 26, .int .i64 (wrap64 (t290 - t292))), (11, 27, .int .i64 (wrap64 ((wrap64 (t290 - t292)) + 1))), (12, 28, .int .i64 t298), (13, 29, .int .i64 (wrap64 ((wrap64 (t292 + 1)) + t298))), (14, 30, v301), (16, 32, .int .i64 t303), (17, 33, .int .i64 (wrap64 (t303 * 3))), (18, 34, .int .i64 ji8), (19, 35, m19_), (20, 36, .int .i64 (rd y300 (ji8))), (22, 38, .int .i64 t306), (23, 39, .agg #[.int .i64 t292, .int .i64 (wrap64 ((wrap64 (t292 + 1)) + t298)), .int .i64 (rd y300 (ji8)), .int .i64 t306]), (24, 2, m24_), (25, 3, .int .i64 t290)] ∧ (b 26 = false → w'.heap[gb286]? = some (.cells #[.int .i64 0, .int .i64 0, .int .i64 0, .int .i64 0] 50 (0, 0))) ∧ (b 2 = false → IsS95 w w' g289 t287 t293) ∧ (Below w.heap.size w w') ∧ (b 2 = true → Kd.R k50 50 w' w.heap.size (fun k_ => k_ ≠ gb286) v295 t294) ∧ (b 2 = true → b 12 = false → IsS95 w w' g289 t287 t297) ∧ (b 12 = true → b 16 = false → IsS95 w w' g289 t287 t299) ∧ (b 14 = true → Kd.R (Kd.int .i64) 3 w' w.heap.size (fun _ => True) v301 y300) ∧ (b 14 = true → ∃ c_, (v301 : Value) = .slice (some adz_v301) y300.length c_) ∧ (b 16 = true → b 22 = false → IsS95 w w' g289 t287 t304) ∧ (b 22 = true → IsS95 w w' g289 t287 t307) ∧ (b 26 = true → w'.heap[gb286]? = some (.cells #[.int .i64 t292, .int .i64 (wrap64 ((wrap64 (t292 + 1)) + t298)), .int .i64 (rd y300 (ji8)), .int .i64 t306] 50 (0, 0))) ∧ (b 19 = true → (m19_ : Value) = .pointer (some (adz_v301.add ((ji8)).toNat))) ∧ (b 24 = true → (m24_ : Value) = v295)) HT_.out HW_.out (by kernel_rfl) (by kernel_rfl) ?_ ?_ ?_
   ·exact ⟨.bool false, .bool false, ⟨0, 0, none⟩, .bool false, .bool false, by simp only [putSel, Bool.false_eq_true, if_false], fun _ => BK286.out, fun _ => HI289.out, HB.out, fun h_ => absurd h_ (by decide), fun h_ => absurd h_ (by decide), fun h_ => absurd h_ (by decide), fun h_ => absurd h_ (by decide), fun h_ => absurd h_ (by decide), fun h_ => absurd h_ (by decide), fun h_ => absurd h_ (by decide), fun h_ => absurd h_ (by decide), fun h_ => absurd h_ (by decide), fun h_ => absurd h_ (by decide)⟩
   ·skip
    clear BK286 HB HI289
    refine steps_cons ?_ ?_
    ·rintro b a w' ⟨v295, v301, adz_v301, m19_, m24_, ha, Q_BK286, Q_HI289, Q_HB, Q_HO296, Q_HI289_e2, Q_HI289_e12, Q_HO302, Q_HA_HO302, Q_HI289_e16, Q_HI289_e22, Q_BK286_e26, Q_X19_, Q_X24_⟩ hb_ hon hoff
     refine ⟨_, rfl, fun K hK => ?_⟩
     have e16 : a.tmps[16]? = some (.pointer (some ⟨g289, 0, none⟩)) := by rw [ha]; exact (putSel_off rfl).trans rfl
     have e17 : a.tmps[17]? = some (.int .i64 t290) := by rw [ha]; exact (putSel_off rfl).trans rfl
     replace ha := Aside0.mk ha
     have BK286 := Aside0.mk (Q_BK286 (hoff 26 (by kernel_rfl)))
     have HI289 := Aside0.mk (Q_HI289 hb_)
     have HB := Aside0.mk Q_HB
     refine goes_ Try.func74 (by kernel_rfl) rfl #[.pointer (some ⟨g289, 0, none⟩), .int .i64 t290] (by rfl) rfl rfl (by first | (simp only [List.map_toArray, List.map_cons, List.map_nil, Act.eval, Array.getD_eq_getD_getElem?, Option.getD_some, e16, e17]; done) | (simp only [List.map_toArray, List.map_cons, List.map_nil, Act.eval, Array.getD_eq_getD_getElem?, Option.getD_some, e16, e17]; rfl)) ?_
     with_reducible refine (spec_l13AnySpans.calls k g289 t287 t293 t290 t294 t297 w _ ?side1 ?side2 A5.out).mono ?_
     (case side1 => repeat (first | (with_reducible first | exact HI289.out | apply IsS95.alloc | apply IsS95.drewN | apply IsS95.drew | apply IsS95.set_1 | refine IsS95.far ?_ NB289_286.out _) | exact HI289.out))
     (case side2 => repeat (first | (with_reducible first | exact HB.out | apply below_alloc | apply pw_below_drewN | apply below_drew1 | refine below_set ?_ (IsS95.ge HI289.out) | refine below_set ?_ GE286.out) | exact HB.out))
     rintro e w17 ⟨v295, rfl, ho0, hi, hb, hk⟩
     refine ⟨_, rfl, ?_⟩
     have n0_ := Aside0.mk (KeepBut.blk hk (g' := gb286) (o := .cells #[.int .i64 0, .int .i64 0, .int .i64 0, .int .i64 0] 50 (0, 0)) (by (with_reducible repeat (first | refine blk_drewN ?_ _ | refine blk_drew ?_ | refine blk_alloc ?_ _)); exact BK286.out) NB286_289.out (by simp))
     have n1_ := Aside0.mk (Kd.R_lower (Kd.R_newB ho0 (g := gb286) (o := .cells #[.int .i64 0, .int .i64 0, .int .i64 0, .int .i64 0] 50 (0, 0)) (by (with_reducible repeat (first | refine blk_drewN ?_ _ | refine blk_drew ?_ | refine blk_alloc ?_ _)); exact BK286.out)) (below_size (by repeat (first | (with_reducible first | exact HB.out | apply below_alloc | apply pw_below_drewN | apply below_drew1 | refine below_set ?_ (IsS95.ge HI289.out) | refine below_set ?_ GE286.out) | exact HB.out))))
     have n2_ := Aside0.mk (hb)
     have n3_ := Aside0.mk (hi)
     have z_HO302 := fun (h0_ : b 14 = true) => (show Kd.R (Kd.int .i64) 3 w17 w.heap.size (fun _ => True) v301 y300 from by first | exact (Kd.R_mono (Kd.R_keep (IsS95.apart (show IsS95 w _ g289 t287 t293 from by repeat (first | (with_reducible first | exact HI289.out | apply IsS95.alloc | apply IsS95.drewN | apply IsS95.drew | apply IsS95.set_1 | refine IsS95.far ?_ NB289_286.out _) | exact HI289.out)) (by (with_reducible repeat (first | apply Kd.R_alloc | apply Kd.R_drewN | apply Kd.R_drew)); exact (Q_HO302 h0_)) (by decide)) hk (fun _ h => h.2)) (fun _ h => h.1)) | exact Kd.R_mono (Kd.R_mono (Kd.R_keep (IsS95.apart (show IsS95 w _ g289 t287 t293 from by repeat (first | (with_reducible first | exact HI289.out | apply IsS95.alloc | apply IsS95.drewN | apply IsS95.drew | apply IsS95.set_1 | refine IsS95.far ?_ NB289_286.out _) | exact HI289.out)) (by (with_reducible repeat (first | apply Kd.R_alloc | apply Kd.R_drewN | apply Kd.R_drew)); exact (Q_HO302 h0_)) (by decide)) hk (fun _ h => h.2)) (fun _ h => h.1)) (fun _ h_ => by first | trivial | exact h_ | exact h_.1))
     clear BK286
     clear HB
     clear HI289
     have BK286 := n0_
     have HO296 := n1_
     have HB := n2_
     have HI289 := n3_
     clear n0_ n1_ n2_ n3_
     (try clear hb)
     (try clear hb2)
     (try clear hk)
     (try clear hi)
     (try clear ho0)
     refine hK.out _ _ ⟨v295, v301, adz_v301, m19_, m24_, (by rw [ha.out]; exact putSel_upk 0 hb_ rfl rfl rfl), fun _ => (by (with_reducible repeat (first | refine blk_drewN ?_ _ | refine blk_drew ?_ | refine blk_alloc ?_ _)); exact BK286.out), fun h0_ => absurd ((up_self b 2).symm.trans h0_) (by decide), (by repeat (first | (with_reducible first | exact HB.out | apply below_alloc | apply pw_below_drewN | apply below_drew1 | refine below_set ?_ (IsS95.ge HI289.out) | refine below_set ?_ GE286.out) | exact HB.out)), fun _ => (by (with_reducible repeat (first | apply Kd.R_alloc | apply Kd.R_drewN | apply Kd.R_drew)); exact Kd.R_mono HO296.out (fun _ hk => hk.2)), fun _ _ => (by repeat (first | (with_reducible first | exact HI289.out | apply IsS95.alloc | apply IsS95.drewN | apply IsS95.drew | apply IsS95.set_1 | refine IsS95.far ?_ NB289_286.out _) | exact HI289.out)), fun h0_ _ => absurd ((hoff 12 (by kernel_rfl)).symm.trans h0_) (by decide), z_HO302, Q_HA_HO302, fun h0_ _ => absurd ((hoff 16 (by kernel_rfl)).symm.trans h0_) (by decide), fun h0_ => absurd ((hoff 22 (by kernel_rfl)).symm.trans h0_) (by decide), fun h0_ => absurd ((hoff 26 (by kernel_rfl)).symm.trans h0_) (by decide), fun h0_ => absurd ((hoff 19 (by kernel_rfl)).symm.trans h0_) (by decide), fun h0_ => absurd ((hoff 24 (by kernel_rfl)).symm.trans h0_) (by decide)⟩
    refine steps_cons ?_ ?_
    ·rintro b a w' ⟨v295, v301, adz_v301, m19_, m24_, ha, Q_BK286, Q_HI289, Q_HB, Q_HO296, Q_HI289_e2, Q_HI289_e12, Q_HO302, Q_HA_HO302, Q_HI289_e16, Q_HI289_e22, Q_BK286_e26, Q_X19_, Q_X24_⟩ hb_ hon hoff
     refine ⟨_, rfl, fun K hK => ?_⟩
     have e21 : a.tmps[21]? = some (.int .i64 t292) := by rw [ha]; exact (putSel_off rfl).trans rfl
     replace ha := Aside0.mk ha
     have BK286 := Aside0.mk (Q_BK286 (hoff 26 (by kernel_rfl)))
     have HB := Aside0.mk Q_HB
     refine value_ (w1 := w') (v := .int .i64 (wrap64 (t292 + 1))) (by rfl) rfl ?_ ?_
     ·go_simp
      (try simp only [i64_w])
      try rfl
     refine hK.out _ _ ⟨v295, v301, adz_v301, m19_, m24_, (by rw [ha.out]; exact putSel_upk 1 hb_ rfl rfl rfl), Q_BK286, Q_HI289, Q_HB, Q_HO296, Q_HI289_e2, Q_HI289_e12, Q_HO302, Q_HA_HO302, Q_HI289_e16, Q_HI289_e22, fun h0_ => absurd ((hoff 26 (by kernel_rfl)).symm.trans h0_) (by decide), Q_X19_, Q_X24_⟩
    refine steps_cons ?_ ?_
    ·rintro b a w' ⟨v295, v301, adz_v301, m19_, m24_, ha, Q_BK286, Q_HI289, Q_HB, Q_HO296, Q_HI289_e2, Q_HI289_e12, Q_HO302, Q_HA_HO302, Q_HI289_e16, Q_HI289_e22, Q_BK286_e26, Q_X19_, Q_X24_⟩ hb_ hon hoff
     refine ⟨_, rfl, fun K hK => ?_⟩
     have e24 : a.tmps[24]? = some (.int .i64 t290) := by rw [ha]; exact (putSel_off rfl).trans rfl
     have e25 : a.tmps[25]? = some (.int .i64 t292) := by rw [ha]; exact (putSel_off rfl).trans rfl
     replace ha := Aside0.mk ha
     have BK286 := Aside0.mk (Q_BK286 (hoff 26 (by kernel_rfl)))
     have HB := Aside0.mk Q_HB
     refine value_ (w1 := w') (v := .int .i64 (wrap64 (t290 - t292))) (by rfl) rfl ?_ ?_
     ·go_simp
      (try simp only [i64_w])
      try rfl
     refine hK.out _ _ ⟨v295, v301, adz_v301, m19_, m24_, (by rw [ha.out]; exact putSel_upk 2 hb_ rfl rfl rfl), Q_BK286, Q_HI289, Q_HB, Q_HO296, Q_HI289_e2, fun h0_ _ => absurd ((hoff 12 (by kernel_rfl)).symm.trans h0_) (by decide), Q_HO302, Q_HA_HO302, fun h0_ _ => absurd ((hoff 16 (by kernel_rfl)).symm.trans h0_) (by decide), fun h0_ => absurd ((hoff 22 (by kernel_rfl)).symm.trans h0_) (by decide), fun h0_ => absurd ((hoff 26 (by kernel_rfl)).symm.trans h0_) (by decide), fun h0_ => absurd ((hoff 19 (by kernel_rfl)).symm.trans h0_) (by decide), fun h0_ => absurd ((hoff 24 (by kernel_rfl)).symm.trans h0_) (by decide)⟩
    refine steps_cons ?_ ?_
    ·rintro b a w' ⟨v295, v301, adz_v301, m19_, m24_, ha, Q_BK286, Q_HI289, Q_HB, Q_HO296, Q_HI289_e2, Q_HI289_e12, Q_HO302, Q_HA_HO302, Q_HI289_e16, Q_HI289_e22, Q_BK286_e26, Q_X19_, Q_X24_⟩ hb_ hon hoff
     refine ⟨_, rfl, fun K hK => ?_⟩
     have e26 : a.tmps[26]? = some (.int .i64 (wrap64 (t290 - t292))) := by rw [ha]; exact putSel_on (e := (10, 26, .int .i64 (wrap64 (t290 - t292)))) 2 rfl rfl (hon 10 (by kernel_rfl)) rfl
     replace ha := Aside0.mk ha
     have BK286 := Aside0.mk (Q_BK286 (hoff 26 (by kernel_rfl)))
     have HB := Aside0.mk Q_HB
     refine value_ (w1 := w') (v := .int .i64 (wrap64 ((wrap64 (t290 - t292)) + 1))) (by rfl) rfl ?_ ?_
     ·go_simp
      (try simp only [i64_w])
      try rfl
     refine hK.out _ _ ⟨v295, v301, adz_v301, m19_, m24_, (by rw [ha.out]; exact putSel_upk 3 hb_ rfl rfl rfl), Q_BK286, Q_HI289, Q_HB, Q_HO296, Q_HI289_e2, fun h0_ _ => absurd ((hoff 12 (by kernel_rfl)).symm.trans h0_) (by decide), Q_HO302, Q_HA_HO302, fun h0_ _ => absurd ((hoff 16 (by kernel_rfl)).symm.trans h0_) (by decide), fun h0_ => absurd ((hoff 22 (by kernel_rfl)).symm.trans h0_) (by decide), fun h0_ => absurd ((hoff 26 (by kernel_rfl)).symm.trans h0_) (by decide), fun h0_ => absurd ((hoff 19 (by kernel_rfl)).symm.trans h0_) (by decide), fun h0_ => absurd ((hoff 24 (by kernel_rfl)).symm.trans h0_) (by decide)⟩
    refine steps_cons ?_ ?_
    ·rintro b a w' ⟨v295, v301, adz_v301, m19_, m24_, ha, Q_BK286, Q_HI289, Q_HB, Q_HO296, Q_HI289_e2, Q_HI289_e12, Q_HO302, Q_HA_HO302, Q_HI289_e16, Q_HI289_e22, Q_BK286_e26, Q_X19_, Q_X24_⟩ hb_ hon hoff
     refine ⟨_, rfl, fun K hK => ?_⟩
     have e23 : a.tmps[23]? = some (.pointer (some ⟨g289, 0, none⟩)) := by rw [ha]; exact (putSel_off rfl).trans rfl
     have e27 : a.tmps[27]? = some (.int .i64 (wrap64 ((wrap64 (t290 - t292)) + 1))) := by rw [ha]; exact putSel_on (e := (11, 27, .int .i64 (wrap64 ((wrap64 (t290 - t292)) + 1)))) 3 rfl rfl (hon 11 (by kernel_rfl)) rfl
     replace ha := Aside0.mk ha
     have BK286 := Aside0.mk (Q_BK286 (hoff 26 (by kernel_rfl)))
     have HB := Aside0.mk Q_HB
     have HO296 := Aside0.mk (Q_HO296 (hon 2 (by kernel_rfl)))
     have HI289 := Aside0.mk (Q_HI289_e2 (hon 2 (by kernel_rfl)) hb_)
     refine goes_ Try.func61 (by kernel_rfl) rfl #[.pointer (some ⟨g289, 0, none⟩), .int .i64 (wrap64 ((wrap64 (t290 - t292)) + 1))] (by rfl) rfl rfl (by first | (simp only [List.map_toArray, List.map_cons, List.map_nil, Act.eval, Array.getD_eq_getD_getElem?, Option.getD_some, e23, e27]; done) | (simp only [List.map_toArray, List.map_cons, List.map_nil, Act.eval, Array.getD_eq_getD_getElem?, Option.getD_some, e23, e27]; rfl)) ?_
     with_reducible refine (spec_l1Rd_pick.calls k g289 t287 t297 (wrap64 ((wrap64 (t290 - t292)) + 1)) t298 t299 w _ ?side1 ?side2 A6.out).mono ?_
     (case side1 => repeat (first | (with_reducible first | exact HI289.out | apply IsS95.alloc | apply IsS95.drewN | apply IsS95.drew | apply IsS95.set_1 | refine IsS95.far ?_ NB289_286.out _) | exact HI289.out))
     (case side2 => repeat (first | (with_reducible first | exact HB.out | apply below_alloc | apply pw_below_drewN | apply below_drew1 | refine below_set ?_ (IsS95.ge HI289.out) | refine below_set ?_ GE286.out) | exact HB.out))
     rintro e w19 ⟨rfl, hi, hb, hk⟩
     refine ⟨_, rfl, ?_⟩
     have n0_ := Aside0.mk (KeepBut.blk hk (g' := gb286) (o := .cells #[.int .i64 0, .int .i64 0, .int .i64 0, .int .i64 0] 50 (0, 0)) (by (with_reducible repeat (first | refine blk_drewN ?_ _ | refine blk_drew ?_ | refine blk_alloc ?_ _)); exact BK286.out) NB286_289.out (by simp))
     have n1_ := Aside0.mk (Kd.R_mono (Kd.R_keep (IsS95.apart (show IsS95 w _ g289 t287 t297 from by repeat (first | (with_reducible first | exact HI289.out | apply IsS95.alloc | apply IsS95.drewN | apply IsS95.drew | apply IsS95.set_1 | refine IsS95.far ?_ NB289_286.out _) | exact HI289.out)) (by (with_reducible repeat (first | apply Kd.R_alloc | apply Kd.R_drewN | apply Kd.R_drew)); exact HO296.out) (by decide)) hk (fun _ h => h.2)) (fun _ h => h.1))
     have n2_ := Aside0.mk (hb)
     have n3_ := Aside0.mk (hi)
     have z_HO302 := fun (h0_ : b 14 = true) => (show Kd.R (Kd.int .i64) 3 w19 w.heap.size (fun _ => True) v301 y300 from by first | exact (Kd.R_mono (Kd.R_keep (IsS95.apart (show IsS95 w _ g289 t287 t297 from by repeat (first | (with_reducible first | exact HI289.out | apply IsS95.alloc | apply IsS95.drewN | apply IsS95.drew | apply IsS95.set_1 | refine IsS95.far ?_ NB289_286.out _) | exact HI289.out)) (by (with_reducible repeat (first | apply Kd.R_alloc | apply Kd.R_drewN | apply Kd.R_drew)); exact (Q_HO302 h0_)) (by decide)) hk (fun _ h => h.2)) (fun _ h => h.1)) | exact Kd.R_mono (Kd.R_mono (Kd.R_keep (IsS95.apart (show IsS95 w _ g289 t287 t297 from by repeat (first | (with_reducible first | exact HI289.out | apply IsS95.alloc | apply IsS95.drewN | apply IsS95.drew | apply IsS95.set_1 | refine IsS95.far ?_ NB289_286.out _) | exact HI289.out)) (by (with_reducible repeat (first | apply Kd.R_alloc | apply Kd.R_drewN | apply Kd.R_drew)); exact (Q_HO302 h0_)) (by decide)) hk (fun _ h => h.2)) (fun _ h => h.1)) (fun _ h_ => by first | trivial | exact h_ | exact h_.1))
     clear BK286
     clear HO296
     clear HB
     clear HI289
     have BK286 := n0_
     have HO296 := n1_
     have HB := n2_
     have HI289 := n3_
     clear n0_ n1_ n2_ n3_
     (try clear hb)
     (try clear hb2)
     (try clear hk)
     (try clear hi)
     refine hK.out _ _ ⟨v295, v301, adz_v301, m19_, m24_, (by rw [ha.out]; exact putSel_upk 4 hb_ rfl rfl rfl), fun _ => (by (with_reducible repeat (first | refine blk_drewN ?_ _ | refine blk_drew ?_ | refine blk_alloc ?_ _)); exact BK286.out), fun h0_ => absurd ((hon 2 (by kernel_rfl)).symm.trans h0_) (by decide), (by repeat (first | (with_reducible first | exact HB.out | apply below_alloc | apply pw_below_drewN | apply below_drew1 | refine below_set ?_ (IsS95.ge HI289.out) | refine below_set ?_ GE286.out) | exact HB.out)), fun _ => (by (with_reducible repeat (first | apply Kd.R_alloc | apply Kd.R_drewN | apply Kd.R_drew)); exact HO296.out), fun _ h1_ => absurd ((up_self b 12).symm.trans h1_) (by decide), fun _ _ => (by repeat (first | (with_reducible first | exact HI289.out | apply IsS95.alloc | apply IsS95.drewN | apply IsS95.drew | apply IsS95.set_1 | refine IsS95.far ?_ NB289_286.out _) | exact HI289.out)), z_HO302, Q_HA_HO302, fun h0_ _ => absurd ((hoff 16 (by kernel_rfl)).symm.trans h0_) (by decide), fun h0_ => absurd ((hoff 22 (by kernel_rfl)).symm.trans h0_) (by decide), fun h0_ => absurd ((hoff 26 (by kernel_rfl)).symm.trans h0_) (by decide), fun h0_ => absurd ((hoff 19 (by kernel_rfl)).symm.trans h0_) (by decide), fun h0_ => absurd ((hoff 24 (by kernel_rfl)).symm.trans h0_) (by decide)⟩
    refine steps_cons ?_ ?_
    ·rintro b a w' ⟨v295, v301, adz_v301, m19_, m24_, ha, Q_BK286, Q_HI289, Q_HB, Q_HO296, Q_HI289_e2, Q_HI289_e12, Q_HO302, Q_HA_HO302, Q_HI289_e16, Q_HI289_e22, Q_BK286_e26, Q_X19_, Q_X24_⟩ hb_ hon hoff
     refine ⟨_, rfl, fun K hK => ?_⟩
     have e22 : a.tmps[22]? = some (.int .i64 (wrap64 (t292 + 1))) := by rw [ha]; exact putSel_on (e := (6, 22, .int .i64 (wrap64 (t292 + 1)))) 1 rfl rfl (hon 6 (by kernel_rfl)) rfl
     have e28 : a.tmps[28]? = some (.int .i64 t298) := by rw [ha]; exact putSel_on (e := (12, 28, .int .i64 t298)) 4 rfl rfl (hon 12 (by kernel_rfl)) rfl
     replace ha := Aside0.mk ha
     have BK286 := Aside0.mk (Q_BK286 (hoff 26 (by kernel_rfl)))
     have HB := Aside0.mk Q_HB
     have HO296 := Aside0.mk (Q_HO296 (hon 2 (by kernel_rfl)))
     refine value_ (w1 := w') (v := .int .i64 (wrap64 ((wrap64 (t292 + 1)) + t298))) (by rfl) rfl ?_ ?_
     ·go_simp
      (try simp only [i64_w])
      try rfl
     refine hK.out _ _ ⟨v295, v301, adz_v301, m19_, m24_, (by rw [ha.out]; exact putSel_upk 5 hb_ rfl rfl rfl), Q_BK286, fun h0_ => absurd ((hon 2 (by kernel_rfl)).symm.trans h0_) (by decide), Q_HB, Q_HO296, fun _ h1_ => absurd ((hon 12 (by kernel_rfl)).symm.trans h1_) (by decide), Q_HI289_e12, Q_HO302, Q_HA_HO302, Q_HI289_e16, Q_HI289_e22, fun h0_ => absurd ((hoff 26 (by kernel_rfl)).symm.trans h0_) (by decide), Q_X19_, Q_X24_⟩
    refine steps_cons ?_ ?_
    ·rintro b a w' ⟨v295, v301, adz_v301, m19_, m24_, ha, Q_BK286, Q_HI289, Q_HB, Q_HO296, Q_HI289_e2, Q_HI289_e12, Q_HO302, Q_HA_HO302, Q_HI289_e16, Q_HI289_e22, Q_BK286_e26, Q_X19_, Q_X24_⟩ hb_ hon hoff
     refine ⟨_, rfl, fun K hK => ?_⟩
     replace ha := Aside0.mk ha
     have BK286 := Aside0.mk (Q_BK286 (hoff 26 (by kernel_rfl)))
     have HB := Aside0.mk Q_HB
     refine Kd.R_lit_step (Kd.int .i64) _ 3 ?hg (N := 30) ?hd (xs := ([10, 20, 0] : List Int)) (inner := [.int .i64 10, .int .i64 20, .int .i64 0]) (ok := fun _ => True) (okp := fun _ => True) ?hr ?hp (fun _ hk => hk) trivial (Below.refl _ _) (Nat.le_refl _) (by simp) ?_; (case hd => rfl); (case hg => rfl); (case hr => first | (go_simp; done) | (go_simp; rfl)); (case hp => exact (Reps.one (show Kd.M (Kd.int .i64) _ _ _ 10 [.int .i64 10] from rfl) (Reps.one (show Kd.M (Kd.int .i64) _ _ _ 20 [.int .i64 20] from rfl) (Reps.one (show Kd.M (Kd.int .i64) _ _ _ 0 [.int .i64 0] from rfl) (Reps.none _ _)))))
     intro v301 w17 ho18 hb hg_ hnew_
     clear hg_ hnew_
     (first | rw [← Ny300.out] at ho18 | (simp only [Int.reduceToNat] at ho18; rw [← Ny300.out] at ho18))
     have n0_ := Aside0.mk (Kd.R_lower ho18 (below_size (by repeat (first | (with_reducible first | exact HB.out | apply below_alloc | apply pw_below_drewN | apply below_drew1 | refine below_set ?_ GE286.out) | exact HB.out))))
     have n1_ := Aside0.mk (blk_below (g := gb286) (o := .cells #[.int .i64 0, .int .i64 0, .int .i64 0, .int .i64 0] 50 (0, 0)) (by (with_reducible repeat (first | refine blk_drewN ?_ _ | refine blk_drew ?_ | refine blk_alloc ?_ _)); exact BK286.out) hb)
     have n3_ := Aside0.mk (below_step (by repeat (first | (with_reducible first | exact HB.out | apply below_alloc | apply pw_below_drewN | apply below_drew1 | refine below_set ?_ GE286.out) | exact HB.out)) hb)
     have z_HI289 := fun (h0_ : b 2 = false) => (show IsS95 w w17 g289 t287 t293 from by first | exact (IsS95.below (by repeat (first | (with_reducible first | exact (Q_HI289 h0_) | apply IsS95.alloc | apply IsS95.drewN | apply IsS95.drew | apply IsS95.set_1 | refine IsS95.far ?_ NB289_286.out _) | exact (Q_HI289 h0_))) hb))
     have z_HO296 := fun (h0_ : b 2 = true) => (show Kd.R k50 50 w17 w.heap.size (fun k_ => k_ ≠ gb286) v295 t294 from by first | exact (Kd.R_below (by (with_reducible repeat (first | apply Kd.R_alloc | apply Kd.R_drewN | apply Kd.R_drew)); exact (Q_HO296 h0_)) hb) | exact Kd.R_mono (Kd.R_below (by (with_reducible repeat (first | apply Kd.R_alloc | apply Kd.R_drewN | apply Kd.R_drew)); exact (Q_HO296 h0_)) hb) (fun _ h_ => by first | trivial | exact h_ | exact h_.1))
     have z_HI289_e2 := fun (h0_ : b 2 = true) (h1_ : b 12 = false) => (show IsS95 w w17 g289 t287 t297 from by first | exact (IsS95.below (by repeat (first | (with_reducible first | exact (Q_HI289_e2 h0_ h1_) | apply IsS95.alloc | apply IsS95.drewN | apply IsS95.drew | apply IsS95.set_1 | refine IsS95.far ?_ NB289_286.out _) | exact (Q_HI289_e2 h0_ h1_))) hb))
     have z_HI289_e12 := fun (h0_ : b 12 = true) (h1_ : b 16 = false) => (show IsS95 w w17 g289 t287 t299 from by first | exact (IsS95.below (by repeat (first | (with_reducible first | exact (Q_HI289_e12 h0_ h1_) | apply IsS95.alloc | apply IsS95.drewN | apply IsS95.drew | apply IsS95.set_1 | refine IsS95.far ?_ NB289_286.out _) | exact (Q_HI289_e12 h0_ h1_))) hb))
     have z_HI289_e16 := fun (h0_ : b 16 = true) (h1_ : b 22 = false) => (show IsS95 w w17 g289 t287 t304 from by first | exact (IsS95.below (by repeat (first | (with_reducible first | exact (Q_HI289_e16 h0_ h1_) | apply IsS95.alloc | apply IsS95.drewN | apply IsS95.drew | apply IsS95.set_1 | refine IsS95.far ?_ NB289_286.out _) | exact (Q_HI289_e16 h0_ h1_))) hb))
     have z_HI289_e22 := fun (h0_ : b 22 = true) => (show IsS95 w w17 g289 t287 t307 from by first | exact (IsS95.below (by repeat (first | (with_reducible first | exact (Q_HI289_e22 h0_) | apply IsS95.alloc | apply IsS95.drewN | apply IsS95.drew | apply IsS95.set_1 | refine IsS95.far ?_ NB289_286.out _) | exact (Q_HI289_e22 h0_))) hb))
     clear BK286
     clear HB
     have HO302 := n0_
     have BK286 := n1_
     have HB := n3_
     clear n0_ n1_ n3_
     clear hb ho18
     obtain ⟨Ao19, co19, eo19⟩ := Kd.R_slice HO302.out
     subst eo19
     obtain ⟨ado19, fo19, _⟩ := Kd.at_int (Kd.R_reads' HO302.out).2.2 0 (by decide) (by rw [Ny300.out]; simp)
     cases fo19
     refine hK.out _ _ ⟨v295, .slice (some ado19) y300.length co19, ado19, m19_, m24_, (by rw [ha.out]; exact putSel_upk 6 hb_ rfl rfl rfl), fun _ => (by (with_reducible repeat (first | refine blk_drewN ?_ _ | refine blk_drew ?_ | refine blk_alloc ?_ _)); exact BK286.out), z_HI289, (by repeat (first | (with_reducible first | exact HB.out | apply below_alloc | apply pw_below_drewN | apply below_drew1 | refine below_set ?_ GE286.out) | exact HB.out)), z_HO296, z_HI289_e2, z_HI289_e12, fun _ => (by (with_reducible repeat (first | apply Kd.R_alloc | apply Kd.R_drewN | apply Kd.R_drew)); exact HO302.out), fun _ => ⟨_, rfl⟩, z_HI289_e16, z_HI289_e22, fun h0_ => absurd ((hoff 26 (by kernel_rfl)).symm.trans h0_) (by decide), fun h0_ => absurd ((hoff 19 (by kernel_rfl)).symm.trans h0_) (by decide), Q_X24_⟩
    refine steps_cons ?_ ?_
    ·rintro b a w' ⟨v295, v301, adz_v301, m19_, m24_, ha, Q_BK286, Q_HI289, Q_HB, Q_HO296, Q_HI289_e2, Q_HI289_e12, Q_HO302, Q_HA_HO302, Q_HI289_e16, Q_HI289_e22, Q_BK286_e26, Q_X19_, Q_X24_⟩ hb_ hon hoff
     refine ⟨_, rfl, fun K hK => ?_⟩
     have e31 : a.tmps[31]? = some (.pointer (some ⟨g289, 0, none⟩)) := by rw [ha]; exact (putSel_off rfl).trans rfl
     replace ha := Aside0.mk ha
     have BK286 := Aside0.mk (Q_BK286 (hoff 26 (by kernel_rfl)))
     have HB := Aside0.mk Q_HB
     have HO296 := Aside0.mk (Q_HO296 (hon 2 (by kernel_rfl)))
     have HI289 := Aside0.mk (Q_HI289_e12 (hon 12 (by kernel_rfl)) hb_)
     refine goes_ Try.func61 (by kernel_rfl) rfl #[.pointer (some ⟨g289, 0, none⟩), .int .i64 16] (by rfl) rfl rfl (by first | (simp only [List.map_toArray, List.map_cons, List.map_nil, Act.eval, Array.getD_eq_getD_getElem?, Option.getD_some, e31]; done) | (simp only [List.map_toArray, List.map_cons, List.map_nil, Act.eval, Array.getD_eq_getD_getElem?, Option.getD_some, e31]; rfl)) ?_
     with_reducible refine (spec_l1Rd_pick.calls k g289 t287 t299 16 t303 t304 w _ ?side1 ?side2 A7.out).mono ?_
     (case side1 => repeat (first | (with_reducible first | exact HI289.out | apply IsS95.alloc | apply IsS95.drewN | apply IsS95.drew | apply IsS95.set_1 | refine IsS95.far ?_ NB289_286.out _) | exact HI289.out))
     (case side2 => repeat (first | (with_reducible first | exact HB.out | apply below_alloc | apply pw_below_drewN | apply below_drew1 | refine below_set ?_ (IsS95.ge HI289.out) | refine below_set ?_ GE286.out) | exact HB.out))
     rintro e w20 ⟨rfl, hi, hb, hk⟩
     refine ⟨_, rfl, ?_⟩
     have n0_ := Aside0.mk (KeepBut.blk hk (g' := gb286) (o := .cells #[.int .i64 0, .int .i64 0, .int .i64 0, .int .i64 0] 50 (0, 0)) (by (with_reducible repeat (first | refine blk_drewN ?_ _ | refine blk_drew ?_ | refine blk_alloc ?_ _)); exact BK286.out) NB286_289.out (by simp))
     have n1_ := Aside0.mk (Kd.R_mono (Kd.R_keep (IsS95.apart (show IsS95 w _ g289 t287 t299 from by repeat (first | (with_reducible first | exact HI289.out | apply IsS95.alloc | apply IsS95.drewN | apply IsS95.drew | apply IsS95.set_1 | refine IsS95.far ?_ NB289_286.out _) | exact HI289.out)) (by (with_reducible repeat (first | apply Kd.R_alloc | apply Kd.R_drewN | apply Kd.R_drew)); exact HO296.out) (by decide)) hk (fun _ h => h.2)) (fun _ h => h.1))
     have n2_ := Aside0.mk (hb)
     have n3_ := Aside0.mk (hi)
     have z_HO302 := fun (h0_ : b 14 = true) => (show Kd.R (Kd.int .i64) 3 w20 w.heap.size (fun _ => True) v301 y300 from by first | exact (Kd.R_mono (Kd.R_keep (IsS95.apart (show IsS95 w _ g289 t287 t299 from by repeat (first | (with_reducible first | exact HI289.out | apply IsS95.alloc | apply IsS95.drewN | apply IsS95.drew | apply IsS95.set_1 | refine IsS95.far ?_ NB289_286.out _) | exact HI289.out)) (by (with_reducible repeat (first | apply Kd.R_alloc | apply Kd.R_drewN | apply Kd.R_drew)); exact (Q_HO302 h0_)) (by decide)) hk (fun _ h => h.2)) (fun _ h => h.1)) | exact Kd.R_mono (Kd.R_mono (Kd.R_keep (IsS95.apart (show IsS95 w _ g289 t287 t299 from by repeat (first | (with_reducible first | exact HI289.out | apply IsS95.alloc | apply IsS95.drewN | apply IsS95.drew | apply IsS95.set_1 | refine IsS95.far ?_ NB289_286.out _) | exact HI289.out)) (by (with_reducible repeat (first | apply Kd.R_alloc | apply Kd.R_drewN | apply Kd.R_drew)); exact (Q_HO302 h0_)) (by decide)) hk (fun _ h => h.2)) (fun _ h => h.1)) (fun _ h_ => by first | trivial | exact h_ | exact h_.1))
     clear BK286
     clear HO296
     clear HB
     clear HI289
     have BK286 := n0_
     have HO296 := n1_
     have HB := n2_
     have HI289 := n3_
     clear n0_ n1_ n2_ n3_
     (try clear hb)
     (try clear hb2)
     (try clear hk)
     (try clear hi)
     refine hK.out _ _ ⟨v295, v301, adz_v301, m19_, m24_, (by rw [ha.out]; exact putSel_upk 7 hb_ rfl rfl rfl), fun _ => (by (with_reducible repeat (first | refine blk_drewN ?_ _ | refine blk_drew ?_ | refine blk_alloc ?_ _)); exact BK286.out), fun h0_ => absurd ((hon 2 (by kernel_rfl)).symm.trans h0_) (by decide), (by repeat (first | (with_reducible first | exact HB.out | apply below_alloc | apply pw_below_drewN | apply below_drew1 | refine below_set ?_ (IsS95.ge HI289.out) | refine below_set ?_ GE286.out) | exact HB.out)), fun _ => (by (with_reducible repeat (first | apply Kd.R_alloc | apply Kd.R_drewN | apply Kd.R_drew)); exact HO296.out), fun _ h1_ => absurd ((hon 12 (by kernel_rfl)).symm.trans h1_) (by decide), fun _ h1_ => absurd ((up_self b 16).symm.trans h1_) (by decide), z_HO302, Q_HA_HO302, fun _ _ => (by repeat (first | (with_reducible first | exact HI289.out | apply IsS95.alloc | apply IsS95.drewN | apply IsS95.drew | apply IsS95.set_1 | refine IsS95.far ?_ NB289_286.out _) | exact HI289.out)), fun h0_ => absurd ((hoff 22 (by kernel_rfl)).symm.trans h0_) (by decide), fun h0_ => absurd ((hoff 26 (by kernel_rfl)).symm.trans h0_) (by decide), fun h0_ => absurd ((hoff 19 (by kernel_rfl)).symm.trans h0_) (by decide), fun h0_ => absurd ((hoff 24 (by kernel_rfl)).symm.trans h0_) (by decide)⟩
    refine steps_cons ?_ ?_
    ·rintro b a w' ⟨v295, v301, adz_v301, m19_, m24_, ha, Q_BK286, Q_HI289, Q_HB, Q_HO296, Q_HI289_e2, Q_HI289_e12, Q_HO302, Q_HA_HO302, Q_HI289_e16, Q_HI289_e22, Q_BK286_e26, Q_X19_, Q_X24_⟩ hb_ hon hoff
     refine ⟨_, rfl, fun K hK => ?_⟩
     have e32 : a.tmps[32]? = some (.int .i64 t303) := by rw [ha]; exact putSel_on (e := (16, 32, .int .i64 t303)) 7 rfl rfl (hon 16 (by kernel_rfl)) rfl
     replace ha := Aside0.mk ha
     have BK286 := Aside0.mk (Q_BK286 (hoff 26 (by kernel_rfl)))
     have HB := Aside0.mk Q_HB
     have HO296 := Aside0.mk (Q_HO296 (hon 2 (by kernel_rfl)))
     refine value_ (w1 := w') (v := .int .i64 (wrap64 (t303 * 3))) (by rfl) rfl ?_ ?_
     ·go_simp
      (try simp only [i64_w])
      try rfl
     refine hK.out _ _ ⟨v295, v301, adz_v301, m19_, m24_, (by rw [ha.out]; exact putSel_upk 8 hb_ rfl rfl rfl), Q_BK286, fun h0_ => absurd ((hon 2 (by kernel_rfl)).symm.trans h0_) (by decide), Q_HB, Q_HO296, fun _ h1_ => absurd ((hon 12 (by kernel_rfl)).symm.trans h1_) (by decide), fun _ h1_ => absurd ((hon 16 (by kernel_rfl)).symm.trans h1_) (by decide), Q_HO302, Q_HA_HO302, Q_HI289_e16, Q_HI289_e22, fun h0_ => absurd ((hoff 26 (by kernel_rfl)).symm.trans h0_) (by decide), fun h0_ => absurd ((hoff 19 (by kernel_rfl)).symm.trans h0_) (by decide), Q_X24_⟩
    refine steps_cons ?_ ?_
    ·rintro b a w' ⟨v295, v301, adz_v301, m19_, m24_, ha, Q_BK286, Q_HI289, Q_HB, Q_HO296, Q_HI289_e2, Q_HI289_e12, Q_HO302, Q_HA_HO302, Q_HI289_e16, Q_HI289_e22, Q_BK286_e26, Q_X19_, Q_X24_⟩ hb_ hon hoff
     refine ⟨_, rfl, fun K hK => ?_⟩
     have e33 : a.tmps[33]? = some (.int .i64 (wrap64 (t303 * 3))) := by rw [ha]; exact putSel_on (e := (17, 33, .int .i64 (wrap64 (t303 * 3)))) 8 rfl rfl (hon 17 (by kernel_rfl)) rfl
     replace ha := Aside0.mk ha
     have BK286 := Aside0.mk (Q_BK286 (hoff 26 (by kernel_rfl)))
     have HB := Aside0.mk Q_HB
     have HO296 := Aside0.mk (Q_HO296 (hon 2 (by kernel_rfl)))
     refine value_ (w1 := w') (v := .int .i64 ji8) (by rfl) rfl ?_ ?_
     ·go_simp
      (try simp only [i64_w])
      try rfl
     refine hK.out _ _ ⟨v295, v301, adz_v301, m19_, m24_, (by rw [ha.out]; exact putSel_upk 9 hb_ rfl rfl rfl), Q_BK286, fun h0_ => absurd ((hon 2 (by kernel_rfl)).symm.trans h0_) (by decide), Q_HB, Q_HO296, fun _ h1_ => absurd ((hon 12 (by kernel_rfl)).symm.trans h1_) (by decide), fun _ h1_ => absurd ((hon 16 (by kernel_rfl)).symm.trans h1_) (by decide), Q_HO302, Q_HA_HO302, Q_HI289_e16, Q_HI289_e22, fun h0_ => absurd ((hoff 26 (by kernel_rfl)).symm.trans h0_) (by decide), fun h0_ => absurd ((hoff 19 (by kernel_rfl)).symm.trans h0_) (by decide), Q_X24_⟩
    refine steps_cons ?_ ?_
    ·rintro b a w' ⟨v295, v301, adz_v301, m19_, m24_, ha, Q_BK286, Q_HI289, Q_HB, Q_HO296, Q_HI289_e2, Q_HI289_e12, Q_HO302, Q_HA_HO302, Q_HI289_e16, Q_HI289_e22, Q_BK286_e26, Q_X19_, Q_X24_⟩ hb_ hon hoff
     refine ⟨_, rfl, fun K hK => ?_⟩
     have e30 : a.tmps[30]? = some (v301) := by rw [ha]; exact putSel_on (e := (14, 30, v301)) 6 rfl rfl (hon 14 (by kernel_rfl)) rfl
     have e34 : a.tmps[34]? = some (.int .i64 ji8) := by rw [ha]; exact putSel_on (e := (18, 34, .int .i64 ji8)) 9 rfl rfl (hon 18 (by kernel_rfl)) rfl
     replace ha := Aside0.mk ha
     have BK286 := Aside0.mk (Q_BK286 (hoff 26 (by kernel_rfl)))
     have HB := Aside0.mk Q_HB
     have HO296 := Aside0.mk (Q_HO296 (hon 2 (by kernel_rfl)))
     have HO302 := Aside0.mk (Q_HO302 (hon 14 (by kernel_rfl)))
     have HA_HO302 := Aside0.mk (Q_HA_HO302 (hon 14 (by kernel_rfl)))
     obtain ⟨c_, hv_⟩ := HA_HO302.out
     rw [hv_] at e30
     refine value_ (w1 := w') (v := .pointer (some (adz_v301.add ((ji8)).toNat))) (by rfl) rfl ?_ ?_
     ·go_simp
      (try simp only [i64_w])
      try rfl
     refine hK.out _ _ ⟨v295, v301, adz_v301, (.pointer (some (adz_v301.add ((ji8)).toNat))), m24_, (by rw [ha.out]; exact putSel_upk 10 hb_ rfl rfl rfl), Q_BK286, fun h0_ => absurd ((hon 2 (by kernel_rfl)).symm.trans h0_) (by decide), Q_HB, Q_HO296, fun _ h1_ => absurd ((hon 12 (by kernel_rfl)).symm.trans h1_) (by decide), fun _ h1_ => absurd ((hon 16 (by kernel_rfl)).symm.trans h1_) (by decide), Q_HO302, Q_HA_HO302, Q_HI289_e16, Q_HI289_e22, fun h0_ => absurd ((hoff 26 (by kernel_rfl)).symm.trans h0_) (by decide), fun _ => rfl, Q_X24_⟩
    refine steps_cons ?_ ?_
    ·rintro b a w' ⟨v295, v301, adz_v301, m19_, m24_, ha, Q_BK286, Q_HI289, Q_HB, Q_HO296, Q_HI289_e2, Q_HI289_e12, Q_HO302, Q_HA_HO302, Q_HI289_e16, Q_HI289_e22, Q_BK286_e26, Q_X19_, Q_X24_⟩ hb_ hon hoff
     refine ⟨_, rfl, fun K hK => ?_⟩
     have e35 : a.tmps[35]? = some (m19_) := by rw [ha]; exact putSel_on (e := (19, 35, m19_)) 10 rfl rfl (hon 19 (by kernel_rfl)) rfl
     rw [Q_X19_ (hon 19 (by kernel_rfl))] at e35
     replace ha := Aside0.mk ha
     have BK286 := Aside0.mk (Q_BK286 (hoff 26 (by kernel_rfl)))
     have HB := Aside0.mk Q_HB
     have HO296 := Aside0.mk (Q_HO296 (hon 2 (by kernel_rfl)))
     have HO302 := Aside0.mk (Q_HO302 (hon 14 (by kernel_rfl)))
     have HA_HO302 := Aside0.mk (Q_HA_HO302 (hon 14 (by kernel_rfl)))
     obtain ⟨c_, hv_⟩ := HA_HO302.out
     have hF_ := HO302.out
     rw [hv_] at hF_
     obtain ⟨ad_, ea_, hx_⟩ := Kd.at_int (Kd.R_reads' hF_).2.2 (ji8) (of_eq_true pi305) (of_eq_true qi305)
     cases ea_
     refine value_ (w1 := w') (v := .int .i64 (rd y300 (ji8))) (by rfl) rfl ?_ ?_
     ·go_simp
      (try simp only [i64_w])
      try rfl
     refine hK.out _ _ ⟨v295, v301, adz_v301, m19_, m24_, (by rw [ha.out]; exact putSel_upk 11 hb_ rfl rfl rfl), Q_BK286, fun h0_ => absurd ((hon 2 (by kernel_rfl)).symm.trans h0_) (by decide), Q_HB, Q_HO296, fun _ h1_ => absurd ((hon 12 (by kernel_rfl)).symm.trans h1_) (by decide), fun _ h1_ => absurd ((hon 16 (by kernel_rfl)).symm.trans h1_) (by decide), Q_HO302, Q_HA_HO302, Q_HI289_e16, Q_HI289_e22, fun h0_ => absurd ((hoff 26 (by kernel_rfl)).symm.trans h0_) (by decide), Q_X19_, Q_X24_⟩
    refine steps_cons ?_ ?_
    ·rintro b a w' ⟨v295, v301, adz_v301, m19_, m24_, ha, Q_BK286, Q_HI289, Q_HB, Q_HO296, Q_HI289_e2, Q_HI289_e12, Q_HO302, Q_HA_HO302, Q_HI289_e16, Q_HI289_e22, Q_BK286_e26, Q_X19_, Q_X24_⟩ hb_ hon hoff
     refine ⟨_, rfl, fun K hK => ?_⟩
     have e37 : a.tmps[37]? = some (.pointer (some ⟨g289, 0, none⟩)) := by rw [ha]; exact (putSel_off rfl).trans rfl
     replace ha := Aside0.mk ha
     have BK286 := Aside0.mk (Q_BK286 (hoff 26 (by kernel_rfl)))
     have HB := Aside0.mk Q_HB
     have HO296 := Aside0.mk (Q_HO296 (hon 2 (by kernel_rfl)))
     have HI289 := Aside0.mk (Q_HI289_e16 (hon 16 (by kernel_rfl)) hb_)
     refine goes_ Try.func61 (by kernel_rfl) rfl #[.pointer (some ⟨g289, 0, none⟩), .int .i64 3] (by rfl) rfl rfl (by first | (simp only [List.map_toArray, List.map_cons, List.map_nil, Act.eval, Array.getD_eq_getD_getElem?, Option.getD_some, e37]; done) | (simp only [List.map_toArray, List.map_cons, List.map_nil, Act.eval, Array.getD_eq_getD_getElem?, Option.getD_some, e37]; rfl)) ?_
     with_reducible refine (spec_l1Rd_pick.calls k g289 t287 t304 3 t306 t307 w _ ?side1 ?side2 A11.out).mono ?_
     (case side1 => repeat (first | (with_reducible first | exact HI289.out | apply IsS95.alloc | apply IsS95.drewN | apply IsS95.drew | apply IsS95.set_1 | refine IsS95.far ?_ NB289_286.out _) | exact HI289.out))
     (case side2 => repeat (first | (with_reducible first | exact HB.out | apply below_alloc | apply pw_below_drewN | apply below_drew1 | refine below_set ?_ (IsS95.ge HI289.out) | refine below_set ?_ GE286.out) | exact HB.out))
     rintro e w21 ⟨rfl, hi, hb, hk⟩
     refine ⟨_, rfl, ?_⟩
     have n0_ := Aside0.mk (KeepBut.blk hk (g' := gb286) (o := .cells #[.int .i64 0, .int .i64 0, .int .i64 0, .int .i64 0] 50 (0, 0)) (by (with_reducible repeat (first | refine blk_drewN ?_ _ | refine blk_drew ?_ | refine blk_alloc ?_ _)); exact BK286.out) NB286_289.out (by simp))
     have n1_ := Aside0.mk (Kd.R_mono (Kd.R_keep (IsS95.apart (show IsS95 w _ g289 t287 t304 from by repeat (first | (with_reducible first | exact HI289.out | apply IsS95.alloc | apply IsS95.drewN | apply IsS95.drew | apply IsS95.set_1 | refine IsS95.far ?_ NB289_286.out _) | exact HI289.out)) (by (with_reducible repeat (first | apply Kd.R_alloc | apply Kd.R_drewN | apply Kd.R_drew)); exact HO296.out) (by decide)) hk (fun _ h => h.2)) (fun _ h => h.1))
     have n2_ := Aside0.mk (hb)
     have n3_ := Aside0.mk (hi)
     have z_HO302 := fun (h0_ : b 14 = true) => (show Kd.R (Kd.int .i64) 3 w21 w.heap.size (fun _ => True) v301 y300 from by first | exact (Kd.R_mono (Kd.R_keep (IsS95.apart (show IsS95 w _ g289 t287 t304 from by repeat (first | (with_reducible first | exact HI289.out | apply IsS95.alloc | apply IsS95.drewN | apply IsS95.drew | apply IsS95.set_1 | refine IsS95.far ?_ NB289_286.out _) | exact HI289.out)) (by (with_reducible repeat (first | apply Kd.R_alloc | apply Kd.R_drewN | apply Kd.R_drew)); exact (Q_HO302 h0_)) (by decide)) hk (fun _ h => h.2)) (fun _ h => h.1)) | exact Kd.R_mono (Kd.R_mono (Kd.R_keep (IsS95.apart (show IsS95 w _ g289 t287 t304 from by repeat (first | (with_reducible first | exact HI289.out | apply IsS95.alloc | apply IsS95.drewN | apply IsS95.drew | apply IsS95.set_1 | refine IsS95.far ?_ NB289_286.out _) | exact HI289.out)) (by (with_reducible repeat (first | apply Kd.R_alloc | apply Kd.R_drewN | apply Kd.R_drew)); exact (Q_HO302 h0_)) (by decide)) hk (fun _ h => h.2)) (fun _ h => h.1)) (fun _ h_ => by first | trivial | exact h_ | exact h_.1))
     clear BK286
     clear HO296
     clear HB
     clear HI289
     have BK286 := n0_
     have HO296 := n1_
     have HB := n2_
     have HI289 := n3_
     clear n0_ n1_ n2_ n3_
     (try clear hb)
     (try clear hb2)
     (try clear hk)
     (try clear hi)
     refine hK.out _ _ ⟨v295, v301, adz_v301, m19_, m24_, (by rw [ha.out]; exact putSel_upk 12 hb_ rfl rfl rfl), fun _ => (by (with_reducible repeat (first | refine blk_drewN ?_ _ | refine blk_drew ?_ | refine blk_alloc ?_ _)); exact BK286.out), fun h0_ => absurd ((hon 2 (by kernel_rfl)).symm.trans h0_) (by decide), (by repeat (first | (with_reducible first | exact HB.out | apply below_alloc | apply pw_below_drewN | apply below_drew1 | refine below_set ?_ (IsS95.ge HI289.out) | refine below_set ?_ GE286.out) | exact HB.out)), fun _ => (by (with_reducible repeat (first | apply Kd.R_alloc | apply Kd.R_drewN | apply Kd.R_drew)); exact HO296.out), fun _ h1_ => absurd ((hon 12 (by kernel_rfl)).symm.trans h1_) (by decide), fun _ h1_ => absurd ((hon 16 (by kernel_rfl)).symm.trans h1_) (by decide), z_HO302, Q_HA_HO302, fun _ h1_ => absurd ((up_self b 22).symm.trans h1_) (by decide), fun _ => (by repeat (first | (with_reducible first | exact HI289.out | apply IsS95.alloc | apply IsS95.drewN | apply IsS95.drew | apply IsS95.set_1 | refine IsS95.far ?_ NB289_286.out _) | exact HI289.out)), fun h0_ => absurd ((hoff 26 (by kernel_rfl)).symm.trans h0_) (by decide), Q_X19_, fun h0_ => absurd ((hoff 24 (by kernel_rfl)).symm.trans h0_) (by decide)⟩
    refine steps_cons ?_ ?_
    ·rintro b a w' ⟨v295, v301, adz_v301, m19_, m24_, ha, Q_BK286, Q_HI289, Q_HB, Q_HO296, Q_HI289_e2, Q_HI289_e12, Q_HO302, Q_HA_HO302, Q_HI289_e16, Q_HI289_e22, Q_BK286_e26, Q_X19_, Q_X24_⟩ hb_ hon hoff
     refine ⟨_, rfl, fun K hK => ?_⟩
     have e20 : a.tmps[20]? = some (.int .i64 t292) := by rw [ha]; exact (putSel_off rfl).trans rfl
     have e29 : a.tmps[29]? = some (.int .i64 (wrap64 ((wrap64 (t292 + 1)) + t298))) := by rw [ha]; exact putSel_on (e := (13, 29, .int .i64 (wrap64 ((wrap64 (t292 + 1)) + t298)))) 5 rfl rfl (hon 13 (by kernel_rfl)) rfl
     have e36 : a.tmps[36]? = some (.int .i64 (rd y300 (ji8))) := by rw [ha]; exact putSel_on (e := (20, 36, .int .i64 (rd y300 (ji8)))) 11 rfl rfl (hon 20 (by kernel_rfl)) rfl
     have e38 : a.tmps[38]? = some (.int .i64 t306) := by rw [ha]; exact putSel_on (e := (22, 38, .int .i64 t306)) 12 rfl rfl (hon 22 (by kernel_rfl)) rfl
     replace ha := Aside0.mk ha
     have BK286 := Aside0.mk (Q_BK286 (hoff 26 (by kernel_rfl)))
     have HB := Aside0.mk Q_HB
     have HO296 := Aside0.mk (Q_HO296 (hon 2 (by kernel_rfl)))
     have HO302 := Aside0.mk (Q_HO302 (hon 14 (by kernel_rfl)))
     have HA_HO302 := Aside0.mk (Q_HA_HO302 (hon 14 (by kernel_rfl)))
     have HI289 := Aside0.mk (Q_HI289_e22 (hon 22 (by kernel_rfl)))
     refine value_ (w1 := w') (v := .agg #[.int .i64 t292, .int .i64 (wrap64 ((wrap64 (t292 + 1)) + t298)), .int .i64 (rd y300 (ji8)), .int .i64 t306]) (by rfl) rfl ?_ ?_
     ·go_simp
      (try simp only [i64_w])
      try rfl
     refine hK.out _ _ ⟨v295, v301, adz_v301, m19_, m24_, (by rw [ha.out]; exact putSel_upk 13 hb_ rfl rfl rfl), Q_BK286, fun h0_ => absurd ((hon 2 (by kernel_rfl)).symm.trans h0_) (by decide), Q_HB, Q_HO296, fun _ h1_ => absurd ((hon 12 (by kernel_rfl)).symm.trans h1_) (by decide), fun _ h1_ => absurd ((hon 16 (by kernel_rfl)).symm.trans h1_) (by decide), Q_HO302, Q_HA_HO302, fun _ h1_ => absurd ((hon 22 (by kernel_rfl)).symm.trans h1_) (by decide), Q_HI289_e22, fun h0_ => absurd ((hoff 26 (by kernel_rfl)).symm.trans h0_) (by decide), Q_X19_, Q_X24_⟩
    refine steps_cons ?_ ?_
    ·rintro b a w' ⟨v295, v301, adz_v301, m19_, m24_, ha, Q_BK286, Q_HI289, Q_HB, Q_HO296, Q_HI289_e2, Q_HI289_e12, Q_HO302, Q_HA_HO302, Q_HI289_e16, Q_HI289_e22, Q_BK286_e26, Q_X19_, Q_X24_⟩ hb_ hon hoff
     refine ⟨_, rfl, fun K hK => ?_⟩
     have e18 : a.tmps[18]? = some (v295) := by rw [ha]; exact putSel_on (e := (2, 18, v295)) 0 rfl rfl (hon 2 (by kernel_rfl)) rfl
     replace ha := Aside0.mk ha
     have BK286 := Aside0.mk (Q_BK286 (hoff 26 (by kernel_rfl)))
     have HB := Aside0.mk Q_HB
     have HO296 := Aside0.mk (Q_HO296 (hon 2 (by kernel_rfl)))
     have HI289 := Aside0.mk (Q_HI289_e22 (hon 22 (by kernel_rfl)))
     refine value_ (w1 := w') (v := v295) (by rfl) rfl ?_ ?_
     ·go_simp
      (try simp only [i64_w])
      try rfl
     refine hK.out _ _ ⟨v295, v301, adz_v301, m19_, (v295), (by rw [ha.out]; exact putSel_upk 14 hb_ rfl rfl rfl), Q_BK286, fun h0_ => absurd ((hon 2 (by kernel_rfl)).symm.trans h0_) (by decide), Q_HB, Q_HO296, fun _ h1_ => absurd ((hon 12 (by kernel_rfl)).symm.trans h1_) (by decide), fun _ h1_ => absurd ((hon 16 (by kernel_rfl)).symm.trans h1_) (by decide), Q_HO302, Q_HA_HO302, fun _ h1_ => absurd ((hon 22 (by kernel_rfl)).symm.trans h1_) (by decide), Q_HI289_e22, fun h0_ => absurd ((hoff 26 (by kernel_rfl)).symm.trans h0_) (by decide), Q_X19_, fun _ => rfl⟩
    refine steps_cons ?_ ?_
    ·rintro b a w' ⟨v295, v301, adz_v301, m19_, m24_, ha, Q_BK286, Q_HI289, Q_HB, Q_HO296, Q_HI289_e2, Q_HI289_e12, Q_HO302, Q_HA_HO302, Q_HI289_e16, Q_HI289_e22, Q_BK286_e26, Q_X19_, Q_X24_⟩ hb_ hon hoff
     refine ⟨_, rfl, fun K hK => ?_⟩
     have e19 : a.tmps[19]? = some (.int .i64 t290) := by rw [ha]; exact (putSel_off rfl).trans rfl
     replace ha := Aside0.mk ha
     have BK286 := Aside0.mk (Q_BK286 (hoff 26 (by kernel_rfl)))
     have HB := Aside0.mk Q_HB
     have HO296 := Aside0.mk (Q_HO296 (hon 2 (by kernel_rfl)))
     have HI289 := Aside0.mk (Q_HI289_e22 (hon 22 (by kernel_rfl)))
     refine value_ (w1 := w') (v := .int .i64 t290) (by rfl) rfl ?_ ?_
     ·go_simp
      (try simp only [i64_w])
      try rfl
     refine hK.out _ _ ⟨v295, v301, adz_v301, m19_, m24_, (by rw [ha.out]; exact putSel_upk 15 hb_ rfl rfl rfl), Q_BK286, fun h0_ => absurd ((hon 2 (by kernel_rfl)).symm.trans h0_) (by decide), Q_HB, Q_HO296, fun _ h1_ => absurd ((hon 12 (by kernel_rfl)).symm.trans h1_) (by decide), fun _ h1_ => absurd ((hon 16 (by kernel_rfl)).symm.trans h1_) (by decide), Q_HO302, Q_HA_HO302, fun _ h1_ => absurd ((hon 22 (by kernel_rfl)).symm.trans h1_) (by decide), Q_HI289_e22, fun h0_ => absurd ((hoff 26 (by kernel_rfl)).symm.trans h0_) (by decide), Q_X19_, Q_X24_⟩
    refine steps_cons ?_ ?_
    ·rintro b a w' ⟨v295, v301, adz_v301, m19_, m24_, ha, Q_BK286, Q_HI289, Q_HB, Q_HO296, Q_HI289_e2, Q_HI289_e12, Q_HO302, Q_HA_HO302, Q_HI289_e16, Q_HI289_e22, Q_BK286_e26, Q_X19_, Q_X24_⟩ hb_ hon hoff
     refine ⟨_, rfl, fun K hK => ?_⟩
     have e4 : a.tmps[4]? = some (.pointer (some ⟨gb286, 0, none⟩)) := by rw [ha]; exact (putSel_off rfl).trans rfl
     have e39 : a.tmps[39]? = some (.agg #[.int .i64 t292, .int .i64 (wrap64 ((wrap64 (t292 + 1)) + t298)), .int .i64 (rd y300 (ji8)), .int .i64 t306]) := by rw [ha]; exact putSel_on (e := (23, 39, .agg #[.int .i64 t292, .int .i64 (wrap64 ((wrap64 (t292 + 1)) + t298)), .int .i64 (rd y300 (ji8)), .int .i64 t306])) 13 rfl rfl (hon 23 (by kernel_rfl)) rfl
     replace ha := Aside0.mk ha
     have BK286 := Aside0.mk (Q_BK286 hb_)
     have HB := Aside0.mk Q_HB
     have HO296 := Aside0.mk (Q_HO296 (hon 2 (by kernel_rfl)))
     have HO302 := Aside0.mk (Q_HO302 (hon 14 (by kernel_rfl)))
     have HA_HO302 := Aside0.mk (Q_HA_HO302 (hon 14 (by kernel_rfl)))
     have HI289 := Aside0.mk (Q_HI289_e22 (hon 22 (by kernel_rfl)))
     obtain ⟨co25, eo25⟩ := HA_HO302.out
     clear HA_HO302
     subst eo25
     have hs26 : w'.cell? ⟨gb286, 0, none⟩ = some (.int .i64 0) := (blk_cell BK286.out 0).trans rfl
     have hfs26 := blk_frozen BK286.out 0
     have hs27 : w'.cell? ⟨gb286, 1, none⟩ = some (.int .i64 0) := (blk_cell BK286.out 1).trans rfl
     have hfs27 := blk_frozen BK286.out 1
     have hs28 : w'.cell? ⟨gb286, 2, none⟩ = some (.int .i64 0) := (blk_cell BK286.out 2).trans rfl
     have hfs28 := blk_frozen BK286.out 2
     have hs29 : w'.cell? ⟨gb286, 3, none⟩ = some (.int .i64 0) := (blk_cell BK286.out 3).trans rfl
     have hfs29 := blk_frozen BK286.out 3
     refine skip_ (w1 := ?_) (by rfl) rfl ?_ ?_
     rotate_left
     ·go_simp
      rfl
     refine hK.out _ _ ⟨v295, .slice (some adz_v301) y300.length co25, adz_v301, m19_, m24_, (by rw [ha.out]; exact putSel_none (v := undef) rfl), fun h0_ => absurd ((up_self b 26).symm.trans h0_) (by decide), fun h0_ => absurd ((hon 2 (by kernel_rfl)).symm.trans h0_) (by decide), (by repeat (first | (with_reducible first | exact HB.out | apply below_alloc | apply pw_below_drewN | apply below_drew1 | refine below_set ?_ (IsS95.ge HI289.out) | refine below_set ?_ GE286.out) | exact HB.out)), fun _ => (by (with_reducible repeat (first | apply Kd.R_alloc | apply Kd.R_drewN | apply Kd.R_drew)); exact Kd.R_mono (Kd.R_far (p := ⟨gb286, 3, none⟩) (Kd.R_far (p := ⟨gb286, 2, none⟩) (Kd.R_far (p := ⟨gb286, 1, none⟩) (Kd.R_far (p := ⟨gb286, 0, none⟩) (Kd.R_mono HO296.out (fun k_ hk => (⟨hk, hk⟩ : _ ∧ k_ ≠ gb286))) (fun _ hk => hk.2) (.int .i64 t292)) (fun _ hk => hk.2) (.int .i64 (wrap64 ((wrap64 (t292 + 1)) + t298)))) (fun _ hk => hk.2) (.int .i64 (rd y300 (ji8)))) (fun _ hk => hk.2) (.int .i64 t306)) (fun _ hk => hk.1)), fun _ h1_ => absurd ((hon 12 (by kernel_rfl)).symm.trans h1_) (by decide), fun _ h1_ => absurd ((hon 16 (by kernel_rfl)).symm.trans h1_) (by decide), fun _ => (by (with_reducible repeat (first | apply Kd.R_alloc | apply Kd.R_drewN | apply Kd.R_drew)); exact Kd.R_mono (Kd.R_far (p := ⟨gb286, 3, none⟩) (Kd.R_far (p := ⟨gb286, 2, none⟩) (Kd.R_far (p := ⟨gb286, 1, none⟩) (Kd.R_far (p := ⟨gb286, 0, none⟩) (Kd.R_types HO302.out BK286.out (by decide)) (fun _ hk => hk.2) (.int .i64 t292)) (fun _ hk => hk.2) (.int .i64 (wrap64 ((wrap64 (t292 + 1)) + t298)))) (fun _ hk => hk.2) (.int .i64 (rd y300 (ji8)))) (fun _ hk => hk.2) (.int .i64 t306)) (fun _ hk => trivial)), fun _ => ⟨_, rfl⟩, fun _ h1_ => absurd ((hon 22 (by kernel_rfl)).symm.trans h1_) (by decide), fun _ => (by repeat (first | (with_reducible first | exact HI289.out | apply IsS95.alloc | apply IsS95.drewN | apply IsS95.drew | apply IsS95.set_1 | refine IsS95.far ?_ NB289_286.out _) | exact HI289.out)), fun _ => (by (with_reducible repeat (first | refine blk_drewN ?_ _ | refine blk_drew ?_ | refine blk_alloc ?_ _)); refine blk_put (cs := #[.int .i64 t292, .int .i64 (wrap64 ((wrap64 (t292 + 1)) + t298)), .int .i64 (rd y300 (ji8)), .int .i64 0]) ?_ 3 _ rfl; (with_reducible repeat (first | refine blk_drewN ?_ _ | refine blk_drew ?_ | refine blk_alloc ?_ _)); refine blk_put (cs := #[.int .i64 t292, .int .i64 (wrap64 ((wrap64 (t292 + 1)) + t298)), .int .i64 0, .int .i64 0]) ?_ 2 _ rfl; (with_reducible repeat (first | refine blk_drewN ?_ _ | refine blk_drew ?_ | refine blk_alloc ?_ _)); refine blk_put (cs := #[.int .i64 t292, .int .i64 0, .int .i64 0, .int .i64 0]) ?_ 1 _ rfl; (with_reducible repeat (first | refine blk_drewN ?_ _ | refine blk_drew ?_ | refine blk_alloc ?_ _)); refine blk_put (cs := #[.int .i64 0, .int .i64 0, .int .i64 0, .int .i64 0]) ?_ 0 _ rfl; (with_reducible repeat (first | refine blk_drewN ?_ _ | refine blk_drew ?_ | refine blk_alloc ?_ _)); exact BK286.out), Q_X19_, Q_X24_⟩
    exact steps_nil
   rintro b a w28 hall ⟨v295, v301, adz_v301, m19_, m24_, ha, Q_BK286, Q_HI289, Q_HB, Q_HO296, Q_HI289_e2, Q_HI289_e12, Q_HO302, Q_HA_HO302, Q_HI289_e16, Q_HI289_e22, Q_BK286_e26, Q_X19_, Q_X24_⟩
   clear BK286 HB HI289
   have hb2_ := hall 2 (by kernel_rfl)
   have hb6_ := hall 6 (by kernel_rfl)
   have hb10_ := hall 10 (by kernel_rfl)
   have hb11_ := hall 11 (by kernel_rfl)
   have hb12_ := hall 12 (by kernel_rfl)
   have hb13_ := hall 13 (by kernel_rfl)
   have hb14_ := hall 14 (by kernel_rfl)
   have hb16_ := hall 16 (by kernel_rfl)
   have hb17_ := hall 17 (by kernel_rfl)
   have hb18_ := hall 18 (by kernel_rfl)
   have hb19_ := hall 19 (by kernel_rfl)
   have hb20_ := hall 20 (by kernel_rfl)
   have hb22_ := hall 22 (by kernel_rfl)
   have hb23_ := hall 23 (by kernel_rfl)
   have hb24_ := hall 24 (by kernel_rfl)
   have hb25_ := hall 25 (by kernel_rfl)
   have hb26_ := hall 26 (by kernel_rfl)
   subst ha
   obtain rfl := Q_X19_ hb19_
   obtain rfl := Q_X24_ hb24_
   simp only [putSel, hb2_, hb6_, hb10_, hb11_, hb12_, hb13_, hb14_, hb16_, hb17_, hb18_, hb19_, hb20_, hb22_, hb23_, hb24_, hb25_, hb26_, if_true, Act.put, List.setIfInBounds_toArray, List.set_cons_zero, List.set_cons_succ]
   clear Q_BK286
   clear Q_HI289
   have HB := Aside0.mk Q_HB
   clear Q_HB
   have HO296 := Aside0.mk (Q_HO296 hb2_)
   clear Q_HO296
   clear Q_HI289_e2
   clear Q_HI289_e12
   have HO302 := Aside0.mk (Q_HO302 hb14_)
   clear Q_HO302
   have HA_HO302 := Aside0.mk (Q_HA_HO302 hb14_)
   clear Q_HA_HO302
   clear Q_HI289_e16
   have HI289 := Aside0.mk (Q_HI289_e22 hb22_)
   clear Q_HI289_e22
   have BK286 := Aside0.mk (Q_BK286_e26 hb26_)
   clear Q_BK286_e26
   clear hall hb2_ hb6_ hb10_ hb11_ hb12_ hb13_ hb14_ hb16_ hb17_ hb18_ hb19_ hb20_ hb22_ hb23_ hb24_ hb25_ hb26_
   obtain ⟨co29, eo29⟩ := HA_HO302.out
   clear HA_HO302
   subst eo29
   try go_wp2
   refine bodyPost_ret (results_list (rs := [.tmp 2, .tmp 3, .cell 4 50]) rfl (by simp) (.tmp (.tmp (.cell gb286 50 #[.int .i64 t292, .int .i64 (wrap64 ((wrap64 (t292 + 1)) + t298)), .int .i64 (rd y300 (ji8)), .int .i64 t306] (0, 0) _ rfl (by (with_reducible repeat (first | refine blk_drewN ?_ _ | refine blk_drew ?_ | refine blk_alloc ?_ _)); exact BK286.out) Try.underlying50 rfl (by kernel_rfl) .nil)))) rfl ?_
   exact ⟨_, by first | rfl | (simp [errW_none, errW_some] <;> rfl) | (simp only [← hji8]; first | rfl | (simp [errW_none, errW_some] <;> rfl)) | (simp [*, errW_none, errW_some] <;> rfl), by (with_reducible repeat (first | apply Kd.R_alloc | apply Kd.R_drewN | apply Kd.R_drew)); exact Kd.R_mono HO296.out (fun _ hk => trivial), by repeat (first | (with_reducible first | exact HB.out | apply below_alloc | apply pw_below_drewN | apply below_drew1 | refine below_set ?_ (IsS95.ge HI289.out) | refine below_set ?_ GE286.out) | exact HB.out)⟩
  ·rw [if_neg c10] at H
   exact absurd H (by simp)
 ·rw [if_neg c9] at H
  exact absurd H (by simp)

end Go.Proofs.Ytkapjhlcmicpnaa.PFnSpansPut
