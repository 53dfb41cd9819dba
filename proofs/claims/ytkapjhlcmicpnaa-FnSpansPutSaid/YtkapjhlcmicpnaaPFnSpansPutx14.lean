-- Written by a program of this session (wip/tools) out of the translation; its shape is that of the kit print.
import Derived.Test.YtkapjhlcmicpnaaPFnSpansPutx0
import Derived.Test.YtkapjhlcmicpnaaPFnSpansPutx3
import Derived.Test.YtkapjhlcmicpnaaPFnSpansPutx4
import Derived.Test.YtkapjhlcmicpnaaPFnSpansPutx5
import Derived.Test.YtkapjhlcmicpnaaPFnSpansPutx8
import Derived.Test.YtkapjhlcmicpnaaPFnSpansPutx10
import Derived.Test.YtkapjhlcmicpnaaPFnSpansPutx13
namespace Go.Proofs.Ytkapjhlcmicpnaa.PFnSpansPut
open Go.RowKit Go.Proofs.YtkapjhlcmicpnaaW.PrintWords Go.Proofs.YtkapjhlcmicpnaaW.PrintLast Go.Proofs.YtkapjhlcmicpnaaW.PrintMore
attribute [local go_sem] max2_int min2_int max_two min_two max_three min_three max_four min_four   -- for this text's walks alone
set_option linter.unusedVariables false
set_option linter.unusedSimpArgs false

/-! ### laws_FnSpansPut: function 10 -/
mutual
def laws_FnSpansPut.j0 : Nat → List (S50) → Int → List (S50) → Bool → List (S50) → Bool → Bool → Int → Int → Int → Int → Option (Bool)
 | 0, _, _, _, _, _, _, _, _, _, _, _ => none
 | k + 1, x3, x4, x6, x7, x8, x9, x52, x317000, x317001, x317002, x317003 => if x52 = true then (if (x7 == x9) = true then ((laws_wcSpans.f k x6 x8).bind fun t326 => (some t326)) else (some false)) else (laws_FnSpansPut.l0 k x3 x4 x6 0 x317000 x317001 x317002 x317003)
def laws_FnSpansPut.l0 : Nat → List (S50) → Int → List (S50) → Int → Int → Int → Int → Int → Option (Bool)
 | 0, _, _, _, _, _, _, _, _ => none
 | k + 1, x3, x4, x6, x10, x317000, x317001, x317002, x317003 => if x10 < x4 then ((impl_SpanAt.f k x3 x10).bind fun bt333 => ((laws_wcIn.f x10 x317000 (wrap64 (x317001 - 1))).bind fun t335 => (if t335 = true then ((impl_SpanAt.f k x6 x10).bind fun bt336 => (if x317002 = bt336.1 then (if x317003 = bt336.2 then (laws_FnSpansPut.l0 k x3 x4 x6 (wrap64 (x10 + 1)) x317000 x317001 x317002 x317003) else (some false)) else (some false))) else ((impl_SpanAt.f k x6 x10).bind fun bt338 => (if bt333.1 = bt338.1 then (if bt333.2 = bt338.2 then (laws_FnSpansPut.l0 k x3 x4 x6 (wrap64 (x10 + 1)) x317000 x317001 x317002 x317003) else (some false)) else (some false)))))) else ((impl_SpansPut.f k x6 x4 x317000 x317001 x317002 x317003).bind fun bt327 => ((impl_SpansOk.f k x6 x4).bind fun t331 => (if t331 = true then (if bt327.2 = true then ((laws_wcSpans.f k x6 bt327.1).bind fun t332 => (some t332)) else (some false)) else (some false))))
end
def laws_FnSpansPut.f (k : Nat) (l0 : List Int) : Option (Bool) := if (l0.length : Int) > 1048576 then (some true) else ((spec_DrawSpansPut.f k l0).bind fun bt308 => ((impl_SpansPut.f k bt308.1 bt308.2.1 bt308.2.2.1 bt308.2.2.2.1 bt308.2.2.2.2.1 bt308.2.2.2.2.2).bind fun bt317 => ((spec_SpansPut.f k bt308.1 bt308.2.1 bt308.2.2.1 bt308.2.2.2.1 bt308.2.2.2.2.1 bt308.2.2.2.2.2).bind fun bt321 => (if (bt317.2 != bt321.2) = true then (laws_FnSpansPut.j0 k bt308.1 bt308.2.1 bt317.1 bt317.2 bt321.1 bt321.2 true bt308.2.2.1 bt308.2.2.2.1 bt308.2.2.2.2.1 bt308.2.2.2.2.2) else ((laws_wcSpans.f k bt317.1 bt321.1).bind fun t325 => (if t325 = true then (laws_FnSpansPut.j0 k bt308.1 bt308.2.1 bt317.1 bt317.2 bt321.1 bt321.2 (!bt317.2) bt308.2.2.1 bt308.2.2.2.1 bt308.2.2.2.2.1 bt308.2.2.2.2.2) else (laws_FnSpansPut.j0 k bt308.1 bt308.2.1 bt317.1 bt317.2 bt321.1 bt321.2 true bt308.2.2.1 bt308.2.2.2.1 bt308.2.2.2.2.1 bt308.2.2.2.2.2)))))))
theorem laws_FnSpansPut.mono_l : ∀ k, (∀ y0 y1 y2 y3 y4 y5 y6 y7 y8 y9 y10, LeO (laws_FnSpansPut.j0 k y0 y1 y2 y3 y4 y5 y6 y7 y8 y9 y10) (laws_FnSpansPut.j0 (k + 1) y0 y1 y2 y3 y4 y5 y6 y7 y8 y9 y10)) ∧ (∀ y0 y1 y2 y3 y4 y5 y6 y7, LeO (laws_FnSpansPut.l0 k y0 y1 y2 y3 y4 y5 y6 y7) (laws_FnSpansPut.l0 (k + 1) y0 y1 y2 y3 y4 y5 y6 y7))
 | 0 => ⟨fun _ _ _ _ _ _ _ _ _ _ _ r h => by simp [laws_FnSpansPut.j0] at h, fun _ _ _ _ _ _ _ _ r h => by simp [laws_FnSpansPut.l0] at h⟩
 | k + 1 => by
  obtain ⟨ih0, ih1⟩ := laws_FnSpansPut.mono_l k
  refine ⟨?_, ?_⟩
  ·intro y0 y1 y2 y3 y4 y5 y6 y7 y8 y9 y10
   unfold laws_FnSpansPut.j0
   repeat' first
   | (with_reducible exact ih0 _ _ _ _ _ _ _ _ _ _ _)
   | (with_reducible exact ih1 _ _ _ _ _ _ _ _)
   | (with_reducible exact impl_SpanAt.mono _ _ _)
   | (with_reducible exact impl_SpansOk.mono _ _ _)
   | (with_reducible exact impl_SpansPut.mono _ _ _ _ _ _ _)
   | (with_reducible exact laws_wcSpans.mono _ _ _)
   | (with_reducible exact spec_DrawSpansPut.mono _ _)
   | (with_reducible exact spec_SpansPut.mono _ _ _ _ _ _ _)
   | (with_reducible exact LeO.refl _)
   | (with_reducible exact LeO.none _)
   | (with_reducible refine LeO.ite ?_ ?_)
   | (with_reducible refine LeO.bind ?_ (fun _ => ?_))
   | exact ih0 _ _ _ _ _ _ _ _ _ _ _
   | exact ih1 _ _ _ _ _ _ _ _
   | exact impl_SpanAt.mono _ _ _
   | exact impl_SpansOk.mono _ _ _
   | exact impl_SpansPut.mono _ _ _ _ _ _ _
   | exact laws_wcSpans.mono _ _ _
   | exact spec_DrawSpansPut.mono _ _
   | exact spec_SpansPut.mono _ _ _ _ _ _ _
   | exact LeO.none _
   | refine LeO.ite ?_ ?_
   | refine LeO.bind ?_ (fun _ => ?_)
  ·intro y0 y1 y2 y3 y4 y5 y6 y7
   unfold laws_FnSpansPut.l0
   repeat' first
   | (with_reducible exact ih0 _ _ _ _ _ _ _ _ _ _ _)
   | (with_reducible exact ih1 _ _ _ _ _ _ _ _)
   | (with_reducible exact impl_SpanAt.mono _ _ _)
   | (with_reducible exact impl_SpansOk.mono _ _ _)
   | (with_reducible exact impl_SpansPut.mono _ _ _ _ _ _ _)
   | (with_reducible exact laws_wcSpans.mono _ _ _)
   | (with_reducible exact spec_DrawSpansPut.mono _ _)
   | (with_reducible exact spec_SpansPut.mono _ _ _ _ _ _ _)
   | (with_reducible exact LeO.refl _)
   | (with_reducible exact LeO.none _)
   | (with_reducible refine LeO.ite ?_ ?_)
   | (with_reducible refine LeO.bind ?_ (fun _ => ?_))
   | exact ih0 _ _ _ _ _ _ _ _ _ _ _
   | exact ih1 _ _ _ _ _ _ _ _
   | exact impl_SpanAt.mono _ _ _
   | exact impl_SpansOk.mono _ _ _
   | exact impl_SpansPut.mono _ _ _ _ _ _ _
   | exact laws_wcSpans.mono _ _ _
   | exact spec_DrawSpansPut.mono _ _
   | exact spec_SpansPut.mono _ _ _ _ _ _ _
   | exact LeO.none _
   | refine LeO.ite ?_ ?_
   | refine LeO.bind ?_ (fun _ => ?_)
theorem laws_FnSpansPut.mono : ∀ a0 k, LeO (laws_FnSpansPut.f k a0) (laws_FnSpansPut.f (k + 1) a0) := by
 intro a0 k
 obtain ⟨ih0, ih1⟩ := laws_FnSpansPut.mono_l k
 unfold laws_FnSpansPut.f
 repeat' first
   | (with_reducible exact ih0 _ _ _ _ _ _ _ _ _ _ _)
   | (with_reducible exact ih1 _ _ _ _ _ _ _ _)
   | (with_reducible exact impl_SpanAt.mono _ _ _)
   | (with_reducible exact impl_SpansOk.mono _ _ _)
   | (with_reducible exact impl_SpansPut.mono _ _ _ _ _ _ _)
   | (with_reducible exact laws_wcSpans.mono _ _ _)
   | (with_reducible exact spec_DrawSpansPut.mono _ _)
   | (with_reducible exact spec_SpansPut.mono _ _ _ _ _ _ _)
   | (with_reducible exact LeO.refl _)
   | (with_reducible exact LeO.none _)
   | (with_reducible refine LeO.ite ?_ ?_)
   | (with_reducible refine LeO.bind ?_ (fun _ => ?_))
   | exact ih0 _ _ _ _ _ _ _ _ _ _ _
   | exact ih1 _ _ _ _ _ _ _ _
   | exact impl_SpanAt.mono _ _ _
   | exact impl_SpansOk.mono _ _ _
   | exact impl_SpansPut.mono _ _ _ _ _ _ _
   | exact laws_wcSpans.mono _ _ _
   | exact spec_DrawSpansPut.mono _ _
   | exact spec_SpansPut.mono _ _ _ _ _ _ _
   | exact LeO.none _
   | refine LeO.ite ?_ ?_
   | refine LeO.bind ?_ (fun _ => ?_)
set_option maxHeartbeats 8000000 in
set_option maxRecDepth 100000 in
theorem laws_FnSpansPut.calls (k : Nat) (A0 : Option Addr) (c0 : Nat) (l0 : List Int) (r : Bool) (w : World) (hr0 : Kd.C (Kd.int .u8) w A0 l0.length l0) (hc0 : l0.length ≤ c0) (h : laws_FnSpansPut.f k l0 = some r) :
  Calls Try.prog 10 #[.slice A0 l0.length c0] w fun e w' => e = .returned (.bool r) ∧ Below w.heap.size w w' := by
 have hu50 := Try.underlying50
 have HR0 := Aside0.mk hr0
 have HC0 := Aside0.mk hc0
 clear hr0 hc0
 have HB := Aside0.mk (Below.refl w.heap.size w)
 have H : (if (l0.length : Int) > 1048576 then (some true) else ((spec_DrawSpansPut.f k l0).bind fun bt308 => ((impl_SpansPut.f k bt308.1 bt308.2.1 bt308.2.2.1 bt308.2.2.2.1 bt308.2.2.2.2.1 bt308.2.2.2.2.2).bind fun bt317 => ((spec_SpansPut.f k bt308.1 bt308.2.1 bt308.2.2.1 bt308.2.2.2.1 bt308.2.2.2.2.1 bt308.2.2.2.2.2).bind fun bt321 => (if (bt317.2 != bt321.2) = true then (laws_FnSpansPut.j0 k bt308.1 bt308.2.1 bt317.1 bt317.2 bt321.1 bt321.2 true bt308.2.2.1 bt308.2.2.2.1 bt308.2.2.2.2.1 bt308.2.2.2.2.2) else ((laws_wcSpans.f k bt317.1 bt321.1).bind fun t325 => (if t325 = true then (laws_FnSpansPut.j0 k bt308.1 bt308.2.1 bt317.1 bt317.2 bt321.1 bt321.2 (!bt317.2) bt308.2.2.1 bt308.2.2.2.1 bt308.2.2.2.2.1 bt308.2.2.2.2.2) else (laws_FnSpansPut.j0 k bt308.1 bt308.2.1 bt317.1 bt317.2 bt321.1 bt321.2 true bt308.2.2.1 bt308.2.2.2.1 bt308.2.2.2.2.1 bt308.2.2.2.2.2)))))))) = some r := h
 clear h
 by_cases c2 : (l0.length : Int) > 1048576
 ·rw [if_pos c2] at H
  have c2b0 : decide (1048576 < (l0.length : Int)) = true := decide_eq_true c2
  have c2b1 : decide (1048576 < l0.length) = true := decide_eq_true (by omega)
  clear c2
  obtain rfl := Option.some.inj H
  go_enter Try.func10, Try.ntmps10
  go_wp2
  go_ret
  exact ⟨by first | rfl | (simp [errW_none, errW_some] <;> rfl) | (simp [*, errW_none, errW_some] <;> rfl), by repeat (first | (with_reducible first | exact HB.out | apply below_alloc | apply pw_below_drewN | apply below_drew1) | exact HB.out)⟩
 ·rw [if_neg c2] at H
  have c2b0 : decide (1048576 < (l0.length : Int)) = false := decide_eq_false c2
  have c2b1 : decide (1048576 < l0.length) = false := decide_eq_false (by omega)
  clear c2
  replace H := Option.bind_eq_some_iff.mp H
  obtain ⟨⟨t308, t311, t312, t313, t314, t315⟩, A30, H⟩ := H
  replace H : ((impl_SpansPut.f k t308 t311 t312 t313 t314 t315).bind fun bt317 => ((spec_SpansPut.f k t308 t311 t312 t313 t314 t315).bind fun bt321 => (if (bt317.2 != bt321.2) = true then (laws_FnSpansPut.j0 k t308 t311 bt317.1 bt317.2 bt321.1 bt321.2 true t312 t313 t314 t315) else ((laws_wcSpans.f k bt317.1 bt321.1).bind fun t325 => (if t325 = true then (laws_FnSpansPut.j0 k t308 t311 bt317.1 bt317.2 bt321.1 bt321.2 (!bt317.2) t312 t313 t314 t315) else (laws_FnSpansPut.j0 k t308 t311 bt317.1 bt317.2 bt321.1 bt321.2 true t312 t313 t314 t315)))))) = some r := H
  have A3 := Aside0.mk A30
  clear A30
  replace H := Option.bind_eq_some_iff.mp H
  obtain ⟨⟨t317, t320⟩, A40, H⟩ := H
  replace H : ((spec_SpansPut.f k t308 t311 t312 t313 t314 t315).bind fun bt321 => (if (t320 != bt321.2) = true then (laws_FnSpansPut.j0 k t308 t311 t317 t320 bt321.1 bt321.2 true t312 t313 t314 t315) else ((laws_wcSpans.f k t317 bt321.1).bind fun t325 => (if t325 = true then (laws_FnSpansPut.j0 k t308 t311 t317 t320 bt321.1 bt321.2 (!t320) t312 t313 t314 t315) else (laws_FnSpansPut.j0 k t308 t311 t317 t320 bt321.1 bt321.2 true t312 t313 t314 t315))))) = some r := H
  have A4 := Aside0.mk A40
  clear A40
  replace H := Option.bind_eq_some_iff.mp H
  obtain ⟨⟨t321, t324⟩, A50, H⟩ := H
  replace H : (if (t320 != t324) = true then (laws_FnSpansPut.j0 k t308 t311 t317 t320 t321 t324 true t312 t313 t314 t315) else ((laws_wcSpans.f k t317 t321).bind fun t325 => (if t325 = true then (laws_FnSpansPut.j0 k t308 t311 t317 t320 t321 t324 (!t320) t312 t313 t314 t315) else (laws_FnSpansPut.j0 k t308 t311 t317 t320 t321 t324 true t312 t313 t314 t315)))) = some r := H
  have A5 := Aside0.mk A50
  clear A50
  have HC6 := Aside0.mk H
  clear H
  go_enter Try.func10, Try.ntmps10
  go_upto_region 6 with (first | ((with_reducible refine gate_callee (f := 41) rfl ?_); refine goesL_ (some 22) rfl rfl Try.func41 (by kernel_rfl) rfl #[.slice A0 l0.length c0] rfl (by (try simp only [List.map_toArray, List.map_cons, List.map_nil]); first | done | rfl | (simp only [List.length_drop, List.length_take]; rfl)) ?_; (with_reducible refine (spec_DrawSpansPut.calls k _ _ l0 t308 t311 t312 t313 t314 t315 _ ?side1 ?side2 A3.out).mono ?_); (case side1 => repeat (first | exact HR0.out | (with_reducible refine Kd.C_alloc ?_ _) | (with_reducible refine Kd.C_drewN ?_ _) | (with_reducible refine Kd.C_drew ?_))); (case side2 => exact HC0.out); rintro e w7 ⟨v309, rfl, ho0, hb⟩; refine ⟨_, rfl, ?_⟩; have n0_ := Aside0.mk (Kd.R_lower ho0 (below_size (by repeat (first | (with_reducible first | exact HB.out | apply below_alloc | apply pw_below_drewN | apply below_drew1) | exact HB.out)))); have n1_ := Aside0.mk (below_step (by repeat (first | (with_reducible first | exact HB.out | apply below_alloc | apply pw_below_drewN | apply below_drew1) | exact HB.out)) hb); clear HB; have HO310 := n0_; have HB := n1_; clear n0_ n1_; (try clear hb); (try clear hb2); (try clear hk); (try clear hi); (try clear ho0)) | ((with_reducible refine gate_dst (N := 5) rfl ?_); refine box_event ?hg (N := 5) ?hd (cs := #[.int .i64 0, .int .i64 0, .int .i64 0, .int .i64 0]) (t := 50) ?hr ?_; (case hd => rfl); (case hg => rfl); (case hr => first | (go_simp; done) | (go_simp; rfl)); intro gb316 hg w8 hbox hb; have n0_ := Aside0.mk (Kd.R_below (Kd.R_elderB (by (with_reducible repeat (first | apply Kd.R_alloc | apply Kd.R_drewN | apply Kd.R_drew)); exact HO310.out) gb316 (Nat.le_of_eq hg.symm)) hb); have n1_ := Aside0.mk (below_step (by repeat (first | (with_reducible first | exact HB.out | apply below_alloc | apply pw_below_drewN | apply below_drew1) | exact HB.out)) hb); have n2_ := Aside0.mk (hbox); have n3_ := Aside0.mk ((by rw [hg]; exact (below_size (by repeat (first | (with_reducible first | exact HB.out | apply below_alloc | apply pw_below_drewN | apply below_drew1) | exact HB.out))) : w.heap.size ≤ gb316)); have n4_ := Aside0.mk ((by rw [hg]; exact (below_size (by repeat (first | (with_reducible first | exact HB.out | apply below_alloc | apply pw_below_drewN | apply below_drew1) | exact HB.out))) : w.heap.size ≤ gb316)); clear HO310; clear HB; have HO310 := n0_; have HB := n1_; have BK316 := n2_; have GW316 := n3_; have GE316 := n4_; clear n0_ n1_ n2_ n3_ n4_; clear hb hbox hg; have hcz9_0 : w8.cell? ⟨gb316, 0, none⟩ = some (.int .i64 0) := (blk_cell BK316.out 0).trans rfl; have hcz9_1 : w8.cell? ⟨gb316, 1, none⟩ = some (.int .i64 0) := (blk_cell BK316.out 1).trans rfl; have hcz9_2 : w8.cell? ⟨gb316, 2, none⟩ = some (.int .i64 0) := (blk_cell BK316.out 2).trans rfl; have hcz9_3 : w8.cell? ⟨gb316, 3, none⟩ = some (.int .i64 0) := (blk_cell BK316.out 3).trans rfl; have hfz9_0 := blk_frozen BK316.out 0; have hfz9_1 := blk_frozen BK316.out 1; have hfz9_2 := blk_frozen BK316.out 2; have hfz9_3 := blk_frozen BK316.out 3; obtain ⟨Ao10, co10, eo10⟩ := Kd.R_slice HO310.out; subst eo10) | ((with_reducible refine gate_callee (f := 40) rfl ?_); refine goesL_ (some 30) rfl rfl Try.func40 (by kernel_rfl) rfl #[.slice Ao10 t308.length co10, .int .i64 t311, .agg #[.int .i64 t312, .int .i64 t313, .int .i64 t314, .int .i64 t315]] rfl (by (try simp only [List.map_toArray, List.map_cons, List.map_nil]); first | done | rfl | (simp only [List.length_drop, List.length_take]; rfl)) ?_; (with_reducible refine (impl_SpansPut.calls k _ _ t308 t311 t312 t313 t314 t315 t317 t320 _ ?side1 ?side2 A4.out).mono ?_); (case side1 => refine (Kd.R_reads' (e := 50) (base := w.heap.size) (ok := fun k_ => (True ∧ k_ ≠ gb316)) (n := t308.length) (c := co10) ?_).2.2; exact (by (with_reducible repeat (first | apply Kd.R_alloc | apply Kd.R_drewN | apply Kd.R_drew)); exact (Kd.R_mono (Kd.R_far (p := ⟨gb316, 3, none⟩) (Kd.R_far (p := ⟨gb316, 2, none⟩) (Kd.R_far (p := ⟨gb316, 1, none⟩) (Kd.R_far (p := ⟨gb316, 0, none⟩) (Kd.R_mono HO310.out (fun k_ hk => (⟨hk, hk.2⟩ : _ ∧ k_ ≠ gb316))) (fun _ hk => hk.2) (.int .i64 t312)) (fun _ hk => hk.2) (.int .i64 t313)) (fun _ hk => hk.2) (.int .i64 t314)) (fun _ hk => hk.2) (.int .i64 t315)) (fun _ h_ => h_.1)))); (case side2 => exact (Kd.R_reads' HO310.out).2.1); rintro e w11 ⟨v318, rfl, ho0, hb⟩; refine ⟨_, rfl, ?_⟩; have n0_ := Aside0.mk (Kd.R_elder' (by (with_reducible repeat (first | apply Kd.R_alloc | apply Kd.R_drewN | apply Kd.R_drew)); exact (Kd.R_mono (Kd.R_far (p := ⟨gb316, 3, none⟩) (Kd.R_far (p := ⟨gb316, 2, none⟩) (Kd.R_far (p := ⟨gb316, 1, none⟩) (Kd.R_far (p := ⟨gb316, 0, none⟩) (Kd.R_mono HO310.out (fun k_ hk => (⟨hk, hk.2⟩ : _ ∧ k_ ≠ gb316))) (fun _ hk => hk.2) (.int .i64 t312)) (fun _ hk => hk.2) (.int .i64 t313)) (fun _ hk => hk.2) (.int .i64 t314)) (fun _ hk => hk.2) (.int .i64 t315)) (fun _ h_ => h_.1))) (Kd.R_base ho0) hb); have n1_ := Aside0.mk (Kd.R_lower (Kd.R_newB (Kd.R_new' ho0 (Kd.R_lt (by (with_reducible repeat (first | apply Kd.R_alloc | apply Kd.R_drewN | apply Kd.R_drew)); exact (Kd.R_mono (Kd.R_far (p := ⟨gb316, 3, none⟩) (Kd.R_far (p := ⟨gb316, 2, none⟩) (Kd.R_far (p := ⟨gb316, 1, none⟩) (Kd.R_far (p := ⟨gb316, 0, none⟩) (Kd.R_mono HO310.out (fun k_ hk => (⟨hk, hk.2⟩ : _ ∧ k_ ≠ gb316))) (fun _ hk => hk.2) (.int .i64 t312)) (fun _ hk => hk.2) (.int .i64 t313)) (fun _ hk => hk.2) (.int .i64 t314)) (fun _ hk => hk.2) (.int .i64 t315)) (fun _ h_ => h_.1))))) (g := gb316) (o := .cells #[.int .i64 t312, .int .i64 t313, .int .i64 t314, .int .i64 t315] 50 (0, 0)) (by (with_reducible repeat (first | refine blk_drewN ?_ _ | refine blk_drew ?_ | refine blk_alloc ?_ _)); refine blk_put (cs := #[.int .i64 t312, .int .i64 t313, .int .i64 t314, .int .i64 0]) ?_ 3 _ rfl; (with_reducible repeat (first | refine blk_drewN ?_ _ | refine blk_drew ?_ | refine blk_alloc ?_ _)); refine blk_put (cs := #[.int .i64 t312, .int .i64 t313, .int .i64 0, .int .i64 0]) ?_ 2 _ rfl; (with_reducible repeat (first | refine blk_drewN ?_ _ | refine blk_drew ?_ | refine blk_alloc ?_ _)); refine blk_put (cs := #[.int .i64 t312, .int .i64 0, .int .i64 0, .int .i64 0]) ?_ 1 _ rfl; (with_reducible repeat (first | refine blk_drewN ?_ _ | refine blk_drew ?_ | refine blk_alloc ?_ _)); refine blk_put (cs := #[.int .i64 0, .int .i64 0, .int .i64 0, .int .i64 0]) ?_ 0 _ rfl; (with_reducible repeat (first | refine blk_drewN ?_ _ | refine blk_drew ?_ | refine blk_alloc ?_ _)); exact BK316.out)) (below_size (by repeat (first | (with_reducible first | exact HB.out | apply below_alloc | apply pw_below_drewN | apply below_drew1 | refine below_set ?_ GE316.out) | exact HB.out)))); have n2_ := Aside0.mk (blk_below (g := gb316) (o := .cells #[.int .i64 t312, .int .i64 t313, .int .i64 t314, .int .i64 t315] 50 (0, 0)) (by (with_reducible repeat (first | refine blk_drewN ?_ _ | refine blk_drew ?_ | refine blk_alloc ?_ _)); refine blk_put (cs := #[.int .i64 t312, .int .i64 t313, .int .i64 t314, .int .i64 0]) ?_ 3 _ rfl; (with_reducible repeat (first | refine blk_drewN ?_ _ | refine blk_drew ?_ | refine blk_alloc ?_ _)); refine blk_put (cs := #[.int .i64 t312, .int .i64 t313, .int .i64 0, .int .i64 0]) ?_ 2 _ rfl; (with_reducible repeat (first | refine blk_drewN ?_ _ | refine blk_drew ?_ | refine blk_alloc ?_ _)); refine blk_put (cs := #[.int .i64 t312, .int .i64 0, .int .i64 0, .int .i64 0]) ?_ 1 _ rfl; (with_reducible repeat (first | refine blk_drewN ?_ _ | refine blk_drew ?_ | refine blk_alloc ?_ _)); refine blk_put (cs := #[.int .i64 0, .int .i64 0, .int .i64 0, .int .i64 0]) ?_ 0 _ rfl; (with_reducible repeat (first | refine blk_drewN ?_ _ | refine blk_drew ?_ | refine blk_alloc ?_ _)); exact BK316.out) hb); have n3_ := Aside0.mk (below_step (by repeat (first | (with_reducible first | exact HB.out | apply below_alloc | apply pw_below_drewN | apply below_drew1 | refine below_set ?_ GE316.out) | exact HB.out)) hb); clear HO310; clear BK316; clear HB; have HO310 := n0_; have HO319 := n1_; have BK316 := n2_; have HB := n3_; clear n0_ n1_ n2_ n3_; (try clear hb); (try clear hb2); (try clear hk); (try clear hi); (try clear ho0); have hcz12_0 : w11.cell? ⟨gb316, 0, none⟩ = some (.int .i64 t312) := (blk_cell BK316.out 0).trans rfl; have hcz12_1 : w11.cell? ⟨gb316, 1, none⟩ = some (.int .i64 t313) := (blk_cell BK316.out 1).trans rfl; have hcz12_2 : w11.cell? ⟨gb316, 2, none⟩ = some (.int .i64 t314) := (blk_cell BK316.out 2).trans rfl; have hcz12_3 : w11.cell? ⟨gb316, 3, none⟩ = some (.int .i64 t315) := (blk_cell BK316.out 3).trans rfl; have hfz12_0 := blk_frozen BK316.out 0; have hfz12_1 := blk_frozen BK316.out 1; have hfz12_2 := blk_frozen BK316.out 2; have hfz12_3 := blk_frozen BK316.out 3) | ((with_reducible refine gate_callee (f := 38) rfl ?_); refine goesL_ (some 37) rfl rfl Try.func38 (by kernel_rfl) rfl #[.slice Ao10 t308.length co10, .int .i64 t311, .agg #[.int .i64 t312, .int .i64 t313, .int .i64 t314, .int .i64 t315]] rfl (by (try simp only [List.map_toArray, List.map_cons, List.map_nil]); first | done | rfl | (simp only [List.length_drop, List.length_take]; rfl)) ?_; (with_reducible refine (spec_SpansPut.calls k _ _ t308 t311 t312 t313 t314 t315 t321 t324 _ ?side1 ?side2 A5.out).mono ?_); (case side1 => repeat (first | exact (Kd.R_reads' HO310.out).2.2 | (with_reducible refine Kd.C_alloc ?_ _) | (with_reducible refine Kd.C_drewN ?_ _) | (with_reducible refine Kd.C_drew ?_))); (case side2 => exact (Kd.R_reads' HO310.out).2.1); rintro e w13 ⟨v322, rfl, ho0, hb⟩; refine ⟨_, rfl, ?_⟩; have n0_ := Aside0.mk (Kd.R_elder' (by (with_reducible repeat (first | apply Kd.R_alloc | apply Kd.R_drewN | apply Kd.R_drew)); exact HO310.out) (Kd.R_base ho0) hb); have n1_ := Aside0.mk (Kd.R_elder' (by (with_reducible repeat (first | apply Kd.R_alloc | apply Kd.R_drewN | apply Kd.R_drew)); exact HO319.out) (Kd.R_base ho0) hb); have n2_ := Aside0.mk (Kd.R_lower (Kd.R_newB (Kd.R_new' (Kd.R_new' ho0 (Kd.R_lt (by (with_reducible repeat (first | apply Kd.R_alloc | apply Kd.R_drewN | apply Kd.R_drew)); exact HO310.out))) (Kd.R_lt (by (with_reducible repeat (first | apply Kd.R_alloc | apply Kd.R_drewN | apply Kd.R_drew)); exact HO319.out))) (g := gb316) (o := .cells #[.int .i64 t312, .int .i64 t313, .int .i64 t314, .int .i64 t315] 50 (0, 0)) (by (with_reducible repeat (first | refine blk_drewN ?_ _ | refine blk_drew ?_ | refine blk_alloc ?_ _)); exact BK316.out)) (below_size (by repeat (first | (with_reducible first | exact HB.out | apply below_alloc | apply pw_below_drewN | apply below_drew1 | refine below_set ?_ GE316.out) | exact HB.out)))); have n3_ := Aside0.mk (blk_below (g := gb316) (o := .cells #[.int .i64 t312, .int .i64 t313, .int .i64 t314, .int .i64 t315] 50 (0, 0)) (by (with_reducible repeat (first | refine blk_drewN ?_ _ | refine blk_drew ?_ | refine blk_alloc ?_ _)); exact BK316.out) hb); have n4_ := Aside0.mk (below_step (by repeat (first | (with_reducible first | exact HB.out | apply below_alloc | apply pw_below_drewN | apply below_drew1 | refine below_set ?_ GE316.out) | exact HB.out)) hb); clear HO310; clear HO319; clear BK316; clear HB; have HO310 := n0_; have HO319 := n1_; have HO323 := n2_; have BK316 := n3_; have HB := n4_; clear n0_ n1_ n2_ n3_ n4_; (try clear hb); (try clear hb2); (try clear hk); (try clear hi); (try clear ho0)))
  (try simp only [Act.put, List.setIfInBounds_toArray, List.set_cons_zero, List.set_cons_succ])
  go_cut [52] (fun v52 wc => ∃ (kq : Nat) (x52_5 : Bool), v52 = .bool x52_5 ∧ Aside0 (laws_FnSpansPut.j0 kq t308 t311 t317 t320 t321 t324 x52_5 t312 t313 t314 t315 = some r) ∧ Aside0 (kq ≤ k) ∧ Aside0 (Kd.R k50 50 wc w.heap.size (fun k_ => some k_ ≠ (v318 : Value).ownBlock ∧ some k_ ≠ (v322 : Value).ownBlock ∧ k_ ≠ gb316) (.slice Ao10 t308.length co10) t308) ∧ Aside0 (Kd.R k50 50 wc w.heap.size (fun k_ => some k_ ≠ ((.slice Ao10 t308.length co10) : Value).ownBlock ∧ some k_ ≠ (v322 : Value).ownBlock ∧ k_ ≠ gb316) v318 t317) ∧ Aside0 (Kd.R k50 50 wc w.heap.size (fun k_ => some k_ ≠ ((.slice Ao10 t308.length co10) : Value).ownBlock ∧ some k_ ≠ (v318 : Value).ownBlock ∧ k_ ≠ gb316) v322 t321) ∧ Aside0 (wc.heap[gb316]? = some (.cells #[.int .i64 t312, .int .i64 t313, .int .i64 t314, .int .i64 t315] 50 (0, 0))) ∧ Aside0 (Below w.heap.size w wc))
  case first =>
   have H := HC6.out
   clear HC6
   by_cases c14 : (t320 != t324) = true
   ·rw [if_pos c14] at H
    have c14b0 : (t320 != t324) = true := c14
    (try (have c14b1 : decide (t320 = t324) = false := by simpa using c14))
    (try (have c14b2 : (t320 == t324) = false := by simpa using c14))
    (try (have c14b3 : ¬ (t320 = t324) := by simpa using c14))
    clear c14
    (first | rw [c14b0] | (simp only [i64_w, i32_w]; rw [c14b0]) | skip)
    have H' := Aside0.mk H
    clear H
    go_wp2
    go_meet
    case rel => exact ⟨_, (true), (by first | rfl | (simp; done) | (simp [*]; done)), H', ⟨by first | omega | exact Nat.le_refl _⟩, ⟨by (with_reducible repeat (first | apply Kd.R_alloc | apply Kd.R_drewN | apply Kd.R_drew)); exact Kd.R_mono HO310.out (fun _ hk => ⟨hk.1.2, ⟨hk.2, hk.1.1.2⟩⟩)⟩, ⟨by (with_reducible repeat (first | apply Kd.R_alloc | apply Kd.R_drewN | apply Kd.R_drew)); exact Kd.R_mono HO319.out (fun _ hk => ⟨hk.1.1.2, ⟨hk.2, hk.1.2⟩⟩)⟩, ⟨by (with_reducible repeat (first | apply Kd.R_alloc | apply Kd.R_drewN | apply Kd.R_drew)); exact Kd.R_mono HO323.out (fun _ hk => ⟨hk.1.1.2, ⟨hk.1.2, hk.2⟩⟩)⟩, ⟨by (with_reducible repeat (first | refine blk_drewN ?_ _ | refine blk_drew ?_ | refine blk_alloc ?_ _)); exact BK316.out⟩, ⟨by repeat (first | (with_reducible first | exact HB.out | apply below_alloc | apply pw_below_drewN | apply below_drew1 | refine below_set ?_ GE316.out) | exact HB.out)⟩⟩
   ·rw [if_neg c14] at H
    have c14b0 : (t320 != t324) = false := by simpa using c14
    (try (have c14b1 : decide (t320 = t324) = true := by simpa using c14))
    (try (have c14b2 : (t320 == t324) = true := by simpa using c14))
    clear c14
    (first | rw [c14b0] | (simp only [i64_w, i32_w]; rw [c14b0]) | skip)
    replace H := Option.bind_eq_some_iff.mp H
    obtain ⟨t325, A150, H⟩ := H
    replace H : (if t325 = true then (laws_FnSpansPut.j0 k t308 t311 t317 t320 t321 t324 (!t320) t312 t313 t314 t315) else (laws_FnSpansPut.j0 k t308 t311 t317 t320 t321 t324 true t312 t313 t314 t315)) = some r := H
    have A15 := Aside0.mk A150
    clear A150
    by_cases c16 : t325 = true
    ·subst c16
     have H1 : (laws_FnSpansPut.j0 k t308 t311 t317 t320 t321 t324 (!t320) t312 t313 t314 t315) = some r := by rw [if_pos rfl] at H; exact H
     clear H
     have H := H1
     clear H1
     have H' := Aside0.mk H
     clear H
     obtain ⟨Ao17, co17, eo17⟩ := Kd.R_slice HO319.out
     subst eo17
     obtain ⟨Ao18, co18, eo18⟩ := Kd.R_slice HO323.out
     subst eo18
     go_wp2_with (first | (go_at_call 34; (with_reducible refine (laws_wcSpans.calls k _ _ t317 _ _ t321 true _ ?side1 ?side2 ?side3 ?side4 A15.out).mono ?_); (case side1 => repeat (first | exact (Kd.R_reads' HO319.out).2.2 | (with_reducible refine Kd.C_alloc ?_ _) | (with_reducible refine Kd.C_drewN ?_ _) | (with_reducible refine Kd.C_drew ?_))); (case side2 => exact (Kd.R_reads' HO319.out).2.1); (case side3 => repeat (first | exact (Kd.R_reads' HO323.out).2.2 | (with_reducible refine Kd.C_alloc ?_ _) | (with_reducible refine Kd.C_drewN ?_ _) | (with_reducible refine Kd.C_drew ?_))); (case side4 => exact (Kd.R_reads' HO323.out).2.1); rintro e w' ⟨rfl, ⟨nd, rfl⟩⟩))
     go_meet
     case rel => exact ⟨_, (!t320), (by first | rfl | (simp; done) | (simp [*]; done)), H', ⟨by first | omega | exact Nat.le_refl _⟩, ⟨by (with_reducible repeat (first | apply Kd.R_alloc | apply Kd.R_drewN | apply Kd.R_drew)); exact Kd.R_mono HO310.out (fun _ hk => ⟨hk.1.2, ⟨hk.2, hk.1.1.2⟩⟩)⟩, ⟨by (with_reducible repeat (first | apply Kd.R_alloc | apply Kd.R_drewN | apply Kd.R_drew)); exact Kd.R_mono HO319.out (fun _ hk => ⟨hk.1.1.2, ⟨hk.2, hk.1.2⟩⟩)⟩, ⟨by (with_reducible repeat (first | apply Kd.R_alloc | apply Kd.R_drewN | apply Kd.R_drew)); exact Kd.R_mono HO323.out (fun _ hk => ⟨hk.1.1.2, ⟨hk.1.2, hk.2⟩⟩)⟩, ⟨by (with_reducible repeat (first | refine blk_drewN ?_ _ | refine blk_drew ?_ | refine blk_alloc ?_ _)); exact BK316.out⟩, ⟨by repeat (first | (with_reducible first | exact HB.out | apply below_alloc | apply pw_below_drewN | apply below_drew1 | refine below_set ?_ GE316.out) | exact HB.out)⟩⟩
    ·replace c16 := Bool.eq_false_iff.mpr c16
     subst c16
     have H1 : (laws_FnSpansPut.j0 k t308 t311 t317 t320 t321 t324 true t312 t313 t314 t315) = some r := by rw [if_neg (show ¬ (false = true) by decide)] at H; exact H
     clear H
     have H := H1
     clear H1
     have H' := Aside0.mk H
     clear H
     obtain ⟨Ao19, co19, eo19⟩ := Kd.R_slice HO319.out
     subst eo19
     obtain ⟨Ao20, co20, eo20⟩ := Kd.R_slice HO323.out
     subst eo20
     go_wp2_with (first | (go_at_call 34; (with_reducible refine (laws_wcSpans.calls k _ _ t317 _ _ t321 false _ ?side1 ?side2 ?side3 ?side4 A15.out).mono ?_); (case side1 => repeat (first | exact (Kd.R_reads' HO319.out).2.2 | (with_reducible refine Kd.C_alloc ?_ _) | (with_reducible refine Kd.C_drewN ?_ _) | (with_reducible refine Kd.C_drew ?_))); (case side2 => exact (Kd.R_reads' HO319.out).2.1); (case side3 => repeat (first | exact (Kd.R_reads' HO323.out).2.2 | (with_reducible refine Kd.C_alloc ?_ _) | (with_reducible refine Kd.C_drewN ?_ _) | (with_reducible refine Kd.C_drew ?_))); (case side4 => exact (Kd.R_reads' HO323.out).2.1); rintro e w' ⟨rfl, ⟨nd, rfl⟩⟩))
     go_meet
     case rel => exact ⟨_, (true), (by first | rfl | (simp; done) | (simp [*]; done)), H', ⟨by first | omega | exact Nat.le_refl _⟩, ⟨by (with_reducible repeat (first | apply Kd.R_alloc | apply Kd.R_drewN | apply Kd.R_drew)); exact Kd.R_mono HO310.out (fun _ hk => ⟨hk.1.2, ⟨hk.2, hk.1.1.2⟩⟩)⟩, ⟨by (with_reducible repeat (first | apply Kd.R_alloc | apply Kd.R_drewN | apply Kd.R_drew)); exact Kd.R_mono HO319.out (fun _ hk => ⟨hk.1.1.2, ⟨hk.2, hk.1.2⟩⟩)⟩, ⟨by (with_reducible repeat (first | apply Kd.R_alloc | apply Kd.R_drewN | apply Kd.R_drew)); exact Kd.R_mono HO323.out (fun _ hk => ⟨hk.1.1.2, ⟨hk.1.2, hk.2⟩⟩)⟩, ⟨by (with_reducible repeat (first | refine blk_drewN ?_ _ | refine blk_drew ?_ | refine blk_alloc ?_ _)); exact BK316.out⟩, ⟨by repeat (first | (with_reducible first | exact HB.out | apply below_alloc | apply pw_below_drewN | apply below_drew1 | refine below_set ?_ GE316.out) | exact HB.out)⟩⟩
  case rest =>
   clear HC6
   try clear c1
   try clear c2
   try clear c2b0
   try clear c2b1
   try clear p2
   try clear c3
   try clear c4
   try clear c10
   try clear c14
   try clear c14b0
   try clear c14b1
   try clear c14b2
   try clear c16
   try clear hcz12_0
   try clear hcz12_1
   try clear hcz12_2
   try clear hcz12_3
   try clear hcz9_0
   try clear hcz9_1
   try clear hcz9_2
   try clear hcz9_3
   try clear hfz12_0
   try clear hfz12_1
   try clear hfz12_2
   try clear hfz12_3
   try clear hfz9_0
   try clear hfz9_1
   try clear hfz9_2
   try clear hfz9_3
   obtain ⟨kq, x52_5, rfl, HA, HJ5, HO_3, HO_6, HO_8, BK316, HB⟩ := hcut
   cases kq with
   | zero => exact absurd HA.out (by simp [laws_FnSpansPut.j0])
   | succ kj5 =>
    have H := HA.out
    clear HA
    simp only [laws_FnSpansPut.j0] at H
    by_cases c21 : x52_5 = true
    ·subst c21
     have H1 : (if (t320 == t324) = true then ((laws_wcSpans.f kj5 t317 t321).bind fun t326 => (some t326)) else (some false)) = some r := by rw [if_pos rfl] at H; exact H
     clear H
     have H := H1
     clear H1
     by_cases c22 : (t320 == t324) = true
     ·rw [if_pos c22] at H
      have c22b0 : (t320 == t324) = true := c22
      (try (have c22b1 : decide (t320 = t324) = true := by simpa using c22))
      (try (have c22b2 : (t320 == t324) = true := by simpa using c22))
      clear c22
      replace H := Option.bind_eq_some_iff.mp H
      obtain ⟨t326, A230, H⟩ := H
      replace H : (some t326) = some r := H
      have A23 := Aside0.mk A230
      clear A230
      obtain rfl := Option.some.inj H
      obtain ⟨Ao24, co24, eo24⟩ := Kd.R_slice HO_6.out
      subst eo24
      obtain ⟨Ao25, co25, eo25⟩ := Kd.R_slice HO_8.out
      subst eo25
      go_wp2_with (first | (go_at_call 34; (with_reducible refine (laws_wcSpans.calls kj5 _ _ t317 _ _ t321 t326 _ ?side1 ?side2 ?side3 ?side4 A23.out).mono ?_); (case side1 => repeat (first | exact (Kd.R_reads' HO_6.out).2.2 | (with_reducible refine Kd.C_alloc ?_ _) | (with_reducible refine Kd.C_drewN ?_ _) | (with_reducible refine Kd.C_drew ?_))); (case side2 => exact (Kd.R_reads' HO_6.out).2.1); (case side3 => repeat (first | exact (Kd.R_reads' HO_8.out).2.2 | (with_reducible refine Kd.C_alloc ?_ _) | (with_reducible refine Kd.C_drewN ?_ _) | (with_reducible refine Kd.C_drew ?_))); (case side4 => exact (Kd.R_reads' HO_8.out).2.1); rintro e w' ⟨rfl, ⟨nd, rfl⟩⟩))
      go_ret
      exact ⟨by first | rfl | (simp [errW_none, errW_some] <;> rfl) | (simp [*, errW_none, errW_some] <;> rfl), by repeat (first | (with_reducible first | exact HB.out | apply below_alloc | apply pw_below_drewN | apply below_drew1 | refine below_set ?_ GE316.out) | exact HB.out)⟩
     ·rw [if_neg c22] at H
      have c22b0 : (t320 == t324) = false := by simpa using c22
      (try (have c22b1 : decide (t320 = t324) = false := by simpa using c22))
      (try (have c22b2 : (t320 == t324) = false := by simpa using c22))
      (try (have c22b3 : ¬ (t320 = t324) := by simpa using c22))
      clear c22
      obtain rfl := Option.some.inj H
      go_wp2
      go_ret
      exact ⟨by first | rfl | (simp [errW_none, errW_some] <;> rfl) | (simp [*, errW_none, errW_some] <;> rfl), by repeat (first | (with_reducible first | exact HB.out | apply below_alloc | apply pw_below_drewN | apply below_drew1 | refine below_set ?_ GE316.out) | exact HB.out)⟩
    ·replace c21 := Bool.eq_false_iff.mpr c21
     subst c21
     have H1 : (laws_FnSpansPut.l0 kj5 t308 t311 t317 0 t312 t313 t314 t315) = some r := by rw [if_neg (show ¬ (false = true) by decide)] at H; exact H
     clear H
     have H := H1
     clear H1
     have H' := Aside0.mk H
     clear H
     go_wp2
     go_loopg [10] kj5 (fun kq v10 w' => ∃ (x10_2 : Int), v10 = .int .i64 x10_2 ∧ Aside0 (laws_FnSpansPut.l0 kq t308 t311 t317 x10_2 t312 t313 t314 t315 = some r) ∧ Aside0 (kq ≤ kj5) ∧ Aside0 (Kd.R k50 50 w' w.heap.size (fun k_ => some k_ ≠ (v318 : Value).ownBlock ∧ k_ ≠ gb316) (.slice Ao10 t308.length co10) t308) ∧ Aside0 (Kd.R k50 50 w' w.heap.size (fun k_ => some k_ ≠ ((.slice Ao10 t308.length co10) : Value).ownBlock ∧ k_ ≠ gb316) v318 t317) ∧ Aside0 (w'.heap[gb316]? = some (.cells #[.int .i64 t312, .int .i64 t313, .int .i64 t314, .int .i64 t315] 50 (0, 0))) ∧ Aside0 (Below w.heap.size w w'))
     case atStart => exact ⟨(0), (by first | rfl | (simp; done) | (simp [*]; done)), H', ⟨Nat.le_refl _⟩, ⟨by (with_reducible repeat (first | apply Kd.R_alloc | apply Kd.R_drewN | apply Kd.R_drew)); exact Kd.R_mono HO_3.out (fun _ hk => ⟨hk.1, hk.2.2⟩)⟩, ⟨by (with_reducible repeat (first | apply Kd.R_alloc | apply Kd.R_drewN | apply Kd.R_drew)); exact Kd.R_mono HO_6.out (fun _ hk => ⟨hk.1, hk.2.2⟩)⟩, ⟨by (with_reducible repeat (first | refine blk_drewN ?_ _ | refine blk_drew ?_ | refine blk_alloc ?_ _)); exact BK316.out⟩, ⟨by repeat (first | (with_reducible first | exact HB.out | apply below_alloc | apply pw_below_drewN | apply below_drew1 | refine below_set ?_ GE316.out) | exact HB.out)⟩⟩
     case round =>
      clear H'
      try clear c1
      try clear c2
      try clear c2b0
      try clear c2b1
      try clear p2
      try clear c3
      try clear c4
      try clear c10
      try clear c14
      try clear c14b0
      try clear c14b1
      try clear c14b2
      try clear c16
      try clear c21
      try clear c22
      try clear c22b0
      try clear c22b1
      try clear c22b2
      try clear hcz12_0
      try clear hcz12_1
      try clear hcz12_2
      try clear hcz12_3
      try clear hcz9_0
      try clear hcz9_1
      try clear hcz9_2
      try clear hcz9_3
      try clear hfz12_0
      try clear hfz12_1
      try clear hfz12_2
      try clear hfz12_3
      try clear hfz9_0
      try clear hfz9_1
      try clear hfz9_2
      try clear hfz9_3
      try clear p2
      obtain ⟨x10_2, rfl, HA, HK2, HO_3, HO_6, BK316, HB⟩ := hrel
      cases gk with
      | zero => exact absurd HA.out (by simp [laws_FnSpansPut.l0])
      | succ k2 =>
       have H := HA.out
       clear HA
       simp only [laws_FnSpansPut.l0] at H
       by_cases c26 : x10_2 < t311
       ·rw [if_pos c26] at H
        have c26b0 : decide (x10_2 < t311) = true := decide_eq_true c26
        clear c26
        replace H := Option.bind_eq_some_iff.mp H
        obtain ⟨⟨t333, t334⟩, A270, H⟩ := H
        replace H : ((laws_wcIn.f x10_2 t312 (wrap64 (t313 - 1))).bind fun t335 => (if t335 = true then ((impl_SpanAt.f k2 t317 x10_2).bind fun bt336 => (if t314 = bt336.1 then (if t315 = bt336.2 then (laws_FnSpansPut.l0 k2 t308 t311 t317 (wrap64 (x10_2 + 1)) t312 t313 t314 t315) else (some false)) else (some false))) else ((impl_SpanAt.f k2 t317 x10_2).bind fun bt338 => (if t333 = bt338.1 then (if t334 = bt338.2 then (laws_FnSpansPut.l0 k2 t308 t311 t317 (wrap64 (x10_2 + 1)) t312 t313 t314 t315) else (some false)) else (some false))))) = some r := H
        have A27 := Aside0.mk A270
        clear A270
        replace H := Option.bind_eq_some_iff.mp H
        obtain ⟨t335, A280, H⟩ := H
        replace H : (if t335 = true then ((impl_SpanAt.f k2 t317 x10_2).bind fun bt336 => (if t314 = bt336.1 then (if t315 = bt336.2 then (laws_FnSpansPut.l0 k2 t308 t311 t317 (wrap64 (x10_2 + 1)) t312 t313 t314 t315) else (some false)) else (some false))) else ((impl_SpanAt.f k2 t317 x10_2).bind fun bt338 => (if t333 = bt338.1 then (if t334 = bt338.2 then (laws_FnSpansPut.l0 k2 t308 t311 t317 (wrap64 (x10_2 + 1)) t312 t313 t314 t315) else (some false)) else (some false)))) = some r := H
        have A28 := Aside0.mk A280
        clear A280
        by_cases c29 : t335 = true
        ·subst c29
         have H1 : ((impl_SpanAt.f k2 t317 x10_2).bind fun bt336 => (if t314 = bt336.1 then (if t315 = bt336.2 then (laws_FnSpansPut.l0 k2 t308 t311 t317 (wrap64 (x10_2 + 1)) t312 t313 t314 t315) else (some false)) else (some false))) = some r := by rw [if_pos rfl] at H; exact H
         clear H
         have H := H1
         clear H1
         replace H := Option.bind_eq_some_iff.mp H
         obtain ⟨⟨t336, t337⟩, A300, H⟩ := H
         replace H : (if t314 = t336 then (if t315 = t337 then (laws_FnSpansPut.l0 k2 t308 t311 t317 (wrap64 (x10_2 + 1)) t312 t313 t314 t315) else (some false)) else (some false)) = some r := H
         have A30 := Aside0.mk A300
         clear A300
         by_cases c31 : t314 = t336
         ·rw [if_pos c31] at H
          have c31b0 : (t314 == t336) = true := beq_iff_eq.mpr c31
          have c31b1 : (t314 != t336) = false := bne_eq_false_iff_eq.mpr c31
          clear c31
          by_cases c32 : t315 = t337
          ·rw [if_pos c32] at H
           have c32b0 : (t315 == t337) = true := beq_iff_eq.mpr c32
           have c32b1 : (t315 != t337) = false := bne_eq_false_iff_eq.mpr c32
           clear c32
           have H' := Aside0.mk H
           clear H
           go_wp2_with (first | ((with_reducible refine gate_callee (f := 37) rfl ?_); refine goesL_ (some 69) rfl rfl Try.func37 (by kernel_rfl) rfl #[.slice Ao10 t308.length co10, .int .i64 x10_2] rfl (by (try simp only [List.map_toArray, List.map_cons, List.map_nil]); first | done | rfl | (simp only [List.length_drop, List.length_take]; rfl)) ?_; (with_reducible refine (impl_SpanAt.calls k2 _ _ t308 x10_2 t333 t334 _ ?side1 ?side2 A27.out).mono ?_); (case side1 => repeat (first | exact (Kd.R_reads' HO_3.out).2.2 | (with_reducible refine Kd.C_alloc ?_ _) | (with_reducible refine Kd.C_drewN ?_ _) | (with_reducible refine Kd.C_drew ?_))); (case side2 => exact (Kd.R_reads' HO_3.out).2.1); rintro e w33 ⟨rfl, hb⟩; refine ⟨_, rfl, ?_⟩; have n0_ := Aside0.mk (Kd.R_below (by (with_reducible repeat (first | apply Kd.R_alloc | apply Kd.R_drewN | apply Kd.R_drew)); exact HO_3.out) hb); have n1_ := Aside0.mk (Kd.R_below (by (with_reducible repeat (first | apply Kd.R_alloc | apply Kd.R_drewN | apply Kd.R_drew)); exact HO_6.out) hb); have n2_ := Aside0.mk (blk_below (g := gb316) (o := .cells #[.int .i64 t312, .int .i64 t313, .int .i64 t314, .int .i64 t315] 50 (0, 0)) (by (with_reducible repeat (first | refine blk_drewN ?_ _ | refine blk_drew ?_ | refine blk_alloc ?_ _)); exact BK316.out) hb); have n3_ := Aside0.mk (below_step (by repeat (first | (with_reducible first | exact HB.out | apply below_alloc | apply pw_below_drewN | apply below_drew1 | refine below_set ?_ GE316.out) | exact HB.out)) hb); clear HO_3; clear HO_6; clear BK316; clear HB; have HO_3 := n0_; have HO_6 := n1_; have BK316 := n2_; have HB := n3_; clear n0_ n1_ n2_ n3_; (try clear hb); (try clear hb2); (try clear hk); (try clear hi); have hcz34_0 : w33.cell? ⟨gb316, 0, none⟩ = some (.int .i64 t312) := (blk_cell BK316.out 0).trans rfl; have hcz34_1 : w33.cell? ⟨gb316, 1, none⟩ = some (.int .i64 t313) := (blk_cell BK316.out 1).trans rfl; have hcz34_2 : w33.cell? ⟨gb316, 2, none⟩ = some (.int .i64 t314) := (blk_cell BK316.out 2).trans rfl; have hcz34_3 : w33.cell? ⟨gb316, 3, none⟩ = some (.int .i64 t315) := (blk_cell BK316.out 3).trans rfl; have hfz34_0 := blk_frozen BK316.out 0; have hfz34_1 := blk_frozen BK316.out 1; have hfz34_2 := blk_frozen BK316.out 2; have hfz34_3 := blk_frozen BK316.out 3) | ((with_reducible refine gate_callee (f := 21) rfl ?_); refine goesL_ (some 78) rfl rfl Try.func21 (by kernel_rfl) rfl #[.int .i64 x10_2, .int .i64 t312, .int .i64 (wrap64 (t313 - 1))] rfl (by (try simp only [List.map_toArray, List.map_cons, List.map_nil]); first | done | rfl | (simp only [List.length_drop, List.length_take]; rfl)) ?_; (with_reducible refine (laws_wcIn.calls x10_2 t312 (wrap64 (t313 - 1)) true _ A28.out).mono ?_); rintro e w' ⟨rfl, ⟨nd, rfl⟩⟩; refine ⟨_, rfl, ?_⟩; obtain ⟨Ao35, co35, eo35⟩ := Kd.R_slice HO_6.out; subst eo35) | ((with_reducible refine gate_callee (f := 37) rfl ?_); refine goesL_ (some 86) rfl rfl Try.func37 (by kernel_rfl) rfl #[.slice Ao35 t317.length co35, .int .i64 x10_2] rfl (by (try simp only [List.map_toArray, List.map_cons, List.map_nil]); first | done | rfl | (simp only [List.length_drop, List.length_take]; rfl)) ?_; (with_reducible refine (impl_SpanAt.calls k2 _ _ t317 x10_2 t336 t337 _ ?side1 ?side2 A30.out).mono ?_); (case side1 => repeat (first | exact (Kd.R_reads' HO_6.out).2.2 | (with_reducible refine Kd.C_alloc ?_ _) | (with_reducible refine Kd.C_drewN ?_ _) | (with_reducible refine Kd.C_drew ?_))); (case side2 => exact (Kd.R_reads' HO_6.out).2.1); rintro e w36 ⟨rfl, hb⟩; refine ⟨_, rfl, ?_⟩; have n0_ := Aside0.mk (Kd.R_below (by (with_reducible repeat (first | apply Kd.R_alloc | apply Kd.R_drewN | apply Kd.R_drew)); exact HO_3.out) hb); have n1_ := Aside0.mk (Kd.R_below (by (with_reducible repeat (first | apply Kd.R_alloc | apply Kd.R_drewN | apply Kd.R_drew)); exact HO_6.out) hb); have n2_ := Aside0.mk (blk_below (g := gb316) (o := .cells #[.int .i64 t312, .int .i64 t313, .int .i64 t314, .int .i64 t315] 50 (0, 0)) (by (with_reducible repeat (first | refine blk_drewN ?_ _ | refine blk_drew ?_ | refine blk_alloc ?_ _)); exact BK316.out) hb); have n3_ := Aside0.mk (below_step (by repeat (first | (with_reducible first | exact HB.out | apply below_alloc | apply pw_below_drewN | apply below_drew1 | refine below_set ?_ GE316.out) | exact HB.out)) hb); clear HO_3; clear HO_6; clear BK316; clear HB; have HO_3 := n0_; have HO_6 := n1_; have BK316 := n2_; have HB := n3_; clear n0_ n1_ n2_ n3_; (try clear hb); (try clear hb2); (try clear hk); (try clear hi)))
           go_roundg k2
           case measure => have := HJ5.out; have := HK2.out; omega
           case rel => exact ⟨(wrap64 (x10_2 + 1)), (by first | rfl | (simp; done) | (simp [*]; done)), H', ⟨by have := HJ5.out; have := HK2.out; omega⟩, ⟨by (with_reducible repeat (first | apply Kd.R_alloc | apply Kd.R_drewN | apply Kd.R_drew)); exact HO_3.out⟩, ⟨by (with_reducible repeat (first | apply Kd.R_alloc | apply Kd.R_drewN | apply Kd.R_drew)); exact HO_6.out⟩, ⟨by (with_reducible repeat (first | refine blk_drewN ?_ _ | refine blk_drew ?_ | refine blk_alloc ?_ _)); exact BK316.out⟩, ⟨by repeat (first | (with_reducible first | exact HB.out | apply below_alloc | apply pw_below_drewN | apply below_drew1 | refine below_set ?_ GE316.out) | exact HB.out)⟩⟩
          ·rw [if_neg c32] at H
           have c32b0 : (t315 == t337) = false := beq_eq_false_iff_ne.mpr c32
           have c32b1 : (t315 != t337) = true := bne_iff_ne.mpr c32
           obtain rfl := Option.some.inj H
           go_wp2_with (first | ((with_reducible refine gate_callee (f := 37) rfl ?_); refine goesL_ (some 69) rfl rfl Try.func37 (by kernel_rfl) rfl #[.slice Ao10 t308.length co10, .int .i64 x10_2] rfl (by (try simp only [List.map_toArray, List.map_cons, List.map_nil]); first | done | rfl | (simp only [List.length_drop, List.length_take]; rfl)) ?_; (with_reducible refine (impl_SpanAt.calls k2 _ _ t308 x10_2 t333 t334 _ ?side1 ?side2 A27.out).mono ?_); (case side1 => repeat (first | exact (Kd.R_reads' HO_3.out).2.2 | (with_reducible refine Kd.C_alloc ?_ _) | (with_reducible refine Kd.C_drewN ?_ _) | (with_reducible refine Kd.C_drew ?_))); (case side2 => exact (Kd.R_reads' HO_3.out).2.1); rintro e w37 ⟨rfl, hb⟩; refine ⟨_, rfl, ?_⟩; have n0_ := Aside0.mk (Kd.R_below (by (with_reducible repeat (first | apply Kd.R_alloc | apply Kd.R_drewN | apply Kd.R_drew)); exact HO_3.out) hb); have n1_ := Aside0.mk (Kd.R_below (by (with_reducible repeat (first | apply Kd.R_alloc | apply Kd.R_drewN | apply Kd.R_drew)); exact HO_6.out) hb); have n2_ := Aside0.mk (blk_below (g := gb316) (o := .cells #[.int .i64 t312, .int .i64 t313, .int .i64 t314, .int .i64 t315] 50 (0, 0)) (by (with_reducible repeat (first | refine blk_drewN ?_ _ | refine blk_drew ?_ | refine blk_alloc ?_ _)); exact BK316.out) hb); have n3_ := Aside0.mk (below_step (by repeat (first | (with_reducible first | exact HB.out | apply below_alloc | apply pw_below_drewN | apply below_drew1 | refine below_set ?_ GE316.out) | exact HB.out)) hb); clear HO_3; clear HO_6; clear BK316; clear HB; have HO_3 := n0_; have HO_6 := n1_; have BK316 := n2_; have HB := n3_; clear n0_ n1_ n2_ n3_; (try clear hb); (try clear hb2); (try clear hk); (try clear hi); have hcz38_0 : w37.cell? ⟨gb316, 0, none⟩ = some (.int .i64 t312) := (blk_cell BK316.out 0).trans rfl; have hcz38_1 : w37.cell? ⟨gb316, 1, none⟩ = some (.int .i64 t313) := (blk_cell BK316.out 1).trans rfl; have hcz38_2 : w37.cell? ⟨gb316, 2, none⟩ = some (.int .i64 t314) := (blk_cell BK316.out 2).trans rfl; have hcz38_3 : w37.cell? ⟨gb316, 3, none⟩ = some (.int .i64 t315) := (blk_cell BK316.out 3).trans rfl; have hfz38_0 := blk_frozen BK316.out 0; have hfz38_1 := blk_frozen BK316.out 1; have hfz38_2 := blk_frozen BK316.out 2; have hfz38_3 := blk_frozen BK316.out 3) | ((with_reducible refine gate_callee (f := 21) rfl ?_); refine goesL_ (some 78) rfl rfl Try.func21 (by kernel_rfl) rfl #[.int .i64 x10_2, .int .i64 t312, .int .i64 (wrap64 (t313 - 1))] rfl (by (try simp only [List.map_toArray, List.map_cons, List.map_nil]); first | done | rfl | (simp only [List.length_drop, List.length_take]; rfl)) ?_; (with_reducible refine (laws_wcIn.calls x10_2 t312 (wrap64 (t313 - 1)) true _ A28.out).mono ?_); rintro e w' ⟨rfl, ⟨nd, rfl⟩⟩; refine ⟨_, rfl, ?_⟩; obtain ⟨Ao39, co39, eo39⟩ := Kd.R_slice HO_6.out; subst eo39) | ((with_reducible refine gate_callee (f := 37) rfl ?_); refine goesL_ (some 86) rfl rfl Try.func37 (by kernel_rfl) rfl #[.slice Ao39 t317.length co39, .int .i64 x10_2] rfl (by (try simp only [List.map_toArray, List.map_cons, List.map_nil]); first | done | rfl | (simp only [List.length_drop, List.length_take]; rfl)) ?_; (with_reducible refine (impl_SpanAt.calls k2 _ _ t317 x10_2 t336 t337 _ ?side1 ?side2 A30.out).mono ?_); (case side1 => repeat (first | exact (Kd.R_reads' HO_6.out).2.2 | (with_reducible refine Kd.C_alloc ?_ _) | (with_reducible refine Kd.C_drewN ?_ _) | (with_reducible refine Kd.C_drew ?_))); (case side2 => exact (Kd.R_reads' HO_6.out).2.1); rintro e w40 ⟨rfl, hb⟩; refine ⟨_, rfl, ?_⟩; have n0_ := Aside0.mk (Kd.R_below (by (with_reducible repeat (first | apply Kd.R_alloc | apply Kd.R_drewN | apply Kd.R_drew)); exact HO_3.out) hb); have n1_ := Aside0.mk (Kd.R_below (by (with_reducible repeat (first | apply Kd.R_alloc | apply Kd.R_drewN | apply Kd.R_drew)); exact HO_6.out) hb); have n2_ := Aside0.mk (blk_below (g := gb316) (o := .cells #[.int .i64 t312, .int .i64 t313, .int .i64 t314, .int .i64 t315] 50 (0, 0)) (by (with_reducible repeat (first | refine blk_drewN ?_ _ | refine blk_drew ?_ | refine blk_alloc ?_ _)); exact BK316.out) hb); have n3_ := Aside0.mk (below_step (by repeat (first | (with_reducible first | exact HB.out | apply below_alloc | apply pw_below_drewN | apply below_drew1 | refine below_set ?_ GE316.out) | exact HB.out)) hb); clear HO_3; clear HO_6; clear BK316; clear HB; have HO_3 := n0_; have HO_6 := n1_; have BK316 := n2_; have HB := n3_; clear n0_ n1_ n2_ n3_; (try clear hb); (try clear hb2); (try clear hk); (try clear hi)))
           go_ret
           exact ⟨by first | rfl | (simp [errW_none, errW_some] <;> rfl) | (simp [*, errW_none, errW_some] <;> rfl), by repeat (first | (with_reducible first | exact HB.out | apply below_alloc | apply pw_below_drewN | apply below_drew1 | refine below_set ?_ GE316.out) | exact HB.out)⟩
         ·rw [if_neg c31] at H
          have c31b0 : (t314 == t336) = false := beq_eq_false_iff_ne.mpr c31
          have c31b1 : (t314 != t336) = true := bne_iff_ne.mpr c31
          obtain rfl := Option.some.inj H
          go_wp2_with (first | ((with_reducible refine gate_callee (f := 37) rfl ?_); refine goesL_ (some 69) rfl rfl Try.func37 (by kernel_rfl) rfl #[.slice Ao10 t308.length co10, .int .i64 x10_2] rfl (by (try simp only [List.map_toArray, List.map_cons, List.map_nil]); first | done | rfl | (simp only [List.length_drop, List.length_take]; rfl)) ?_; (with_reducible refine (impl_SpanAt.calls k2 _ _ t308 x10_2 t333 t334 _ ?side1 ?side2 A27.out).mono ?_); (case side1 => repeat (first | exact (Kd.R_reads' HO_3.out).2.2 | (with_reducible refine Kd.C_alloc ?_ _) | (with_reducible refine Kd.C_drewN ?_ _) | (with_reducible refine Kd.C_drew ?_))); (case side2 => exact (Kd.R_reads' HO_3.out).2.1); rintro e w41 ⟨rfl, hb⟩; refine ⟨_, rfl, ?_⟩; have n0_ := Aside0.mk (Kd.R_below (by (with_reducible repeat (first | apply Kd.R_alloc | apply Kd.R_drewN | apply Kd.R_drew)); exact HO_3.out) hb); have n1_ := Aside0.mk (Kd.R_below (by (with_reducible repeat (first | apply Kd.R_alloc | apply Kd.R_drewN | apply Kd.R_drew)); exact HO_6.out) hb); have n2_ := Aside0.mk (blk_below (g := gb316) (o := .cells #[.int .i64 t312, .int .i64 t313, .int .i64 t314, .int .i64 t315] 50 (0, 0)) (by (with_reducible repeat (first | refine blk_drewN ?_ _ | refine blk_drew ?_ | refine blk_alloc ?_ _)); exact BK316.out) hb); have n3_ := Aside0.mk (below_step (by repeat (first | (with_reducible first | exact HB.out | apply below_alloc | apply pw_below_drewN | apply below_drew1 | refine below_set ?_ GE316.out) | exact HB.out)) hb); clear HO_3; clear HO_6; clear BK316; clear HB; have HO_3 := n0_; have HO_6 := n1_; have BK316 := n2_; have HB := n3_; clear n0_ n1_ n2_ n3_; (try clear hb); (try clear hb2); (try clear hk); (try clear hi); have hcz42_0 : w41.cell? ⟨gb316, 0, none⟩ = some (.int .i64 t312) := (blk_cell BK316.out 0).trans rfl; have hcz42_1 : w41.cell? ⟨gb316, 1, none⟩ = some (.int .i64 t313) := (blk_cell BK316.out 1).trans rfl; have hcz42_2 : w41.cell? ⟨gb316, 2, none⟩ = some (.int .i64 t314) := (blk_cell BK316.out 2).trans rfl; have hcz42_3 : w41.cell? ⟨gb316, 3, none⟩ = some (.int .i64 t315) := (blk_cell BK316.out 3).trans rfl; have hfz42_0 := blk_frozen BK316.out 0; have hfz42_1 := blk_frozen BK316.out 1; have hfz42_2 := blk_frozen BK316.out 2; have hfz42_3 := blk_frozen BK316.out 3) | ((with_reducible refine gate_callee (f := 21) rfl ?_); refine goesL_ (some 78) rfl rfl Try.func21 (by kernel_rfl) rfl #[.int .i64 x10_2, .int .i64 t312, .int .i64 (wrap64 (t313 - 1))] rfl (by (try simp only [List.map_toArray, List.map_cons, List.map_nil]); first | done | rfl | (simp only [List.length_drop, List.length_take]; rfl)) ?_; (with_reducible refine (laws_wcIn.calls x10_2 t312 (wrap64 (t313 - 1)) true _ A28.out).mono ?_); rintro e w' ⟨rfl, ⟨nd, rfl⟩⟩; refine ⟨_, rfl, ?_⟩; obtain ⟨Ao43, co43, eo43⟩ := Kd.R_slice HO_6.out; subst eo43) | ((with_reducible refine gate_callee (f := 37) rfl ?_); refine goesL_ (some 86) rfl rfl Try.func37 (by kernel_rfl) rfl #[.slice Ao43 t317.length co43, .int .i64 x10_2] rfl (by (try simp only [List.map_toArray, List.map_cons, List.map_nil]); first | done | rfl | (simp only [List.length_drop, List.length_take]; rfl)) ?_; (with_reducible refine (impl_SpanAt.calls k2 _ _ t317 x10_2 t336 t337 _ ?side1 ?side2 A30.out).mono ?_); (case side1 => repeat (first | exact (Kd.R_reads' HO_6.out).2.2 | (with_reducible refine Kd.C_alloc ?_ _) | (with_reducible refine Kd.C_drewN ?_ _) | (with_reducible refine Kd.C_drew ?_))); (case side2 => exact (Kd.R_reads' HO_6.out).2.1); rintro e w44 ⟨rfl, hb⟩; refine ⟨_, rfl, ?_⟩; have n0_ := Aside0.mk (Kd.R_below (by (with_reducible repeat (first | apply Kd.R_alloc | apply Kd.R_drewN | apply Kd.R_drew)); exact HO_3.out) hb); have n1_ := Aside0.mk (Kd.R_below (by (with_reducible repeat (first | apply Kd.R_alloc | apply Kd.R_drewN | apply Kd.R_drew)); exact HO_6.out) hb); have n2_ := Aside0.mk (blk_below (g := gb316) (o := .cells #[.int .i64 t312, .int .i64 t313, .int .i64 t314, .int .i64 t315] 50 (0, 0)) (by (with_reducible repeat (first | refine blk_drewN ?_ _ | refine blk_drew ?_ | refine blk_alloc ?_ _)); exact BK316.out) hb); have n3_ := Aside0.mk (below_step (by repeat (first | (with_reducible first | exact HB.out | apply below_alloc | apply pw_below_drewN | apply below_drew1 | refine below_set ?_ GE316.out) | exact HB.out)) hb); clear HO_3; clear HO_6; clear BK316; clear HB; have HO_3 := n0_; have HO_6 := n1_; have BK316 := n2_; have HB := n3_; clear n0_ n1_ n2_ n3_; (try clear hb); (try clear hb2); (try clear hk); (try clear hi)))
          go_ret
          exact ⟨by first | rfl | (simp [errW_none, errW_some] <;> rfl) | (simp [*, errW_none, errW_some] <;> rfl), by repeat (first | (with_reducible first | exact HB.out | apply below_alloc | apply pw_below_drewN | apply below_drew1 | refine below_set ?_ GE316.out) | exact HB.out)⟩
        ·replace c29 := Bool.eq_false_iff.mpr c29
         subst c29
         have H1 : ((impl_SpanAt.f k2 t317 x10_2).bind fun bt338 => (if t333 = bt338.1 then (if t334 = bt338.2 then (laws_FnSpansPut.l0 k2 t308 t311 t317 (wrap64 (x10_2 + 1)) t312 t313 t314 t315) else (some false)) else (some false))) = some r := by rw [if_neg (show ¬ (false = true) by decide)] at H; exact H
         clear H
         have H := H1
         clear H1
         replace H := Option.bind_eq_some_iff.mp H
         obtain ⟨⟨t338, t339⟩, A450, H⟩ := H
         replace H : (if t333 = t338 then (if t334 = t339 then (laws_FnSpansPut.l0 k2 t308 t311 t317 (wrap64 (x10_2 + 1)) t312 t313 t314 t315) else (some false)) else (some false)) = some r := H
         have A45 := Aside0.mk A450
         clear A450
         by_cases c46 : t333 = t338
         ·rw [if_pos c46] at H
          have c46b0 : (t333 == t338) = true := beq_iff_eq.mpr c46
          have c46b1 : (t333 != t338) = false := bne_eq_false_iff_eq.mpr c46
          clear c46
          by_cases c47 : t334 = t339
          ·rw [if_pos c47] at H
           have c47b0 : (t334 == t339) = true := beq_iff_eq.mpr c47
           have c47b1 : (t334 != t339) = false := bne_eq_false_iff_eq.mpr c47
           clear c47
           have H' := Aside0.mk H
           clear H
           go_wp2_with (first | ((with_reducible refine gate_callee (f := 37) rfl ?_); refine goesL_ (some 69) rfl rfl Try.func37 (by kernel_rfl) rfl #[.slice Ao10 t308.length co10, .int .i64 x10_2] rfl (by (try simp only [List.map_toArray, List.map_cons, List.map_nil]); first | done | rfl | (simp only [List.length_drop, List.length_take]; rfl)) ?_; (with_reducible refine (impl_SpanAt.calls k2 _ _ t308 x10_2 t333 t334 _ ?side1 ?side2 A27.out).mono ?_); (case side1 => repeat (first | exact (Kd.R_reads' HO_3.out).2.2 | (with_reducible refine Kd.C_alloc ?_ _) | (with_reducible refine Kd.C_drewN ?_ _) | (with_reducible refine Kd.C_drew ?_))); (case side2 => exact (Kd.R_reads' HO_3.out).2.1); rintro e w48 ⟨rfl, hb⟩; refine ⟨_, rfl, ?_⟩; have n0_ := Aside0.mk (Kd.R_below (by (with_reducible repeat (first | apply Kd.R_alloc | apply Kd.R_drewN | apply Kd.R_drew)); exact HO_3.out) hb); have n1_ := Aside0.mk (Kd.R_below (by (with_reducible repeat (first | apply Kd.R_alloc | apply Kd.R_drewN | apply Kd.R_drew)); exact HO_6.out) hb); have n2_ := Aside0.mk (blk_below (g := gb316) (o := .cells #[.int .i64 t312, .int .i64 t313, .int .i64 t314, .int .i64 t315] 50 (0, 0)) (by (with_reducible repeat (first | refine blk_drewN ?_ _ | refine blk_drew ?_ | refine blk_alloc ?_ _)); exact BK316.out) hb); have n3_ := Aside0.mk (below_step (by repeat (first | (with_reducible first | exact HB.out | apply below_alloc | apply pw_below_drewN | apply below_drew1 | refine below_set ?_ GE316.out) | exact HB.out)) hb); clear HO_3; clear HO_6; clear BK316; clear HB; have HO_3 := n0_; have HO_6 := n1_; have BK316 := n2_; have HB := n3_; clear n0_ n1_ n2_ n3_; (try clear hb); (try clear hb2); (try clear hk); (try clear hi); have hcz49_0 : w48.cell? ⟨gb316, 0, none⟩ = some (.int .i64 t312) := (blk_cell BK316.out 0).trans rfl; have hcz49_1 : w48.cell? ⟨gb316, 1, none⟩ = some (.int .i64 t313) := (blk_cell BK316.out 1).trans rfl; have hcz49_2 : w48.cell? ⟨gb316, 2, none⟩ = some (.int .i64 t314) := (blk_cell BK316.out 2).trans rfl; have hcz49_3 : w48.cell? ⟨gb316, 3, none⟩ = some (.int .i64 t315) := (blk_cell BK316.out 3).trans rfl; have hfz49_0 := blk_frozen BK316.out 0; have hfz49_1 := blk_frozen BK316.out 1; have hfz49_2 := blk_frozen BK316.out 2; have hfz49_3 := blk_frozen BK316.out 3) | ((with_reducible refine gate_callee (f := 21) rfl ?_); refine goesL_ (some 78) rfl rfl Try.func21 (by kernel_rfl) rfl #[.int .i64 x10_2, .int .i64 t312, .int .i64 (wrap64 (t313 - 1))] rfl (by (try simp only [List.map_toArray, List.map_cons, List.map_nil]); first | done | rfl | (simp only [List.length_drop, List.length_take]; rfl)) ?_; (with_reducible refine (laws_wcIn.calls x10_2 t312 (wrap64 (t313 - 1)) false _ A28.out).mono ?_); rintro e w' ⟨rfl, ⟨nd, rfl⟩⟩; refine ⟨_, rfl, ?_⟩; obtain ⟨Ao50, co50, eo50⟩ := Kd.R_slice HO_6.out; subst eo50) | ((with_reducible refine gate_callee (f := 37) rfl ?_); refine goesL_ (some 86) rfl rfl Try.func37 (by kernel_rfl) rfl #[.slice Ao50 t317.length co50, .int .i64 x10_2] rfl (by (try simp only [List.map_toArray, List.map_cons, List.map_nil]); first | done | rfl | (simp only [List.length_drop, List.length_take]; rfl)) ?_; (with_reducible refine (impl_SpanAt.calls k2 _ _ t317 x10_2 t338 t339 _ ?side1 ?side2 A45.out).mono ?_); (case side1 => repeat (first | exact (Kd.R_reads' HO_6.out).2.2 | (with_reducible refine Kd.C_alloc ?_ _) | (with_reducible refine Kd.C_drewN ?_ _) | (with_reducible refine Kd.C_drew ?_))); (case side2 => exact (Kd.R_reads' HO_6.out).2.1); rintro e w51 ⟨rfl, hb⟩; refine ⟨_, rfl, ?_⟩; have n0_ := Aside0.mk (Kd.R_below (by (with_reducible repeat (first | apply Kd.R_alloc | apply Kd.R_drewN | apply Kd.R_drew)); exact HO_3.out) hb); have n1_ := Aside0.mk (Kd.R_below (by (with_reducible repeat (first | apply Kd.R_alloc | apply Kd.R_drewN | apply Kd.R_drew)); exact HO_6.out) hb); have n2_ := Aside0.mk (blk_below (g := gb316) (o := .cells #[.int .i64 t312, .int .i64 t313, .int .i64 t314, .int .i64 t315] 50 (0, 0)) (by (with_reducible repeat (first | refine blk_drewN ?_ _ | refine blk_drew ?_ | refine blk_alloc ?_ _)); exact BK316.out) hb); have n3_ := Aside0.mk (below_step (by repeat (first | (with_reducible first | exact HB.out | apply below_alloc | apply pw_below_drewN | apply below_drew1 | refine below_set ?_ GE316.out) | exact HB.out)) hb); clear HO_3; clear HO_6; clear BK316; clear HB; have HO_3 := n0_; have HO_6 := n1_; have BK316 := n2_; have HB := n3_; clear n0_ n1_ n2_ n3_; (try clear hb); (try clear hb2); (try clear hk); (try clear hi)))
           go_roundg k2
           case measure => have := HJ5.out; have := HK2.out; omega
           case rel => exact ⟨(wrap64 (x10_2 + 1)), (by first | rfl | (simp; done) | (simp [*]; done)), H', ⟨by have := HJ5.out; have := HK2.out; omega⟩, ⟨by (with_reducible repeat (first | apply Kd.R_alloc | apply Kd.R_drewN | apply Kd.R_drew)); exact HO_3.out⟩, ⟨by (with_reducible repeat (first | apply Kd.R_alloc | apply Kd.R_drewN | apply Kd.R_drew)); exact HO_6.out⟩, ⟨by (with_reducible repeat (first | refine blk_drewN ?_ _ | refine blk_drew ?_ | refine blk_alloc ?_ _)); exact BK316.out⟩, ⟨by repeat (first | (with_reducible first | exact HB.out | apply below_alloc | apply pw_below_drewN | apply below_drew1 | refine below_set ?_ GE316.out) | exact HB.out)⟩⟩
          ·rw [if_neg c47] at H
           have c47b0 : (t334 == t339) = false := beq_eq_false_iff_ne.mpr c47
           have c47b1 : (t334 != t339) = true := bne_iff_ne.mpr c47
           obtain rfl := Option.some.inj H
           go_wp2_with (first | ((with_reducible refine gate_callee (f := 37) rfl ?_); refine goesL_ (some 69) rfl rfl Try.func37 (by kernel_rfl) rfl #[.slice Ao10 t308.length co10, .int .i64 x10_2] rfl (by (try simp only [List.map_toArray, List.map_cons, List.map_nil]); first | done | rfl | (simp only [List.length_drop, List.length_take]; rfl)) ?_; (with_reducible refine (impl_SpanAt.calls k2 _ _ t308 x10_2 t333 t334 _ ?side1 ?side2 A27.out).mono ?_); (case side1 => repeat (first | exact (Kd.R_reads' HO_3.out).2.2 | (with_reducible refine Kd.C_alloc ?_ _) | (with_reducible refine Kd.C_drewN ?_ _) | (with_reducible refine Kd.C_drew ?_))); (case side2 => exact (Kd.R_reads' HO_3.out).2.1); rintro e w52 ⟨rfl, hb⟩; refine ⟨_, rfl, ?_⟩; have n0_ := Aside0.mk (Kd.R_below (by (with_reducible repeat (first | apply Kd.R_alloc | apply Kd.R_drewN | apply Kd.R_drew)); exact HO_3.out) hb); have n1_ := Aside0.mk (Kd.R_below (by (with_reducible repeat (first | apply Kd.R_alloc | apply Kd.R_drewN | apply Kd.R_drew)); exact HO_6.out) hb); have n2_ := Aside0.mk (blk_below (g := gb316) (o := .cells #[.int .i64 t312, .int .i64 t313, .int .i64 t314, .int .i64 t315] 50 (0, 0)) (by (with_reducible repeat (first | refine blk_drewN ?_ _ | refine blk_drew ?_ | refine blk_alloc ?_ _)); exact BK316.out) hb); have n3_ := Aside0.mk (below_step (by repeat (first | (with_reducible first | exact HB.out | apply below_alloc | apply pw_below_drewN | apply below_drew1 | refine below_set ?_ GE316.out) | exact HB.out)) hb); clear HO_3; clear HO_6; clear BK316; clear HB; have HO_3 := n0_; have HO_6 := n1_; have BK316 := n2_; have HB := n3_; clear n0_ n1_ n2_ n3_; (try clear hb); (try clear hb2); (try clear hk); (try clear hi); have hcz53_0 : w52.cell? ⟨gb316, 0, none⟩ = some (.int .i64 t312) := (blk_cell BK316.out 0).trans rfl; have hcz53_1 : w52.cell? ⟨gb316, 1, none⟩ = some (.int .i64 t313) := (blk_cell BK316.out 1).trans rfl; have hcz53_2 : w52.cell? ⟨gb316, 2, none⟩ = some (.int .i64 t314) := (blk_cell BK316.out 2).trans rfl; have hcz53_3 : w52.cell? ⟨gb316, 3, none⟩ = some (.int .i64 t315) := (blk_cell BK316.out 3).trans rfl; have hfz53_0 := blk_frozen BK316.out 0; have hfz53_1 := blk_frozen BK316.out 1; have hfz53_2 := blk_frozen BK316.out 2; have hfz53_3 := blk_frozen BK316.out 3) | ((with_reducible refine gate_callee (f := 21) rfl ?_); refine goesL_ (some 78) rfl rfl Try.func21 (by kernel_rfl) rfl #[.int .i64 x10_2, .int .i64 t312, .int .i64 (wrap64 (t313 - 1))] rfl (by (try simp only [List.map_toArray, List.map_cons, List.map_nil]); first | done | rfl | (simp only [List.length_drop, List.length_take]; rfl)) ?_; (with_reducible refine (laws_wcIn.calls x10_2 t312 (wrap64 (t313 - 1)) false _ A28.out).mono ?_); rintro e w' ⟨rfl, ⟨nd, rfl⟩⟩; refine ⟨_, rfl, ?_⟩; obtain ⟨Ao54, co54, eo54⟩ := Kd.R_slice HO_6.out; subst eo54) | ((with_reducible refine gate_callee (f := 37) rfl ?_); refine goesL_ (some 86) rfl rfl Try.func37 (by kernel_rfl) rfl #[.slice Ao54 t317.length co54, .int .i64 x10_2] rfl (by (try simp only [List.map_toArray, List.map_cons, List.map_nil]); first | done | rfl | (simp only [List.length_drop, List.length_take]; rfl)) ?_; (with_reducible refine (impl_SpanAt.calls k2 _ _ t317 x10_2 t338 t339 _ ?side1 ?side2 A45.out).mono ?_); (case side1 => repeat (first | exact (Kd.R_reads' HO_6.out).2.2 | (with_reducible refine Kd.C_alloc ?_ _) | (with_reducible refine Kd.C_drewN ?_ _) | (with_reducible refine Kd.C_drew ?_))); (case side2 => exact (Kd.R_reads' HO_6.out).2.1); rintro e w55 ⟨rfl, hb⟩; refine ⟨_, rfl, ?_⟩; have n0_ := Aside0.mk (Kd.R_below (by (with_reducible repeat (first | apply Kd.R_alloc | apply Kd.R_drewN | apply Kd.R_drew)); exact HO_3.out) hb); have n1_ := Aside0.mk (Kd.R_below (by (with_reducible repeat (first | apply Kd.R_alloc | apply Kd.R_drewN | apply Kd.R_drew)); exact HO_6.out) hb); have n2_ := Aside0.mk (blk_below (g := gb316) (o := .cells #[.int .i64 t312, .int .i64 t313, .int .i64 t314, .int .i64 t315] 50 (0, 0)) (by (with_reducible repeat (first | refine blk_drewN ?_ _ | refine blk_drew ?_ | refine blk_alloc ?_ _)); exact BK316.out) hb); have n3_ := Aside0.mk (below_step (by repeat (first | (with_reducible first | exact HB.out | apply below_alloc | apply pw_below_drewN | apply below_drew1 | refine below_set ?_ GE316.out) | exact HB.out)) hb); clear HO_3; clear HO_6; clear BK316; clear HB; have HO_3 := n0_; have HO_6 := n1_; have BK316 := n2_; have HB := n3_; clear n0_ n1_ n2_ n3_; (try clear hb); (try clear hb2); (try clear hk); (try clear hi)))
           go_ret
           exact ⟨by first | rfl | (simp [errW_none, errW_some] <;> rfl) | (simp [*, errW_none, errW_some] <;> rfl), by repeat (first | (with_reducible first | exact HB.out | apply below_alloc | apply pw_below_drewN | apply below_drew1 | refine below_set ?_ GE316.out) | exact HB.out)⟩
         ·rw [if_neg c46] at H
          have c46b0 : (t333 == t338) = false := beq_eq_false_iff_ne.mpr c46
          have c46b1 : (t333 != t338) = true := bne_iff_ne.mpr c46
          obtain rfl := Option.some.inj H
          go_wp2_with (first | ((with_reducible refine gate_callee (f := 37) rfl ?_); refine goesL_ (some 69) rfl rfl Try.func37 (by kernel_rfl) rfl #[.slice Ao10 t308.length co10, .int .i64 x10_2] rfl (by (try simp only [List.map_toArray, List.map_cons, List.map_nil]); first | done | rfl | (simp only [List.length_drop, List.length_take]; rfl)) ?_; (with_reducible refine (impl_SpanAt.calls k2 _ _ t308 x10_2 t333 t334 _ ?side1 ?side2 A27.out).mono ?_); (case side1 => repeat (first | exact (Kd.R_reads' HO_3.out).2.2 | (with_reducible refine Kd.C_alloc ?_ _) | (with_reducible refine Kd.C_drewN ?_ _) | (with_reducible refine Kd.C_drew ?_))); (case side2 => exact (Kd.R_reads' HO_3.out).2.1); rintro e w56 ⟨rfl, hb⟩; refine ⟨_, rfl, ?_⟩; have n0_ := Aside0.mk (Kd.R_below (by (with_reducible repeat (first | apply Kd.R_alloc | apply Kd.R_drewN | apply Kd.R_drew)); exact HO_3.out) hb); have n1_ := Aside0.mk (Kd.R_below (by (with_reducible repeat (first | apply Kd.R_alloc | apply Kd.R_drewN | apply Kd.R_drew)); exact HO_6.out) hb); have n2_ := Aside0.mk (blk_below (g := gb316) (o := .cells #[.int .i64 t312, .int .i64 t313, .int .i64 t314, .int .i64 t315] 50 (0, 0)) (by (with_reducible repeat (first | refine blk_drewN ?_ _ | refine blk_drew ?_ | refine blk_alloc ?_ _)); exact BK316.out) hb); have n3_ := Aside0.mk (below_step (by repeat (first | (with_reducible first | exact HB.out | apply below_alloc | apply pw_below_drewN | apply below_drew1 | refine below_set ?_ GE316.out) | exact HB.out)) hb); clear HO_3; clear HO_6; clear BK316; clear HB; have HO_3 := n0_; have HO_6 := n1_; have BK316 := n2_; have HB := n3_; clear n0_ n1_ n2_ n3_; (try clear hb); (try clear hb2); (try clear hk); (try clear hi); have hcz57_0 : w56.cell? ⟨gb316, 0, none⟩ = some (.int .i64 t312) := (blk_cell BK316.out 0).trans rfl; have hcz57_1 : w56.cell? ⟨gb316, 1, none⟩ = some (.int .i64 t313) := (blk_cell BK316.out 1).trans rfl; have hcz57_2 : w56.cell? ⟨gb316, 2, none⟩ = some (.int .i64 t314) := (blk_cell BK316.out 2).trans rfl; have hcz57_3 : w56.cell? ⟨gb316, 3, none⟩ = some (.int .i64 t315) := (blk_cell BK316.out 3).trans rfl; have hfz57_0 := blk_frozen BK316.out 0; have hfz57_1 := blk_frozen BK316.out 1; have hfz57_2 := blk_frozen BK316.out 2; have hfz57_3 := blk_frozen BK316.out 3) | ((with_reducible refine gate_callee (f := 21) rfl ?_); refine goesL_ (some 78) rfl rfl Try.func21 (by kernel_rfl) rfl #[.int .i64 x10_2, .int .i64 t312, .int .i64 (wrap64 (t313 - 1))] rfl (by (try simp only [List.map_toArray, List.map_cons, List.map_nil]); first | done | rfl | (simp only [List.length_drop, List.length_take]; rfl)) ?_; (with_reducible refine (laws_wcIn.calls x10_2 t312 (wrap64 (t313 - 1)) false _ A28.out).mono ?_); rintro e w' ⟨rfl, ⟨nd, rfl⟩⟩; refine ⟨_, rfl, ?_⟩; obtain ⟨Ao58, co58, eo58⟩ := Kd.R_slice HO_6.out; subst eo58) | ((with_reducible refine gate_callee (f := 37) rfl ?_); refine goesL_ (some 86) rfl rfl Try.func37 (by kernel_rfl) rfl #[.slice Ao58 t317.length co58, .int .i64 x10_2] rfl (by (try simp only [List.map_toArray, List.map_cons, List.map_nil]); first | done | rfl | (simp only [List.length_drop, List.length_take]; rfl)) ?_; (with_reducible refine (impl_SpanAt.calls k2 _ _ t317 x10_2 t338 t339 _ ?side1 ?side2 A45.out).mono ?_); (case side1 => repeat (first | exact (Kd.R_reads' HO_6.out).2.2 | (with_reducible refine Kd.C_alloc ?_ _) | (with_reducible refine Kd.C_drewN ?_ _) | (with_reducible refine Kd.C_drew ?_))); (case side2 => exact (Kd.R_reads' HO_6.out).2.1); rintro e w59 ⟨rfl, hb⟩; refine ⟨_, rfl, ?_⟩; have n0_ := Aside0.mk (Kd.R_below (by (with_reducible repeat (first | apply Kd.R_alloc | apply Kd.R_drewN | apply Kd.R_drew)); exact HO_3.out) hb); have n1_ := Aside0.mk (Kd.R_below (by (with_reducible repeat (first | apply Kd.R_alloc | apply Kd.R_drewN | apply Kd.R_drew)); exact HO_6.out) hb); have n2_ := Aside0.mk (blk_below (g := gb316) (o := .cells #[.int .i64 t312, .int .i64 t313, .int .i64 t314, .int .i64 t315] 50 (0, 0)) (by (with_reducible repeat (first | refine blk_drewN ?_ _ | refine blk_drew ?_ | refine blk_alloc ?_ _)); exact BK316.out) hb); have n3_ := Aside0.mk (below_step (by repeat (first | (with_reducible first | exact HB.out | apply below_alloc | apply pw_below_drewN | apply below_drew1 | refine below_set ?_ GE316.out) | exact HB.out)) hb); clear HO_3; clear HO_6; clear BK316; clear HB; have HO_3 := n0_; have HO_6 := n1_; have BK316 := n2_; have HB := n3_; clear n0_ n1_ n2_ n3_; (try clear hb); (try clear hb2); (try clear hk); (try clear hi)))
          go_ret
          exact ⟨by first | rfl | (simp [errW_none, errW_some] <;> rfl) | (simp [*, errW_none, errW_some] <;> rfl), by repeat (first | (with_reducible first | exact HB.out | apply below_alloc | apply pw_below_drewN | apply below_drew1 | refine below_set ?_ GE316.out) | exact HB.out)⟩
       ·rw [if_neg c26] at H
        have c26b0 : decide (x10_2 < t311) = false := decide_eq_false c26
        clear c26
        replace H := Option.bind_eq_some_iff.mp H
        obtain ⟨⟨t327, t330⟩, A600, H⟩ := H
        replace H : ((impl_SpansOk.f k2 t317 t311).bind fun t331 => (if t331 = true then (if t330 = true then ((laws_wcSpans.f k2 t317 t327).bind fun t332 => (some t332)) else (some false)) else (some false))) = some r := H
        have A60 := Aside0.mk A600
        clear A600
        replace H := Option.bind_eq_some_iff.mp H
        obtain ⟨t331, A610, H⟩ := H
        replace H : (if t331 = true then (if t330 = true then ((laws_wcSpans.f k2 t317 t327).bind fun t332 => (some t332)) else (some false)) else (some false)) = some r := H
        have A61 := Aside0.mk A610
        clear A610
        by_cases c62 : t331 = true
        ·subst c62
         have H1 : (if t330 = true then ((laws_wcSpans.f k2 t317 t327).bind fun t332 => (some t332)) else (some false)) = some r := by rw [if_pos rfl] at H; exact H
         clear H
         have H := H1
         clear H1
         by_cases c63 : t330 = true
         ·subst c63
          have H1 : ((laws_wcSpans.f k2 t317 t327).bind fun t332 => (some t332)) = some r := by rw [if_pos rfl] at H; exact H
          clear H
          have H := H1
          clear H1
          replace H := Option.bind_eq_some_iff.mp H
          obtain ⟨t332, A640, H⟩ := H
          replace H : (some t332) = some r := H
          have A64 := Aside0.mk A640
          clear A640
          obtain rfl := Option.some.inj H
          have hcz65_0 : wr.cell? ⟨gb316, 0, none⟩ = some (.int .i64 t312) := (blk_cell BK316.out 0).trans rfl
          have hcz65_1 : wr.cell? ⟨gb316, 1, none⟩ = some (.int .i64 t313) := (blk_cell BK316.out 1).trans rfl
          have hcz65_2 : wr.cell? ⟨gb316, 2, none⟩ = some (.int .i64 t314) := (blk_cell BK316.out 2).trans rfl
          have hcz65_3 : wr.cell? ⟨gb316, 3, none⟩ = some (.int .i64 t315) := (blk_cell BK316.out 3).trans rfl
          have hfz65_0 := blk_frozen BK316.out 0
          have hfz65_1 := blk_frozen BK316.out 1
          have hfz65_2 := blk_frozen BK316.out 2
          have hfz65_3 := blk_frozen BK316.out 3
          obtain ⟨Ao66, co66, eo66⟩ := Kd.R_slice HO_6.out
          subst eo66
          go_wp2_with (first | ((with_reducible refine gate_callee (f := 40) rfl ?_); refine goesL_ (some 101) rfl rfl Try.func40 (by kernel_rfl) rfl #[.slice Ao66 t317.length co66, .int .i64 t311, .agg #[.int .i64 t312, .int .i64 t313, .int .i64 t314, .int .i64 t315]] rfl (by (try simp only [List.map_toArray, List.map_cons, List.map_nil]); first | done | rfl | (simp only [List.length_drop, List.length_take]; rfl)) ?_; (with_reducible refine (impl_SpansPut.calls k2 _ _ t317 t311 t312 t313 t314 t315 t327 true _ ?side1 ?side2 A60.out).mono ?_); (case side1 => repeat (first | exact (Kd.R_reads' HO_6.out).2.2 | (with_reducible refine Kd.C_alloc ?_ _) | (with_reducible refine Kd.C_drewN ?_ _) | (with_reducible refine Kd.C_drew ?_))); (case side2 => exact (Kd.R_reads' HO_6.out).2.1); rintro e w67 ⟨v328, rfl, ho0, hb⟩; refine ⟨_, rfl, ?_⟩; have n0_ := Aside0.mk (Kd.R_elder' (by (with_reducible repeat (first | apply Kd.R_alloc | apply Kd.R_drewN | apply Kd.R_drew)); exact HO_3.out) (Kd.R_base ho0) hb); have n1_ := Aside0.mk (Kd.R_elder' (by (with_reducible repeat (first | apply Kd.R_alloc | apply Kd.R_drewN | apply Kd.R_drew)); exact HO_6.out) (Kd.R_base ho0) hb); have n2_ := Aside0.mk (Kd.R_lower (Kd.R_newB (Kd.R_new' (Kd.R_new' ho0 (Kd.R_lt (by (with_reducible repeat (first | apply Kd.R_alloc | apply Kd.R_drewN | apply Kd.R_drew)); exact HO_3.out))) (Kd.R_lt (by (with_reducible repeat (first | apply Kd.R_alloc | apply Kd.R_drewN | apply Kd.R_drew)); exact HO_6.out))) (g := gb316) (o := .cells #[.int .i64 t312, .int .i64 t313, .int .i64 t314, .int .i64 t315] 50 (0, 0)) (by (with_reducible repeat (first | refine blk_drewN ?_ _ | refine blk_drew ?_ | refine blk_alloc ?_ _)); exact BK316.out)) (below_size (by repeat (first | (with_reducible first | exact HB.out | apply below_alloc | apply pw_below_drewN | apply below_drew1 | refine below_set ?_ GE316.out) | exact HB.out)))); have n3_ := Aside0.mk (blk_below (g := gb316) (o := .cells #[.int .i64 t312, .int .i64 t313, .int .i64 t314, .int .i64 t315] 50 (0, 0)) (by (with_reducible repeat (first | refine blk_drewN ?_ _ | refine blk_drew ?_ | refine blk_alloc ?_ _)); exact BK316.out) hb); have n4_ := Aside0.mk (below_step (by repeat (first | (with_reducible first | exact HB.out | apply below_alloc | apply pw_below_drewN | apply below_drew1 | refine below_set ?_ GE316.out) | exact HB.out)) hb); clear HO_3; clear HO_6; clear BK316; clear HB; have HO_3 := n0_; have HO_6 := n1_; have HO329 := n2_; have BK316 := n3_; have HB := n4_; clear n0_ n1_ n2_ n3_ n4_; (try clear hb); (try clear hb2); (try clear hk); (try clear hi); (try clear ho0)) | ((with_reducible refine gate_callee (f := 35) rfl ?_); refine goesL_ (some 106) rfl rfl Try.func35 (by kernel_rfl) rfl #[.slice Ao66 t317.length co66, .int .i64 t311] rfl (by (try simp only [List.map_toArray, List.map_cons, List.map_nil]); first | done | rfl | (simp only [List.length_drop, List.length_take]; rfl)) ?_; (with_reducible refine (impl_SpansOk.calls k2 _ _ t317 t311 true _ ?side1 ?side2 A61.out).mono ?_); (case side1 => repeat (first | exact (Kd.R_reads' HO_6.out).2.2 | (with_reducible refine Kd.C_alloc ?_ _) | (with_reducible refine Kd.C_drewN ?_ _) | (with_reducible refine Kd.C_drew ?_))); (case side2 => exact (Kd.R_reads' HO_6.out).2.1); rintro e w68 ⟨rfl, hb⟩; refine ⟨_, rfl, ?_⟩; have n0_ := Aside0.mk (Kd.R_below (by (with_reducible repeat (first | apply Kd.R_alloc | apply Kd.R_drewN | apply Kd.R_drew)); exact HO_3.out) hb); have n1_ := Aside0.mk (Kd.R_below (by (with_reducible repeat (first | apply Kd.R_alloc | apply Kd.R_drewN | apply Kd.R_drew)); exact HO_6.out) hb); have n2_ := Aside0.mk (Kd.R_below (by (with_reducible repeat (first | apply Kd.R_alloc | apply Kd.R_drewN | apply Kd.R_drew)); exact HO329.out) hb); have n3_ := Aside0.mk (blk_below (g := gb316) (o := .cells #[.int .i64 t312, .int .i64 t313, .int .i64 t314, .int .i64 t315] 50 (0, 0)) (by (with_reducible repeat (first | refine blk_drewN ?_ _ | refine blk_drew ?_ | refine blk_alloc ?_ _)); exact BK316.out) hb); have n4_ := Aside0.mk (below_step (by repeat (first | (with_reducible first | exact HB.out | apply below_alloc | apply pw_below_drewN | apply below_drew1 | refine below_set ?_ GE316.out) | exact HB.out)) hb); clear HO_3; clear HO_6; clear HO329; clear BK316; clear HB; have HO_3 := n0_; have HO_6 := n1_; have HO329 := n2_; have BK316 := n3_; have HB := n4_; clear n0_ n1_ n2_ n3_ n4_; (try clear hb); (try clear hb2); (try clear hk); (try clear hi); obtain ⟨Ao69, co69, eo69⟩ := Kd.R_slice HO329.out; subst eo69) | (go_at_call 34; (with_reducible refine (laws_wcSpans.calls k2 _ _ t317 _ _ t327 t332 _ ?side1 ?side2 ?side3 ?side4 A64.out).mono ?_); (case side1 => repeat (first | exact (Kd.R_reads' HO_6.out).2.2 | (with_reducible refine Kd.C_alloc ?_ _) | (with_reducible refine Kd.C_drewN ?_ _) | (with_reducible refine Kd.C_drew ?_))); (case side2 => exact (Kd.R_reads' HO_6.out).2.1); (case side3 => repeat (first | exact (Kd.R_reads' HO329.out).2.2 | (with_reducible refine Kd.C_alloc ?_ _) | (with_reducible refine Kd.C_drewN ?_ _) | (with_reducible refine Kd.C_drew ?_))); (case side4 => exact (Kd.R_reads' HO329.out).2.1); rintro e w' ⟨rfl, ⟨nd, rfl⟩⟩))
          go_ret
          exact ⟨by first | rfl | (simp [errW_none, errW_some] <;> rfl) | (simp [*, errW_none, errW_some] <;> rfl), by repeat (first | (with_reducible first | exact HB.out | apply below_alloc | apply pw_below_drewN | apply below_drew1 | refine below_set ?_ GE316.out) | exact HB.out)⟩
         ·replace c63 := Bool.eq_false_iff.mpr c63
          subst c63
          have H1 : (some false) = some r := by rw [if_neg (show ¬ (false = true) by decide)] at H; exact H
          clear H
          have H := H1
          clear H1
          obtain rfl := Option.some.inj H
          have hcz70_0 : wr.cell? ⟨gb316, 0, none⟩ = some (.int .i64 t312) := (blk_cell BK316.out 0).trans rfl
          have hcz70_1 : wr.cell? ⟨gb316, 1, none⟩ = some (.int .i64 t313) := (blk_cell BK316.out 1).trans rfl
          have hcz70_2 : wr.cell? ⟨gb316, 2, none⟩ = some (.int .i64 t314) := (blk_cell BK316.out 2).trans rfl
          have hcz70_3 : wr.cell? ⟨gb316, 3, none⟩ = some (.int .i64 t315) := (blk_cell BK316.out 3).trans rfl
          have hfz70_0 := blk_frozen BK316.out 0
          have hfz70_1 := blk_frozen BK316.out 1
          have hfz70_2 := blk_frozen BK316.out 2
          have hfz70_3 := blk_frozen BK316.out 3
          obtain ⟨Ao71, co71, eo71⟩ := Kd.R_slice HO_6.out
          subst eo71
          go_wp2_with (first | ((with_reducible refine gate_callee (f := 40) rfl ?_); refine goesL_ (some 101) rfl rfl Try.func40 (by kernel_rfl) rfl #[.slice Ao71 t317.length co71, .int .i64 t311, .agg #[.int .i64 t312, .int .i64 t313, .int .i64 t314, .int .i64 t315]] rfl (by (try simp only [List.map_toArray, List.map_cons, List.map_nil]); first | done | rfl | (simp only [List.length_drop, List.length_take]; rfl)) ?_; (with_reducible refine (impl_SpansPut.calls k2 _ _ t317 t311 t312 t313 t314 t315 t327 false _ ?side1 ?side2 A60.out).mono ?_); (case side1 => repeat (first | exact (Kd.R_reads' HO_6.out).2.2 | (with_reducible refine Kd.C_alloc ?_ _) | (with_reducible refine Kd.C_drewN ?_ _) | (with_reducible refine Kd.C_drew ?_))); (case side2 => exact (Kd.R_reads' HO_6.out).2.1); rintro e w72 ⟨v328, rfl, ho0, hb⟩; refine ⟨_, rfl, ?_⟩; have n0_ := Aside0.mk (Kd.R_elder' (by (with_reducible repeat (first | apply Kd.R_alloc | apply Kd.R_drewN | apply Kd.R_drew)); exact HO_3.out) (Kd.R_base ho0) hb); have n1_ := Aside0.mk (Kd.R_elder' (by (with_reducible repeat (first | apply Kd.R_alloc | apply Kd.R_drewN | apply Kd.R_drew)); exact HO_6.out) (Kd.R_base ho0) hb); have n2_ := Aside0.mk (Kd.R_lower (Kd.R_newB (Kd.R_new' (Kd.R_new' ho0 (Kd.R_lt (by (with_reducible repeat (first | apply Kd.R_alloc | apply Kd.R_drewN | apply Kd.R_drew)); exact HO_3.out))) (Kd.R_lt (by (with_reducible repeat (first | apply Kd.R_alloc | apply Kd.R_drewN | apply Kd.R_drew)); exact HO_6.out))) (g := gb316) (o := .cells #[.int .i64 t312, .int .i64 t313, .int .i64 t314, .int .i64 t315] 50 (0, 0)) (by (with_reducible repeat (first | refine blk_drewN ?_ _ | refine blk_drew ?_ | refine blk_alloc ?_ _)); exact BK316.out)) (below_size (by repeat (first | (with_reducible first | exact HB.out | apply below_alloc | apply pw_below_drewN | apply below_drew1 | refine below_set ?_ GE316.out) | exact HB.out)))); have n3_ := Aside0.mk (blk_below (g := gb316) (o := .cells #[.int .i64 t312, .int .i64 t313, .int .i64 t314, .int .i64 t315] 50 (0, 0)) (by (with_reducible repeat (first | refine blk_drewN ?_ _ | refine blk_drew ?_ | refine blk_alloc ?_ _)); exact BK316.out) hb); have n4_ := Aside0.mk (below_step (by repeat (first | (with_reducible first | exact HB.out | apply below_alloc | apply pw_below_drewN | apply below_drew1 | refine below_set ?_ GE316.out) | exact HB.out)) hb); clear HO_3; clear HO_6; clear BK316; clear HB; have HO_3 := n0_; have HO_6 := n1_; have HO329 := n2_; have BK316 := n3_; have HB := n4_; clear n0_ n1_ n2_ n3_ n4_; (try clear hb); (try clear hb2); (try clear hk); (try clear hi); (try clear ho0)) | ((with_reducible refine gate_callee (f := 35) rfl ?_); refine goesL_ (some 106) rfl rfl Try.func35 (by kernel_rfl) rfl #[.slice Ao71 t317.length co71, .int .i64 t311] rfl (by (try simp only [List.map_toArray, List.map_cons, List.map_nil]); first | done | rfl | (simp only [List.length_drop, List.length_take]; rfl)) ?_; (with_reducible refine (impl_SpansOk.calls k2 _ _ t317 t311 true _ ?side1 ?side2 A61.out).mono ?_); (case side1 => repeat (first | exact (Kd.R_reads' HO_6.out).2.2 | (with_reducible refine Kd.C_alloc ?_ _) | (with_reducible refine Kd.C_drewN ?_ _) | (with_reducible refine Kd.C_drew ?_))); (case side2 => exact (Kd.R_reads' HO_6.out).2.1); rintro e w73 ⟨rfl, hb⟩; refine ⟨_, rfl, ?_⟩; have n0_ := Aside0.mk (Kd.R_below (by (with_reducible repeat (first | apply Kd.R_alloc | apply Kd.R_drewN | apply Kd.R_drew)); exact HO_3.out) hb); have n1_ := Aside0.mk (Kd.R_below (by (with_reducible repeat (first | apply Kd.R_alloc | apply Kd.R_drewN | apply Kd.R_drew)); exact HO_6.out) hb); have n2_ := Aside0.mk (Kd.R_below (by (with_reducible repeat (first | apply Kd.R_alloc | apply Kd.R_drewN | apply Kd.R_drew)); exact HO329.out) hb); have n3_ := Aside0.mk (blk_below (g := gb316) (o := .cells #[.int .i64 t312, .int .i64 t313, .int .i64 t314, .int .i64 t315] 50 (0, 0)) (by (with_reducible repeat (first | refine blk_drewN ?_ _ | refine blk_drew ?_ | refine blk_alloc ?_ _)); exact BK316.out) hb); have n4_ := Aside0.mk (below_step (by repeat (first | (with_reducible first | exact HB.out | apply below_alloc | apply pw_below_drewN | apply below_drew1 | refine below_set ?_ GE316.out) | exact HB.out)) hb); clear HO_3; clear HO_6; clear HO329; clear BK316; clear HB; have HO_3 := n0_; have HO_6 := n1_; have HO329 := n2_; have BK316 := n3_; have HB := n4_; clear n0_ n1_ n2_ n3_ n4_; (try clear hb); (try clear hb2); (try clear hk); (try clear hi)))
          go_ret
          exact ⟨by first | rfl | (simp [errW_none, errW_some] <;> rfl) | (simp [*, errW_none, errW_some] <;> rfl), by repeat (first | (with_reducible first | exact HB.out | apply below_alloc | apply pw_below_drewN | apply below_drew1 | refine below_set ?_ GE316.out) | exact HB.out)⟩
        ·replace c62 := Bool.eq_false_iff.mpr c62
         subst c62
         have H1 : (some false) = some r := by rw [if_neg (show ¬ (false = true) by decide)] at H; exact H
         clear H
         have H := H1
         clear H1
         obtain rfl := Option.some.inj H
         have hcz74_0 : wr.cell? ⟨gb316, 0, none⟩ = some (.int .i64 t312) := (blk_cell BK316.out 0).trans rfl
         have hcz74_1 : wr.cell? ⟨gb316, 1, none⟩ = some (.int .i64 t313) := (blk_cell BK316.out 1).trans rfl
         have hcz74_2 : wr.cell? ⟨gb316, 2, none⟩ = some (.int .i64 t314) := (blk_cell BK316.out 2).trans rfl
         have hcz74_3 : wr.cell? ⟨gb316, 3, none⟩ = some (.int .i64 t315) := (blk_cell BK316.out 3).trans rfl
         have hfz74_0 := blk_frozen BK316.out 0
         have hfz74_1 := blk_frozen BK316.out 1
         have hfz74_2 := blk_frozen BK316.out 2
         have hfz74_3 := blk_frozen BK316.out 3
         obtain ⟨Ao75, co75, eo75⟩ := Kd.R_slice HO_6.out
         subst eo75
         go_wp2_with (first | ((with_reducible refine gate_callee (f := 40) rfl ?_); refine goesL_ (some 101) rfl rfl Try.func40 (by kernel_rfl) rfl #[.slice Ao75 t317.length co75, .int .i64 t311, .agg #[.int .i64 t312, .int .i64 t313, .int .i64 t314, .int .i64 t315]] rfl (by (try simp only [List.map_toArray, List.map_cons, List.map_nil]); first | done | rfl | (simp only [List.length_drop, List.length_take]; rfl)) ?_; (with_reducible refine (impl_SpansPut.calls k2 _ _ t317 t311 t312 t313 t314 t315 t327 t330 _ ?side1 ?side2 A60.out).mono ?_); (case side1 => repeat (first | exact (Kd.R_reads' HO_6.out).2.2 | (with_reducible refine Kd.C_alloc ?_ _) | (with_reducible refine Kd.C_drewN ?_ _) | (with_reducible refine Kd.C_drew ?_))); (case side2 => exact (Kd.R_reads' HO_6.out).2.1); rintro e w76 ⟨v328, rfl, ho0, hb⟩; refine ⟨_, rfl, ?_⟩; have n0_ := Aside0.mk (Kd.R_elder' (by (with_reducible repeat (first | apply Kd.R_alloc | apply Kd.R_drewN | apply Kd.R_drew)); exact HO_3.out) (Kd.R_base ho0) hb); have n1_ := Aside0.mk (Kd.R_elder' (by (with_reducible repeat (first | apply Kd.R_alloc | apply Kd.R_drewN | apply Kd.R_drew)); exact HO_6.out) (Kd.R_base ho0) hb); have n2_ := Aside0.mk (Kd.R_lower (Kd.R_newB (Kd.R_new' (Kd.R_new' ho0 (Kd.R_lt (by (with_reducible repeat (first | apply Kd.R_alloc | apply Kd.R_drewN | apply Kd.R_drew)); exact HO_3.out))) (Kd.R_lt (by (with_reducible repeat (first | apply Kd.R_alloc | apply Kd.R_drewN | apply Kd.R_drew)); exact HO_6.out))) (g := gb316) (o := .cells #[.int .i64 t312, .int .i64 t313, .int .i64 t314, .int .i64 t315] 50 (0, 0)) (by (with_reducible repeat (first | refine blk_drewN ?_ _ | refine blk_drew ?_ | refine blk_alloc ?_ _)); exact BK316.out)) (below_size (by repeat (first | (with_reducible first | exact HB.out | apply below_alloc | apply pw_below_drewN | apply below_drew1 | refine below_set ?_ GE316.out) | exact HB.out)))); have n3_ := Aside0.mk (blk_below (g := gb316) (o := .cells #[.int .i64 t312, .int .i64 t313, .int .i64 t314, .int .i64 t315] 50 (0, 0)) (by (with_reducible repeat (first | refine blk_drewN ?_ _ | refine blk_drew ?_ | refine blk_alloc ?_ _)); exact BK316.out) hb); have n4_ := Aside0.mk (below_step (by repeat (first | (with_reducible first | exact HB.out | apply below_alloc | apply pw_below_drewN | apply below_drew1 | refine below_set ?_ GE316.out) | exact HB.out)) hb); clear HO_3; clear HO_6; clear BK316; clear HB; have HO_3 := n0_; have HO_6 := n1_; have HO329 := n2_; have BK316 := n3_; have HB := n4_; clear n0_ n1_ n2_ n3_ n4_; (try clear hb); (try clear hb2); (try clear hk); (try clear hi); (try clear ho0)) | ((with_reducible refine gate_callee (f := 35) rfl ?_); refine goesL_ (some 106) rfl rfl Try.func35 (by kernel_rfl) rfl #[.slice Ao75 t317.length co75, .int .i64 t311] rfl (by (try simp only [List.map_toArray, List.map_cons, List.map_nil]); first | done | rfl | (simp only [List.length_drop, List.length_take]; rfl)) ?_; (with_reducible refine (impl_SpansOk.calls k2 _ _ t317 t311 false _ ?side1 ?side2 A61.out).mono ?_); (case side1 => repeat (first | exact (Kd.R_reads' HO_6.out).2.2 | (with_reducible refine Kd.C_alloc ?_ _) | (with_reducible refine Kd.C_drewN ?_ _) | (with_reducible refine Kd.C_drew ?_))); (case side2 => exact (Kd.R_reads' HO_6.out).2.1); rintro e w77 ⟨rfl, hb⟩; refine ⟨_, rfl, ?_⟩; have n0_ := Aside0.mk (Kd.R_below (by (with_reducible repeat (first | apply Kd.R_alloc | apply Kd.R_drewN | apply Kd.R_drew)); exact HO_3.out) hb); have n1_ := Aside0.mk (Kd.R_below (by (with_reducible repeat (first | apply Kd.R_alloc | apply Kd.R_drewN | apply Kd.R_drew)); exact HO_6.out) hb); have n2_ := Aside0.mk (Kd.R_below (by (with_reducible repeat (first | apply Kd.R_alloc | apply Kd.R_drewN | apply Kd.R_drew)); exact HO329.out) hb); have n3_ := Aside0.mk (blk_below (g := gb316) (o := .cells #[.int .i64 t312, .int .i64 t313, .int .i64 t314, .int .i64 t315] 50 (0, 0)) (by (with_reducible repeat (first | refine blk_drewN ?_ _ | refine blk_drew ?_ | refine blk_alloc ?_ _)); exact BK316.out) hb); have n4_ := Aside0.mk (below_step (by repeat (first | (with_reducible first | exact HB.out | apply below_alloc | apply pw_below_drewN | apply below_drew1 | refine below_set ?_ GE316.out) | exact HB.out)) hb); clear HO_3; clear HO_6; clear HO329; clear BK316; clear HB; have HO_3 := n0_; have HO_6 := n1_; have HO329 := n2_; have BK316 := n3_; have HB := n4_; clear n0_ n1_ n2_ n3_ n4_; (try clear hb); (try clear hb2); (try clear hk); (try clear hi)))
         go_ret
         exact ⟨by first | rfl | (simp [errW_none, errW_some] <;> rfl) | (simp [*, errW_none, errW_some] <;> rfl), by repeat (first | (with_reducible first | exact HB.out | apply below_alloc | apply pw_below_drewN | apply below_drew1 | refine below_set ?_ GE316.out) | exact HB.out)⟩

/-- THE ONE PURE STATEMENT of laws_FnSpansPut: yours. -/
def laws_FnSpansPut.Pure : Prop := ∀ (l0 : List Int), l0.length ≤ maxLen → l0.length * 1 ≤ 140737488351232 → (∀ x ∈ l0, (Lit.int .u8 x).wf = true) → ∃ k, laws_FnSpansPut.f k l0 = some true
theorem laws_FnSpansPut.walk (P : laws_FnSpansPut.Pure) (a0 : Option Addr) (len0 cap0 : Nat) (z0 : List Int) (w : World) (w0 : (a0 = none ∧ len0 = 0 ∧ cap0 = 0 ∧ z0 = []) ∨ ∃ x, a0 = some x ∧ len0 ≤ cap0 ∧ cap0 ≤ maxLen ∧ z0.length = cap0 ∧ (∀ i, i < z0.length → w.cell? (x.add i) = some (.int .u8 (z0.getD i 0))) ∧ ∀ n ∈ z0, (Lit.int .u8 n).wf = true) (y0 : len0 * 1 ≤ 140737488351232) :
  Calls Try.prog 10 #[.slice a0 len0 cap0] w fun e w' => e = .returned (.bool true) ∧ Below w.heap.size w w' := by
 obtain ⟨l0, rfl, hr0, hm0, hw0, hc0⟩ := ReadsInt.ofRowC w0
 obtain ⟨k, h⟩ := P l0 hm0 y0 hw0
 refine (laws_FnSpansPut.calls k _ _ l0 true w (Kd.C_of_reads (d := (0 : Int)) (h1 := fun _ => rfl) hr0) hc0 h).mono ?_
 rintro e w' ⟨rfl, hd⟩
 exact ⟨rfl, hd⟩

end Go.Proofs.Ytkapjhlcmicpnaa.PFnSpansPut
