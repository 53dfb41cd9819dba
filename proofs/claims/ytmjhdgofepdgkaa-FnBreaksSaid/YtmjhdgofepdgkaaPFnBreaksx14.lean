-- Written by a program of this session (wip/tools) out of the translation; its shape is that of the kit print.
import Derived.Test.YtmjhdgofepdgkaaPFnBreaksx0
import Derived.Test.YtmjhdgofepdgkaaPFnBreaksx12
import Derived.Test.YtmjhdgofepdgkaaPFnBreaksx13
namespace Go.Proofs.Ytmjhdgofepdgkaa.PFnBreaks
open Go.RowKit Go.Proofs.YtmjhdgofepdgkaaW.PrintWords Go.Proofs.YtmjhdgofepdgkaaW.PrintLast Go.Proofs.YtmjhdgofepdgkaaW.PrintMore
attribute [local go_sem] max2_int min2_int max_two min_two max_three min_three max_four min_four   -- for this text's walks alone
set_option linter.unusedVariables false
set_option linter.unusedSimpArgs false

/-! ### spec_l13Any: function 58 -/
def spec_l13Any.l0 : Nat → List Int → List Int → Int → Option (List Int × Int)
 | 0, _, _, _ => none
 | k + 1, x3, x1000, x1001 => if (x3.length : Int) ≤ 80 then (if x3.length < 17592186044416 then (spec_l13Any.l0 k (x3 ++ [97]) x1000 x1001) else (none)) else (some (x3, x1001))
def spec_l13Any.f (k : Nat) (s0_0 : List Int) (s0_1 : Int) : Option (List Int × Int) := (spec_l13Runes.f k s0_0 s0_1).bind fun bt392 => ((spec_l1Rd_pick.f k s0_0 bt392.2 24).bind fun bt396 => (if bt396.1 = 0 then ((spec_l1Rd_one.f k s0_0 bt396.2 (([(-1), 55296, 57343, 1114112] : List Int))).bind fun bt401 => (if bt392.1.length < 17592186044416 then (some ((bt392.1 ++ [bt401.1]), bt401.2)) else (none))) else (if bt396.1 = 1 then (spec_l13Any.l0 k bt392.1 s0_0 bt396.2) else (some (bt392.1, bt396.2)))))
theorem spec_l13Any.mono_l : ∀ k, (∀ y0 y1 y2, LeO (spec_l13Any.l0 k y0 y1 y2) (spec_l13Any.l0 (k + 1) y0 y1 y2))
 | 0 => fun _ _ _ r h => by simp [spec_l13Any.l0] at h
 | k + 1 => by
  have ih0 := spec_l13Any.mono_l k
  ·intro y0 y1 y2
   unfold spec_l13Any.l0
   repeat' first
   | (with_reducible exact ih0 _ _ _)
   | (with_reducible exact spec_l13Runes.mono _ _ _)
   | (with_reducible exact spec_l1Rd_one.mono _ _ _ _)
   | (with_reducible exact spec_l1Rd_pick.mono _ _ _ _)
   | (with_reducible exact LeO.refl _)
   | (with_reducible exact LeO.none _)
   | (with_reducible refine LeO.ite ?_ ?_)
   | (with_reducible refine LeO.bind ?_ (fun _ => ?_))
   | exact ih0 _ _ _
   | exact spec_l13Runes.mono _ _ _
   | exact spec_l1Rd_one.mono _ _ _ _
   | exact spec_l1Rd_pick.mono _ _ _ _
   | exact LeO.none _
   | refine LeO.ite ?_ ?_
   | refine LeO.bind ?_ (fun _ => ?_)
theorem spec_l13Any.mono : ∀ a0 a1 k, LeO (spec_l13Any.f k a0 a1) (spec_l13Any.f (k + 1) a0 a1) := by
 intro a0 a1 k
 have ih0 := spec_l13Any.mono_l k
 unfold spec_l13Any.f
 repeat' first
   | (with_reducible exact ih0 _ _ _)
   | (with_reducible exact spec_l13Runes.mono _ _ _)
   | (with_reducible exact spec_l1Rd_one.mono _ _ _ _)
   | (with_reducible exact spec_l1Rd_pick.mono _ _ _ _)
   | (with_reducible exact LeO.refl _)
   | (with_reducible exact LeO.none _)
   | (with_reducible refine LeO.ite ?_ ?_)
   | (with_reducible refine LeO.bind ?_ (fun _ => ?_))
   | exact ih0 _ _ _
   | exact spec_l13Runes.mono _ _ _
   | exact spec_l1Rd_one.mono _ _ _ _
   | exact spec_l1Rd_pick.mono _ _ _ _
   | exact LeO.none _
   | refine LeO.ite ?_ ?_
   | refine LeO.bind ?_ (fun _ => ?_)
set_option maxHeartbeats 8000000 in
set_option maxRecDepth 100000 in
theorem spec_l13Any.calls (k : Nat) (g : Nat) (s0_0 : List Int) (s0_1 : Int) (r1 : List Int) (r2 : Int) (w0 w : World) (hI : IsS85 w0 w g s0_0 s0_1) (hB : Below w0.heap.size w0 w) (h : spec_l13Any.f k s0_0 s0_1 = some (r1, r2)) :
  Calls Try.prog 58 #[.pointer (some ⟨g, 0, none⟩)] w fun e w' => ∃ v0_ : Value, e = .returned (v0_) ∧ Kd.R (Kd.int .i64) 3 w' w.heap.size (fun _ => True) v0_ r1 ∧ IsS85 w0 w' g s0_0 r2 ∧ Below w0.heap.size w0 w' ∧ KeepBut w w' g none := by
 have HI0 := Aside0.mk hI
 have HK := Aside0.mk (KeepBut.refl w g none)
 have HL := Aside0.mk hB.size
 clear hI
 have HW0 := Aside0.mk hB.size
 have HB := Aside0.mk hB
 clear hB
 have H : ((spec_l13Runes.f k s0_0 s0_1).bind fun bt392 => ((spec_l1Rd_pick.f k s0_0 bt392.2 24).bind fun bt396 => (if bt396.1 = 0 then ((spec_l1Rd_one.f k s0_0 bt396.2 (([(-1), 55296, 57343, 1114112] : List Int))).bind fun bt401 => (if bt392.1.length < 17592186044416 then (some ((bt392.1 ++ [bt401.1]), bt401.2)) else (none))) else (if bt396.1 = 1 then (spec_l13Any.l0 k bt392.1 s0_0 bt396.2) else (some (bt392.1, bt396.2)))))) = some (r1, r2) := h
 clear h
 replace H := Option.bind_eq_some_iff.mp H
 obtain ⟨⟨t392, t395⟩, A20, H⟩ := H
 replace H : ((spec_l1Rd_pick.f k s0_0 t395 24).bind fun bt396 => (if bt396.1 = 0 then ((spec_l1Rd_one.f k s0_0 bt396.2 (([(-1), 55296, 57343, 1114112] : List Int))).bind fun bt401 => (if t392.length < 17592186044416 then (some ((t392 ++ [bt401.1]), bt401.2)) else (none))) else (if bt396.1 = 1 then (spec_l13Any.l0 k t392 s0_0 bt396.2) else (some (t392, bt396.2))))) = some (r1, r2) := H
 have A2 := Aside0.mk A20
 clear A20
 replace H := Option.bind_eq_some_iff.mp H
 obtain ⟨⟨t396, t397⟩, A30, H⟩ := H
 replace H : (if t396 = 0 then ((spec_l1Rd_one.f k s0_0 t397 (([(-1), 55296, 57343, 1114112] : List Int))).bind fun bt401 => (if t392.length < 17592186044416 then (some ((t392 ++ [bt401.1]), bt401.2)) else (none))) else (if t396 = 1 then (spec_l13Any.l0 k t392 s0_0 t397) else (some (t392, t397)))) = some (r1, r2) := H
 have A3 := Aside0.mk A30
 clear A30
 by_cases c4 : t396 = 0
 ·rw [if_pos c4] at H
  have c4b0 : (t396 == 0) = true := beq_iff_eq.mpr c4
  have c4b1 : (t396 != 0) = false := bne_eq_false_iff_eq.mpr c4
  clear c4
  obtain ⟨y398, hy398⟩ : ∃ y_ : List Int, y_ = (([(-1), 55296, 57343, 1114112] : List Int)) := ⟨_, rfl⟩
  replace H : ((spec_l1Rd_one.f k s0_0 t397 y398).bind fun bt401 => (if t392.length < 17592186044416 then (some ((t392 ++ [bt401.1]), bt401.2)) else (none))) = some (r1, r2) := by first | (rw [hy398]; with_reducible exact H) | (have H2_ := (Option.bind_some _ _).symm.trans H; rw [hy398]; with_reducible exact H2_) | (have H2_ := (Option.bind_some _ _).symm.trans H; with_reducible exact H2_) | with_reducible exact H | (rw [hy398]; exact H) | exact H
  have Ny398 := Aside0.mk hy398
  clear hy398
  replace H := Option.bind_eq_some_iff.mp H
  obtain ⟨⟨t401, t402⟩, A50, H⟩ := H
  replace H : (if t392.length < 17592186044416 then (some ((t392 ++ [t401]), t402)) else (none)) = some (r1, r2) := H
  have A5 := Aside0.mk A50
  clear A50
  by_cases c6 : t392.length < 17592186044416
  ·rw [if_pos c6] at H
   have LMc6 := Aside0.mk c6
   clear c6
   obtain ⟨y403, hy403⟩ : ∃ y_ : List Int, y_ = (t392 ++ [t401]) := ⟨_, rfl⟩
   replace H : (some (y403, t402)) = some (r1, r2) := by first | (rw [hy403]; with_reducible exact H) | (have H2_ := (Option.bind_some _ _).symm.trans H; rw [hy403]; with_reducible exact H2_) | (have H2_ := (Option.bind_some _ _).symm.trans H; with_reducible exact H2_) | with_reducible exact H | (rw [hy403]; exact H) | exact H
   have Ny403 := Aside0.mk hy403
   clear hy403
   simp only [Option.some.injEq, Prod.mk.injEq] at H
   obtain ⟨rfl, rfl⟩ := H
   go_enter Try.func58, Try.ntmps58
   go_wp2_with (first | ((with_reducible refine gate_callee (f := 63) rfl ?_); refine goesL_ (some 5) rfl rfl Try.func63 (by kernel_rfl) rfl #[.pointer (some ⟨g, 0, none⟩)] rfl (by (try simp only [List.map_toArray, List.map_cons, List.map_nil]); first | done | rfl | (simp only [List.length_drop, List.length_take]; rfl)) ?_; (with_reducible refine (spec_l13Runes.calls k g s0_0 s0_1 t392 t395 w0 _ ?side1 ?side2 A2.out).mono ?_); (case side1 => repeat (first | (with_reducible first | exact HI0.out | apply IsS85.alloc | apply IsS85.drewN | apply IsS85.drew | apply IsS85.set_1) | exact HI0.out)); (case side2 => repeat (first | (with_reducible first | exact HB.out | apply below_alloc | apply pw_below_drewN | apply below_drew1 | refine below_set ?_ (IsS85.ge HI0.out)) | exact HB.out)); rintro e w7 ⟨v393, rfl, ho0, hi, hb, hk⟩; refine ⟨_, rfl, ?_⟩; have n0_ := Aside0.mk (Kd.R_lower ho0 (keep_size (w := w) (g := g) (row := none) (by repeat (first | (with_reducible first | exact HK.out | apply KeepBut.set_ | apply keep_drewN | apply keep_drew | apply keep_alloc) | exact HK.out)))); have n1_ := Aside0.mk (KeepBut.trans (by repeat (first | (with_reducible first | exact HK.out | apply KeepBut.set_ | apply keep_drewN | apply keep_drew | apply keep_alloc) | exact HK.out)) hk (.inl rfl)); have n2_ := Aside0.mk (hb); have n3_ := Aside0.mk (hi); clear HK; clear HB; clear HI0; have HO394 := n0_; have HK := n1_; have HB := n2_; have HI0 := n3_; clear n0_ n1_ n2_ n3_; (try clear hb); (try clear hb2); (try clear hk); (try clear hi); (try clear ho0)) | ((with_reducible refine gate_callee (f := 66) rfl ?_); refine goesL_ (some 7) rfl rfl Try.func66 (by kernel_rfl) rfl #[.pointer (some ⟨g, 0, none⟩), .int .i64 24] rfl (by (try simp only [List.map_toArray, List.map_cons, List.map_nil]); first | done | rfl | (simp only [List.length_drop, List.length_take]; rfl)) ?_; (with_reducible refine (spec_l1Rd_pick.calls k g s0_0 t395 24 t396 t397 w0 _ ?side1 ?side2 A3.out).mono ?_); (case side1 => repeat (first | (with_reducible first | exact HI0.out | apply IsS85.alloc | apply IsS85.drewN | apply IsS85.drew | apply IsS85.set_1) | exact HI0.out)); (case side2 => repeat (first | (with_reducible first | exact HB.out | apply below_alloc | apply pw_below_drewN | apply below_drew1 | refine below_set ?_ (IsS85.ge HI0.out)) | exact HB.out)); rintro e w8 ⟨rfl, hi, hb, hk⟩; refine ⟨_, rfl, ?_⟩; have n0_ := Aside0.mk (Kd.R_mono (Kd.R_keep (IsS85.apart (show IsS85 w0 _ g s0_0 t395 from by repeat (first | (with_reducible first | exact HI0.out | apply IsS85.alloc | apply IsS85.drewN | apply IsS85.drew | apply IsS85.set_1) | exact HI0.out)) (by (with_reducible repeat (first | apply Kd.R_alloc | apply Kd.R_drewN | apply Kd.R_drew)); exact HO394.out) (by decide)) hk (fun _ h => h.2)) (fun _ h => h.1)); have n1_ := Aside0.mk (KeepBut.trans (by repeat (first | (with_reducible first | exact HK.out | apply KeepBut.set_ | apply keep_drewN | apply keep_drew | apply keep_alloc) | exact HK.out)) hk (.inl rfl)); have n2_ := Aside0.mk (hb); have n3_ := Aside0.mk (hi); clear HO394; clear HK; clear HB; clear HI0; have HO394 := n0_; have HK := n1_; have HB := n2_; have HI0 := n3_; clear n0_ n1_ n2_ n3_; (try clear hb); (try clear hb2); (try clear hk); (try clear hi)) | ((with_reducible refine gate_dst (N := 12) rfl ?_); refine Kd.R_lit (Kd.int .i64) _ 3 ?hg (N := 12) ?hd (xs := ([(-1), 55296, 57343, 1114112] : List Int)) (inner := [.int .i64 (-1), .int .i64 55296, .int .i64 57343, .int .i64 1114112]) (ok := fun _ => True) (okp := fun _ => True) ?hr ?hp (fun _ hk => hk) trivial (Below.refl _ _) (Nat.le_refl _) (by simp) ?_; (case hd => rfl); (case hg => rfl); (case hr => first | (go_simp; done) | (go_simp; rfl)); (case hp => exact (Reps.one (show Kd.M (Kd.int .i64) _ _ _ (-1) [.int .i64 (-1)] from rfl) (Reps.one (show Kd.M (Kd.int .i64) _ _ _ 55296 [.int .i64 55296] from rfl) (Reps.one (show Kd.M (Kd.int .i64) _ _ _ 57343 [.int .i64 57343] from rfl) (Reps.one (show Kd.M (Kd.int .i64) _ _ _ 1114112 [.int .i64 1114112] from rfl) (Reps.none _ _)))))); intro v399 w9 ho10 hb hg_ hnew_; clear hg_ hnew_; (first | rw [← Ny398.out] at ho10 | (simp only [Int.reduceToNat] at ho10; rw [← Ny398.out] at ho10)); have n0_ := Aside0.mk (Kd.R_elder' (by (with_reducible repeat (first | apply Kd.R_alloc | apply Kd.R_drewN | apply Kd.R_drew)); exact HO394.out) (Kd.R_base ho10) hb); have n1_ := Aside0.mk (Kd.R_lower (Kd.R_new' ho10 (Kd.R_lt (by (with_reducible repeat (first | apply Kd.R_alloc | apply Kd.R_drewN | apply Kd.R_drew)); exact HO394.out))) (keep_size (w := w) (g := g) (row := none) (by repeat (first | (with_reducible first | exact HK.out | apply KeepBut.set_ | apply keep_drewN | apply keep_drew | apply keep_alloc) | exact HK.out)))); have n2_ := Aside0.mk (IsS85.below (by repeat (first | (with_reducible first | exact HI0.out | apply IsS85.alloc | apply IsS85.drewN | apply IsS85.drew | apply IsS85.set_1) | exact HI0.out)) hb); have n3_ := Aside0.mk (KeepBut.trans (by repeat (first | (with_reducible first | exact HK.out | apply KeepBut.set_ | apply keep_drewN | apply keep_drew | apply keep_alloc) | exact HK.out)) (KeepBut.of_below hb g none) (.inl rfl)); have n4_ := Aside0.mk (below_step (by repeat (first | (with_reducible first | exact HB.out | apply below_alloc | apply pw_below_drewN | apply below_drew1 | refine below_set ?_ (IsS85.ge HI0.out)) | exact HB.out)) hb); clear HO394; clear HI0; clear HK; clear HB; have HO394 := n0_; have HO400 := n1_; have HI0 := n2_; have HK := n3_; have HB := n4_; clear n0_ n1_ n2_ n3_ n4_; clear hb ho10; obtain ⟨Ao11, co11, eo11⟩ := Kd.R_slice HO400.out; subst eo11) | ((with_reducible refine gate_callee (f := 67) rfl ?_); refine goesL_ (some 13) rfl rfl Try.func67 (by kernel_rfl) rfl #[.pointer (some ⟨g, 0, none⟩), .slice Ao11 y398.length co11] rfl (by (try simp only [List.map_toArray, List.map_cons, List.map_nil]); first | done | rfl | (simp only [List.length_drop, List.length_take]; rfl)) ?_; (with_reducible refine (spec_l1Rd_one.calls k g s0_0 t397 _ _ y398 t401 t402 w0 _ ?side1 ?side2 ?side3 ?side4 ?side5 A5.out).mono ?_); (case side1 => repeat (first | (with_reducible first | exact HI0.out | apply IsS85.alloc | apply IsS85.drewN | apply IsS85.drew | apply IsS85.set_1) | exact HI0.out)); (case side2 => repeat (first | (with_reducible first | exact HB.out | apply below_alloc | apply pw_below_drewN | apply below_drew1 | refine below_set ?_ (IsS85.ge HI0.out)) | exact HB.out)); (case side3 => repeat (first | exact (Kd.R_reads' HO400.out).2.2 | (with_reducible refine Kd.C_alloc ?_ _) | (with_reducible refine Kd.C_drewN ?_ _) | (with_reducible refine Kd.C_drew ?_))); (case side4 => exact (Kd.R_reads' HO400.out).2.1); (case side5 => exact far_slice (IsS85.own_ne HI0.out HO400.out (by decide))); rintro e w12 ⟨rfl, hi, hb, hk⟩; refine ⟨_, rfl, ?_⟩; have n0_ := Aside0.mk (Kd.R_mono (Kd.R_keep (IsS85.apart (show IsS85 w0 _ g s0_0 t397 from by repeat (first | (with_reducible first | exact HI0.out | apply IsS85.alloc | apply IsS85.drewN | apply IsS85.drew | apply IsS85.set_1) | exact HI0.out)) (by (with_reducible repeat (first | apply Kd.R_alloc | apply Kd.R_drewN | apply Kd.R_drew)); exact HO394.out) (by decide)) hk (fun _ h => h.2)) (fun _ h => h.1)); have n1_ := Aside0.mk (Kd.R_mono (Kd.R_keep (IsS85.apart (show IsS85 w0 _ g s0_0 t397 from by repeat (first | (with_reducible first | exact HI0.out | apply IsS85.alloc | apply IsS85.drewN | apply IsS85.drew | apply IsS85.set_1) | exact HI0.out)) (by (with_reducible repeat (first | apply Kd.R_alloc | apply Kd.R_drewN | apply Kd.R_drew)); exact HO400.out) (by decide)) hk (fun _ h => h.2)) (fun _ h => h.1)); have n2_ := Aside0.mk (KeepBut.trans (by repeat (first | (with_reducible first | exact HK.out | apply KeepBut.set_ | apply keep_drewN | apply keep_drew | apply keep_alloc) | exact HK.out)) hk (.inl rfl)); have n3_ := Aside0.mk (hb); have n4_ := Aside0.mk (hi); clear HO394; clear HO400; clear HK; clear HB; clear HI0; have HO394 := n0_; have HO400 := n1_; have HK := n2_; have HB := n3_; have HI0 := n4_; clear n0_ n1_ n2_ n3_ n4_; (try clear hb); (try clear hb2); (try clear hk); (try clear hi)) | ((with_reducible refine gate_builtin (b := .append) (xs := #[.tmp 10, .tmp 14]) rfl ?_); at_builtin; refine Kd.R_append (Kd.int .i64) w.heap.size rfl (.tmp 10) (.tmp 14) 22 3 (.int .i64 0) 8 rfl Try.underlying22 info3 rfl (by decide) (by omega) v393 t392 t401 [.int .i64 t401] (fun k_ => some k_ ≠ (.slice Ao11 y398.length co11 : Value).ownBlock) (fun _ => False) rfl rfl ?aP (fun _ hk => hk.elim) ?aF ?aO (Below.refl _ _) ?aS ?aL ?_; (case aP => exact rfl); (case aF => exact (fun k_ hk => Kd.fresh' (Kd.R_lt (by (with_reducible repeat (first | apply Kd.R_alloc | apply Kd.R_drewN | apply Kd.R_drew)); exact HO400.out)) k_ hk)); (case aO => exact (by (with_reducible repeat (first | apply Kd.R_alloc | apply Kd.R_drewN | apply Kd.R_drew)); exact Kd.R_mono HO394.out (fun _ hk => hk.2))); (case aS => exact (keep_size (w := w) (g := g) (row := none) (by repeat (first | (with_reducible first | exact HK.out | apply KeepBut.set_ | apply keep_drewN | apply keep_drew | apply keep_alloc) | exact HK.out)))); (case aL => have := LMc6.out; omega); intro v404 w13 ho hb hg hat; rw [← Ny403.out] at ho; have n0_ := Aside0.mk (IsS85.grown (by repeat (first | (with_reducible first | exact HI0.out | apply IsS85.alloc | apply IsS85.drewN | apply IsS85.drew | apply IsS85.set_1) | exact HI0.out)) hg (IsS85.own_ne HI0.out HO394.out (by decide))); have n1_ := Aside0.mk (Kd.R_after (ok := (fun _ => True)) (by (with_reducible repeat (first | apply Kd.R_alloc | apply Kd.R_drewN | apply Kd.R_drew)); exact HO400.out) hg hat); have n2_ := Aside0.mk (below_weaken (by repeat (first | (with_reducible first | exact HB.out | apply below_alloc | apply pw_below_drewN | apply below_drew1 | refine below_set ?_ (IsS85.ge HI0.out)) | exact HB.out)) HL.out hb); have n3_ := Aside0.mk (KeepBut.trans (by repeat (first | (with_reducible first | exact HK.out | apply KeepBut.set_ | apply keep_drewN | apply keep_drew | apply keep_alloc) | exact HK.out)) (KeepBut.of_grown hg g) (Kd.R_base2 HO394.out)); have n4_ := Aside0.mk (ho); clear HI0; clear HO400; clear HB; clear HK; clear HO394; have HI0 := n0_; have HO400 := n1_; have HB := n2_; have HK := n3_; have HO405 := n4_; clear n0_ n1_ n2_ n3_ n4_; clear ho hb hg hat))
   go_ret
   exact ⟨_, by first | rfl | (simp [errW_none, errW_some] <;> rfl) | (simp [*, errW_none, errW_some] <;> rfl), by (with_reducible repeat (first | apply Kd.R_alloc | apply Kd.R_drewN | apply Kd.R_drew)); exact Kd.R_mono HO405.out (fun _ hk => trivial), by repeat (first | (with_reducible first | exact HI0.out | apply IsS85.alloc | apply IsS85.drewN | apply IsS85.drew | apply IsS85.set_1) | exact HI0.out), by repeat (first | (with_reducible first | exact HB.out | apply below_alloc | apply pw_below_drewN | apply below_drew1 | refine below_set ?_ (IsS85.ge HI0.out)) | exact HB.out), by repeat (first | (with_reducible first | exact HK.out | apply KeepBut.set_ | apply keep_drewN | apply keep_drew | apply keep_alloc) | exact HK.out)⟩
  ·rw [if_neg c6] at H
   exact absurd H (by simp)
 ·rw [if_neg c4] at H
  have c4b0 : (t396 == 0) = false := beq_eq_false_iff_ne.mpr c4
  have c4b1 : (t396 != 0) = true := bne_iff_ne.mpr c4
  by_cases c14 : t396 = 1
  ·rw [if_pos c14] at H
   have c14b0 : (t396 == 1) = true := beq_iff_eq.mpr c14
   have c14b1 : (t396 != 1) = false := bne_eq_false_iff_eq.mpr c14
   clear c14
   have H' := Aside0.mk H
   clear H
   go_enter Try.func58, Try.ntmps58
   go_wp2_with (first | ((with_reducible refine gate_callee (f := 63) rfl ?_); refine goesL_ (some 5) rfl rfl Try.func63 (by kernel_rfl) rfl #[.pointer (some ⟨g, 0, none⟩)] rfl (by (try simp only [List.map_toArray, List.map_cons, List.map_nil]); first | done | rfl | (simp only [List.length_drop, List.length_take]; rfl)) ?_; (with_reducible refine (spec_l13Runes.calls k g s0_0 s0_1 t392 t395 w0 _ ?side1 ?side2 A2.out).mono ?_); (case side1 => repeat (first | (with_reducible first | exact HI0.out | apply IsS85.alloc | apply IsS85.drewN | apply IsS85.drew | apply IsS85.set_1) | exact HI0.out)); (case side2 => repeat (first | (with_reducible first | exact HB.out | apply below_alloc | apply pw_below_drewN | apply below_drew1 | refine below_set ?_ (IsS85.ge HI0.out)) | exact HB.out)); rintro e w15 ⟨v393, rfl, ho0, hi, hb, hk⟩; refine ⟨_, rfl, ?_⟩; have n0_ := Aside0.mk (Kd.R_lower ho0 (keep_size (w := w) (g := g) (row := none) (by repeat (first | (with_reducible first | exact HK.out | apply KeepBut.set_ | apply keep_drewN | apply keep_drew | apply keep_alloc) | exact HK.out)))); have n1_ := Aside0.mk (KeepBut.trans (by repeat (first | (with_reducible first | exact HK.out | apply KeepBut.set_ | apply keep_drewN | apply keep_drew | apply keep_alloc) | exact HK.out)) hk (.inl rfl)); have n2_ := Aside0.mk (hb); have n3_ := Aside0.mk (hi); clear HK; clear HB; clear HI0; have HO394 := n0_; have HK := n1_; have HB := n2_; have HI0 := n3_; clear n0_ n1_ n2_ n3_; (try clear hb); (try clear hb2); (try clear hk); (try clear hi); (try clear ho0)) | ((with_reducible refine gate_callee (f := 66) rfl ?_); refine goesL_ (some 7) rfl rfl Try.func66 (by kernel_rfl) rfl #[.pointer (some ⟨g, 0, none⟩), .int .i64 24] rfl (by (try simp only [List.map_toArray, List.map_cons, List.map_nil]); first | done | rfl | (simp only [List.length_drop, List.length_take]; rfl)) ?_; (with_reducible refine (spec_l1Rd_pick.calls k g s0_0 t395 24 t396 t397 w0 _ ?side1 ?side2 A3.out).mono ?_); (case side1 => repeat (first | (with_reducible first | exact HI0.out | apply IsS85.alloc | apply IsS85.drewN | apply IsS85.drew | apply IsS85.set_1) | exact HI0.out)); (case side2 => repeat (first | (with_reducible first | exact HB.out | apply below_alloc | apply pw_below_drewN | apply below_drew1 | refine below_set ?_ (IsS85.ge HI0.out)) | exact HB.out)); rintro e w16 ⟨rfl, hi, hb, hk⟩; refine ⟨_, rfl, ?_⟩; have n0_ := Aside0.mk (Kd.R_mono (Kd.R_keep (IsS85.apart (show IsS85 w0 _ g s0_0 t395 from by repeat (first | (with_reducible first | exact HI0.out | apply IsS85.alloc | apply IsS85.drewN | apply IsS85.drew | apply IsS85.set_1) | exact HI0.out)) (by (with_reducible repeat (first | apply Kd.R_alloc | apply Kd.R_drewN | apply Kd.R_drew)); exact HO394.out) (by decide)) hk (fun _ h => h.2)) (fun _ h => h.1)); have n1_ := Aside0.mk (KeepBut.trans (by repeat (first | (with_reducible first | exact HK.out | apply KeepBut.set_ | apply keep_drewN | apply keep_drew | apply keep_alloc) | exact HK.out)) hk (.inl rfl)); have n2_ := Aside0.mk (hb); have n3_ := Aside0.mk (hi); clear HO394; clear HK; clear HB; clear HI0; have HO394 := n0_; have HK := n1_; have HB := n2_; have HI0 := n3_; clear n0_ n1_ n2_ n3_; (try clear hb); (try clear hb2); (try clear hk); (try clear hi)))
   go_loopg [3] k (fun kq v3 w' => ∃ (x3_1 : List Int), Aside0 (spec_l13Any.l0 kq x3_1 s0_0 t397 = some (r1, r2)) ∧ Aside0 (kq ≤ k) ∧ Aside0 (Kd.R (Kd.int .i64) 3 w' w.heap.size (fun _ => True) v3 x3_1) ∧ Aside0 (IsS85 w0 w' g s0_0 t397) ∧ Aside0 (KeepBut w w' g none) ∧ Aside0 (Below w0.heap.size w0 w'))
   case atStart => exact ⟨(t392), H', ⟨Nat.le_refl _⟩, ⟨by (with_reducible repeat (first | apply Kd.R_alloc | apply Kd.R_drewN | apply Kd.R_drew)); exact HO394.out⟩, ⟨by repeat (first | (with_reducible first | exact HI0.out | apply IsS85.alloc | apply IsS85.drewN | apply IsS85.drew | apply IsS85.set_1) | exact HI0.out)⟩, ⟨by repeat (first | (with_reducible first | exact HK.out | apply KeepBut.set_ | apply keep_drewN | apply keep_drew | apply keep_alloc) | exact HK.out)⟩, ⟨by repeat (first | (with_reducible first | exact HB.out | apply below_alloc | apply pw_below_drewN | apply below_drew1 | refine below_set ?_ (IsS85.ge HI0.out)) | exact HB.out)⟩⟩
   case round =>
    clear H'
    try clear c1
    try clear p2
    try clear c4
    try clear c4b0
    try clear c4b1
    try clear c5
    try clear c6
    try clear c14
    try clear c14b0
    try clear c14b1
    obtain ⟨x3_1, HA, HK1, HO_3, HI0, HK, HB⟩ := hrel
    cases gk with
    | zero => exact absurd HA.out (by simp [spec_l13Any.l0])
    | succ k1 =>
     have H := HA.out
     clear HA
     simp only [spec_l13Any.l0] at H
     by_cases c17 : (x3_1.length : Int) ≤ 80
     ·rw [if_pos c17] at H
      have c17b0 : decide ((x3_1.length : Int) ≤ 80) = true := decide_eq_true c17
      have c17b1 : decide (x3_1.length ≤ 80) = true := decide_eq_true (by omega)
      clear c17
      by_cases c18 : x3_1.length < 17592186044416
      ·rw [if_pos c18] at H
       have LMc18 := Aside0.mk c18
       clear c18
       obtain ⟨y406, hy406⟩ : ∃ y_ : List Int, y_ = (x3_1 ++ [97]) := ⟨_, rfl⟩
       replace H : (spec_l13Any.l0 k1 y406 s0_0 t397) = some (r1, r2) := by first | (rw [hy406]; with_reducible exact H) | (have H2_ := (Option.bind_some _ _).symm.trans H; rw [hy406]; with_reducible exact H2_) | (have H2_ := (Option.bind_some _ _).symm.trans H; with_reducible exact H2_) | with_reducible exact H | (rw [hy406]; exact H) | exact H
       have Ny406 := Aside0.mk hy406
       clear hy406
       have H' := Aside0.mk H
       clear H
       obtain ⟨Ao19, co19, eo19⟩ := Kd.R_slice HO_3.out
       subst eo19
       go_wp2_with (first | ((with_reducible refine gate_builtin (b := .append) (xs := #[.tmp 21, .tmp 22]) rfl ?_); at_builtin; refine Kd.R_append (Kd.int .i64) w.heap.size rfl (.tmp 21) (.tmp 22) 22 3 (.int .i64 0) 8 rfl Try.underlying22 info3 rfl (by decide) (by omega) (.slice Ao19 x3_1.length co19) x3_1 97 [.int .i64 97] (fun _ => True) (fun _ => False) rfl rfl ?aP (fun _ hk => hk.elim) ?aF ?aO (Below.refl _ _) ?aS ?aL ?_; (case aP => exact rfl); (case aF => exact (fun _ _ => trivial)); (case aO => exact (by (with_reducible repeat (first | apply Kd.R_alloc | apply Kd.R_drewN | apply Kd.R_drew)); exact HO_3.out)); (case aS => exact (keep_size (w := w) (g := g) (row := none) (by repeat (first | (with_reducible first | exact HK.out | apply KeepBut.set_ | apply keep_drewN | apply keep_drew | apply keep_alloc) | exact HK.out)))); (case aL => have := LMc18.out; omega); intro v407 w20 ho hb hg hat; rw [← Ny406.out] at ho; have n0_ := Aside0.mk (IsS85.grown (by repeat (first | (with_reducible first | exact HI0.out | apply IsS85.alloc | apply IsS85.drewN | apply IsS85.drew | apply IsS85.set_1) | exact HI0.out)) hg (IsS85.own_ne HI0.out HO_3.out (by decide))); have n1_ := Aside0.mk (below_weaken (by repeat (first | (with_reducible first | exact HB.out | apply below_alloc | apply pw_below_drewN | apply below_drew1 | refine below_set ?_ (IsS85.ge HI0.out)) | exact HB.out)) HL.out hb); have n2_ := Aside0.mk (KeepBut.trans (by repeat (first | (with_reducible first | exact HK.out | apply KeepBut.set_ | apply keep_drewN | apply keep_drew | apply keep_alloc) | exact HK.out)) (KeepBut.of_grown hg g) (Kd.R_base2 HO_3.out)); have n3_ := Aside0.mk (ho); clear HI0; clear HB; clear HK; clear HO_3; have HI0 := n0_; have HB := n1_; have HK := n2_; have HO408 := n3_; clear n0_ n1_ n2_ n3_; clear ho hb hg hat))
       go_roundg k1
       case measure => have := HK1.out; omega
       case rel => exact ⟨(y406), H', ⟨by have := HK1.out; omega⟩, ⟨by (with_reducible repeat (first | apply Kd.R_alloc | apply Kd.R_drewN | apply Kd.R_drew)); exact HO408.out⟩, ⟨by repeat (first | (with_reducible first | exact HI0.out | apply IsS85.alloc | apply IsS85.drewN | apply IsS85.drew | apply IsS85.set_1) | exact HI0.out)⟩, ⟨by repeat (first | (with_reducible first | exact HK.out | apply KeepBut.set_ | apply keep_drewN | apply keep_drew | apply keep_alloc) | exact HK.out)⟩, ⟨by repeat (first | (with_reducible first | exact HB.out | apply below_alloc | apply pw_below_drewN | apply below_drew1 | refine below_set ?_ (IsS85.ge HI0.out)) | exact HB.out)⟩⟩
      ·rw [if_neg c18] at H
       exact absurd H (by simp)
     ·rw [if_neg c17] at H
      have c17b0 : decide ((x3_1.length : Int) ≤ 80) = false := decide_eq_false c17
      have c17b1 : decide (x3_1.length ≤ 80) = false := decide_eq_false (by omega)
      clear c17
      simp only [Option.some.injEq, Prod.mk.injEq] at H
      obtain ⟨rfl, rfl⟩ := H
      obtain ⟨Ao21, co21, eo21⟩ := Kd.R_slice HO_3.out
      subst eo21
      go_wp2
      go_ret
      exact ⟨_, by first | rfl | (simp [errW_none, errW_some] <;> rfl) | (simp [*, errW_none, errW_some] <;> rfl), by (with_reducible repeat (first | apply Kd.R_alloc | apply Kd.R_drewN | apply Kd.R_drew)); exact HO_3.out, by repeat (first | (with_reducible first | exact HI0.out | apply IsS85.alloc | apply IsS85.drewN | apply IsS85.drew | apply IsS85.set_1) | exact HI0.out), by repeat (first | (with_reducible first | exact HB.out | apply below_alloc | apply pw_below_drewN | apply below_drew1 | refine below_set ?_ (IsS85.ge HI0.out)) | exact HB.out), by repeat (first | (with_reducible first | exact HK.out | apply KeepBut.set_ | apply keep_drewN | apply keep_drew | apply keep_alloc) | exact HK.out)⟩
  ·rw [if_neg c14] at H
   have c14b0 : (t396 == 1) = false := beq_eq_false_iff_ne.mpr c14
   have c14b1 : (t396 != 1) = true := bne_iff_ne.mpr c14
   simp only [Option.some.injEq, Prod.mk.injEq] at H
   obtain ⟨rfl, rfl⟩ := H
   go_enter Try.func58, Try.ntmps58
   go_wp2_with (first | ((with_reducible refine gate_callee (f := 63) rfl ?_); refine goesL_ (some 5) rfl rfl Try.func63 (by kernel_rfl) rfl #[.pointer (some ⟨g, 0, none⟩)] rfl (by (try simp only [List.map_toArray, List.map_cons, List.map_nil]); first | done | rfl | (simp only [List.length_drop, List.length_take]; rfl)) ?_; (with_reducible refine (spec_l13Runes.calls k g s0_0 s0_1 t392 t395 w0 _ ?side1 ?side2 A2.out).mono ?_); (case side1 => repeat (first | (with_reducible first | exact HI0.out | apply IsS85.alloc | apply IsS85.drewN | apply IsS85.drew | apply IsS85.set_1) | exact HI0.out)); (case side2 => repeat (first | (with_reducible first | exact HB.out | apply below_alloc | apply pw_below_drewN | apply below_drew1 | refine below_set ?_ (IsS85.ge HI0.out)) | exact HB.out)); rintro e w22 ⟨v393, rfl, ho0, hi, hb, hk⟩; refine ⟨_, rfl, ?_⟩; have n0_ := Aside0.mk (Kd.R_lower ho0 (keep_size (w := w) (g := g) (row := none) (by repeat (first | (with_reducible first | exact HK.out | apply KeepBut.set_ | apply keep_drewN | apply keep_drew | apply keep_alloc) | exact HK.out)))); have n1_ := Aside0.mk (KeepBut.trans (by repeat (first | (with_reducible first | exact HK.out | apply KeepBut.set_ | apply keep_drewN | apply keep_drew | apply keep_alloc) | exact HK.out)) hk (.inl rfl)); have n2_ := Aside0.mk (hb); have n3_ := Aside0.mk (hi); clear HK; clear HB; clear HI0; have HO394 := n0_; have HK := n1_; have HB := n2_; have HI0 := n3_; clear n0_ n1_ n2_ n3_; (try clear hb); (try clear hb2); (try clear hk); (try clear hi); (try clear ho0)) | ((with_reducible refine gate_callee (f := 66) rfl ?_); refine goesL_ (some 7) rfl rfl Try.func66 (by kernel_rfl) rfl #[.pointer (some ⟨g, 0, none⟩), .int .i64 24] rfl (by (try simp only [List.map_toArray, List.map_cons, List.map_nil]); first | done | rfl | (simp only [List.length_drop, List.length_take]; rfl)) ?_; (with_reducible refine (spec_l1Rd_pick.calls k g s0_0 t395 24 t396 t397 w0 _ ?side1 ?side2 A3.out).mono ?_); (case side1 => repeat (first | (with_reducible first | exact HI0.out | apply IsS85.alloc | apply IsS85.drewN | apply IsS85.drew | apply IsS85.set_1) | exact HI0.out)); (case side2 => repeat (first | (with_reducible first | exact HB.out | apply below_alloc | apply pw_below_drewN | apply below_drew1 | refine below_set ?_ (IsS85.ge HI0.out)) | exact HB.out)); rintro e w23 ⟨rfl, hi, hb, hk⟩; refine ⟨_, rfl, ?_⟩; have n0_ := Aside0.mk (Kd.R_mono (Kd.R_keep (IsS85.apart (show IsS85 w0 _ g s0_0 t395 from by repeat (first | (with_reducible first | exact HI0.out | apply IsS85.alloc | apply IsS85.drewN | apply IsS85.drew | apply IsS85.set_1) | exact HI0.out)) (by (with_reducible repeat (first | apply Kd.R_alloc | apply Kd.R_drewN | apply Kd.R_drew)); exact HO394.out) (by decide)) hk (fun _ h => h.2)) (fun _ h => h.1)); have n1_ := Aside0.mk (KeepBut.trans (by repeat (first | (with_reducible first | exact HK.out | apply KeepBut.set_ | apply keep_drewN | apply keep_drew | apply keep_alloc) | exact HK.out)) hk (.inl rfl)); have n2_ := Aside0.mk (hb); have n3_ := Aside0.mk (hi); clear HO394; clear HK; clear HB; clear HI0; have HO394 := n0_; have HK := n1_; have HB := n2_; have HI0 := n3_; clear n0_ n1_ n2_ n3_; (try clear hb); (try clear hb2); (try clear hk); (try clear hi)))
   go_ret
   exact ⟨_, by first | rfl | (simp [errW_none, errW_some] <;> rfl) | (simp [*, errW_none, errW_some] <;> rfl), by (with_reducible repeat (first | apply Kd.R_alloc | apply Kd.R_drewN | apply Kd.R_drew)); exact HO394.out, by repeat (first | (with_reducible first | exact HI0.out | apply IsS85.alloc | apply IsS85.drewN | apply IsS85.drew | apply IsS85.set_1) | exact HI0.out), by repeat (first | (with_reducible first | exact HB.out | apply below_alloc | apply pw_below_drewN | apply below_drew1 | refine below_set ?_ (IsS85.ge HI0.out)) | exact HB.out), by repeat (first | (with_reducible first | exact HK.out | apply KeepBut.set_ | apply keep_drewN | apply keep_drew | apply keep_alloc) | exact HK.out)⟩

/-! ### spec_DrawBreaksOf: function 36 -/
def spec_DrawBreaksOf.f (k : Nat) (l0 : List Int) : Option (List Int) := (spec_l1Open.f l0).bind fun bt409 => ((spec_l13Any.f k bt409.1 bt409.2).bind fun bt412 => (some bt412.1))
theorem spec_DrawBreaksOf.mono : ∀ a0 k, LeO (spec_DrawBreaksOf.f k a0) (spec_DrawBreaksOf.f (k + 1) a0) := by
 intro a0 k
 unfold spec_DrawBreaksOf.f
 repeat' first
   | (with_reducible exact spec_l13Any.mono _ _ _)
   | (with_reducible exact LeO.refl _)
   | (with_reducible exact LeO.none _)
   | (with_reducible refine LeO.ite ?_ ?_)
   | (with_reducible refine LeO.bind ?_ (fun _ => ?_))
   | exact spec_l13Any.mono _ _ _
   | exact LeO.none _
   | refine LeO.ite ?_ ?_
   | refine LeO.bind ?_ (fun _ => ?_)
set_option maxHeartbeats 8000000 in
set_option maxRecDepth 100000 in
theorem spec_DrawBreaksOf.calls (k : Nat) (A0 : Option Addr) (c0 : Nat) (l0 : List Int) (r : List Int) (w : World) (hr0 : Kd.C (Kd.int .u8) w A0 l0.length l0) (hc0 : l0.length ≤ c0) (h : spec_DrawBreaksOf.f k l0 = some r) :
  Calls Try.prog 36 #[.slice A0 l0.length c0] w fun e w' => ∃ v0_ : Value, e = .returned (v0_) ∧ Kd.R (Kd.int .i64) 3 w' w.heap.size (fun _ => True) v0_ r ∧ Below w.heap.size w w' := by
 have HR0 := Aside0.mk hr0
 have HC0 := Aside0.mk hc0
 clear hr0 hc0
 have HB := Aside0.mk (Below.refl w.heap.size w)
 have H : ((spec_l1Open.f l0).bind fun bt409 => ((spec_l13Any.f k bt409.1 bt409.2).bind fun bt412 => (some bt412.1))) = some r := h
 clear h
 replace H := Option.bind_eq_some_iff.mp H
 obtain ⟨⟨t409, t410⟩, A20, H⟩ := H
 replace H : ((spec_l13Any.f k t409 t410).bind fun bt412 => (some bt412.1)) = some r := H
 have A2 := Aside0.mk A20
 clear A20
 replace H := Option.bind_eq_some_iff.mp H
 obtain ⟨⟨t412, t415⟩, A30, H⟩ := H
 replace H : (some t412) = some r := H
 have A3 := Aside0.mk A30
 clear A30
 obtain rfl := Option.some.inj H
 go_enter Try.func36, Try.ntmps36
 go_wp2_with (first | ((with_reducible refine gate_callee (f := 57) rfl ?_); refine goesL_ (some 4) rfl rfl Try.func57 (by kernel_rfl) rfl #[.slice A0 l0.length c0] rfl (by (try simp only [List.map_toArray, List.map_cons, List.map_nil]); first | done | rfl | (simp only [List.length_drop, List.length_take]; rfl)) ?_; (with_reducible refine (spec_l1Open.calls _ _ l0 t409 t410 w _ ?side1 ?side2 ?side3 A2.out).mono ?_); (case side1 => repeat (first | (with_reducible first | exact HB.out | apply below_alloc | apply pw_below_drewN | apply below_drew1) | exact HB.out)); (case side2 => exact HR0.out); (case side3 => exact HC0.out); rintro e w4 ⟨g411, rfl, hi, hb, hb2⟩; refine ⟨_, rfl, ?_⟩; have n0_ := Aside0.mk (hb); have n1_ := Aside0.mk (hi); clear HB; have HB := n0_; have HI411 := n1_; clear n0_ n1_; (try clear hb); (try clear hb2); (try clear hk); (try clear hi)) | ((with_reducible refine gate_callee (f := 58) rfl ?_); refine goesL_ (some 5) rfl rfl Try.func58 (by kernel_rfl) rfl #[.pointer (some ⟨g411, 0, none⟩)] rfl (by (try simp only [List.map_toArray, List.map_cons, List.map_nil]); first | done | rfl | (simp only [List.length_drop, List.length_take]; rfl)) ?_; (with_reducible refine (spec_l13Any.calls k g411 t409 t410 t412 t415 w _ ?side1 ?side2 A3.out).mono ?_); (case side1 => repeat (first | (with_reducible first | exact HI411.out | apply IsS85.alloc | apply IsS85.drewN | apply IsS85.drew | apply IsS85.set_1) | exact HI411.out)); (case side2 => repeat (first | (with_reducible first | exact HB.out | apply below_alloc | apply pw_below_drewN | apply below_drew1 | refine below_set ?_ (IsS85.ge HI411.out)) | exact HB.out)); rintro e w5 ⟨v413, rfl, ho0, hi, hb, hk⟩; refine ⟨_, rfl, ?_⟩; have n0_ := Aside0.mk (Kd.R_lower ho0 (below_size (by repeat (first | (with_reducible first | exact HB.out | apply below_alloc | apply pw_below_drewN | apply below_drew1 | refine below_set ?_ (IsS85.ge HI411.out)) | exact HB.out)))); have n1_ := Aside0.mk (hb); have n2_ := Aside0.mk (hi); clear HB; clear HI411; have HO414 := n0_; have HB := n1_; have HI411 := n2_; clear n0_ n1_ n2_; (try clear hb); (try clear hb2); (try clear hk); (try clear hi); (try clear ho0)))
 go_ret
 exact ⟨_, by first | rfl | (simp [errW_none, errW_some] <;> rfl) | (simp [*, errW_none, errW_some] <;> rfl), by (with_reducible repeat (first | apply Kd.R_alloc | apply Kd.R_drewN | apply Kd.R_drew)); exact HO414.out, by repeat (first | (with_reducible first | exact HB.out | apply below_alloc | apply pw_below_drewN | apply below_drew1 | refine below_set ?_ (IsS85.ge HI411.out)) | exact HB.out)⟩

end Go.Proofs.Ytmjhdgofepdgkaa.PFnBreaks
