-- Written by a program of this session (wip/tools) out of the translation; its shape is that of the kit print.
import Derived.Test.YtkapjhlcmicpnaaPFnSpansPlainx0
import Derived.Test.YtkapjhlcmicpnaaPFnSpansPlainx10
namespace Go.Proofs.Ytkapjhlcmicpnaa.PFnSpansPlain
open Go.RowKit Go.Proofs.YtkapjhlcmicpnaaW.PrintWords Go.Proofs.YtkapjhlcmicpnaaW.PrintLast Go.Proofs.YtkapjhlcmicpnaaW.PrintMore
attribute [local go_sem] max2_int min2_int max_two min_two max_three min_three max_four min_four   -- for this text's walks alone
set_option linter.unusedVariables false
set_option linter.unusedSimpArgs false

/-! ### spec_l13Spans: function 108 -/
mutual
def spec_l13Spans.l0 : Nat → Int → List (S50) → Int → List Int → Int → Option ((List (S50)) × Int)
 | 0, _, _, _, _, _ => none
 | k + 1, x1, x5, x6, x1000, x1001 => if x6 < x1 then (if (x5.length : Int) < 12 then ((spec_l1Rd_pick.f k x1000 x1001 8).bind fun bt180 => (spec_l13Spans.j1 k x1 x5 x6 (decide (bt180.1 > 0)) x1000 bt180.2)) else (spec_l13Spans.j1 k x1 x5 x6 false x1000 x1001)) else (spec_l13Spans.j1 k x1 x5 x6 false x1000 x1001)
def spec_l13Spans.j1 : Nat → Int → List (S50) → Int → Bool → List Int → Int → Option ((List (S50)) × Int)
 | 0, _, _, _, _, _, _ => none
 | k + 1, x1, x5, x6, x23, x1000, x1001 => if x23 = true then ((spec_l1Rd_pick.f k x1000 x1001 5).bind fun bt182 => (if (wrap64 ((wrap64 (x6 + 1)) + bt182.1)) > x1 then ((some (([10, 5, 20, 40, 1] : List Int) : List Int)).bind fun y184 => ((spec_l1Rd_pick.f k x1000 bt182.2 5).bind fun bt187 => (if 0 ≤ bt187.1 then (if bt187.1 < (y184.length : Int) then ((spec_l1Rd_pick.f k x1000 bt187.2 3).bind fun bt190 => (if x5.length < 4398046511104 then ((spec_l1Rd_pick.f k x1000 bt190.2 3).bind fun bt195 => (spec_l13Spans.l0 k x1 (x5 ++ [(⟨x6, x1, rd y184 bt187.1, bt190.1⟩ : S50)]) (wrap64 (x1 + bt195.1)) x1000 bt195.2)) else (none))) else (none)) else (none)))) else ((some (([10, 5, 20, 40, 1] : List Int) : List Int)).bind fun y197 => ((spec_l1Rd_pick.f k x1000 bt182.2 5).bind fun bt200 => (if 0 ≤ bt200.1 then (if bt200.1 < (y197.length : Int) then ((spec_l1Rd_pick.f k x1000 bt200.2 3).bind fun bt203 => (if x5.length < 4398046511104 then ((spec_l1Rd_pick.f k x1000 bt203.2 3).bind fun bt208 => (spec_l13Spans.l0 k x1 (x5 ++ [(⟨x6, wrap64 ((wrap64 (x6 + 1)) + bt182.1), rd y197 bt200.1, bt203.1⟩ : S50)]) (wrap64 ((wrap64 ((wrap64 (x6 + 1)) + bt182.1)) + bt208.1)) x1000 bt208.2)) else (none))) else (none)) else (none)))))) else (some (x5, x1001))
end
def spec_l13Spans.f (k : Nat) (s0_0 : List Int) (s0_1 : Int) (a1 : Int) : Option ((List (S50)) × Int) := (spec_l1Rd_pick.f k s0_0 s0_1 4).bind fun bt178 => (spec_l13Spans.l0 k a1 (([] : List (S50))) bt178.1 s0_0 bt178.2)
theorem spec_l13Spans.mono_l : ∀ k, (∀ y0 y1 y2 y3 y4, LeO (spec_l13Spans.l0 k y0 y1 y2 y3 y4) (spec_l13Spans.l0 (k + 1) y0 y1 y2 y3 y4)) ∧ (∀ y0 y1 y2 y3 y4 y5, LeO (spec_l13Spans.j1 k y0 y1 y2 y3 y4 y5) (spec_l13Spans.j1 (k + 1) y0 y1 y2 y3 y4 y5))
 | 0 => ⟨fun _ _ _ _ _ r h => by simp [spec_l13Spans.l0] at h, fun _ _ _ _ _ _ r h => by simp [spec_l13Spans.j1] at h⟩
 | k + 1 => by
  obtain ⟨ih0, ih1⟩ := spec_l13Spans.mono_l k
  refine ⟨?_, ?_⟩
  ·intro y0 y1 y2 y3 y4
   unfold spec_l13Spans.l0
   repeat' first
   | (with_reducible exact ih0 _ _ _ _ _)
   | (with_reducible exact ih1 _ _ _ _ _ _)
   | (with_reducible exact spec_l1Rd_pick.mono _ _ _ _)
   | (with_reducible exact LeO.refl _)
   | (with_reducible exact LeO.none _)
   | (with_reducible refine LeO.ite ?_ ?_)
   | (with_reducible refine LeO.bind ?_ (fun _ => ?_))
   | exact ih0 _ _ _ _ _
   | exact ih1 _ _ _ _ _ _
   | exact spec_l1Rd_pick.mono _ _ _ _
   | exact LeO.none _
   | refine LeO.ite ?_ ?_
   | refine LeO.bind ?_ (fun _ => ?_)
  ·intro y0 y1 y2 y3 y4 y5
   unfold spec_l13Spans.j1
   repeat' first
   | (with_reducible exact ih0 _ _ _ _ _)
   | (with_reducible exact ih1 _ _ _ _ _ _)
   | (with_reducible exact spec_l1Rd_pick.mono _ _ _ _)
   | (with_reducible exact LeO.refl _)
   | (with_reducible exact LeO.none _)
   | (with_reducible refine LeO.ite ?_ ?_)
   | (with_reducible refine LeO.bind ?_ (fun _ => ?_))
   | exact ih0 _ _ _ _ _
   | exact ih1 _ _ _ _ _ _
   | exact spec_l1Rd_pick.mono _ _ _ _
   | exact LeO.none _
   | refine LeO.ite ?_ ?_
   | refine LeO.bind ?_ (fun _ => ?_)
theorem spec_l13Spans.mono : ∀ a0 a1 a2 k, LeO (spec_l13Spans.f k a0 a1 a2) (spec_l13Spans.f (k + 1) a0 a1 a2) := by
 intro a0 a1 a2 k
 obtain ⟨ih0, ih1⟩ := spec_l13Spans.mono_l k
 unfold spec_l13Spans.f
 repeat' first
   | (with_reducible exact ih0 _ _ _ _ _)
   | (with_reducible exact ih1 _ _ _ _ _ _)
   | (with_reducible exact spec_l1Rd_pick.mono _ _ _ _)
   | (with_reducible exact LeO.refl _)
   | (with_reducible exact LeO.none _)
   | (with_reducible refine LeO.ite ?_ ?_)
   | (with_reducible refine LeO.bind ?_ (fun _ => ?_))
   | exact ih0 _ _ _ _ _
   | exact ih1 _ _ _ _ _ _
   | exact spec_l1Rd_pick.mono _ _ _ _
   | exact LeO.none _
   | refine LeO.ite ?_ ?_
   | refine LeO.bind ?_ (fun _ => ?_)
def spec_l13Spans.T7 : Bool × List (List Nat × List Nat) := (true, [([], []), ([], []), ([], []), ([], []), ([], []), ([4], [4]), ([3, 5], [3, 5]), ([6], [6]), ([], []), ([8, 5], [8]), ([1, 2, 7, 9], [1, 2, 7, 9]), ([10], [10]), ([0, 11, 9], [0, 11]), ([12, 12, 0, 1, 2, 3, 4, 5, 6, 7, 8, 9, 10, 11, 12], [0, 12])])
def spec_l13Spans.B7 : List Nat := [0, 0, 0, 0, 0, 16, 56, 120, 0, 304, 1022, 2046, 4095, 8191]
theorem spec_l13Spans.tab7 : rtab .any (opsOf Try.f108 7) = spec_l13Spans.T7 := by kernel_rfl
theorem spec_l13Spans.bits7 : waitsOk spec_l13Spans.T7.2 spec_l13Spans.B7 = true := by kernel_rfl
set_option maxHeartbeats 8000000 in
set_option maxRecDepth 100000 in
theorem spec_l13Spans.calls (k : Nat) (g : Nat) (s0_0 : List Int) (s0_1 : Int) (a1 : Int) (r1 : List (S50)) (r2 : Int) (w0 w : World) (hI : IsS95 w0 w g s0_0 s0_1) (hB : Below w0.heap.size w0 w) (h : spec_l13Spans.f k s0_0 s0_1 a1 = some (r1, r2)) :
  Calls Try.prog 108 #[.pointer (some ⟨g, 0, none⟩), .int .i64 a1] w fun e w' => ∃ v0_ : Value, e = .returned (v0_) ∧ Kd.R k50 50 w' w.heap.size (fun _ => True) v0_ r1 ∧ IsS95 w0 w' g s0_0 r2 ∧ Below w0.heap.size w0 w' ∧ KeepBut w w' g none := by
 have hu50 := Try.underlying50
 have HI0 := Aside0.mk hI
 have HK := Aside0.mk (KeepBut.refl w g none)
 have HL := Aside0.mk hB.size
 clear hI
 have HW0 := Aside0.mk hB.size
 have HB := Aside0.mk hB
 clear hB
 have H : ((spec_l1Rd_pick.f k s0_0 s0_1 4).bind fun bt178 => (spec_l13Spans.l0 k a1 (([] : List (S50))) bt178.1 s0_0 bt178.2)) = some (r1, r2) := h
 clear h
 obtain ⟨y175, hy175⟩ : ∃ y_ : List (S50), y_ = (([] : List (S50))) := ⟨_, rfl⟩
 replace H : ((spec_l1Rd_pick.f k s0_0 s0_1 4).bind fun bt178 => (spec_l13Spans.l0 k a1 y175 bt178.1 s0_0 bt178.2)) = some (r1, r2) := by first | (rw [hy175]; with_reducible exact H) | (have H2_ := (Option.bind_some _ _).symm.trans H; rw [hy175]; with_reducible exact H2_) | (have H2_ := (Option.bind_some _ _).symm.trans H; with_reducible exact H2_) | with_reducible exact H | (rw [hy175]; exact H) | exact H
 have Ny175 := Aside0.mk hy175
 clear hy175
 replace H := Option.bind_eq_some_iff.mp H
 obtain ⟨⟨t178, t179⟩, A30, H⟩ := H
 replace H : (spec_l13Spans.l0 k a1 y175 t178 s0_0 t179) = some (r1, r2) := H
 have A3 := Aside0.mk A30
 clear A30
 have H' := Aside0.mk H
 clear H
 go_enter Try.func108, Try.ntmps108
 go_wp2_with (first | ((with_reducible refine gate_dst (N := 8) rfl ?_); (try (refine gate_guard (by rfl) ?_; dsimp only)); refine Kd.R_lit k50 _ 50 ?hg (N := 8) ?hd (xs := ([] : List (S50))) (inner := []) (ok := fun _ => True) (okp := fun _ => True) ?hr ?hp (fun _ hk => hk) trivial (Below.refl _ _) (Nat.le_refl _) (by simp) ?_; (case hd => rfl); (case hg => rfl); (case hr => first | (go_simp; done) | (go_simp; rfl)); (case hp => exact (Reps.none _ _)); intro v176 w4 ho5 hb hg_ hnew_; clear hg_ hnew_; (first | rw [← Ny175.out] at ho5 | (simp only [Int.reduceToNat] at ho5; rw [← Ny175.out] at ho5)); have n0_ := Aside0.mk (Kd.R_lower ho5 (keep_size (w := w) (g := g) (row := none) (by repeat (first | (with_reducible first | exact HK.out | apply KeepBut.set_ | apply keep_drewN | apply keep_drew | apply keep_alloc) | exact HK.out)))); have n1_ := Aside0.mk (IsS95.below (by repeat (first | (with_reducible first | exact HI0.out | apply IsS95.alloc | apply IsS95.drewN | apply IsS95.drew | apply IsS95.set_1) | exact HI0.out)) hb); have n2_ := Aside0.mk (KeepBut.trans (by repeat (first | (with_reducible first | exact HK.out | apply KeepBut.set_ | apply keep_drewN | apply keep_drew | apply keep_alloc) | exact HK.out)) (KeepBut.of_below hb g none) (.inl rfl)); have n3_ := Aside0.mk (below_step (by repeat (first | (with_reducible first | exact HB.out | apply below_alloc | apply pw_below_drewN | apply below_drew1 | refine below_set ?_ (IsS95.ge HI0.out)) | exact HB.out)) hb); clear HI0; clear HK; clear HB; have HO177 := n0_; have HI0 := n1_; have HK := n2_; have HB := n3_; clear n0_ n1_ n2_ n3_; clear hb ho5) | ((with_reducible refine gate_callee (f := 61) rfl ?_); refine goesL_ (some 10) rfl rfl Try.func61 (by kernel_rfl) rfl #[.pointer (some ⟨g, 0, none⟩), .int .i64 4] rfl (by (try simp only [List.map_toArray, List.map_cons, List.map_nil]); first | done | rfl | (simp only [List.length_drop, List.length_take]; rfl)) ?_; (with_reducible refine (spec_l1Rd_pick.calls k g s0_0 s0_1 4 t178 t179 w0 _ ?side1 ?side2 A3.out).mono ?_); (case side1 => repeat (first | (with_reducible first | exact HI0.out | apply IsS95.alloc | apply IsS95.drewN | apply IsS95.drew | apply IsS95.set_1) | exact HI0.out)); (case side2 => repeat (first | (with_reducible first | exact HB.out | apply below_alloc | apply pw_below_drewN | apply below_drew1 | refine below_set ?_ (IsS95.ge HI0.out)) | exact HB.out)); rintro e w6 ⟨rfl, hi, hb, hk⟩; refine ⟨_, rfl, ?_⟩; have n0_ := Aside0.mk (Kd.R_mono (Kd.R_keep (IsS95.apart (show IsS95 w0 _ g s0_0 s0_1 from by repeat (first | (with_reducible first | exact HI0.out | apply IsS95.alloc | apply IsS95.drewN | apply IsS95.drew | apply IsS95.set_1) | exact HI0.out)) (by (with_reducible repeat (first | apply Kd.R_alloc | apply Kd.R_drewN | apply Kd.R_drew)); exact HO177.out) (by decide)) hk (fun _ h => h.2)) (fun _ h => h.1)); have n1_ := Aside0.mk (KeepBut.trans (by repeat (first | (with_reducible first | exact HK.out | apply KeepBut.set_ | apply keep_drewN | apply keep_drew | apply keep_alloc) | exact HK.out)) hk (.inl rfl)); have n2_ := Aside0.mk (hb); have n3_ := Aside0.mk (hi); clear HO177; clear HK; clear HB; clear HI0; have HO177 := n0_; have HK := n1_; have HB := n2_; have HI0 := n3_; clear n0_ n1_ n2_ n3_; (try clear hb); (try clear hb2); (try clear hk); (try clear hi)))
 go_loopg [5, 6] k (fun kq v5 v6 w' => ∃ (x5_1 : List (S50)) (x6_1 : Int) (x1001_1 : Int), v6 = .int .i64 x6_1 ∧ Aside0 (spec_l13Spans.l0 kq a1 x5_1 x6_1 s0_0 x1001_1 = some (r1, r2)) ∧ Aside0 (kq ≤ k) ∧ Aside0 (Kd.R k50 50 w' w.heap.size (fun _ => True) v5 x5_1) ∧ Aside0 (IsS95 w0 w' g s0_0 x1001_1) ∧ Aside0 (KeepBut w w' g none) ∧ Aside0 (Below w0.heap.size w0 w'))
 case atStart => exact ⟨(y175), (t178), (t179), (by first | rfl | (simp; done) | (simp [*]; done)), H', ⟨Nat.le_refl _⟩, ⟨by (with_reducible repeat (first | apply Kd.R_alloc | apply Kd.R_drewN | apply Kd.R_drew)); exact HO177.out⟩, ⟨by repeat (first | (with_reducible first | exact HI0.out | apply IsS95.alloc | apply IsS95.drewN | apply IsS95.drew | apply IsS95.set_1) | exact HI0.out)⟩, ⟨by repeat (first | (with_reducible first | exact HK.out | apply KeepBut.set_ | apply keep_drewN | apply keep_drew | apply keep_alloc) | exact HK.out)⟩, ⟨by repeat (first | (with_reducible first | exact HB.out | apply below_alloc | apply pw_below_drewN | apply below_drew1 | refine below_set ?_ (IsS95.ge HI0.out)) | exact HB.out)⟩⟩
 case round =>
  clear H'
  try clear c1
  try clear p2
  try clear c6
  obtain ⟨x5_1, x6_1, x1001_1, rfl, HA, HK1, HO_5, HI0, HK, HB⟩ := hrel
  cases gk with
  | zero => exact absurd HA.out (by simp [spec_l13Spans.l0])
  | succ k1 =>
   have H := HA.out
   clear HA
   simp only [spec_l13Spans.l0] at H
   have HC7 := Aside0.mk H
   clear H
   go_upto_region 3 with (fail)
   go_cut [23] (fun v23 wc => ∃ (kq : Nat) (x23_6 : Bool) (x1001_6 : Int), v23 = .bool x23_6 ∧ Aside0 (spec_l13Spans.j1 kq a1 x5_1 x6_1 x23_6 s0_0 x1001_6 = some (r1, r2)) ∧ Aside0 (kq ≤ k1) ∧ Aside0 (Kd.R k50 50 wc w.heap.size (fun _ => True) u5 x5_1) ∧ Aside0 (IsS95 w0 wc g s0_0 x1001_6) ∧ Aside0 (KeepBut w wc g none) ∧ Aside0 (Below w0.heap.size w0 wc))
   case first =>
    have H := HC7.out
    clear HC7
    by_cases c8 : x6_1 < a1
    ·rw [if_pos c8] at H
     have c8b0 : decide (x6_1 < a1) = true := decide_eq_true c8
     clear c8
     (first | rw [c8b0] | (simp only [i64_w, i32_w]; rw [c8b0]) | skip)
     by_cases c9 : (x5_1.length : Int) < 12
     ·rw [if_pos c9] at H
      have c9b0 : decide ((x5_1.length : Int) < 12) = true := decide_eq_true c9
      have c9b1 : decide (x5_1.length < 12) = true := decide_eq_true (by omega)
      clear c9
      replace H := Option.bind_eq_some_iff.mp H
      obtain ⟨⟨t180, t181⟩, A100, H⟩ := H
      replace H : (spec_l13Spans.j1 k1 a1 x5_1 x6_1 (decide (t180 > 0)) s0_0 t181) = some (r1, r2) := H
      have A10 := Aside0.mk A100
      clear A100
      have H' := Aside0.mk H
      clear H
      obtain ⟨Ao11, co11, eo11⟩ := Kd.R_slice HO_5.out
      subst eo11
      go_wp2_with (first | (go_at_call 61; (with_reducible refine (spec_l1Rd_pick.calls k1 g s0_0 x1001_1 8 t180 t181 w0 _ ?side1 ?side2 A10.out).mono ?_); (case side1 => repeat (first | (with_reducible first | exact HI0.out | apply IsS95.alloc | apply IsS95.drewN | apply IsS95.drew | apply IsS95.set_1) | exact HI0.out)); (case side2 => repeat (first | (with_reducible first | exact HB.out | apply below_alloc | apply pw_below_drewN | apply below_drew1 | refine below_set ?_ (IsS95.ge HI0.out)) | exact HB.out)); rintro e w12 ⟨rfl, hi, hb, hk⟩; have n0_ := Aside0.mk (Kd.R_mono (Kd.R_keep (IsS95.apart (show IsS95 w0 _ g s0_0 x1001_1 from by repeat (first | (with_reducible first | exact HI0.out | apply IsS95.alloc | apply IsS95.drewN | apply IsS95.drew | apply IsS95.set_1) | exact HI0.out)) (by (with_reducible repeat (first | apply Kd.R_alloc | apply Kd.R_drewN | apply Kd.R_drew)); exact HO_5.out) (by decide)) hk (fun _ h => h.2)) (fun _ h => h.1)); have n1_ := Aside0.mk (KeepBut.trans (by repeat (first | (with_reducible first | exact HK.out | apply KeepBut.set_ | apply keep_drewN | apply keep_drew | apply keep_alloc) | exact HK.out)) hk (.inl rfl)); have n2_ := Aside0.mk (hb); have n3_ := Aside0.mk (hi); clear HO_5; clear HK; clear HB; clear HI0; have HO_5 := n0_; have HK := n1_; have HB := n2_; have HI0 := n3_; clear n0_ n1_ n2_ n3_; (try clear hb); (try clear hb2); (try clear hk); (try clear hi)))
      go_meet
      case rel => exact ⟨_, (decide (t180 > 0)), (t181), (by first | rfl | (simp; done) | (simp [*]; done)), H', ⟨by have := HK1.out; first | omega | exact Nat.le_refl _⟩, ⟨by (with_reducible repeat (first | apply Kd.R_alloc | apply Kd.R_drewN | apply Kd.R_drew)); exact HO_5.out⟩, ⟨by repeat (first | (with_reducible first | exact HI0.out | apply IsS95.alloc | apply IsS95.drewN | apply IsS95.drew | apply IsS95.set_1) | exact HI0.out)⟩, ⟨by repeat (first | (with_reducible first | exact HK.out | apply KeepBut.set_ | apply keep_drewN | apply keep_drew | apply keep_alloc) | exact HK.out)⟩, ⟨by repeat (first | (with_reducible first | exact HB.out | apply below_alloc | apply pw_below_drewN | apply below_drew1 | refine below_set ?_ (IsS95.ge HI0.out)) | exact HB.out)⟩⟩
     ·rw [if_neg c9] at H
      have c9b0 : decide ((x5_1.length : Int) < 12) = false := decide_eq_false c9
      have c9b1 : decide (x5_1.length < 12) = false := decide_eq_false (by omega)
      clear c9
      have H' := Aside0.mk H
      clear H
      obtain ⟨Ao13, co13, eo13⟩ := Kd.R_slice HO_5.out
      subst eo13
      go_wp2
      go_meet
      case rel => exact ⟨_, (false), (x1001_1), (by first | rfl | (simp; done) | (simp [*]; done)), H', ⟨by have := HK1.out; first | omega | exact Nat.le_refl _⟩, ⟨by (with_reducible repeat (first | apply Kd.R_alloc | apply Kd.R_drewN | apply Kd.R_drew)); exact HO_5.out⟩, ⟨by repeat (first | (with_reducible first | exact HI0.out | apply IsS95.alloc | apply IsS95.drewN | apply IsS95.drew | apply IsS95.set_1) | exact HI0.out)⟩, ⟨by repeat (first | (with_reducible first | exact HK.out | apply KeepBut.set_ | apply keep_drewN | apply keep_drew | apply keep_alloc) | exact HK.out)⟩, ⟨by repeat (first | (with_reducible first | exact HB.out | apply below_alloc | apply pw_below_drewN | apply below_drew1 | refine below_set ?_ (IsS95.ge HI0.out)) | exact HB.out)⟩⟩
    ·rw [if_neg c8] at H
     have c8b0 : decide (x6_1 < a1) = false := decide_eq_false c8
     clear c8
     (first | rw [c8b0] | (simp only [i64_w, i32_w]; rw [c8b0]) | skip)
     have H' := Aside0.mk H
     clear H
     go_wp2
     go_meet
     case rel => exact ⟨_, (false), (x1001_1), (by first | rfl | (simp; done) | (simp [*]; done)), H', ⟨by have := HK1.out; first | omega | exact Nat.le_refl _⟩, ⟨by (with_reducible repeat (first | apply Kd.R_alloc | apply Kd.R_drewN | apply Kd.R_drew)); exact HO_5.out⟩, ⟨by repeat (first | (with_reducible first | exact HI0.out | apply IsS95.alloc | apply IsS95.drewN | apply IsS95.drew | apply IsS95.set_1) | exact HI0.out)⟩, ⟨by repeat (first | (with_reducible first | exact HK.out | apply KeepBut.set_ | apply keep_drewN | apply keep_drew | apply keep_alloc) | exact HK.out)⟩, ⟨by repeat (first | (with_reducible first | exact HB.out | apply below_alloc | apply pw_below_drewN | apply below_drew1 | refine below_set ?_ (IsS95.ge HI0.out)) | exact HB.out)⟩⟩
   case rest =>
    clear HC7
    try clear c1
    try clear p2
    try clear c6
    try clear c8
    try clear c8b0
    try clear c9
    try clear c9b0
    try clear c9b1
    try clear c10
    try clear p2
    obtain ⟨kq, x23_6, x1001_6, rfl, HA, HJ6, HO_5, HI0, HK, HB⟩ := hcut
    cases kq with
    | zero => exact absurd HA.out (by simp [spec_l13Spans.j1])
    | succ kj6 =>
     have H := HA.out
     clear HA
     simp only [spec_l13Spans.j1] at H
     by_cases c14 : x23_6 = true
     ·subst c14
      have H1 : ((spec_l1Rd_pick.f kj6 s0_0 x1001_6 5).bind fun bt182 => (if (wrap64 ((wrap64 (x6_1 + 1)) + bt182.1)) > a1 then ((some (([10, 5, 20, 40, 1] : List Int) : List Int)).bind fun y184 => ((spec_l1Rd_pick.f kj6 s0_0 bt182.2 5).bind fun bt187 => (if 0 ≤ bt187.1 then (if bt187.1 < (y184.length : Int) then ((spec_l1Rd_pick.f kj6 s0_0 bt187.2 3).bind fun bt190 => (if x5_1.length < 4398046511104 then ((spec_l1Rd_pick.f kj6 s0_0 bt190.2 3).bind fun bt195 => (spec_l13Spans.l0 kj6 a1 (x5_1 ++ [(⟨x6_1, a1, rd y184 bt187.1, bt190.1⟩ : S50)]) (wrap64 (a1 + bt195.1)) s0_0 bt195.2)) else (none))) else (none)) else (none)))) else ((some (([10, 5, 20, 40, 1] : List Int) : List Int)).bind fun y197 => ((spec_l1Rd_pick.f kj6 s0_0 bt182.2 5).bind fun bt200 => (if 0 ≤ bt200.1 then (if bt200.1 < (y197.length : Int) then ((spec_l1Rd_pick.f kj6 s0_0 bt200.2 3).bind fun bt203 => (if x5_1.length < 4398046511104 then ((spec_l1Rd_pick.f kj6 s0_0 bt203.2 3).bind fun bt208 => (spec_l13Spans.l0 kj6 a1 (x5_1 ++ [(⟨x6_1, wrap64 ((wrap64 (x6_1 + 1)) + bt182.1), rd y197 bt200.1, bt203.1⟩ : S50)]) (wrap64 ((wrap64 ((wrap64 (x6_1 + 1)) + bt182.1)) + bt208.1)) s0_0 bt208.2)) else (none))) else (none)) else (none)))))) = some (r1, r2) := by rw [if_pos rfl] at H; exact H
      clear H
      have H := H1
      clear H1
      replace H := Option.bind_eq_some_iff.mp H
      obtain ⟨⟨t182, t183⟩, A150, H⟩ := H
      replace H : (if (wrap64 ((wrap64 (x6_1 + 1)) + t182)) > a1 then ((some (([10, 5, 20, 40, 1] : List Int) : List Int)).bind fun y184 => ((spec_l1Rd_pick.f kj6 s0_0 t183 5).bind fun bt187 => (if 0 ≤ bt187.1 then (if bt187.1 < (y184.length : Int) then ((spec_l1Rd_pick.f kj6 s0_0 bt187.2 3).bind fun bt190 => (if x5_1.length < 4398046511104 then ((spec_l1Rd_pick.f kj6 s0_0 bt190.2 3).bind fun bt195 => (spec_l13Spans.l0 kj6 a1 (x5_1 ++ [(⟨x6_1, a1, rd y184 bt187.1, bt190.1⟩ : S50)]) (wrap64 (a1 + bt195.1)) s0_0 bt195.2)) else (none))) else (none)) else (none)))) else ((some (([10, 5, 20, 40, 1] : List Int) : List Int)).bind fun y197 => ((spec_l1Rd_pick.f kj6 s0_0 t183 5).bind fun bt200 => (if 0 ≤ bt200.1 then (if bt200.1 < (y197.length : Int) then ((spec_l1Rd_pick.f kj6 s0_0 bt200.2 3).bind fun bt203 => (if x5_1.length < 4398046511104 then ((spec_l1Rd_pick.f kj6 s0_0 bt203.2 3).bind fun bt208 => (spec_l13Spans.l0 kj6 a1 (x5_1 ++ [(⟨x6_1, wrap64 ((wrap64 (x6_1 + 1)) + t182), rd y197 bt200.1, bt203.1⟩ : S50)]) (wrap64 ((wrap64 ((wrap64 (x6_1 + 1)) + t182)) + bt208.1)) s0_0 bt208.2)) else (none))) else (none)) else (none))))) = some (r1, r2) := H
      have A15 := Aside0.mk A150
      clear A150
      by_cases c16 : (wrap64 ((wrap64 (x6_1 + 1)) + t182)) > a1
      ·rw [if_pos c16] at H
       have c16b0 : decide (a1 < (wrap64 ((wrap64 (x6_1 + 1)) + t182))) = true := decide_eq_true c16
       clear c16
       obtain ⟨y184, hy184⟩ : ∃ y_ : List Int, y_ = (([10, 5, 20, 40, 1] : List Int)) := ⟨_, rfl⟩
       replace H : ((spec_l1Rd_pick.f kj6 s0_0 t183 5).bind fun bt187 => (if 0 ≤ bt187.1 then (if bt187.1 < (y184.length : Int) then ((spec_l1Rd_pick.f kj6 s0_0 bt187.2 3).bind fun bt190 => (if x5_1.length < 4398046511104 then ((spec_l1Rd_pick.f kj6 s0_0 bt190.2 3).bind fun bt195 => (spec_l13Spans.l0 kj6 a1 (x5_1 ++ [(⟨x6_1, a1, rd y184 bt187.1, bt190.1⟩ : S50)]) (wrap64 (a1 + bt195.1)) s0_0 bt195.2)) else (none))) else (none)) else (none))) = some (r1, r2) := by first | (rw [hy184]; with_reducible exact H) | (have H2_ := (Option.bind_some _ _).symm.trans H; rw [hy184]; with_reducible exact H2_) | (have H2_ := (Option.bind_some _ _).symm.trans H; with_reducible exact H2_) | with_reducible exact H | (rw [hy184]; exact H) | exact H
       have Ny184 := Aside0.mk hy184
       clear hy184
       replace H := Option.bind_eq_some_iff.mp H
       obtain ⟨⟨t187, t188⟩, A170, H⟩ := H
       replace H : (if 0 ≤ t187 then (if t187 < (y184.length : Int) then ((spec_l1Rd_pick.f kj6 s0_0 t188 3).bind fun bt190 => (if x5_1.length < 4398046511104 then ((spec_l1Rd_pick.f kj6 s0_0 bt190.2 3).bind fun bt195 => (spec_l13Spans.l0 kj6 a1 (x5_1 ++ [(⟨x6_1, a1, rd y184 t187, bt190.1⟩ : S50)]) (wrap64 (a1 + bt195.1)) s0_0 bt195.2)) else (none))) else (none)) else (none)) = some (r1, r2) := H
       have A17 := Aside0.mk A170
       clear A170
       by_cases c18 : 0 ≤ t187
       ·rw [if_pos c18] at H
        have c18b0 : decide (0 ≤ t187) = true := decide_eq_true c18
        clear c18
        by_cases c19 : t187 < (y184.length : Int)
        ·rw [if_pos c19] at H
         have c19b0 : decide (t187 < (y184.length : Int)) = true := decide_eq_true c19
         clear c19
         replace H := Option.bind_eq_some_iff.mp H
         obtain ⟨⟨t190, t191⟩, A200, H⟩ := H
         replace H : (if x5_1.length < 4398046511104 then ((spec_l1Rd_pick.f kj6 s0_0 t191 3).bind fun bt195 => (spec_l13Spans.l0 kj6 a1 (x5_1 ++ [(⟨x6_1, a1, rd y184 t187, t190⟩ : S50)]) (wrap64 (a1 + bt195.1)) s0_0 bt195.2)) else (none)) = some (r1, r2) := H
         have A20 := Aside0.mk A200
         clear A200
         by_cases c21 : x5_1.length < 4398046511104
         ·rw [if_pos c21] at H
          have LMc21 := Aside0.mk c21
          clear c21
          obtain ⟨y192, hy192⟩ : ∃ y_ : List (S50), y_ = (x5_1 ++ [(⟨x6_1, a1, rd y184 t187, t190⟩ : S50)]) := ⟨_, rfl⟩
          replace H : ((spec_l1Rd_pick.f kj6 s0_0 t191 3).bind fun bt195 => (spec_l13Spans.l0 kj6 a1 y192 (wrap64 (a1 + bt195.1)) s0_0 bt195.2)) = some (r1, r2) := by first | (rw [hy192]; with_reducible exact H) | (have H2_ := (Option.bind_some _ _).symm.trans H; rw [hy192]; with_reducible exact H2_) | (have H2_ := (Option.bind_some _ _).symm.trans H; with_reducible exact H2_) | with_reducible exact H | (rw [hy192]; exact H) | exact H
          have Ny192 := Aside0.mk hy192
          clear hy192
          replace H := Option.bind_eq_some_iff.mp H
          obtain ⟨⟨t195, t196⟩, A220, H⟩ := H
          replace H : (spec_l13Spans.l0 kj6 a1 y192 (wrap64 (a1 + t195)) s0_0 t196) = some (r1, r2) := H
          have A22 := Aside0.mk A220
          clear A220
          have H' := Aside0.mk H
          clear H
          try go_wp2_with (first | ((with_reducible refine gate_callee (f := 61) rfl ?_); refine goesL_ (some 27) rfl rfl Try.func61 (by kernel_rfl) rfl #[.pointer (some ⟨g, 0, none⟩), .int .i64 5] rfl (by (try simp only [List.map_toArray, List.map_cons, List.map_nil]); first | done | rfl | (simp only [List.length_drop, List.length_take]; rfl)) ?_; (with_reducible refine (spec_l1Rd_pick.calls kj6 g s0_0 x1001_6 5 t182 t183 w0 _ ?side1 ?side2 A15.out).mono ?_); (case side1 => repeat (first | (with_reducible first | exact HI0.out | apply IsS95.alloc | apply IsS95.drewN | apply IsS95.drew | apply IsS95.set_1) | exact HI0.out)); (case side2 => repeat (first | (with_reducible first | exact HB.out | apply below_alloc | apply pw_below_drewN | apply below_drew1 | refine below_set ?_ (IsS95.ge HI0.out)) | exact HB.out)); rintro e w23 ⟨rfl, hi, hb, hk⟩; refine ⟨_, rfl, ?_⟩; have n0_ := Aside0.mk (Kd.R_mono (Kd.R_keep (IsS95.apart (show IsS95 w0 _ g s0_0 x1001_6 from by repeat (first | (with_reducible first | exact HI0.out | apply IsS95.alloc | apply IsS95.drewN | apply IsS95.drew | apply IsS95.set_1) | exact HI0.out)) (by (with_reducible repeat (first | apply Kd.R_alloc | apply Kd.R_drewN | apply Kd.R_drew)); exact HO_5.out) (by decide)) hk (fun _ h => h.2)) (fun _ h => h.1)); have n1_ := Aside0.mk (KeepBut.trans (by repeat (first | (with_reducible first | exact HK.out | apply KeepBut.set_ | apply keep_drewN | apply keep_drew | apply keep_alloc) | exact HK.out)) hk (.inl rfl)); have n2_ := Aside0.mk (hb); have n3_ := Aside0.mk (hi); clear HO_5; clear HK; clear HB; clear HI0; have HO_5 := n0_; have HK := n1_; have HB := n2_; have HI0 := n3_; clear n0_ n1_ n2_ n3_; (try clear hb); (try clear hb2); (try clear hk); (try clear hi); obtain ⟨Ao24, co24, eo24⟩ := Kd.R_slice HO_5.out; subst eo24))
          have pi189 : (0 ≤ (t187 : Int)) = True := eq_true (of_decide_eq_true (by first | (with_reducible assumption) | assumption))
          have qi189 : (t187 < (y184.length : Int)) = True := eq_true (of_decide_eq_true (by first | (with_reducible assumption) | assumption))
          have n0_ := Aside0.mk (Kd.R_drew HO_5.out)
          have n1_ := Aside0.mk (IsS95.drew HI0.out)
          have n2_ := Aside0.mk (keep_drew HK.out)
          have n3_ := Aside0.mk (below_drew1 HB.out)
          clear HO_5
          clear HI0
          clear HK
          clear HB
          have HO_5 := n0_
          have HI0 := n1_
          have HK := n2_
          have HB := n3_
          clear n0_ n1_ n2_ n3_
          refine start_ (n := 14) (S := fun w' => True) (ds := []) #[false, false, false, false, false, false, false, false, false, false, false, false, false, false] (by kernel_rfl) rfl rfl trivial (fun hHeld => ?_); refine with_tabW spec_l13Spans.tab7 spec_l13Spans.bits7 (fun HT_ HW_ => ?_)
          generalize w23.drew = w25 at HO_5 HI0 HK HB hHeld ⊢
          refine pure_ (i := 0) (N := some 33) (v := ?_) (a' := ?_) #[true, false, false, false, false, false, false, false, false, false, false, false, false, false] rfl rfl (any_of HT_.out (by kernel_rfl)) (fun _ _ _ h => h) (Or.inl ⟨by rfl, ?_⟩) ?_ ?_
          rotate_left
          ·intro w'
           go_simp
           with_reducible rfl
          rotate_left
          ·simp only [Act.put, List.setIfInBounds_toArray, List.set_cons_zero, List.set_cons_succ, i64_w, i32_w]
           rfl
          refine pure_ (i := 1) (N := some 34) (v := ?_) (a' := ?_) #[true, true, false, false, false, false, false, false, false, false, false, false, false, false] rfl rfl (any_of HT_.out (by kernel_rfl)) (fun _ _ _ h => h) (Or.inl ⟨by rfl, ?_⟩) ?_ ?_
          rotate_left
          ·intro w'
           go_simp
           with_reducible rfl
          rotate_left
          ·simp only [Act.put, List.setIfInBounds_toArray, List.set_cons_zero, List.set_cons_succ, i64_w, i32_w]
           rfl
          refine pure_ (i := 2) (N := some 35) (v := ?_) (a' := ?_) #[true, true, true, false, false, false, false, false, false, false, false, false, false, false] rfl rfl (any_of HT_.out (by kernel_rfl)) (fun _ _ _ h => h) (Or.inl ⟨by rfl, ?_⟩) ?_ ?_
          rotate_left
          ·intro w'
           go_simp
           with_reducible rfl
          rotate_left
          ·simp only [Act.put, List.setIfInBounds_toArray, List.set_cons_zero, List.set_cons_succ, i64_w, i32_w]
           rfl
          refine pure_ (i := 4) (N := some 37) (v := ?_) (a' := ?_) #[true, true, true, false, true, false, false, false, false, false, false, false, false, false] rfl rfl (any_of HT_.out (by kernel_rfl)) (fun _ _ _ h => h) (Or.inl ⟨by rfl, ?_⟩) ?_ ?_
          rotate_left
          ·intro w'
           go_simp
           with_reducible rfl
          rotate_left
          ·simp only [Act.put, List.setIfInBounds_toArray, List.set_cons_zero, List.set_cons_succ, i64_w, i32_w]
           rfl
          refine pure_ (i := 8) (N := some 41) (v := ?_) (a' := ?_) #[true, true, true, false, true, false, false, false, true, false, false, false, false, false] rfl rfl (any_of HT_.out (by kernel_rfl)) (fun _ _ _ h => h) (Or.inl ⟨by rfl, ?_⟩) ?_ ?_
          rotate_left
          ·intro w'
           go_simp
           with_reducible rfl
          rotate_left
          ·simp only [Act.put, List.setIfInBounds_toArray, List.set_cons_zero, List.set_cons_succ, i64_w, i32_w]
           rfl
          refine join_ (σ := Value × Addr) 4 #[true, true, true, true, true, true, true, true, true, true, false, false, false, false] (fun s_ => [(36, s_.1), (38, .int .i64 t187), (40, .int .i64 (rd y184 t187)), (42, .int .i64 t190), (39, .pointer (some (s_.2.add (t187).toNat)))]) (fun s_ w' => (Kd.R (Kd.int .i64) 3 w' w.heap.size (fun _ => True) s_.1 y184) ∧ (Kd.R k50 50 w' w.heap.size (fun _ => True) (.slice Ao24 x5_1.length co24) x5_1) ∧ (∃ c_, (s_.1 : Value) = .slice (some s_.2) y184.length c_) ∧ (IsS95 w0 w' g s0_0 t191) ∧ (KeepBut w w' g none) ∧ (Below w0.heap.size w0 w')) ?_ ?_
          rotate_left
          ·intro hJ3_5_7_9
           refine join_ (σ := Value × Addr) 5 #[true, true, true, true, true, true, true, true, true, false, false, false, false, false] (fun s_ => [(36, s_.1), (38, .int .i64 t187), (40, .int .i64 (rd y184 t187)), (39, .pointer (some (s_.2.add (t187).toNat)))]) (fun s_ w' => (Kd.R (Kd.int .i64) 3 w' w.heap.size (fun _ => True) s_.1 y184) ∧ (Kd.R k50 50 w' w.heap.size (fun _ => True) (.slice Ao24 x5_1.length co24) x5_1) ∧ (∃ c_, (s_.1 : Value) = .slice (some s_.2) y184.length c_) ∧ (IsS95 w0 w' g s0_0 t188) ∧ (KeepBut w w' g none) ∧ (Below w0.heap.size w0 w')) ?_ ?_
           rotate_left
           ·intro hJ3_5_7
            refine join_ (σ := Value × Addr) 5 #[true, true, true, true, true, true, true, false, true, true, false, false, false, false] (fun s_ => [(36, s_.1), (38, .int .i64 t187), (42, .int .i64 t190), (39, .pointer (some (s_.2.add (t187).toNat)))]) (fun s_ w' => (Kd.R (Kd.int .i64) 3 w' w.heap.size (fun _ => True) s_.1 y184) ∧ (Kd.R k50 50 w' w.heap.size (fun _ => True) (.slice Ao24 x5_1.length co24) x5_1) ∧ (∃ c_, (s_.1 : Value) = .slice (some s_.2) y184.length c_) ∧ (IsS95 w0 w' g s0_0 t191) ∧ (KeepBut w w' g none) ∧ (Below w0.heap.size w0 w')) ?_ ?_
            rotate_left
            ·intro hJ3_5_9
             refine join_ (σ := Value × Addr) 6 #[true, true, true, true, true, true, true, false, true, false, false, false, false, false] (fun s_ => [(36, s_.1), (38, .int .i64 t187), (39, .pointer (some (s_.2.add (t187).toNat)))]) (fun s_ w' => (Kd.R (Kd.int .i64) 3 w' w.heap.size (fun _ => True) s_.1 y184) ∧ (Kd.R k50 50 w' w.heap.size (fun _ => True) (.slice Ao24 x5_1.length co24) x5_1) ∧ (∃ c_, (s_.1 : Value) = .slice (some s_.2) y184.length c_) ∧ (IsS95 w0 w' g s0_0 t188) ∧ (KeepBut w w' g none) ∧ (Below w0.heap.size w0 w')) ?_ ?_
             rotate_left
             ·intro hJ3_5
              refine join_ (σ := Unit) 7 #[true, true, true, false, true, true, false, false, true, true, false, false, false, false] (fun s_ => [(38, .int .i64 t187), (42, .int .i64 t190)]) (fun s_ w' => (Kd.R k50 50 w' w.heap.size (fun _ => True) (.slice Ao24 x5_1.length co24) x5_1) ∧ (IsS95 w0 w' g s0_0 t191) ∧ (KeepBut w w' g none) ∧ (Below w0.heap.size w0 w')) ?_ ?_
              rotate_left
              ·intro hJ5_9
               refine join_ (σ := Value × Addr) 8 #[true, true, true, true, true, false, false, false, true, false, false, false, false, false] (fun s_ => [(36, s_.1)]) (fun s_ w' => (Kd.R (Kd.int .i64) 3 w' w.heap.size (fun _ => True) s_.1 y184) ∧ (Kd.R k50 50 w' w.heap.size (fun _ => True) (.slice Ao24 x5_1.length co24) x5_1) ∧ (∃ c_, (s_.1 : Value) = .slice (some s_.2) y184.length c_) ∧ (IsS95 w0 w' g s0_0 t183) ∧ (KeepBut w w' g none) ∧ (Below w0.heap.size w0 w')) ?_ ?_
               rotate_left
               ·intro hJ3
                refine join_ (σ := Unit) 8 #[true, true, true, false, true, true, false, false, true, false, false, false, false, false] (fun s_ => [(38, .int .i64 t187)]) (fun s_ w' => (Kd.R k50 50 w' w.heap.size (fun _ => True) (.slice Ao24 x5_1.length co24) x5_1) ∧ (IsS95 w0 w' g s0_0 t188) ∧ (KeepBut w w' g none) ∧ (Below w0.heap.size w0 w')) ?_ ?_
                rotate_left
                ·intro hJ5
                 refine two_ (i := 3) (j := 5) (Ni := some 36) (Nj := some 38) #[true, true, true, true, true, false, false, false, true, false, false, false, false, false] #[true, true, true, false, true, true, false, false, true, false, false, false, false, false] rfl rfl rfl rfl (two_of HT_.out (by kernel_rfl)) (by decide) (by decide) (fun K hK => ?_) (fun K hK => ?_)
                 ·skip
                  refine Kd.R_lit_step (Kd.int .i64) _ 3 ?hg (N := 36) ?hd (xs := ([10, 5, 20, 40, 1] : List Int)) (inner := [.int .i64 10, .int .i64 5, .int .i64 20, .int .i64 40, .int .i64 1]) (ok := fun _ => True) (okp := fun _ => True) ?hr ?hp (fun _ hk => hk) trivial (Below.refl _ _) (Nat.le_refl _) (by simp) ?_; (case hd => rfl); (case hg => rfl); (case hr => first | (go_simp; done) | (go_simp; rfl)); (case hp => exact (Reps.one (show Kd.M (Kd.int .i64) _ _ _ 10 [.int .i64 10] from rfl) (Reps.one (show Kd.M (Kd.int .i64) _ _ _ 5 [.int .i64 5] from rfl) (Reps.one (show Kd.M (Kd.int .i64) _ _ _ 20 [.int .i64 20] from rfl) (Reps.one (show Kd.M (Kd.int .i64) _ _ _ 40 [.int .i64 40] from rfl) (Reps.one (show Kd.M (Kd.int .i64) _ _ _ 1 [.int .i64 1] from rfl) (Reps.none _ _)))))))
                  intro v185 w26 ho27 hb hg_ hnew_
                  clear hg_ hnew_
                  (first | rw [← Ny184.out] at ho27 | (simp only [Int.reduceToNat] at ho27; rw [← Ny184.out] at ho27))
                  have n0_ := Aside0.mk (Kd.R_below (by (with_reducible repeat (first | apply Kd.R_alloc | apply Kd.R_drewN | apply Kd.R_drew)); exact HO_5.out) hb)
                  have n1_ := Aside0.mk (Kd.R_lower ho27 (keep_size (w := w) (g := g) (row := none) (by repeat (first | (with_reducible first | exact HK.out | apply KeepBut.set_ | apply keep_drewN | apply keep_drew | apply keep_alloc) | exact HK.out))))
                  have n2_ := Aside0.mk (IsS95.below (by repeat (first | (with_reducible first | exact HI0.out | apply IsS95.alloc | apply IsS95.drewN | apply IsS95.drew | apply IsS95.set_1) | exact HI0.out)) hb)
                  have n3_ := Aside0.mk (KeepBut.trans (by repeat (first | (with_reducible first | exact HK.out | apply KeepBut.set_ | apply keep_drewN | apply keep_drew | apply keep_alloc) | exact HK.out)) (KeepBut.of_below hb g none) (.inl rfl))
                  have n4_ := Aside0.mk (below_step (by repeat (first | (with_reducible first | exact HB.out | apply below_alloc | apply pw_below_drewN | apply below_drew1 | refine below_set ?_ (IsS95.ge HI0.out)) | exact HB.out)) hb)
                  clear HO_5
                  clear HI0
                  clear HK
                  clear HB
                  have HO_5 := n0_
                  have HO186 := n1_
                  have HI0 := n2_
                  have HK := n3_
                  have HB := n4_
                  clear n0_ n1_ n2_ n3_ n4_
                  clear hb ho27
                  obtain ⟨Ao28, co28, eo28⟩ := Kd.R_slice HO186.out
                  subst eo28
                  obtain ⟨ado28, fo28, _⟩ := Kd.at_int (Kd.R_reads' HO186.out).2.2 0 (by decide) (by rw [Ny184.out]; simp)
                  cases fo28
                  refine hK.out _ _ trivial (fun hHeld => ?_)
                  clear hK K
                  refine norm_ (a' := ?_) ?_ ?_
                  rotate_left
                  ·show Act.put _ (some 36) _ = _
                   simp only [Act.put, List.setIfInBounds_toArray, List.set_cons_zero, List.set_cons_succ, i64_w, i32_w]
                   rfl
                  exact norm_ (by first | (simp only [putAll, Act.put, List.setIfInBounds_toArray, List.set_cons_zero, List.set_cons_succ]; done) | (simp only [putAll, Act.put, List.setIfInBounds_toArray, List.set_cons_zero, List.set_cons_succ]; rfl)) (hJ3 (.slice (some ado28) y184.length co28, ado28) _ ⟨(by (with_reducible repeat (first | apply Kd.R_alloc | apply Kd.R_drewN | apply Kd.R_drew)); exact HO186.out), (by (with_reducible repeat (first | apply Kd.R_alloc | apply Kd.R_drewN | apply Kd.R_drew)); exact HO_5.out), ⟨_, rfl⟩, (by repeat (first | (with_reducible first | exact HI0.out | apply IsS95.alloc | apply IsS95.drewN | apply IsS95.drew | apply IsS95.set_1) | exact HI0.out)), (by repeat (first | (with_reducible first | exact HK.out | apply KeepBut.set_ | apply keep_drewN | apply keep_drew | apply keep_alloc) | exact HK.out)), (by repeat (first | (with_reducible first | exact HB.out | apply below_alloc | apply pw_below_drewN | apply below_drew1 | refine below_set ?_ (IsS95.ge HI0.out)) | exact HB.out))⟩)
                 ·skip
                  refine goes_ Try.func61 (by kernel_rfl) rfl #[.pointer (some ⟨g, 0, none⟩), .int .i64 5] (by rfl) rfl rfl (by (try simp only [List.map_toArray, List.map_cons, List.map_nil]); first | done | rfl | (simp only [List.length_drop, List.length_take]; rfl)) ?_
                  with_reducible refine (spec_l1Rd_pick.calls kj6 g s0_0 t183 5 t187 t188 w0 _ ?side1 ?side2 A17.out).mono ?_
                  (case side1 => repeat (first | (with_reducible first | exact HI0.out | apply IsS95.alloc | apply IsS95.drewN | apply IsS95.drew | apply IsS95.set_1) | exact HI0.out))
                  (case side2 => repeat (first | (with_reducible first | exact HB.out | apply below_alloc | apply pw_below_drewN | apply below_drew1 | refine below_set ?_ (IsS95.ge HI0.out)) | exact HB.out))
                  rintro e w26 ⟨rfl, hi, hb, hk⟩
                  refine ⟨_, rfl, ?_⟩
                  have n0_ := Aside0.mk (Kd.R_mono (Kd.R_keep (IsS95.apart (show IsS95 w0 _ g s0_0 t183 from by repeat (first | (with_reducible first | exact HI0.out | apply IsS95.alloc | apply IsS95.drewN | apply IsS95.drew | apply IsS95.set_1) | exact HI0.out)) (by (with_reducible repeat (first | apply Kd.R_alloc | apply Kd.R_drewN | apply Kd.R_drew)); exact HO_5.out) (by decide)) hk (fun _ h => h.2)) (fun _ h => h.1))
                  have n1_ := Aside0.mk (KeepBut.trans (by repeat (first | (with_reducible first | exact HK.out | apply KeepBut.set_ | apply keep_drewN | apply keep_drew | apply keep_alloc) | exact HK.out)) hk (.inl rfl))
                  have n2_ := Aside0.mk (hb)
                  have n3_ := Aside0.mk (hi)
                  clear HO_5
                  clear HK
                  clear HB
                  clear HI0
                  have HO_5 := n0_
                  have HK := n1_
                  have HB := n2_
                  have HI0 := n3_
                  clear n0_ n1_ n2_ n3_
                  (try clear hb)
                  (try clear hb2)
                  (try clear hk)
                  (try clear hi)
                  refine hK.out _ _ trivial (fun hHeld => ?_)
                  clear hK K
                  refine norm_ (a' := ?_) ?_ ?_
                  rotate_left
                  ·show Act.put _ (some 38) _ = _
                   simp only [Act.put, List.setIfInBounds_toArray, List.set_cons_zero, List.set_cons_succ, i64_w, i32_w]
                   rfl
                  exact norm_ (by first | (simp only [putAll, Act.put, List.setIfInBounds_toArray, List.set_cons_zero, List.set_cons_succ]; done) | (simp only [putAll, Act.put, List.setIfInBounds_toArray, List.set_cons_zero, List.set_cons_succ]; rfl)) (hJ5 () _ ⟨(by (with_reducible repeat (first | apply Kd.R_alloc | apply Kd.R_drewN | apply Kd.R_drew)); exact HO_5.out), (by repeat (first | (with_reducible first | exact HI0.out | apply IsS95.alloc | apply IsS95.drewN | apply IsS95.drew | apply IsS95.set_1) | exact HI0.out)), (by repeat (first | (with_reducible first | exact HK.out | apply KeepBut.set_ | apply keep_drewN | apply keep_drew | apply keep_alloc) | exact HK.out)), (by repeat (first | (with_reducible first | exact HB.out | apply below_alloc | apply pw_below_drewN | apply below_drew1 | refine below_set ?_ (IsS95.ge HI0.out)) | exact HB.out))⟩)
                ·skip
                 rintro _ w27 ⟨h0_, h1_, h2_, h3_⟩
                 have n0_ : Aside0 (Kd.R k50 50 w27 w.heap.size (fun _ => True) (.slice Ao24 x5_1.length co24) x5_1) := ⟨h0_⟩
                 have n1_ : Aside0 (IsS95 w0 w27 g s0_0 t188) := ⟨h1_⟩
                 have n2_ : Aside0 (KeepBut w w27 g none) := ⟨h2_⟩
                 have n3_ : Aside0 (Below w0.heap.size w0 w27) := ⟨h3_⟩
                 clear HO_5
                 clear HI0
                 clear HK
                 clear HB
                 clear h0_ h1_ h2_ h3_
                 have HO_5 := n0_
                 have HI0 := n1_
                 have HK := n2_
                 have HB := n3_
                 clear n0_ n1_ n2_ n3_
                 have hHeld := trivial
                 refine norm_ (a' := ?_) ?_ ?_
                 rotate_left
                 ·simp only [putAll, Act.put, List.setIfInBounds_toArray, List.set_cons_zero, List.set_cons_succ]
                  rfl
                 refine two_ (i := 3) (j := 9) (Ni := some 36) (Nj := some 42) #[true, true, true, true, true, true, false, false, true, false, false, false, false, false] #[true, true, true, false, true, true, false, false, true, true, false, false, false, false] rfl rfl rfl rfl (two_of HT_.out (by kernel_rfl)) (by decide) (by decide) (fun K hK => ?_) (fun K hK => ?_)
                 ·skip
                  refine Kd.R_lit_step (Kd.int .i64) _ 3 ?hg (N := 36) ?hd (xs := ([10, 5, 20, 40, 1] : List Int)) (inner := [.int .i64 10, .int .i64 5, .int .i64 20, .int .i64 40, .int .i64 1]) (ok := fun _ => True) (okp := fun _ => True) ?hr ?hp (fun _ hk => hk) trivial (Below.refl _ _) (Nat.le_refl _) (by simp) ?_; (case hd => rfl); (case hg => rfl); (case hr => first | (go_simp; done) | (go_simp; rfl)); (case hp => exact (Reps.one (show Kd.M (Kd.int .i64) _ _ _ 10 [.int .i64 10] from rfl) (Reps.one (show Kd.M (Kd.int .i64) _ _ _ 5 [.int .i64 5] from rfl) (Reps.one (show Kd.M (Kd.int .i64) _ _ _ 20 [.int .i64 20] from rfl) (Reps.one (show Kd.M (Kd.int .i64) _ _ _ 40 [.int .i64 40] from rfl) (Reps.one (show Kd.M (Kd.int .i64) _ _ _ 1 [.int .i64 1] from rfl) (Reps.none _ _)))))))
                  intro v185 w28 ho29 hb hg_ hnew_
                  clear hg_ hnew_
                  (first | rw [← Ny184.out] at ho29 | (simp only [Int.reduceToNat] at ho29; rw [← Ny184.out] at ho29))
                  have n0_ := Aside0.mk (Kd.R_below (by (with_reducible repeat (first | apply Kd.R_alloc | apply Kd.R_drewN | apply Kd.R_drew)); exact HO_5.out) hb)
                  have n1_ := Aside0.mk (Kd.R_lower ho29 (keep_size (w := w) (g := g) (row := none) (by repeat (first | (with_reducible first | exact HK.out | apply KeepBut.set_ | apply keep_drewN | apply keep_drew | apply keep_alloc) | exact HK.out))))
                  have n2_ := Aside0.mk (IsS95.below (by repeat (first | (with_reducible first | exact HI0.out | apply IsS95.alloc | apply IsS95.drewN | apply IsS95.drew | apply IsS95.set_1) | exact HI0.out)) hb)
                  have n3_ := Aside0.mk (KeepBut.trans (by repeat (first | (with_reducible first | exact HK.out | apply KeepBut.set_ | apply keep_drewN | apply keep_drew | apply keep_alloc) | exact HK.out)) (KeepBut.of_below hb g none) (.inl rfl))
                  have n4_ := Aside0.mk (below_step (by repeat (first | (with_reducible first | exact HB.out | apply below_alloc | apply pw_below_drewN | apply below_drew1 | refine below_set ?_ (IsS95.ge HI0.out)) | exact HB.out)) hb)
                  clear HO_5
                  clear HI0
                  clear HK
                  clear HB
                  have HO_5 := n0_
                  have HO186 := n1_
                  have HI0 := n2_
                  have HK := n3_
                  have HB := n4_
                  clear n0_ n1_ n2_ n3_ n4_
                  clear hb ho29
                  obtain ⟨Ao30, co30, eo30⟩ := Kd.R_slice HO186.out
                  subst eo30
                  obtain ⟨ado30, fo30, _⟩ := Kd.at_int (Kd.R_reads' HO186.out).2.2 0 (by decide) (by rw [Ny184.out]; simp)
                  cases fo30
                  refine hK.out _ _ trivial (fun hHeld => ?_)
                  clear hK K
                  refine norm_ (a' := ?_) ?_ ?_
                  rotate_left
                  ·show Act.put _ (some 36) _ = _
                   simp only [Act.put, List.setIfInBounds_toArray, List.set_cons_zero, List.set_cons_succ, i64_w, i32_w]
                   rfl
                  refine pure_ (i := 6) (N := some 39) (v := ?_) (a' := ?_) #[true, true, true, true, true, true, true, false, true, false, false, false, false, false] rfl rfl (any_of HT_.out (by kernel_rfl)) (fun _ _ _ h => h) (Or.inl ⟨by rfl, ?_⟩) ?_ ?_
                  rotate_left
                  ·intro w'
                   go_simp
                   with_reducible rfl
                  rotate_left
                  ·simp only [Act.put, List.setIfInBounds_toArray, List.set_cons_zero, List.set_cons_succ, i64_w, i32_w]
                   rfl
                  exact norm_ (by first | (simp only [putAll, Act.put, List.setIfInBounds_toArray, List.set_cons_zero, List.set_cons_succ]; done) | (simp only [putAll, Act.put, List.setIfInBounds_toArray, List.set_cons_zero, List.set_cons_succ]; rfl)) (hJ3_5 (.slice (some ado30) y184.length co30, ado30) _ ⟨(by (with_reducible repeat (first | apply Kd.R_alloc | apply Kd.R_drewN | apply Kd.R_drew)); exact HO186.out), (by (with_reducible repeat (first | apply Kd.R_alloc | apply Kd.R_drewN | apply Kd.R_drew)); exact HO_5.out), ⟨_, rfl⟩, (by repeat (first | (with_reducible first | exact HI0.out | apply IsS95.alloc | apply IsS95.drewN | apply IsS95.drew | apply IsS95.set_1) | exact HI0.out)), (by repeat (first | (with_reducible first | exact HK.out | apply KeepBut.set_ | apply keep_drewN | apply keep_drew | apply keep_alloc) | exact HK.out)), (by repeat (first | (with_reducible first | exact HB.out | apply below_alloc | apply pw_below_drewN | apply below_drew1 | refine below_set ?_ (IsS95.ge HI0.out)) | exact HB.out))⟩)
                 ·skip
                  refine goes_ Try.func61 (by kernel_rfl) rfl #[.pointer (some ⟨g, 0, none⟩), .int .i64 3] (by rfl) rfl rfl (by (try simp only [List.map_toArray, List.map_cons, List.map_nil]); first | done | rfl | (simp only [List.length_drop, List.length_take]; rfl)) ?_
                  with_reducible refine (spec_l1Rd_pick.calls kj6 g s0_0 t188 3 t190 t191 w0 _ ?side1 ?side2 A20.out).mono ?_
                  (case side1 => repeat (first | (with_reducible first | exact HI0.out | apply IsS95.alloc | apply IsS95.drewN | apply IsS95.drew | apply IsS95.set_1) | exact HI0.out))
                  (case side2 => repeat (first | (with_reducible first | exact HB.out | apply below_alloc | apply pw_below_drewN | apply below_drew1 | refine below_set ?_ (IsS95.ge HI0.out)) | exact HB.out))
                  rintro e w28 ⟨rfl, hi, hb, hk⟩
                  refine ⟨_, rfl, ?_⟩
                  have n0_ := Aside0.mk (Kd.R_mono (Kd.R_keep (IsS95.apart (show IsS95 w0 _ g s0_0 t188 from by repeat (first | (with_reducible first | exact HI0.out | apply IsS95.alloc | apply IsS95.drewN | apply IsS95.drew | apply IsS95.set_1) | exact HI0.out)) (by (with_reducible repeat (first | apply Kd.R_alloc | apply Kd.R_drewN | apply Kd.R_drew)); exact HO_5.out) (by decide)) hk (fun _ h => h.2)) (fun _ h => h.1))
                  have n1_ := Aside0.mk (KeepBut.trans (by repeat (first | (with_reducible first | exact HK.out | apply KeepBut.set_ | apply keep_drewN | apply keep_drew | apply keep_alloc) | exact HK.out)) hk (.inl rfl))
                  have n2_ := Aside0.mk (hb)
                  have n3_ := Aside0.mk (hi)
                  clear HO_5
                  clear HK
                  clear HB
                  clear HI0
                  have HO_5 := n0_
                  have HK := n1_
                  have HB := n2_
                  have HI0 := n3_
                  clear n0_ n1_ n2_ n3_
                  (try clear hb)
                  (try clear hb2)
                  (try clear hk)
                  (try clear hi)
                  refine hK.out _ _ trivial (fun hHeld => ?_)
                  clear hK K
                  refine norm_ (a' := ?_) ?_ ?_
                  rotate_left
                  ·show Act.put _ (some 42) _ = _
                   simp only [Act.put, List.setIfInBounds_toArray, List.set_cons_zero, List.set_cons_succ, i64_w, i32_w]
                   rfl
                  exact norm_ (by first | (simp only [putAll, Act.put, List.setIfInBounds_toArray, List.set_cons_zero, List.set_cons_succ]; done) | (simp only [putAll, Act.put, List.setIfInBounds_toArray, List.set_cons_zero, List.set_cons_succ]; rfl)) (hJ5_9 () _ ⟨(by (with_reducible repeat (first | apply Kd.R_alloc | apply Kd.R_drewN | apply Kd.R_drew)); exact HO_5.out), (by repeat (first | (with_reducible first | exact HI0.out | apply IsS95.alloc | apply IsS95.drewN | apply IsS95.drew | apply IsS95.set_1) | exact HI0.out)), (by repeat (first | (with_reducible first | exact HK.out | apply KeepBut.set_ | apply keep_drewN | apply keep_drew | apply keep_alloc) | exact HK.out)), (by repeat (first | (with_reducible first | exact HB.out | apply below_alloc | apply pw_below_drewN | apply below_drew1 | refine below_set ?_ (IsS95.ge HI0.out)) | exact HB.out))⟩)
               ·skip
                rintro ⟨v185, adz_v185⟩ w29 ⟨h0_, h1_, h2_, h3_, h4_, h5_⟩
                have n0_ : Aside0 (Kd.R (Kd.int .i64) 3 w29 w.heap.size (fun _ => True) v185 y184) := ⟨h0_⟩
                have n1_ : Aside0 (Kd.R k50 50 w29 w.heap.size (fun _ => True) (.slice Ao24 x5_1.length co24) x5_1) := ⟨h1_⟩
                have n2_ : Aside0 (∃ c_, (v185 : Value) = .slice (some adz_v185) y184.length c_) := ⟨h2_⟩
                have n3_ : Aside0 (IsS95 w0 w29 g s0_0 t183) := ⟨h3_⟩
                have n4_ : Aside0 (KeepBut w w29 g none) := ⟨h4_⟩
                have n5_ : Aside0 (Below w0.heap.size w0 w29) := ⟨h5_⟩
                clear HO_5
                clear HI0
                clear HK
                clear HB
                clear h0_ h1_ h2_ h3_ h4_ h5_
                have HO186 := n0_
                have HO_5 := n1_
                have HA_HO186 := n2_
                have HI0 := n3_
                have HK := n4_
                have HB := n5_
                clear n0_ n1_ n2_ n3_ n4_ n5_
                have hHeld := trivial
                obtain ⟨co30, eo30⟩ := HA_HO186.out
                clear HA_HO186
                subst eo30
                refine norm_ (a' := ?_) ?_ ?_
                rotate_left
                ·simp only [putAll, Act.put, List.setIfInBounds_toArray, List.set_cons_zero, List.set_cons_succ]
                 rfl
                refine one_ (i := 5) (N := some 38) #[true, true, true, true, true, true, false, false, true, false, false, false, false, false] rfl rfl (one_of HT_.out (by kernel_rfl)) (by decide) (fun K hK => ?_)
                refine goes_ Try.func61 (by kernel_rfl) rfl #[.pointer (some ⟨g, 0, none⟩), .int .i64 5] (by rfl) rfl rfl (by (try simp only [List.map_toArray, List.map_cons, List.map_nil]); first | done | rfl | (simp only [List.length_drop, List.length_take]; rfl)) ?_
                with_reducible refine (spec_l1Rd_pick.calls kj6 g s0_0 t183 5 t187 t188 w0 _ ?side1 ?side2 A17.out).mono ?_
                (case side1 => repeat (first | (with_reducible first | exact HI0.out | apply IsS95.alloc | apply IsS95.drewN | apply IsS95.drew | apply IsS95.set_1) | exact HI0.out))
                (case side2 => repeat (first | (with_reducible first | exact HB.out | apply below_alloc | apply pw_below_drewN | apply below_drew1 | refine below_set ?_ (IsS95.ge HI0.out)) | exact HB.out))
                rintro e w31 ⟨rfl, hi, hb, hk⟩
                refine ⟨_, rfl, ?_⟩
                have n0_ := Aside0.mk (Kd.R_mono (Kd.R_keep (IsS95.apart (show IsS95 w0 _ g s0_0 t183 from by repeat (first | (with_reducible first | exact HI0.out | apply IsS95.alloc | apply IsS95.drewN | apply IsS95.drew | apply IsS95.set_1) | exact HI0.out)) (by (with_reducible repeat (first | apply Kd.R_alloc | apply Kd.R_drewN | apply Kd.R_drew)); exact HO_5.out) (by decide)) hk (fun _ h => h.2)) (fun _ h => h.1))
                have n1_ := Aside0.mk (Kd.R_mono (Kd.R_keep (IsS95.apart (show IsS95 w0 _ g s0_0 t183 from by repeat (first | (with_reducible first | exact HI0.out | apply IsS95.alloc | apply IsS95.drewN | apply IsS95.drew | apply IsS95.set_1) | exact HI0.out)) (by (with_reducible repeat (first | apply Kd.R_alloc | apply Kd.R_drewN | apply Kd.R_drew)); exact HO186.out) (by decide)) hk (fun _ h => h.2)) (fun _ h => h.1))
                have n2_ := Aside0.mk (KeepBut.trans (by repeat (first | (with_reducible first | exact HK.out | apply KeepBut.set_ | apply keep_drewN | apply keep_drew | apply keep_alloc) | exact HK.out)) hk (.inl rfl))
                have n3_ := Aside0.mk (hb)
                have n4_ := Aside0.mk (hi)
                clear HO_5
                clear HO186
                clear HK
                clear HB
                clear HI0
                have HO_5 := n0_
                have HO186 := n1_
                have HK := n2_
                have HB := n3_
                have HI0 := n4_
                clear n0_ n1_ n2_ n3_ n4_
                (try clear hb)
                (try clear hb2)
                (try clear hk)
                (try clear hi)
                refine hK.out _ _ trivial (fun hHeld => ?_)
                clear hK K
                refine norm_ (a' := ?_) ?_ ?_
                rotate_left
                ·show Act.put _ (some 38) _ = _
                 simp only [Act.put, List.setIfInBounds_toArray, List.set_cons_zero, List.set_cons_succ, i64_w, i32_w]
                 rfl
                refine pure_ (i := 6) (N := some 39) (v := ?_) (a' := ?_) #[true, true, true, true, true, true, true, false, true, false, false, false, false, false] rfl rfl (any_of HT_.out (by kernel_rfl)) (fun _ _ _ h => h) (Or.inl ⟨by rfl, ?_⟩) ?_ ?_
                rotate_left
                ·intro w'
                 go_simp
                 with_reducible rfl
                rotate_left
                ·simp only [Act.put, List.setIfInBounds_toArray, List.set_cons_zero, List.set_cons_succ, i64_w, i32_w]
                 rfl
                exact norm_ (by first | (simp only [putAll, Act.put, List.setIfInBounds_toArray, List.set_cons_zero, List.set_cons_succ]; done) | (simp only [putAll, Act.put, List.setIfInBounds_toArray, List.set_cons_zero, List.set_cons_succ]; rfl)) (hJ3_5 (.slice (some adz_v185) y184.length co30, adz_v185) _ ⟨(by (with_reducible repeat (first | apply Kd.R_alloc | apply Kd.R_drewN | apply Kd.R_drew)); exact HO186.out), (by (with_reducible repeat (first | apply Kd.R_alloc | apply Kd.R_drewN | apply Kd.R_drew)); exact HO_5.out), ⟨_, rfl⟩, (by repeat (first | (with_reducible first | exact HI0.out | apply IsS95.alloc | apply IsS95.drewN | apply IsS95.drew | apply IsS95.set_1) | exact HI0.out)), (by repeat (first | (with_reducible first | exact HK.out | apply KeepBut.set_ | apply keep_drewN | apply keep_drew | apply keep_alloc) | exact HK.out)), (by repeat (first | (with_reducible first | exact HB.out | apply below_alloc | apply pw_below_drewN | apply below_drew1 | refine below_set ?_ (IsS95.ge HI0.out)) | exact HB.out))⟩)
              ·skip
               rintro _ w28 ⟨h0_, h1_, h2_, h3_⟩
               have n0_ : Aside0 (Kd.R k50 50 w28 w.heap.size (fun _ => True) (.slice Ao24 x5_1.length co24) x5_1) := ⟨h0_⟩
               have n1_ : Aside0 (IsS95 w0 w28 g s0_0 t191) := ⟨h1_⟩
               have n2_ : Aside0 (KeepBut w w28 g none) := ⟨h2_⟩
               have n3_ : Aside0 (Below w0.heap.size w0 w28) := ⟨h3_⟩
               clear HO_5
               clear HI0
               clear HK
               clear HB
               clear h0_ h1_ h2_ h3_
               have HO_5 := n0_
               have HI0 := n1_
               have HK := n2_
               have HB := n3_
               clear n0_ n1_ n2_ n3_
               have hHeld := trivial
               refine norm_ (a' := ?_) ?_ ?_
               rotate_left
               ·simp only [putAll, Act.put, List.setIfInBounds_toArray, List.set_cons_zero, List.set_cons_succ]
                rfl
               refine one_ (i := 3) (N := some 36) #[true, true, true, true, true, true, false, false, true, true, false, false, false, false] rfl rfl (one_of HT_.out (by kernel_rfl)) (by decide) (fun K hK => ?_)
               refine Kd.R_lit_step (Kd.int .i64) _ 3 ?hg (N := 36) ?hd (xs := ([10, 5, 20, 40, 1] : List Int)) (inner := [.int .i64 10, .int .i64 5, .int .i64 20, .int .i64 40, .int .i64 1]) (ok := fun _ => True) (okp := fun _ => True) ?hr ?hp (fun _ hk => hk) trivial (Below.refl _ _) (Nat.le_refl _) (by simp) ?_; (case hd => rfl); (case hg => rfl); (case hr => first | (go_simp; done) | (go_simp; rfl)); (case hp => exact (Reps.one (show Kd.M (Kd.int .i64) _ _ _ 10 [.int .i64 10] from rfl) (Reps.one (show Kd.M (Kd.int .i64) _ _ _ 5 [.int .i64 5] from rfl) (Reps.one (show Kd.M (Kd.int .i64) _ _ _ 20 [.int .i64 20] from rfl) (Reps.one (show Kd.M (Kd.int .i64) _ _ _ 40 [.int .i64 40] from rfl) (Reps.one (show Kd.M (Kd.int .i64) _ _ _ 1 [.int .i64 1] from rfl) (Reps.none _ _)))))))
               intro v185 w29 ho30 hb hg_ hnew_
               clear hg_ hnew_
               (first | rw [← Ny184.out] at ho30 | (simp only [Int.reduceToNat] at ho30; rw [← Ny184.out] at ho30))
               have n0_ := Aside0.mk (Kd.R_below (by (with_reducible repeat (first | apply Kd.R_alloc | apply Kd.R_drewN | apply Kd.R_drew)); exact HO_5.out) hb)
               have n1_ := Aside0.mk (Kd.R_lower ho30 (keep_size (w := w) (g := g) (row := none) (by repeat (first | (with_reducible first | exact HK.out | apply KeepBut.set_ | apply keep_drewN | apply keep_drew | apply keep_alloc) | exact HK.out))))
               have n2_ := Aside0.mk (IsS95.below (by repeat (first | (with_reducible first | exact HI0.out | apply IsS95.alloc | apply IsS95.drewN | apply IsS95.drew | apply IsS95.set_1) | exact HI0.out)) hb)
               have n3_ := Aside0.mk (KeepBut.trans (by repeat (first | (with_reducible first | exact HK.out | apply KeepBut.set_ | apply keep_drewN | apply keep_drew | apply keep_alloc) | exact HK.out)) (KeepBut.of_below hb g none) (.inl rfl))
               have n4_ := Aside0.mk (below_step (by repeat (first | (with_reducible first | exact HB.out | apply below_alloc | apply pw_below_drewN | apply below_drew1 | refine below_set ?_ (IsS95.ge HI0.out)) | exact HB.out)) hb)
               clear HO_5
               clear HI0
               clear HK
               clear HB
               have HO_5 := n0_
               have HO186 := n1_
               have HI0 := n2_
               have HK := n3_
               have HB := n4_
               clear n0_ n1_ n2_ n3_ n4_
               clear hb ho30
               obtain ⟨Ao31, co31, eo31⟩ := Kd.R_slice HO186.out
               subst eo31
               obtain ⟨ado31, fo31, _⟩ := Kd.at_int (Kd.R_reads' HO186.out).2.2 0 (by decide) (by rw [Ny184.out]; simp)
               cases fo31
               refine hK.out _ _ trivial (fun hHeld => ?_)
               clear hK K
               refine norm_ (a' := ?_) ?_ ?_
               rotate_left
               ·show Act.put _ (some 36) _ = _
                simp only [Act.put, List.setIfInBounds_toArray, List.set_cons_zero, List.set_cons_succ, i64_w, i32_w]
                rfl
               refine pure_ (i := 6) (N := some 39) (v := ?_) (a' := ?_) #[true, true, true, true, true, true, true, false, true, true, false, false, false, false] rfl rfl (any_of HT_.out (by kernel_rfl)) (fun _ _ _ h => h) (Or.inl ⟨by rfl, ?_⟩) ?_ ?_
               rotate_left
               ·intro w'
                go_simp
                with_reducible rfl
               rotate_left
               ·simp only [Act.put, List.setIfInBounds_toArray, List.set_cons_zero, List.set_cons_succ, i64_w, i32_w]
                rfl
               exact norm_ (by first | (simp only [putAll, Act.put, List.setIfInBounds_toArray, List.set_cons_zero, List.set_cons_succ]; done) | (simp only [putAll, Act.put, List.setIfInBounds_toArray, List.set_cons_zero, List.set_cons_succ]; rfl)) (hJ3_5_9 (.slice (some ado31) y184.length co31, ado31) _ ⟨(by (with_reducible repeat (first | apply Kd.R_alloc | apply Kd.R_drewN | apply Kd.R_drew)); exact HO186.out), (by (with_reducible repeat (first | apply Kd.R_alloc | apply Kd.R_drewN | apply Kd.R_drew)); exact HO_5.out), ⟨_, rfl⟩, (by repeat (first | (with_reducible first | exact HI0.out | apply IsS95.alloc | apply IsS95.drewN | apply IsS95.drew | apply IsS95.set_1) | exact HI0.out)), (by repeat (first | (with_reducible first | exact HK.out | apply KeepBut.set_ | apply keep_drewN | apply keep_drew | apply keep_alloc) | exact HK.out)), (by repeat (first | (with_reducible first | exact HB.out | apply below_alloc | apply pw_below_drewN | apply below_drew1 | refine below_set ?_ (IsS95.ge HI0.out)) | exact HB.out))⟩)
             ·skip
              rintro ⟨v185, adz_v185⟩ w30 ⟨h0_, h1_, h2_, h3_, h4_, h5_⟩
              have n0_ : Aside0 (Kd.R (Kd.int .i64) 3 w30 w.heap.size (fun _ => True) v185 y184) := ⟨h0_⟩
              have n1_ : Aside0 (Kd.R k50 50 w30 w.heap.size (fun _ => True) (.slice Ao24 x5_1.length co24) x5_1) := ⟨h1_⟩
              have n2_ : Aside0 (∃ c_, (v185 : Value) = .slice (some adz_v185) y184.length c_) := ⟨h2_⟩
              have n3_ : Aside0 (IsS95 w0 w30 g s0_0 t188) := ⟨h3_⟩
              have n4_ : Aside0 (KeepBut w w30 g none) := ⟨h4_⟩
              have n5_ : Aside0 (Below w0.heap.size w0 w30) := ⟨h5_⟩
              clear HO_5
              clear HI0
              clear HK
              clear HB
              clear h0_ h1_ h2_ h3_ h4_ h5_
              have HO186 := n0_
              have HO_5 := n1_
              have HA_HO186 := n2_
              have HI0 := n3_
              have HK := n4_
              have HB := n5_
              clear n0_ n1_ n2_ n3_ n4_ n5_
              have hHeld := trivial
              obtain ⟨co31, eo31⟩ := HA_HO186.out
              clear HA_HO186
              subst eo31
              refine norm_ (a' := ?_) ?_ ?_
              rotate_left
              ·simp only [putAll, Act.put, List.setIfInBounds_toArray, List.set_cons_zero, List.set_cons_succ]
               rfl
              refine two_ (i := 7) (j := 9) (Ni := some 40) (Nj := some 42) #[true, true, true, true, true, true, true, true, true, false, false, false, false, false] #[true, true, true, true, true, true, true, false, true, true, false, false, false, false] rfl rfl rfl rfl (two_of HT_.out (by kernel_rfl)) (by decide) (by decide) (fun K hK => ?_) (fun K hK => ?_)
              ·skip
               (have p189 : 0 ≤ (t187 : Int) := of_decide_eq_true (by first | (with_reducible assumption) | assumption); have q189 : t187 < (y184.length : Int) := of_decide_eq_true (by first | (with_reducible assumption) | assumption); obtain ⟨ad189, e189, hx189_0⟩ := Kd.at_int (Kd.R_reads' HO186.out).2.2 t187 p189 q189; obtain rfl : adz_v185 = ad189 := (by injection e189))
               refine value_ (w1 := ?_) (v := ?_) (by rfl) rfl ?_ ?_
               rotate_left 2
               ·go_simp
                constructor
                ·rfl
                ·rfl
               clear hx189_0
               refine hK.out _ _ trivial (fun hHeld => ?_)
               clear hK K
               refine norm_ (a' := ?_) ?_ ?_
               rotate_left
               ·show Act.put _ (some 40) _ = _
                simp only [Act.put, List.setIfInBounds_toArray, List.set_cons_zero, List.set_cons_succ, i64_w, i32_w]
                rfl
               exact norm_ (by first | (simp only [putAll, Act.put, List.setIfInBounds_toArray, List.set_cons_zero, List.set_cons_succ]; done) | (simp only [putAll, Act.put, List.setIfInBounds_toArray, List.set_cons_zero, List.set_cons_succ]; rfl)) (hJ3_5_7 (.slice (some adz_v185) y184.length co31, adz_v185) _ ⟨(by (with_reducible repeat (first | apply Kd.R_alloc | apply Kd.R_drewN | apply Kd.R_drew)); exact HO186.out), (by (with_reducible repeat (first | apply Kd.R_alloc | apply Kd.R_drewN | apply Kd.R_drew)); exact HO_5.out), ⟨_, rfl⟩, (by repeat (first | (with_reducible first | exact HI0.out | apply IsS95.alloc | apply IsS95.drewN | apply IsS95.drew | apply IsS95.set_1) | exact HI0.out)), (by repeat (first | (with_reducible first | exact HK.out | apply KeepBut.set_ | apply keep_drewN | apply keep_drew | apply keep_alloc) | exact HK.out)), (by repeat (first | (with_reducible first | exact HB.out | apply below_alloc | apply pw_below_drewN | apply below_drew1 | refine below_set ?_ (IsS95.ge HI0.out)) | exact HB.out))⟩)
              ·skip
               refine goes_ Try.func61 (by kernel_rfl) rfl #[.pointer (some ⟨g, 0, none⟩), .int .i64 3] (by rfl) rfl rfl (by (try simp only [List.map_toArray, List.map_cons, List.map_nil]); first | done | rfl | (simp only [List.length_drop, List.length_take]; rfl)) ?_
               with_reducible refine (spec_l1Rd_pick.calls kj6 g s0_0 t188 3 t190 t191 w0 _ ?side1 ?side2 A20.out).mono ?_
               (case side1 => repeat (first | (with_reducible first | exact HI0.out | apply IsS95.alloc | apply IsS95.drewN | apply IsS95.drew | apply IsS95.set_1) | exact HI0.out))
               (case side2 => repeat (first | (with_reducible first | exact HB.out | apply below_alloc | apply pw_below_drewN | apply below_drew1 | refine below_set ?_ (IsS95.ge HI0.out)) | exact HB.out))
               rintro e w32 ⟨rfl, hi, hb, hk⟩
               refine ⟨_, rfl, ?_⟩
               have n0_ := Aside0.mk (Kd.R_mono (Kd.R_keep (IsS95.apart (show IsS95 w0 _ g s0_0 t188 from by repeat (first | (with_reducible first | exact HI0.out | apply IsS95.alloc | apply IsS95.drewN | apply IsS95.drew | apply IsS95.set_1) | exact HI0.out)) (by (with_reducible repeat (first | apply Kd.R_alloc | apply Kd.R_drewN | apply Kd.R_drew)); exact HO_5.out) (by decide)) hk (fun _ h => h.2)) (fun _ h => h.1))
               have n1_ := Aside0.mk (Kd.R_mono (Kd.R_keep (IsS95.apart (show IsS95 w0 _ g s0_0 t188 from by repeat (first | (with_reducible first | exact HI0.out | apply IsS95.alloc | apply IsS95.drewN | apply IsS95.drew | apply IsS95.set_1) | exact HI0.out)) (by (with_reducible repeat (first | apply Kd.R_alloc | apply Kd.R_drewN | apply Kd.R_drew)); exact HO186.out) (by decide)) hk (fun _ h => h.2)) (fun _ h => h.1))
               have n2_ := Aside0.mk (KeepBut.trans (by repeat (first | (with_reducible first | exact HK.out | apply KeepBut.set_ | apply keep_drewN | apply keep_drew | apply keep_alloc) | exact HK.out)) hk (.inl rfl))
               have n3_ := Aside0.mk (hb)
               have n4_ := Aside0.mk (hi)
               clear HO_5
               clear HO186
               clear HK
               clear HB
               clear HI0
               have HO_5 := n0_
               have HO186 := n1_
               have HK := n2_
               have HB := n3_
               have HI0 := n4_
               clear n0_ n1_ n2_ n3_ n4_
               (try clear hb)
               (try clear hb2)
               (try clear hk)
               (try clear hi)
               refine hK.out _ _ trivial (fun hHeld => ?_)
               clear hK K
               refine norm_ (a' := ?_) ?_ ?_
               rotate_left
               ·show Act.put _ (some 42) _ = _
                simp only [Act.put, List.setIfInBounds_toArray, List.set_cons_zero, List.set_cons_succ, i64_w, i32_w]
                rfl
               exact norm_ (by first | (simp only [putAll, Act.put, List.setIfInBounds_toArray, List.set_cons_zero, List.set_cons_succ]; done) | (simp only [putAll, Act.put, List.setIfInBounds_toArray, List.set_cons_zero, List.set_cons_succ]; rfl)) (hJ3_5_9 (.slice (some adz_v185) y184.length co31, adz_v185) _ ⟨(by (with_reducible repeat (first | apply Kd.R_alloc | apply Kd.R_drewN | apply Kd.R_drew)); exact HO186.out), (by (with_reducible repeat (first | apply Kd.R_alloc | apply Kd.R_drewN | apply Kd.R_drew)); exact HO_5.out), ⟨_, rfl⟩, (by repeat (first | (with_reducible first | exact HI0.out | apply IsS95.alloc | apply IsS95.drewN | apply IsS95.drew | apply IsS95.set_1) | exact HI0.out)), (by repeat (first | (with_reducible first | exact HK.out | apply KeepBut.set_ | apply keep_drewN | apply keep_drew | apply keep_alloc) | exact HK.out)), (by repeat (first | (with_reducible first | exact HB.out | apply below_alloc | apply pw_below_drewN | apply below_drew1 | refine below_set ?_ (IsS95.ge HI0.out)) | exact HB.out))⟩)
            ·skip
             rintro ⟨v185, adz_v185⟩ w31 ⟨h0_, h1_, h2_, h3_, h4_, h5_⟩
             have n0_ : Aside0 (Kd.R (Kd.int .i64) 3 w31 w.heap.size (fun _ => True) v185 y184) := ⟨h0_⟩
             have n1_ : Aside0 (Kd.R k50 50 w31 w.heap.size (fun _ => True) (.slice Ao24 x5_1.length co24) x5_1) := ⟨h1_⟩
             have n2_ : Aside0 (∃ c_, (v185 : Value) = .slice (some adz_v185) y184.length c_) := ⟨h2_⟩
             have n3_ : Aside0 (IsS95 w0 w31 g s0_0 t191) := ⟨h3_⟩
             have n4_ : Aside0 (KeepBut w w31 g none) := ⟨h4_⟩
             have n5_ : Aside0 (Below w0.heap.size w0 w31) := ⟨h5_⟩
             clear HO_5
             clear HI0
             clear HK
             clear HB
             clear h0_ h1_ h2_ h3_ h4_ h5_
             have HO186 := n0_
             have HO_5 := n1_
             have HA_HO186 := n2_
             have HI0 := n3_
             have HK := n4_
             have HB := n5_
             clear n0_ n1_ n2_ n3_ n4_ n5_
             have hHeld := trivial
             obtain ⟨co32, eo32⟩ := HA_HO186.out
             clear HA_HO186
             subst eo32
             refine norm_ (a' := ?_) ?_ ?_
             rotate_left
             ·simp only [putAll, Act.put, List.setIfInBounds_toArray, List.set_cons_zero, List.set_cons_succ]
              rfl
             refine one_ (i := 7) (N := some 40) #[true, true, true, true, true, true, true, true, true, true, false, false, false, false] rfl rfl (one_of HT_.out (by kernel_rfl)) (by decide) (fun K hK => ?_)
             (have p189 : 0 ≤ (t187 : Int) := of_decide_eq_true (by first | (with_reducible assumption) | assumption); have q189 : t187 < (y184.length : Int) := of_decide_eq_true (by first | (with_reducible assumption) | assumption); obtain ⟨ad189, e189, hx189_0⟩ := Kd.at_int (Kd.R_reads' HO186.out).2.2 t187 p189 q189; obtain rfl : adz_v185 = ad189 := (by injection e189))
             refine value_ (w1 := ?_) (v := ?_) (by rfl) rfl ?_ ?_
             rotate_left 2
             ·go_simp
              constructor
              ·rfl
              ·rfl
             clear hx189_0
             refine hK.out _ _ trivial (fun hHeld => ?_)
             clear hK K
             refine norm_ (a' := ?_) ?_ ?_
             rotate_left
             ·show Act.put _ (some 40) _ = _
              simp only [Act.put, List.setIfInBounds_toArray, List.set_cons_zero, List.set_cons_succ, i64_w, i32_w]
              rfl
             exact norm_ (by first | (simp only [putAll, Act.put, List.setIfInBounds_toArray, List.set_cons_zero, List.set_cons_succ]; done) | (simp only [putAll, Act.put, List.setIfInBounds_toArray, List.set_cons_zero, List.set_cons_succ]; rfl)) (hJ3_5_7_9 (.slice (some adz_v185) y184.length co32, adz_v185) _ ⟨(by (with_reducible repeat (first | apply Kd.R_alloc | apply Kd.R_drewN | apply Kd.R_drew)); exact HO186.out), (by (with_reducible repeat (first | apply Kd.R_alloc | apply Kd.R_drewN | apply Kd.R_drew)); exact HO_5.out), ⟨_, rfl⟩, (by repeat (first | (with_reducible first | exact HI0.out | apply IsS95.alloc | apply IsS95.drewN | apply IsS95.drew | apply IsS95.set_1) | exact HI0.out)), (by repeat (first | (with_reducible first | exact HK.out | apply KeepBut.set_ | apply keep_drewN | apply keep_drew | apply keep_alloc) | exact HK.out)), (by repeat (first | (with_reducible first | exact HB.out | apply below_alloc | apply pw_below_drewN | apply below_drew1 | refine below_set ?_ (IsS95.ge HI0.out)) | exact HB.out))⟩)
           ·skip
            rintro ⟨v185, adz_v185⟩ w30 ⟨h0_, h1_, h2_, h3_, h4_, h5_⟩
            have n0_ : Aside0 (Kd.R (Kd.int .i64) 3 w30 w.heap.size (fun _ => True) v185 y184) := ⟨h0_⟩
            have n1_ : Aside0 (Kd.R k50 50 w30 w.heap.size (fun _ => True) (.slice Ao24 x5_1.length co24) x5_1) := ⟨h1_⟩
            have n2_ : Aside0 (∃ c_, (v185 : Value) = .slice (some adz_v185) y184.length c_) := ⟨h2_⟩
            have n3_ : Aside0 (IsS95 w0 w30 g s0_0 t188) := ⟨h3_⟩
            have n4_ : Aside0 (KeepBut w w30 g none) := ⟨h4_⟩
            have n5_ : Aside0 (Below w0.heap.size w0 w30) := ⟨h5_⟩
            clear HO_5
            clear HI0
            clear HK
            clear HB
            clear h0_ h1_ h2_ h3_ h4_ h5_
            have HO186 := n0_
            have HO_5 := n1_
            have HA_HO186 := n2_
            have HI0 := n3_
            have HK := n4_
            have HB := n5_
            clear n0_ n1_ n2_ n3_ n4_ n5_
            have hHeld := trivial
            obtain ⟨co31, eo31⟩ := HA_HO186.out
            clear HA_HO186
            subst eo31
            refine norm_ (a' := ?_) ?_ ?_
            rotate_left
            ·simp only [putAll, Act.put, List.setIfInBounds_toArray, List.set_cons_zero, List.set_cons_succ]
             rfl
            refine one_ (i := 9) (N := some 42) #[true, true, true, true, true, true, true, true, true, true, false, false, false, false] rfl rfl (one_of HT_.out (by kernel_rfl)) (by decide) (fun K hK => ?_)
            refine goes_ Try.func61 (by kernel_rfl) rfl #[.pointer (some ⟨g, 0, none⟩), .int .i64 3] (by rfl) rfl rfl (by (try simp only [List.map_toArray, List.map_cons, List.map_nil]); first | done | rfl | (simp only [List.length_drop, List.length_take]; rfl)) ?_
            with_reducible refine (spec_l1Rd_pick.calls kj6 g s0_0 t188 3 t190 t191 w0 _ ?side1 ?side2 A20.out).mono ?_
            (case side1 => repeat (first | (with_reducible first | exact HI0.out | apply IsS95.alloc | apply IsS95.drewN | apply IsS95.drew | apply IsS95.set_1) | exact HI0.out))
            (case side2 => repeat (first | (with_reducible first | exact HB.out | apply below_alloc | apply pw_below_drewN | apply below_drew1 | refine below_set ?_ (IsS95.ge HI0.out)) | exact HB.out))
            rintro e w32 ⟨rfl, hi, hb, hk⟩
            refine ⟨_, rfl, ?_⟩
            have n0_ := Aside0.mk (Kd.R_mono (Kd.R_keep (IsS95.apart (show IsS95 w0 _ g s0_0 t188 from by repeat (first | (with_reducible first | exact HI0.out | apply IsS95.alloc | apply IsS95.drewN | apply IsS95.drew | apply IsS95.set_1) | exact HI0.out)) (by (with_reducible repeat (first | apply Kd.R_alloc | apply Kd.R_drewN | apply Kd.R_drew)); exact HO_5.out) (by decide)) hk (fun _ h => h.2)) (fun _ h => h.1))
            have n1_ := Aside0.mk (Kd.R_mono (Kd.R_keep (IsS95.apart (show IsS95 w0 _ g s0_0 t188 from by repeat (first | (with_reducible first | exact HI0.out | apply IsS95.alloc | apply IsS95.drewN | apply IsS95.drew | apply IsS95.set_1) | exact HI0.out)) (by (with_reducible repeat (first | apply Kd.R_alloc | apply Kd.R_drewN | apply Kd.R_drew)); exact HO186.out) (by decide)) hk (fun _ h => h.2)) (fun _ h => h.1))
            have n2_ := Aside0.mk (KeepBut.trans (by repeat (first | (with_reducible first | exact HK.out | apply KeepBut.set_ | apply keep_drewN | apply keep_drew | apply keep_alloc) | exact HK.out)) hk (.inl rfl))
            have n3_ := Aside0.mk (hb)
            have n4_ := Aside0.mk (hi)
            clear HO_5
            clear HO186
            clear HK
            clear HB
            clear HI0
            have HO_5 := n0_
            have HO186 := n1_
            have HK := n2_
            have HB := n3_
            have HI0 := n4_
            clear n0_ n1_ n2_ n3_ n4_
            (try clear hb)
            (try clear hb2)
            (try clear hk)
            (try clear hi)
            refine hK.out _ _ trivial (fun hHeld => ?_)
            clear hK K
            refine norm_ (a' := ?_) ?_ ?_
            rotate_left
            ·show Act.put _ (some 42) _ = _
             simp only [Act.put, List.setIfInBounds_toArray, List.set_cons_zero, List.set_cons_succ, i64_w, i32_w]
             rfl
            exact norm_ (by first | (simp only [putAll, Act.put, List.setIfInBounds_toArray, List.set_cons_zero, List.set_cons_succ]; done) | (simp only [putAll, Act.put, List.setIfInBounds_toArray, List.set_cons_zero, List.set_cons_succ]; rfl)) (hJ3_5_7_9 (.slice (some adz_v185) y184.length co31, adz_v185) _ ⟨(by (with_reducible repeat (first | apply Kd.R_alloc | apply Kd.R_drewN | apply Kd.R_drew)); exact HO186.out), (by (with_reducible repeat (first | apply Kd.R_alloc | apply Kd.R_drewN | apply Kd.R_drew)); exact HO_5.out), ⟨_, rfl⟩, (by repeat (first | (with_reducible first | exact HI0.out | apply IsS95.alloc | apply IsS95.drewN | apply IsS95.drew | apply IsS95.set_1) | exact HI0.out)), (by repeat (first | (with_reducible first | exact HK.out | apply KeepBut.set_ | apply keep_drewN | apply keep_drew | apply keep_alloc) | exact HK.out)), (by repeat (first | (with_reducible first | exact HB.out | apply below_alloc | apply pw_below_drewN | apply below_drew1 | refine below_set ?_ (IsS95.ge HI0.out)) | exact HB.out))⟩)
          rintro ⟨v185, adz_v185⟩ w31 ⟨h0_, h1_, h2_, h3_, h4_, h5_⟩
          have n0_ : Aside0 (Kd.R (Kd.int .i64) 3 w31 w.heap.size (fun _ => True) v185 y184) := ⟨h0_⟩
          have n1_ : Aside0 (Kd.R k50 50 w31 w.heap.size (fun _ => True) (.slice Ao24 x5_1.length co24) x5_1) := ⟨h1_⟩
          have n2_ : Aside0 (∃ c_, (v185 : Value) = .slice (some adz_v185) y184.length c_) := ⟨h2_⟩
          have n3_ : Aside0 (IsS95 w0 w31 g s0_0 t191) := ⟨h3_⟩
          have n4_ : Aside0 (KeepBut w w31 g none) := ⟨h4_⟩
          have n5_ : Aside0 (Below w0.heap.size w0 w31) := ⟨h5_⟩
          clear HO_5
          clear HI0
          clear HK
          clear HB
          clear h0_ h1_ h2_ h3_ h4_ h5_
          have HO186 := n0_
          have HO_5 := n1_
          have HA_HO186 := n2_
          have HI0 := n3_
          have HK := n4_
          have HB := n5_
          clear n0_ n1_ n2_ n3_ n4_ n5_
          have hHeld := trivial
          obtain ⟨co32, eo32⟩ := HA_HO186.out
          clear HA_HO186
          subst eo32
          refine norm_ (a' := ?_) ?_ ?_
          rotate_left
          ·simp only [putAll, Act.put, List.setIfInBounds_toArray, List.set_cons_zero, List.set_cons_succ]
           rfl
          refine pure_ (i := 10) (N := some 43) (v := ?_) (a' := ?_) #[true, true, true, true, true, true, true, true, true, true, true, false, false, false] rfl rfl (any_of HT_.out (by kernel_rfl)) (fun _ _ _ h => h) (Or.inl ⟨by rfl, ?_⟩) ?_ ?_
          rotate_left
          ·intro w'
           go_simp
           with_reducible rfl
          rotate_left
          ·simp only [Act.put, List.setIfInBounds_toArray, List.set_cons_zero, List.set_cons_succ, i64_w, i32_w]
           rfl
          refine one_ (i := 11) (N := some 44) #[true, true, true, true, true, true, true, true, true, true, true, true, false, false] rfl rfl (one_of HT_.out (by kernel_rfl)) (by decide) (fun K hK => ?_)
          refine value_ (w1 := ?_) (v := ?_) (by rfl) rfl ?_ ?_
          rotate_left 2
          ·go_simp
           constructor
           ·rfl
           ·rfl
          refine hK.out _ _ trivial (fun hHeld => ?_)
          clear hK K
          refine norm_ (a' := ?_) ?_ ?_
          rotate_left
          ·show Act.put _ (some 44) _ = _
           simp only [Act.put, List.setIfInBounds_toArray, List.set_cons_zero, List.set_cons_succ, i64_w, i32_w]
           rfl
          refine one_ (i := 12) (N := some 45) #[true, true, true, true, true, true, true, true, true, true, true, true, true, false] rfl rfl (one_of HT_.out (by kernel_rfl)) (by decide) (fun K hK => ?_)
          refine Kd.R_append_step k50 w.heap.size (by rfl) (.tmp 33) (.tmp 44) 38 50 (.agg #[(.int .i64 0), (.int .i64 0), (.int .i64 0), (.int .i64 0)]) 32 rfl Try.underlying38 info50 rfl (by decide) (by omega) (.slice Ao24 x5_1.length co24) x5_1 (⟨x6_1, a1, rd y184 t187, t190⟩ : S50) [.int .i64 x6_1, .int .i64 a1, .int .i64 (rd y184 t187), .int .i64 t190] (fun _ => True) (fun _ => False) rfl rfl ?aP (fun _ hk => hk.elim) ?aF ?aO (Below.refl _ _) ?aS ?aL ?_
          (case aP => exact k50_mkM _ _ _ (⟨x6_1, a1, rd y184 t187, t190⟩ : S50))
          (case aF => exact (fun _ _ => trivial))
          (case aO => exact (by (with_reducible repeat (first | apply Kd.R_alloc | apply Kd.R_drewN | apply Kd.R_drew)); exact HO_5.out))
          (case aS => exact (keep_size (w := w) (g := g) (row := none) (by repeat (first | (with_reducible first | exact HK.out | apply KeepBut.set_ | apply keep_drewN | apply keep_drew | apply keep_alloc) | exact HK.out))))
          (case aL => have := LMc21.out; omega)
          intro v193 w33 ho hb hg hat
          rw [← Ny192.out] at ho
          have n0_ := Aside0.mk (IsS95.grown (by repeat (first | (with_reducible first | exact HI0.out | apply IsS95.alloc | apply IsS95.drewN | apply IsS95.drew | apply IsS95.set_1) | exact HI0.out)) hg (IsS95.own_ne HI0.out HO_5.out (by decide)))
          have n1_ := Aside0.mk (Kd.R_over' (by (with_reducible repeat (first | apply Kd.R_alloc | apply Kd.R_drewN | apply Kd.R_drew)); exact HO186.out) (Kd.R_typed (by (with_reducible repeat (first | apply Kd.R_alloc | apply Kd.R_drewN | apply Kd.R_drew)); exact HO_5.out)) (by decide) hg)
          have n2_ := Aside0.mk (below_weaken (by repeat (first | (with_reducible first | exact HB.out | apply below_alloc | apply pw_below_drewN | apply below_drew1 | refine below_set ?_ (IsS95.ge HI0.out)) | exact HB.out)) HL.out hb)
          have n3_ := Aside0.mk (KeepBut.trans (by repeat (first | (with_reducible first | exact HK.out | apply KeepBut.set_ | apply keep_drewN | apply keep_drew | apply keep_alloc) | exact HK.out)) (KeepBut.of_grown hg g) (Kd.R_base2 HO_5.out))
          have n4_ := Aside0.mk (ho)
          clear HI0
          clear HO186
          clear HB
          clear HK
          clear HO_5
          have HI0 := n0_
          have HO186 := n1_
          have HB := n2_
          have HK := n3_
          have HO194 := n4_
          clear n0_ n1_ n2_ n3_ n4_
          clear ho hb hg hat
          refine hK.out _ _ trivial (fun hHeld => ?_)
          clear hK K
          refine norm_ (a' := ?_) ?_ ?_
          rotate_left
          ·show Act.put _ (some 45) _ = _
           simp only [Act.put, List.setIfInBounds_toArray, List.set_cons_zero, List.set_cons_succ, i64_w, i32_w]
           rfl
          refine pure_ (i := 13) (N := some 5) (v := ?_) (a' := ?_) #[true, true, true, true, true, true, true, true, true, true, true, true, true, true] rfl rfl (any_of HT_.out (by kernel_rfl)) (fun _ _ _ h => h) (Or.inl ⟨by rfl, ?_⟩) ?_ ?_
          rotate_left
          ·intro w'
           go_simp
           with_reducible rfl
          rotate_left
          ·simp only [Act.put, List.setIfInBounds_toArray, List.set_cons_zero, List.set_cons_succ, i64_w, i32_w]
           rfl
          refine done_ (done_of HT_.out (by kernel_rfl)) ?_
          try go_wp2_with (first | ((with_reducible refine gate_callee (f := 61) rfl ?_); refine goesL_ (some 48) rfl rfl Try.func61 (by kernel_rfl) rfl #[.pointer (some ⟨g, 0, none⟩), .int .i64 3] rfl (by (try simp only [List.map_toArray, List.map_cons, List.map_nil]); first | done | rfl | (simp only [List.length_drop, List.length_take]; rfl)) ?_; (with_reducible refine (spec_l1Rd_pick.calls kj6 g s0_0 t191 3 t195 t196 w0 _ ?side1 ?side2 A22.out).mono ?_); (case side1 => repeat (first | (with_reducible first | exact HI0.out | apply IsS95.alloc | apply IsS95.drewN | apply IsS95.drew | apply IsS95.set_1) | exact HI0.out)); (case side2 => repeat (first | (with_reducible first | exact HB.out | apply below_alloc | apply pw_below_drewN | apply below_drew1 | refine below_set ?_ (IsS95.ge HI0.out)) | exact HB.out)); rintro e w34 ⟨rfl, hi, hb, hk⟩; refine ⟨_, rfl, ?_⟩; have n0_ := Aside0.mk (Kd.R_mono (Kd.R_keep (IsS95.apart (show IsS95 w0 _ g s0_0 t191 from by repeat (first | (with_reducible first | exact HI0.out | apply IsS95.alloc | apply IsS95.drewN | apply IsS95.drew | apply IsS95.set_1) | exact HI0.out)) (by (with_reducible repeat (first | apply Kd.R_alloc | apply Kd.R_drewN | apply Kd.R_drew)); exact HO186.out) (by decide)) hk (fun _ h => h.2)) (fun _ h => h.1)); have n1_ := Aside0.mk (Kd.R_mono (Kd.R_keep (IsS95.apart (show IsS95 w0 _ g s0_0 t191 from by repeat (first | (with_reducible first | exact HI0.out | apply IsS95.alloc | apply IsS95.drewN | apply IsS95.drew | apply IsS95.set_1) | exact HI0.out)) (by (with_reducible repeat (first | apply Kd.R_alloc | apply Kd.R_drewN | apply Kd.R_drew)); exact HO194.out) (by decide)) hk (fun _ h => h.2)) (fun _ h => h.1)); have n2_ := Aside0.mk (KeepBut.trans (by repeat (first | (with_reducible first | exact HK.out | apply KeepBut.set_ | apply keep_drewN | apply keep_drew | apply keep_alloc) | exact HK.out)) hk (.inl rfl)); have n3_ := Aside0.mk (hb); have n4_ := Aside0.mk (hi); clear HO186; clear HO194; clear HK; clear HB; clear HI0; have HO186 := n0_; have HO194 := n1_; have HK := n2_; have HB := n3_; have HI0 := n4_; clear n0_ n1_ n2_ n3_ n4_; (try clear hb); (try clear hb2); (try clear hk); (try clear hi)))
          go_roundg kj6
          case measure => have := HK1.out; have := HJ6.out; omega
          case rel => exact ⟨(y192), (wrap64 (a1 + t195)), (t196), (by first | rfl | (simp; done) | (simp [*]; done)), H', ⟨by have := HK1.out; have := HJ6.out; omega⟩, ⟨by (with_reducible repeat (first | apply Kd.R_alloc | apply Kd.R_drewN | apply Kd.R_drew)); exact HO194.out⟩, ⟨by repeat (first | (with_reducible first | exact HI0.out | apply IsS95.alloc | apply IsS95.drewN | apply IsS95.drew | apply IsS95.set_1) | exact HI0.out)⟩, ⟨by repeat (first | (with_reducible first | exact HK.out | apply KeepBut.set_ | apply keep_drewN | apply keep_drew | apply keep_alloc) | exact HK.out)⟩, ⟨by repeat (first | (with_reducible first | exact HB.out | apply below_alloc | apply pw_below_drewN | apply below_drew1 | refine below_set ?_ (IsS95.ge HI0.out)) | exact HB.out)⟩⟩
         ·rw [if_neg c21] at H
          exact absurd H (by simp)
        ·rw [if_neg c19] at H
         exact absurd H (by simp)
       ·rw [if_neg c18] at H
        exact absurd H (by simp)
      ·rw [if_neg c16] at H
       have c16b0 : decide (a1 < (wrap64 ((wrap64 (x6_1 + 1)) + t182))) = false := decide_eq_false c16
       clear c16
       obtain ⟨y197, hy197⟩ : ∃ y_ : List Int, y_ = (([10, 5, 20, 40, 1] : List Int)) := ⟨_, rfl⟩
       replace H : ((spec_l1Rd_pick.f kj6 s0_0 t183 5).bind fun bt200 => (if 0 ≤ bt200.1 then (if bt200.1 < (y197.length : Int) then ((spec_l1Rd_pick.f kj6 s0_0 bt200.2 3).bind fun bt203 => (if x5_1.length < 4398046511104 then ((spec_l1Rd_pick.f kj6 s0_0 bt203.2 3).bind fun bt208 => (spec_l13Spans.l0 kj6 a1 (x5_1 ++ [(⟨x6_1, wrap64 ((wrap64 (x6_1 + 1)) + t182), rd y197 bt200.1, bt203.1⟩ : S50)]) (wrap64 ((wrap64 ((wrap64 (x6_1 + 1)) + t182)) + bt208.1)) s0_0 bt208.2)) else (none))) else (none)) else (none))) = some (r1, r2) := by first | (rw [hy197]; with_reducible exact H) | (have H2_ := (Option.bind_some _ _).symm.trans H; rw [hy197]; with_reducible exact H2_) | (have H2_ := (Option.bind_some _ _).symm.trans H; with_reducible exact H2_) | with_reducible exact H | (rw [hy197]; exact H) | exact H
       have Ny197 := Aside0.mk hy197
       clear hy197
       replace H := Option.bind_eq_some_iff.mp H
       obtain ⟨⟨t200, t201⟩, A350, H⟩ := H
       replace H : (if 0 ≤ t200 then (if t200 < (y197.length : Int) then ((spec_l1Rd_pick.f kj6 s0_0 t201 3).bind fun bt203 => (if x5_1.length < 4398046511104 then ((spec_l1Rd_pick.f kj6 s0_0 bt203.2 3).bind fun bt208 => (spec_l13Spans.l0 kj6 a1 (x5_1 ++ [(⟨x6_1, wrap64 ((wrap64 (x6_1 + 1)) + t182), rd y197 t200, bt203.1⟩ : S50)]) (wrap64 ((wrap64 ((wrap64 (x6_1 + 1)) + t182)) + bt208.1)) s0_0 bt208.2)) else (none))) else (none)) else (none)) = some (r1, r2) := H
       have A35 := Aside0.mk A350
       clear A350
       by_cases c36 : 0 ≤ t200
       ·rw [if_pos c36] at H
        have c36b0 : decide (0 ≤ t200) = true := decide_eq_true c36
        clear c36
        by_cases c37 : t200 < (y197.length : Int)
        ·rw [if_pos c37] at H
         have c37b0 : decide (t200 < (y197.length : Int)) = true := decide_eq_true c37
         clear c37
         replace H := Option.bind_eq_some_iff.mp H
         obtain ⟨⟨t203, t204⟩, A380, H⟩ := H
         replace H : (if x5_1.length < 4398046511104 then ((spec_l1Rd_pick.f kj6 s0_0 t204 3).bind fun bt208 => (spec_l13Spans.l0 kj6 a1 (x5_1 ++ [(⟨x6_1, wrap64 ((wrap64 (x6_1 + 1)) + t182), rd y197 t200, t203⟩ : S50)]) (wrap64 ((wrap64 ((wrap64 (x6_1 + 1)) + t182)) + bt208.1)) s0_0 bt208.2)) else (none)) = some (r1, r2) := H
         have A38 := Aside0.mk A380
         clear A380
         by_cases c39 : x5_1.length < 4398046511104
         ·rw [if_pos c39] at H
          have LMc39 := Aside0.mk c39
          clear c39
          obtain ⟨y205, hy205⟩ : ∃ y_ : List (S50), y_ = (x5_1 ++ [(⟨x6_1, wrap64 ((wrap64 (x6_1 + 1)) + t182), rd y197 t200, t203⟩ : S50)]) := ⟨_, rfl⟩
          replace H : ((spec_l1Rd_pick.f kj6 s0_0 t204 3).bind fun bt208 => (spec_l13Spans.l0 kj6 a1 y205 (wrap64 ((wrap64 ((wrap64 (x6_1 + 1)) + t182)) + bt208.1)) s0_0 bt208.2)) = some (r1, r2) := by first | (rw [hy205]; with_reducible exact H) | (have H2_ := (Option.bind_some _ _).symm.trans H; rw [hy205]; with_reducible exact H2_) | (have H2_ := (Option.bind_some _ _).symm.trans H; with_reducible exact H2_) | with_reducible exact H | (rw [hy205]; exact H) | exact H
          have Ny205 := Aside0.mk hy205
          clear hy205
          replace H := Option.bind_eq_some_iff.mp H
          obtain ⟨⟨t208, t209⟩, A400, H⟩ := H
          replace H : (spec_l13Spans.l0 kj6 a1 y205 (wrap64 ((wrap64 ((wrap64 (x6_1 + 1)) + t182)) + t208)) s0_0 t209) = some (r1, r2) := H
          have A40 := Aside0.mk A400
          clear A400
          have H' := Aside0.mk H
          clear H
          try go_wp2_with (first | ((with_reducible refine gate_callee (f := 61) rfl ?_); refine goesL_ (some 27) rfl rfl Try.func61 (by kernel_rfl) rfl #[.pointer (some ⟨g, 0, none⟩), .int .i64 5] rfl (by (try simp only [List.map_toArray, List.map_cons, List.map_nil]); first | done | rfl | (simp only [List.length_drop, List.length_take]; rfl)) ?_; (with_reducible refine (spec_l1Rd_pick.calls kj6 g s0_0 x1001_6 5 t182 t183 w0 _ ?side1 ?side2 A15.out).mono ?_); (case side1 => repeat (first | (with_reducible first | exact HI0.out | apply IsS95.alloc | apply IsS95.drewN | apply IsS95.drew | apply IsS95.set_1) | exact HI0.out)); (case side2 => repeat (first | (with_reducible first | exact HB.out | apply below_alloc | apply pw_below_drewN | apply below_drew1 | refine below_set ?_ (IsS95.ge HI0.out)) | exact HB.out)); rintro e w41 ⟨rfl, hi, hb, hk⟩; refine ⟨_, rfl, ?_⟩; have n0_ := Aside0.mk (Kd.R_mono (Kd.R_keep (IsS95.apart (show IsS95 w0 _ g s0_0 x1001_6 from by repeat (first | (with_reducible first | exact HI0.out | apply IsS95.alloc | apply IsS95.drewN | apply IsS95.drew | apply IsS95.set_1) | exact HI0.out)) (by (with_reducible repeat (first | apply Kd.R_alloc | apply Kd.R_drewN | apply Kd.R_drew)); exact HO_5.out) (by decide)) hk (fun _ h => h.2)) (fun _ h => h.1)); have n1_ := Aside0.mk (KeepBut.trans (by repeat (first | (with_reducible first | exact HK.out | apply KeepBut.set_ | apply keep_drewN | apply keep_drew | apply keep_alloc) | exact HK.out)) hk (.inl rfl)); have n2_ := Aside0.mk (hb); have n3_ := Aside0.mk (hi); clear HO_5; clear HK; clear HB; clear HI0; have HO_5 := n0_; have HK := n1_; have HB := n2_; have HI0 := n3_; clear n0_ n1_ n2_ n3_; (try clear hb); (try clear hb2); (try clear hk); (try clear hi); obtain ⟨Ao42, co42, eo42⟩ := Kd.R_slice HO_5.out; subst eo42))
          have pi202 : (0 ≤ (t200 : Int)) = True := eq_true (of_decide_eq_true (by first | (with_reducible assumption) | assumption))
          have qi202 : (t200 < (y197.length : Int)) = True := eq_true (of_decide_eq_true (by first | (with_reducible assumption) | assumption))
          have n0_ := Aside0.mk (Kd.R_drew HO_5.out)
          have n1_ := Aside0.mk (IsS95.drew HI0.out)
          have n2_ := Aside0.mk (keep_drew HK.out)
          have n3_ := Aside0.mk (below_drew1 HB.out)
          clear HO_5
          clear HI0
          clear HK
          clear HB
          have HO_5 := n0_
          have HI0 := n1_
          have HK := n2_
          have HB := n3_
          clear n0_ n1_ n2_ n3_
          refine start_ (n := 14) (S := fun w' => True) (ds := []) #[false, false, false, false, false, false, false, false, false, false, false, false, false, false] (by kernel_rfl) rfl rfl trivial (fun hHeld => ?_); refine with_tabW spec_l13Spans.tab7 spec_l13Spans.bits7 (fun HT_ HW_ => ?_)
          generalize w41.drew = w43 at HO_5 HI0 HK HB hHeld ⊢
          refine pure_ (i := 0) (N := some 33) (v := ?_) (a' := ?_) #[true, false, false, false, false, false, false, false, false, false, false, false, false, false] rfl rfl (any_of HT_.out (by kernel_rfl)) (fun _ _ _ h => h) (Or.inl ⟨by rfl, ?_⟩) ?_ ?_
          rotate_left
          ·intro w'
           go_simp
           with_reducible rfl
          rotate_left
          ·simp only [Act.put, List.setIfInBounds_toArray, List.set_cons_zero, List.set_cons_succ, i64_w, i32_w]
           rfl
          refine pure_ (i := 1) (N := some 34) (v := ?_) (a' := ?_) #[true, true, false, false, false, false, false, false, false, false, false, false, false, false] rfl rfl (any_of HT_.out (by kernel_rfl)) (fun _ _ _ h => h) (Or.inl ⟨by rfl, ?_⟩) ?_ ?_
          rotate_left
          ·intro w'
           go_simp
           with_reducible rfl
          rotate_left
          ·simp only [Act.put, List.setIfInBounds_toArray, List.set_cons_zero, List.set_cons_succ, i64_w, i32_w]
           rfl
          refine pure_ (i := 2) (N := some 35) (v := ?_) (a' := ?_) #[true, true, true, false, false, false, false, false, false, false, false, false, false, false] rfl rfl (any_of HT_.out (by kernel_rfl)) (fun _ _ _ h => h) (Or.inl ⟨by rfl, ?_⟩) ?_ ?_
          rotate_left
          ·intro w'
           go_simp
           with_reducible rfl
          rotate_left
          ·simp only [Act.put, List.setIfInBounds_toArray, List.set_cons_zero, List.set_cons_succ, i64_w, i32_w]
           rfl
          refine pure_ (i := 4) (N := some 37) (v := ?_) (a' := ?_) #[true, true, true, false, true, false, false, false, false, false, false, false, false, false] rfl rfl (any_of HT_.out (by kernel_rfl)) (fun _ _ _ h => h) (Or.inl ⟨by rfl, ?_⟩) ?_ ?_
          rotate_left
          ·intro w'
           go_simp
           with_reducible rfl
          rotate_left
          ·simp only [Act.put, List.setIfInBounds_toArray, List.set_cons_zero, List.set_cons_succ, i64_w, i32_w]
           rfl
          refine pure_ (i := 8) (N := some 41) (v := ?_) (a' := ?_) #[true, true, true, false, true, false, false, false, true, false, false, false, false, false] rfl rfl (any_of HT_.out (by kernel_rfl)) (fun _ _ _ h => h) (Or.inl ⟨by rfl, ?_⟩) ?_ ?_
          rotate_left
          ·intro w'
           go_simp
           with_reducible rfl
          rotate_left
          ·simp only [Act.put, List.setIfInBounds_toArray, List.set_cons_zero, List.set_cons_succ, i64_w, i32_w]
           rfl
          refine join_ (σ := Value × Addr) 4 #[true, true, true, true, true, true, true, true, true, true, false, false, false, false] (fun s_ => [(36, s_.1), (38, .int .i64 t200), (40, .int .i64 (rd y197 t200)), (42, .int .i64 t203), (39, .pointer (some (s_.2.add (t200).toNat)))]) (fun s_ w' => (Kd.R (Kd.int .i64) 3 w' w.heap.size (fun _ => True) s_.1 y197) ∧ (Kd.R k50 50 w' w.heap.size (fun _ => True) (.slice Ao42 x5_1.length co42) x5_1) ∧ (∃ c_, (s_.1 : Value) = .slice (some s_.2) y197.length c_) ∧ (IsS95 w0 w' g s0_0 t204) ∧ (KeepBut w w' g none) ∧ (Below w0.heap.size w0 w')) ?_ ?_
          rotate_left
          ·intro hJ3_5_7_9
           refine join_ (σ := Value × Addr) 5 #[true, true, true, true, true, true, true, true, true, false, false, false, false, false] (fun s_ => [(36, s_.1), (38, .int .i64 t200), (40, .int .i64 (rd y197 t200)), (39, .pointer (some (s_.2.add (t200).toNat)))]) (fun s_ w' => (Kd.R (Kd.int .i64) 3 w' w.heap.size (fun _ => True) s_.1 y197) ∧ (Kd.R k50 50 w' w.heap.size (fun _ => True) (.slice Ao42 x5_1.length co42) x5_1) ∧ (∃ c_, (s_.1 : Value) = .slice (some s_.2) y197.length c_) ∧ (IsS95 w0 w' g s0_0 t201) ∧ (KeepBut w w' g none) ∧ (Below w0.heap.size w0 w')) ?_ ?_
           rotate_left
           ·intro hJ3_5_7
            refine join_ (σ := Value × Addr) 5 #[true, true, true, true, true, true, true, false, true, true, false, false, false, false] (fun s_ => [(36, s_.1), (38, .int .i64 t200), (42, .int .i64 t203), (39, .pointer (some (s_.2.add (t200).toNat)))]) (fun s_ w' => (Kd.R (Kd.int .i64) 3 w' w.heap.size (fun _ => True) s_.1 y197) ∧ (Kd.R k50 50 w' w.heap.size (fun _ => True) (.slice Ao42 x5_1.length co42) x5_1) ∧ (∃ c_, (s_.1 : Value) = .slice (some s_.2) y197.length c_) ∧ (IsS95 w0 w' g s0_0 t204) ∧ (KeepBut w w' g none) ∧ (Below w0.heap.size w0 w')) ?_ ?_
            rotate_left
            ·intro hJ3_5_9
             refine join_ (σ := Value × Addr) 6 #[true, true, true, true, true, true, true, false, true, false, false, false, false, false] (fun s_ => [(36, s_.1), (38, .int .i64 t200), (39, .pointer (some (s_.2.add (t200).toNat)))]) (fun s_ w' => (Kd.R (Kd.int .i64) 3 w' w.heap.size (fun _ => True) s_.1 y197) ∧ (Kd.R k50 50 w' w.heap.size (fun _ => True) (.slice Ao42 x5_1.length co42) x5_1) ∧ (∃ c_, (s_.1 : Value) = .slice (some s_.2) y197.length c_) ∧ (IsS95 w0 w' g s0_0 t201) ∧ (KeepBut w w' g none) ∧ (Below w0.heap.size w0 w')) ?_ ?_
             rotate_left
             ·intro hJ3_5
              refine join_ (σ := Unit) 7 #[true, true, true, false, true, true, false, false, true, true, false, false, false, false] (fun s_ => [(38, .int .i64 t200), (42, .int .i64 t203)]) (fun s_ w' => (Kd.R k50 50 w' w.heap.size (fun _ => True) (.slice Ao42 x5_1.length co42) x5_1) ∧ (IsS95 w0 w' g s0_0 t204) ∧ (KeepBut w w' g none) ∧ (Below w0.heap.size w0 w')) ?_ ?_
              rotate_left
              ·intro hJ5_9
               refine join_ (σ := Value × Addr) 8 #[true, true, true, true, true, false, false, false, true, false, false, false, false, false] (fun s_ => [(36, s_.1)]) (fun s_ w' => (Kd.R (Kd.int .i64) 3 w' w.heap.size (fun _ => True) s_.1 y197) ∧ (Kd.R k50 50 w' w.heap.size (fun _ => True) (.slice Ao42 x5_1.length co42) x5_1) ∧ (∃ c_, (s_.1 : Value) = .slice (some s_.2) y197.length c_) ∧ (IsS95 w0 w' g s0_0 t183) ∧ (KeepBut w w' g none) ∧ (Below w0.heap.size w0 w')) ?_ ?_
               rotate_left
               ·intro hJ3
                refine join_ (σ := Unit) 8 #[true, true, true, false, true, true, false, false, true, false, false, false, false, false] (fun s_ => [(38, .int .i64 t200)]) (fun s_ w' => (Kd.R k50 50 w' w.heap.size (fun _ => True) (.slice Ao42 x5_1.length co42) x5_1) ∧ (IsS95 w0 w' g s0_0 t201) ∧ (KeepBut w w' g none) ∧ (Below w0.heap.size w0 w')) ?_ ?_
                rotate_left
                ·intro hJ5
                 refine two_ (i := 3) (j := 5) (Ni := some 36) (Nj := some 38) #[true, true, true, true, true, false, false, false, true, false, false, false, false, false] #[true, true, true, false, true, true, false, false, true, false, false, false, false, false] rfl rfl rfl rfl (two_of HT_.out (by kernel_rfl)) (by decide) (by decide) (fun K hK => ?_) (fun K hK => ?_)
                 ·skip
                  refine Kd.R_lit_step (Kd.int .i64) _ 3 ?hg (N := 36) ?hd (xs := ([10, 5, 20, 40, 1] : List Int)) (inner := [.int .i64 10, .int .i64 5, .int .i64 20, .int .i64 40, .int .i64 1]) (ok := fun _ => True) (okp := fun _ => True) ?hr ?hp (fun _ hk => hk) trivial (Below.refl _ _) (Nat.le_refl _) (by simp) ?_; (case hd => rfl); (case hg => rfl); (case hr => first | (go_simp; done) | (go_simp; rfl)); (case hp => exact (Reps.one (show Kd.M (Kd.int .i64) _ _ _ 10 [.int .i64 10] from rfl) (Reps.one (show Kd.M (Kd.int .i64) _ _ _ 5 [.int .i64 5] from rfl) (Reps.one (show Kd.M (Kd.int .i64) _ _ _ 20 [.int .i64 20] from rfl) (Reps.one (show Kd.M (Kd.int .i64) _ _ _ 40 [.int .i64 40] from rfl) (Reps.one (show Kd.M (Kd.int .i64) _ _ _ 1 [.int .i64 1] from rfl) (Reps.none _ _)))))))
                  intro v198 w44 ho45 hb hg_ hnew_
                  clear hg_ hnew_
                  (first | rw [← Ny197.out] at ho45 | (simp only [Int.reduceToNat] at ho45; rw [← Ny197.out] at ho45))
                  have n0_ := Aside0.mk (Kd.R_below (by (with_reducible repeat (first | apply Kd.R_alloc | apply Kd.R_drewN | apply Kd.R_drew)); exact HO_5.out) hb)
                  have n1_ := Aside0.mk (Kd.R_lower ho45 (keep_size (w := w) (g := g) (row := none) (by repeat (first | (with_reducible first | exact HK.out | apply KeepBut.set_ | apply keep_drewN | apply keep_drew | apply keep_alloc) | exact HK.out))))
                  have n2_ := Aside0.mk (IsS95.below (by repeat (first | (with_reducible first | exact HI0.out | apply IsS95.alloc | apply IsS95.drewN | apply IsS95.drew | apply IsS95.set_1) | exact HI0.out)) hb)
                  have n3_ := Aside0.mk (KeepBut.trans (by repeat (first | (with_reducible first | exact HK.out | apply KeepBut.set_ | apply keep_drewN | apply keep_drew | apply keep_alloc) | exact HK.out)) (KeepBut.of_below hb g none) (.inl rfl))
                  have n4_ := Aside0.mk (below_step (by repeat (first | (with_reducible first | exact HB.out | apply below_alloc | apply pw_below_drewN | apply below_drew1 | refine below_set ?_ (IsS95.ge HI0.out)) | exact HB.out)) hb)
                  clear HO_5
                  clear HI0
                  clear HK
                  clear HB
                  have HO_5 := n0_
                  have HO199 := n1_
                  have HI0 := n2_
                  have HK := n3_
                  have HB := n4_
                  clear n0_ n1_ n2_ n3_ n4_
                  clear hb ho45
                  obtain ⟨Ao46, co46, eo46⟩ := Kd.R_slice HO199.out
                  subst eo46
                  obtain ⟨ado46, fo46, _⟩ := Kd.at_int (Kd.R_reads' HO199.out).2.2 0 (by decide) (by rw [Ny197.out]; simp)
                  cases fo46
                  refine hK.out _ _ trivial (fun hHeld => ?_)
                  clear hK K
                  refine norm_ (a' := ?_) ?_ ?_
                  rotate_left
                  ·show Act.put _ (some 36) _ = _
                   simp only [Act.put, List.setIfInBounds_toArray, List.set_cons_zero, List.set_cons_succ, i64_w, i32_w]
                   rfl
                  exact norm_ (by first | (simp only [putAll, Act.put, List.setIfInBounds_toArray, List.set_cons_zero, List.set_cons_succ]; done) | (simp only [putAll, Act.put, List.setIfInBounds_toArray, List.set_cons_zero, List.set_cons_succ]; rfl)) (hJ3 (.slice (some ado46) y197.length co46, ado46) _ ⟨(by (with_reducible repeat (first | apply Kd.R_alloc | apply Kd.R_drewN | apply Kd.R_drew)); exact HO199.out), (by (with_reducible repeat (first | apply Kd.R_alloc | apply Kd.R_drewN | apply Kd.R_drew)); exact HO_5.out), ⟨_, rfl⟩, (by repeat (first | (with_reducible first | exact HI0.out | apply IsS95.alloc | apply IsS95.drewN | apply IsS95.drew | apply IsS95.set_1) | exact HI0.out)), (by repeat (first | (with_reducible first | exact HK.out | apply KeepBut.set_ | apply keep_drewN | apply keep_drew | apply keep_alloc) | exact HK.out)), (by repeat (first | (with_reducible first | exact HB.out | apply below_alloc | apply pw_below_drewN | apply below_drew1 | refine below_set ?_ (IsS95.ge HI0.out)) | exact HB.out))⟩)
                 ·skip
                  refine goes_ Try.func61 (by kernel_rfl) rfl #[.pointer (some ⟨g, 0, none⟩), .int .i64 5] (by rfl) rfl rfl (by (try simp only [List.map_toArray, List.map_cons, List.map_nil]); first | done | rfl | (simp only [List.length_drop, List.length_take]; rfl)) ?_
                  with_reducible refine (spec_l1Rd_pick.calls kj6 g s0_0 t183 5 t200 t201 w0 _ ?side1 ?side2 A35.out).mono ?_
                  (case side1 => repeat (first | (with_reducible first | exact HI0.out | apply IsS95.alloc | apply IsS95.drewN | apply IsS95.drew | apply IsS95.set_1) | exact HI0.out))
                  (case side2 => repeat (first | (with_reducible first | exact HB.out | apply below_alloc | apply pw_below_drewN | apply below_drew1 | refine below_set ?_ (IsS95.ge HI0.out)) | exact HB.out))
                  rintro e w44 ⟨rfl, hi, hb, hk⟩
                  refine ⟨_, rfl, ?_⟩
                  have n0_ := Aside0.mk (Kd.R_mono (Kd.R_keep (IsS95.apart (show IsS95 w0 _ g s0_0 t183 from by repeat (first | (with_reducible first | exact HI0.out | apply IsS95.alloc | apply IsS95.drewN | apply IsS95.drew | apply IsS95.set_1) | exact HI0.out)) (by (with_reducible repeat (first | apply Kd.R_alloc | apply Kd.R_drewN | apply Kd.R_drew)); exact HO_5.out) (by decide)) hk (fun _ h => h.2)) (fun _ h => h.1))
                  have n1_ := Aside0.mk (KeepBut.trans (by repeat (first | (with_reducible first | exact HK.out | apply KeepBut.set_ | apply keep_drewN | apply keep_drew | apply keep_alloc) | exact HK.out)) hk (.inl rfl))
                  have n2_ := Aside0.mk (hb)
                  have n3_ := Aside0.mk (hi)
                  clear HO_5
                  clear HK
                  clear HB
                  clear HI0
                  have HO_5 := n0_
                  have HK := n1_
                  have HB := n2_
                  have HI0 := n3_
                  clear n0_ n1_ n2_ n3_
                  (try clear hb)
                  (try clear hb2)
                  (try clear hk)
                  (try clear hi)
                  refine hK.out _ _ trivial (fun hHeld => ?_)
                  clear hK K
                  refine norm_ (a' := ?_) ?_ ?_
                  rotate_left
                  ·show Act.put _ (some 38) _ = _
                   simp only [Act.put, List.setIfInBounds_toArray, List.set_cons_zero, List.set_cons_succ, i64_w, i32_w]
                   rfl
                  exact norm_ (by first | (simp only [putAll, Act.put, List.setIfInBounds_toArray, List.set_cons_zero, List.set_cons_succ]; done) | (simp only [putAll, Act.put, List.setIfInBounds_toArray, List.set_cons_zero, List.set_cons_succ]; rfl)) (hJ5 () _ ⟨(by (with_reducible repeat (first | apply Kd.R_alloc | apply Kd.R_drewN | apply Kd.R_drew)); exact HO_5.out), (by repeat (first | (with_reducible first | exact HI0.out | apply IsS95.alloc | apply IsS95.drewN | apply IsS95.drew | apply IsS95.set_1) | exact HI0.out)), (by repeat (first | (with_reducible first | exact HK.out | apply KeepBut.set_ | apply keep_drewN | apply keep_drew | apply keep_alloc) | exact HK.out)), (by repeat (first | (with_reducible first | exact HB.out | apply below_alloc | apply pw_below_drewN | apply below_drew1 | refine below_set ?_ (IsS95.ge HI0.out)) | exact HB.out))⟩)
                ·skip
                 rintro _ w45 ⟨h0_, h1_, h2_, h3_⟩
                 have n0_ : Aside0 (Kd.R k50 50 w45 w.heap.size (fun _ => True) (.slice Ao42 x5_1.length co42) x5_1) := ⟨h0_⟩
                 have n1_ : Aside0 (IsS95 w0 w45 g s0_0 t201) := ⟨h1_⟩
                 have n2_ : Aside0 (KeepBut w w45 g none) := ⟨h2_⟩
                 have n3_ : Aside0 (Below w0.heap.size w0 w45) := ⟨h3_⟩
                 clear HO_5
                 clear HI0
                 clear HK
                 clear HB
                 clear h0_ h1_ h2_ h3_
                 have HO_5 := n0_
                 have HI0 := n1_
                 have HK := n2_
                 have HB := n3_
                 clear n0_ n1_ n2_ n3_
                 have hHeld := trivial
                 refine norm_ (a' := ?_) ?_ ?_
                 rotate_left
                 ·simp only [putAll, Act.put, List.setIfInBounds_toArray, List.set_cons_zero, List.set_cons_succ]
                  rfl
                 refine two_ (i := 3) (j := 9) (Ni := some 36) (Nj := some 42) #[true, true, true, true, true, true, false, false, true, false, false, false, false, false] #[true, true, true, false, true, true, false, false, true, true, false, false, false, false] rfl rfl rfl rfl (two_of HT_.out (by kernel_rfl)) (by decide) (by decide) (fun K hK => ?_) (fun K hK => ?_)
                 ·skip
                  refine Kd.R_lit_step (Kd.int .i64) _ 3 ?hg (N := 36) ?hd (xs := ([10, 5, 20, 40, 1] : List Int)) (inner := [.int .i64 10, .int .i64 5, .int .i64 20, .int .i64 40, .int .i64 1]) (ok := fun _ => True) (okp := fun _ => True) ?hr ?hp (fun _ hk => hk) trivial (Below.refl _ _) (Nat.le_refl _) (by simp) ?_; (case hd => rfl); (case hg => rfl); (case hr => first | (go_simp; done) | (go_simp; rfl)); (case hp => exact (Reps.one (show Kd.M (Kd.int .i64) _ _ _ 10 [.int .i64 10] from rfl) (Reps.one (show Kd.M (Kd.int .i64) _ _ _ 5 [.int .i64 5] from rfl) (Reps.one (show Kd.M (Kd.int .i64) _ _ _ 20 [.int .i64 20] from rfl) (Reps.one (show Kd.M (Kd.int .i64) _ _ _ 40 [.int .i64 40] from rfl) (Reps.one (show Kd.M (Kd.int .i64) _ _ _ 1 [.int .i64 1] from rfl) (Reps.none _ _)))))))
                  intro v198 w46 ho47 hb hg_ hnew_
                  clear hg_ hnew_
                  (first | rw [← Ny197.out] at ho47 | (simp only [Int.reduceToNat] at ho47; rw [← Ny197.out] at ho47))
                  have n0_ := Aside0.mk (Kd.R_below (by (with_reducible repeat (first | apply Kd.R_alloc | apply Kd.R_drewN | apply Kd.R_drew)); exact HO_5.out) hb)
                  have n1_ := Aside0.mk (Kd.R_lower ho47 (keep_size (w := w) (g := g) (row := none) (by repeat (first | (with_reducible first | exact HK.out | apply KeepBut.set_ | apply keep_drewN | apply keep_drew | apply keep_alloc) | exact HK.out))))
                  have n2_ := Aside0.mk (IsS95.below (by repeat (first | (with_reducible first | exact HI0.out | apply IsS95.alloc | apply IsS95.drewN | apply IsS95.drew | apply IsS95.set_1) | exact HI0.out)) hb)
                  have n3_ := Aside0.mk (KeepBut.trans (by repeat (first | (with_reducible first | exact HK.out | apply KeepBut.set_ | apply keep_drewN | apply keep_drew | apply keep_alloc) | exact HK.out)) (KeepBut.of_below hb g none) (.inl rfl))
                  have n4_ := Aside0.mk (below_step (by repeat (first | (with_reducible first | exact HB.out | apply below_alloc | apply pw_below_drewN | apply below_drew1 | refine below_set ?_ (IsS95.ge HI0.out)) | exact HB.out)) hb)
                  clear HO_5
                  clear HI0
                  clear HK
                  clear HB
                  have HO_5 := n0_
                  have HO199 := n1_
                  have HI0 := n2_
                  have HK := n3_
                  have HB := n4_
                  clear n0_ n1_ n2_ n3_ n4_
                  clear hb ho47
                  obtain ⟨Ao48, co48, eo48⟩ := Kd.R_slice HO199.out
                  subst eo48
                  obtain ⟨ado48, fo48, _⟩ := Kd.at_int (Kd.R_reads' HO199.out).2.2 0 (by decide) (by rw [Ny197.out]; simp)
                  cases fo48
                  refine hK.out _ _ trivial (fun hHeld => ?_)
                  clear hK K
                  refine norm_ (a' := ?_) ?_ ?_
                  rotate_left
                  ·show Act.put _ (some 36) _ = _
                   simp only [Act.put, List.setIfInBounds_toArray, List.set_cons_zero, List.set_cons_succ, i64_w, i32_w]
                   rfl
                  refine pure_ (i := 6) (N := some 39) (v := ?_) (a' := ?_) #[true, true, true, true, true, true, true, false, true, false, false, false, false, false] rfl rfl (any_of HT_.out (by kernel_rfl)) (fun _ _ _ h => h) (Or.inl ⟨by rfl, ?_⟩) ?_ ?_
                  rotate_left
                  ·intro w'
                   go_simp
                   with_reducible rfl
                  rotate_left
                  ·simp only [Act.put, List.setIfInBounds_toArray, List.set_cons_zero, List.set_cons_succ, i64_w, i32_w]
                   rfl
                  exact norm_ (by first | (simp only [putAll, Act.put, List.setIfInBounds_toArray, List.set_cons_zero, List.set_cons_succ]; done) | (simp only [putAll, Act.put, List.setIfInBounds_toArray, List.set_cons_zero, List.set_cons_succ]; rfl)) (hJ3_5 (.slice (some ado48) y197.length co48, ado48) _ ⟨(by (with_reducible repeat (first | apply Kd.R_alloc | apply Kd.R_drewN | apply Kd.R_drew)); exact HO199.out), (by (with_reducible repeat (first | apply Kd.R_alloc | apply Kd.R_drewN | apply Kd.R_drew)); exact HO_5.out), ⟨_, rfl⟩, (by repeat (first | (with_reducible first | exact HI0.out | apply IsS95.alloc | apply IsS95.drewN | apply IsS95.drew | apply IsS95.set_1) | exact HI0.out)), (by repeat (first | (with_reducible first | exact HK.out | apply KeepBut.set_ | apply keep_drewN | apply keep_drew | apply keep_alloc) | exact HK.out)), (by repeat (first | (with_reducible first | exact HB.out | apply below_alloc | apply pw_below_drewN | apply below_drew1 | refine below_set ?_ (IsS95.ge HI0.out)) | exact HB.out))⟩)
                 ·skip
                  refine goes_ Try.func61 (by kernel_rfl) rfl #[.pointer (some ⟨g, 0, none⟩), .int .i64 3] (by rfl) rfl rfl (by (try simp only [List.map_toArray, List.map_cons, List.map_nil]); first | done | rfl | (simp only [List.length_drop, List.length_take]; rfl)) ?_
                  with_reducible refine (spec_l1Rd_pick.calls kj6 g s0_0 t201 3 t203 t204 w0 _ ?side1 ?side2 A38.out).mono ?_
                  (case side1 => repeat (first | (with_reducible first | exact HI0.out | apply IsS95.alloc | apply IsS95.drewN | apply IsS95.drew | apply IsS95.set_1) | exact HI0.out))
                  (case side2 => repeat (first | (with_reducible first | exact HB.out | apply below_alloc | apply pw_below_drewN | apply below_drew1 | refine below_set ?_ (IsS95.ge HI0.out)) | exact HB.out))
                  rintro e w46 ⟨rfl, hi, hb, hk⟩
                  refine ⟨_, rfl, ?_⟩
                  have n0_ := Aside0.mk (Kd.R_mono (Kd.R_keep (IsS95.apart (show IsS95 w0 _ g s0_0 t201 from by repeat (first | (with_reducible first | exact HI0.out | apply IsS95.alloc | apply IsS95.drewN | apply IsS95.drew | apply IsS95.set_1) | exact HI0.out)) (by (with_reducible repeat (first | apply Kd.R_alloc | apply Kd.R_drewN | apply Kd.R_drew)); exact HO_5.out) (by decide)) hk (fun _ h => h.2)) (fun _ h => h.1))
                  have n1_ := Aside0.mk (KeepBut.trans (by repeat (first | (with_reducible first | exact HK.out | apply KeepBut.set_ | apply keep_drewN | apply keep_drew | apply keep_alloc) | exact HK.out)) hk (.inl rfl))
                  have n2_ := Aside0.mk (hb)
                  have n3_ := Aside0.mk (hi)
                  clear HO_5
                  clear HK
                  clear HB
                  clear HI0
                  have HO_5 := n0_
                  have HK := n1_
                  have HB := n2_
                  have HI0 := n3_
                  clear n0_ n1_ n2_ n3_
                  (try clear hb)
                  (try clear hb2)
                  (try clear hk)
                  (try clear hi)
                  refine hK.out _ _ trivial (fun hHeld => ?_)
                  clear hK K
                  refine norm_ (a' := ?_) ?_ ?_
                  rotate_left
                  ·show Act.put _ (some 42) _ = _
                   simp only [Act.put, List.setIfInBounds_toArray, List.set_cons_zero, List.set_cons_succ, i64_w, i32_w]
                   rfl
                  exact norm_ (by first | (simp only [putAll, Act.put, List.setIfInBounds_toArray, List.set_cons_zero, List.set_cons_succ]; done) | (simp only [putAll, Act.put, List.setIfInBounds_toArray, List.set_cons_zero, List.set_cons_succ]; rfl)) (hJ5_9 () _ ⟨(by (with_reducible repeat (first | apply Kd.R_alloc | apply Kd.R_drewN | apply Kd.R_drew)); exact HO_5.out), (by repeat (first | (with_reducible first | exact HI0.out | apply IsS95.alloc | apply IsS95.drewN | apply IsS95.drew | apply IsS95.set_1) | exact HI0.out)), (by repeat (first | (with_reducible first | exact HK.out | apply KeepBut.set_ | apply keep_drewN | apply keep_drew | apply keep_alloc) | exact HK.out)), (by repeat (first | (with_reducible first | exact HB.out | apply below_alloc | apply pw_below_drewN | apply below_drew1 | refine below_set ?_ (IsS95.ge HI0.out)) | exact HB.out))⟩)
               ·skip
                rintro ⟨v198, adz_v198⟩ w47 ⟨h0_, h1_, h2_, h3_, h4_, h5_⟩
                have n0_ : Aside0 (Kd.R (Kd.int .i64) 3 w47 w.heap.size (fun _ => True) v198 y197) := ⟨h0_⟩
                have n1_ : Aside0 (Kd.R k50 50 w47 w.heap.size (fun _ => True) (.slice Ao42 x5_1.length co42) x5_1) := ⟨h1_⟩
                have n2_ : Aside0 (∃ c_, (v198 : Value) = .slice (some adz_v198) y197.length c_) := ⟨h2_⟩
                have n3_ : Aside0 (IsS95 w0 w47 g s0_0 t183) := ⟨h3_⟩
                have n4_ : Aside0 (KeepBut w w47 g none) := ⟨h4_⟩
                have n5_ : Aside0 (Below w0.heap.size w0 w47) := ⟨h5_⟩
                clear HO_5
                clear HI0
                clear HK
                clear HB
                clear h0_ h1_ h2_ h3_ h4_ h5_
                have HO199 := n0_
                have HO_5 := n1_
                have HA_HO199 := n2_
                have HI0 := n3_
                have HK := n4_
                have HB := n5_
                clear n0_ n1_ n2_ n3_ n4_ n5_
                have hHeld := trivial
                obtain ⟨co48, eo48⟩ := HA_HO199.out
                clear HA_HO199
                subst eo48
                refine norm_ (a' := ?_) ?_ ?_
                rotate_left
                ·simp only [putAll, Act.put, List.setIfInBounds_toArray, List.set_cons_zero, List.set_cons_succ]
                 rfl
                refine one_ (i := 5) (N := some 38) #[true, true, true, true, true, true, false, false, true, false, false, false, false, false] rfl rfl (one_of HT_.out (by kernel_rfl)) (by decide) (fun K hK => ?_)
                refine goes_ Try.func61 (by kernel_rfl) rfl #[.pointer (some ⟨g, 0, none⟩), .int .i64 5] (by rfl) rfl rfl (by (try simp only [List.map_toArray, List.map_cons, List.map_nil]); first | done | rfl | (simp only [List.length_drop, List.length_take]; rfl)) ?_
                with_reducible refine (spec_l1Rd_pick.calls kj6 g s0_0 t183 5 t200 t201 w0 _ ?side1 ?side2 A35.out).mono ?_
                (case side1 => repeat (first | (with_reducible first | exact HI0.out | apply IsS95.alloc | apply IsS95.drewN | apply IsS95.drew | apply IsS95.set_1) | exact HI0.out))
                (case side2 => repeat (first | (with_reducible first | exact HB.out | apply below_alloc | apply pw_below_drewN | apply below_drew1 | refine below_set ?_ (IsS95.ge HI0.out)) | exact HB.out))
                rintro e w49 ⟨rfl, hi, hb, hk⟩
                refine ⟨_, rfl, ?_⟩
                have n0_ := Aside0.mk (Kd.R_mono (Kd.R_keep (IsS95.apart (show IsS95 w0 _ g s0_0 t183 from by repeat (first | (with_reducible first | exact HI0.out | apply IsS95.alloc | apply IsS95.drewN | apply IsS95.drew | apply IsS95.set_1) | exact HI0.out)) (by (with_reducible repeat (first | apply Kd.R_alloc | apply Kd.R_drewN | apply Kd.R_drew)); exact HO_5.out) (by decide)) hk (fun _ h => h.2)) (fun _ h => h.1))
                have n1_ := Aside0.mk (Kd.R_mono (Kd.R_keep (IsS95.apart (show IsS95 w0 _ g s0_0 t183 from by repeat (first | (with_reducible first | exact HI0.out | apply IsS95.alloc | apply IsS95.drewN | apply IsS95.drew | apply IsS95.set_1) | exact HI0.out)) (by (with_reducible repeat (first | apply Kd.R_alloc | apply Kd.R_drewN | apply Kd.R_drew)); exact HO199.out) (by decide)) hk (fun _ h => h.2)) (fun _ h => h.1))
                have n2_ := Aside0.mk (KeepBut.trans (by repeat (first | (with_reducible first | exact HK.out | apply KeepBut.set_ | apply keep_drewN | apply keep_drew | apply keep_alloc) | exact HK.out)) hk (.inl rfl))
                have n3_ := Aside0.mk (hb)
                have n4_ := Aside0.mk (hi)
                clear HO_5
                clear HO199
                clear HK
                clear HB
                clear HI0
                have HO_5 := n0_
                have HO199 := n1_
                have HK := n2_
                have HB := n3_
                have HI0 := n4_
                clear n0_ n1_ n2_ n3_ n4_
                (try clear hb)
                (try clear hb2)
                (try clear hk)
                (try clear hi)
                refine hK.out _ _ trivial (fun hHeld => ?_)
                clear hK K
                refine norm_ (a' := ?_) ?_ ?_
                rotate_left
                ·show Act.put _ (some 38) _ = _
                 simp only [Act.put, List.setIfInBounds_toArray, List.set_cons_zero, List.set_cons_succ, i64_w, i32_w]
                 rfl
                refine pure_ (i := 6) (N := some 39) (v := ?_) (a' := ?_) #[true, true, true, true, true, true, true, false, true, false, false, false, false, false] rfl rfl (any_of HT_.out (by kernel_rfl)) (fun _ _ _ h => h) (Or.inl ⟨by rfl, ?_⟩) ?_ ?_
                rotate_left
                ·intro w'
                 go_simp
                 with_reducible rfl
                rotate_left
                ·simp only [Act.put, List.setIfInBounds_toArray, List.set_cons_zero, List.set_cons_succ, i64_w, i32_w]
                 rfl
                exact norm_ (by first | (simp only [putAll, Act.put, List.setIfInBounds_toArray, List.set_cons_zero, List.set_cons_succ]; done) | (simp only [putAll, Act.put, List.setIfInBounds_toArray, List.set_cons_zero, List.set_cons_succ]; rfl)) (hJ3_5 (.slice (some adz_v198) y197.length co48, adz_v198) _ ⟨(by (with_reducible repeat (first | apply Kd.R_alloc | apply Kd.R_drewN | apply Kd.R_drew)); exact HO199.out), (by (with_reducible repeat (first | apply Kd.R_alloc | apply Kd.R_drewN | apply Kd.R_drew)); exact HO_5.out), ⟨_, rfl⟩, (by repeat (first | (with_reducible first | exact HI0.out | apply IsS95.alloc | apply IsS95.drewN | apply IsS95.drew | apply IsS95.set_1) | exact HI0.out)), (by repeat (first | (with_reducible first | exact HK.out | apply KeepBut.set_ | apply keep_drewN | apply keep_drew | apply keep_alloc) | exact HK.out)), (by repeat (first | (with_reducible first | exact HB.out | apply below_alloc | apply pw_below_drewN | apply below_drew1 | refine below_set ?_ (IsS95.ge HI0.out)) | exact HB.out))⟩)
              ·skip
               rintro _ w46 ⟨h0_, h1_, h2_, h3_⟩
               have n0_ : Aside0 (Kd.R k50 50 w46 w.heap.size (fun _ => True) (.slice Ao42 x5_1.length co42) x5_1) := ⟨h0_⟩
               have n1_ : Aside0 (IsS95 w0 w46 g s0_0 t204) := ⟨h1_⟩
               have n2_ : Aside0 (KeepBut w w46 g none) := ⟨h2_⟩
               have n3_ : Aside0 (Below w0.heap.size w0 w46) := ⟨h3_⟩
               clear HO_5
               clear HI0
               clear HK
               clear HB
               clear h0_ h1_ h2_ h3_
               have HO_5 := n0_
               have HI0 := n1_
               have HK := n2_
               have HB := n3_
               clear n0_ n1_ n2_ n3_
               have hHeld := trivial
               refine norm_ (a' := ?_) ?_ ?_
               rotate_left
               ·simp only [putAll, Act.put, List.setIfInBounds_toArray, List.set_cons_zero, List.set_cons_succ]
                rfl
               refine one_ (i := 3) (N := some 36) #[true, true, true, true, true, true, false, false, true, true, false, false, false, false] rfl rfl (one_of HT_.out (by kernel_rfl)) (by decide) (fun K hK => ?_)
               refine Kd.R_lit_step (Kd.int .i64) _ 3 ?hg (N := 36) ?hd (xs := ([10, 5, 20, 40, 1] : List Int)) (inner := [.int .i64 10, .int .i64 5, .int .i64 20, .int .i64 40, .int .i64 1]) (ok := fun _ => True) (okp := fun _ => True) ?hr ?hp (fun _ hk => hk) trivial (Below.refl _ _) (Nat.le_refl _) (by simp) ?_; (case hd => rfl); (case hg => rfl); (case hr => first | (go_simp; done) | (go_simp; rfl)); (case hp => exact (Reps.one (show Kd.M (Kd.int .i64) _ _ _ 10 [.int .i64 10] from rfl) (Reps.one (show Kd.M (Kd.int .i64) _ _ _ 5 [.int .i64 5] from rfl) (Reps.one (show Kd.M (Kd.int .i64) _ _ _ 20 [.int .i64 20] from rfl) (Reps.one (show Kd.M (Kd.int .i64) _ _ _ 40 [.int .i64 40] from rfl) (Reps.one (show Kd.M (Kd.int .i64) _ _ _ 1 [.int .i64 1] from rfl) (Reps.none _ _)))))))
               intro v198 w47 ho48 hb hg_ hnew_
               clear hg_ hnew_
               (first | rw [← Ny197.out] at ho48 | (simp only [Int.reduceToNat] at ho48; rw [← Ny197.out] at ho48))
               have n0_ := Aside0.mk (Kd.R_below (by (with_reducible repeat (first | apply Kd.R_alloc | apply Kd.R_drewN | apply Kd.R_drew)); exact HO_5.out) hb)
               have n1_ := Aside0.mk (Kd.R_lower ho48 (keep_size (w := w) (g := g) (row := none) (by repeat (first | (with_reducible first | exact HK.out | apply KeepBut.set_ | apply keep_drewN | apply keep_drew | apply keep_alloc) | exact HK.out))))
               have n2_ := Aside0.mk (IsS95.below (by repeat (first | (with_reducible first | exact HI0.out | apply IsS95.alloc | apply IsS95.drewN | apply IsS95.drew | apply IsS95.set_1) | exact HI0.out)) hb)
               have n3_ := Aside0.mk (KeepBut.trans (by repeat (first | (with_reducible first | exact HK.out | apply KeepBut.set_ | apply keep_drewN | apply keep_drew | apply keep_alloc) | exact HK.out)) (KeepBut.of_below hb g none) (.inl rfl))
               have n4_ := Aside0.mk (below_step (by repeat (first | (with_reducible first | exact HB.out | apply below_alloc | apply pw_below_drewN | apply below_drew1 | refine below_set ?_ (IsS95.ge HI0.out)) | exact HB.out)) hb)
               clear HO_5
               clear HI0
               clear HK
               clear HB
               have HO_5 := n0_
               have HO199 := n1_
               have HI0 := n2_
               have HK := n3_
               have HB := n4_
               clear n0_ n1_ n2_ n3_ n4_
               clear hb ho48
               obtain ⟨Ao49, co49, eo49⟩ := Kd.R_slice HO199.out
               subst eo49
               obtain ⟨ado49, fo49, _⟩ := Kd.at_int (Kd.R_reads' HO199.out).2.2 0 (by decide) (by rw [Ny197.out]; simp)
               cases fo49
               refine hK.out _ _ trivial (fun hHeld => ?_)
               clear hK K
               refine norm_ (a' := ?_) ?_ ?_
               rotate_left
               ·show Act.put _ (some 36) _ = _
                simp only [Act.put, List.setIfInBounds_toArray, List.set_cons_zero, List.set_cons_succ, i64_w, i32_w]
                rfl
               refine pure_ (i := 6) (N := some 39) (v := ?_) (a' := ?_) #[true, true, true, true, true, true, true, false, true, true, false, false, false, false] rfl rfl (any_of HT_.out (by kernel_rfl)) (fun _ _ _ h => h) (Or.inl ⟨by rfl, ?_⟩) ?_ ?_
               rotate_left
               ·intro w'
                go_simp
                with_reducible rfl
               rotate_left
               ·simp only [Act.put, List.setIfInBounds_toArray, List.set_cons_zero, List.set_cons_succ, i64_w, i32_w]
                rfl
               exact norm_ (by first | (simp only [putAll, Act.put, List.setIfInBounds_toArray, List.set_cons_zero, List.set_cons_succ]; done) | (simp only [putAll, Act.put, List.setIfInBounds_toArray, List.set_cons_zero, List.set_cons_succ]; rfl)) (hJ3_5_9 (.slice (some ado49) y197.length co49, ado49) _ ⟨(by (with_reducible repeat (first | apply Kd.R_alloc | apply Kd.R_drewN | apply Kd.R_drew)); exact HO199.out), (by (with_reducible repeat (first | apply Kd.R_alloc | apply Kd.R_drewN | apply Kd.R_drew)); exact HO_5.out), ⟨_, rfl⟩, (by repeat (first | (with_reducible first | exact HI0.out | apply IsS95.alloc | apply IsS95.drewN | apply IsS95.drew | apply IsS95.set_1) | exact HI0.out)), (by repeat (first | (with_reducible first | exact HK.out | apply KeepBut.set_ | apply keep_drewN | apply keep_drew | apply keep_alloc) | exact HK.out)), (by repeat (first | (with_reducible first | exact HB.out | apply below_alloc | apply pw_below_drewN | apply below_drew1 | refine below_set ?_ (IsS95.ge HI0.out)) | exact HB.out))⟩)
             ·skip
              rintro ⟨v198, adz_v198⟩ w48 ⟨h0_, h1_, h2_, h3_, h4_, h5_⟩
              have n0_ : Aside0 (Kd.R (Kd.int .i64) 3 w48 w.heap.size (fun _ => True) v198 y197) := ⟨h0_⟩
              have n1_ : Aside0 (Kd.R k50 50 w48 w.heap.size (fun _ => True) (.slice Ao42 x5_1.length co42) x5_1) := ⟨h1_⟩
              have n2_ : Aside0 (∃ c_, (v198 : Value) = .slice (some adz_v198) y197.length c_) := ⟨h2_⟩
              have n3_ : Aside0 (IsS95 w0 w48 g s0_0 t201) := ⟨h3_⟩
              have n4_ : Aside0 (KeepBut w w48 g none) := ⟨h4_⟩
              have n5_ : Aside0 (Below w0.heap.size w0 w48) := ⟨h5_⟩
              clear HO_5
              clear HI0
              clear HK
              clear HB
              clear h0_ h1_ h2_ h3_ h4_ h5_
              have HO199 := n0_
              have HO_5 := n1_
              have HA_HO199 := n2_
              have HI0 := n3_
              have HK := n4_
              have HB := n5_
              clear n0_ n1_ n2_ n3_ n4_ n5_
              have hHeld := trivial
              obtain ⟨co49, eo49⟩ := HA_HO199.out
              clear HA_HO199
              subst eo49
              refine norm_ (a' := ?_) ?_ ?_
              rotate_left
              ·simp only [putAll, Act.put, List.setIfInBounds_toArray, List.set_cons_zero, List.set_cons_succ]
               rfl
              refine two_ (i := 7) (j := 9) (Ni := some 40) (Nj := some 42) #[true, true, true, true, true, true, true, true, true, false, false, false, false, false] #[true, true, true, true, true, true, true, false, true, true, false, false, false, false] rfl rfl rfl rfl (two_of HT_.out (by kernel_rfl)) (by decide) (by decide) (fun K hK => ?_) (fun K hK => ?_)
              ·skip
               (have p202 : 0 ≤ (t200 : Int) := of_decide_eq_true (by first | (with_reducible assumption) | assumption); have q202 : t200 < (y197.length : Int) := of_decide_eq_true (by first | (with_reducible assumption) | assumption); obtain ⟨ad202, e202, hx202_0⟩ := Kd.at_int (Kd.R_reads' HO199.out).2.2 t200 p202 q202; obtain rfl : adz_v198 = ad202 := (by injection e202))
               refine value_ (w1 := ?_) (v := ?_) (by rfl) rfl ?_ ?_
               rotate_left 2
               ·go_simp
                constructor
                ·rfl
                ·rfl
               clear hx202_0
               refine hK.out _ _ trivial (fun hHeld => ?_)
               clear hK K
               refine norm_ (a' := ?_) ?_ ?_
               rotate_left
               ·show Act.put _ (some 40) _ = _
                simp only [Act.put, List.setIfInBounds_toArray, List.set_cons_zero, List.set_cons_succ, i64_w, i32_w]
                rfl
               exact norm_ (by first | (simp only [putAll, Act.put, List.setIfInBounds_toArray, List.set_cons_zero, List.set_cons_succ]; done) | (simp only [putAll, Act.put, List.setIfInBounds_toArray, List.set_cons_zero, List.set_cons_succ]; rfl)) (hJ3_5_7 (.slice (some adz_v198) y197.length co49, adz_v198) _ ⟨(by (with_reducible repeat (first | apply Kd.R_alloc | apply Kd.R_drewN | apply Kd.R_drew)); exact HO199.out), (by (with_reducible repeat (first | apply Kd.R_alloc | apply Kd.R_drewN | apply Kd.R_drew)); exact HO_5.out), ⟨_, rfl⟩, (by repeat (first | (with_reducible first | exact HI0.out | apply IsS95.alloc | apply IsS95.drewN | apply IsS95.drew | apply IsS95.set_1) | exact HI0.out)), (by repeat (first | (with_reducible first | exact HK.out | apply KeepBut.set_ | apply keep_drewN | apply keep_drew | apply keep_alloc) | exact HK.out)), (by repeat (first | (with_reducible first | exact HB.out | apply below_alloc | apply pw_below_drewN | apply below_drew1 | refine below_set ?_ (IsS95.ge HI0.out)) | exact HB.out))⟩)
              ·skip
               refine goes_ Try.func61 (by kernel_rfl) rfl #[.pointer (some ⟨g, 0, none⟩), .int .i64 3] (by rfl) rfl rfl (by (try simp only [List.map_toArray, List.map_cons, List.map_nil]); first | done | rfl | (simp only [List.length_drop, List.length_take]; rfl)) ?_
               with_reducible refine (spec_l1Rd_pick.calls kj6 g s0_0 t201 3 t203 t204 w0 _ ?side1 ?side2 A38.out).mono ?_
               (case side1 => repeat (first | (with_reducible first | exact HI0.out | apply IsS95.alloc | apply IsS95.drewN | apply IsS95.drew | apply IsS95.set_1) | exact HI0.out))
               (case side2 => repeat (first | (with_reducible first | exact HB.out | apply below_alloc | apply pw_below_drewN | apply below_drew1 | refine below_set ?_ (IsS95.ge HI0.out)) | exact HB.out))
               rintro e w50 ⟨rfl, hi, hb, hk⟩
               refine ⟨_, rfl, ?_⟩
               have n0_ := Aside0.mk (Kd.R_mono (Kd.R_keep (IsS95.apart (show IsS95 w0 _ g s0_0 t201 from by repeat (first | (with_reducible first | exact HI0.out | apply IsS95.alloc | apply IsS95.drewN | apply IsS95.drew | apply IsS95.set_1) | exact HI0.out)) (by (with_reducible repeat (first | apply Kd.R_alloc | apply Kd.R_drewN | apply Kd.R_drew)); exact HO_5.out) (by decide)) hk (fun _ h => h.2)) (fun _ h => h.1))
               have n1_ := Aside0.mk (Kd.R_mono (Kd.R_keep (IsS95.apart (show IsS95 w0 _ g s0_0 t201 from by repeat (first | (with_reducible first | exact HI0.out | apply IsS95.alloc | apply IsS95.drewN | apply IsS95.drew | apply IsS95.set_1) | exact HI0.out)) (by (with_reducible repeat (first | apply Kd.R_alloc | apply Kd.R_drewN | apply Kd.R_drew)); exact HO199.out) (by decide)) hk (fun _ h => h.2)) (fun _ h => h.1))
               have n2_ := Aside0.mk (KeepBut.trans (by repeat (first | (with_reducible first | exact HK.out | apply KeepBut.set_ | apply keep_drewN | apply keep_drew | apply keep_alloc) | exact HK.out)) hk (.inl rfl))
               have n3_ := Aside0.mk (hb)
               have n4_ := Aside0.mk (hi)
               clear HO_5
               clear HO199
               clear HK
               clear HB
               clear HI0
               have HO_5 := n0_
               have HO199 := n1_
               have HK := n2_
               have HB := n3_
               have HI0 := n4_
               clear n0_ n1_ n2_ n3_ n4_
               (try clear hb)
               (try clear hb2)
               (try clear hk)
               (try clear hi)
               refine hK.out _ _ trivial (fun hHeld => ?_)
               clear hK K
               refine norm_ (a' := ?_) ?_ ?_
               rotate_left
               ·show Act.put _ (some 42) _ = _
                simp only [Act.put, List.setIfInBounds_toArray, List.set_cons_zero, List.set_cons_succ, i64_w, i32_w]
                rfl
               exact norm_ (by first | (simp only [putAll, Act.put, List.setIfInBounds_toArray, List.set_cons_zero, List.set_cons_succ]; done) | (simp only [putAll, Act.put, List.setIfInBounds_toArray, List.set_cons_zero, List.set_cons_succ]; rfl)) (hJ3_5_9 (.slice (some adz_v198) y197.length co49, adz_v198) _ ⟨(by (with_reducible repeat (first | apply Kd.R_alloc | apply Kd.R_drewN | apply Kd.R_drew)); exact HO199.out), (by (with_reducible repeat (first | apply Kd.R_alloc | apply Kd.R_drewN | apply Kd.R_drew)); exact HO_5.out), ⟨_, rfl⟩, (by repeat (first | (with_reducible first | exact HI0.out | apply IsS95.alloc | apply IsS95.drewN | apply IsS95.drew | apply IsS95.set_1) | exact HI0.out)), (by repeat (first | (with_reducible first | exact HK.out | apply KeepBut.set_ | apply keep_drewN | apply keep_drew | apply keep_alloc) | exact HK.out)), (by repeat (first | (with_reducible first | exact HB.out | apply below_alloc | apply pw_below_drewN | apply below_drew1 | refine below_set ?_ (IsS95.ge HI0.out)) | exact HB.out))⟩)
            ·skip
             rintro ⟨v198, adz_v198⟩ w49 ⟨h0_, h1_, h2_, h3_, h4_, h5_⟩
             have n0_ : Aside0 (Kd.R (Kd.int .i64) 3 w49 w.heap.size (fun _ => True) v198 y197) := ⟨h0_⟩
             have n1_ : Aside0 (Kd.R k50 50 w49 w.heap.size (fun _ => True) (.slice Ao42 x5_1.length co42) x5_1) := ⟨h1_⟩
             have n2_ : Aside0 (∃ c_, (v198 : Value) = .slice (some adz_v198) y197.length c_) := ⟨h2_⟩
             have n3_ : Aside0 (IsS95 w0 w49 g s0_0 t204) := ⟨h3_⟩
             have n4_ : Aside0 (KeepBut w w49 g none) := ⟨h4_⟩
             have n5_ : Aside0 (Below w0.heap.size w0 w49) := ⟨h5_⟩
             clear HO_5
             clear HI0
             clear HK
             clear HB
             clear h0_ h1_ h2_ h3_ h4_ h5_
             have HO199 := n0_
             have HO_5 := n1_
             have HA_HO199 := n2_
             have HI0 := n3_
             have HK := n4_
             have HB := n5_
             clear n0_ n1_ n2_ n3_ n4_ n5_
             have hHeld := trivial
             obtain ⟨co50, eo50⟩ := HA_HO199.out
             clear HA_HO199
             subst eo50
             refine norm_ (a' := ?_) ?_ ?_
             rotate_left
             ·simp only [putAll, Act.put, List.setIfInBounds_toArray, List.set_cons_zero, List.set_cons_succ]
              rfl
             refine one_ (i := 7) (N := some 40) #[true, true, true, true, true, true, true, true, true, true, false, false, false, false] rfl rfl (one_of HT_.out (by kernel_rfl)) (by decide) (fun K hK => ?_)
             (have p202 : 0 ≤ (t200 : Int) := of_decide_eq_true (by first | (with_reducible assumption) | assumption); have q202 : t200 < (y197.length : Int) := of_decide_eq_true (by first | (with_reducible assumption) | assumption); obtain ⟨ad202, e202, hx202_0⟩ := Kd.at_int (Kd.R_reads' HO199.out).2.2 t200 p202 q202; obtain rfl : adz_v198 = ad202 := (by injection e202))
             refine value_ (w1 := ?_) (v := ?_) (by rfl) rfl ?_ ?_
             rotate_left 2
             ·go_simp
              constructor
              ·rfl
              ·rfl
             clear hx202_0
             refine hK.out _ _ trivial (fun hHeld => ?_)
             clear hK K
             refine norm_ (a' := ?_) ?_ ?_
             rotate_left
             ·show Act.put _ (some 40) _ = _
              simp only [Act.put, List.setIfInBounds_toArray, List.set_cons_zero, List.set_cons_succ, i64_w, i32_w]
              rfl
             exact norm_ (by first | (simp only [putAll, Act.put, List.setIfInBounds_toArray, List.set_cons_zero, List.set_cons_succ]; done) | (simp only [putAll, Act.put, List.setIfInBounds_toArray, List.set_cons_zero, List.set_cons_succ]; rfl)) (hJ3_5_7_9 (.slice (some adz_v198) y197.length co50, adz_v198) _ ⟨(by (with_reducible repeat (first | apply Kd.R_alloc | apply Kd.R_drewN | apply Kd.R_drew)); exact HO199.out), (by (with_reducible repeat (first | apply Kd.R_alloc | apply Kd.R_drewN | apply Kd.R_drew)); exact HO_5.out), ⟨_, rfl⟩, (by repeat (first | (with_reducible first | exact HI0.out | apply IsS95.alloc | apply IsS95.drewN | apply IsS95.drew | apply IsS95.set_1) | exact HI0.out)), (by repeat (first | (with_reducible first | exact HK.out | apply KeepBut.set_ | apply keep_drewN | apply keep_drew | apply keep_alloc) | exact HK.out)), (by repeat (first | (with_reducible first | exact HB.out | apply below_alloc | apply pw_below_drewN | apply below_drew1 | refine below_set ?_ (IsS95.ge HI0.out)) | exact HB.out))⟩)
           ·skip
            rintro ⟨v198, adz_v198⟩ w48 ⟨h0_, h1_, h2_, h3_, h4_, h5_⟩
            have n0_ : Aside0 (Kd.R (Kd.int .i64) 3 w48 w.heap.size (fun _ => True) v198 y197) := ⟨h0_⟩
            have n1_ : Aside0 (Kd.R k50 50 w48 w.heap.size (fun _ => True) (.slice Ao42 x5_1.length co42) x5_1) := ⟨h1_⟩
            have n2_ : Aside0 (∃ c_, (v198 : Value) = .slice (some adz_v198) y197.length c_) := ⟨h2_⟩
            have n3_ : Aside0 (IsS95 w0 w48 g s0_0 t201) := ⟨h3_⟩
            have n4_ : Aside0 (KeepBut w w48 g none) := ⟨h4_⟩
            have n5_ : Aside0 (Below w0.heap.size w0 w48) := ⟨h5_⟩
            clear HO_5
            clear HI0
            clear HK
            clear HB
            clear h0_ h1_ h2_ h3_ h4_ h5_
            have HO199 := n0_
            have HO_5 := n1_
            have HA_HO199 := n2_
            have HI0 := n3_
            have HK := n4_
            have HB := n5_
            clear n0_ n1_ n2_ n3_ n4_ n5_
            have hHeld := trivial
            obtain ⟨co49, eo49⟩ := HA_HO199.out
            clear HA_HO199
            subst eo49
            refine norm_ (a' := ?_) ?_ ?_
            rotate_left
            ·simp only [putAll, Act.put, List.setIfInBounds_toArray, List.set_cons_zero, List.set_cons_succ]
             rfl
            refine one_ (i := 9) (N := some 42) #[true, true, true, true, true, true, true, true, true, true, false, false, false, false] rfl rfl (one_of HT_.out (by kernel_rfl)) (by decide) (fun K hK => ?_)
            refine goes_ Try.func61 (by kernel_rfl) rfl #[.pointer (some ⟨g, 0, none⟩), .int .i64 3] (by rfl) rfl rfl (by (try simp only [List.map_toArray, List.map_cons, List.map_nil]); first | done | rfl | (simp only [List.length_drop, List.length_take]; rfl)) ?_
            with_reducible refine (spec_l1Rd_pick.calls kj6 g s0_0 t201 3 t203 t204 w0 _ ?side1 ?side2 A38.out).mono ?_
            (case side1 => repeat (first | (with_reducible first | exact HI0.out | apply IsS95.alloc | apply IsS95.drewN | apply IsS95.drew | apply IsS95.set_1) | exact HI0.out))
            (case side2 => repeat (first | (with_reducible first | exact HB.out | apply below_alloc | apply pw_below_drewN | apply below_drew1 | refine below_set ?_ (IsS95.ge HI0.out)) | exact HB.out))
            rintro e w50 ⟨rfl, hi, hb, hk⟩
            refine ⟨_, rfl, ?_⟩
            have n0_ := Aside0.mk (Kd.R_mono (Kd.R_keep (IsS95.apart (show IsS95 w0 _ g s0_0 t201 from by repeat (first | (with_reducible first | exact HI0.out | apply IsS95.alloc | apply IsS95.drewN | apply IsS95.drew | apply IsS95.set_1) | exact HI0.out)) (by (with_reducible repeat (first | apply Kd.R_alloc | apply Kd.R_drewN | apply Kd.R_drew)); exact HO_5.out) (by decide)) hk (fun _ h => h.2)) (fun _ h => h.1))
            have n1_ := Aside0.mk (Kd.R_mono (Kd.R_keep (IsS95.apart (show IsS95 w0 _ g s0_0 t201 from by repeat (first | (with_reducible first | exact HI0.out | apply IsS95.alloc | apply IsS95.drewN | apply IsS95.drew | apply IsS95.set_1) | exact HI0.out)) (by (with_reducible repeat (first | apply Kd.R_alloc | apply Kd.R_drewN | apply Kd.R_drew)); exact HO199.out) (by decide)) hk (fun _ h => h.2)) (fun _ h => h.1))
            have n2_ := Aside0.mk (KeepBut.trans (by repeat (first | (with_reducible first | exact HK.out | apply KeepBut.set_ | apply keep_drewN | apply keep_drew | apply keep_alloc) | exact HK.out)) hk (.inl rfl))
            have n3_ := Aside0.mk (hb)
            have n4_ := Aside0.mk (hi)
            clear HO_5
            clear HO199
            clear HK
            clear HB
            clear HI0
            have HO_5 := n0_
            have HO199 := n1_
            have HK := n2_
            have HB := n3_
            have HI0 := n4_
            clear n0_ n1_ n2_ n3_ n4_
            (try clear hb)
            (try clear hb2)
            (try clear hk)
            (try clear hi)
            refine hK.out _ _ trivial (fun hHeld => ?_)
            clear hK K
            refine norm_ (a' := ?_) ?_ ?_
            rotate_left
            ·show Act.put _ (some 42) _ = _
             simp only [Act.put, List.setIfInBounds_toArray, List.set_cons_zero, List.set_cons_succ, i64_w, i32_w]
             rfl
            exact norm_ (by first | (simp only [putAll, Act.put, List.setIfInBounds_toArray, List.set_cons_zero, List.set_cons_succ]; done) | (simp only [putAll, Act.put, List.setIfInBounds_toArray, List.set_cons_zero, List.set_cons_succ]; rfl)) (hJ3_5_7_9 (.slice (some adz_v198) y197.length co49, adz_v198) _ ⟨(by (with_reducible repeat (first | apply Kd.R_alloc | apply Kd.R_drewN | apply Kd.R_drew)); exact HO199.out), (by (with_reducible repeat (first | apply Kd.R_alloc | apply Kd.R_drewN | apply Kd.R_drew)); exact HO_5.out), ⟨_, rfl⟩, (by repeat (first | (with_reducible first | exact HI0.out | apply IsS95.alloc | apply IsS95.drewN | apply IsS95.drew | apply IsS95.set_1) | exact HI0.out)), (by repeat (first | (with_reducible first | exact HK.out | apply KeepBut.set_ | apply keep_drewN | apply keep_drew | apply keep_alloc) | exact HK.out)), (by repeat (first | (with_reducible first | exact HB.out | apply below_alloc | apply pw_below_drewN | apply below_drew1 | refine below_set ?_ (IsS95.ge HI0.out)) | exact HB.out))⟩)
          rintro ⟨v198, adz_v198⟩ w49 ⟨h0_, h1_, h2_, h3_, h4_, h5_⟩
          have n0_ : Aside0 (Kd.R (Kd.int .i64) 3 w49 w.heap.size (fun _ => True) v198 y197) := ⟨h0_⟩
          have n1_ : Aside0 (Kd.R k50 50 w49 w.heap.size (fun _ => True) (.slice Ao42 x5_1.length co42) x5_1) := ⟨h1_⟩
          have n2_ : Aside0 (∃ c_, (v198 : Value) = .slice (some adz_v198) y197.length c_) := ⟨h2_⟩
          have n3_ : Aside0 (IsS95 w0 w49 g s0_0 t204) := ⟨h3_⟩
          have n4_ : Aside0 (KeepBut w w49 g none) := ⟨h4_⟩
          have n5_ : Aside0 (Below w0.heap.size w0 w49) := ⟨h5_⟩
          clear HO_5
          clear HI0
          clear HK
          clear HB
          clear h0_ h1_ h2_ h3_ h4_ h5_
          have HO199 := n0_
          have HO_5 := n1_
          have HA_HO199 := n2_
          have HI0 := n3_
          have HK := n4_
          have HB := n5_
          clear n0_ n1_ n2_ n3_ n4_ n5_
          have hHeld := trivial
          obtain ⟨co50, eo50⟩ := HA_HO199.out
          clear HA_HO199
          subst eo50
          refine norm_ (a' := ?_) ?_ ?_
          rotate_left
          ·simp only [putAll, Act.put, List.setIfInBounds_toArray, List.set_cons_zero, List.set_cons_succ]
           rfl
          refine pure_ (i := 10) (N := some 43) (v := ?_) (a' := ?_) #[true, true, true, true, true, true, true, true, true, true, true, false, false, false] rfl rfl (any_of HT_.out (by kernel_rfl)) (fun _ _ _ h => h) (Or.inl ⟨by rfl, ?_⟩) ?_ ?_
          rotate_left
          ·intro w'
           go_simp
           with_reducible rfl
          rotate_left
          ·simp only [Act.put, List.setIfInBounds_toArray, List.set_cons_zero, List.set_cons_succ, i64_w, i32_w]
           rfl
          refine one_ (i := 11) (N := some 44) #[true, true, true, true, true, true, true, true, true, true, true, true, false, false] rfl rfl (one_of HT_.out (by kernel_rfl)) (by decide) (fun K hK => ?_)
          refine value_ (w1 := ?_) (v := ?_) (by rfl) rfl ?_ ?_
          rotate_left 2
          ·go_simp
           constructor
           ·rfl
           ·rfl
          refine hK.out _ _ trivial (fun hHeld => ?_)
          clear hK K
          refine norm_ (a' := ?_) ?_ ?_
          rotate_left
          ·show Act.put _ (some 44) _ = _
           simp only [Act.put, List.setIfInBounds_toArray, List.set_cons_zero, List.set_cons_succ, i64_w, i32_w]
           rfl
          refine one_ (i := 12) (N := some 45) #[true, true, true, true, true, true, true, true, true, true, true, true, true, false] rfl rfl (one_of HT_.out (by kernel_rfl)) (by decide) (fun K hK => ?_)
          refine Kd.R_append_step k50 w.heap.size (by rfl) (.tmp 33) (.tmp 44) 38 50 (.agg #[(.int .i64 0), (.int .i64 0), (.int .i64 0), (.int .i64 0)]) 32 rfl Try.underlying38 info50 rfl (by decide) (by omega) (.slice Ao42 x5_1.length co42) x5_1 (⟨x6_1, wrap64 ((wrap64 (x6_1 + 1)) + t182), rd y197 t200, t203⟩ : S50) [.int .i64 x6_1, .int .i64 (wrap64 ((wrap64 (x6_1 + 1)) + t182)), .int .i64 (rd y197 t200), .int .i64 t203] (fun _ => True) (fun _ => False) rfl rfl ?aP (fun _ hk => hk.elim) ?aF ?aO (Below.refl _ _) ?aS ?aL ?_
          (case aP => exact k50_mkM _ _ _ (⟨x6_1, wrap64 ((wrap64 (x6_1 + 1)) + t182), rd y197 t200, t203⟩ : S50))
          (case aF => exact (fun _ _ => trivial))
          (case aO => exact (by (with_reducible repeat (first | apply Kd.R_alloc | apply Kd.R_drewN | apply Kd.R_drew)); exact HO_5.out))
          (case aS => exact (keep_size (w := w) (g := g) (row := none) (by repeat (first | (with_reducible first | exact HK.out | apply KeepBut.set_ | apply keep_drewN | apply keep_drew | apply keep_alloc) | exact HK.out))))
          (case aL => have := LMc39.out; omega)
          intro v206 w51 ho hb hg hat
          rw [← Ny205.out] at ho
          have n0_ := Aside0.mk (IsS95.grown (by repeat (first | (with_reducible first | exact HI0.out | apply IsS95.alloc | apply IsS95.drewN | apply IsS95.drew | apply IsS95.set_1) | exact HI0.out)) hg (IsS95.own_ne HI0.out HO_5.out (by decide)))
          have n1_ := Aside0.mk (Kd.R_over' (by (with_reducible repeat (first | apply Kd.R_alloc | apply Kd.R_drewN | apply Kd.R_drew)); exact HO199.out) (Kd.R_typed (by (with_reducible repeat (first | apply Kd.R_alloc | apply Kd.R_drewN | apply Kd.R_drew)); exact HO_5.out)) (by decide) hg)
          have n2_ := Aside0.mk (below_weaken (by repeat (first | (with_reducible first | exact HB.out | apply below_alloc | apply pw_below_drewN | apply below_drew1 | refine below_set ?_ (IsS95.ge HI0.out)) | exact HB.out)) HL.out hb)
          have n3_ := Aside0.mk (KeepBut.trans (by repeat (first | (with_reducible first | exact HK.out | apply KeepBut.set_ | apply keep_drewN | apply keep_drew | apply keep_alloc) | exact HK.out)) (KeepBut.of_grown hg g) (Kd.R_base2 HO_5.out))
          have n4_ := Aside0.mk (ho)
          clear HI0
          clear HO199
          clear HB
          clear HK
          clear HO_5
          have HI0 := n0_
          have HO199 := n1_
          have HB := n2_
          have HK := n3_
          have HO207 := n4_
          clear n0_ n1_ n2_ n3_ n4_
          clear ho hb hg hat
          refine hK.out _ _ trivial (fun hHeld => ?_)
          clear hK K
          refine norm_ (a' := ?_) ?_ ?_
          rotate_left
          ·show Act.put _ (some 45) _ = _
           simp only [Act.put, List.setIfInBounds_toArray, List.set_cons_zero, List.set_cons_succ, i64_w, i32_w]
           rfl
          refine pure_ (i := 13) (N := some 5) (v := ?_) (a' := ?_) #[true, true, true, true, true, true, true, true, true, true, true, true, true, true] rfl rfl (any_of HT_.out (by kernel_rfl)) (fun _ _ _ h => h) (Or.inl ⟨by rfl, ?_⟩) ?_ ?_
          rotate_left
          ·intro w'
           go_simp
           with_reducible rfl
          rotate_left
          ·simp only [Act.put, List.setIfInBounds_toArray, List.set_cons_zero, List.set_cons_succ, i64_w, i32_w]
           rfl
          refine done_ (done_of HT_.out (by kernel_rfl)) ?_
          try go_wp2_with (first | ((with_reducible refine gate_callee (f := 61) rfl ?_); refine goesL_ (some 48) rfl rfl Try.func61 (by kernel_rfl) rfl #[.pointer (some ⟨g, 0, none⟩), .int .i64 3] rfl (by (try simp only [List.map_toArray, List.map_cons, List.map_nil]); first | done | rfl | (simp only [List.length_drop, List.length_take]; rfl)) ?_; (with_reducible refine (spec_l1Rd_pick.calls kj6 g s0_0 t204 3 t208 t209 w0 _ ?side1 ?side2 A40.out).mono ?_); (case side1 => repeat (first | (with_reducible first | exact HI0.out | apply IsS95.alloc | apply IsS95.drewN | apply IsS95.drew | apply IsS95.set_1) | exact HI0.out)); (case side2 => repeat (first | (with_reducible first | exact HB.out | apply below_alloc | apply pw_below_drewN | apply below_drew1 | refine below_set ?_ (IsS95.ge HI0.out)) | exact HB.out)); rintro e w52 ⟨rfl, hi, hb, hk⟩; refine ⟨_, rfl, ?_⟩; have n0_ := Aside0.mk (Kd.R_mono (Kd.R_keep (IsS95.apart (show IsS95 w0 _ g s0_0 t204 from by repeat (first | (with_reducible first | exact HI0.out | apply IsS95.alloc | apply IsS95.drewN | apply IsS95.drew | apply IsS95.set_1) | exact HI0.out)) (by (with_reducible repeat (first | apply Kd.R_alloc | apply Kd.R_drewN | apply Kd.R_drew)); exact HO199.out) (by decide)) hk (fun _ h => h.2)) (fun _ h => h.1)); have n1_ := Aside0.mk (Kd.R_mono (Kd.R_keep (IsS95.apart (show IsS95 w0 _ g s0_0 t204 from by repeat (first | (with_reducible first | exact HI0.out | apply IsS95.alloc | apply IsS95.drewN | apply IsS95.drew | apply IsS95.set_1) | exact HI0.out)) (by (with_reducible repeat (first | apply Kd.R_alloc | apply Kd.R_drewN | apply Kd.R_drew)); exact HO207.out) (by decide)) hk (fun _ h => h.2)) (fun _ h => h.1)); have n2_ := Aside0.mk (KeepBut.trans (by repeat (first | (with_reducible first | exact HK.out | apply KeepBut.set_ | apply keep_drewN | apply keep_drew | apply keep_alloc) | exact HK.out)) hk (.inl rfl)); have n3_ := Aside0.mk (hb); have n4_ := Aside0.mk (hi); clear HO199; clear HO207; clear HK; clear HB; clear HI0; have HO199 := n0_; have HO207 := n1_; have HK := n2_; have HB := n3_; have HI0 := n4_; clear n0_ n1_ n2_ n3_ n4_; (try clear hb); (try clear hb2); (try clear hk); (try clear hi)))
          go_roundg kj6
          case measure => have := HK1.out; have := HJ6.out; omega
          case rel => exact ⟨(y205), (wrap64 ((wrap64 ((wrap64 (x6_1 + 1)) + t182)) + t208)), (t209), (by first | rfl | (simp; done) | (simp [*]; done)), H', ⟨by have := HK1.out; have := HJ6.out; omega⟩, ⟨by (with_reducible repeat (first | apply Kd.R_alloc | apply Kd.R_drewN | apply Kd.R_drew)); exact HO207.out⟩, ⟨by repeat (first | (with_reducible first | exact HI0.out | apply IsS95.alloc | apply IsS95.drewN | apply IsS95.drew | apply IsS95.set_1) | exact HI0.out)⟩, ⟨by repeat (first | (with_reducible first | exact HK.out | apply KeepBut.set_ | apply keep_drewN | apply keep_drew | apply keep_alloc) | exact HK.out)⟩, ⟨by repeat (first | (with_reducible first | exact HB.out | apply below_alloc | apply pw_below_drewN | apply below_drew1 | refine below_set ?_ (IsS95.ge HI0.out)) | exact HB.out)⟩⟩
         ·rw [if_neg c39] at H
          exact absurd H (by simp)
        ·rw [if_neg c37] at H
         exact absurd H (by simp)
       ·rw [if_neg c36] at H
        exact absurd H (by simp)
     ·replace c14 := Bool.eq_false_iff.mpr c14
      subst c14
      have H1 : (some (x5_1, x1001_6)) = some (r1, r2) := by rw [if_neg (show ¬ (false = true) by decide)] at H; exact H
      clear H
      have H := H1
      clear H1
      simp only [Option.some.injEq, Prod.mk.injEq] at H
      obtain ⟨rfl, rfl⟩ := H
      go_wp2
      go_ret
      exact ⟨_, by first | rfl | (simp [errW_none, errW_some] <;> rfl) | (simp [*, errW_none, errW_some] <;> rfl), by (with_reducible repeat (first | apply Kd.R_alloc | apply Kd.R_drewN | apply Kd.R_drew)); exact HO_5.out, by repeat (first | (with_reducible first | exact HI0.out | apply IsS95.alloc | apply IsS95.drewN | apply IsS95.drew | apply IsS95.set_1) | exact HI0.out), by repeat (first | (with_reducible first | exact HB.out | apply below_alloc | apply pw_below_drewN | apply below_drew1 | refine below_set ?_ (IsS95.ge HI0.out)) | exact HB.out), by repeat (first | (with_reducible first | exact HK.out | apply KeepBut.set_ | apply keep_drewN | apply keep_drew | apply keep_alloc) | exact HK.out)⟩

end Go.Proofs.Ytkapjhlcmicpnaa.PFnSpansPlain
