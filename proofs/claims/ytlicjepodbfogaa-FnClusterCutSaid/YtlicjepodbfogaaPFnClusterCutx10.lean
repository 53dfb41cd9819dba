-- Written by a program of this session (wip/tools) out of the translation; its shape is that of the kit print.
import Derived.Test.YtlicjepodbfogaaPFnClusterCutx0
import Derived.Test.YtlicjepodbfogaaPFnClusterCutx3
import Derived.Test.YtlicjepodbfogaaPFnClusterCutx4
import Derived.Test.YtlicjepodbfogaaPFnClusterCutx6
import Derived.Test.YtlicjepodbfogaaPFnClusterCutx8
import Derived.Test.YtlicjepodbfogaaPFnClusterCutx9
namespace Go.Proofs.Ytlicjepodbfogaa.PFnClusterCut
open Go.RowKit Go.Proofs.YtlicjepodbfogaaW.PrintWords Go.Proofs.YtlicjepodbfogaaW.PrintLast Go.Proofs.YtlicjepodbfogaaW.PrintMore
attribute [local go_sem] max2_int min2_int max_two min_two max_three min_three max_four min_four   -- for this text's walks alone
set_option linter.unusedVariables false
set_option linter.unusedSimpArgs false

/-! ### laws_FnClusterCut: function 5 -/
mutual
def laws_FnClusterCut.j0 : Nat → List Int → Int → Int → Bool → Option (Bool)
  | 0, _, _, _, _ => none
  | k + 1, x3, x4, x5, x38 => if x38 = true then ((spec_ClusterAt.f k x3 x4).bind fun t318 => (some (x5 == t318))) else ((impl_ClusterStarts.f k x3).bind fun t319 => (if 0 ≤ x5 then (if x5 ≤ (x3.length : Int) then ((impl_ClusterStarts.f k (x3.take (x5 : Int).toNat)).bind fun t326 => (laws_FnClusterCut.l0 k x3 x5 t319 t326 0 0)) else (none)) else (none)))
def laws_FnClusterCut.l0 : Nat → List Int → Int → List Int → List Int → Int → Int → Option (Bool)
  | 0, _, _, _, _, _, _ => none
  | k + 1, x3, x5, x6, x7, x8, x9 => if x9 < (x6.length : Int) then (if 0 ≤ x9 then (if (rd x6 x9) < x5 then (laws_FnClusterCut.l0 k x3 x5 x6 x7 (wrap64 (x8 + 1)) (wrap64 (x9 + 1))) else (if 0 ≤ x8 then (if x8 ≤ (x6.length : Int) then ((laws_wcInts.f k x7 (x6.take (x8 : Int).toNat)).bind fun t334 => (if t334 = true then (if x8 = (x6.length : Int) then ((impl_ClusterAt.f k x3 x5).bind fun t335 => (some (t335 == x5))) else (if x8 < (x6.length : Int) then (if (rd x6 x8) = x5 then ((impl_ClusterAt.f k x3 x5).bind fun t337 => (some (t337 == x5))) else (some false)) else (none))) else (some false))) else (none)) else (none))) else (none)) else (if 0 ≤ x8 then (if x8 ≤ (x6.length : Int) then ((laws_wcInts.f k x7 (x6.take (x8 : Int).toNat)).bind fun t342 => (if t342 = true then (if x8 = (x6.length : Int) then ((impl_ClusterAt.f k x3 x5).bind fun t343 => (some (t343 == x5))) else (if x8 < (x6.length : Int) then (if (rd x6 x8) = x5 then ((impl_ClusterAt.f k x3 x5).bind fun t345 => (some (t345 == x5))) else (some false)) else (none))) else (some false))) else (none)) else (none))
end
def laws_FnClusterCut.f (k : Nat) (l0 : List Int) : Option (Bool) := if (l0.length : Int) > 1048576 then (some true) else ((spec_DrawClusterAt.f k l0).bind fun bt310 => ((impl_ClusterAt.f k bt310.1 bt310.2).bind fun t314 => ((spec_ClusterAt.f k bt310.1 bt310.2).bind fun t315 => (if t314 = t315 then ((impl_ClusterWide.f k bt310.1 bt310.2).bind fun t316 => ((spec_ClusterWide.f k bt310.1 bt310.2).bind fun t317 => (if t316 = t317 then (laws_FnClusterCut.j0 k bt310.1 bt310.2 t314 (decide (t314 < 0))) else (laws_FnClusterCut.j0 k bt310.1 bt310.2 t314 true)))) else (laws_FnClusterCut.j0 k bt310.1 bt310.2 t314 true)))))
theorem laws_FnClusterCut.mono_l : ∀ k, (∀ y0 y1 y2 y3, LeO (laws_FnClusterCut.j0 k y0 y1 y2 y3) (laws_FnClusterCut.j0 (k + 1) y0 y1 y2 y3)) ∧ (∀ y0 y1 y2 y3 y4 y5, LeO (laws_FnClusterCut.l0 k y0 y1 y2 y3 y4 y5) (laws_FnClusterCut.l0 (k + 1) y0 y1 y2 y3 y4 y5))
  | 0 => ⟨fun _ _ _ _ r h => by simp [laws_FnClusterCut.j0] at h, fun _ _ _ _ _ _ r h => by simp [laws_FnClusterCut.l0] at h⟩
  | k + 1 => by
    obtain ⟨ih0, ih1⟩ := laws_FnClusterCut.mono_l k
    refine ⟨?_, ?_⟩
    · intro y0 y1 y2 y3
      unfold laws_FnClusterCut.j0
      repeat' first
      | (with_reducible exact ih0 _ _ _ _)
      | (with_reducible exact ih1 _ _ _ _ _ _)
      | (with_reducible exact impl_ClusterAt.mono _ _ _)
      | (with_reducible exact impl_ClusterStarts.mono _ _)
      | (with_reducible exact impl_ClusterWide.mono _ _ _)
      | (with_reducible exact laws_wcInts.mono _ _ _)
      | (with_reducible exact spec_ClusterAt.mono _ _ _)
      | (with_reducible exact spec_ClusterWide.mono _ _ _)
      | (with_reducible exact spec_DrawClusterAt.mono _ _)
      | (with_reducible exact LeO.refl _)
      | (with_reducible exact LeO.none _)
      | (with_reducible refine LeO.ite ?_ ?_)
      | (with_reducible refine LeO.bind ?_ (fun _ => ?_))
      | exact ih0 _ _ _ _
      | exact ih1 _ _ _ _ _ _
      | exact impl_ClusterAt.mono _ _ _
      | exact impl_ClusterStarts.mono _ _
      | exact impl_ClusterWide.mono _ _ _
      | exact laws_wcInts.mono _ _ _
      | exact spec_ClusterAt.mono _ _ _
      | exact spec_ClusterWide.mono _ _ _
      | exact spec_DrawClusterAt.mono _ _
      | exact LeO.none _
      | refine LeO.ite ?_ ?_
      | refine LeO.bind ?_ (fun _ => ?_)
    · intro y0 y1 y2 y3 y4 y5
      unfold laws_FnClusterCut.l0
      repeat' first
      | (with_reducible exact ih0 _ _ _ _)
      | (with_reducible exact ih1 _ _ _ _ _ _)
      | (with_reducible exact impl_ClusterAt.mono _ _ _)
      | (with_reducible exact impl_ClusterStarts.mono _ _)
      | (with_reducible exact impl_ClusterWide.mono _ _ _)
      | (with_reducible exact laws_wcInts.mono _ _ _)
      | (with_reducible exact spec_ClusterAt.mono _ _ _)
      | (with_reducible exact spec_ClusterWide.mono _ _ _)
      | (with_reducible exact spec_DrawClusterAt.mono _ _)
      | (with_reducible exact LeO.refl _)
      | (with_reducible exact LeO.none _)
      | (with_reducible refine LeO.ite ?_ ?_)
      | (with_reducible refine LeO.bind ?_ (fun _ => ?_))
      | exact ih0 _ _ _ _
      | exact ih1 _ _ _ _ _ _
      | exact impl_ClusterAt.mono _ _ _
      | exact impl_ClusterStarts.mono _ _
      | exact impl_ClusterWide.mono _ _ _
      | exact laws_wcInts.mono _ _ _
      | exact spec_ClusterAt.mono _ _ _
      | exact spec_ClusterWide.mono _ _ _
      | exact spec_DrawClusterAt.mono _ _
      | exact LeO.none _
      | refine LeO.ite ?_ ?_
      | refine LeO.bind ?_ (fun _ => ?_)
theorem laws_FnClusterCut.mono : ∀ a0 k, LeO (laws_FnClusterCut.f k a0) (laws_FnClusterCut.f (k + 1) a0) := by
  intro a0 k
  obtain ⟨ih0, ih1⟩ := laws_FnClusterCut.mono_l k
  unfold laws_FnClusterCut.f
  repeat' first
      | (with_reducible exact ih0 _ _ _ _)
      | (with_reducible exact ih1 _ _ _ _ _ _)
      | (with_reducible exact impl_ClusterAt.mono _ _ _)
      | (with_reducible exact impl_ClusterStarts.mono _ _)
      | (with_reducible exact impl_ClusterWide.mono _ _ _)
      | (with_reducible exact laws_wcInts.mono _ _ _)
      | (with_reducible exact spec_ClusterAt.mono _ _ _)
      | (with_reducible exact spec_ClusterWide.mono _ _ _)
      | (with_reducible exact spec_DrawClusterAt.mono _ _)
      | (with_reducible exact LeO.refl _)
      | (with_reducible exact LeO.none _)
      | (with_reducible refine LeO.ite ?_ ?_)
      | (with_reducible refine LeO.bind ?_ (fun _ => ?_))
      | exact ih0 _ _ _ _
      | exact ih1 _ _ _ _ _ _
      | exact impl_ClusterAt.mono _ _ _
      | exact impl_ClusterStarts.mono _ _
      | exact impl_ClusterWide.mono _ _ _
      | exact laws_wcInts.mono _ _ _
      | exact spec_ClusterAt.mono _ _ _
      | exact spec_ClusterWide.mono _ _ _
      | exact spec_DrawClusterAt.mono _ _
      | exact LeO.none _
      | refine LeO.ite ?_ ?_
      | refine LeO.bind ?_ (fun _ => ?_)
set_option maxHeartbeats 8000000 in
set_option maxRecDepth 100000 in
theorem laws_FnClusterCut.calls (k : Nat) (A0 : Option Addr) (c0 : Nat) (l0 : List Int) (r : Bool) (w : World) (hr0 : Kd.C (Kd.int .u8) w A0 l0.length l0) (hc0 : l0.length ≤ c0) (h : laws_FnClusterCut.f k l0 = some r) :
    Calls Try.prog 5 #[.slice A0 l0.length c0] w fun e w' => e = .returned (.bool r) ∧ Below w.heap.size w w' := by
  have HR0 := Aside0.mk hr0
  have HC0 := Aside0.mk hc0
  clear hr0 hc0
  have HB := Aside0.mk (Below.refl w.heap.size w)
  have H : (if (l0.length : Int) > 1048576 then (some true) else ((spec_DrawClusterAt.f k l0).bind fun bt310 => ((impl_ClusterAt.f k bt310.1 bt310.2).bind fun t314 => ((spec_ClusterAt.f k bt310.1 bt310.2).bind fun t315 => (if t314 = t315 then ((impl_ClusterWide.f k bt310.1 bt310.2).bind fun t316 => ((spec_ClusterWide.f k bt310.1 bt310.2).bind fun t317 => (if t316 = t317 then (laws_FnClusterCut.j0 k bt310.1 bt310.2 t314 (decide (t314 < 0))) else (laws_FnClusterCut.j0 k bt310.1 bt310.2 t314 true)))) else (laws_FnClusterCut.j0 k bt310.1 bt310.2 t314 true)))))) = some r := h
  clear h
  by_cases c2 : (l0.length : Int) > 1048576
  · rw [if_pos c2] at H
    have c2b0 : decide (1048576 < (l0.length : Int)) = true := decide_eq_true c2
    have c2b1 : decide (1048576 < l0.length) = true := decide_eq_true (by omega)
    clear c2
    obtain rfl := Option.some.inj H
    go_enter Try.func5, Try.ntmps5
    go_wp2
    go_ret
    exact ⟨by first | rfl | (simp [errW_none, errW_some] <;> rfl) | (simp [*, errW_none, errW_some] <;> rfl), by repeat (first | (with_reducible first | exact HB.out | apply below_alloc | apply pw_below_drewN | apply below_drew1) | exact HB.out)⟩
  · rw [if_neg c2] at H
    have c2b0 : decide (1048576 < (l0.length : Int)) = false := decide_eq_false c2
    have c2b1 : decide (1048576 < l0.length) = false := decide_eq_false (by omega)
    clear c2
    replace H := Option.bind_eq_some_iff.mp H
    obtain ⟨⟨t310, t311⟩, A30, H⟩ := H
    replace H : ((impl_ClusterAt.f k t310 t311).bind fun t314 => ((spec_ClusterAt.f k t310 t311).bind fun t315 => (if t314 = t315 then ((impl_ClusterWide.f k t310 t311).bind fun t316 => ((spec_ClusterWide.f k t310 t311).bind fun t317 => (if t316 = t317 then (laws_FnClusterCut.j0 k t310 t311 t314 (decide (t314 < 0))) else (laws_FnClusterCut.j0 k t310 t311 t314 true)))) else (laws_FnClusterCut.j0 k t310 t311 t314 true)))) = some r := H
    have A3 := Aside0.mk A30
    clear A30
    replace H := Option.bind_eq_some_iff.mp H
    obtain ⟨t314, A40, H⟩ := H
    replace H : ((spec_ClusterAt.f k t310 t311).bind fun t315 => (if t314 = t315 then ((impl_ClusterWide.f k t310 t311).bind fun t316 => ((spec_ClusterWide.f k t310 t311).bind fun t317 => (if t316 = t317 then (laws_FnClusterCut.j0 k t310 t311 t314 (decide (t314 < 0))) else (laws_FnClusterCut.j0 k t310 t311 t314 true)))) else (laws_FnClusterCut.j0 k t310 t311 t314 true))) = some r := H
    have A4 := Aside0.mk A40
    clear A40
    have HC5 := Aside0.mk H
    clear H
    go_enter Try.func5, Try.ntmps5
    go_upto_region 5 with (first | ((with_reducible refine gate_callee (f := 23) rfl ?_); refine goesL_ (some 15) rfl rfl Try.func23 (by kernel_rfl) rfl #[.slice A0 l0.length c0] rfl (by (try simp only [List.map_toArray, List.map_cons, List.map_nil]); first | done | rfl | (simp only [List.length_drop, List.length_take]; rfl)) ?_; (with_reducible refine (spec_DrawClusterAt.calls k _ _ l0 t310 t311 _ ?side1 ?side2 A3.out).mono ?_); (case side1 => repeat (first | exact HR0.out | (with_reducible refine Kd.C_alloc ?_ _) | (with_reducible refine Kd.C_drewN ?_ _) | (with_reducible refine Kd.C_drew ?_))); (case side2 => exact HC0.out); rintro e w6 ⟨v312, rfl, ho0, hb⟩; refine ⟨_, rfl, ?_⟩; have n0_ := Aside0.mk (Kd.R_lower ho0 (below_size (by repeat (first | (with_reducible first | exact HB.out | apply below_alloc | apply pw_below_drewN | apply below_drew1) | exact HB.out)))); have n1_ := Aside0.mk (below_step (by repeat (first | (with_reducible first | exact HB.out | apply below_alloc | apply pw_below_drewN | apply below_drew1) | exact HB.out)) hb); clear HB; have HO313 := n0_; have HB := n1_; clear n0_ n1_; (try clear hb); (try clear hb2); (try clear hk); (try clear hi); (try clear ho0); obtain ⟨Ao7, co7, eo7⟩ := Kd.R_slice HO313.out; subst eo7) | ((with_reducible refine gate_callee (f := 24) rfl ?_); refine goesL_ (some 20) rfl rfl Try.func24 (by kernel_rfl) rfl #[.slice Ao7 t310.length co7, .int .i64 t311] rfl (by (try simp only [List.map_toArray, List.map_cons, List.map_nil]); first | done | rfl | (simp only [List.length_drop, List.length_take]; rfl)) ?_; (with_reducible refine (impl_ClusterAt.calls k _ _ t310 t311 t314 _ ?side1 ?side2 A4.out).mono ?_); (case side1 => repeat (first | exact (Kd.R_reads' HO313.out).2.2 | (with_reducible refine Kd.C_alloc ?_ _) | (with_reducible refine Kd.C_drewN ?_ _) | (with_reducible refine Kd.C_drew ?_))); (case side2 => exact (Kd.R_reads' HO313.out).2.1); rintro e w8 ⟨rfl, hb⟩; refine ⟨_, rfl, ?_⟩; have n0_ := Aside0.mk (Kd.R_below (by (with_reducible repeat (first | apply Kd.R_alloc | apply Kd.R_drewN | apply Kd.R_drew)); exact HO313.out) hb); have n1_ := Aside0.mk (below_step (by repeat (first | (with_reducible first | exact HB.out | apply below_alloc | apply pw_below_drewN | apply below_drew1) | exact HB.out)) hb); clear HO313; clear HB; have HO313 := n0_; have HB := n1_; clear n0_ n1_; (try clear hb); (try clear hb2); (try clear hk); (try clear hi)))
    (try simp only [Act.put, List.setIfInBounds_toArray, List.set_cons_zero, List.set_cons_succ])
    go_cut [38] (fun v38 wc => ∃ (kq : Nat) (x38_4 : Bool), v38 = .bool x38_4 ∧ Aside0 (laws_FnClusterCut.j0 kq t310 t311 t314 x38_4 = some r) ∧ Aside0 (kq ≤ k) ∧ Aside0 (Kd.R (Kd.int .i64) 3 wc w.heap.size (fun _ => True) (.slice Ao7 t310.length co7) t310) ∧ Aside0 (Below w.heap.size w wc))
    case first =>
      have H := HC5.out
      clear HC5
      replace H := Option.bind_eq_some_iff.mp H
      obtain ⟨t315, A90, H⟩ := H
      replace H : (if t314 = t315 then ((impl_ClusterWide.f k t310 t311).bind fun t316 => ((spec_ClusterWide.f k t310 t311).bind fun t317 => (if t316 = t317 then (laws_FnClusterCut.j0 k t310 t311 t314 (decide (t314 < 0))) else (laws_FnClusterCut.j0 k t310 t311 t314 true)))) else (laws_FnClusterCut.j0 k t310 t311 t314 true)) = some r := H
      have A9 := Aside0.mk A90
      clear A90
      by_cases c10 : t314 = t315
      · rw [if_pos c10] at H
        have c10b0 : (t314 == t315) = true := beq_iff_eq.mpr c10
        have c10b1 : (t314 != t315) = false := bne_eq_false_iff_eq.mpr c10
        clear c10
        (first | rw [c10b0] | (simp only [i64_w, i32_w]; rw [c10b0]) | skip)
        replace H := Option.bind_eq_some_iff.mp H
        obtain ⟨t316, A110, H⟩ := H
        replace H : ((spec_ClusterWide.f k t310 t311).bind fun t317 => (if t316 = t317 then (laws_FnClusterCut.j0 k t310 t311 t314 (decide (t314 < 0))) else (laws_FnClusterCut.j0 k t310 t311 t314 true))) = some r := H
        have A11 := Aside0.mk A110
        clear A110
        replace H := Option.bind_eq_some_iff.mp H
        obtain ⟨t317, A120, H⟩ := H
        replace H : (if t316 = t317 then (laws_FnClusterCut.j0 k t310 t311 t314 (decide (t314 < 0))) else (laws_FnClusterCut.j0 k t310 t311 t314 true)) = some r := H
        have A12 := Aside0.mk A120
        clear A120
        by_cases c13 : t316 = t317
        · rw [if_pos c13] at H
          have c13b0 : (t316 == t317) = true := beq_iff_eq.mpr c13
          have c13b1 : (t316 != t317) = false := bne_eq_false_iff_eq.mpr c13
          clear c13
          have H' := Aside0.mk H
          clear H
          go_wp2_with (first | ((with_reducible refine gate_callee (f := 25) rfl ?_); refine goesL_ (some 24) rfl rfl Try.func25 (by kernel_rfl) rfl #[.slice Ao7 t310.length co7, .int .i64 t311] rfl (by (try simp only [List.map_toArray, List.map_cons, List.map_nil]); first | done | rfl | (simp only [List.length_drop, List.length_take]; rfl)) ?_; (with_reducible refine (spec_ClusterAt.calls k _ _ t310 t311 t315 _ ?side1 ?side2 A9.out).mono ?_); (case side1 => repeat (first | exact (Kd.R_reads' HO313.out).2.2 | (with_reducible refine Kd.C_alloc ?_ _) | (with_reducible refine Kd.C_drewN ?_ _) | (with_reducible refine Kd.C_drew ?_))); (case side2 => exact (Kd.R_reads' HO313.out).2.1); rintro e w14 ⟨rfl, hb⟩; refine ⟨_, rfl, ?_⟩; have n0_ := Aside0.mk (Kd.R_below (by (with_reducible repeat (first | apply Kd.R_alloc | apply Kd.R_drewN | apply Kd.R_drew)); exact HO313.out) hb); have n1_ := Aside0.mk (below_step (by repeat (first | (with_reducible first | exact HB.out | apply below_alloc | apply pw_below_drewN | apply below_drew1) | exact HB.out)) hb); clear HO313; clear HB; have HO313 := n0_; have HB := n1_; clear n0_ n1_; (try clear hb); (try clear hb2); (try clear hk); (try clear hi)) | (go_at_call 26; (with_reducible refine (impl_ClusterWide.calls k _ _ t310 t311 t316 _ ?side1 ?side2 A11.out).mono ?_); (case side1 => repeat (first | exact (Kd.R_reads' HO313.out).2.2 | (with_reducible refine Kd.C_alloc ?_ _) | (with_reducible refine Kd.C_drewN ?_ _) | (with_reducible refine Kd.C_drew ?_))); (case side2 => exact (Kd.R_reads' HO313.out).2.1); rintro e w15 ⟨rfl, hb⟩; have n0_ := Aside0.mk (Kd.R_below (by (with_reducible repeat (first | apply Kd.R_alloc | apply Kd.R_drewN | apply Kd.R_drew)); exact HO313.out) hb); have n1_ := Aside0.mk (below_step (by repeat (first | (with_reducible first | exact HB.out | apply below_alloc | apply pw_below_drewN | apply below_drew1) | exact HB.out)) hb); clear HO313; clear HB; have HO313 := n0_; have HB := n1_; clear n0_ n1_; (try clear hb); (try clear hb2); (try clear hk); (try clear hi)) | (go_at_call 27; (with_reducible refine (spec_ClusterWide.calls k _ _ t310 t311 t317 _ ?side1 ?side2 A12.out).mono ?_); (case side1 => repeat (first | exact (Kd.R_reads' HO313.out).2.2 | (with_reducible refine Kd.C_alloc ?_ _) | (with_reducible refine Kd.C_drewN ?_ _) | (with_reducible refine Kd.C_drew ?_))); (case side2 => exact (Kd.R_reads' HO313.out).2.1); rintro e w16 ⟨rfl, hb⟩; have n0_ := Aside0.mk (Kd.R_below (by (with_reducible repeat (first | apply Kd.R_alloc | apply Kd.R_drewN | apply Kd.R_drew)); exact HO313.out) hb); have n1_ := Aside0.mk (below_step (by repeat (first | (with_reducible first | exact HB.out | apply below_alloc | apply pw_below_drewN | apply below_drew1) | exact HB.out)) hb); clear HO313; clear HB; have HO313 := n0_; have HB := n1_; clear n0_ n1_; (try clear hb); (try clear hb2); (try clear hk); (try clear hi)))
          go_meet
          case rel => exact ⟨_, (decide (t314 < 0)), (by first | rfl | (simp; done) | (simp [*]; done)), H', ⟨by first | omega | exact Nat.le_refl _⟩, ⟨by (with_reducible repeat (first | apply Kd.R_alloc | apply Kd.R_drewN | apply Kd.R_drew)); exact HO313.out⟩, ⟨by repeat (first | (with_reducible first | exact HB.out | apply below_alloc | apply pw_below_drewN | apply below_drew1) | exact HB.out)⟩⟩
        · rw [if_neg c13] at H
          have c13b0 : (t316 == t317) = false := beq_eq_false_iff_ne.mpr c13
          have c13b1 : (t316 != t317) = true := bne_iff_ne.mpr c13
          have H' := Aside0.mk H
          clear H
          go_wp2_with (first | ((with_reducible refine gate_callee (f := 25) rfl ?_); refine goesL_ (some 24) rfl rfl Try.func25 (by kernel_rfl) rfl #[.slice Ao7 t310.length co7, .int .i64 t311] rfl (by (try simp only [List.map_toArray, List.map_cons, List.map_nil]); first | done | rfl | (simp only [List.length_drop, List.length_take]; rfl)) ?_; (with_reducible refine (spec_ClusterAt.calls k _ _ t310 t311 t315 _ ?side1 ?side2 A9.out).mono ?_); (case side1 => repeat (first | exact (Kd.R_reads' HO313.out).2.2 | (with_reducible refine Kd.C_alloc ?_ _) | (with_reducible refine Kd.C_drewN ?_ _) | (with_reducible refine Kd.C_drew ?_))); (case side2 => exact (Kd.R_reads' HO313.out).2.1); rintro e w17 ⟨rfl, hb⟩; refine ⟨_, rfl, ?_⟩; have n0_ := Aside0.mk (Kd.R_below (by (with_reducible repeat (first | apply Kd.R_alloc | apply Kd.R_drewN | apply Kd.R_drew)); exact HO313.out) hb); have n1_ := Aside0.mk (below_step (by repeat (first | (with_reducible first | exact HB.out | apply below_alloc | apply pw_below_drewN | apply below_drew1) | exact HB.out)) hb); clear HO313; clear HB; have HO313 := n0_; have HB := n1_; clear n0_ n1_; (try clear hb); (try clear hb2); (try clear hk); (try clear hi)) | (go_at_call 26; (with_reducible refine (impl_ClusterWide.calls k _ _ t310 t311 t316 _ ?side1 ?side2 A11.out).mono ?_); (case side1 => repeat (first | exact (Kd.R_reads' HO313.out).2.2 | (with_reducible refine Kd.C_alloc ?_ _) | (with_reducible refine Kd.C_drewN ?_ _) | (with_reducible refine Kd.C_drew ?_))); (case side2 => exact (Kd.R_reads' HO313.out).2.1); rintro e w18 ⟨rfl, hb⟩; have n0_ := Aside0.mk (Kd.R_below (by (with_reducible repeat (first | apply Kd.R_alloc | apply Kd.R_drewN | apply Kd.R_drew)); exact HO313.out) hb); have n1_ := Aside0.mk (below_step (by repeat (first | (with_reducible first | exact HB.out | apply below_alloc | apply pw_below_drewN | apply below_drew1) | exact HB.out)) hb); clear HO313; clear HB; have HO313 := n0_; have HB := n1_; clear n0_ n1_; (try clear hb); (try clear hb2); (try clear hk); (try clear hi)) | (go_at_call 27; (with_reducible refine (spec_ClusterWide.calls k _ _ t310 t311 t317 _ ?side1 ?side2 A12.out).mono ?_); (case side1 => repeat (first | exact (Kd.R_reads' HO313.out).2.2 | (with_reducible refine Kd.C_alloc ?_ _) | (with_reducible refine Kd.C_drewN ?_ _) | (with_reducible refine Kd.C_drew ?_))); (case side2 => exact (Kd.R_reads' HO313.out).2.1); rintro e w19 ⟨rfl, hb⟩; have n0_ := Aside0.mk (Kd.R_below (by (with_reducible repeat (first | apply Kd.R_alloc | apply Kd.R_drewN | apply Kd.R_drew)); exact HO313.out) hb); have n1_ := Aside0.mk (below_step (by repeat (first | (with_reducible first | exact HB.out | apply below_alloc | apply pw_below_drewN | apply below_drew1) | exact HB.out)) hb); clear HO313; clear HB; have HO313 := n0_; have HB := n1_; clear n0_ n1_; (try clear hb); (try clear hb2); (try clear hk); (try clear hi)))
          go_meet
          case rel => exact ⟨_, (true), (by first | rfl | (simp; done) | (simp [*]; done)), H', ⟨by first | omega | exact Nat.le_refl _⟩, ⟨by (with_reducible repeat (first | apply Kd.R_alloc | apply Kd.R_drewN | apply Kd.R_drew)); exact HO313.out⟩, ⟨by repeat (first | (with_reducible first | exact HB.out | apply below_alloc | apply pw_below_drewN | apply below_drew1) | exact HB.out)⟩⟩
      · rw [if_neg c10] at H
        have c10b0 : (t314 == t315) = false := beq_eq_false_iff_ne.mpr c10
        have c10b1 : (t314 != t315) = true := bne_iff_ne.mpr c10
        (first | rw [c10b0] | (simp only [i64_w, i32_w]; rw [c10b0]) | skip)
        have H' := Aside0.mk H
        clear H
        go_wp2_with (first | ((with_reducible refine gate_callee (f := 25) rfl ?_); refine goesL_ (some 24) rfl rfl Try.func25 (by kernel_rfl) rfl #[.slice Ao7 t310.length co7, .int .i64 t311] rfl (by (try simp only [List.map_toArray, List.map_cons, List.map_nil]); first | done | rfl | (simp only [List.length_drop, List.length_take]; rfl)) ?_; (with_reducible refine (spec_ClusterAt.calls k _ _ t310 t311 t315 _ ?side1 ?side2 A9.out).mono ?_); (case side1 => repeat (first | exact (Kd.R_reads' HO313.out).2.2 | (with_reducible refine Kd.C_alloc ?_ _) | (with_reducible refine Kd.C_drewN ?_ _) | (with_reducible refine Kd.C_drew ?_))); (case side2 => exact (Kd.R_reads' HO313.out).2.1); rintro e w20 ⟨rfl, hb⟩; refine ⟨_, rfl, ?_⟩; have n0_ := Aside0.mk (Kd.R_below (by (with_reducible repeat (first | apply Kd.R_alloc | apply Kd.R_drewN | apply Kd.R_drew)); exact HO313.out) hb); have n1_ := Aside0.mk (below_step (by repeat (first | (with_reducible first | exact HB.out | apply below_alloc | apply pw_below_drewN | apply below_drew1) | exact HB.out)) hb); clear HO313; clear HB; have HO313 := n0_; have HB := n1_; clear n0_ n1_; (try clear hb); (try clear hb2); (try clear hk); (try clear hi)))
        go_meet
        case rel => exact ⟨_, (true), (by first | rfl | (simp; done) | (simp [*]; done)), H', ⟨by first | omega | exact Nat.le_refl _⟩, ⟨by (with_reducible repeat (first | apply Kd.R_alloc | apply Kd.R_drewN | apply Kd.R_drew)); exact HO313.out⟩, ⟨by repeat (first | (with_reducible first | exact HB.out | apply below_alloc | apply pw_below_drewN | apply below_drew1) | exact HB.out)⟩⟩
    case rest =>
      clear HC5
      try clear c1
      try clear c2
      try clear c2b0
      try clear c2b1
      try clear p2
      try clear c5
      try clear c10
      try clear c10b0
      try clear c10b1
      try clear c13
      try clear c13b0
      try clear c13b1
      obtain ⟨kq, x38_4, rfl, HA, HJ4, HO_3, HB⟩ := hcut
      cases kq with
      | zero => exact absurd HA.out (by simp [laws_FnClusterCut.j0])
      | succ kj4 =>
        have H := HA.out
        clear HA
        simp only [laws_FnClusterCut.j0] at H
        by_cases c21 : x38_4 = true
        · subst c21
          have H1 : ((spec_ClusterAt.f kj4 t310 t311).bind fun t318 => (some (t314 == t318))) = some r := by rw [if_pos rfl] at H; exact H
          clear H
          have H := H1
          clear H1
          replace H := Option.bind_eq_some_iff.mp H
          obtain ⟨t318, A220, H⟩ := H
          replace H : (some (t314 == t318)) = some r := H
          have A22 := Aside0.mk A220
          clear A220
          obtain rfl := Option.some.inj H
          go_wp2_with (first | ((with_reducible refine gate_callee (f := 25) rfl ?_); refine goesL_ (some 42) rfl rfl Try.func25 (by kernel_rfl) rfl #[.slice Ao7 t310.length co7, .int .i64 t311] rfl (by (try simp only [List.map_toArray, List.map_cons, List.map_nil]); first | done | rfl | (simp only [List.length_drop, List.length_take]; rfl)) ?_; (with_reducible refine (spec_ClusterAt.calls kj4 _ _ t310 t311 t318 _ ?side1 ?side2 A22.out).mono ?_); (case side1 => repeat (first | exact (Kd.R_reads' HO_3.out).2.2 | (with_reducible refine Kd.C_alloc ?_ _) | (with_reducible refine Kd.C_drewN ?_ _) | (with_reducible refine Kd.C_drew ?_))); (case side2 => exact (Kd.R_reads' HO_3.out).2.1); rintro e w23 ⟨rfl, hb⟩; refine ⟨_, rfl, ?_⟩; have n0_ := Aside0.mk (Kd.R_below (by (with_reducible repeat (first | apply Kd.R_alloc | apply Kd.R_drewN | apply Kd.R_drew)); exact HO_3.out) hb); have n1_ := Aside0.mk (below_step (by repeat (first | (with_reducible first | exact HB.out | apply below_alloc | apply pw_below_drewN | apply below_drew1) | exact HB.out)) hb); clear HO_3; clear HB; have HO_3 := n0_; have HB := n1_; clear n0_ n1_; (try clear hb); (try clear hb2); (try clear hk); (try clear hi)))
          go_ret
          exact ⟨by first | rfl | (simp [errW_none, errW_some] <;> rfl) | (simp [*, errW_none, errW_some] <;> rfl), by repeat (first | (with_reducible first | exact HB.out | apply below_alloc | apply pw_below_drewN | apply below_drew1) | exact HB.out)⟩
        · replace c21 := Bool.eq_false_iff.mpr c21
          subst c21
          have H1 : ((impl_ClusterStarts.f kj4 t310).bind fun t319 => (if 0 ≤ t314 then (if t314 ≤ (t310.length : Int) then ((impl_ClusterStarts.f kj4 (t310.take (t314 : Int).toNat)).bind fun t326 => (laws_FnClusterCut.l0 kj4 t310 t314 t319 t326 0 0)) else (none)) else (none))) = some r := by rw [if_neg (show ¬ (false = true) by decide)] at H; exact H
          clear H
          have H := H1
          clear H1
          replace H := Option.bind_eq_some_iff.mp H
          obtain ⟨t319, A240, H⟩ := H
          replace H : (if 0 ≤ t314 then (if t314 ≤ (t310.length : Int) then ((impl_ClusterStarts.f kj4 (t310.take (t314 : Int).toNat)).bind fun t326 => (laws_FnClusterCut.l0 kj4 t310 t314 t319 t326 0 0)) else (none)) else (none)) = some r := H
          have A24 := Aside0.mk A240
          clear A240
          by_cases c25 : 0 ≤ t314
          · rw [if_pos c25] at H
            have c25b0 := eq_true c25
            have c25b1 : decide (0 ≤ t314) = true := decide_eq_true c25
            clear c25
            by_cases c26 : t314 ≤ (t310.length : Int)
            · rw [if_pos c26] at H
              have c26b0 := eq_true c26
              have c26b1 : decide (t314 ≤ (t310.length : Int)) = true := decide_eq_true c26
              clear c26
              obtain ⟨y322, hy322⟩ : ∃ y_ : List Int, y_ = (t310.take (t314 : Int).toNat) := ⟨_, rfl⟩
              replace H : ((impl_ClusterStarts.f kj4 y322).bind fun t326 => (laws_FnClusterCut.l0 kj4 t310 t314 t319 t326 0 0)) = some r := by first | (rw [hy322]; with_reducible exact H) | (have H2_ := (Option.bind_some _ _).symm.trans H; rw [hy322]; with_reducible exact H2_) | (have H2_ := (Option.bind_some _ _).symm.trans H; with_reducible exact H2_) | with_reducible exact H | (rw [hy322]; exact H) | exact H
              have Ny322 := Aside0.mk hy322
              clear hy322
              replace H := Option.bind_eq_some_iff.mp H
              obtain ⟨t326, A270, H⟩ := H
              replace H : (laws_FnClusterCut.l0 kj4 t310 t314 t319 t326 0 0) = some r := H
              have A27 := Aside0.mk A270
              clear A270
              have H' := Aside0.mk H
              clear H
              go_wp2_with (first | ((with_reducible refine gate_callee (f := 28) rfl ?_); refine goesL_ (some 45) rfl rfl Try.func28 (by kernel_rfl) rfl #[.slice Ao7 t310.length co7] rfl (by (try simp only [List.map_toArray, List.map_cons, List.map_nil]); first | done | rfl | (simp only [List.length_drop, List.length_take]; rfl)) ?_; (with_reducible refine (impl_ClusterStarts.calls kj4 _ _ t310 t319 _ ?side1 ?side2 A24.out).mono ?_); (case side1 => repeat (first | exact (Kd.R_reads' HO_3.out).2.2 | (with_reducible refine Kd.C_alloc ?_ _) | (with_reducible refine Kd.C_drewN ?_ _) | (with_reducible refine Kd.C_drew ?_))); (case side2 => exact (Kd.R_reads' HO_3.out).2.1); rintro e w28 ⟨v320, rfl, ho0, hb⟩; refine ⟨_, rfl, ?_⟩; have n0_ := Aside0.mk (Kd.R_elder' (by (with_reducible repeat (first | apply Kd.R_alloc | apply Kd.R_drewN | apply Kd.R_drew)); exact HO_3.out) (Kd.R_base ho0) hb); have n1_ := Aside0.mk (Kd.R_lower (Kd.R_new' ho0 (Kd.R_lt (by (with_reducible repeat (first | apply Kd.R_alloc | apply Kd.R_drewN | apply Kd.R_drew)); exact HO_3.out))) (below_size (by repeat (first | (with_reducible first | exact HB.out | apply below_alloc | apply pw_below_drewN | apply below_drew1) | exact HB.out)))); have n2_ := Aside0.mk (below_step (by repeat (first | (with_reducible first | exact HB.out | apply below_alloc | apply pw_below_drewN | apply below_drew1) | exact HB.out)) hb); clear HO_3; clear HB; have HO_3 := n0_; have HO321 := n1_; have HB := n2_; clear n0_ n1_ n2_; (try clear hb); (try clear hb2); (try clear hk); (try clear hi); (try clear ho0); have q29 : (t314 : Int) ≤ ((t310.length : Int) : Int) := of_decide_eq_true (by first | (with_reducible assumption) | assumption); obtain ⟨i029, hi029, _, hsz29, _⟩ := info_parts info3; have hroom29 : t310.length ≤ co7 := (Kd.R_reads' HO_3.out).2.1; have hC29 : Kd.C (Kd.int .i64) _ Ao7 t310.length t310 := (Kd.R_reads' HO_3.out).2.2; have hcut29 := cut_to (P := Try.prog) 22 3 .i64 Try.underlying22 hi029 Ao7 t310.length co7 t314 (of_decide_eq_true (by first | (with_reducible assumption) | assumption)) q29 hroom29; have hr29 := Kd.C_take (m := (t314 : Int).toNat) hC29 (by omega); have hy29 : y322.length = (t314 : Int).toNat := (by rw [Ny322.out, List.length_take]; omega); rw [← Ny322.out] at hr29; rw [← hy29] at hcut29; have HR325 := Aside0.mk hr29; have HC325 := Aside0.mk (show y322.length ≤ co7 from by omega); clear hr29 hC29 hroom29 hi029 hsz29; have KY29 := Aside0.mk hy29; clear hy29; have KL29 := Aside0.mk (show (t314 : Int).toNat ≤ t310.length from by omega); replace q29 := eq_true q29) | ((with_reducible refine gate_callee (f := 28) rfl ?_); refine goesL_ (some 49) rfl rfl Try.func28 (by kernel_rfl) rfl #[.slice Ao7 y322.length co7] rfl (by (try simp only [List.map_toArray, List.map_cons, List.map_nil]); first | done | rfl | (simp only [List.length_drop, List.length_take]; rfl)) ?_; (with_reducible refine (impl_ClusterStarts.calls kj4 _ _ y322 t326 _ ?side1 ?side2 A27.out).mono ?_); (case side1 => repeat (first | exact (by repeat (first | (with_reducible exact HR325.out) | (with_reducible refine Kd.C_alloc ?_ _) | (with_reducible refine Kd.C_drewN ?_ _) | (with_reducible refine Kd.C_drew ?_) | exact HR325.out)) | (with_reducible refine Kd.C_alloc ?_ _) | (with_reducible refine Kd.C_drewN ?_ _) | (with_reducible refine Kd.C_drew ?_))); (case side2 => exact HC325.out); rintro e w30 ⟨v327, rfl, ho0, hb⟩; refine ⟨_, rfl, ?_⟩; have n0_ := Aside0.mk (Kd.R_elder' (by (with_reducible repeat (first | apply Kd.R_alloc | apply Kd.R_drewN | apply Kd.R_drew)); exact HO_3.out) (Kd.R_base ho0) hb); have n1_ := Aside0.mk (Kd.R_elder' (by (with_reducible repeat (first | apply Kd.R_alloc | apply Kd.R_drewN | apply Kd.R_drew)); exact HO321.out) (Kd.R_base ho0) hb); have n2_ := Aside0.mk (Kd.R_lower (Kd.R_new' (Kd.R_new' ho0 (Kd.R_lt (by (with_reducible repeat (first | apply Kd.R_alloc | apply Kd.R_drewN | apply Kd.R_drew)); exact HO_3.out))) (Kd.R_lt (by (with_reducible repeat (first | apply Kd.R_alloc | apply Kd.R_drewN | apply Kd.R_drew)); exact HO321.out))) (below_size (by repeat (first | (with_reducible first | exact HB.out | apply below_alloc | apply pw_below_drewN | apply below_drew1) | exact HB.out)))); have n3_ := Aside0.mk (Kd.C_below (by repeat (first | (with_reducible exact HR325.out) | (with_reducible refine Kd.C_alloc ?_ _) | (with_reducible refine Kd.C_drewN ?_ _) | (with_reducible refine Kd.C_drew ?_) | exact HR325.out)) hb); have n4_ := Aside0.mk (below_step (by repeat (first | (with_reducible first | exact HB.out | apply below_alloc | apply pw_below_drewN | apply below_drew1) | exact HB.out)) hb); clear HO_3; clear HO321; clear HR325; clear HB; have HO_3 := n0_; have HO321 := n1_; have HO328 := n2_; have HR325 := n3_; have HB := n4_; clear n0_ n1_ n2_ n3_ n4_; (try clear hb); (try clear hb2); (try clear hk); (try clear hi); (try clear ho0)))
              go_loopg [8, 9] kj4 (fun kq v8 v9 w' => ∃ (x8_2 : Int) (x9_2 : Int), v8 = .int .i64 x8_2 ∧ v9 = .int .i64 x9_2 ∧ Aside0 (laws_FnClusterCut.l0 kq t310 t314 t319 t326 x8_2 x9_2 = some r) ∧ Aside0 (kq ≤ kj4) ∧ Aside0 (Kd.R (Kd.int .i64) 3 w' w.heap.size (fun k_ => some k_ ≠ (v320 : Value).ownBlock ∧ some k_ ≠ (v327 : Value).ownBlock) (.slice Ao7 t310.length co7) t310) ∧ Aside0 (Kd.R (Kd.int .i64) 3 w' w.heap.size (fun k_ => some k_ ≠ ((.slice Ao7 t310.length co7) : Value).ownBlock ∧ some k_ ≠ (v327 : Value).ownBlock) v320 t319) ∧ Aside0 (Kd.R (Kd.int .i64) 3 w' w.heap.size (fun k_ => some k_ ≠ ((.slice Ao7 t310.length co7) : Value).ownBlock ∧ some k_ ≠ (v320 : Value).ownBlock) v327 t326) ∧ Aside0 (Kd.C (Kd.int .i64) w' Ao7 y322.length y322) ∧ Aside0 (Below w.heap.size w w'))
              case atStart => exact ⟨(0), (0), (by first | rfl | (simp; done) | (simp [*]; done)), (by first | rfl | (simp; done) | (simp [*]; done)), H', ⟨Nat.le_refl _⟩, ⟨by (with_reducible repeat (first | apply Kd.R_alloc | apply Kd.R_drewN | apply Kd.R_drew)); exact Kd.R_mono HO_3.out (fun _ hk => ⟨hk.1.2, hk.2⟩)⟩, ⟨by (with_reducible repeat (first | apply Kd.R_alloc | apply Kd.R_drewN | apply Kd.R_drew)); exact Kd.R_mono HO321.out (fun _ hk => ⟨hk.1.2, hk.2⟩)⟩, ⟨by (with_reducible repeat (first | apply Kd.R_alloc | apply Kd.R_drewN | apply Kd.R_drew)); exact Kd.R_mono HO328.out (fun _ hk => ⟨hk.1.2, hk.2⟩)⟩, ⟨by repeat (first | (with_reducible exact HR325.out) | (with_reducible refine Kd.C_alloc ?_ _) | (with_reducible refine Kd.C_drewN ?_ _) | (with_reducible refine Kd.C_drew ?_) | exact HR325.out)⟩, ⟨by repeat (first | (with_reducible first | exact HB.out | apply below_alloc | apply pw_below_drewN | apply below_drew1) | exact HB.out)⟩⟩
              case round =>
                clear H'
                try clear c1
                try clear c2
                try clear c2b0
                try clear c2b1
                try clear p2
                try clear q2
                try clear c5
                try clear c10
                try clear c10b0
                try clear c10b1
                try clear c13
                try clear c13b0
                try clear c13b1
                try clear c21
                try clear c23
                try clear c24
                try clear c25
                try clear c25b0
                try clear c25b1
                try clear c26
                try clear c26b0
                try clear c26b1
                try clear c28
                try clear q29
                try clear p2
                try clear q29
                obtain ⟨x8_2, x9_2, rfl, rfl, HA, HK2, HO_3, HO_6, HO_7, HR325, HB⟩ := hrel
                cases gk with
                | zero => exact absurd HA.out (by simp [laws_FnClusterCut.l0])
                | succ k2 =>
                  have H := HA.out
                  clear HA
                  simp only [laws_FnClusterCut.l0] at H
                  by_cases c31 : x9_2 < (t319.length : Int)
                  · rw [if_pos c31] at H
                    have c31b0 : decide (x9_2 < (t319.length : Int)) = true := decide_eq_true c31
                    clear c31
                    by_cases c32 : 0 ≤ x9_2
                    · rw [if_pos c32] at H
                      have c32b0 : decide (0 ≤ x9_2) = true := decide_eq_true c32
                      clear c32
                      by_cases c33 : (rd t319 x9_2) < t314
                      · rw [if_pos c33] at H
                        have c33b0 : decide ((rd t319 x9_2) < t314) = true := decide_eq_true c33
                        clear c33
                        have H' := Aside0.mk H
                        clear H
                        obtain ⟨Ao34, co34, eo34⟩ := Kd.R_slice HO_6.out
                        subst eo34
                        have p329 : 0 ≤ (x9_2 : Int) := of_decide_eq_true (by first | (with_reducible assumption) | assumption)
                        have q329 : x9_2 < (t319.length : Int) := of_decide_eq_true (by first | (with_reducible assumption) | assumption)
                        obtain ⟨ad329, e329, hx329_0⟩ := Kd.at_int (Kd.R_reads' HO_6.out).2.2 x9_2 p329 q329
                        cases e329
                        replace p329 := eq_true p329
                        replace q329 := eq_true q329
                        go_wp2
                        go_roundg k2
                        case measure => have := HJ4.out; have := HK2.out; omega
                        case rel => exact ⟨(wrap64 (x8_2 + 1)), (wrap64 (x9_2 + 1)), (by first | rfl | (simp; done) | (simp [*]; done)), (by first | rfl | (simp; done) | (simp [*]; done)), H', ⟨by have := HJ4.out; have := HK2.out; omega⟩, ⟨by (with_reducible repeat (first | apply Kd.R_alloc | apply Kd.R_drewN | apply Kd.R_drew)); exact HO_3.out⟩, ⟨by (with_reducible repeat (first | apply Kd.R_alloc | apply Kd.R_drewN | apply Kd.R_drew)); exact HO_6.out⟩, ⟨by (with_reducible repeat (first | apply Kd.R_alloc | apply Kd.R_drewN | apply Kd.R_drew)); exact HO_7.out⟩, ⟨by repeat (first | (with_reducible exact HR325.out) | (with_reducible refine Kd.C_alloc ?_ _) | (with_reducible refine Kd.C_drewN ?_ _) | (with_reducible refine Kd.C_drew ?_) | exact HR325.out)⟩, ⟨by repeat (first | (with_reducible first | exact HB.out | apply below_alloc | apply pw_below_drewN | apply below_drew1) | exact HB.out)⟩⟩
                      · rw [if_neg c33] at H
                        have c33b0 : decide ((rd t319 x9_2) < t314) = false := decide_eq_false c33
                        clear c33
                        by_cases c35 : 0 ≤ x8_2
                        · rw [if_pos c35] at H
                          have c35b0 := eq_true c35
                          have c35b1 : decide (0 ≤ x8_2) = true := decide_eq_true c35
                          clear c35
                          by_cases c36 : x8_2 ≤ (t319.length : Int)
                          · rw [if_pos c36] at H
                            have c36b0 := eq_true c36
                            have c36b1 : decide (x8_2 ≤ (t319.length : Int)) = true := decide_eq_true c36
                            clear c36
                            obtain ⟨y330, hy330⟩ : ∃ y_ : List Int, y_ = (t319.take (x8_2 : Int).toNat) := ⟨_, rfl⟩
                            replace H : ((laws_wcInts.f k2 t326 y330).bind fun t334 => (if t334 = true then (if x8_2 = (t319.length : Int) then ((impl_ClusterAt.f k2 t310 t314).bind fun t335 => (some (t335 == t314))) else (if x8_2 < (t319.length : Int) then (if (rd t319 x8_2) = t314 then ((impl_ClusterAt.f k2 t310 t314).bind fun t337 => (some (t337 == t314))) else (some false)) else (none))) else (some false))) = some r := by first | (rw [hy330]; with_reducible exact H) | (have H2_ := (Option.bind_some _ _).symm.trans H; rw [hy330]; with_reducible exact H2_) | (have H2_ := (Option.bind_some _ _).symm.trans H; with_reducible exact H2_) | with_reducible exact H | (rw [hy330]; exact H) | exact H
                            have Ny330 := Aside0.mk hy330
                            clear hy330
                            replace H := Option.bind_eq_some_iff.mp H
                            obtain ⟨t334, A370, H⟩ := H
                            replace H : (if t334 = true then (if x8_2 = (t319.length : Int) then ((impl_ClusterAt.f k2 t310 t314).bind fun t335 => (some (t335 == t314))) else (if x8_2 < (t319.length : Int) then (if (rd t319 x8_2) = t314 then ((impl_ClusterAt.f k2 t310 t314).bind fun t337 => (some (t337 == t314))) else (some false)) else (none))) else (some false)) = some r := H
                            have A37 := Aside0.mk A370
                            clear A370
                            by_cases c38 : t334 = true
                            · subst c38
                              have H1 : (if x8_2 = (t319.length : Int) then ((impl_ClusterAt.f k2 t310 t314).bind fun t335 => (some (t335 == t314))) else (if x8_2 < (t319.length : Int) then (if (rd t319 x8_2) = t314 then ((impl_ClusterAt.f k2 t310 t314).bind fun t337 => (some (t337 == t314))) else (some false)) else (none))) = some r := by rw [if_pos rfl] at H; exact H
                              clear H
                              have H := H1
                              clear H1
                              by_cases c39 : x8_2 = (t319.length : Int)
                              · rw [if_pos c39] at H
                                have c39b0 : (x8_2 == (t319.length : Int)) = true := beq_iff_eq.mpr c39
                                have c39b1 : (x8_2 != (t319.length : Int)) = false := bne_eq_false_iff_eq.mpr c39
                                clear c39
                                replace H := Option.bind_eq_some_iff.mp H
                                obtain ⟨t335, A400, H⟩ := H
                                replace H : (some (t335 == t314)) = some r := H
                                have A40 := Aside0.mk A400
                                clear A400
                                obtain rfl := Option.some.inj H
                                obtain ⟨Ao41, co41, eo41⟩ := Kd.R_slice HO_6.out
                                subst eo41
                                have p329 : 0 ≤ (x9_2 : Int) := of_decide_eq_true (by first | (with_reducible assumption) | assumption)
                                have q329 : x9_2 < (t319.length : Int) := of_decide_eq_true (by first | (with_reducible assumption) | assumption)
                                obtain ⟨ad329, e329, hx329_0⟩ := Kd.at_int (Kd.R_reads' HO_6.out).2.2 x9_2 p329 q329
                                cases e329
                                replace p329 := eq_true p329
                                replace q329 := eq_true q329
                                have q42 : (x8_2 : Int) ≤ ((t319.length : Int) : Int) := of_decide_eq_true (by first | (with_reducible assumption) | assumption)
                                obtain ⟨i042, hi042, _, hsz42, _⟩ := info_parts info3
                                have hroom42 : t319.length ≤ co41 := (Kd.R_reads' HO_6.out).2.1
                                have hC42 : Kd.C (Kd.int .i64) _ (some ad329) t319.length t319 := (Kd.R_reads' HO_6.out).2.2
                                have hcut42 := cut_to (P := Try.prog) 22 3 .i64 Try.underlying22 hi042 (some ad329) t319.length co41 x8_2 (of_decide_eq_true (by first | (with_reducible assumption) | assumption)) q42 hroom42
                                have hr42 := Kd.C_take (m := (x8_2 : Int).toNat) hC42 (by omega)
                                have hy42 : y330.length = (x8_2 : Int).toNat := (by rw [Ny330.out, List.length_take]; omega)
                                rw [← Ny330.out] at hr42
                                rw [← hy42] at hcut42
                                have HR333 := Aside0.mk hr42
                                have HC333 := Aside0.mk (show y330.length ≤ co41 from by omega)
                                clear hr42 hC42 hroom42 hi042 hsz42
                                have KY42 := Aside0.mk hy42
                                clear hy42
                                have KL42 := Aside0.mk (show (x8_2 : Int).toNat ≤ t319.length from by omega)
                                replace q42 := eq_true q42
                                obtain ⟨Ao43, co43, eo43⟩ := Kd.R_slice HO_7.out
                                subst eo43
                                go_wp2_with (first | ((with_reducible refine gate_callee (f := 29) rfl ?_); refine goesL_ (some 70) rfl rfl Try.func29 (by kernel_rfl) rfl #[.slice Ao43 t326.length co43, .slice (some ad329) y330.length co41] rfl (by (try simp only [List.map_toArray, List.map_cons, List.map_nil]); first | done | rfl | (simp only [List.length_drop, List.length_take]; rfl)) ?_; (with_reducible refine (laws_wcInts.calls k2 _ _ t326 _ _ y330 true _ ?side1 ?side2 ?side3 ?side4 A37.out).mono ?_); (case side1 => repeat (first | exact (Kd.R_reads' HO_7.out).2.2 | (with_reducible refine Kd.C_alloc ?_ _) | (with_reducible refine Kd.C_drewN ?_ _) | (with_reducible refine Kd.C_drew ?_))); (case side2 => exact (Kd.R_reads' HO_7.out).2.1); (case side3 => repeat (first | exact (by repeat (first | (with_reducible exact HR333.out) | (with_reducible refine Kd.C_alloc ?_ _) | (with_reducible refine Kd.C_drewN ?_ _) | (with_reducible refine Kd.C_drew ?_) | exact HR333.out)) | (with_reducible refine Kd.C_alloc ?_ _) | (with_reducible refine Kd.C_drewN ?_ _) | (with_reducible refine Kd.C_drew ?_))); (case side4 => exact HC333.out); rintro e w' ⟨rfl, ⟨nd, rfl⟩⟩; refine ⟨_, rfl, ?_⟩) | (go_at_call 24; (with_reducible refine (impl_ClusterAt.calls k2 _ _ t310 t314 t335 _ ?side1 ?side2 A40.out).mono ?_); (case side1 => repeat (first | exact (Kd.R_reads' HO_3.out).2.2 | (with_reducible refine Kd.C_alloc ?_ _) | (with_reducible refine Kd.C_drewN ?_ _) | (with_reducible refine Kd.C_drew ?_))); (case side2 => exact (Kd.R_reads' HO_3.out).2.1); rintro e w44 ⟨rfl, hb⟩; have n0_ := Aside0.mk (Kd.R_below (by (with_reducible repeat (first | apply Kd.R_alloc | apply Kd.R_drewN | apply Kd.R_drew)); exact HO_3.out) hb); have n1_ := Aside0.mk (Kd.R_below (by (with_reducible repeat (first | apply Kd.R_alloc | apply Kd.R_drewN | apply Kd.R_drew)); exact HO_6.out) hb); have n2_ := Aside0.mk (Kd.R_below (by (with_reducible repeat (first | apply Kd.R_alloc | apply Kd.R_drewN | apply Kd.R_drew)); exact HO_7.out) hb); have n3_ := Aside0.mk (Kd.C_below (by repeat (first | (with_reducible exact HR325.out) | (with_reducible refine Kd.C_alloc ?_ _) | (with_reducible refine Kd.C_drewN ?_ _) | (with_reducible refine Kd.C_drew ?_) | exact HR325.out)) hb); have n4_ := Aside0.mk (Kd.C_below (by repeat (first | (with_reducible exact HR333.out) | (with_reducible refine Kd.C_alloc ?_ _) | (with_reducible refine Kd.C_drewN ?_ _) | (with_reducible refine Kd.C_drew ?_) | exact HR333.out)) hb); have n5_ := Aside0.mk (below_step (by repeat (first | (with_reducible first | exact HB.out | apply below_alloc | apply pw_below_drewN | apply below_drew1) | exact HB.out)) hb); clear HO_3; clear HO_6; clear HO_7; clear HR325; clear HR333; clear HB; have HO_3 := n0_; have HO_6 := n1_; have HO_7 := n2_; have HR325 := n3_; have HR333 := n4_; have HB := n5_; clear n0_ n1_ n2_ n3_ n4_ n5_; (try clear hb); (try clear hb2); (try clear hk); (try clear hi)))
                                go_ret
                                exact ⟨by first | rfl | (simp [errW_none, errW_some] <;> rfl) | (simp [*, errW_none, errW_some] <;> rfl), by repeat (first | (with_reducible first | exact HB.out | apply below_alloc | apply pw_below_drewN | apply below_drew1) | exact HB.out)⟩
                              · rw [if_neg c39] at H
                                have c39b0 : (x8_2 == (t319.length : Int)) = false := beq_eq_false_iff_ne.mpr c39
                                have c39b1 : (x8_2 != (t319.length : Int)) = true := bne_iff_ne.mpr c39
                                by_cases c45 : x8_2 < (t319.length : Int)
                                · rw [if_pos c45] at H
                                  have c45b0 : decide (x8_2 < (t319.length : Int)) = true := decide_eq_true c45
                                  clear c45
                                  by_cases c46 : (rd t319 x8_2) = t314
                                  · rw [if_pos c46] at H
                                    have c46b0 : ((rd t319 x8_2) == t314) = true := beq_iff_eq.mpr c46
                                    have c46b1 : ((rd t319 x8_2) != t314) = false := bne_eq_false_iff_eq.mpr c46
                                    clear c46
                                    replace H := Option.bind_eq_some_iff.mp H
                                    obtain ⟨t337, A470, H⟩ := H
                                    replace H : (some (t337 == t314)) = some r := H
                                    have A47 := Aside0.mk A470
                                    clear A470
                                    obtain rfl := Option.some.inj H
                                    obtain ⟨Ao48, co48, eo48⟩ := Kd.R_slice HO_6.out
                                    subst eo48
                                    have p329 : 0 ≤ (x9_2 : Int) := of_decide_eq_true (by first | (with_reducible assumption) | assumption)
                                    have q329 : x9_2 < (t319.length : Int) := of_decide_eq_true (by first | (with_reducible assumption) | assumption)
                                    obtain ⟨ad329, e329, hx329_0⟩ := Kd.at_int (Kd.R_reads' HO_6.out).2.2 x9_2 p329 q329
                                    cases e329
                                    replace p329 := eq_true p329
                                    replace q329 := eq_true q329
                                    have q49 : (x8_2 : Int) ≤ ((t319.length : Int) : Int) := of_decide_eq_true (by first | (with_reducible assumption) | assumption)
                                    obtain ⟨i049, hi049, _, hsz49, _⟩ := info_parts info3
                                    have hroom49 : t319.length ≤ co48 := (Kd.R_reads' HO_6.out).2.1
                                    have hC49 : Kd.C (Kd.int .i64) _ (some ad329) t319.length t319 := (Kd.R_reads' HO_6.out).2.2
                                    have hcut49 := cut_to (P := Try.prog) 22 3 .i64 Try.underlying22 hi049 (some ad329) t319.length co48 x8_2 (of_decide_eq_true (by first | (with_reducible assumption) | assumption)) q49 hroom49
                                    have hr49 := Kd.C_take (m := (x8_2 : Int).toNat) hC49 (by omega)
                                    have hy49 : y330.length = (x8_2 : Int).toNat := (by rw [Ny330.out, List.length_take]; omega)
                                    rw [← Ny330.out] at hr49
                                    rw [← hy49] at hcut49
                                    have HR333 := Aside0.mk hr49
                                    have HC333 := Aside0.mk (show y330.length ≤ co48 from by omega)
                                    clear hr49 hC49 hroom49 hi049 hsz49
                                    have KY49 := Aside0.mk hy49
                                    clear hy49
                                    have KL49 := Aside0.mk (show (x8_2 : Int).toNat ≤ t319.length from by omega)
                                    replace q49 := eq_true q49
                                    obtain ⟨Ao50, co50, eo50⟩ := Kd.R_slice HO_7.out
                                    subst eo50
                                    go_wp2_with (first | ((with_reducible refine gate_callee (f := 29) rfl ?_); refine goesL_ (some 70) rfl rfl Try.func29 (by kernel_rfl) rfl #[.slice Ao50 t326.length co50, .slice (some ad329) y330.length co48] rfl (by (try simp only [List.map_toArray, List.map_cons, List.map_nil]); first | done | rfl | (simp only [List.length_drop, List.length_take]; rfl)) ?_; (with_reducible refine (laws_wcInts.calls k2 _ _ t326 _ _ y330 true _ ?side1 ?side2 ?side3 ?side4 A37.out).mono ?_); (case side1 => repeat (first | exact (Kd.R_reads' HO_7.out).2.2 | (with_reducible refine Kd.C_alloc ?_ _) | (with_reducible refine Kd.C_drewN ?_ _) | (with_reducible refine Kd.C_drew ?_))); (case side2 => exact (Kd.R_reads' HO_7.out).2.1); (case side3 => repeat (first | exact (by repeat (first | (with_reducible exact HR333.out) | (with_reducible refine Kd.C_alloc ?_ _) | (with_reducible refine Kd.C_drewN ?_ _) | (with_reducible refine Kd.C_drew ?_) | exact HR333.out)) | (with_reducible refine Kd.C_alloc ?_ _) | (with_reducible refine Kd.C_drewN ?_ _) | (with_reducible refine Kd.C_drew ?_))); (case side4 => exact HC333.out); rintro e w' ⟨rfl, ⟨nd, rfl⟩⟩; refine ⟨_, rfl, ?_⟩; have p336 : 0 ≤ (x8_2 : Int) := of_decide_eq_true (by first | (with_reducible assumption) | assumption); have q336 : x8_2 < (t319.length : Int) := of_decide_eq_true (by first | (with_reducible assumption) | assumption); obtain ⟨ad336, e336, hx336_0⟩ := Kd.at_int (Kd.R_reads' HO_6.out).2.2 x8_2 p336 q336; obtain rfl : ad329 = ad336 := (by injection e336); replace p336 := eq_true p336; replace q336 := eq_true q336) | (go_at_call 24; (with_reducible refine (impl_ClusterAt.calls k2 _ _ t310 t314 t337 _ ?side1 ?side2 A47.out).mono ?_); (case side1 => repeat (first | exact (Kd.R_reads' HO_3.out).2.2 | (with_reducible refine Kd.C_alloc ?_ _) | (with_reducible refine Kd.C_drewN ?_ _) | (with_reducible refine Kd.C_drew ?_))); (case side2 => exact (Kd.R_reads' HO_3.out).2.1); rintro e w51 ⟨rfl, hb⟩; have n0_ := Aside0.mk (Kd.R_below (by (with_reducible repeat (first | apply Kd.R_alloc | apply Kd.R_drewN | apply Kd.R_drew)); exact HO_3.out) hb); have n1_ := Aside0.mk (Kd.R_below (by (with_reducible repeat (first | apply Kd.R_alloc | apply Kd.R_drewN | apply Kd.R_drew)); exact HO_6.out) hb); have n2_ := Aside0.mk (Kd.R_below (by (with_reducible repeat (first | apply Kd.R_alloc | apply Kd.R_drewN | apply Kd.R_drew)); exact HO_7.out) hb); have n3_ := Aside0.mk (Kd.C_below (by repeat (first | (with_reducible exact HR325.out) | (with_reducible refine Kd.C_alloc ?_ _) | (with_reducible refine Kd.C_drewN ?_ _) | (with_reducible refine Kd.C_drew ?_) | exact HR325.out)) hb); have n4_ := Aside0.mk (Kd.C_below (by repeat (first | (with_reducible exact HR333.out) | (with_reducible refine Kd.C_alloc ?_ _) | (with_reducible refine Kd.C_drewN ?_ _) | (with_reducible refine Kd.C_drew ?_) | exact HR333.out)) hb); have n5_ := Aside0.mk (below_step (by repeat (first | (with_reducible first | exact HB.out | apply below_alloc | apply pw_below_drewN | apply below_drew1) | exact HB.out)) hb); clear HO_3; clear HO_6; clear HO_7; clear HR325; clear HR333; clear HB; have HO_3 := n0_; have HO_6 := n1_; have HO_7 := n2_; have HR325 := n3_; have HR333 := n4_; have HB := n5_; clear n0_ n1_ n2_ n3_ n4_ n5_; (try clear hb); (try clear hb2); (try clear hk); (try clear hi)))
                                    go_ret
                                    exact ⟨by first | rfl | (simp [errW_none, errW_some] <;> rfl) | (simp [*, errW_none, errW_some] <;> rfl), by repeat (first | (with_reducible first | exact HB.out | apply below_alloc | apply pw_below_drewN | apply below_drew1) | exact HB.out)⟩
                                  · rw [if_neg c46] at H
                                    have c46b0 : ((rd t319 x8_2) == t314) = false := beq_eq_false_iff_ne.mpr c46
                                    have c46b1 : ((rd t319 x8_2) != t314) = true := bne_iff_ne.mpr c46
                                    obtain rfl := Option.some.inj H
                                    obtain ⟨Ao52, co52, eo52⟩ := Kd.R_slice HO_6.out
                                    subst eo52
                                    have p329 : 0 ≤ (x9_2 : Int) := of_decide_eq_true (by first | (with_reducible assumption) | assumption)
                                    have q329 : x9_2 < (t319.length : Int) := of_decide_eq_true (by first | (with_reducible assumption) | assumption)
                                    obtain ⟨ad329, e329, hx329_0⟩ := Kd.at_int (Kd.R_reads' HO_6.out).2.2 x9_2 p329 q329
                                    cases e329
                                    replace p329 := eq_true p329
                                    replace q329 := eq_true q329
                                    have q53 : (x8_2 : Int) ≤ ((t319.length : Int) : Int) := of_decide_eq_true (by first | (with_reducible assumption) | assumption)
                                    obtain ⟨i053, hi053, _, hsz53, _⟩ := info_parts info3
                                    have hroom53 : t319.length ≤ co52 := (Kd.R_reads' HO_6.out).2.1
                                    have hC53 : Kd.C (Kd.int .i64) _ (some ad329) t319.length t319 := (Kd.R_reads' HO_6.out).2.2
                                    have hcut53 := cut_to (P := Try.prog) 22 3 .i64 Try.underlying22 hi053 (some ad329) t319.length co52 x8_2 (of_decide_eq_true (by first | (with_reducible assumption) | assumption)) q53 hroom53
                                    have hr53 := Kd.C_take (m := (x8_2 : Int).toNat) hC53 (by omega)
                                    have hy53 : y330.length = (x8_2 : Int).toNat := (by rw [Ny330.out, List.length_take]; omega)
                                    rw [← Ny330.out] at hr53
                                    rw [← hy53] at hcut53
                                    have HR333 := Aside0.mk hr53
                                    have HC333 := Aside0.mk (show y330.length ≤ co52 from by omega)
                                    clear hr53 hC53 hroom53 hi053 hsz53
                                    have KY53 := Aside0.mk hy53
                                    clear hy53
                                    have KL53 := Aside0.mk (show (x8_2 : Int).toNat ≤ t319.length from by omega)
                                    replace q53 := eq_true q53
                                    obtain ⟨Ao54, co54, eo54⟩ := Kd.R_slice HO_7.out
                                    subst eo54
                                    go_wp2_with (first | ((with_reducible refine gate_callee (f := 29) rfl ?_); refine goesL_ (some 70) rfl rfl Try.func29 (by kernel_rfl) rfl #[.slice Ao54 t326.length co54, .slice (some ad329) y330.length co52] rfl (by (try simp only [List.map_toArray, List.map_cons, List.map_nil]); first | done | rfl | (simp only [List.length_drop, List.length_take]; rfl)) ?_; (with_reducible refine (laws_wcInts.calls k2 _ _ t326 _ _ y330 true _ ?side1 ?side2 ?side3 ?side4 A37.out).mono ?_); (case side1 => repeat (first | exact (Kd.R_reads' HO_7.out).2.2 | (with_reducible refine Kd.C_alloc ?_ _) | (with_reducible refine Kd.C_drewN ?_ _) | (with_reducible refine Kd.C_drew ?_))); (case side2 => exact (Kd.R_reads' HO_7.out).2.1); (case side3 => repeat (first | exact (by repeat (first | (with_reducible exact HR333.out) | (with_reducible refine Kd.C_alloc ?_ _) | (with_reducible refine Kd.C_drewN ?_ _) | (with_reducible refine Kd.C_drew ?_) | exact HR333.out)) | (with_reducible refine Kd.C_alloc ?_ _) | (with_reducible refine Kd.C_drewN ?_ _) | (with_reducible refine Kd.C_drew ?_))); (case side4 => exact HC333.out); rintro e w' ⟨rfl, ⟨nd, rfl⟩⟩; refine ⟨_, rfl, ?_⟩; have p336 : 0 ≤ (x8_2 : Int) := of_decide_eq_true (by first | (with_reducible assumption) | assumption); have q336 : x8_2 < (t319.length : Int) := of_decide_eq_true (by first | (with_reducible assumption) | assumption); obtain ⟨ad336, e336, hx336_0⟩ := Kd.at_int (Kd.R_reads' HO_6.out).2.2 x8_2 p336 q336; obtain rfl : ad329 = ad336 := (by injection e336); replace p336 := eq_true p336; replace q336 := eq_true q336))
                                    go_ret
                                    exact ⟨by first | rfl | (simp [errW_none, errW_some] <;> rfl) | (simp [*, errW_none, errW_some] <;> rfl), by repeat (first | (with_reducible first | exact HB.out | apply below_alloc | apply pw_below_drewN | apply below_drew1) | exact HB.out)⟩
                                · rw [if_neg c45] at H
                                  exact absurd H (by simp)
                            · replace c38 := Bool.eq_false_iff.mpr c38
                              subst c38
                              have H1 : (some false) = some r := by rw [if_neg (show ¬ (false = true) by decide)] at H; exact H
                              clear H
                              have H := H1
                              clear H1
                              obtain rfl := Option.some.inj H
                              obtain ⟨Ao55, co55, eo55⟩ := Kd.R_slice HO_6.out
                              subst eo55
                              have p329 : 0 ≤ (x9_2 : Int) := of_decide_eq_true (by first | (with_reducible assumption) | assumption)
                              have q329 : x9_2 < (t319.length : Int) := of_decide_eq_true (by first | (with_reducible assumption) | assumption)
                              obtain ⟨ad329, e329, hx329_0⟩ := Kd.at_int (Kd.R_reads' HO_6.out).2.2 x9_2 p329 q329
                              cases e329
                              replace p329 := eq_true p329
                              replace q329 := eq_true q329
                              have q56 : (x8_2 : Int) ≤ ((t319.length : Int) : Int) := of_decide_eq_true (by first | (with_reducible assumption) | assumption)
                              obtain ⟨i056, hi056, _, hsz56, _⟩ := info_parts info3
                              have hroom56 : t319.length ≤ co55 := (Kd.R_reads' HO_6.out).2.1
                              have hC56 : Kd.C (Kd.int .i64) _ (some ad329) t319.length t319 := (Kd.R_reads' HO_6.out).2.2
                              have hcut56 := cut_to (P := Try.prog) 22 3 .i64 Try.underlying22 hi056 (some ad329) t319.length co55 x8_2 (of_decide_eq_true (by first | (with_reducible assumption) | assumption)) q56 hroom56
                              have hr56 := Kd.C_take (m := (x8_2 : Int).toNat) hC56 (by omega)
                              have hy56 : y330.length = (x8_2 : Int).toNat := (by rw [Ny330.out, List.length_take]; omega)
                              rw [← Ny330.out] at hr56
                              rw [← hy56] at hcut56
                              have HR333 := Aside0.mk hr56
                              have HC333 := Aside0.mk (show y330.length ≤ co55 from by omega)
                              clear hr56 hC56 hroom56 hi056 hsz56
                              have KY56 := Aside0.mk hy56
                              clear hy56
                              have KL56 := Aside0.mk (show (x8_2 : Int).toNat ≤ t319.length from by omega)
                              replace q56 := eq_true q56
                              obtain ⟨Ao57, co57, eo57⟩ := Kd.R_slice HO_7.out
                              subst eo57
                              go_wp2_with (first | ((with_reducible refine gate_callee (f := 29) rfl ?_); refine goesL_ (some 70) rfl rfl Try.func29 (by kernel_rfl) rfl #[.slice Ao57 t326.length co57, .slice (some ad329) y330.length co55] rfl (by (try simp only [List.map_toArray, List.map_cons, List.map_nil]); first | done | rfl | (simp only [List.length_drop, List.length_take]; rfl)) ?_; (with_reducible refine (laws_wcInts.calls k2 _ _ t326 _ _ y330 false _ ?side1 ?side2 ?side3 ?side4 A37.out).mono ?_); (case side1 => repeat (first | exact (Kd.R_reads' HO_7.out).2.2 | (with_reducible refine Kd.C_alloc ?_ _) | (with_reducible refine Kd.C_drewN ?_ _) | (with_reducible refine Kd.C_drew ?_))); (case side2 => exact (Kd.R_reads' HO_7.out).2.1); (case side3 => repeat (first | exact (by repeat (first | (with_reducible exact HR333.out) | (with_reducible refine Kd.C_alloc ?_ _) | (with_reducible refine Kd.C_drewN ?_ _) | (with_reducible refine Kd.C_drew ?_) | exact HR333.out)) | (with_reducible refine Kd.C_alloc ?_ _) | (with_reducible refine Kd.C_drewN ?_ _) | (with_reducible refine Kd.C_drew ?_))); (case side4 => exact HC333.out); rintro e w' ⟨rfl, ⟨nd, rfl⟩⟩; refine ⟨_, rfl, ?_⟩))
                              go_ret
                              exact ⟨by first | rfl | (simp [errW_none, errW_some] <;> rfl) | (simp [*, errW_none, errW_some] <;> rfl), by repeat (first | (with_reducible first | exact HB.out | apply below_alloc | apply pw_below_drewN | apply below_drew1) | exact HB.out)⟩
                          · rw [if_neg c36] at H
                            exact absurd H (by simp)
                        · rw [if_neg c35] at H
                          exact absurd H (by simp)
                    · rw [if_neg c32] at H
                      exact absurd H (by simp)
                  · rw [if_neg c31] at H
                    have c31b0 : decide (x9_2 < (t319.length : Int)) = false := decide_eq_false c31
                    clear c31
                    by_cases c58 : 0 ≤ x8_2
                    · rw [if_pos c58] at H
                      have c58b0 := eq_true c58
                      have c58b1 : decide (0 ≤ x8_2) = true := decide_eq_true c58
                      clear c58
                      by_cases c59 : x8_2 ≤ (t319.length : Int)
                      · rw [if_pos c59] at H
                        have c59b0 := eq_true c59
                        have c59b1 : decide (x8_2 ≤ (t319.length : Int)) = true := decide_eq_true c59
                        clear c59
                        obtain ⟨y338, hy338⟩ : ∃ y_ : List Int, y_ = (t319.take (x8_2 : Int).toNat) := ⟨_, rfl⟩
                        replace H : ((laws_wcInts.f k2 t326 y338).bind fun t342 => (if t342 = true then (if x8_2 = (t319.length : Int) then ((impl_ClusterAt.f k2 t310 t314).bind fun t343 => (some (t343 == t314))) else (if x8_2 < (t319.length : Int) then (if (rd t319 x8_2) = t314 then ((impl_ClusterAt.f k2 t310 t314).bind fun t345 => (some (t345 == t314))) else (some false)) else (none))) else (some false))) = some r := by first | (rw [hy338]; with_reducible exact H) | (have H2_ := (Option.bind_some _ _).symm.trans H; rw [hy338]; with_reducible exact H2_) | (have H2_ := (Option.bind_some _ _).symm.trans H; with_reducible exact H2_) | with_reducible exact H | (rw [hy338]; exact H) | exact H
                        have Ny338 := Aside0.mk hy338
                        clear hy338
                        replace H := Option.bind_eq_some_iff.mp H
                        obtain ⟨t342, A600, H⟩ := H
                        replace H : (if t342 = true then (if x8_2 = (t319.length : Int) then ((impl_ClusterAt.f k2 t310 t314).bind fun t343 => (some (t343 == t314))) else (if x8_2 < (t319.length : Int) then (if (rd t319 x8_2) = t314 then ((impl_ClusterAt.f k2 t310 t314).bind fun t345 => (some (t345 == t314))) else (some false)) else (none))) else (some false)) = some r := H
                        have A60 := Aside0.mk A600
                        clear A600
                        by_cases c61 : t342 = true
                        · subst c61
                          have H1 : (if x8_2 = (t319.length : Int) then ((impl_ClusterAt.f k2 t310 t314).bind fun t343 => (some (t343 == t314))) else (if x8_2 < (t319.length : Int) then (if (rd t319 x8_2) = t314 then ((impl_ClusterAt.f k2 t310 t314).bind fun t345 => (some (t345 == t314))) else (some false)) else (none))) = some r := by rw [if_pos rfl] at H; exact H
                          clear H
                          have H := H1
                          clear H1
                          by_cases c62 : x8_2 = (t319.length : Int)
                          · rw [if_pos c62] at H
                            have c62b0 : (x8_2 == (t319.length : Int)) = true := beq_iff_eq.mpr c62
                            have c62b1 : (x8_2 != (t319.length : Int)) = false := bne_eq_false_iff_eq.mpr c62
                            clear c62
                            replace H := Option.bind_eq_some_iff.mp H
                            obtain ⟨t343, A630, H⟩ := H
                            replace H : (some (t343 == t314)) = some r := H
                            have A63 := Aside0.mk A630
                            clear A630
                            obtain rfl := Option.some.inj H
                            obtain ⟨Ao64, co64, eo64⟩ := Kd.R_slice HO_6.out
                            subst eo64
                            have q65 : (x8_2 : Int) ≤ ((t319.length : Int) : Int) := of_decide_eq_true (by first | (with_reducible assumption) | assumption)
                            obtain ⟨i065, hi065, _, hsz65, _⟩ := info_parts info3
                            have hroom65 : t319.length ≤ co64 := (Kd.R_reads' HO_6.out).2.1
                            have hC65 : Kd.C (Kd.int .i64) _ Ao64 t319.length t319 := (Kd.R_reads' HO_6.out).2.2
                            have hcut65 := cut_to (P := Try.prog) 22 3 .i64 Try.underlying22 hi065 Ao64 t319.length co64 x8_2 (of_decide_eq_true (by first | (with_reducible assumption) | assumption)) q65 hroom65
                            have hr65 := Kd.C_take (m := (x8_2 : Int).toNat) hC65 (by omega)
                            have hy65 : y338.length = (x8_2 : Int).toNat := (by rw [Ny338.out, List.length_take]; omega)
                            rw [← Ny338.out] at hr65
                            rw [← hy65] at hcut65
                            have HR341 := Aside0.mk hr65
                            have HC341 := Aside0.mk (show y338.length ≤ co64 from by omega)
                            clear hr65 hC65 hroom65 hi065 hsz65
                            have KY65 := Aside0.mk hy65
                            clear hy65
                            have KL65 := Aside0.mk (show (x8_2 : Int).toNat ≤ t319.length from by omega)
                            replace q65 := eq_true q65
                            obtain ⟨Ao66, co66, eo66⟩ := Kd.R_slice HO_7.out
                            subst eo66
                            go_wp2_with (first | ((with_reducible refine gate_callee (f := 29) rfl ?_); refine goesL_ (some 70) rfl rfl Try.func29 (by kernel_rfl) rfl #[.slice Ao66 t326.length co66, .slice Ao64 y338.length co64] rfl (by (try simp only [List.map_toArray, List.map_cons, List.map_nil]); first | done | rfl | (simp only [List.length_drop, List.length_take]; rfl)) ?_; (with_reducible refine (laws_wcInts.calls k2 _ _ t326 _ _ y338 true _ ?side1 ?side2 ?side3 ?side4 A60.out).mono ?_); (case side1 => repeat (first | exact (Kd.R_reads' HO_7.out).2.2 | (with_reducible refine Kd.C_alloc ?_ _) | (with_reducible refine Kd.C_drewN ?_ _) | (with_reducible refine Kd.C_drew ?_))); (case side2 => exact (Kd.R_reads' HO_7.out).2.1); (case side3 => repeat (first | exact (by repeat (first | (with_reducible exact HR341.out) | (with_reducible refine Kd.C_alloc ?_ _) | (with_reducible refine Kd.C_drewN ?_ _) | (with_reducible refine Kd.C_drew ?_) | exact HR341.out)) | (with_reducible refine Kd.C_alloc ?_ _) | (with_reducible refine Kd.C_drewN ?_ _) | (with_reducible refine Kd.C_drew ?_))); (case side4 => exact HC341.out); rintro e w' ⟨rfl, ⟨nd, rfl⟩⟩; refine ⟨_, rfl, ?_⟩) | (go_at_call 24; (with_reducible refine (impl_ClusterAt.calls k2 _ _ t310 t314 t343 _ ?side1 ?side2 A63.out).mono ?_); (case side1 => repeat (first | exact (Kd.R_reads' HO_3.out).2.2 | (with_reducible refine Kd.C_alloc ?_ _) | (with_reducible refine Kd.C_drewN ?_ _) | (with_reducible refine Kd.C_drew ?_))); (case side2 => exact (Kd.R_reads' HO_3.out).2.1); rintro e w67 ⟨rfl, hb⟩; have n0_ := Aside0.mk (Kd.R_below (by (with_reducible repeat (first | apply Kd.R_alloc | apply Kd.R_drewN | apply Kd.R_drew)); exact HO_3.out) hb); have n1_ := Aside0.mk (Kd.R_below (by (with_reducible repeat (first | apply Kd.R_alloc | apply Kd.R_drewN | apply Kd.R_drew)); exact HO_6.out) hb); have n2_ := Aside0.mk (Kd.R_below (by (with_reducible repeat (first | apply Kd.R_alloc | apply Kd.R_drewN | apply Kd.R_drew)); exact HO_7.out) hb); have n3_ := Aside0.mk (Kd.C_below (by repeat (first | (with_reducible exact HR325.out) | (with_reducible refine Kd.C_alloc ?_ _) | (with_reducible refine Kd.C_drewN ?_ _) | (with_reducible refine Kd.C_drew ?_) | exact HR325.out)) hb); have n4_ := Aside0.mk (Kd.C_below (by repeat (first | (with_reducible exact HR341.out) | (with_reducible refine Kd.C_alloc ?_ _) | (with_reducible refine Kd.C_drewN ?_ _) | (with_reducible refine Kd.C_drew ?_) | exact HR341.out)) hb); have n5_ := Aside0.mk (below_step (by repeat (first | (with_reducible first | exact HB.out | apply below_alloc | apply pw_below_drewN | apply below_drew1) | exact HB.out)) hb); clear HO_3; clear HO_6; clear HO_7; clear HR325; clear HR341; clear HB; have HO_3 := n0_; have HO_6 := n1_; have HO_7 := n2_; have HR325 := n3_; have HR341 := n4_; have HB := n5_; clear n0_ n1_ n2_ n3_ n4_ n5_; (try clear hb); (try clear hb2); (try clear hk); (try clear hi)))
                            go_ret
                            exact ⟨by first | rfl | (simp [errW_none, errW_some] <;> rfl) | (simp [*, errW_none, errW_some] <;> rfl), by repeat (first | (with_reducible first | exact HB.out | apply below_alloc | apply pw_below_drewN | apply below_drew1) | exact HB.out)⟩
                          · rw [if_neg c62] at H
                            have c62b0 : (x8_2 == (t319.length : Int)) = false := beq_eq_false_iff_ne.mpr c62
                            have c62b1 : (x8_2 != (t319.length : Int)) = true := bne_iff_ne.mpr c62
                            by_cases c68 : x8_2 < (t319.length : Int)
                            · rw [if_pos c68] at H
                              have c68b0 : decide (x8_2 < (t319.length : Int)) = true := decide_eq_true c68
                              clear c68
                              by_cases c69 : (rd t319 x8_2) = t314
                              · rw [if_pos c69] at H
                                have c69b0 : ((rd t319 x8_2) == t314) = true := beq_iff_eq.mpr c69
                                have c69b1 : ((rd t319 x8_2) != t314) = false := bne_eq_false_iff_eq.mpr c69
                                clear c69
                                replace H := Option.bind_eq_some_iff.mp H
                                obtain ⟨t345, A700, H⟩ := H
                                replace H : (some (t345 == t314)) = some r := H
                                have A70 := Aside0.mk A700
                                clear A700
                                obtain rfl := Option.some.inj H
                                obtain ⟨Ao71, co71, eo71⟩ := Kd.R_slice HO_6.out
                                subst eo71
                                have q72 : (x8_2 : Int) ≤ ((t319.length : Int) : Int) := of_decide_eq_true (by first | (with_reducible assumption) | assumption)
                                obtain ⟨i072, hi072, _, hsz72, _⟩ := info_parts info3
                                have hroom72 : t319.length ≤ co71 := (Kd.R_reads' HO_6.out).2.1
                                have hC72 : Kd.C (Kd.int .i64) _ Ao71 t319.length t319 := (Kd.R_reads' HO_6.out).2.2
                                have hcut72 := cut_to (P := Try.prog) 22 3 .i64 Try.underlying22 hi072 Ao71 t319.length co71 x8_2 (of_decide_eq_true (by first | (with_reducible assumption) | assumption)) q72 hroom72
                                have hr72 := Kd.C_take (m := (x8_2 : Int).toNat) hC72 (by omega)
                                have hy72 : y338.length = (x8_2 : Int).toNat := (by rw [Ny338.out, List.length_take]; omega)
                                rw [← Ny338.out] at hr72
                                rw [← hy72] at hcut72
                                have HR341 := Aside0.mk hr72
                                have HC341 := Aside0.mk (show y338.length ≤ co71 from by omega)
                                clear hr72 hC72 hroom72 hi072 hsz72
                                have KY72 := Aside0.mk hy72
                                clear hy72
                                have KL72 := Aside0.mk (show (x8_2 : Int).toNat ≤ t319.length from by omega)
                                replace q72 := eq_true q72
                                obtain ⟨Ao73, co73, eo73⟩ := Kd.R_slice HO_7.out
                                subst eo73
                                go_wp2_with (first | ((with_reducible refine gate_callee (f := 29) rfl ?_); refine goesL_ (some 70) rfl rfl Try.func29 (by kernel_rfl) rfl #[.slice Ao73 t326.length co73, .slice Ao71 y338.length co71] rfl (by (try simp only [List.map_toArray, List.map_cons, List.map_nil]); first | done | rfl | (simp only [List.length_drop, List.length_take]; rfl)) ?_; (with_reducible refine (laws_wcInts.calls k2 _ _ t326 _ _ y338 true _ ?side1 ?side2 ?side3 ?side4 A60.out).mono ?_); (case side1 => repeat (first | exact (Kd.R_reads' HO_7.out).2.2 | (with_reducible refine Kd.C_alloc ?_ _) | (with_reducible refine Kd.C_drewN ?_ _) | (with_reducible refine Kd.C_drew ?_))); (case side2 => exact (Kd.R_reads' HO_7.out).2.1); (case side3 => repeat (first | exact (by repeat (first | (with_reducible exact HR341.out) | (with_reducible refine Kd.C_alloc ?_ _) | (with_reducible refine Kd.C_drewN ?_ _) | (with_reducible refine Kd.C_drew ?_) | exact HR341.out)) | (with_reducible refine Kd.C_alloc ?_ _) | (with_reducible refine Kd.C_drewN ?_ _) | (with_reducible refine Kd.C_drew ?_))); (case side4 => exact HC341.out); rintro e w' ⟨rfl, ⟨nd, rfl⟩⟩; refine ⟨_, rfl, ?_⟩; have p344 : 0 ≤ (x8_2 : Int) := of_decide_eq_true (by first | (with_reducible assumption) | assumption); have q344 : x8_2 < (t319.length : Int) := of_decide_eq_true (by first | (with_reducible assumption) | assumption); obtain ⟨ad344, e344, hx344_0⟩ := Kd.at_int (Kd.R_reads' HO_6.out).2.2 x8_2 p344 q344; cases e344; replace p344 := eq_true p344; replace q344 := eq_true q344) | (go_at_call 24; (with_reducible refine (impl_ClusterAt.calls k2 _ _ t310 t314 t345 _ ?side1 ?side2 A70.out).mono ?_); (case side1 => repeat (first | exact (Kd.R_reads' HO_3.out).2.2 | (with_reducible refine Kd.C_alloc ?_ _) | (with_reducible refine Kd.C_drewN ?_ _) | (with_reducible refine Kd.C_drew ?_))); (case side2 => exact (Kd.R_reads' HO_3.out).2.1); rintro e w74 ⟨rfl, hb⟩; have n0_ := Aside0.mk (Kd.R_below (by (with_reducible repeat (first | apply Kd.R_alloc | apply Kd.R_drewN | apply Kd.R_drew)); exact HO_3.out) hb); have n1_ := Aside0.mk (Kd.R_below (by (with_reducible repeat (first | apply Kd.R_alloc | apply Kd.R_drewN | apply Kd.R_drew)); exact HO_6.out) hb); have n2_ := Aside0.mk (Kd.R_below (by (with_reducible repeat (first | apply Kd.R_alloc | apply Kd.R_drewN | apply Kd.R_drew)); exact HO_7.out) hb); have n3_ := Aside0.mk (Kd.C_below (by repeat (first | (with_reducible exact HR325.out) | (with_reducible refine Kd.C_alloc ?_ _) | (with_reducible refine Kd.C_drewN ?_ _) | (with_reducible refine Kd.C_drew ?_) | exact HR325.out)) hb); have n4_ := Aside0.mk (Kd.C_below (by repeat (first | (with_reducible exact HR341.out) | (with_reducible refine Kd.C_alloc ?_ _) | (with_reducible refine Kd.C_drewN ?_ _) | (with_reducible refine Kd.C_drew ?_) | exact HR341.out)) hb); have n5_ := Aside0.mk (below_step (by repeat (first | (with_reducible first | exact HB.out | apply below_alloc | apply pw_below_drewN | apply below_drew1) | exact HB.out)) hb); clear HO_3; clear HO_6; clear HO_7; clear HR325; clear HR341; clear HB; have HO_3 := n0_; have HO_6 := n1_; have HO_7 := n2_; have HR325 := n3_; have HR341 := n4_; have HB := n5_; clear n0_ n1_ n2_ n3_ n4_ n5_; (try clear hb); (try clear hb2); (try clear hk); (try clear hi)))
                                go_ret
                                exact ⟨by first | rfl | (simp [errW_none, errW_some] <;> rfl) | (simp [*, errW_none, errW_some] <;> rfl), by repeat (first | (with_reducible first | exact HB.out | apply below_alloc | apply pw_below_drewN | apply below_drew1) | exact HB.out)⟩
                              · rw [if_neg c69] at H
                                have c69b0 : ((rd t319 x8_2) == t314) = false := beq_eq_false_iff_ne.mpr c69
                                have c69b1 : ((rd t319 x8_2) != t314) = true := bne_iff_ne.mpr c69
                                obtain rfl := Option.some.inj H
                                obtain ⟨Ao75, co75, eo75⟩ := Kd.R_slice HO_6.out
                                subst eo75
                                have q76 : (x8_2 : Int) ≤ ((t319.length : Int) : Int) := of_decide_eq_true (by first | (with_reducible assumption) | assumption)
                                obtain ⟨i076, hi076, _, hsz76, _⟩ := info_parts info3
                                have hroom76 : t319.length ≤ co75 := (Kd.R_reads' HO_6.out).2.1
                                have hC76 : Kd.C (Kd.int .i64) _ Ao75 t319.length t319 := (Kd.R_reads' HO_6.out).2.2
                                have hcut76 := cut_to (P := Try.prog) 22 3 .i64 Try.underlying22 hi076 Ao75 t319.length co75 x8_2 (of_decide_eq_true (by first | (with_reducible assumption) | assumption)) q76 hroom76
                                have hr76 := Kd.C_take (m := (x8_2 : Int).toNat) hC76 (by omega)
                                have hy76 : y338.length = (x8_2 : Int).toNat := (by rw [Ny338.out, List.length_take]; omega)
                                rw [← Ny338.out] at hr76
                                rw [← hy76] at hcut76
                                have HR341 := Aside0.mk hr76
                                have HC341 := Aside0.mk (show y338.length ≤ co75 from by omega)
                                clear hr76 hC76 hroom76 hi076 hsz76
                                have KY76 := Aside0.mk hy76
                                clear hy76
                                have KL76 := Aside0.mk (show (x8_2 : Int).toNat ≤ t319.length from by omega)
                                replace q76 := eq_true q76
                                obtain ⟨Ao77, co77, eo77⟩ := Kd.R_slice HO_7.out
                                subst eo77
                                go_wp2_with (first | ((with_reducible refine gate_callee (f := 29) rfl ?_); refine goesL_ (some 70) rfl rfl Try.func29 (by kernel_rfl) rfl #[.slice Ao77 t326.length co77, .slice Ao75 y338.length co75] rfl (by (try simp only [List.map_toArray, List.map_cons, List.map_nil]); first | done | rfl | (simp only [List.length_drop, List.length_take]; rfl)) ?_; (with_reducible refine (laws_wcInts.calls k2 _ _ t326 _ _ y338 true _ ?side1 ?side2 ?side3 ?side4 A60.out).mono ?_); (case side1 => repeat (first | exact (Kd.R_reads' HO_7.out).2.2 | (with_reducible refine Kd.C_alloc ?_ _) | (with_reducible refine Kd.C_drewN ?_ _) | (with_reducible refine Kd.C_drew ?_))); (case side2 => exact (Kd.R_reads' HO_7.out).2.1); (case side3 => repeat (first | exact (by repeat (first | (with_reducible exact HR341.out) | (with_reducible refine Kd.C_alloc ?_ _) | (with_reducible refine Kd.C_drewN ?_ _) | (with_reducible refine Kd.C_drew ?_) | exact HR341.out)) | (with_reducible refine Kd.C_alloc ?_ _) | (with_reducible refine Kd.C_drewN ?_ _) | (with_reducible refine Kd.C_drew ?_))); (case side4 => exact HC341.out); rintro e w' ⟨rfl, ⟨nd, rfl⟩⟩; refine ⟨_, rfl, ?_⟩; have p344 : 0 ≤ (x8_2 : Int) := of_decide_eq_true (by first | (with_reducible assumption) | assumption); have q344 : x8_2 < (t319.length : Int) := of_decide_eq_true (by first | (with_reducible assumption) | assumption); obtain ⟨ad344, e344, hx344_0⟩ := Kd.at_int (Kd.R_reads' HO_6.out).2.2 x8_2 p344 q344; cases e344; replace p344 := eq_true p344; replace q344 := eq_true q344))
                                go_ret
                                exact ⟨by first | rfl | (simp [errW_none, errW_some] <;> rfl) | (simp [*, errW_none, errW_some] <;> rfl), by repeat (first | (with_reducible first | exact HB.out | apply below_alloc | apply pw_below_drewN | apply below_drew1) | exact HB.out)⟩
                            · rw [if_neg c68] at H
                              exact absurd H (by simp)
                        · replace c61 := Bool.eq_false_iff.mpr c61
                          subst c61
                          have H1 : (some false) = some r := by rw [if_neg (show ¬ (false = true) by decide)] at H; exact H
                          clear H
                          have H := H1
                          clear H1
                          obtain rfl := Option.some.inj H
                          obtain ⟨Ao78, co78, eo78⟩ := Kd.R_slice HO_6.out
                          subst eo78
                          have q79 : (x8_2 : Int) ≤ ((t319.length : Int) : Int) := of_decide_eq_true (by first | (with_reducible assumption) | assumption)
                          obtain ⟨i079, hi079, _, hsz79, _⟩ := info_parts info3
                          have hroom79 : t319.length ≤ co78 := (Kd.R_reads' HO_6.out).2.1
                          have hC79 : Kd.C (Kd.int .i64) _ Ao78 t319.length t319 := (Kd.R_reads' HO_6.out).2.2
                          have hcut79 := cut_to (P := Try.prog) 22 3 .i64 Try.underlying22 hi079 Ao78 t319.length co78 x8_2 (of_decide_eq_true (by first | (with_reducible assumption) | assumption)) q79 hroom79
                          have hr79 := Kd.C_take (m := (x8_2 : Int).toNat) hC79 (by omega)
                          have hy79 : y338.length = (x8_2 : Int).toNat := (by rw [Ny338.out, List.length_take]; omega)
                          rw [← Ny338.out] at hr79
                          rw [← hy79] at hcut79
                          have HR341 := Aside0.mk hr79
                          have HC341 := Aside0.mk (show y338.length ≤ co78 from by omega)
                          clear hr79 hC79 hroom79 hi079 hsz79
                          have KY79 := Aside0.mk hy79
                          clear hy79
                          have KL79 := Aside0.mk (show (x8_2 : Int).toNat ≤ t319.length from by omega)
                          replace q79 := eq_true q79
                          obtain ⟨Ao80, co80, eo80⟩ := Kd.R_slice HO_7.out
                          subst eo80
                          go_wp2_with (first | ((with_reducible refine gate_callee (f := 29) rfl ?_); refine goesL_ (some 70) rfl rfl Try.func29 (by kernel_rfl) rfl #[.slice Ao80 t326.length co80, .slice Ao78 y338.length co78] rfl (by (try simp only [List.map_toArray, List.map_cons, List.map_nil]); first | done | rfl | (simp only [List.length_drop, List.length_take]; rfl)) ?_; (with_reducible refine (laws_wcInts.calls k2 _ _ t326 _ _ y338 false _ ?side1 ?side2 ?side3 ?side4 A60.out).mono ?_); (case side1 => repeat (first | exact (Kd.R_reads' HO_7.out).2.2 | (with_reducible refine Kd.C_alloc ?_ _) | (with_reducible refine Kd.C_drewN ?_ _) | (with_reducible refine Kd.C_drew ?_))); (case side2 => exact (Kd.R_reads' HO_7.out).2.1); (case side3 => repeat (first | exact (by repeat (first | (with_reducible exact HR341.out) | (with_reducible refine Kd.C_alloc ?_ _) | (with_reducible refine Kd.C_drewN ?_ _) | (with_reducible refine Kd.C_drew ?_) | exact HR341.out)) | (with_reducible refine Kd.C_alloc ?_ _) | (with_reducible refine Kd.C_drewN ?_ _) | (with_reducible refine Kd.C_drew ?_))); (case side4 => exact HC341.out); rintro e w' ⟨rfl, ⟨nd, rfl⟩⟩; refine ⟨_, rfl, ?_⟩))
                          go_ret
                          exact ⟨by first | rfl | (simp [errW_none, errW_some] <;> rfl) | (simp [*, errW_none, errW_some] <;> rfl), by repeat (first | (with_reducible first | exact HB.out | apply below_alloc | apply pw_below_drewN | apply below_drew1) | exact HB.out)⟩
                      · rw [if_neg c59] at H
                        exact absurd H (by simp)
                    · rw [if_neg c58] at H
                      exact absurd H (by simp)
            · rw [if_neg c26] at H
              exact absurd H (by simp)
          · rw [if_neg c25] at H
            exact absurd H (by simp)

/-- THE ONE PURE STATEMENT of laws_FnClusterCut: yours. -/
def laws_FnClusterCut.Pure : Prop := ∀ (l0 : List Int), l0.length ≤ maxLen → l0.length * 1 ≤ 140737488351232 → (∀ x ∈ l0, (Lit.int .u8 x).wf = true) → ∃ k, laws_FnClusterCut.f k l0 = some true
theorem laws_FnClusterCut.walk (P : laws_FnClusterCut.Pure) (a0 : Option Addr) (len0 cap0 : Nat) (z0 : List Int) (w : World) (w0 : (a0 = none ∧ len0 = 0 ∧ cap0 = 0 ∧ z0 = []) ∨ ∃ x, a0 = some x ∧ len0 ≤ cap0 ∧ cap0 ≤ maxLen ∧ z0.length = cap0 ∧ (∀ i, i < z0.length → w.cell? (x.add i) = some (.int .u8 (z0.getD i 0))) ∧ ∀ n ∈ z0, (Lit.int .u8 n).wf = true) (y0 : len0 * 1 ≤ 140737488351232) :
    Calls Try.prog 5 #[.slice a0 len0 cap0] w fun e w' => e = .returned (.bool true) ∧ Below w.heap.size w w' := by
  obtain ⟨l0, rfl, hr0, hm0, hw0, hc0⟩ := ReadsInt.ofRowC w0
  obtain ⟨k, h⟩ := P l0 hm0 y0 hw0
  refine (laws_FnClusterCut.calls k _ _ l0 true w (Kd.C_of_reads (d := (0 : Int)) (h1 := fun _ => rfl) hr0) hc0 h).mono ?_
  rintro e w' ⟨rfl, hd⟩
  exact ⟨rfl, hd⟩

end Go.Proofs.Ytlicjepodbfogaa.PFnClusterCut
