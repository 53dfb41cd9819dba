-- Written by a program of this session (wip/tools) out of the translation; its shape is that of the kit print.
import Derived.Test.YtmjhdgofepdgkaaPFnLevelMatesx0
import Derived.Test.YtmjhdgofepdgkaaPFnLevelMatesx1
import Derived.Test.YtmjhdgofepdgkaaPFnLevelMatesx2
namespace Go.Proofs.Ytmjhdgofepdgkaa.PFnLevelMates
open Go.RowKit Go.Proofs.YtmjhdgofepdgkaaW.PrintWords Go.Proofs.YtmjhdgofepdgkaaW.PrintLast Go.Proofs.YtmjhdgofepdgkaaW.PrintMore
attribute [local go_sem] max2_int min2_int max_two min_two max_three min_three max_four min_four   -- for this text's walks alone
set_option linter.unusedVariables false
set_option linter.unusedSimpArgs false

/-! ### spec_l3Mates: function 82 -/
mutual
def spec_l3Mates.l0 : Nat → List Int → List Int → List (List Int) → List Int → Int → Option ((List (List Int)))
  | 0, _, _, _, _, _ => none
  | k + 1, x0, x1, x5, x6, x7 => if x7 < (x0.length : Int) then (if 0 ≤ x7 then ((spec_RuneMate.f k (rd x0 x7)).bind fun t175 => (if t175 = 0 then (spec_l3Mates.j1 k x0 x1 x5 x6 x7 t175 true) else (if x7 < (x1.length : Int) then (spec_l3Mates.j1 k x0 x1 x5 x6 x7 t175 ((rd x1 x7) != 13)) else (none)))) else (none)) else (some x5)
def spec_l3Mates.j1 : Nat → List Int → List Int → List (List Int) → List Int → Int → Int → Bool → Option ((List (List Int)))
  | 0, _, _, _, _, _, _, _ => none
  | k + 1, x0, x1, x5, x6, x7, x8, x31 => if x31 = true then (spec_l3Mates.l0 k x0 x1 x5 x6 (wrap64 (x7 + 1))) else (if 0 ≤ x7 then (if x7 < (x0.length : Int) then (if x8 > (rd x0 x7) then (if x6.length < 17592186044416 then (spec_l3Mates.l0 k x0 x1 x5 (x6 ++ [x7]) (wrap64 (x7 + 1))) else (none)) else (spec_l3Mates.l1 k x0 x1 x5 x6 x7 x8 (wrap64 ((x6.length : Int) - 1)))) else (none)) else (none))
def spec_l3Mates.l1 : Nat → List Int → List Int → List (List Int) → List Int → Int → Int → Int → Option ((List (List Int)))
  | 0, _, _, _, _, _, _, _ => none
  | k + 1, x0, x1, x5, x6, x7, x8, x9 => if x9 ≥ 0 then (if 0 ≤ x9 then (if x9 < (x6.length : Int) then (if 0 ≤ (rd x6 x9) then (if (rd x6 x9) < (x0.length : Int) then (if (rd x0 (rd x6 x9)) = x8 then ((spec_l3Into.f k x5 (([rd x6 x9, x7] : List Int))).bind fun t187 => (if x9 ≤ (x6.length : Int) then (spec_l3Mates.l0 k x0 x1 t187 (x6.take (x9 : Int).toNat) (wrap64 (x7 + 1))) else (none))) else (spec_l3Mates.l1 k x0 x1 x5 x6 x7 x8 (wrap64 (x9 - 1)))) else (none)) else (none)) else (none)) else (none)) else (spec_l3Mates.l0 k x0 x1 x5 x6 (wrap64 (x7 + 1)))
end
def spec_l3Mates.f (k : Nat) (l0 : List Int) (l1 : List Int) : Option ((List (List Int))) := spec_l3Mates.l0 k l0 l1 (([] : List (List Int))) (([] : List Int)) 0
theorem spec_l3Mates.mono_l : ∀ k, (∀ y0 y1 y2 y3 y4, LeO (spec_l3Mates.l0 k y0 y1 y2 y3 y4) (spec_l3Mates.l0 (k + 1) y0 y1 y2 y3 y4)) ∧ (∀ y0 y1 y2 y3 y4 y5 y6, LeO (spec_l3Mates.j1 k y0 y1 y2 y3 y4 y5 y6) (spec_l3Mates.j1 (k + 1) y0 y1 y2 y3 y4 y5 y6)) ∧ (∀ y0 y1 y2 y3 y4 y5 y6, LeO (spec_l3Mates.l1 k y0 y1 y2 y3 y4 y5 y6) (spec_l3Mates.l1 (k + 1) y0 y1 y2 y3 y4 y5 y6))
  | 0 => ⟨fun _ _ _ _ _ r h => by simp [spec_l3Mates.l0] at h, fun _ _ _ _ _ _ _ r h => by simp [spec_l3Mates.j1] at h, fun _ _ _ _ _ _ _ r h => by simp [spec_l3Mates.l1] at h⟩
  | k + 1 => by
    obtain ⟨ih0, ih1, ih2⟩ := spec_l3Mates.mono_l k
    refine ⟨?_, ?_, ?_⟩
    · intro y0 y1 y2 y3 y4
      unfold spec_l3Mates.l0
      repeat' first
      | (with_reducible exact ih0 _ _ _ _ _)
      | (with_reducible exact ih1 _ _ _ _ _ _ _)
      | (with_reducible exact ih2 _ _ _ _ _ _ _)
      | (with_reducible exact spec_RuneMate.mono _ _)
      | (with_reducible exact spec_l3Into.mono _ _ _)
      | (with_reducible exact LeO.refl _)
      | (with_reducible exact LeO.none _)
      | (with_reducible refine LeO.ite ?_ ?_)
      | (with_reducible refine LeO.bind ?_ (fun _ => ?_))
      | exact ih0 _ _ _ _ _
      | exact ih1 _ _ _ _ _ _ _
      | exact ih2 _ _ _ _ _ _ _
      | exact spec_RuneMate.mono _ _
      | exact spec_l3Into.mono _ _ _
      | exact LeO.none _
      | refine LeO.ite ?_ ?_
      | refine LeO.bind ?_ (fun _ => ?_)
    · intro y0 y1 y2 y3 y4 y5 y6
      unfold spec_l3Mates.j1
      repeat' first
      | (with_reducible exact ih0 _ _ _ _ _)
      | (with_reducible exact ih1 _ _ _ _ _ _ _)
      | (with_reducible exact ih2 _ _ _ _ _ _ _)
      | (with_reducible exact spec_RuneMate.mono _ _)
      | (with_reducible exact spec_l3Into.mono _ _ _)
      | (with_reducible exact LeO.refl _)
      | (with_reducible exact LeO.none _)
      | (with_reducible refine LeO.ite ?_ ?_)
      | (with_reducible refine LeO.bind ?_ (fun _ => ?_))
      | exact ih0 _ _ _ _ _
      | exact ih1 _ _ _ _ _ _ _
      | exact ih2 _ _ _ _ _ _ _
      | exact spec_RuneMate.mono _ _
      | exact spec_l3Into.mono _ _ _
      | exact LeO.none _
      | refine LeO.ite ?_ ?_
      | refine LeO.bind ?_ (fun _ => ?_)
    · intro y0 y1 y2 y3 y4 y5 y6
      unfold spec_l3Mates.l1
      repeat' first
      | (with_reducible exact ih0 _ _ _ _ _)
      | (with_reducible exact ih1 _ _ _ _ _ _ _)
      | (with_reducible exact ih2 _ _ _ _ _ _ _)
      | (with_reducible exact spec_RuneMate.mono _ _)
      | (with_reducible exact spec_l3Into.mono _ _ _)
      | (with_reducible exact LeO.refl _)
      | (with_reducible exact LeO.none _)
      | (with_reducible refine LeO.ite ?_ ?_)
      | (with_reducible refine LeO.bind ?_ (fun _ => ?_))
      | exact ih0 _ _ _ _ _
      | exact ih1 _ _ _ _ _ _ _
      | exact ih2 _ _ _ _ _ _ _
      | exact spec_RuneMate.mono _ _
      | exact spec_l3Into.mono _ _ _
      | exact LeO.none _
      | refine LeO.ite ?_ ?_
      | refine LeO.bind ?_ (fun _ => ?_)
theorem spec_l3Mates.mono : ∀ a0 a1 k, LeO (spec_l3Mates.f k a0 a1) (spec_l3Mates.f (k + 1) a0 a1) := by
  intro a0 a1 k
  obtain ⟨ih0, ih1, ih2⟩ := spec_l3Mates.mono_l k
  unfold spec_l3Mates.f
  repeat' first
      | (with_reducible exact ih0 _ _ _ _ _)
      | (with_reducible exact ih1 _ _ _ _ _ _ _)
      | (with_reducible exact ih2 _ _ _ _ _ _ _)
      | (with_reducible exact spec_RuneMate.mono _ _)
      | (with_reducible exact spec_l3Into.mono _ _ _)
      | (with_reducible exact LeO.refl _)
      | (with_reducible exact LeO.none _)
      | (with_reducible refine LeO.ite ?_ ?_)
      | (with_reducible refine LeO.bind ?_ (fun _ => ?_))
      | exact ih0 _ _ _ _ _
      | exact ih1 _ _ _ _ _ _ _
      | exact ih2 _ _ _ _ _ _ _
      | exact spec_RuneMate.mono _ _
      | exact spec_l3Into.mono _ _ _
      | exact LeO.none _
      | refine LeO.ite ?_ ?_
      | refine LeO.bind ?_ (fun _ => ?_)
set_option maxHeartbeats 8000000 in
set_option maxRecDepth 100000 in
theorem spec_l3Mates.calls (k : Nat) (A0 : Option Addr) (c0 : Nat) (l0 : List Int) (A1 : Option Addr) (c1 : Nat) (l1 : List Int) (r : List (List Int)) (w : World) (hr0 : Kd.C (Kd.int .i64) w A0 l0.length l0) (hc0 : l0.length ≤ c0) (hr1 : Kd.C (Kd.int .i64) w A1 l1.length l1) (hc1 : l1.length ≤ c1) (h : spec_l3Mates.f k l0 l1 = some r) :
    Calls Try.prog 82 #[.slice A0 l0.length c0, .slice A1 l1.length c1] w fun e w' => ∃ v0_ : Value, e = .returned (v0_) ∧ Kd.N (Kd.slice 3 (Kd.int .i64)) 22 w' w.heap.size (fun k_ => (w.heap.size ≤ k_)) v0_ r ∧ Below w.heap.size w w' := by
  have HR0 := Aside0.mk hr0
  have HC0 := Aside0.mk hc0
  clear hr0 hc0
  have HR1 := Aside0.mk hr1
  have HC1 := Aside0.mk hc1
  clear hr1 hc1
  have HB := Aside0.mk (Below.refl w.heap.size w)
  have H : (spec_l3Mates.l0 k l0 l1 (([] : List (List Int))) (([] : List Int)) 0) = some r := h
  clear h
  obtain ⟨y168, hy168⟩ : ∃ y_ : List (List Int), y_ = (([] : List (List Int))) := ⟨_, rfl⟩
  replace H : (spec_l3Mates.l0 k l0 l1 y168 (([] : List Int)) 0) = some r := by first | (rw [hy168]; with_reducible exact H) | (have H2_ := (Option.bind_some _ _).symm.trans H; rw [hy168]; with_reducible exact H2_) | (have H2_ := (Option.bind_some _ _).symm.trans H; with_reducible exact H2_) | with_reducible exact H | (rw [hy168]; exact H) | exact H
  have Ny168 := Aside0.mk hy168
  clear hy168
  obtain ⟨y171, hy171⟩ : ∃ y_ : List Int, y_ = (([] : List Int)) := ⟨_, rfl⟩
  replace H : (spec_l3Mates.l0 k l0 l1 y168 y171 0) = some r := by first | (rw [hy171]; with_reducible exact H) | (have H2_ := (Option.bind_some _ _).symm.trans H; rw [hy171]; with_reducible exact H2_) | (have H2_ := (Option.bind_some _ _).symm.trans H; with_reducible exact H2_) | with_reducible exact H | (rw [hy171]; exact H) | exact H
  have Ny171 := Aside0.mk hy171
  clear hy171
  have H' := Aside0.mk H
  clear H
  go_enter Try.func82, Try.ntmps82
  go_wp2_with (first | ((with_reducible refine gate_dst (N := 10) rfl ?_); refine Kd.N_lit (Kd.slice 3 (Kd.int .i64)) _ 22 ?hg (N' := 10) ?hd (xs := ([] : List (List Int))) (inner := []) (ok := (fun k_ => (w.heap.size ≤ k_))) (okp := (fun k_ => (w.heap.size ≤ k_))) ?hr ?hp (fun _ hk => hk) ((show ∀ k_, w.heap.size ≤ k_ → (fun k_ => (w.heap.size ≤ k_)) k_ from fun k_ hk => (Nat.le_trans (below_size (by repeat (first | (with_reducible first | exact HB.out | apply below_alloc | apply pw_below_drewN | apply below_drew1) | exact HB.out))) hk)) _ (Nat.le_refl _)) (Below.refl _ _) (Nat.le_refl _) (by simp) ?_; (case hd => rfl); (case hg => rfl); (case hr => first | (go_simp; done) | (go_simp; rfl)); (case hp => exact (Reps.none _ _)); intro v169 w3 ho4 hb hg_ hnew_; clear hg_ hnew_; (first | rw [← Ny168.out] at ho4 | (simp only [Int.reduceToNat] at ho4; rw [← Ny168.out] at ho4)); have n0_ := Aside0.mk (Kd.N_lower ho4 (below_size (by repeat (first | (with_reducible first | exact HB.out | apply below_alloc | apply pw_below_drewN | apply below_drew1) | exact HB.out)))); have n1_ := Aside0.mk (below_step (by repeat (first | (with_reducible first | exact HB.out | apply below_alloc | apply pw_below_drewN | apply below_drew1) | exact HB.out)) hb); clear HB; have HO170 := n0_; have HB := n1_; clear n0_ n1_; clear hb ho4) | ((with_reducible refine gate_dst (N := 11) rfl ?_); refine Kd.R_lit (Kd.int .i64) _ 3 ?hg (N := 11) ?hd (xs := ([] : List Int)) (inner := []) (ok := fun _ => True) (okp := fun _ => True) ?hr ?hp (fun _ hk => hk) trivial (Below.refl _ _) (Nat.le_refl _) (by simp) ?_; (case hd => rfl); (case hg => rfl); (case hr => first | (go_simp; done) | (go_simp; rfl)); (case hp => exact (Reps.none _ _)); intro v172 w5 ho6 hb hg_ hnew_; clear hg_ hnew_; (first | rw [← Ny171.out] at ho6 | (simp only [Int.reduceToNat] at ho6; rw [← Ny171.out] at ho6)); have n0_ := Aside0.mk (Kd.N_elder' (by (with_reducible repeat (first | apply Kd.N_alloc | apply Kd.N_drewN | apply Kd.N_drew)); exact HO170.out) (Kd.R_base ho6) hb); have n1_ := Aside0.mk (Kd.R_lower (Kd.R_newM (M := fun k_ => (w.heap.size ≤ k_)) ho6 (below_size (by repeat (first | (with_reducible first | exact HB.out | apply below_alloc | apply pw_below_drewN | apply below_drew1) | exact HB.out))) (fun k_ h_ => h_)) (below_size (by repeat (first | (with_reducible first | exact HB.out | apply below_alloc | apply pw_below_drewN | apply below_drew1) | exact HB.out)))); have n2_ := Aside0.mk (below_step (by repeat (first | (with_reducible first | exact HB.out | apply below_alloc | apply pw_below_drewN | apply below_drew1) | exact HB.out)) hb); clear HO170; clear HB; have HO170 := n0_; have HO173 := n1_; have HB := n2_; clear n0_ n1_ n2_; clear hb ho6))
  go_loopg [5, 6, 7] k (fun kq v5 v6 v7 w' => ∃ (x5_1 : List (List Int)) (x6_1 : List Int) (x7_1 : Int), v7 = .int .i64 x7_1 ∧ Aside0 (spec_l3Mates.l0 kq l0 l1 x5_1 x6_1 x7_1 = some r) ∧ Aside0 (kq ≤ k) ∧ Aside0 (Kd.N (Kd.slice 3 (Kd.int .i64)) 22 w' w.heap.size (fun k_ => (w.heap.size ≤ k_) ∧ some k_ ≠ (v6 : Value).ownBlock) v5 x5_1) ∧ Aside0 (Kd.R (Kd.int .i64) 3 w' w.heap.size (fun k_ => (w.heap.size ≤ k_)) v6 x6_1) ∧ Aside0 (Below w.heap.size w w'))
  case atStart => exact ⟨(y168), (y171), (0), (by first | rfl | (simp; done) | (simp [*]; done)), H', ⟨Nat.le_refl _⟩, ⟨by (with_reducible repeat (first | apply Kd.N_alloc | apply Kd.N_drewN | apply Kd.N_drew)); exact HO170.out⟩, ⟨by (with_reducible repeat (first | apply Kd.R_alloc | apply Kd.R_drewN | apply Kd.R_drew)); exact Kd.R_mono HO173.out (fun _ hk => hk.1)⟩, ⟨by repeat (first | (with_reducible first | exact HB.out | apply below_alloc | apply pw_below_drewN | apply below_drew1) | exact HB.out)⟩⟩
  case round =>
    clear H'
    try clear c1
    try clear p2
    obtain ⟨x5_1, x6_1, x7_1, rfl, HA, HK1, HO_5, HO_6, HB⟩ := hrel
    cases gk with
    | zero => exact absurd HA.out (by simp [spec_l3Mates.l0])
    | succ k1 =>
      have H := HA.out
      clear HA
      simp only [spec_l3Mates.l0] at H
      by_cases c7 : x7_1 < (l0.length : Int)
      · rw [if_pos c7] at H
        have c7b0 : decide (x7_1 < (l0.length : Int)) = true := decide_eq_true c7
        clear c7
        by_cases c8 : 0 ≤ x7_1
        · rw [if_pos c8] at H
          have c8b0 : decide (0 ≤ x7_1) = true := decide_eq_true c8
          clear c8
          replace H := Option.bind_eq_some_iff.mp H
          obtain ⟨t175, A90, H⟩ := H
          replace H : (if t175 = 0 then (spec_l3Mates.j1 k1 l0 l1 x5_1 x6_1 x7_1 t175 true) else (if x7_1 < (l1.length : Int) then (spec_l3Mates.j1 k1 l0 l1 x5_1 x6_1 x7_1 t175 ((rd l1 x7_1) != 13)) else (none))) = some r := H
          have A9 := Aside0.mk A90
          clear A90
          have HC10 := Aside0.mk H
          clear H
          have p174 : 0 ≤ (x7_1 : Int) := of_decide_eq_true (by first | (with_reducible assumption) | assumption)
          have q174 : x7_1 < (l0.length : Int) := of_decide_eq_true (by first | (with_reducible assumption) | assumption)
          obtain ⟨ad174, e174, hx174_0⟩ := Kd.at_int HR0.out x7_1 p174 q174
          cases e174
          replace hx174_0 := (HB.out.cell (World.block_lt_of_cell? w _ hx174_0)).trans hx174_0
          replace p174 := eq_true p174
          replace q174 := eq_true q174
          go_upto_region 7 with (first | ((with_reducible refine gate_callee (f := 120) rfl ?_); refine goesL_ (some 22) rfl rfl Try.func120 (by kernel_rfl) rfl #[.int .i64 (rd l0 x7_1)] rfl (by (try simp only [List.map_toArray, List.map_cons, List.map_nil]); first | done | rfl | (simp only [List.length_drop, List.length_take]; rfl)) ?_; (with_reducible refine (spec_RuneMate.calls k1 (rd l0 x7_1) t175 _ A9.out).mono ?_); rintro e w11 ⟨rfl, hb⟩; refine ⟨_, rfl, ?_⟩; have n0_ := Aside0.mk (Kd.N_below (by (with_reducible repeat (first | apply Kd.N_alloc | apply Kd.N_drewN | apply Kd.N_drew)); exact HO_5.out) hb); have n1_ := Aside0.mk (Kd.R_below (by (with_reducible repeat (first | apply Kd.R_alloc | apply Kd.R_drewN | apply Kd.R_drew)); exact HO_6.out) hb); have n2_ := Aside0.mk (below_step (by repeat (first | (with_reducible first | exact HB.out | apply below_alloc | apply pw_below_drewN | apply below_drew1) | exact HB.out)) hb); clear HO_5; clear HO_6; clear HB; have HO_5 := n0_; have HO_6 := n1_; have HB := n2_; clear n0_ n1_ n2_; (try clear hb); (try clear hb2); (try clear hk); (try clear hi)))
          (try simp only [Act.put, List.setIfInBounds_toArray, List.set_cons_zero, List.set_cons_succ])
          go_cut [31] (fun v31 wc => ∃ (kq : Nat) (x31_9 : Bool), v31 = .bool x31_9 ∧ Aside0 (spec_l3Mates.j1 kq l0 l1 x5_1 x6_1 x7_1 t175 x31_9 = some r) ∧ Aside0 (kq ≤ k1) ∧ Aside0 (Kd.N (Kd.slice 3 (Kd.int .i64)) 22 wc w.heap.size (fun k_ => (w.heap.size ≤ k_) ∧ some k_ ≠ (u6 : Value).ownBlock) u5 x5_1) ∧ Aside0 (Kd.R (Kd.int .i64) 3 wc w.heap.size (fun k_ => (w.heap.size ≤ k_)) u6 x6_1) ∧ Aside0 (Below w.heap.size w wc))
          case first =>
            have H := HC10.out
            clear HC10
            by_cases c12 : t175 = 0
            · rw [if_pos c12] at H
              have c12b0 : (t175 == 0) = true := beq_iff_eq.mpr c12
              have c12b1 : (t175 != 0) = false := bne_eq_false_iff_eq.mpr c12
              clear c12
              (first | rw [c12b0] | (simp only [i64_w, i32_w]; rw [c12b0]) | skip)
              have H' := Aside0.mk H
              clear H
              go_wp2
              go_meet
              case rel => exact ⟨_, (true), (by first | rfl | (simp; done) | (simp [*]; done)), H', ⟨by have := HK1.out; first | omega | exact Nat.le_refl _⟩, ⟨by (with_reducible repeat (first | apply Kd.N_alloc | apply Kd.N_drewN | apply Kd.N_drew)); exact HO_5.out⟩, ⟨by (with_reducible repeat (first | apply Kd.R_alloc | apply Kd.R_drewN | apply Kd.R_drew)); exact HO_6.out⟩, ⟨by repeat (first | (with_reducible first | exact HB.out | apply below_alloc | apply pw_below_drewN | apply below_drew1) | exact HB.out)⟩⟩
            · rw [if_neg c12] at H
              have c12b0 : (t175 == 0) = false := beq_eq_false_iff_ne.mpr c12
              have c12b1 : (t175 != 0) = true := bne_iff_ne.mpr c12
              (first | rw [c12b0] | (simp only [i64_w, i32_w]; rw [c12b0]) | skip)
              by_cases c13 : x7_1 < (l1.length : Int)
              · rw [if_pos c13] at H
                have c13b0 : decide (x7_1 < (l1.length : Int)) = true := decide_eq_true c13
                clear c13
                have H' := Aside0.mk H
                clear H
                have p176 : 0 ≤ (x7_1 : Int) := of_decide_eq_true (by first | (with_reducible assumption) | assumption)
                have q176 : x7_1 < (l1.length : Int) := of_decide_eq_true (by first | (with_reducible assumption) | assumption)
                obtain ⟨ad176, e176, hx176_0⟩ := Kd.at_int HR1.out x7_1 p176 q176
                cases e176
                replace hx176_0 := (HB.out.cell (World.block_lt_of_cell? w _ hx176_0)).trans hx176_0
                replace p176 := eq_true p176
                replace q176 := eq_true q176
                go_wp2
                go_meet
                case rel => exact ⟨_, (((rd l1 x7_1) != 13)), (by first | rfl | (simp; done) | (simp [*]; done)), H', ⟨by have := HK1.out; first | omega | exact Nat.le_refl _⟩, ⟨by (with_reducible repeat (first | apply Kd.N_alloc | apply Kd.N_drewN | apply Kd.N_drew)); exact HO_5.out⟩, ⟨by (with_reducible repeat (first | apply Kd.R_alloc | apply Kd.R_drewN | apply Kd.R_drew)); exact HO_6.out⟩, ⟨by repeat (first | (with_reducible first | exact HB.out | apply below_alloc | apply pw_below_drewN | apply below_drew1) | exact HB.out)⟩⟩
              · rw [if_neg c13] at H
                exact absurd H (by simp)
          case rest =>
            clear HC10
            try clear c1
            try clear p1
            try clear q1
            try clear hx1
            try clear p2
            try clear c7
            try clear c7b0
            try clear c8
            try clear c8b0
            try clear c12
            try clear c12b0
            try clear c12b1
            try clear c13
            try clear c13b0
            try clear hx174_0
            try clear hx176_0
            try clear p174
            try clear p176
            try clear p2
            try clear q174
            try clear q176
            obtain ⟨kq, x31_9, rfl, HA, HJ9, HO_5, HO_6, HB⟩ := hcut
            cases kq with
            | zero => exact absurd HA.out (by simp [spec_l3Mates.j1])
            | succ kj9 =>
              have H := HA.out
              clear HA
              simp only [spec_l3Mates.j1] at H
              by_cases c14 : x31_9 = true
              · subst c14
                have H1 : (spec_l3Mates.l0 kj9 l0 l1 x5_1 x6_1 (wrap64 (x7_1 + 1))) = some r := by rw [if_pos rfl] at H; exact H
                clear H
                have H := H1
                clear H1
                have H' := Aside0.mk H
                clear H
                go_wp2
                go_roundg kj9
                case measure => have := HK1.out; have := HJ9.out; omega
                case rel => exact ⟨(x5_1), (x6_1), (wrap64 (x7_1 + 1)), (by first | rfl | (simp; done) | (simp [*]; done)), H', ⟨by have := HK1.out; have := HJ9.out; omega⟩, ⟨by (with_reducible repeat (first | apply Kd.N_alloc | apply Kd.N_drewN | apply Kd.N_drew)); exact HO_5.out⟩, ⟨by (with_reducible repeat (first | apply Kd.R_alloc | apply Kd.R_drewN | apply Kd.R_drew)); exact HO_6.out⟩, ⟨by repeat (first | (with_reducible first | exact HB.out | apply below_alloc | apply pw_below_drewN | apply below_drew1) | exact HB.out)⟩⟩
              · replace c14 := Bool.eq_false_iff.mpr c14
                subst c14
                have H1 : (if 0 ≤ x7_1 then (if x7_1 < (l0.length : Int) then (if t175 > (rd l0 x7_1) then (if x6_1.length < 17592186044416 then (spec_l3Mates.l0 kj9 l0 l1 x5_1 (x6_1 ++ [x7_1]) (wrap64 (x7_1 + 1))) else (none)) else (spec_l3Mates.l1 kj9 l0 l1 x5_1 x6_1 x7_1 t175 (wrap64 ((x6_1.length : Int) - 1)))) else (none)) else (none)) = some r := by rw [if_neg (show ¬ (false = true) by decide)] at H; exact H
                clear H
                have H := H1
                clear H1
                by_cases c15 : 0 ≤ x7_1
                · rw [if_pos c15] at H
                  have c15b0 : decide (0 ≤ x7_1) = true := decide_eq_true c15
                  clear c15
                  by_cases c16 : x7_1 < (l0.length : Int)
                  · rw [if_pos c16] at H
                    have c16b0 : decide (x7_1 < (l0.length : Int)) = true := decide_eq_true c16
                    clear c16
                    by_cases c17 : t175 > (rd l0 x7_1)
                    · rw [if_pos c17] at H
                      have c17b0 : decide ((rd l0 x7_1) < t175) = true := decide_eq_true c17
                      clear c17
                      by_cases c18 : x6_1.length < 17592186044416
                      · rw [if_pos c18] at H
                        have LMc18 := Aside0.mk c18
                        clear c18
                        obtain ⟨y178, hy178⟩ : ∃ y_ : List Int, y_ = (x6_1 ++ [x7_1]) := ⟨_, rfl⟩
                        replace H : (spec_l3Mates.l0 kj9 l0 l1 x5_1 y178 (wrap64 (x7_1 + 1))) = some r := by first | (rw [hy178]; with_reducible exact H) | (have H2_ := (Option.bind_some _ _).symm.trans H; rw [hy178]; with_reducible exact H2_) | (have H2_ := (Option.bind_some _ _).symm.trans H; with_reducible exact H2_) | with_reducible exact H | (rw [hy178]; exact H) | exact H
                        have Ny178 := Aside0.mk hy178
                        clear hy178
                        have H' := Aside0.mk H
                        clear H
                        have p177 : 0 ≤ (x7_1 : Int) := of_decide_eq_true (by first | (with_reducible assumption) | assumption)
                        have q177 : x7_1 < (l0.length : Int) := of_decide_eq_true (by first | (with_reducible assumption) | assumption)
                        obtain ⟨ad177, e177, hx177_0⟩ := Kd.at_int HR0.out x7_1 p177 q177
                        obtain rfl : ad174 = ad177 := (by injection e177)
                        replace hx177_0 := (HB.out.cell (World.block_lt_of_cell? w _ hx177_0)).trans hx177_0
                        replace p177 := eq_true p177
                        replace q177 := eq_true q177
                        go_wp2_with (first | ((with_reducible refine gate_builtin (b := .append) (xs := #[.tmp 38, .tmp 40]) rfl ?_); at_builtin; refine Kd.R_append (Kd.int .i64) (w0 := w) w.heap.size rfl (.tmp 38) (.tmp 40) 22 3 (.int .i64 0) 8 rfl Try.underlying22 info3 rfl (by decide) (by omega) u6 x6_1 x7_1 [.int .i64 x7_1] (fun k_ => (w.heap.size ≤ k_)) (fun _ => False) rfl rfl ?aP (fun _ hk => hk.elim) ?aF ?aO ?aB ?aS ?aL ?_; (case aP => exact rfl); (case aB => exact (by repeat (first | (with_reducible first | exact HB.out | apply below_alloc | apply pw_below_drewN | apply below_drew1) | exact HB.out))); (case aF => exact (fun k_ hk => (Nat.le_trans (below_size (by repeat (first | (with_reducible first | exact HB.out | apply below_alloc | apply pw_below_drewN | apply below_drew1) | exact HB.out))) hk))); (case aO => exact (by (with_reducible repeat (first | apply Kd.R_alloc | apply Kd.R_drewN | apply Kd.R_drew)); exact HO_6.out)); (case aS => exact (below_size (by repeat (first | (with_reducible first | exact HB.out | apply below_alloc | apply pw_below_drewN | apply below_drew1) | exact HB.out)))); (case aL => have := LMc18.out; omega); intro v179 w19 ho hb hg hat; rw [← Ny178.out] at ho; have n0_ := Aside0.mk (Kd.N_afterv (ok := (fun k_ => (w.heap.size ≤ k_))) (by (with_reducible repeat (first | apply Kd.N_alloc | apply Kd.N_drewN | apply Kd.N_drew)); exact HO_5.out) hg hat); have n1_ := Aside0.mk (hb); have n2_ := Aside0.mk (ho); clear HO_5; clear HB; clear HO_6; have HO_5 := n0_; have HB := n1_; have HO180 := n2_; clear n0_ n1_ n2_; clear ho hb hg hat))
                        go_roundg kj9
                        case measure => have := HK1.out; have := HJ9.out; omega
                        case rel => exact ⟨(x5_1), (y178), (wrap64 (x7_1 + 1)), (by first | rfl | (simp; done) | (simp [*]; done)), H', ⟨by have := HK1.out; have := HJ9.out; omega⟩, ⟨by (with_reducible repeat (first | apply Kd.N_alloc | apply Kd.N_drewN | apply Kd.N_drew)); exact HO_5.out⟩, ⟨by (with_reducible repeat (first | apply Kd.R_alloc | apply Kd.R_drewN | apply Kd.R_drew)); exact HO180.out⟩, ⟨by repeat (first | (with_reducible first | exact HB.out | apply below_alloc | apply pw_below_drewN | apply below_drew1) | exact HB.out)⟩⟩
                      · rw [if_neg c18] at H
                        exact absurd H (by simp)
                    · rw [if_neg c17] at H
                      have c17b0 : decide ((rd l0 x7_1) < t175) = false := decide_eq_false c17
                      clear c17
                      have H' := Aside0.mk H
                      clear H
                      have p177 : 0 ≤ (x7_1 : Int) := of_decide_eq_true (by first | (with_reducible assumption) | assumption)
                      have q177 : x7_1 < (l0.length : Int) := of_decide_eq_true (by first | (with_reducible assumption) | assumption)
                      obtain ⟨ad177, e177, hx177_0⟩ := Kd.at_int HR0.out x7_1 p177 q177
                      obtain rfl : ad174 = ad177 := (by injection e177)
                      replace hx177_0 := (HB.out.cell (World.block_lt_of_cell? w _ hx177_0)).trans hx177_0
                      replace p177 := eq_true p177
                      replace q177 := eq_true q177
                      obtain ⟨Ao20, co20, eo20⟩ := Kd.R_slice HO_6.out
                      subst eo20
                      go_wp2
                      go_loopg [5, 6, 9] kj9 (fun kq v5 v6 v9 w' => ∃ (x5_3 : List (List Int)) (x6_3 : List Int) (x9_3 : Int), v9 = .int .i64 x9_3 ∧ Aside0 (spec_l3Mates.l1 kq l0 l1 x5_3 x6_3 x7_1 t175 x9_3 = some r) ∧ Aside0 (kq ≤ kj9) ∧ Aside0 (Kd.N (Kd.slice 3 (Kd.int .i64)) 22 w' w.heap.size (fun k_ => (w.heap.size ≤ k_) ∧ some k_ ≠ (v6 : Value).ownBlock) v5 x5_3) ∧ Aside0 (Kd.R (Kd.int .i64) 3 w' w.heap.size (fun k_ => (w.heap.size ≤ k_)) v6 x6_3) ∧ Aside0 (Below w.heap.size w w'))
                      case atStart => exact ⟨(x5_1), (x6_1), (wrap64 ((x6_1.length : Int) - 1)), (by first | rfl | (simp; done) | (simp [*]; done)), H', ⟨Nat.le_refl _⟩, ⟨by (with_reducible repeat (first | apply Kd.N_alloc | apply Kd.N_drewN | apply Kd.N_drew)); exact HO_5.out⟩, ⟨by (with_reducible repeat (first | apply Kd.R_alloc | apply Kd.R_drewN | apply Kd.R_drew)); exact HO_6.out⟩, ⟨by repeat (first | (with_reducible first | exact HB.out | apply below_alloc | apply pw_below_drewN | apply below_drew1) | exact HB.out)⟩⟩
                      case round =>
                        clear H'
                        try clear c1
                        try clear p1
                        try clear q1
                        try clear hx1
                        try clear p2
                        try clear p6
                        try clear c7
                        try clear c7b0
                        try clear c8
                        try clear c8b0
                        try clear c12
                        try clear c12b0
                        try clear c12b1
                        try clear c13
                        try clear c13b0
                        try clear c14
                        try clear c15
                        try clear c15b0
                        try clear c16
                        try clear c16b0
                        try clear c17
                        try clear c17b0
                        try clear p17
                        try clear q17
                        try clear hx17
                        try clear c18
                        try clear hx174_0
                        try clear hx176_0
                        try clear hx177_0
                        try clear p1
                        try clear p174
                        try clear p176
                        try clear p177
                        try clear p2
                        try clear q1
                        try clear q174
                        try clear q176
                        try clear q177
                        obtain ⟨x5_3, x6_3, x9_3, rfl, HA, HK3, HO_5, HO_6, HB⟩ := hrel
                        cases gk with
                        | zero => exact absurd HA.out (by simp [spec_l3Mates.l1])
                        | succ k3 =>
                          have H := HA.out
                          clear HA
                          simp only [spec_l3Mates.l1] at H
                          by_cases c21 : x9_3 ≥ 0
                          · rw [if_pos c21] at H
                            have c21b0 : decide (0 ≤ x9_3) = true := decide_eq_true c21
                            clear c21
                            by_cases c22 : 0 ≤ x9_3
                            · rw [if_pos c22] at H
                              have c22b0 : decide (0 ≤ x9_3) = true := decide_eq_true c22
                              clear c22
                              by_cases c23 : x9_3 < (x6_3.length : Int)
                              · rw [if_pos c23] at H
                                have c23b0 : decide (x9_3 < (x6_3.length : Int)) = true := decide_eq_true c23
                                clear c23
                                by_cases c24 : 0 ≤ (rd x6_3 x9_3)
                                · rw [if_pos c24] at H
                                  have c24b0 : decide (0 ≤ (rd x6_3 x9_3)) = true := decide_eq_true c24
                                  clear c24
                                  by_cases c25 : (rd x6_3 x9_3) < (l0.length : Int)
                                  · rw [if_pos c25] at H
                                    have c25b0 : decide ((rd x6_3 x9_3) < (l0.length : Int)) = true := decide_eq_true c25
                                    clear c25
                                    by_cases c26 : (rd l0 (rd x6_3 x9_3)) = t175
                                    · rw [if_pos c26] at H
                                      have c26b0 : ((rd l0 (rd x6_3 x9_3)) == t175) = true := beq_iff_eq.mpr c26
                                      have c26b1 : ((rd l0 (rd x6_3 x9_3)) != t175) = false := bne_eq_false_iff_eq.mpr c26
                                      clear c26
                                      obtain ⟨y184, hy184⟩ : ∃ y_ : List Int, y_ = (([rd x6_3 x9_3, x7_1] : List Int)) := ⟨_, rfl⟩
                                      replace H : ((spec_l3Into.f k3 x5_3 y184).bind fun t187 => (if x9_3 ≤ (x6_3.length : Int) then (spec_l3Mates.l0 k3 l0 l1 t187 (x6_3.take (x9_3 : Int).toNat) (wrap64 (x7_1 + 1))) else (none))) = some r := by first | (rw [hy184]; with_reducible exact H) | (have H2_ := (Option.bind_some _ _).symm.trans H; rw [hy184]; with_reducible exact H2_) | (have H2_ := (Option.bind_some _ _).symm.trans H; with_reducible exact H2_) | with_reducible exact H | (rw [hy184]; exact H) | exact H
                                      have Ny184 := Aside0.mk hy184
                                      clear hy184
                                      replace H := Option.bind_eq_some_iff.mp H
                                      obtain ⟨t187, A270, H⟩ := H
                                      replace H : (if x9_3 ≤ (x6_3.length : Int) then (spec_l3Mates.l0 k3 l0 l1 t187 (x6_3.take (x9_3 : Int).toNat) (wrap64 (x7_1 + 1))) else (none)) = some r := H
                                      have A27 := Aside0.mk A270
                                      clear A270
                                      by_cases c28 : x9_3 ≤ (x6_3.length : Int)
                                      · rw [if_pos c28] at H
                                        have c28b0 := eq_true c28
                                        have c28b1 : decide (x9_3 ≤ (x6_3.length : Int)) = true := decide_eq_true c28
                                        clear c28
                                        obtain ⟨y190, hy190⟩ : ∃ y_ : List Int, y_ = (x6_3.take (x9_3 : Int).toNat) := ⟨_, rfl⟩
                                        replace H : (spec_l3Mates.l0 k3 l0 l1 t187 y190 (wrap64 (x7_1 + 1))) = some r := by first | (rw [hy190]; with_reducible exact H) | (have H2_ := (Option.bind_some _ _).symm.trans H; rw [hy190]; with_reducible exact H2_) | (have H2_ := (Option.bind_some _ _).symm.trans H; with_reducible exact H2_) | with_reducible exact H | (rw [hy190]; exact H) | exact H
                                        have Ny190 := Aside0.mk hy190
                                        clear hy190
                                        have H' := Aside0.mk H
                                        clear H
                                        obtain ⟨Ao29, co29, eo29⟩ := Kd.R_slice HO_6.out
                                        subst eo29
                                        have p181 : 0 ≤ (x9_3 : Int) := of_decide_eq_true (by first | (with_reducible assumption) | assumption)
                                        have q181 : x9_3 < (x6_3.length : Int) := of_decide_eq_true (by first | (with_reducible assumption) | assumption)
                                        obtain ⟨ad181, e181, hx181_0⟩ := Kd.at_int (Kd.R_reads' HO_6.out).2.2 x9_3 p181 q181
                                        cases e181
                                        replace p181 := eq_true p181
                                        replace q181 := eq_true q181
                                        have p182 : 0 ≤ ((rd x6_3 x9_3) : Int) := of_decide_eq_true (by first | (with_reducible assumption) | assumption)
                                        have q182 : (rd x6_3 x9_3) < (l0.length : Int) := of_decide_eq_true (by first | (with_reducible assumption) | assumption)
                                        obtain ⟨ad182, e182, hx182_0⟩ := Kd.at_int HR0.out (rd x6_3 x9_3) p182 q182
                                        obtain rfl : ad174 = ad182 := (by injection e182)
                                        replace hx182_0 := (HB.out.cell (World.block_lt_of_cell? w _ hx182_0)).trans hx182_0
                                        replace p182 := eq_true p182
                                        replace q182 := eq_true q182
                                        have p183 : 0 ≤ (x9_3 : Int) := of_decide_eq_true (by first | (with_reducible assumption) | assumption)
                                        have q183 : x9_3 < (x6_3.length : Int) := of_decide_eq_true (by first | (with_reducible assumption) | assumption)
                                        obtain ⟨ad183, e183, hx183_0⟩ := Kd.at_int (Kd.R_reads' HO_6.out).2.2 x9_3 p183 q183
                                        obtain rfl : ad181 = ad183 := (by injection e183)
                                        replace p183 := eq_true p183
                                        replace q183 := eq_true q183
                                        go_wp2_with (first | ((with_reducible refine gate_dst (N := 64) rfl ?_); refine Kd.R_lit (Kd.int .i64) _ 3 ?hg (N := 64) ?hd (xs := ([rd x6_3 x9_3, x7_1] : List Int)) (inner := [.int .i64 (rd x6_3 x9_3), .int .i64 x7_1]) (ok := fun _ => True) (okp := fun _ => True) ?hr ?hp (fun _ hk => hk) trivial (Below.refl _ _) (Nat.le_refl _) (by simp) ?_; (case hd => rfl); (case hg => rfl); (case hr => first | (go_simp; done) | (go_simp; rfl)); (case hp => exact (Reps.one (show Kd.M (Kd.int .i64) _ _ _ (rd x6_3 x9_3) [.int .i64 (rd x6_3 x9_3)] from rfl) (Reps.one (show Kd.M (Kd.int .i64) _ _ _ x7_1 [.int .i64 x7_1] from rfl) (Reps.none _ _)))); intro v185 w30 ho31 hb hg_ hnew_; clear hg_ hnew_; (first | rw [← Ny184.out] at ho31 | (simp only [Int.reduceToNat] at ho31; rw [← Ny184.out] at ho31)); have n0_ := Aside0.mk (Kd.N_elder' (by (with_reducible repeat (first | apply Kd.N_alloc | apply Kd.N_drewN | apply Kd.N_drew)); exact HO_5.out) (Kd.R_base ho31) hb); have n1_ := Aside0.mk (Kd.R_elder' (by (with_reducible repeat (first | apply Kd.R_alloc | apply Kd.R_drewN | apply Kd.R_drew)); exact HO_6.out) (Kd.R_base ho31) hb); have n2_ := Aside0.mk (Kd.R_lower (Kd.R_new' (Kd.R_newM (M := fun k_ => (w.heap.size ≤ k_)) ho31 (below_size (by repeat (first | (with_reducible first | exact HB.out | apply below_alloc | apply pw_below_drewN | apply below_drew1) | exact HB.out))) (fun k_ h_ => h_)) (Kd.R_lt (by (with_reducible repeat (first | apply Kd.R_alloc | apply Kd.R_drewN | apply Kd.R_drew)); exact HO_6.out))) (below_size (by repeat (first | (with_reducible first | exact HB.out | apply below_alloc | apply pw_below_drewN | apply below_drew1) | exact HB.out)))); have n3_ := Aside0.mk (below_step (by repeat (first | (with_reducible first | exact HB.out | apply below_alloc | apply pw_below_drewN | apply below_drew1) | exact HB.out)) hb); clear HO_5; clear HO_6; clear HB; have HO_5 := n0_; have HO_6 := n1_; have HO186 := n2_; have HB := n3_; clear n0_ n1_ n2_ n3_; clear hb ho31; obtain ⟨Ao32, co32, eo32⟩ := Kd.N_slice HO_5.out; subst eo32; obtain ⟨Ao33, co33, eo33⟩ := Kd.R_slice HO186.out; subst eo33) | ((with_reducible refine gate_callee (f := 121) rfl ?_); refine goesL_ (some 65) rfl rfl Try.func121 (by kernel_rfl) rfl #[.slice Ao32 x5_3.length co32, .slice Ao33 y184.length co33] rfl (by (try simp only [List.map_toArray, List.map_cons, List.map_nil]); first | done | rfl | (simp only [List.length_drop, List.length_take]; rfl)) ?_; (with_reducible refine (spec_l3Into.calls k3 (fun k_ => (((w.heap.size ≤ k_) ∧ some k_ ≠ (.slice (some ad181) x6_3.length co29 : Value).ownBlock) ∧ some k_ ≠ (.slice Ao33 y184.length co33 : Value).ownBlock)) _ _ x5_3 (fun k_ => some k_ = (.slice Ao33 y184.length co33 : Value).ownBlock) _ _ y184 t187 _ ?side1 ?side2 A27.out).mono ?_); (case side1 => exact Kd.N_V (HO_5.out)); (case side2 => exact Kd.R_V (Kd.R_tight rfl (Kd.R_apart' (HO186.out) (Kd.N_typed HO_5.out) (by decide)))); rintro e w34 ⟨v188, rfl, ho0, hb⟩; refine ⟨_, rfl, ?_⟩; have n0_ := Aside0.mk (Kd.N_elder' (by (with_reducible repeat (first | apply Kd.N_alloc | apply Kd.N_drewN | apply Kd.N_drew)); exact HO_5.out) (Kd.N_base ho0) hb); have n1_ := Aside0.mk (Kd.R_below (by (with_reducible repeat (first | apply Kd.R_alloc | apply Kd.R_drewN | apply Kd.R_drew)); exact HO_6.out) hb); have n2_ := Aside0.mk (Kd.R_below (by (with_reducible repeat (first | apply Kd.R_alloc | apply Kd.R_drewN | apply Kd.R_drew)); exact HO186.out) hb); have n3_ := Aside0.mk (Kd.N_lower (Kd.N_mono (ok' := fun k_ => (w.heap.size ≤ k_) ∧ some k_ ≠ (.slice (some ad181) x6_3.length co29 : Value).ownBlock) ho0 (fun k_ hk_ => ⟨Or.elim hk_ (fun hs_ => Or.elim hs_ (fun hs_ => hs_.1.1) (fun hs_ => ((Kd.R_apart' (HO186.out) (Kd.N_typed HO_5.out) (by decide)).1 k_ hs_.symm).1.1.1)) (fun hn_ => (Nat.le_trans (below_size (by repeat (first | (with_reducible first | exact HB.out | apply below_alloc | apply pw_below_drewN | apply below_drew1) | exact HB.out))) hn_)), Or.elim hk_ (fun hs_ => Or.elim hs_ (fun hs_ => hs_.1.2) (fun hs_ => ((Kd.R_apart' (HO186.out) (Kd.N_typed HO_5.out) (by decide)).1 k_ hs_.symm).1.2)) (fun hn_ => (Kd.fresh' (Kd.R_lt (by (with_reducible repeat (first | apply Kd.R_alloc | apply Kd.R_drewN | apply Kd.R_drew)); exact HO_6.out)) k_ hn_))⟩)) (below_size (by repeat (first | (with_reducible first | exact HB.out | apply below_alloc | apply pw_below_drewN | apply below_drew1) | exact HB.out)))); have n4_ := Aside0.mk (below_step (by repeat (first | (with_reducible first | exact HB.out | apply below_alloc | apply pw_below_drewN | apply below_drew1) | exact HB.out)) hb); clear HO_5; clear HO_6; clear HO186; clear HB; have HO_5 := n0_; have HO_6 := n1_; have HO186 := n2_; have HO189 := n3_; have HB := n4_; clear n0_ n1_ n2_ n3_ n4_; (try clear hb); (try clear hb2); (try clear hk); (try clear hi); (try clear ho0); have q35 : (x9_3 : Int) ≤ ((x6_3.length : Int) : Int) := of_decide_eq_true (by first | (with_reducible assumption) | assumption); obtain ⟨i035, hi035, _, hsz35, _⟩ := info_parts info3; have hcut35 := cut_to (P := Try.prog) 22 3 .i64 Try.underlying22 hi035 (some ad181) x6_3.length co29 x9_3 (of_decide_eq_true (by first | (with_reducible assumption) | assumption)) q35 (Kd.R_reads' HO_6.out).2.1; have hr35 := Kd.R_take (m := (x9_3 : Int).toNat) HO_6.out (by omega); have hy35 : y190.length = (x9_3 : Int).toNat := (by rw [Ny190.out, List.length_take]; omega); rw [← Ny190.out] at hr35; rw [← hy35] at hr35 hcut35; clear hy35 hi035 hsz35 HO_6; have HO192 := Aside0.mk hr35; clear hr35; replace q35 := eq_true q35))
                                        go_roundg k3
                                        case measure => have := HK1.out; have := HJ9.out; have := HK3.out; omega
                                        case rel => exact ⟨(t187), (y190), (wrap64 (x7_1 + 1)), (by first | rfl | (simp; done) | (simp [*]; done)), H', ⟨by have := HK1.out; have := HJ9.out; have := HK3.out; omega⟩, ⟨by (with_reducible repeat (first | apply Kd.N_alloc | apply Kd.N_drewN | apply Kd.N_drew)); exact HO189.out⟩, ⟨by (with_reducible repeat (first | apply Kd.R_alloc | apply Kd.R_drewN | apply Kd.R_drew)); exact Kd.R_mono HO192.out (fun _ hk => hk.1)⟩, ⟨by repeat (first | (with_reducible first | exact HB.out | apply below_alloc | apply pw_below_drewN | apply below_drew1) | exact HB.out)⟩⟩
                                      · rw [if_neg c28] at H
                                        exact absurd H (by simp)
                                    · rw [if_neg c26] at H
                                      have c26b0 : ((rd l0 (rd x6_3 x9_3)) == t175) = false := beq_eq_false_iff_ne.mpr c26
                                      have c26b1 : ((rd l0 (rd x6_3 x9_3)) != t175) = true := bne_iff_ne.mpr c26
                                      have H' := Aside0.mk H
                                      clear H
                                      obtain ⟨Ao36, co36, eo36⟩ := Kd.R_slice HO_6.out
                                      subst eo36
                                      have p181 : 0 ≤ (x9_3 : Int) := of_decide_eq_true (by first | (with_reducible assumption) | assumption)
                                      have q181 : x9_3 < (x6_3.length : Int) := of_decide_eq_true (by first | (with_reducible assumption) | assumption)
                                      obtain ⟨ad181, e181, hx181_0⟩ := Kd.at_int (Kd.R_reads' HO_6.out).2.2 x9_3 p181 q181
                                      cases e181
                                      replace p181 := eq_true p181
                                      replace q181 := eq_true q181
                                      have p182 : 0 ≤ ((rd x6_3 x9_3) : Int) := of_decide_eq_true (by first | (with_reducible assumption) | assumption)
                                      have q182 : (rd x6_3 x9_3) < (l0.length : Int) := of_decide_eq_true (by first | (with_reducible assumption) | assumption)
                                      obtain ⟨ad182, e182, hx182_0⟩ := Kd.at_int HR0.out (rd x6_3 x9_3) p182 q182
                                      obtain rfl : ad174 = ad182 := (by injection e182)
                                      replace hx182_0 := (HB.out.cell (World.block_lt_of_cell? w _ hx182_0)).trans hx182_0
                                      replace p182 := eq_true p182
                                      replace q182 := eq_true q182
                                      go_wp2
                                      go_roundg k3
                                      case measure => have := HK1.out; have := HJ9.out; have := HK3.out; omega
                                      case rel => exact ⟨(x5_3), (x6_3), (wrap64 (x9_3 - 1)), (by first | rfl | (simp; done) | (simp [*]; done)), H', ⟨by have := HK1.out; have := HJ9.out; have := HK3.out; omega⟩, ⟨by (with_reducible repeat (first | apply Kd.N_alloc | apply Kd.N_drewN | apply Kd.N_drew)); exact HO_5.out⟩, ⟨by (with_reducible repeat (first | apply Kd.R_alloc | apply Kd.R_drewN | apply Kd.R_drew)); exact HO_6.out⟩, ⟨by repeat (first | (with_reducible first | exact HB.out | apply below_alloc | apply pw_below_drewN | apply below_drew1) | exact HB.out)⟩⟩
                                  · rw [if_neg c25] at H
                                    exact absurd H (by simp)
                                · rw [if_neg c24] at H
                                  exact absurd H (by simp)
                              · rw [if_neg c23] at H
                                exact absurd H (by simp)
                            · rw [if_neg c22] at H
                              exact absurd H (by simp)
                          · rw [if_neg c21] at H
                            have c21b0 : decide (0 ≤ x9_3) = false := decide_eq_false c21
                            clear c21
                            have H' := Aside0.mk H
                            clear H
                            go_wp2
                            go_roundg k3
                            case measure => have := HK1.out; have := HJ9.out; have := HK3.out; omega
                            case rel => exact ⟨(x5_3), (x6_3), (wrap64 (x7_1 + 1)), (by first | rfl | (simp; done) | (simp [*]; done)), H', ⟨by have := HK1.out; have := HJ9.out; have := HK3.out; omega⟩, ⟨by (with_reducible repeat (first | apply Kd.N_alloc | apply Kd.N_drewN | apply Kd.N_drew)); exact HO_5.out⟩, ⟨by (with_reducible repeat (first | apply Kd.R_alloc | apply Kd.R_drewN | apply Kd.R_drew)); exact HO_6.out⟩, ⟨by repeat (first | (with_reducible first | exact HB.out | apply below_alloc | apply pw_below_drewN | apply below_drew1) | exact HB.out)⟩⟩
                  · rw [if_neg c16] at H
                    exact absurd H (by simp)
                · rw [if_neg c15] at H
                  exact absurd H (by simp)
        · rw [if_neg c8] at H
          exact absurd H (by simp)
      · rw [if_neg c7] at H
        have c7b0 : decide (x7_1 < (l0.length : Int)) = false := decide_eq_false c7
        clear c7
        obtain rfl := Option.some.inj H
        go_wp2
        go_ret
        exact ⟨_, by first | rfl | (simp [errW_none, errW_some] <;> rfl) | (simp [*, errW_none, errW_some] <;> rfl), by (with_reducible repeat (first | apply Kd.N_alloc | apply Kd.N_drewN | apply Kd.N_drew)); exact Kd.N_mono HO_5.out (fun _ hk => hk.1), by repeat (first | (with_reducible first | exact HB.out | apply below_alloc | apply pw_below_drewN | apply below_drew1) | exact HB.out)⟩

/-! ### spec_LevelMates: function 39 -/
def spec_LevelMates.f (k : Nat) (l0 : List Int) (l1 : List Int) : Option ((List (List Int))) := (spec_l1Ok.f k l0).bind fun t193 => (if t193 = true then ((spec_l3Classes.f k l1).bind fun t194 => (if t194 = true then (if (l1.length : Int) = (l0.length : Int) then ((spec_l3Mates.f k l0 l1).bind fun t195 => (some t195)) else (some (([] : List (List Int))))) else (some (([] : List (List Int)))))) else (some (([] : List (List Int)))))
theorem spec_LevelMates.mono : ∀ a0 a1 k, LeO (spec_LevelMates.f k a0 a1) (spec_LevelMates.f (k + 1) a0 a1) := by
  intro a0 a1 k
  unfold spec_LevelMates.f
  repeat' first
      | (with_reducible exact spec_l1Ok.mono _ _)
      | (with_reducible exact spec_l3Classes.mono _ _)
      | (with_reducible exact spec_l3Mates.mono _ _ _)
      | (with_reducible exact LeO.refl _)
      | (with_reducible exact LeO.none _)
      | (with_reducible refine LeO.ite ?_ ?_)
      | (with_reducible refine LeO.bind ?_ (fun _ => ?_))
      | exact spec_l1Ok.mono _ _
      | exact spec_l3Classes.mono _ _
      | exact spec_l3Mates.mono _ _ _
      | exact LeO.none _
      | refine LeO.ite ?_ ?_
      | refine LeO.bind ?_ (fun _ => ?_)
set_option maxHeartbeats 8000000 in
set_option maxRecDepth 100000 in
theorem spec_LevelMates.calls (k : Nat) (A0 : Option Addr) (c0 : Nat) (l0 : List Int) (A1 : Option Addr) (c1 : Nat) (l1 : List Int) (r : List (List Int)) (w : World) (hr0 : Kd.C (Kd.int .i64) w A0 l0.length l0) (hc0 : l0.length ≤ c0) (hr1 : Kd.C (Kd.int .i64) w A1 l1.length l1) (hc1 : l1.length ≤ c1) (h : spec_LevelMates.f k l0 l1 = some r) :
    Calls Try.prog 39 #[.slice A0 l0.length c0, .slice A1 l1.length c1] w fun e w' => ∃ v0_ : Value, e = .returned (v0_) ∧ Kd.N (Kd.slice 3 (Kd.int .i64)) 22 w' w.heap.size (fun k_ => (w.heap.size ≤ k_)) v0_ r ∧ Below w.heap.size w w' := by
  have HR0 := Aside0.mk hr0
  have HC0 := Aside0.mk hc0
  clear hr0 hc0
  have HR1 := Aside0.mk hr1
  have HC1 := Aside0.mk hc1
  clear hr1 hc1
  have HB := Aside0.mk (Below.refl w.heap.size w)
  have H : ((spec_l1Ok.f k l0).bind fun t193 => (if t193 = true then ((spec_l3Classes.f k l1).bind fun t194 => (if t194 = true then (if (l1.length : Int) = (l0.length : Int) then ((spec_l3Mates.f k l0 l1).bind fun t195 => (some t195)) else (some (([] : List (List Int))))) else (some (([] : List (List Int)))))) else (some (([] : List (List Int)))))) = some r := h
  clear h
  replace H := Option.bind_eq_some_iff.mp H
  obtain ⟨t193, A30, H⟩ := H
  replace H : (if t193 = true then ((spec_l3Classes.f k l1).bind fun t194 => (if t194 = true then (if (l1.length : Int) = (l0.length : Int) then ((spec_l3Mates.f k l0 l1).bind fun t195 => (some t195)) else (some (([] : List (List Int))))) else (some (([] : List (List Int)))))) else (some (([] : List (List Int))))) = some r := H
  have A3 := Aside0.mk A30
  clear A30
  by_cases c4 : t193 = true
  · subst c4
    have H1 : ((spec_l3Classes.f k l1).bind fun t194 => (if t194 = true then (if (l1.length : Int) = (l0.length : Int) then ((spec_l3Mates.f k l0 l1).bind fun t195 => (some t195)) else (some (([] : List (List Int))))) else (some (([] : List (List Int)))))) = some r := by rw [if_pos rfl] at H; exact H
    clear H
    have H := H1
    clear H1
    replace H := Option.bind_eq_some_iff.mp H
    obtain ⟨t194, A50, H⟩ := H
    replace H : (if t194 = true then (if (l1.length : Int) = (l0.length : Int) then ((spec_l3Mates.f k l0 l1).bind fun t195 => (some t195)) else (some (([] : List (List Int))))) else (some (([] : List (List Int))))) = some r := H
    have A5 := Aside0.mk A50
    clear A50
    by_cases c6 : t194 = true
    · subst c6
      have H1 : (if (l1.length : Int) = (l0.length : Int) then ((spec_l3Mates.f k l0 l1).bind fun t195 => (some t195)) else (some (([] : List (List Int))))) = some r := by rw [if_pos rfl] at H; exact H
      clear H
      have H := H1
      clear H1
      by_cases c7 : (l1.length : Int) = (l0.length : Int)
      · rw [if_pos c7] at H
        have c7b0 : ((l1.length : Int) == (l0.length : Int)) = true := beq_iff_eq.mpr c7
        have c7b1 : ((l1.length : Int) != (l0.length : Int)) = false := bne_eq_false_iff_eq.mpr c7
        have c7b2 : (l1.length == l0.length) = true := by first | simpa using c7 | (simp at c7 ⊢; omega)
        clear c7
        replace H := Option.bind_eq_some_iff.mp H
        obtain ⟨t195, A80, H⟩ := H
        replace H : (some t195) = some r := H
        have A8 := Aside0.mk A80
        clear A80
        obtain rfl := Option.some.inj H
        go_enter Try.func39, Try.ntmps39
        go_wp2_with (first | ((with_reducible refine gate_callee (f := 49) rfl ?_); refine goesL_ (some 6) rfl rfl Try.func49 (by kernel_rfl) rfl #[.slice A0 l0.length c0] rfl (by (try simp only [List.map_toArray, List.map_cons, List.map_nil]); first | done | rfl | (simp only [List.length_drop, List.length_take]; rfl)) ?_; (with_reducible refine (spec_l1Ok.calls k _ _ l0 true _ ?side1 ?side2 A3.out).mono ?_); (case side1 => repeat (first | exact HR0.out | (with_reducible refine Kd.C_alloc ?_ _) | (with_reducible refine Kd.C_drewN ?_ _) | (with_reducible refine Kd.C_drew ?_))); (case side2 => exact HC0.out); rintro e w' ⟨rfl, ⟨nd, rfl⟩⟩; refine ⟨_, rfl, ?_⟩) | (go_at_call 81; (with_reducible refine (spec_l3Classes.calls k _ _ l1 true _ ?side1 ?side2 A5.out).mono ?_); (case side1 => repeat (first | exact HR1.out | (with_reducible refine Kd.C_alloc ?_ _) | (with_reducible refine Kd.C_drewN ?_ _) | (with_reducible refine Kd.C_drew ?_))); (case side2 => exact HC1.out); rintro e w' ⟨rfl, ⟨nd, rfl⟩⟩) | ((with_reducible refine gate_callee (f := 82) rfl ?_); refine goesL_ (some 23) rfl rfl Try.func82 (by kernel_rfl) rfl #[.slice A0 l0.length c0, .slice A1 l1.length c1] rfl (by (try simp only [List.map_toArray, List.map_cons, List.map_nil]); first | done | rfl | (simp only [List.length_drop, List.length_take]; rfl)) ?_; (with_reducible refine (spec_l3Mates.calls k _ _ l0 _ _ l1 t195 _ ?side1 ?side2 ?side3 ?side4 A8.out).mono ?_); (case side1 => repeat (first | exact HR0.out | (with_reducible refine Kd.C_alloc ?_ _) | (with_reducible refine Kd.C_drewN ?_ _) | (with_reducible refine Kd.C_drew ?_))); (case side2 => exact HC0.out); (case side3 => repeat (first | exact HR1.out | (with_reducible refine Kd.C_alloc ?_ _) | (with_reducible refine Kd.C_drewN ?_ _) | (with_reducible refine Kd.C_drew ?_))); (case side4 => exact HC1.out); rintro e w9 ⟨v196, rfl, ho0, hb⟩; refine ⟨_, rfl, ?_⟩; have n0_ := Aside0.mk (Kd.N_lower (Kd.N_mono (ok' := fun k_ => (w.heap.size ≤ k_)) ho0 (fun k_ hk_ => (Nat.le_trans (below_size (by repeat (first | (with_reducible first | exact HB.out | apply below_alloc | apply pw_below_drewN | apply below_drew1) | exact HB.out))) hk_))) (below_size (by repeat (first | (with_reducible first | exact HB.out | apply below_alloc | apply pw_below_drewN | apply below_drew1) | exact HB.out)))); have n1_ := Aside0.mk (below_step (by repeat (first | (with_reducible first | exact HB.out | apply below_alloc | apply pw_below_drewN | apply below_drew1) | exact HB.out)) hb); clear HB; have HO197 := n0_; have HB := n1_; clear n0_ n1_; (try clear hb); (try clear hb2); (try clear hk); (try clear hi); (try clear ho0)))
        go_ret
        exact ⟨_, by first | rfl | (simp [errW_none, errW_some] <;> rfl) | (simp [*, errW_none, errW_some] <;> rfl), by (with_reducible repeat (first | apply Kd.N_alloc | apply Kd.N_drewN | apply Kd.N_drew)); exact HO197.out, by repeat (first | (with_reducible first | exact HB.out | apply below_alloc | apply pw_below_drewN | apply below_drew1) | exact HB.out)⟩
      · rw [if_neg c7] at H
        have c7b0 : ((l1.length : Int) == (l0.length : Int)) = false := beq_eq_false_iff_ne.mpr c7
        have c7b1 : ((l1.length : Int) != (l0.length : Int)) = true := bne_iff_ne.mpr c7
        have c7b2 : (l1.length == l0.length) = false := by first | simpa using c7 | (simp at c7 ⊢; omega)
        obtain ⟨y198, hy198⟩ : ∃ y_ : List (List Int), y_ = (([] : List (List Int))) := ⟨_, rfl⟩
        replace H : (some y198) = some r := by first | (rw [hy198]; with_reducible exact H) | (have H2_ := (Option.bind_some _ _).symm.trans H; rw [hy198]; with_reducible exact H2_) | (have H2_ := (Option.bind_some _ _).symm.trans H; with_reducible exact H2_) | with_reducible exact H | (rw [hy198]; exact H) | exact H
        have Ny198 := Aside0.mk hy198
        clear hy198
        obtain rfl := Option.some.inj H
        go_enter Try.func39, Try.ntmps39
        go_wp2_with (first | ((with_reducible refine gate_callee (f := 49) rfl ?_); refine goesL_ (some 6) rfl rfl Try.func49 (by kernel_rfl) rfl #[.slice A0 l0.length c0] rfl (by (try simp only [List.map_toArray, List.map_cons, List.map_nil]); first | done | rfl | (simp only [List.length_drop, List.length_take]; rfl)) ?_; (with_reducible refine (spec_l1Ok.calls k _ _ l0 true _ ?side1 ?side2 A3.out).mono ?_); (case side1 => repeat (first | exact HR0.out | (with_reducible refine Kd.C_alloc ?_ _) | (with_reducible refine Kd.C_drewN ?_ _) | (with_reducible refine Kd.C_drew ?_))); (case side2 => exact HC0.out); rintro e w' ⟨rfl, ⟨nd, rfl⟩⟩; refine ⟨_, rfl, ?_⟩) | (go_at_call 81; (with_reducible refine (spec_l3Classes.calls k _ _ l1 true _ ?side1 ?side2 A5.out).mono ?_); (case side1 => repeat (first | exact HR1.out | (with_reducible refine Kd.C_alloc ?_ _) | (with_reducible refine Kd.C_drewN ?_ _) | (with_reducible refine Kd.C_drew ?_))); (case side2 => exact HC1.out); rintro e w' ⟨rfl, ⟨nd, rfl⟩⟩) | ((with_reducible refine gate_dst (N := 20) rfl ?_); (try (refine gate_guard (by rfl) ?_; dsimp only)); refine Kd.N_lit (Kd.slice 3 (Kd.int .i64)) _ 22 ?hg (N' := 20) ?hd (xs := ([] : List (List Int))) (inner := []) (ok := (fun k_ => (w.heap.size ≤ k_))) (okp := (fun k_ => (w.heap.size ≤ k_))) ?hr ?hp (fun _ hk => hk) ((show ∀ k_, w.heap.size ≤ k_ → (fun k_ => (w.heap.size ≤ k_)) k_ from fun k_ hk => (Nat.le_trans (below_size (by repeat (first | (with_reducible first | exact HB.out | apply below_alloc | apply pw_below_drewN | apply below_drew1) | exact HB.out))) hk)) _ (Nat.le_refl _)) (Below.refl _ _) (Nat.le_refl _) (by simp) ?_; (case hd => rfl); (case hg => rfl); (case hr => first | (go_simp; done) | (go_simp; rfl)); (case hp => exact (Reps.none _ _)); intro v199 w10 ho11 hb hg_ hnew_; clear hg_ hnew_; (first | rw [← Ny198.out] at ho11 | (simp only [Int.reduceToNat] at ho11; rw [← Ny198.out] at ho11)); have n0_ := Aside0.mk (Kd.N_lower ho11 (below_size (by repeat (first | (with_reducible first | exact HB.out | apply below_alloc | apply pw_below_drewN | apply below_drew1) | exact HB.out)))); have n1_ := Aside0.mk (below_step (by repeat (first | (with_reducible first | exact HB.out | apply below_alloc | apply pw_below_drewN | apply below_drew1) | exact HB.out)) hb); clear HB; have HO200 := n0_; have HB := n1_; clear n0_ n1_; clear hb ho11))
        go_ret
        exact ⟨_, by first | rfl | (simp [errW_none, errW_some] <;> rfl) | (simp [*, errW_none, errW_some] <;> rfl), by (with_reducible repeat (first | apply Kd.N_alloc | apply Kd.N_drewN | apply Kd.N_drew)); exact HO200.out, by repeat (first | (with_reducible first | exact HB.out | apply below_alloc | apply pw_below_drewN | apply below_drew1) | exact HB.out)⟩
    · replace c6 := Bool.eq_false_iff.mpr c6
      subst c6
      have H1 : (some (([] : List (List Int)))) = some r := by rw [if_neg (show ¬ (false = true) by decide)] at H; exact H
      clear H
      have H := H1
      clear H1
      obtain ⟨y201, hy201⟩ : ∃ y_ : List (List Int), y_ = (([] : List (List Int))) := ⟨_, rfl⟩
      replace H : (some y201) = some r := by first | (rw [hy201]; with_reducible exact H) | (have H2_ := (Option.bind_some _ _).symm.trans H; rw [hy201]; with_reducible exact H2_) | (have H2_ := (Option.bind_some _ _).symm.trans H; with_reducible exact H2_) | with_reducible exact H | (rw [hy201]; exact H) | exact H
      have Ny201 := Aside0.mk hy201
      clear hy201
      obtain rfl := Option.some.inj H
      go_enter Try.func39, Try.ntmps39
      go_wp2_with (first | ((with_reducible refine gate_callee (f := 49) rfl ?_); refine goesL_ (some 6) rfl rfl Try.func49 (by kernel_rfl) rfl #[.slice A0 l0.length c0] rfl (by (try simp only [List.map_toArray, List.map_cons, List.map_nil]); first | done | rfl | (simp only [List.length_drop, List.length_take]; rfl)) ?_; (with_reducible refine (spec_l1Ok.calls k _ _ l0 true _ ?side1 ?side2 A3.out).mono ?_); (case side1 => repeat (first | exact HR0.out | (with_reducible refine Kd.C_alloc ?_ _) | (with_reducible refine Kd.C_drewN ?_ _) | (with_reducible refine Kd.C_drew ?_))); (case side2 => exact HC0.out); rintro e w' ⟨rfl, ⟨nd, rfl⟩⟩; refine ⟨_, rfl, ?_⟩) | (go_at_call 81; (with_reducible refine (spec_l3Classes.calls k _ _ l1 false _ ?side1 ?side2 A5.out).mono ?_); (case side1 => repeat (first | exact HR1.out | (with_reducible refine Kd.C_alloc ?_ _) | (with_reducible refine Kd.C_drewN ?_ _) | (with_reducible refine Kd.C_drew ?_))); (case side2 => exact HC1.out); rintro e w' ⟨rfl, ⟨nd, rfl⟩⟩) | ((with_reducible refine gate_dst (N := 20) rfl ?_); (try (refine gate_guard (by rfl) ?_; dsimp only)); refine Kd.N_lit (Kd.slice 3 (Kd.int .i64)) _ 22 ?hg (N' := 20) ?hd (xs := ([] : List (List Int))) (inner := []) (ok := (fun k_ => (w.heap.size ≤ k_))) (okp := (fun k_ => (w.heap.size ≤ k_))) ?hr ?hp (fun _ hk => hk) ((show ∀ k_, w.heap.size ≤ k_ → (fun k_ => (w.heap.size ≤ k_)) k_ from fun k_ hk => (Nat.le_trans (below_size (by repeat (first | (with_reducible first | exact HB.out | apply below_alloc | apply pw_below_drewN | apply below_drew1) | exact HB.out))) hk)) _ (Nat.le_refl _)) (Below.refl _ _) (Nat.le_refl _) (by simp) ?_; (case hd => rfl); (case hg => rfl); (case hr => first | (go_simp; done) | (go_simp; rfl)); (case hp => exact (Reps.none _ _)); intro v202 w12 ho13 hb hg_ hnew_; clear hg_ hnew_; (first | rw [← Ny201.out] at ho13 | (simp only [Int.reduceToNat] at ho13; rw [← Ny201.out] at ho13)); have n0_ := Aside0.mk (Kd.N_lower ho13 (below_size (by repeat (first | (with_reducible first | exact HB.out | apply below_alloc | apply pw_below_drewN | apply below_drew1) | exact HB.out)))); have n1_ := Aside0.mk (below_step (by repeat (first | (with_reducible first | exact HB.out | apply below_alloc | apply pw_below_drewN | apply below_drew1) | exact HB.out)) hb); clear HB; have HO203 := n0_; have HB := n1_; clear n0_ n1_; clear hb ho13))
      go_ret
      exact ⟨_, by first | rfl | (simp [errW_none, errW_some] <;> rfl) | (simp [*, errW_none, errW_some] <;> rfl), by (with_reducible repeat (first | apply Kd.N_alloc | apply Kd.N_drewN | apply Kd.N_drew)); exact HO203.out, by repeat (first | (with_reducible first | exact HB.out | apply below_alloc | apply pw_below_drewN | apply below_drew1) | exact HB.out)⟩
  · replace c4 := Bool.eq_false_iff.mpr c4
    subst c4
    have H1 : (some (([] : List (List Int)))) = some r := by rw [if_neg (show ¬ (false = true) by decide)] at H; exact H
    clear H
    have H := H1
    clear H1
    obtain ⟨y204, hy204⟩ : ∃ y_ : List (List Int), y_ = (([] : List (List Int))) := ⟨_, rfl⟩
    replace H : (some y204) = some r := by first | (rw [hy204]; with_reducible exact H) | (have H2_ := (Option.bind_some _ _).symm.trans H; rw [hy204]; with_reducible exact H2_) | (have H2_ := (Option.bind_some _ _).symm.trans H; with_reducible exact H2_) | with_reducible exact H | (rw [hy204]; exact H) | exact H
    have Ny204 := Aside0.mk hy204
    clear hy204
    obtain rfl := Option.some.inj H
    go_enter Try.func39, Try.ntmps39
    go_wp2_with (first | ((with_reducible refine gate_callee (f := 49) rfl ?_); refine goesL_ (some 6) rfl rfl Try.func49 (by kernel_rfl) rfl #[.slice A0 l0.length c0] rfl (by (try simp only [List.map_toArray, List.map_cons, List.map_nil]); first | done | rfl | (simp only [List.length_drop, List.length_take]; rfl)) ?_; (with_reducible refine (spec_l1Ok.calls k _ _ l0 false _ ?side1 ?side2 A3.out).mono ?_); (case side1 => repeat (first | exact HR0.out | (with_reducible refine Kd.C_alloc ?_ _) | (with_reducible refine Kd.C_drewN ?_ _) | (with_reducible refine Kd.C_drew ?_))); (case side2 => exact HC0.out); rintro e w' ⟨rfl, ⟨nd, rfl⟩⟩; refine ⟨_, rfl, ?_⟩) | ((with_reducible refine gate_dst (N := 20) rfl ?_); (try (refine gate_guard (by rfl) ?_; dsimp only)); refine Kd.N_lit (Kd.slice 3 (Kd.int .i64)) _ 22 ?hg (N' := 20) ?hd (xs := ([] : List (List Int))) (inner := []) (ok := (fun k_ => (w.heap.size ≤ k_))) (okp := (fun k_ => (w.heap.size ≤ k_))) ?hr ?hp (fun _ hk => hk) ((show ∀ k_, w.heap.size ≤ k_ → (fun k_ => (w.heap.size ≤ k_)) k_ from fun k_ hk => (Nat.le_trans (below_size (by repeat (first | (with_reducible first | exact HB.out | apply below_alloc | apply pw_below_drewN | apply below_drew1) | exact HB.out))) hk)) _ (Nat.le_refl _)) (Below.refl _ _) (Nat.le_refl _) (by simp) ?_; (case hd => rfl); (case hg => rfl); (case hr => first | (go_simp; done) | (go_simp; rfl)); (case hp => exact (Reps.none _ _)); intro v205 w14 ho15 hb hg_ hnew_; clear hg_ hnew_; (first | rw [← Ny204.out] at ho15 | (simp only [Int.reduceToNat] at ho15; rw [← Ny204.out] at ho15)); have n0_ := Aside0.mk (Kd.N_lower ho15 (below_size (by repeat (first | (with_reducible first | exact HB.out | apply below_alloc | apply pw_below_drewN | apply below_drew1) | exact HB.out)))); have n1_ := Aside0.mk (below_step (by repeat (first | (with_reducible first | exact HB.out | apply below_alloc | apply pw_below_drewN | apply below_drew1) | exact HB.out)) hb); clear HB; have HO206 := n0_; have HB := n1_; clear n0_ n1_; clear hb ho15))
    go_ret
    exact ⟨_, by first | rfl | (simp [errW_none, errW_some] <;> rfl) | (simp [*, errW_none, errW_some] <;> rfl), by (with_reducible repeat (first | apply Kd.N_alloc | apply Kd.N_drewN | apply Kd.N_drew)); exact HO206.out, by repeat (first | (with_reducible first | exact HB.out | apply below_alloc | apply pw_below_drewN | apply below_drew1) | exact HB.out)⟩

/-- A key of a map's literal, at the operation: as 'm[k] = v'. -/
theorem wpList_insert_own {H : Type} {P : Program} (w : World) {ops : Array Oper} {rest : List Oper} {o : Oper} {a : Act} {Q : Exit → Act → World → Prop}
    (hg : o.guard = none) (m x v : Operand) (t : TypeId) (hop : o.op = Op.insert t m x v)
    (k e : TypeId) (K : Go.Maps.Keyed P k) (ht : P.underlying t = some (.map k e)) (R : Value → Option (DataW H × List MemPlace)) (b n : Nat) (D : DataW H)
    (hm : a.eval m = .map (some b)) (hown : w.ownsMap P k R b n D) (hn : n < maxLen) (key val : Value) (kl : Lit) (hx : a.eval x = key) (hv : a.eval v = val) (hkey : keyOf P k key = some kl)
    (d : DataW H) (ps : List MemPlace) (hval : R val = some (d, ps))
    (hK : ∀ w', w'.ownsMap P k R b (n + 1) (D.put kl d) → w.grownBy w' (some b) → wpList P ops Q rest (a.put o.dst undef) w') :
    wpList P ops Q (o :: rest) a w := by
  refine wpList_plain hg fun K' hK' => ?_
  obtain ⟨w', hrun, r1, r2⟩ := hown.update K ht hn hkey hval
  unfold Oper.wp
  simp [execOp, hop, hm, hx, hv, hrun, Result.andThen]
  exact hK' _ _ (hK w' r1 r2)
/-- the other one of a bracket's two -/
def mate (x : Int) : Int := if x = 40 then 41 else if x = 41 then 40 else if x = 91 then 93 else if x = 93 then 91 else if x = 123 then 125 else if x = 125 then 123 else 0
def inI64 (x : Int) : Bool := decide (-9223372036854775808 ≤ x) && decide (x ≤ 9223372036854775807)
theorem inI64_wf {x : Int} (h : inI64 x = true) : (Lit.int .i64 x).wf = true := by
  simp only [inI64, Bool.and_eq_true, decide_eq_true_eq] at h
  exact Go.WalkArith.wf_i64 h
def impl_RuneMate.f (a0 : Int) : Option Int := if inI64 a0 = true then some (mate a0) else none
def mateD : DataW Unit := ((((((.map [] : DataW Unit).put (.int .i64 40) (.lit (.int .i64 41)) : DataW Unit).put (.int .i64 41) (.lit (.int .i64 40)) : DataW Unit).put (.int .i64 91) (.lit (.int .i64 93)) : DataW Unit).put (.int .i64 93) (.lit (.int .i64 91)) : DataW Unit).put (.int .i64 123) (.lit (.int .i64 125)) : DataW Unit).put (.int .i64 125) (.lit (.int .i64 123))
theorem mateD_at (x c : Int) (h : mateD.atKey (.int .i64 x) (.lit (.int .i64 0)) = .lit (.int .i64 c)) : c = mate x := by
  have e : mateD = .map [(.int .i64 40, .lit (.int .i64 41)), (.int .i64 41, .lit (.int .i64 40)), (.int .i64 91, .lit (.int .i64 93)), (.int .i64 93, .lit (.int .i64 91)), (.int .i64 123, .lit (.int .i64 125)), (.int .i64 125, .lit (.int .i64 123))] := by rfl
  rw [e] at h
  unfold mate
  simp only [DataW.atKey, List.find?, Lit.sameKey] at h
  by_cases h1 : x = 40
  · subst h1; simp at h; subst h; decide
  by_cases h2 : x = 41
  · subst h2; simp at h; subst h; decide
  by_cases h3 : x = 91
  · subst h3; simp at h; subst h; decide
  by_cases h4 : x = 93
  · subst h4; simp at h; subst h; decide
  by_cases h5 : x = 123
  · subst h5; simp at h; subst h; decide
  by_cases h6 : x = 125
  · subst h6; simp at h; subst h; decide
  have g1 : ¬ (40 = x) := fun h => h1 h.symm
  have g2 : ¬ (41 = x) := fun h => h2 h.symm
  have g3 : ¬ (91 = x) := fun h => h3 h.symm
  have g4 : ¬ (93 = x) := fun h => h4 h.symm
  have g5 : ¬ (123 = x) := fun h => h5 h.symm
  have g6 : ¬ (125 = x) := fun h => h6 h.symm
  simp [g1, g2, g3, g4, g5, g6] at h
  simp [h1, h2, h3, h4, h5, h6, h]
theorem gv_zero3 (w : World) : (zeroValue 3).run Try.prog w = .ok (.int .i64 0) w := by kernel_rfl
set_option maxHeartbeats 2000000 in
set_option maxRecDepth 100000 in
theorem impl_RuneMate.calls (a0 : Int) (r : Int) (w : World) (h : impl_RuneMate.f a0 = some r) :
    Calls Try.prog 46 #[.int .i64 a0] w fun e w' => e = .returned (.int .i64 r) ∧ Below w.heap.size w w' := by
  unfold impl_RuneMate.f at h
  split at h
  case isFalse => exact absurd h (by simp)
  case isTrue hb =>
  have H := Aside0.mk (Option.some.inj h)
  clear h
  have K3 : Go.Maps.Keyed Try.prog 3 := Go.Maps.int_keyed Try.underlying3
  have key : keyOf Try.prog 3 (.int .i64 a0) = some (.int .i64 a0) := Go.Maps.keyOf_int_mk Try.underlying3 (inI64_wf hb)
  have HKey := Aside0.mk key
  clear key hb
  have hmm := @run_makeMap Try.prog
  have hown0 : (w.alloc (.map #[] 0)).ownsMap Try.prog 3 (plainElem (H := Unit) Try.prog 3) w.heap.size 0 (.map []) := World.ownsMap_made _ _ _ _
  have hB0 : Below w.heap.size w (w.alloc (.map #[] 0)) := (Below.refl _ _).alloc (Nat.le_refl _) _
  go_enter Try.func46, Try.ntmps46
  go_wp2_with (first
    | ((with_reducible refine gate_ (.insert 75 (.tmp 4) (.const (.int .i64 40)) (.const (.int .i64 41))) rfl ?_); refine wpList_insert_own _ rfl _ _ _ 75 rfl 3 3 K3 Try.underlying75 _ w.heap.size 0 _ rfl hown0 (by unfold maxLen; omega) _ _ _ rfl rfl (Go.Maps.keyOf_int_mk Try.underlying3 (by decide)) _ [] (plainElem_int Try.underlying3 (by decide)) ?_; intro w1 hown1 hgrow1; have hB1 := hB0.grown hgrow1 hB0.size (fun j e => by cases e; exact Nat.le_refl _); clear hown0 hgrow1 hB0)
    | ((with_reducible refine gate_ (.insert 75 (.tmp 4) (.const (.int .i64 41)) (.const (.int .i64 40))) rfl ?_); refine wpList_insert_own _ rfl _ _ _ 75 rfl 3 3 K3 Try.underlying75 _ w.heap.size 1 _ rfl hown1 (by unfold maxLen; omega) _ _ _ rfl rfl (Go.Maps.keyOf_int_mk Try.underlying3 (by decide)) _ [] (plainElem_int Try.underlying3 (by decide)) ?_; intro w2 hown2 hgrow2; have hB2 := hB1.grown hgrow2 hB1.size (fun j e => by cases e; exact Nat.le_refl _); clear hown1 hgrow2 hB1)
    | ((with_reducible refine gate_ (.insert 75 (.tmp 4) (.const (.int .i64 91)) (.const (.int .i64 93))) rfl ?_); refine wpList_insert_own _ rfl _ _ _ 75 rfl 3 3 K3 Try.underlying75 _ w.heap.size 2 _ rfl hown2 (by unfold maxLen; omega) _ _ _ rfl rfl (Go.Maps.keyOf_int_mk Try.underlying3 (by decide)) _ [] (plainElem_int Try.underlying3 (by decide)) ?_; intro w3 hown3 hgrow3; have hB3 := hB2.grown hgrow3 hB2.size (fun j e => by cases e; exact Nat.le_refl _); clear hown2 hgrow3 hB2)
    | ((with_reducible refine gate_ (.insert 75 (.tmp 4) (.const (.int .i64 93)) (.const (.int .i64 91))) rfl ?_); refine wpList_insert_own _ rfl _ _ _ 75 rfl 3 3 K3 Try.underlying75 _ w.heap.size 3 _ rfl hown3 (by unfold maxLen; omega) _ _ _ rfl rfl (Go.Maps.keyOf_int_mk Try.underlying3 (by decide)) _ [] (plainElem_int Try.underlying3 (by decide)) ?_; intro w4 hown4 hgrow4; have hB4 := hB3.grown hgrow4 hB3.size (fun j e => by cases e; exact Nat.le_refl _); clear hown3 hgrow4 hB3)
    | ((with_reducible refine gate_ (.insert 75 (.tmp 4) (.const (.int .i64 123)) (.const (.int .i64 125))) rfl ?_); refine wpList_insert_own _ rfl _ _ _ 75 rfl 3 3 K3 Try.underlying75 _ w.heap.size 4 _ rfl hown4 (by unfold maxLen; omega) _ _ _ rfl rfl (Go.Maps.keyOf_int_mk Try.underlying3 (by decide)) _ [] (plainElem_int Try.underlying3 (by decide)) ?_; intro w5 hown5 hgrow5; have hB5 := hB4.grown hgrow5 hB4.size (fun j e => by cases e; exact Nat.le_refl _); clear hown4 hgrow5 hB4)
    | ((with_reducible refine gate_ (.insert 75 (.tmp 4) (.const (.int .i64 125)) (.const (.int .i64 123))) rfl ?_); refine wpList_insert_own _ rfl _ _ _ 75 rfl 3 3 K3 Try.underlying75 _ w.heap.size 5 _ rfl hown5 (by unfold maxLen; omega) _ _ _ rfl rfl (Go.Maps.keyOf_int_mk Try.underlying3 (by decide)) _ [] (plainElem_int Try.underlying3 (by decide)) ?_; intro w6 hown6 hgrow6; have hB6 := hB5.grown hgrow6 hB5.size (fun j e => by cases e; exact Nat.le_refl _); clear hown5 hgrow6 hB5)
    | ((with_reducible refine gate_dst (N := 8) rfl ?_); refine wpList_lookup_own_int _ rfl _ _ 75 rfl 3 3 .i64 K3 Try.underlying75 Try.underlying3 (gv_zero3 _) w.heap.size 6 _ rfl hown6 _ _ rfl HKey.out ?_; intro c hat hwc; have Hat := Aside0.mk hat; clear hat))
  go_ret
  exact ⟨by rw [← H.out, ← mateD_at a0 c Hat.out]; rfl, hB6⟩


/-! slices.IndexFunc at []int, whatever plain predicate: the plain side; by hand -/
/-- the place of the first number at which p holds, from place i on; -1 if there is none -/
def fidx (p : Int → Bool) : List Int → Nat → Int
  | [], _ => -1
  | x :: xs, i => if p x = true then (i : Int) else fidx p xs (i + 1)
theorem fidx_nonneg (p : Int → Bool) : ∀ (l : List Int) (i : Nat), decide (0 ≤ fidx p l i) = l.any p
  | [], i => by simp [fidx]
  | x :: xs, i => by
    unfold fidx
    by_cases h : p x = true
    · simp [h]
    · rw [if_neg h, fidx_nonneg p xs (i + 1)]
      simp [h]
theorem fidx_hit (p : Int → Bool) : ∀ (l : List Int) (i k : Nat), k < l.length → p (l.getD k 0) = true → (∀ j, j < k → p (l.getD j 0) = false) → fidx p l i = ((i + k : Nat) : Int)
  | [], _, k, h, _, _ => absurd h (Nat.not_lt_zero _)
  | x :: xs, i, 0, _, hp, _ => by
    unfold fidx
    rw [if_pos (by simpa using hp)]
    rfl
  | x :: xs, i, k + 1, h, hp, hm => by
    unfold fidx
    rw [if_neg (by have := hm 0 (Nat.succ_pos _); simp at this; simp [this])]
    rw [fidx_hit p xs (i + 1) k (by simpa using h) (by simpa using hp) (fun j hj => by simpa using hm (j + 1) (by omega))]
    congr 1
    omega
theorem fidx_miss (p : Int → Bool) : ∀ (l : List Int) (i : Nat), (∀ j, j < l.length → p (l.getD j 0) = false) → fidx p l i = -1
  | [], _, _ => rfl
  | x :: xs, i, hm => by
    unfold fidx
    rw [if_neg (by have := hm 0 (by simp); simp at this; simp [this])]
    exact fidx_miss p xs (i + 1) (fun j hj => by simpa using hm (j + 1) (by simpa using hj))


-- NOT PRINTED: function 68 (slices_ContainsFunc_int_int)

/-! ### impl_isLetter: function 100 -/
def impl_isLetter.f (a0 : Int) : Option (Bool) := if a0 ≥ 0 then (if a0 ≤ 1114111 then (if a0 < 55296 then (some true) else (some (decide (a0 > 57343)))) else (some false)) else (some false)
set_option maxHeartbeats 8000000 in
set_option maxRecDepth 100000 in
theorem impl_isLetter.calls (a0 : Int) (r : Bool) (w : World) (h : impl_isLetter.f a0 = some r) :
    Calls Try.prog 100 #[.int .i64 a0] w fun e w' => e = .returned (.bool r) ∧ Drawn0 w w' := by
  have H : (if a0 ≥ 0 then (if a0 ≤ 1114111 then (if a0 < 55296 then (some true) else (some (decide (a0 > 57343)))) else (some false)) else (some false)) = some r := h
  clear h
  by_cases c2 : a0 ≥ 0
  · rw [if_pos c2] at H
    have c2b0 : decide (0 ≤ a0) = true := decide_eq_true c2
    clear c2
    by_cases c3 : a0 ≤ 1114111
    · rw [if_pos c3] at H
      have c3b0 : decide (a0 ≤ 1114111) = true := decide_eq_true c3
      clear c3
      by_cases c4 : a0 < 55296
      · rw [if_pos c4] at H
        have c4b0 : decide (a0 < 55296) = true := decide_eq_true c4
        clear c4
        obtain rfl := Option.some.inj H
        go_enter Try.func100, Try.ntmps100
        go_wp2
        go_ret
        exact ⟨by first | rfl | (simp; done) | (simp [*]; done), by repeat (first | exact Drawn0.refl _ | apply Drawn0.step)⟩
      · rw [if_neg c4] at H
        have c4b0 : decide (a0 < 55296) = false := decide_eq_false c4
        clear c4
        obtain rfl := Option.some.inj H
        go_enter Try.func100, Try.ntmps100
        go_wp2
        go_ret
        exact ⟨by first | rfl | (simp; done) | (simp [*]; done), by repeat (first | exact Drawn0.refl _ | apply Drawn0.step)⟩
    · rw [if_neg c3] at H
      have c3b0 : decide (a0 ≤ 1114111) = false := decide_eq_false c3
      clear c3
      obtain rfl := Option.some.inj H
      go_enter Try.func100, Try.ntmps100
      go_wp2
      go_ret
      exact ⟨by first | rfl | (simp; done) | (simp [*]; done), by repeat (first | exact Drawn0.refl _ | apply Drawn0.step)⟩
  · rw [if_neg c2] at H
    have c2b0 : decide (0 ≤ a0) = false := decide_eq_false c2
    clear c2
    obtain rfl := Option.some.inj H
    go_enter Try.func100, Try.ntmps100
    go_wp2
    go_ret
    exact ⟨by first | rfl | (simp; done) | (simp [*]; done), by repeat (first | exact Drawn0.refl _ | apply Drawn0.step)⟩

/-! ### impl_lettersOk_1: function 99 -/
def impl_lettersOk_1.f (a0 : Int) : Option (Bool) := (impl_isLetter.f a0).bind fun t207 => (some (!t207))
set_option maxHeartbeats 8000000 in
set_option maxRecDepth 100000 in
theorem impl_lettersOk_1.calls (a0 : Int) (r : Bool) (w : World) (h : impl_lettersOk_1.f a0 = some r) :
    Calls Try.prog 99 #[.int .i64 a0] w fun e w' => e = .returned (.bool r) ∧ Drawn0 w w' := by
  have H : ((impl_isLetter.f a0).bind fun t207 => (some (!t207))) = some r := h
  clear h
  replace H := Option.bind_eq_some_iff.mp H
  obtain ⟨t207, A20, H⟩ := H
  replace H : (some (!t207)) = some r := H
  have A2 := Aside0.mk A20
  clear A20
  obtain rfl := Option.some.inj H
  go_enter Try.func99, Try.ntmps99
  go_wp2_with (first | ((with_reducible refine gate_callee (f := 100) rfl ?_); refine goesL_ (some 4) rfl rfl Try.func100 (by kernel_rfl) rfl #[.int .i64 a0] rfl (by (try simp only [List.map_toArray, List.map_cons, List.map_nil]); first | done | rfl | (simp only [List.length_drop, List.length_take]; rfl)) ?_; (with_reducible refine (impl_isLetter.calls a0 t207 _ A2.out).mono ?_); rintro e w' ⟨rfl, ⟨nd, rfl⟩⟩; refine ⟨_, rfl, ?_⟩))
  go_ret
  exact ⟨by first | rfl | (simp; done) | (simp [*]; done), by repeat (first | exact Drawn0.refl _ | apply Drawn0.step)⟩

/-- a letter -/
def isL (x : Int) : Bool := decide (0 ≤ x) && decide (x ≤ 1114111) && (decide (x < 55296) || decide (57343 < x))
theorem isLetter_isL (x : Int) : impl_isLetter.f x = some (isL x) := by
  unfold impl_isLetter.f isL
  by_cases h1 : (0 : Int) ≤ x <;> by_cases h2 : x ≤ 1114111 <;> by_cases h3 : x < 55296 <;> by_cases h4 : 57343 < x <;> simp [h1, h2, h3, h4]
theorem impl_lettersOk_1_eq (x : Int) : impl_lettersOk_1.f x = some (!isL x) := by
  unfold impl_lettersOk_1.f
  rw [isLetter_isL]
  rfl
set_option maxHeartbeats 2000000 in
theorem impl_lettersOk_idx (p : Int → Bool) (hp : ∀ (x : Int) (W : World), Calls Try.prog 99 #[.int .i64 x] W fun e W' => e = .returned (.bool (p x)) ∧ Drawn0 W W')
    (A0 : Option Addr) (c0 : Nat) (l0 : List Int) (w : World) (hr0 : Kd.C (Kd.int .i64) w A0 l0.length l0) (hc0 : l0.length ≤ c0) :
    Calls Try.prog 108 #[.slice A0 l0.length c0, .func (.func 99) #[] #[]] w fun e w' => e = .returned (.int .i64 (fidx p l0 0)) ∧ Drawn0 w w' := by
  have hbig : l0.length ≤ 9223372036854775807 := hr0.2.1
  have HR0 := Aside0.mk hr0
  have HP := Aside0.mk hp
  clear hr0 hc0 hp
  go_enter Try.func108, Try.ntmps108
  go_wp2
  go_loopg [5, 8] l0.length (fun gg _ s8 wr => ∃ kk : Nat, kk ≤ l0.length ∧ l0.length - kk ≤ gg ∧ s8 = .int .i64 kk ∧ Drawn0 w wr ∧ Aside0 (∀ j, j < kk → p (l0.getD j 0) = false))
  case atStart => exact ⟨0, Nat.zero_le _, by omega, rfl, Drawn0.refl _, ⟨fun j hj => absurd hj (Nat.not_lt_zero _)⟩⟩
  case round =>
    obtain ⟨kk, hkk, hg, rfl, ⟨q, rfl⟩, A⟩ := hrel
    by_cases hlt : kk < l0.length
    · have hltz : (kk : Int) < (l0.length : Int) := by omega
      obtain ⟨ad, e0, hcell⟩ := Kd.at_int HR0.out (kk : Int) (by omega) (by omega)
      rw [Int.toNat_natCast] at hcell
      subst e0
      generalize hy : rd l0 (kk : Int) = y at hcell
      have B : Aside0 (l0.getD kk 0 = y) := ⟨hy⟩
      clear hy
      have hcall := HP.out y
      cases hq : p y with
      | true =>
        rw [hq] at hcall
        go_wp2_with (go_at_call 99; refine (hcall _).mono ?_; rintro e w' ⟨rfl, ⟨q', rfl⟩⟩)
        go_ret
        refine ⟨?_, ⟨_, rfl⟩⟩
        rw [fidx_hit p l0 0 kk hlt (by rw [B.out]; exact hq) A.out]
        simp
      | false =>
        rw [hq] at hcall
        go_wp2_with (go_at_call 99; refine (hcall _).mono ?_; rintro e w' ⟨rfl, ⟨q', rfl⟩⟩)
        go_roundg (l0.length - (kk + 1))
        case measure => omega
        case rel =>
          refine ⟨kk + 1, by omega, by omega, by go_num, ⟨_, rfl⟩, ⟨fun j hj => ?_⟩⟩
          by_cases e : j = kk
          · subst e
            rw [B.out]; exact hq
          · exact A.out j (by omega)
    · have hltz : ¬ (kk : Int) < (l0.length : Int) := by omega
      have hk : kk = l0.length := by omega
      subst hk
      go_wp2
      go_ret
      refine ⟨?_, ⟨q, rfl⟩⟩
      rw [fidx_miss p l0 0 A.out]
      rfl
set_option maxHeartbeats 1000000 in
theorem impl_lettersOk_con (p : Int → Bool) (hp : ∀ (x : Int) (W : World), Calls Try.prog 99 #[.int .i64 x] W fun e W' => e = .returned (.bool (p x)) ∧ Drawn0 W W')
    (A0 : Option Addr) (c0 : Nat) (l0 : List Int) (w : World) (hr0 : Kd.C (Kd.int .i64) w A0 l0.length l0) (hc0 : l0.length ≤ c0) :
    Calls Try.prog 68 #[.slice A0 l0.length c0, .func (.func 99) #[] #[]] w fun e w' => e = .returned (.bool (l0.any p)) ∧ Drawn0 w w' := by
  rw [← fidx_nonneg p l0 0]
  have H := fun W => impl_lettersOk_idx p hp A0 c0 l0 W
  have HR0 := Aside0.mk hr0
  clear hr0 hp
  have HH := Aside0.mk H
  clear H
  go_enter Try.func68, Try.ntmps68
  go_wp2_with (go_at_call 108; refine (HH.out _ HR0.out hc0).mono ?_; rintro e w' ⟨rfl, ⟨q, rfl⟩⟩)
  go_ret
  exact ⟨rfl, ⟨q, rfl⟩⟩
def impl_lettersOk.f (l0 : List Int) : Option Bool := some (decide ((l0.length : Int) ≤ 80) && !(l0.any fun x => !isL x))
set_option maxHeartbeats 1000000 in
theorem impl_lettersOk.calls (A0 : Option Addr) (c0 : Nat) (l0 : List Int) (r : Bool) (w : World) (hr0 : Kd.C (Kd.int .i64) w A0 l0.length l0) (hc0 : l0.length ≤ c0) (h : impl_lettersOk.f l0 = some r) :
    Calls Try.prog 53 #[.slice A0 l0.length c0] w fun e w' => e = .returned (.bool r) ∧ Drawn0 w w' := by
  have H := Option.some.inj h
  clear h
  have hb := hr0.2.1
  have HC := fun W => impl_lettersOk_con (fun x => !isL x) (fun x W => impl_lettersOk_1.calls x _ W (impl_lettersOk_1_eq x)) A0 c0 l0 W
  have HR := Aside0.mk hr0
  have HH := Aside0.mk HC
  clear HC hr0
  generalize hq : (l0.any fun x => !isL x) = q at HH H
  have Hq := Aside0.mk H
  clear H hq
  by_cases hl : (l0.length : Int) ≤ 80
  · have hl1 : decide ((l0.length : Int) ≤ 80) = true := decide_eq_true hl
    have hl2 : decide (l0.length ≤ 80) = true := decide_eq_true (by omega)
    go_enter Try.func53, Try.ntmps53
    go_wp2_with (go_at_call 68; refine (HH.out _ HR.out hc0).mono ?_; rintro e w' ⟨rfl, ⟨q', rfl⟩⟩)
    go_ret
    exact ⟨by rw [← Hq.out, hl1]; rfl, ⟨_, rfl⟩⟩
  · have hl1 : decide ((l0.length : Int) ≤ 80) = false := decide_eq_false hl
    have hl2 : decide (l0.length ≤ 80) = false := decide_eq_false (by omega)
    go_enter Try.func53, Try.ntmps53
    go_wp2
    go_ret
    exact ⟨by rw [← Hq.out, hl1]; rfl, Drawn0.refl _⟩


/-! ### impl_classesOk_1: function 122 -/
def impl_classesOk_1.f (a0 : Int) : Option (Bool) := if a0 < 1 then (some true) else (some (decide (a0 > 22)))
set_option maxHeartbeats 8000000 in
set_option maxRecDepth 100000 in
theorem impl_classesOk_1.calls (a0 : Int) (r : Bool) (w : World) (h : impl_classesOk_1.f a0 = some r) :
    Calls Try.prog 122 #[.int .i64 a0] w fun e w' => e = .returned (.bool r) ∧ Drawn0 w w' := by
  have H : (if a0 < 1 then (some true) else (some (decide (a0 > 22)))) = some r := h
  clear h
  by_cases c2 : a0 < 1
  · rw [if_pos c2] at H
    have c2b0 : decide (a0 < 1) = true := decide_eq_true c2
    clear c2
    obtain rfl := Option.some.inj H
    go_enter Try.func122, Try.ntmps122
    go_wp2
    go_ret
    exact ⟨by first | rfl | (simp; done) | (simp [*]; done), by repeat (first | exact Drawn0.refl _ | apply Drawn0.step)⟩
  · rw [if_neg c2] at H
    have c2b0 : decide (a0 < 1) = false := decide_eq_false c2
    clear c2
    obtain rfl := Option.some.inj H
    go_enter Try.func122, Try.ntmps122
    go_wp2
    go_ret
    exact ⟨by first | rfl | (simp; done) | (simp [*]; done), by repeat (first | exact Drawn0.refl _ | apply Drawn0.step)⟩

end Go.Proofs.Ytmjhdgofepdgkaa.PFnLevelMates
