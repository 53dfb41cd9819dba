-- Written by a program of this session (wip/tools) out of the translation; its shape is that of the kit print.
import Derived.Test.YtmjhdgofepdgkaaPFnWordsx0
import Derived.Test.YtmjhdgofepdgkaaPFnWordsx1
namespace Go.Proofs.Ytmjhdgofepdgkaa.PFnWords
open Go.RowKit Go.Proofs.YtmjhdgofepdgkaaW.PrintWords Go.Proofs.YtmjhdgofepdgkaaW.PrintLast Go.Proofs.YtmjhdgofepdgkaaW.PrintMore
attribute [local go_sem] max2_int min2_int max_two min_two max_three min_three max_four min_four   -- for this text's walks alone
set_option linter.unusedVariables false
set_option linter.unusedSimpArgs false

/-! ### impl_joining_joins: function 126 -/
def impl_joining_joins.j0 : Nat → Int → Int → Bool → Option (Bool)
 | 0, _, _, _ => none
 | k + 1, x0, x1, x8 => if x8 = true then (if x0 = 1 then (some (x1 == 10)) else (some false)) else ((impl_RuneBidi.f x1).bind fun t116 => (if t116 = 9 then (some true) else (if x1 = 8205 then (some true) else ((impl_isRegional.f x1).bind fun t117 => (if t117 = true then (some (x0 == 3)) else (some false))))))
def impl_joining_joins.f (k : Nat) (a0 : Int) (a1 : Int) : Option (Bool) := if a0 = 0 then (some false) else (if a0 = 2 then (impl_joining_joins.j0 k a0 a1 true) else (impl_joining_joins.j0 k a0 a1 (a1 == 10)))
theorem impl_joining_joins.mono_l : ∀ k, (∀ y0 y1 y2, LeO (impl_joining_joins.j0 k y0 y1 y2) (impl_joining_joins.j0 (k + 1) y0 y1 y2))
 | 0 => fun _ _ _ r h => by simp [impl_joining_joins.j0] at h
 | k + 1 => by
  have ih0 := impl_joining_joins.mono_l k
  ·intro y0 y1 y2
   unfold impl_joining_joins.j0
   repeat' first
   | (with_reducible exact ih0 _ _ _)
   | (with_reducible exact LeO.refl _)
   | (with_reducible exact LeO.none _)
   | (with_reducible refine LeO.ite ?_ ?_)
   | (with_reducible refine LeO.bind ?_ (fun _ => ?_))
   | exact ih0 _ _ _
   | exact LeO.none _
   | refine LeO.ite ?_ ?_
   | refine LeO.bind ?_ (fun _ => ?_)
theorem impl_joining_joins.mono : ∀ a0 a1 k, LeO (impl_joining_joins.f k a0 a1) (impl_joining_joins.f (k + 1) a0 a1) := by
 intro a0 a1 k
 have ih0 := impl_joining_joins.mono_l k
 unfold impl_joining_joins.f
 repeat' first
   | (with_reducible exact ih0 _ _ _)
   | (with_reducible exact LeO.refl _)
   | (with_reducible exact LeO.none _)
   | (with_reducible refine LeO.ite ?_ ?_)
   | (with_reducible refine LeO.bind ?_ (fun _ => ?_))
   | exact ih0 _ _ _
   | exact LeO.none _
   | refine LeO.ite ?_ ?_
   | refine LeO.bind ?_ (fun _ => ?_)
set_option maxHeartbeats 8000000 in
set_option maxRecDepth 100000 in
theorem impl_joining_joins.calls (k : Nat) (a0 : Int) (a1 : Int) (r : Bool) (w : World) (h : impl_joining_joins.f k a0 a1 = some r) :
  Calls Try.prog 126 #[.int .i64 a0, .int .i64 a1] w fun e w' => e = .returned (.bool r) ∧ Below w.heap.size w w' := by
 have HB := Aside0.mk (Below.refl w.heap.size w)
 have H : (if a0 = 0 then (some false) else (if a0 = 2 then (impl_joining_joins.j0 k a0 a1 true) else (impl_joining_joins.j0 k a0 a1 (a1 == 10)))) = some r := h
 clear h
 by_cases c3 : a0 = 0
 ·rw [if_pos c3] at H
  have c3b0 : (a0 == 0) = true := beq_iff_eq.mpr c3
  have c3b1 : (a0 != 0) = false := bne_eq_false_iff_eq.mpr c3
  clear c3
  obtain rfl := Option.some.inj H
  go_enter Try.func126, Try.ntmps126
  go_wp2
  go_ret
  exact ⟨by first | rfl | (simp [errW_none, errW_some] <;> rfl) | (simp [*, errW_none, errW_some] <;> rfl), by repeat (first | (with_reducible first | exact HB.out | apply below_alloc | apply pw_below_drewN | apply below_drew1) | exact HB.out)⟩
 ·rw [if_neg c3] at H
  have c3b0 : (a0 == 0) = false := beq_eq_false_iff_ne.mpr c3
  have c3b1 : (a0 != 0) = true := bne_iff_ne.mpr c3
  have HC4 := Aside0.mk H
  clear H
  go_enter Try.func126, Try.ntmps126
  go_upto_region 3 with (fail)
  go_cut [8] (fun v8 wc => ∃ (kq : Nat) (x8_3 : Bool), v8 = .bool x8_3 ∧ Aside0 (impl_joining_joins.j0 kq a0 a1 x8_3 = some r) ∧ Aside0 (kq ≤ k) ∧ Aside0 (Below w.heap.size w wc))
  case first =>
   have H := HC4.out
   clear HC4
   by_cases c5 : a0 = 2
   ·rw [if_pos c5] at H
    have c5b0 : (a0 == 2) = true := beq_iff_eq.mpr c5
    have c5b1 : (a0 != 2) = false := bne_eq_false_iff_eq.mpr c5
    clear c5
    (first | rw [c5b0] | (simp only [i64_w, i32_w]; rw [c5b0]) | skip)
    have H' := Aside0.mk H
    clear H
    go_wp2
    go_meet
    case rel => exact ⟨_, (true), (by first | rfl | (simp; done) | (simp [*]; done)), H', ⟨by first | omega | exact Nat.le_refl _⟩, ⟨by repeat (first | (with_reducible first | exact HB.out | apply below_alloc | apply pw_below_drewN | apply below_drew1) | exact HB.out)⟩⟩
   ·rw [if_neg c5] at H
    have c5b0 : (a0 == 2) = false := beq_eq_false_iff_ne.mpr c5
    have c5b1 : (a0 != 2) = true := bne_iff_ne.mpr c5
    (first | rw [c5b0] | (simp only [i64_w, i32_w]; rw [c5b0]) | skip)
    have H' := Aside0.mk H
    clear H
    go_wp2
    go_meet
    case rel => exact ⟨_, ((a1 == 10)), (by first | rfl | (simp; done) | (simp [*]; done)), H', ⟨by first | omega | exact Nat.le_refl _⟩, ⟨by repeat (first | (with_reducible first | exact HB.out | apply below_alloc | apply pw_below_drewN | apply below_drew1) | exact HB.out)⟩⟩
  case rest =>
   clear HC4
   try clear c1
   try clear p2
   try clear c3
   try clear c3b0
   try clear c3b1
   try clear c5
   try clear c5b0
   try clear c5b1
   obtain ⟨kq, x8_3, rfl, HA, HJ3, HB⟩ := hcut
   cases kq with
   | zero => exact absurd HA.out (by simp [impl_joining_joins.j0])
   | succ kj3 =>
    have H := HA.out
    clear HA
    simp only [impl_joining_joins.j0] at H
    by_cases c6 : x8_3 = true
    ·subst c6
     have H1 : (if a0 = 1 then (some (a1 == 10)) else (some false)) = some r := by rw [if_pos rfl] at H; exact H
     clear H
     have H := H1
     clear H1
     by_cases c7 : a0 = 1
     ·rw [if_pos c7] at H
      have c7b0 : (a0 == 1) = true := beq_iff_eq.mpr c7
      have c7b1 : (a0 != 1) = false := bne_eq_false_iff_eq.mpr c7
      clear c7
      obtain rfl := Option.some.inj H
      go_wp2
      go_ret
      exact ⟨by first | rfl | (simp [errW_none, errW_some] <;> rfl) | (simp [*, errW_none, errW_some] <;> rfl), by repeat (first | (with_reducible first | exact HB.out | apply below_alloc | apply pw_below_drewN | apply below_drew1) | exact HB.out)⟩
     ·rw [if_neg c7] at H
      have c7b0 : (a0 == 1) = false := beq_eq_false_iff_ne.mpr c7
      have c7b1 : (a0 != 1) = true := bne_iff_ne.mpr c7
      obtain rfl := Option.some.inj H
      go_wp2
      go_ret
      exact ⟨by first | rfl | (simp [errW_none, errW_some] <;> rfl) | (simp [*, errW_none, errW_some] <;> rfl), by repeat (first | (with_reducible first | exact HB.out | apply below_alloc | apply pw_below_drewN | apply below_drew1) | exact HB.out)⟩
    ·replace c6 := Bool.eq_false_iff.mpr c6
     subst c6
     have H1 : ((impl_RuneBidi.f a1).bind fun t116 => (if t116 = 9 then (some true) else (if a1 = 8205 then (some true) else ((impl_isRegional.f a1).bind fun t117 => (if t117 = true then (some (a0 == 3)) else (some false)))))) = some r := by rw [if_neg (show ¬ (false = true) by decide)] at H; exact H
     clear H
     have H := H1
     clear H1
     replace H := Option.bind_eq_some_iff.mp H
     obtain ⟨t116, A80, H⟩ := H
     replace H : (if t116 = 9 then (some true) else (if a1 = 8205 then (some true) else ((impl_isRegional.f a1).bind fun t117 => (if t117 = true then (some (a0 == 3)) else (some false))))) = some r := H
     have A8 := Aside0.mk A80
     clear A80
     by_cases c9 : t116 = 9
     ·rw [if_pos c9] at H
      have c9b0 : (t116 == 9) = true := beq_iff_eq.mpr c9
      have c9b1 : (t116 != 9) = false := bne_eq_false_iff_eq.mpr c9
      clear c9
      obtain rfl := Option.some.inj H
      go_wp2_with (first | ((with_reducible refine gate_callee (f := 128) rfl ?_); refine goesL_ (some 23) rfl rfl Try.func128 (by kernel_rfl) rfl #[.int .i64 a1] rfl (by (try simp only [List.map_toArray, List.map_cons, List.map_nil]); first | done | rfl | (simp only [List.length_drop, List.length_take]; rfl)) ?_; (with_reducible refine (impl_RuneBidi.calls a1 t116 _ A8.out).mono ?_); rintro e w10 ⟨rfl, hb⟩; refine ⟨_, rfl, ?_⟩; have n0_ := Aside0.mk (below_step (by repeat (first | (with_reducible first | exact HB.out | apply below_alloc | apply pw_below_drewN | apply below_drew1) | exact HB.out)) hb); clear HB; have HB := n0_; clear n0_; (try clear hb); (try clear hb2); (try clear hk); (try clear hi)))
      go_ret
      exact ⟨by first | rfl | (simp [errW_none, errW_some] <;> rfl) | (simp [*, errW_none, errW_some] <;> rfl), by repeat (first | (with_reducible first | exact HB.out | apply below_alloc | apply pw_below_drewN | apply below_drew1) | exact HB.out)⟩
     ·rw [if_neg c9] at H
      have c9b0 : (t116 == 9) = false := beq_eq_false_iff_ne.mpr c9
      have c9b1 : (t116 != 9) = true := bne_iff_ne.mpr c9
      by_cases c11 : a1 = 8205
      ·rw [if_pos c11] at H
       have c11b0 : (a1 == 8205) = true := beq_iff_eq.mpr c11
       have c11b1 : (a1 != 8205) = false := bne_eq_false_iff_eq.mpr c11
       clear c11
       obtain rfl := Option.some.inj H
       go_wp2_with (first | ((with_reducible refine gate_callee (f := 128) rfl ?_); refine goesL_ (some 23) rfl rfl Try.func128 (by kernel_rfl) rfl #[.int .i64 a1] rfl (by (try simp only [List.map_toArray, List.map_cons, List.map_nil]); first | done | rfl | (simp only [List.length_drop, List.length_take]; rfl)) ?_; (with_reducible refine (impl_RuneBidi.calls a1 t116 _ A8.out).mono ?_); rintro e w12 ⟨rfl, hb⟩; refine ⟨_, rfl, ?_⟩; have n0_ := Aside0.mk (below_step (by repeat (first | (with_reducible first | exact HB.out | apply below_alloc | apply pw_below_drewN | apply below_drew1) | exact HB.out)) hb); clear HB; have HB := n0_; clear n0_; (try clear hb); (try clear hb2); (try clear hk); (try clear hi)))
       go_ret
       exact ⟨by first | rfl | (simp [errW_none, errW_some] <;> rfl) | (simp [*, errW_none, errW_some] <;> rfl), by repeat (first | (with_reducible first | exact HB.out | apply below_alloc | apply pw_below_drewN | apply below_drew1) | exact HB.out)⟩
      ·rw [if_neg c11] at H
       have c11b0 : (a1 == 8205) = false := beq_eq_false_iff_ne.mpr c11
       have c11b1 : (a1 != 8205) = true := bne_iff_ne.mpr c11
       replace H := Option.bind_eq_some_iff.mp H
       obtain ⟨t117, A130, H⟩ := H
       replace H : (if t117 = true then (some (a0 == 3)) else (some false)) = some r := H
       have A13 := Aside0.mk A130
       clear A130
       by_cases c14 : t117 = true
       ·subst c14
        have H1 : (some (a0 == 3)) = some r := by rw [if_pos rfl] at H; exact H
        clear H
        have H := H1
        clear H1
        obtain rfl := Option.some.inj H
        go_wp2_with (first | ((with_reducible refine gate_callee (f := 128) rfl ?_); refine goesL_ (some 23) rfl rfl Try.func128 (by kernel_rfl) rfl #[.int .i64 a1] rfl (by (try simp only [List.map_toArray, List.map_cons, List.map_nil]); first | done | rfl | (simp only [List.length_drop, List.length_take]; rfl)) ?_; (with_reducible refine (impl_RuneBidi.calls a1 t116 _ A8.out).mono ?_); rintro e w15 ⟨rfl, hb⟩; refine ⟨_, rfl, ?_⟩; have n0_ := Aside0.mk (below_step (by repeat (first | (with_reducible first | exact HB.out | apply below_alloc | apply pw_below_drewN | apply below_drew1) | exact HB.out)) hb); clear HB; have HB := n0_; clear n0_; (try clear hb); (try clear hb2); (try clear hk); (try clear hi)) | ((with_reducible refine gate_callee (f := 160) rfl ?_); refine goesL_ (some 30) rfl rfl Try.func160 (by kernel_rfl) rfl #[.int .i64 a1] rfl (by (try simp only [List.map_toArray, List.map_cons, List.map_nil]); first | done | rfl | (simp only [List.length_drop, List.length_take]; rfl)) ?_; (with_reducible refine (impl_isRegional.calls a1 true _ A13.out).mono ?_); rintro e w' ⟨rfl, ⟨nd, rfl⟩⟩; refine ⟨_, rfl, ?_⟩))
        go_ret
        exact ⟨by first | rfl | (simp [errW_none, errW_some] <;> rfl) | (simp [*, errW_none, errW_some] <;> rfl), by repeat (first | (with_reducible first | exact HB.out | apply below_alloc | apply pw_below_drewN | apply below_drew1) | exact HB.out)⟩
       ·replace c14 := Bool.eq_false_iff.mpr c14
        subst c14
        have H1 : (some false) = some r := by rw [if_neg (show ¬ (false = true) by decide)] at H; exact H
        clear H
        have H := H1
        clear H1
        obtain rfl := Option.some.inj H
        go_wp2_with (first | ((with_reducible refine gate_callee (f := 128) rfl ?_); refine goesL_ (some 23) rfl rfl Try.func128 (by kernel_rfl) rfl #[.int .i64 a1] rfl (by (try simp only [List.map_toArray, List.map_cons, List.map_nil]); first | done | rfl | (simp only [List.length_drop, List.length_take]; rfl)) ?_; (with_reducible refine (impl_RuneBidi.calls a1 t116 _ A8.out).mono ?_); rintro e w16 ⟨rfl, hb⟩; refine ⟨_, rfl, ?_⟩; have n0_ := Aside0.mk (below_step (by repeat (first | (with_reducible first | exact HB.out | apply below_alloc | apply pw_below_drewN | apply below_drew1) | exact HB.out)) hb); clear HB; have HB := n0_; clear n0_; (try clear hb); (try clear hb2); (try clear hk); (try clear hi)) | ((with_reducible refine gate_callee (f := 160) rfl ?_); refine goesL_ (some 30) rfl rfl Try.func160 (by kernel_rfl) rfl #[.int .i64 a1] rfl (by (try simp only [List.map_toArray, List.map_cons, List.map_nil]); first | done | rfl | (simp only [List.length_drop, List.length_take]; rfl)) ?_; (with_reducible refine (impl_isRegional.calls a1 false _ A13.out).mono ?_); rintro e w' ⟨rfl, ⟨nd, rfl⟩⟩; refine ⟨_, rfl, ?_⟩))
        go_ret
        exact ⟨by first | rfl | (simp [errW_none, errW_some] <;> rfl) | (simp [*, errW_none, errW_some] <;> rfl), by repeat (first | (with_reducible first | exact HB.out | apply below_alloc | apply pw_below_drewN | apply below_drew1) | exact HB.out)⟩

/-! ### impl_joining_next: function 127 -/
def impl_joining_next.j0 : Nat → Int → Bool → Option (Int)
 | 0, _, _ => none
 | k + 1, x1, x11 => if x11 = true then (some 4) else ((impl_isRegional.f x1).bind fun t119 => (if t119 = true then (some 3) else (some 5)))
def impl_joining_next.f (k : Nat) (a0 : Int) (a1 : Int) : Option (Int) := if a1 = 13 then (some 1) else (if a1 = 10 then (some 2) else ((impl_isRegional.f a1).bind fun t118 => (if t118 = true then (impl_joining_next.j0 k a1 (a0 == 3)) else (impl_joining_next.j0 k a1 false))))
theorem impl_joining_next.mono_l : ∀ k, (∀ y0 y1, LeO (impl_joining_next.j0 k y0 y1) (impl_joining_next.j0 (k + 1) y0 y1))
 | 0 => fun _ _ r h => by simp [impl_joining_next.j0] at h
 | k + 1 => by
  have ih0 := impl_joining_next.mono_l k
  ·intro y0 y1
   unfold impl_joining_next.j0
   repeat' first
   | (with_reducible exact ih0 _ _)
   | (with_reducible exact LeO.refl _)
   | (with_reducible exact LeO.none _)
   | (with_reducible refine LeO.ite ?_ ?_)
   | (with_reducible refine LeO.bind ?_ (fun _ => ?_))
   | exact ih0 _ _
   | exact LeO.none _
   | refine LeO.ite ?_ ?_
   | refine LeO.bind ?_ (fun _ => ?_)
theorem impl_joining_next.mono : ∀ a0 a1 k, LeO (impl_joining_next.f k a0 a1) (impl_joining_next.f (k + 1) a0 a1) := by
 intro a0 a1 k
 have ih0 := impl_joining_next.mono_l k
 unfold impl_joining_next.f
 repeat' first
   | (with_reducible exact ih0 _ _)
   | (with_reducible exact LeO.refl _)
   | (with_reducible exact LeO.none _)
   | (with_reducible refine LeO.ite ?_ ?_)
   | (with_reducible refine LeO.bind ?_ (fun _ => ?_))
   | exact ih0 _ _
   | exact LeO.none _
   | refine LeO.ite ?_ ?_
   | refine LeO.bind ?_ (fun _ => ?_)
set_option maxHeartbeats 8000000 in
set_option maxRecDepth 100000 in
theorem impl_joining_next.calls (k : Nat) (a0 : Int) (a1 : Int) (r : Int) (w : World) (h : impl_joining_next.f k a0 a1 = some r) :
  Calls Try.prog 127 #[.int .i64 a0, .int .i64 a1] w fun e w' => e = .returned (.int .i64 r) ∧ Drawn0 w w' := by
 have H : (if a1 = 13 then (some 1) else (if a1 = 10 then (some 2) else ((impl_isRegional.f a1).bind fun t118 => (if t118 = true then (impl_joining_next.j0 k a1 (a0 == 3)) else (impl_joining_next.j0 k a1 false))))) = some r := h
 clear h
 by_cases c3 : a1 = 13
 ·rw [if_pos c3] at H
  have c3b0 : (a1 == 13) = true := beq_iff_eq.mpr c3
  have c3b1 : (a1 != 13) = false := bne_eq_false_iff_eq.mpr c3
  clear c3
  obtain rfl := Option.some.inj H
  go_enter Try.func127, Try.ntmps127
  go_wp2
  go_ret
  exact ⟨by first | rfl | (simp; done) | (simp [*]; done), by repeat (first | exact Drawn0.refl _ | apply Drawn0.step)⟩
 ·rw [if_neg c3] at H
  have c3b0 : (a1 == 13) = false := beq_eq_false_iff_ne.mpr c3
  have c3b1 : (a1 != 13) = true := bne_iff_ne.mpr c3
  by_cases c4 : a1 = 10
  ·rw [if_pos c4] at H
   have c4b0 : (a1 == 10) = true := beq_iff_eq.mpr c4
   have c4b1 : (a1 != 10) = false := bne_eq_false_iff_eq.mpr c4
   clear c4
   obtain rfl := Option.some.inj H
   go_enter Try.func127, Try.ntmps127
   go_wp2
   go_ret
   exact ⟨by first | rfl | (simp; done) | (simp [*]; done), by repeat (first | exact Drawn0.refl _ | apply Drawn0.step)⟩
  ·rw [if_neg c4] at H
   have c4b0 : (a1 == 10) = false := beq_eq_false_iff_ne.mpr c4
   have c4b1 : (a1 != 10) = true := bne_iff_ne.mpr c4
   have HC5 := Aside0.mk H
   clear H
   go_enter Try.func127, Try.ntmps127
   go_upto_region 5 with (fail)
   go_cut [11] (fun v11 wc => ∃ (kq : Nat) (x11_4 : Bool), v11 = .bool x11_4 ∧ Aside0 (impl_joining_next.j0 kq a1 x11_4 = some r) ∧ Aside0 (kq ≤ k) ∧ Drawn0 w wc)
   case first =>
    have H := HC5.out
    clear HC5
    replace H := Option.bind_eq_some_iff.mp H
    obtain ⟨t118, A60, H⟩ := H
    replace H : (if t118 = true then (impl_joining_next.j0 k a1 (a0 == 3)) else (impl_joining_next.j0 k a1 false)) = some r := H
    have A6 := Aside0.mk A60
    clear A60
    by_cases c7 : t118 = true
    ·subst c7
     have H1 : (impl_joining_next.j0 k a1 (a0 == 3)) = some r := by rw [if_pos rfl] at H; exact H
     clear H
     have H := H1
     clear H1
     have H' := Aside0.mk H
     clear H
     go_wp2_with (first | ((with_reducible refine gate_callee (f := 160) rfl ?_); refine goesL_ (some 13) rfl rfl Try.func160 (by kernel_rfl) rfl #[.int .i64 a1] rfl (by (try simp only [List.map_toArray, List.map_cons, List.map_nil]); first | done | rfl | (simp only [List.length_drop, List.length_take]; rfl)) ?_; (with_reducible refine (impl_isRegional.calls a1 true _ A6.out).mono ?_); rintro e w' ⟨rfl, ⟨nd, rfl⟩⟩; refine ⟨_, rfl, ?_⟩))
     go_meet
     case rel => exact ⟨_, ((a0 == 3)), (by first | rfl | (simp; done) | (simp [*]; done)), H', ⟨by first | omega | exact Nat.le_refl _⟩, by repeat (first | exact Drawn0.refl _ | apply Drawn0.step)⟩
    ·replace c7 := Bool.eq_false_iff.mpr c7
     subst c7
     have H1 : (impl_joining_next.j0 k a1 false) = some r := by rw [if_neg (show ¬ (false = true) by decide)] at H; exact H
     clear H
     have H := H1
     clear H1
     have H' := Aside0.mk H
     clear H
     go_wp2_with (first | ((with_reducible refine gate_callee (f := 160) rfl ?_); refine goesL_ (some 13) rfl rfl Try.func160 (by kernel_rfl) rfl #[.int .i64 a1] rfl (by (try simp only [List.map_toArray, List.map_cons, List.map_nil]); first | done | rfl | (simp only [List.length_drop, List.length_take]; rfl)) ?_; (with_reducible refine (impl_isRegional.calls a1 false _ A6.out).mono ?_); rintro e w' ⟨rfl, ⟨nd, rfl⟩⟩; refine ⟨_, rfl, ?_⟩))
     go_meet
     case rel => exact ⟨_, (false), (by first | rfl | (simp; done) | (simp [*]; done)), H', ⟨by first | omega | exact Nat.le_refl _⟩, by repeat (first | exact Drawn0.refl _ | apply Drawn0.step)⟩
   case rest =>
    clear HC5
    try clear c1
    try clear p2
    try clear c3
    try clear c3b0
    try clear c3b1
    try clear c4
    try clear c4b0
    try clear c4b1
    try clear c7
    obtain ⟨kq, x11_4, rfl, HA, HJ4, ⟨mc4, rfl⟩⟩ := hcut
    cases kq with
    | zero => exact absurd HA.out (by simp [impl_joining_next.j0])
    | succ kj4 =>
     have H := HA.out
     clear HA
     simp only [impl_joining_next.j0] at H
     by_cases c8 : x11_4 = true
     ·subst c8
      have H1 : (some 4) = some r := by rw [if_pos rfl] at H; exact H
      clear H
      have H := H1
      clear H1
      obtain rfl := Option.some.inj H
      go_wp2
      go_ret
      exact ⟨by first | rfl | (simp; done) | (simp [*]; done), by repeat (first | exact Drawn0.refl _ | apply Drawn0.step)⟩
     ·replace c8 := Bool.eq_false_iff.mpr c8
      subst c8
      have H1 : ((impl_isRegional.f a1).bind fun t119 => (if t119 = true then (some 3) else (some 5))) = some r := by rw [if_neg (show ¬ (false = true) by decide)] at H; exact H
      clear H
      have H := H1
      clear H1
      replace H := Option.bind_eq_some_iff.mp H
      obtain ⟨t119, A90, H⟩ := H
      replace H : (if t119 = true then (some 3) else (some 5)) = some r := H
      have A9 := Aside0.mk A90
      clear A90
      by_cases c10 : t119 = true
      ·subst c10
       have H1 : (some 3) = some r := by rw [if_pos rfl] at H; exact H
       clear H
       have H := H1
       clear H1
       obtain rfl := Option.some.inj H
       go_wp2_with (first | ((with_reducible refine gate_callee (f := 160) rfl ?_); refine goesL_ (some 20) rfl rfl Try.func160 (by kernel_rfl) rfl #[.int .i64 a1] rfl (by (try simp only [List.map_toArray, List.map_cons, List.map_nil]); first | done | rfl | (simp only [List.length_drop, List.length_take]; rfl)) ?_; (with_reducible refine (impl_isRegional.calls a1 true _ A9.out).mono ?_); rintro e w' ⟨rfl, ⟨nd, rfl⟩⟩; refine ⟨_, rfl, ?_⟩))
       go_ret
       exact ⟨by first | rfl | (simp; done) | (simp [*]; done), by repeat (first | exact Drawn0.refl _ | apply Drawn0.step)⟩
      ·replace c10 := Bool.eq_false_iff.mpr c10
       subst c10
       have H1 : (some 5) = some r := by rw [if_neg (show ¬ (false = true) by decide)] at H; exact H
       clear H
       have H := H1
       clear H1
       obtain rfl := Option.some.inj H
       go_wp2_with (first | ((with_reducible refine gate_callee (f := 160) rfl ?_); refine goesL_ (some 20) rfl rfl Try.func160 (by kernel_rfl) rfl #[.int .i64 a1] rfl (by (try simp only [List.map_toArray, List.map_cons, List.map_nil]); first | done | rfl | (simp only [List.length_drop, List.length_take]; rfl)) ?_; (with_reducible refine (impl_isRegional.calls a1 false _ A9.out).mono ?_); rintro e w' ⟨rfl, ⟨nd, rfl⟩⟩; refine ⟨_, rfl, ?_⟩))
       go_ret
       exact ⟨by first | rfl | (simp; done) | (simp [*]; done), by repeat (first | exact Drawn0.refl _ | apply Drawn0.step)⟩

/-! ### impl_joined: function 105 -/
def impl_joined.l0 : Nat → List Bool → Int → List Int → Int → Int → Option (List Bool)
 | 0, _, _, _, _, _ => none
 | k + 1, x3, x4, x7, x8, x9 => if x9 < x8 then (if 0 ≤ x9 then (if x9 < (x7.length : Int) then ((impl_joining_joins.f k x4 (rd x7 x9)).bind fun t121 => (if x3.length < 140737488355328 then ((impl_joining_next.f k x4 (rd x7 x9)).bind fun t125 => (impl_joined.l0 k (x3 ++ [t121]) t125 x7 x8 (wrap64 (x9 + 1)))) else (none))) else (none)) else (none)) else (some x3)
def impl_joined.f (k : Nat) (l0 : List Int) : Option (List Bool) := impl_joined.l0 k ([] : List Bool) 0 l0 (l0.length : Int) 0
theorem impl_joined.mono_l : ∀ k, (∀ y0 y1 y2 y3 y4, LeO (impl_joined.l0 k y0 y1 y2 y3 y4) (impl_joined.l0 (k + 1) y0 y1 y2 y3 y4))
 | 0 => fun _ _ _ _ _ r h => by simp [impl_joined.l0] at h
 | k + 1 => by
  have ih0 := impl_joined.mono_l k
  ·intro y0 y1 y2 y3 y4
   unfold impl_joined.l0
   repeat' first
   | (with_reducible exact ih0 _ _ _ _ _)
   | (with_reducible exact impl_joining_joins.mono _ _ _)
   | (with_reducible exact impl_joining_next.mono _ _ _)
   | (with_reducible exact LeO.refl _)
   | (with_reducible exact LeO.none _)
   | (with_reducible refine LeO.ite ?_ ?_)
   | (with_reducible refine LeO.bind ?_ (fun _ => ?_))
   | exact ih0 _ _ _ _ _
   | exact impl_joining_joins.mono _ _ _
   | exact impl_joining_next.mono _ _ _
   | exact LeO.none _
   | refine LeO.ite ?_ ?_
   | refine LeO.bind ?_ (fun _ => ?_)
theorem impl_joined.mono : ∀ a0 k, LeO (impl_joined.f k a0) (impl_joined.f (k + 1) a0) := by
 intro a0 k
 have ih0 := impl_joined.mono_l k
 unfold impl_joined.f
 repeat' first
   | (with_reducible exact ih0 _ _ _ _ _)
   | (with_reducible exact impl_joining_joins.mono _ _ _)
   | (with_reducible exact impl_joining_next.mono _ _ _)
   | (with_reducible exact LeO.refl _)
   | (with_reducible exact LeO.none _)
   | (with_reducible refine LeO.ite ?_ ?_)
   | (with_reducible refine LeO.bind ?_ (fun _ => ?_))
   | exact ih0 _ _ _ _ _
   | exact impl_joining_joins.mono _ _ _
   | exact impl_joining_next.mono _ _ _
   | exact LeO.none _
   | refine LeO.ite ?_ ?_
   | refine LeO.bind ?_ (fun _ => ?_)
set_option maxHeartbeats 8000000 in
set_option maxRecDepth 100000 in
theorem impl_joined.calls (k : Nat) (A0 : Option Addr) (c0 : Nat) (l0 : List Int) (r : List Bool) (w : World) (hr0 : Kd.C (Kd.int .i64) w A0 l0.length l0) (hc0 : l0.length ≤ c0) (h : impl_joined.f k l0 = some r) :
  Calls Try.prog 105 #[.slice A0 l0.length c0] w fun e w' => ∃ v0_ : Value, e = .returned (v0_) ∧ Kd.R Kd.bool 4 w' w.heap.size (fun _ => True) v0_ r ∧ Below w.heap.size w w' := by
 have HR0 := Aside0.mk hr0
 have HC0 := Aside0.mk hc0
 clear hr0 hc0
 have HB := Aside0.mk (Below.refl w.heap.size w)
 have H : (impl_joined.l0 k ([] : List Bool) 0 l0 (l0.length : Int) 0) = some r := h
 clear h
 have H' := Aside0.mk H
 clear H
 go_enter Try.func105, Try.ntmps105
 go_wp2
 go_loopg [3, 4, 9] k (fun kq v3 v4 v9 w' => ∃ (x3_1 : List Bool) (x4_1 : Int) (x9_1 : Int), v4 = .int .i64 x4_1 ∧ v9 = .int .i64 x9_1 ∧ Aside0 (impl_joined.l0 kq x3_1 x4_1 l0 (l0.length : Int) x9_1 = some r) ∧ Aside0 (kq ≤ k) ∧ Aside0 (Kd.R Kd.bool 4 w' w.heap.size (fun _ => True) v3 x3_1) ∧ Aside0 (Below w.heap.size w w'))
 case atStart => exact ⟨(([] : List Bool)), (0), (0), (by first | rfl | (simp; done) | (simp [*]; done)), (by first | rfl | (simp; done) | (simp [*]; done)), H', ⟨Nat.le_refl _⟩, ⟨by first | exact Kd.R_nil _ _ _ _ _ | exact Kd.N_nil _ _ _ _ _ | exact Kd.V_nil _ _ _ _ _ | exact Kd.Q_nil _ _ _ _ _ | exact Kd.S_nil _ _ _ _ _⟩, ⟨by repeat (first | (with_reducible first | exact HB.out | apply below_alloc | apply pw_below_drewN | apply below_drew1) | exact HB.out)⟩⟩
 case round =>
  clear H'
  try clear c1
  obtain ⟨x3_1, x4_1, x9_1, rfl, rfl, HA, HK1, HO_3, HB⟩ := hrel
  cases gk with
  | zero => exact absurd HA.out (by simp [impl_joined.l0])
  | succ k1 =>
   have H := HA.out
   clear HA
   simp only [impl_joined.l0] at H
   by_cases c2 : x9_1 < (l0.length : Int)
   ·rw [if_pos c2] at H
    have c2b0 : decide (x9_1 < (l0.length : Int)) = true := decide_eq_true c2
    clear c2
    by_cases c3 : 0 ≤ x9_1
    ·rw [if_pos c3] at H
     have c3b0 : decide (0 ≤ x9_1) = true := decide_eq_true c3
     clear c3
     by_cases c4 : x9_1 < (l0.length : Int)
     ·rw [if_pos c4] at H
      have c4b0 : decide (x9_1 < (l0.length : Int)) = true := decide_eq_true c4
      clear c4
      replace H := Option.bind_eq_some_iff.mp H
      obtain ⟨t121, A50, H⟩ := H
      replace H : (if x3_1.length < 140737488355328 then ((impl_joining_next.f k1 x4_1 (rd l0 x9_1)).bind fun t125 => (impl_joined.l0 k1 (x3_1 ++ [t121]) t125 l0 (l0.length : Int) (wrap64 (x9_1 + 1)))) else (none)) = some r := H
      have A5 := Aside0.mk A50
      clear A50
      by_cases c6 : x3_1.length < 140737488355328
      ·rw [if_pos c6] at H
       have LMc6 := Aside0.mk c6
       clear c6
       obtain ⟨y122, hy122⟩ : ∃ y_ : List Bool, y_ = (x3_1 ++ [t121]) := ⟨_, rfl⟩
       replace H : ((impl_joining_next.f k1 x4_1 (rd l0 x9_1)).bind fun t125 => (impl_joined.l0 k1 y122 t125 l0 (l0.length : Int) (wrap64 (x9_1 + 1)))) = some r := by first | (rw [hy122]; with_reducible exact H) | (have H2_ := (Option.bind_some _ _).symm.trans H; rw [hy122]; with_reducible exact H2_) | (have H2_ := (Option.bind_some _ _).symm.trans H; with_reducible exact H2_) | with_reducible exact H | (rw [hy122]; exact H) | exact H
       have Ny122 := Aside0.mk hy122
       clear hy122
       replace H := Option.bind_eq_some_iff.mp H
       obtain ⟨t125, A70, H⟩ := H
       replace H : (impl_joined.l0 k1 y122 t125 l0 (l0.length : Int) (wrap64 (x9_1 + 1))) = some r := H
       have A7 := Aside0.mk A70
       clear A70
       have H' := Aside0.mk H
       clear H
       have p120 : 0 ≤ (x9_1 : Int) := of_decide_eq_true (by first | (with_reducible assumption) | assumption)
       have q120 : x9_1 < (l0.length : Int) := of_decide_eq_true (by first | (with_reducible assumption) | assumption)
       obtain ⟨ad120, e120, hx120_0⟩ := Kd.at_int HR0.out x9_1 p120 q120
       cases e120
       replace hx120_0 := (HB.out.cell (World.block_lt_of_cell? w _ hx120_0)).trans hx120_0
       replace p120 := eq_true p120
       replace q120 := eq_true q120
       go_wp2_with (first | ((with_reducible refine gate_callee (f := 126) rfl ?_); refine goesL_ (some 16) rfl rfl Try.func126 (by kernel_rfl) rfl #[.int .i64 x4_1, .int .i64 (rd l0 x9_1)] rfl (by (try simp only [List.map_toArray, List.map_cons, List.map_nil]); first | done | rfl | (simp only [List.length_drop, List.length_take]; rfl)) ?_; (with_reducible refine (impl_joining_joins.calls k1 x4_1 (rd l0 x9_1) t121 _ A5.out).mono ?_); rintro e w8 ⟨rfl, hb⟩; refine ⟨_, rfl, ?_⟩; have n0_ := Aside0.mk (Kd.R_below (by (with_reducible repeat (first | apply Kd.R_alloc | apply Kd.R_drewN | apply Kd.R_drew)); exact HO_3.out) hb); have n1_ := Aside0.mk (below_step (by repeat (first | (with_reducible first | exact HB.out | apply below_alloc | apply pw_below_drewN | apply below_drew1) | exact HB.out)) hb); clear HO_3; clear HB; have HO_3 := n0_; have HB := n1_; clear n0_ n1_; (try clear hb); (try clear hb2); (try clear hk); (try clear hi)) | ((with_reducible refine gate_builtin (b := .append) (xs := #[.tmp 13, .tmp 17]) rfl ?_); at_builtin; refine Kd.R_append Kd.bool (w0 := w) w.heap.size rfl (.tmp 13) (.tmp 17) 88 4 (.bool false) 1 rfl Try.underlying88 info4 rfl (by decide) (by omega) u3 x3_1 t121 [.bool t121] (fun _ => True) (fun _ => False) rfl rfl ?aP (fun _ hk => hk.elim) ?aF ?aO ?aB ?aS ?aL ?_; (case aP => exact rfl); (case aB => exact (by repeat (first | (with_reducible first | exact HB.out | apply below_alloc | apply pw_below_drewN | apply below_drew1) | exact HB.out))); (case aF => exact (fun _ _ => trivial)); (case aO => exact (by (with_reducible repeat (first | apply Kd.R_alloc | apply Kd.R_drewN | apply Kd.R_drew)); exact HO_3.out)); (case aS => exact (below_size (by repeat (first | (with_reducible first | exact HB.out | apply below_alloc | apply pw_below_drewN | apply below_drew1) | exact HB.out)))); (case aL => have := LMc6.out; omega); intro v123 w9 ho hb hg hat; rw [← Ny122.out] at ho; have n0_ := Aside0.mk (hb); have n1_ := Aside0.mk (ho); clear HB; clear HO_3; have HB := n0_; have HO124 := n1_; clear n0_ n1_; clear ho hb hg hat) | ((with_reducible refine gate_callee (f := 127) rfl ?_); refine goesL_ (some 21) rfl rfl Try.func127 (by kernel_rfl) rfl #[.int .i64 x4_1, .int .i64 (rd l0 x9_1)] rfl (by (try simp only [List.map_toArray, List.map_cons, List.map_nil]); first | done | rfl | (simp only [List.length_drop, List.length_take]; rfl)) ?_; (with_reducible refine (impl_joining_next.calls k1 x4_1 (rd l0 x9_1) t125 _ A7.out).mono ?_); rintro e w' ⟨rfl, ⟨nd, rfl⟩⟩; refine ⟨_, rfl, ?_⟩))
       go_roundg k1
       case measure => have := HK1.out; omega
       case rel => exact ⟨(y122), (t125), (wrap64 (x9_1 + 1)), (by first | rfl | (simp; done) | (simp [*]; done)), (by first | rfl | (simp; done) | (simp [*]; done)), H', ⟨by have := HK1.out; omega⟩, ⟨by (with_reducible repeat (first | apply Kd.R_alloc | apply Kd.R_drewN | apply Kd.R_drew)); exact HO124.out⟩, ⟨by repeat (first | (with_reducible first | exact HB.out | apply below_alloc | apply pw_below_drewN | apply below_drew1) | exact HB.out)⟩⟩
      ·rw [if_neg c6] at H
       exact absurd H (by simp)
     ·rw [if_neg c4] at H
      exact absurd H (by simp)
    ·rw [if_neg c3] at H
     exact absurd H (by simp)
   ·rw [if_neg c2] at H
    have c2b0 : decide (x9_1 < (l0.length : Int)) = false := decide_eq_false c2
    clear c2
    obtain rfl := Option.some.inj H
    go_wp2
    go_ret
    exact ⟨_, by first | rfl | (simp [errW_none, errW_some] <;> rfl) | (simp [*, errW_none, errW_some] <;> rfl), by (with_reducible repeat (first | apply Kd.R_alloc | apply Kd.R_drewN | apply Kd.R_drew)); exact HO_3.out, by repeat (first | (with_reducible first | exact HB.out | apply below_alloc | apply pw_below_drewN | apply below_drew1) | exact HB.out)⟩

/-! ### impl_lineReaches: function 147 -/
def impl_lineReaches.f  : Option ((List (S129))) := some (([(⟨9, 9, 14⟩ : S129), (⟨10, 10, 4⟩ : S129), (⟨32, 32, 3⟩ : S129), (⟨33, 33, 10⟩ : S129), (⟨34, 34, 11⟩ : S129), (⟨40, 40, 8⟩ : S129), (⟨41, 41, 9⟩ : S129), (⟨44, 44, 13⟩ : S129), (⟨45, 45, 12⟩ : S129), (⟨46, 47, 13⟩ : S129), (⟨48, 57, 2⟩ : S129), (⟨58, 59, 13⟩ : S129), (⟨63, 63, 10⟩ : S129), (⟨91, 91, 8⟩ : S129), (⟨93, 93, 9⟩ : S129), (⟨123, 123, 8⟩ : S129), (⟨125, 125, 9⟩ : S129), (⟨160, 160, 5⟩ : S129), (⟨173, 173, 14⟩ : S129), (⟨1632, 1641, 2⟩ : S129), (⟨8203, 8203, 6⟩ : S129), (⟨8205, 8205, 7⟩ : S129), (⟨19968, 40959, 15⟩ : S129)] : List (S129)))
set_option maxHeartbeats 8000000 in
set_option maxRecDepth 100000 in
theorem impl_lineReaches.calls  (r : List (S129)) (w : World) (h : impl_lineReaches.f  = some r) :
  Calls Try.prog 147 #[] w fun e w' => ∃ v0_ : Value, e = .returned (v0_) ∧ Kd.R k129 129 w' w.heap.size (fun _ => True) v0_ r ∧ Below w.heap.size w w' := by
 have hu129 := Try.underlying129
 have HB := Aside0.mk (Below.refl w.heap.size w)
 have H : (some (([(⟨9, 9, 14⟩ : S129), (⟨10, 10, 4⟩ : S129), (⟨32, 32, 3⟩ : S129), (⟨33, 33, 10⟩ : S129), (⟨34, 34, 11⟩ : S129), (⟨40, 40, 8⟩ : S129), (⟨41, 41, 9⟩ : S129), (⟨44, 44, 13⟩ : S129), (⟨45, 45, 12⟩ : S129), (⟨46, 47, 13⟩ : S129), (⟨48, 57, 2⟩ : S129), (⟨58, 59, 13⟩ : S129), (⟨63, 63, 10⟩ : S129), (⟨91, 91, 8⟩ : S129), (⟨93, 93, 9⟩ : S129), (⟨123, 123, 8⟩ : S129), (⟨125, 125, 9⟩ : S129), (⟨160, 160, 5⟩ : S129), (⟨173, 173, 14⟩ : S129), (⟨1632, 1641, 2⟩ : S129), (⟨8203, 8203, 6⟩ : S129), (⟨8205, 8205, 7⟩ : S129), (⟨19968, 40959, 15⟩ : S129)] : List (S129)))) = some r := h
 clear h
 obtain ⟨y126, hy126⟩ : ∃ y_ : List (S129), y_ = (([(⟨9, 9, 14⟩ : S129), (⟨10, 10, 4⟩ : S129), (⟨32, 32, 3⟩ : S129), (⟨33, 33, 10⟩ : S129), (⟨34, 34, 11⟩ : S129), (⟨40, 40, 8⟩ : S129), (⟨41, 41, 9⟩ : S129), (⟨44, 44, 13⟩ : S129), (⟨45, 45, 12⟩ : S129), (⟨46, 47, 13⟩ : S129), (⟨48, 57, 2⟩ : S129), (⟨58, 59, 13⟩ : S129), (⟨63, 63, 10⟩ : S129), (⟨91, 91, 8⟩ : S129), (⟨93, 93, 9⟩ : S129), (⟨123, 123, 8⟩ : S129), (⟨125, 125, 9⟩ : S129), (⟨160, 160, 5⟩ : S129), (⟨173, 173, 14⟩ : S129), (⟨1632, 1641, 2⟩ : S129), (⟨8203, 8203, 6⟩ : S129), (⟨8205, 8205, 7⟩ : S129), (⟨19968, 40959, 15⟩ : S129)] : List (S129))) := ⟨_, rfl⟩
 replace H : (some y126) = some r := by first | (rw [hy126]; with_reducible exact H) | (have H2_ := (Option.bind_some _ _).symm.trans H; rw [hy126]; with_reducible exact H2_) | (have H2_ := (Option.bind_some _ _).symm.trans H; with_reducible exact H2_) | with_reducible exact H | (rw [hy126]; exact H) | exact H
 have Ny126 := Aside0.mk hy126
 clear hy126
 obtain rfl := Option.some.inj H
 go_enter Try.func147, Try.ntmps147
 go_wp2_with (first | ((with_reducible refine gate_dst (N := 24) rfl ?_); refine Kd.R_lit k129 _ 129 ?hg (N := 24) ?hd (xs := ([(⟨9, 9, 14⟩ : S129), (⟨10, 10, 4⟩ : S129), (⟨32, 32, 3⟩ : S129), (⟨33, 33, 10⟩ : S129), (⟨34, 34, 11⟩ : S129), (⟨40, 40, 8⟩ : S129), (⟨41, 41, 9⟩ : S129), (⟨44, 44, 13⟩ : S129), (⟨45, 45, 12⟩ : S129), (⟨46, 47, 13⟩ : S129), (⟨48, 57, 2⟩ : S129), (⟨58, 59, 13⟩ : S129), (⟨63, 63, 10⟩ : S129), (⟨91, 91, 8⟩ : S129), (⟨93, 93, 9⟩ : S129), (⟨123, 123, 8⟩ : S129), (⟨125, 125, 9⟩ : S129), (⟨160, 160, 5⟩ : S129), (⟨173, 173, 14⟩ : S129), (⟨1632, 1641, 2⟩ : S129), (⟨8203, 8203, 6⟩ : S129), (⟨8205, 8205, 7⟩ : S129), (⟨19968, 40959, 15⟩ : S129)] : List (S129))) (inner := [.int .i64 9, .int .i64 9, .int .i64 14, .int .i64 10, .int .i64 10, .int .i64 4, .int .i64 32, .int .i64 32, .int .i64 3, .int .i64 33, .int .i64 33, .int .i64 10, .int .i64 34, .int .i64 34, .int .i64 11, .int .i64 40, .int .i64 40, .int .i64 8, .int .i64 41, .int .i64 41, .int .i64 9, .int .i64 44, .int .i64 44, .int .i64 13, .int .i64 45, .int .i64 45, .int .i64 12, .int .i64 46, .int .i64 47, .int .i64 13, .int .i64 48, .int .i64 57, .int .i64 2, .int .i64 58, .int .i64 59, .int .i64 13, .int .i64 63, .int .i64 63, .int .i64 10, .int .i64 91, .int .i64 91, .int .i64 8, .int .i64 93, .int .i64 93, .int .i64 9, .int .i64 123, .int .i64 123, .int .i64 8, .int .i64 125, .int .i64 125, .int .i64 9, .int .i64 160, .int .i64 160, .int .i64 5, .int .i64 173, .int .i64 173, .int .i64 14, .int .i64 1632, .int .i64 1641, .int .i64 2, .int .i64 8203, .int .i64 8203, .int .i64 6, .int .i64 8205, .int .i64 8205, .int .i64 7, .int .i64 19968, .int .i64 40959, .int .i64 15]) (ok := fun _ => True) (okp := fun _ => True) ?hr ?hp (fun _ hk => hk) trivial (Below.refl _ _) (Nat.le_refl _) (by simp) ?_; (case hd => rfl); (case hg => rfl); (case hr => first | (go_simp; done) | (go_simp; rfl)); (case hp => exact (Reps.c3 (show Kd.M k129 _ _ _ (⟨9, 9, 14⟩ : S129) [.int .i64 9, .int .i64 9, .int .i64 14] from (k129_mkM _ _ _ (⟨9, 9, 14⟩ : S129) )) (Reps.c3 (show Kd.M k129 _ _ _ (⟨10, 10, 4⟩ : S129) [.int .i64 10, .int .i64 10, .int .i64 4] from (k129_mkM _ _ _ (⟨10, 10, 4⟩ : S129) )) (Reps.c3 (show Kd.M k129 _ _ _ (⟨32, 32, 3⟩ : S129) [.int .i64 32, .int .i64 32, .int .i64 3] from (k129_mkM _ _ _ (⟨32, 32, 3⟩ : S129) )) (Reps.c3 (show Kd.M k129 _ _ _ (⟨33, 33, 10⟩ : S129) [.int .i64 33, .int .i64 33, .int .i64 10] from (k129_mkM _ _ _ (⟨33, 33, 10⟩ : S129) )) (Reps.c3 (show Kd.M k129 _ _ _ (⟨34, 34, 11⟩ : S129) [.int .i64 34, .int .i64 34, .int .i64 11] from (k129_mkM _ _ _ (⟨34, 34, 11⟩ : S129) )) (Reps.c3 (show Kd.M k129 _ _ _ (⟨40, 40, 8⟩ : S129) [.int .i64 40, .int .i64 40, .int .i64 8] from (k129_mkM _ _ _ (⟨40, 40, 8⟩ : S129) )) (Reps.c3 (show Kd.M k129 _ _ _ (⟨41, 41, 9⟩ : S129) [.int .i64 41, .int .i64 41, .int .i64 9] from (k129_mkM _ _ _ (⟨41, 41, 9⟩ : S129) )) (Reps.c3 (show Kd.M k129 _ _ _ (⟨44, 44, 13⟩ : S129) [.int .i64 44, .int .i64 44, .int .i64 13] from (k129_mkM _ _ _ (⟨44, 44, 13⟩ : S129) )) (Reps.c3 (show Kd.M k129 _ _ _ (⟨45, 45, 12⟩ : S129) [.int .i64 45, .int .i64 45, .int .i64 12] from (k129_mkM _ _ _ (⟨45, 45, 12⟩ : S129) )) (Reps.c3 (show Kd.M k129 _ _ _ (⟨46, 47, 13⟩ : S129) [.int .i64 46, .int .i64 47, .int .i64 13] from (k129_mkM _ _ _ (⟨46, 47, 13⟩ : S129) )) (Reps.c3 (show Kd.M k129 _ _ _ (⟨48, 57, 2⟩ : S129) [.int .i64 48, .int .i64 57, .int .i64 2] from (k129_mkM _ _ _ (⟨48, 57, 2⟩ : S129) )) (Reps.c3 (show Kd.M k129 _ _ _ (⟨58, 59, 13⟩ : S129) [.int .i64 58, .int .i64 59, .int .i64 13] from (k129_mkM _ _ _ (⟨58, 59, 13⟩ : S129) )) (Reps.c3 (show Kd.M k129 _ _ _ (⟨63, 63, 10⟩ : S129) [.int .i64 63, .int .i64 63, .int .i64 10] from (k129_mkM _ _ _ (⟨63, 63, 10⟩ : S129) )) (Reps.c3 (show Kd.M k129 _ _ _ (⟨91, 91, 8⟩ : S129) [.int .i64 91, .int .i64 91, .int .i64 8] from (k129_mkM _ _ _ (⟨91, 91, 8⟩ : S129) )) (Reps.c3 (show Kd.M k129 _ _ _ (⟨93, 93, 9⟩ : S129) [.int .i64 93, .int .i64 93, .int .i64 9] from (k129_mkM _ _ _ (⟨93, 93, 9⟩ : S129) )) (Reps.c3 (show Kd.M k129 _ _ _ (⟨123, 123, 8⟩ : S129) [.int .i64 123, .int .i64 123, .int .i64 8] from (k129_mkM _ _ _ (⟨123, 123, 8⟩ : S129) )) (Reps.c3 (show Kd.M k129 _ _ _ (⟨125, 125, 9⟩ : S129) [.int .i64 125, .int .i64 125, .int .i64 9] from (k129_mkM _ _ _ (⟨125, 125, 9⟩ : S129) )) (Reps.c3 (show Kd.M k129 _ _ _ (⟨160, 160, 5⟩ : S129) [.int .i64 160, .int .i64 160, .int .i64 5] from (k129_mkM _ _ _ (⟨160, 160, 5⟩ : S129) )) (Reps.c3 (show Kd.M k129 _ _ _ (⟨173, 173, 14⟩ : S129) [.int .i64 173, .int .i64 173, .int .i64 14] from (k129_mkM _ _ _ (⟨173, 173, 14⟩ : S129) )) (Reps.c3 (show Kd.M k129 _ _ _ (⟨1632, 1641, 2⟩ : S129) [.int .i64 1632, .int .i64 1641, .int .i64 2] from (k129_mkM _ _ _ (⟨1632, 1641, 2⟩ : S129) )) (Reps.c3 (show Kd.M k129 _ _ _ (⟨8203, 8203, 6⟩ : S129) [.int .i64 8203, .int .i64 8203, .int .i64 6] from (k129_mkM _ _ _ (⟨8203, 8203, 6⟩ : S129) )) (Reps.c3 (show Kd.M k129 _ _ _ (⟨8205, 8205, 7⟩ : S129) [.int .i64 8205, .int .i64 8205, .int .i64 7] from (k129_mkM _ _ _ (⟨8205, 8205, 7⟩ : S129) )) (Reps.c3 (show Kd.M k129 _ _ _ (⟨19968, 40959, 15⟩ : S129) [.int .i64 19968, .int .i64 40959, .int .i64 15] from (k129_mkM _ _ _ (⟨19968, 40959, 15⟩ : S129) )) (Reps.none _ _))))))))))))))))))))))))); intro v127 w1 ho2 hb hg_ hnew_; clear hg_ hnew_; (first | rw [← Ny126.out] at ho2 | (simp only [Int.reduceToNat] at ho2; rw [← Ny126.out] at ho2)); have n0_ := Aside0.mk (Kd.R_lower ho2 (below_size (by repeat (first | (with_reducible first | exact HB.out | apply below_alloc | apply pw_below_drewN | apply below_drew1) | exact HB.out)))); have n1_ := Aside0.mk (below_step (by repeat (first | (with_reducible first | exact HB.out | apply below_alloc | apply pw_below_drewN | apply below_drew1) | exact HB.out)) hb); clear HB; have HO128 := n0_; have HB := n1_; clear n0_ n1_; clear hb ho2))
 go_ret
 exact ⟨_, by first | rfl | (simp [errW_none, errW_some] <;> rfl) | (simp [*, errW_none, errW_some] <;> rfl), by (with_reducible repeat (first | apply Kd.R_alloc | apply Kd.R_drewN | apply Kd.R_drew)); exact HO128.out, by repeat (first | (with_reducible first | exact HB.out | apply below_alloc | apply pw_below_drewN | apply below_drew1) | exact HB.out)⟩

/-! ### impl_RuneLine: function 117 -/
def impl_RuneLine.j0 : Nat → Int → Bool → Option (Int)
 | 0, _, _ => none
 | k + 1, x0, x11 => if x11 = true then (some 7) else ((impl_lineReaches.f).bind fun t130 => ((impl_find.f t130 x0 1).bind fun t133 => (some t133)))
def impl_RuneLine.f (k : Nat) (a0 : Int) : Option (Int) := (impl_RuneBidi.f a0).bind fun t129 => (if t129 = 9 then (impl_RuneLine.j0 k a0 true) else (impl_RuneLine.j0 k a0 (decide (t129 ≥ 14))))
theorem impl_RuneLine.mono_l : ∀ k, (∀ y0 y1, LeO (impl_RuneLine.j0 k y0 y1) (impl_RuneLine.j0 (k + 1) y0 y1))
 | 0 => fun _ _ r h => by simp [impl_RuneLine.j0] at h
 | k + 1 => by
  have ih0 := impl_RuneLine.mono_l k
  ·intro y0 y1
   unfold impl_RuneLine.j0
   repeat' first
   | (with_reducible exact ih0 _ _)
   | (with_reducible exact LeO.refl _)
   | (with_reducible exact LeO.none _)
   | (with_reducible refine LeO.ite ?_ ?_)
   | (with_reducible refine LeO.bind ?_ (fun _ => ?_))
   | exact ih0 _ _
   | exact LeO.none _
   | refine LeO.ite ?_ ?_
   | refine LeO.bind ?_ (fun _ => ?_)
theorem impl_RuneLine.mono : ∀ a0 k, LeO (impl_RuneLine.f k a0) (impl_RuneLine.f (k + 1) a0) := by
 intro a0 k
 have ih0 := impl_RuneLine.mono_l k
 unfold impl_RuneLine.f
 repeat' first
   | (with_reducible exact ih0 _ _)
   | (with_reducible exact LeO.refl _)
   | (with_reducible exact LeO.none _)
   | (with_reducible refine LeO.ite ?_ ?_)
   | (with_reducible refine LeO.bind ?_ (fun _ => ?_))
   | exact ih0 _ _
   | exact LeO.none _
   | refine LeO.ite ?_ ?_
   | refine LeO.bind ?_ (fun _ => ?_)
set_option maxHeartbeats 8000000 in
set_option maxRecDepth 100000 in
theorem impl_RuneLine.calls (k : Nat) (a0 : Int) (r : Int) (w : World) (h : impl_RuneLine.f k a0 = some r) :
  Calls Try.prog 117 #[.int .i64 a0] w fun e w' => e = .returned (.int .i64 r) ∧ Below w.heap.size w w' := by
 have HB := Aside0.mk (Below.refl w.heap.size w)
 have H : ((impl_RuneBidi.f a0).bind fun t129 => (if t129 = 9 then (impl_RuneLine.j0 k a0 true) else (impl_RuneLine.j0 k a0 (decide (t129 ≥ 14))))) = some r := h
 clear h
 replace H := Option.bind_eq_some_iff.mp H
 obtain ⟨t129, A20, H⟩ := H
 replace H : (if t129 = 9 then (impl_RuneLine.j0 k a0 true) else (impl_RuneLine.j0 k a0 (decide (t129 ≥ 14)))) = some r := H
 have A2 := Aside0.mk A20
 clear A20
 have HC3 := Aside0.mk H
 clear H
 go_enter Try.func117, Try.ntmps117
 go_upto_region 2 with (first | ((with_reducible refine gate_callee (f := 128) rfl ?_); refine goesL_ (some 5) rfl rfl Try.func128 (by kernel_rfl) rfl #[.int .i64 a0] rfl (by (try simp only [List.map_toArray, List.map_cons, List.map_nil]); first | done | rfl | (simp only [List.length_drop, List.length_take]; rfl)) ?_; (with_reducible refine (impl_RuneBidi.calls a0 t129 _ A2.out).mono ?_); rintro e w4 ⟨rfl, hb⟩; refine ⟨_, rfl, ?_⟩; have n0_ := Aside0.mk (below_step (by repeat (first | (with_reducible first | exact HB.out | apply below_alloc | apply pw_below_drewN | apply below_drew1) | exact HB.out)) hb); clear HB; have HB := n0_; clear n0_; (try clear hb); (try clear hb2); (try clear hk); (try clear hi)))
 (try simp only [Act.put, List.setIfInBounds_toArray, List.set_cons_zero, List.set_cons_succ])
 go_cut [11] (fun v11 wc => ∃ (kq : Nat) (x11_2 : Bool), v11 = .bool x11_2 ∧ Aside0 (impl_RuneLine.j0 kq a0 x11_2 = some r) ∧ Aside0 (kq ≤ k) ∧ Aside0 (Below w.heap.size w wc))
 case first =>
  have H := HC3.out
  clear HC3
  by_cases c5 : t129 = 9
  ·rw [if_pos c5] at H
   have c5b0 : (t129 == 9) = true := beq_iff_eq.mpr c5
   have c5b1 : (t129 != 9) = false := bne_eq_false_iff_eq.mpr c5
   clear c5
   (first | rw [c5b0] | (simp only [i64_w, i32_w]; rw [c5b0]) | skip)
   have H' := Aside0.mk H
   clear H
   go_wp2
   go_meet
   case rel => exact ⟨_, (true), (by first | rfl | (simp; done) | (simp [*]; done)), H', ⟨by first | omega | exact Nat.le_refl _⟩, ⟨by repeat (first | (with_reducible first | exact HB.out | apply below_alloc | apply pw_below_drewN | apply below_drew1) | exact HB.out)⟩⟩
  ·rw [if_neg c5] at H
   have c5b0 : (t129 == 9) = false := beq_eq_false_iff_ne.mpr c5
   have c5b1 : (t129 != 9) = true := bne_iff_ne.mpr c5
   (first | rw [c5b0] | (simp only [i64_w, i32_w]; rw [c5b0]) | skip)
   have H' := Aside0.mk H
   clear H
   go_wp2
   go_meet
   case rel => exact ⟨_, (decide (t129 ≥ 14)), (by first | rfl | (simp; done) | (simp [*]; done)), H', ⟨by first | omega | exact Nat.le_refl _⟩, ⟨by repeat (first | (with_reducible first | exact HB.out | apply below_alloc | apply pw_below_drewN | apply below_drew1) | exact HB.out)⟩⟩
 case rest =>
  clear HC3
  try clear c1
  try clear p2
  try clear c5
  try clear c5b0
  try clear c5b1
  obtain ⟨kq, x11_2, rfl, HA, HJ2, HB⟩ := hcut
  cases kq with
  | zero => exact absurd HA.out (by simp [impl_RuneLine.j0])
  | succ kj2 =>
   have H := HA.out
   clear HA
   simp only [impl_RuneLine.j0] at H
   by_cases c6 : x11_2 = true
   ·subst c6
    have H1 : (some 7) = some r := by rw [if_pos rfl] at H; exact H
    clear H
    have H := H1
    clear H1
    obtain rfl := Option.some.inj H
    go_wp2
    go_ret
    exact ⟨by first | rfl | (simp [errW_none, errW_some] <;> rfl) | (simp [*, errW_none, errW_some] <;> rfl), by repeat (first | (with_reducible first | exact HB.out | apply below_alloc | apply pw_below_drewN | apply below_drew1) | exact HB.out)⟩
   ·replace c6 := Bool.eq_false_iff.mpr c6
    subst c6
    have H1 : ((impl_lineReaches.f).bind fun t130 => ((impl_find.f t130 a0 1).bind fun t133 => (some t133))) = some r := by rw [if_neg (show ¬ (false = true) by decide)] at H; exact H
    clear H
    have H := H1
    clear H1
    replace H := Option.bind_eq_some_iff.mp H
    obtain ⟨t130, A70, H⟩ := H
    replace H : ((impl_find.f t130 a0 1).bind fun t133 => (some t133)) = some r := H
    have A7 := Aside0.mk A70
    clear A70
    replace H := Option.bind_eq_some_iff.mp H
    obtain ⟨t133, A80, H⟩ := H
    replace H : (some t133) = some r := H
    have A8 := Aside0.mk A80
    clear A80
    obtain rfl := Option.some.inj H
    go_wp2_with (first | ((with_reducible refine gate_callee (f := 147) rfl ?_); refine goesL_ (some 12) rfl rfl Try.func147 (by kernel_rfl) rfl #[] rfl (by (try simp only [List.map_toArray, List.map_cons, List.map_nil]); first | done | rfl | (simp only [List.length_drop, List.length_take]; rfl)) ?_; (with_reducible refine (impl_lineReaches.calls  t130 _ A7.out).mono ?_); rintro e w9 ⟨v131, rfl, ho0, hb⟩; refine ⟨_, rfl, ?_⟩; have n0_ := Aside0.mk (Kd.R_lower ho0 (below_size (by repeat (first | (with_reducible first | exact HB.out | apply below_alloc | apply pw_below_drewN | apply below_drew1) | exact HB.out)))); have n1_ := Aside0.mk (below_step (by repeat (first | (with_reducible first | exact HB.out | apply below_alloc | apply pw_below_drewN | apply below_drew1) | exact HB.out)) hb); clear HB; have HO132 := n0_; have HB := n1_; clear n0_ n1_; (try clear hb); (try clear hb2); (try clear hk); (try clear hi); (try clear ho0); obtain ⟨Ao10, co10, eo10⟩ := Kd.R_slice HO132.out; subst eo10) | ((with_reducible refine gate_callee (f := 146) rfl ?_); refine goesL_ (some 14) rfl rfl Try.func146 (by kernel_rfl) rfl #[.slice Ao10 t130.length co10, .int .i64 a0, .int .i64 1] rfl (by (try simp only [List.map_toArray, List.map_cons, List.map_nil]); first | done | rfl | (simp only [List.length_drop, List.length_take]; rfl)) ?_; (with_reducible refine (impl_find.calls _ _ t130 a0 1 t133 _ ?side1 ?side2 A8.out).mono ?_); (case side1 => repeat (first | exact (Kd.R_reads' HO132.out).2.2 | (with_reducible refine Kd.C_alloc ?_ _) | (with_reducible refine Kd.C_drewN ?_ _) | (with_reducible refine Kd.C_drew ?_))); (case side2 => exact (Kd.R_reads' HO132.out).2.1); rintro e w11 ⟨rfl, hb⟩; refine ⟨_, rfl, ?_⟩; have n0_ := Aside0.mk (Kd.R_below (by (with_reducible repeat (first | apply Kd.R_alloc | apply Kd.R_drewN | apply Kd.R_drew)); exact HO132.out) hb); have n1_ := Aside0.mk (below_step (by repeat (first | (with_reducible first | exact HB.out | apply below_alloc | apply pw_below_drewN | apply below_drew1) | exact HB.out)) hb); clear HO132; clear HB; have HO132 := n0_; have HB := n1_; clear n0_ n1_; (try clear hb); (try clear hb2); (try clear hk); (try clear hi)))
    go_ret
    exact ⟨by first | rfl | (simp [errW_none, errW_some] <;> rfl) | (simp [*, errW_none, errW_some] <;> rfl), by repeat (first | (with_reducible first | exact HB.out | apply below_alloc | apply pw_below_drewN | apply below_drew1) | exact HB.out)⟩

/-! ### impl_oneOf: function 135 -/
def impl_oneOf.l0 : Nat → Int → List Int → Int → Int → Option (Bool)
 | 0, _, _, _, _ => none
 | k + 1, x0, x7, x8, x9 => if x9 < x8 then (if 0 ≤ x9 then (if x9 < (x7.length : Int) then (if x0 = (rd x7 x9) then (some true) else (impl_oneOf.l0 k x0 x7 x8 (wrap64 (x9 + 1)))) else (none)) else (none)) else (some false)
def impl_oneOf.f (k : Nat) (a0 : Int) (l1 : List Int) : Option (Bool) := impl_oneOf.l0 k a0 l1 (l1.length : Int) 0
theorem impl_oneOf.mono_l : ∀ k, (∀ y0 y1 y2 y3, LeO (impl_oneOf.l0 k y0 y1 y2 y3) (impl_oneOf.l0 (k + 1) y0 y1 y2 y3))
 | 0 => fun _ _ _ _ r h => by simp [impl_oneOf.l0] at h
 | k + 1 => by
  have ih0 := impl_oneOf.mono_l k
  ·intro y0 y1 y2 y3
   unfold impl_oneOf.l0
   repeat' first
   | (with_reducible exact ih0 _ _ _ _)
   | (with_reducible exact LeO.refl _)
   | (with_reducible exact LeO.none _)
   | (with_reducible refine LeO.ite ?_ ?_)
   | (with_reducible refine LeO.bind ?_ (fun _ => ?_))
   | exact ih0 _ _ _ _
   | exact LeO.none _
   | refine LeO.ite ?_ ?_
   | refine LeO.bind ?_ (fun _ => ?_)
theorem impl_oneOf.mono : ∀ a0 a1 k, LeO (impl_oneOf.f k a0 a1) (impl_oneOf.f (k + 1) a0 a1) := by
 intro a0 a1 k
 have ih0 := impl_oneOf.mono_l k
 unfold impl_oneOf.f
 repeat' first
   | (with_reducible exact ih0 _ _ _ _)
   | (with_reducible exact LeO.refl _)
   | (with_reducible exact LeO.none _)
   | (with_reducible refine LeO.ite ?_ ?_)
   | (with_reducible refine LeO.bind ?_ (fun _ => ?_))
   | exact ih0 _ _ _ _
   | exact LeO.none _
   | refine LeO.ite ?_ ?_
   | refine LeO.bind ?_ (fun _ => ?_)
set_option maxHeartbeats 8000000 in
set_option maxRecDepth 100000 in
theorem impl_oneOf.calls (k : Nat) (a0 : Int) (A1 : Option Addr) (c1 : Nat) (l1 : List Int) (r : Bool) (w : World) (hr1 : Kd.C (Kd.int .i64) w A1 l1.length l1) (hc1 : l1.length ≤ c1) (h : impl_oneOf.f k a0 l1 = some r) :
  Calls Try.prog 135 #[.int .i64 a0, .slice A1 l1.length c1] w fun e w' => e = .returned (.bool r) ∧ Drawn0 w w' := by
 have HR1 := Aside0.mk hr1
 have HC1 := Aside0.mk hc1
 clear hr1 hc1
 have H : (impl_oneOf.l0 k a0 l1 (l1.length : Int) 0) = some r := h
 clear h
 have H' := Aside0.mk H
 clear H
 go_enter Try.func135, Try.ntmps135
 go_wp2
 go_loopg [9] k (fun kq v9 w' => ∃ (x9_1 : Int), v9 = .int .i64 x9_1 ∧ Aside0 (impl_oneOf.l0 kq a0 l1 (l1.length : Int) x9_1 = some r) ∧ Aside0 (kq ≤ k) ∧ Drawn0 w w')
 case atStart => exact ⟨(0), (by first | rfl | (simp; done) | (simp [*]; done)), H', ⟨Nat.le_refl _⟩, by repeat (first | exact Drawn0.refl _ | apply Drawn0.step)⟩
 case round =>
  clear H'
  try clear c1
  try clear p2
  obtain ⟨x9_1, rfl, HA, HK1, ⟨m1, rfl⟩⟩ := hrel
  cases gk with
  | zero => exact absurd HA.out (by simp [impl_oneOf.l0])
  | succ k1 =>
   have H := HA.out
   clear HA
   simp only [impl_oneOf.l0] at H
   by_cases c3 : x9_1 < (l1.length : Int)
   ·rw [if_pos c3] at H
    have c3b0 : decide (x9_1 < (l1.length : Int)) = true := decide_eq_true c3
    clear c3
    by_cases c4 : 0 ≤ x9_1
    ·rw [if_pos c4] at H
     have c4b0 : decide (0 ≤ x9_1) = true := decide_eq_true c4
     clear c4
     by_cases c5 : x9_1 < (l1.length : Int)
     ·rw [if_pos c5] at H
      have c5b0 : decide (x9_1 < (l1.length : Int)) = true := decide_eq_true c5
      clear c5
      by_cases c6 : a0 = (rd l1 x9_1)
      ·rw [if_pos c6] at H
       have c6b0 : (a0 == (rd l1 x9_1)) = true := beq_iff_eq.mpr c6
       have c6b1 : (a0 != (rd l1 x9_1)) = false := bne_eq_false_iff_eq.mpr c6
       clear c6
       obtain rfl := Option.some.inj H
       have p134 : 0 ≤ (x9_1 : Int) := of_decide_eq_true (by first | (with_reducible assumption) | assumption)
       have q134 : x9_1 < (l1.length : Int) := of_decide_eq_true (by first | (with_reducible assumption) | assumption)
       obtain ⟨ad134, e134, hx134_0⟩ := Kd.at_int HR1.out x9_1 p134 q134
       cases e134
       replace p134 := eq_true p134
       replace q134 := eq_true q134
       go_wp2
       go_ret
       exact ⟨by first | rfl | (simp; done) | (simp [*]; done), by repeat (first | exact Drawn0.refl _ | apply Drawn0.step)⟩
      ·rw [if_neg c6] at H
       have c6b0 : (a0 == (rd l1 x9_1)) = false := beq_eq_false_iff_ne.mpr c6
       have c6b1 : (a0 != (rd l1 x9_1)) = true := bne_iff_ne.mpr c6
       have H' := Aside0.mk H
       clear H
       have p134 : 0 ≤ (x9_1 : Int) := of_decide_eq_true (by first | (with_reducible assumption) | assumption)
       have q134 : x9_1 < (l1.length : Int) := of_decide_eq_true (by first | (with_reducible assumption) | assumption)
       obtain ⟨ad134, e134, hx134_0⟩ := Kd.at_int HR1.out x9_1 p134 q134
       cases e134
       replace p134 := eq_true p134
       replace q134 := eq_true q134
       go_wp2
       go_roundg k1
       case measure => have := HK1.out; omega
       case rel => exact ⟨(wrap64 (x9_1 + 1)), (by first | rfl | (simp; done) | (simp [*]; done)), H', ⟨by have := HK1.out; omega⟩, by repeat (first | exact Drawn0.refl _ | apply Drawn0.step)⟩
     ·rw [if_neg c5] at H
      exact absurd H (by simp)
    ·rw [if_neg c4] at H
     exact absurd H (by simp)
   ·rw [if_neg c3] at H
    have c3b0 : decide (x9_1 < (l1.length : Int)) = false := decide_eq_false c3
    clear c3
    obtain rfl := Option.some.inj H
    go_wp2
    go_ret
    exact ⟨by first | rfl | (simp; done) | (simp [*]; done), by repeat (first | exact Drawn0.refl _ | apply Drawn0.step)⟩

/-! ### impl_afterSpace: function 118 -/
def impl_afterSpace.f (k : Nat) (a0 : Int) : Option (Bool) := (impl_oneOf.f k a0 (([3, 4, 6] : List Int))).bind fun t138 => (some t138)
theorem impl_afterSpace.mono : ∀ a0 k, LeO (impl_afterSpace.f k a0) (impl_afterSpace.f (k + 1) a0) := by
 intro a0 k
 unfold impl_afterSpace.f
 repeat' first
   | (with_reducible exact impl_oneOf.mono _ _ _)
   | (with_reducible exact LeO.refl _)
   | (with_reducible exact LeO.none _)
   | (with_reducible refine LeO.ite ?_ ?_)
   | (with_reducible refine LeO.bind ?_ (fun _ => ?_))
   | exact impl_oneOf.mono _ _ _
   | exact LeO.none _
   | refine LeO.ite ?_ ?_
   | refine LeO.bind ?_ (fun _ => ?_)
set_option maxHeartbeats 8000000 in
set_option maxRecDepth 100000 in
theorem impl_afterSpace.calls (k : Nat) (a0 : Int) (r : Bool) (w : World) (h : impl_afterSpace.f k a0 = some r) :
  Calls Try.prog 118 #[.int .i64 a0] w fun e w' => e = .returned (.bool r) ∧ Below w.heap.size w w' := by
 have HB := Aside0.mk (Below.refl w.heap.size w)
 have H : ((impl_oneOf.f k a0 (([3, 4, 6] : List Int))).bind fun t138 => (some t138)) = some r := h
 clear h
 obtain ⟨y135, hy135⟩ : ∃ y_ : List Int, y_ = (([3, 4, 6] : List Int)) := ⟨_, rfl⟩
 replace H : ((impl_oneOf.f k a0 y135).bind fun t138 => (some t138)) = some r := by first | (rw [hy135]; with_reducible exact H) | (have H2_ := (Option.bind_some _ _).symm.trans H; rw [hy135]; with_reducible exact H2_) | (have H2_ := (Option.bind_some _ _).symm.trans H; with_reducible exact H2_) | with_reducible exact H | (rw [hy135]; exact H) | exact H
 have Ny135 := Aside0.mk hy135
 clear hy135
 replace H := Option.bind_eq_some_iff.mp H
 obtain ⟨t138, A20, H⟩ := H
 replace H : (some t138) = some r := H
 have A2 := Aside0.mk A20
 clear A20
 obtain rfl := Option.some.inj H
 go_enter Try.func118, Try.ntmps118
 go_wp2_with (first | ((with_reducible refine gate_dst (N := 4) rfl ?_); refine Kd.R_lit (Kd.int .i64) _ 3 ?hg (N := 4) ?hd (xs := ([3, 4, 6] : List Int)) (inner := [.int .i64 3, .int .i64 4, .int .i64 6]) (ok := fun _ => True) (okp := fun _ => True) ?hr ?hp (fun _ hk => hk) trivial (Below.refl _ _) (Nat.le_refl _) (by simp) ?_; (case hd => rfl); (case hg => rfl); (case hr => first | (go_simp; done) | (go_simp; rfl)); (case hp => exact (Reps.one (show Kd.M (Kd.int .i64) _ _ _ 3 [.int .i64 3] from rfl) (Reps.one (show Kd.M (Kd.int .i64) _ _ _ 4 [.int .i64 4] from rfl) (Reps.one (show Kd.M (Kd.int .i64) _ _ _ 6 [.int .i64 6] from rfl) (Reps.none _ _))))); intro v136 w3 ho4 hb hg_ hnew_; clear hg_ hnew_; (first | rw [← Ny135.out] at ho4 | (simp only [Int.reduceToNat] at ho4; rw [← Ny135.out] at ho4)); have n0_ := Aside0.mk (Kd.R_lower ho4 (below_size (by repeat (first | (with_reducible first | exact HB.out | apply below_alloc | apply pw_below_drewN | apply below_drew1) | exact HB.out)))); have n1_ := Aside0.mk (below_step (by repeat (first | (with_reducible first | exact HB.out | apply below_alloc | apply pw_below_drewN | apply below_drew1) | exact HB.out)) hb); clear HB; have HO137 := n0_; have HB := n1_; clear n0_ n1_; clear hb ho4; obtain ⟨Ao5, co5, eo5⟩ := Kd.R_slice HO137.out; subst eo5) | ((with_reducible refine gate_callee (f := 135) rfl ?_); refine goesL_ (some 5) rfl rfl Try.func135 (by kernel_rfl) rfl #[.int .i64 a0, .slice Ao5 y135.length co5] rfl (by (try simp only [List.map_toArray, List.map_cons, List.map_nil]); first | done | rfl | (simp only [List.length_drop, List.length_take]; rfl)) ?_; (with_reducible refine (impl_oneOf.calls k a0 _ _ y135 t138 _ ?side1 ?side2 A2.out).mono ?_); (case side1 => repeat (first | exact (Kd.R_reads' HO137.out).2.2 | (with_reducible refine Kd.C_alloc ?_ _) | (with_reducible refine Kd.C_drewN ?_ _) | (with_reducible refine Kd.C_drew ?_))); (case side2 => exact (Kd.R_reads' HO137.out).2.1); rintro e w' ⟨rfl, ⟨nd, rfl⟩⟩; refine ⟨_, rfl, ?_⟩))
 go_ret
 exact ⟨by first | rfl | (simp [errW_none, errW_some] <;> rfl) | (simp [*, errW_none, errW_some] <;> rfl), by repeat (first | (with_reducible first | exact HB.out | apply below_alloc | apply pw_below_drewN | apply below_drew1) | exact HB.out)⟩

end Go.Proofs.Ytmjhdgofepdgkaa.PFnWords
