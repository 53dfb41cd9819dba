-- Written by a program of this session (wip/tools) out of the translation; its shape is that of the kit print.
import Derived.Test.YtpdkddhadgeheaaPFnExactRuneLinex0
import Derived.Test.YtpdkddhadgeheaaPFnExactRuneLinex2
namespace Go.Proofs.Ytpdkddhadgeheaa.PFnExactRuneLine
open Go.RowKit Go.Proofs.YtpdkddhadgeheaaW.PrintWords Go.Proofs.YtpdkddhadgeheaaW.PrintLast Go.Proofs.YtpdkddhadgeheaaW.PrintMore
attribute [local go_sem] max2_int min2_int max_two min_two max_three min_three max_four min_four   -- for this text's walks alone
set_option linter.unusedVariables false
set_option linter.unusedSimpArgs false

/-! ### cmp_Compare_int: function 128 -/
def cmp_Compare_int.f (a0 : Int) (a1 : Int) : Option (Int) := (cmp_isNaN_int.f a0).bind fun t122 => ((cmp_isNaN_int.f a1).bind fun t123 => (if t122 = true then (if t123 = true then (some 0) else (some (-1))) else (if t123 = true then (some 1) else (if a0 < a1 then (some (-1)) else (if a0 > a1 then (some 1) else (some 0))))))
set_option maxHeartbeats 8000000 in
set_option maxRecDepth 100000 in
theorem cmp_Compare_int.calls (a0 : Int) (a1 : Int) (r : Int) (w : World) (h : cmp_Compare_int.f a0 a1 = some r) :
    Calls Try.prog 128 #[.int .i64 a0, .int .i64 a1] w fun e w' => e = .returned (.int .i64 r) ∧ Drawn0 w w' := by
  have H : ((cmp_isNaN_int.f a0).bind fun t122 => ((cmp_isNaN_int.f a1).bind fun t123 => (if t122 = true then (if t123 = true then (some 0) else (some (-1))) else (if t123 = true then (some 1) else (if a0 < a1 then (some (-1)) else (if a0 > a1 then (some 1) else (some 0))))))) = some r := h
  clear h
  replace H := Option.bind_eq_some_iff.mp H
  obtain ⟨t122, A30, H⟩ := H
  replace H : ((cmp_isNaN_int.f a1).bind fun t123 => (if t122 = true then (if t123 = true then (some 0) else (some (-1))) else (if t123 = true then (some 1) else (if a0 < a1 then (some (-1)) else (if a0 > a1 then (some 1) else (some 0)))))) = some r := H
  have A3 := Aside0.mk A30
  clear A30
  replace H := Option.bind_eq_some_iff.mp H
  obtain ⟨t123, A40, H⟩ := H
  replace H : (if t122 = true then (if t123 = true then (some 0) else (some (-1))) else (if t123 = true then (some 1) else (if a0 < a1 then (some (-1)) else (if a0 > a1 then (some 1) else (some 0))))) = some r := H
  have A4 := Aside0.mk A40
  clear A40
  by_cases c5 : t122 = true
  · subst c5
    have H1 : (if t123 = true then (some 0) else (some (-1))) = some r := by rw [if_pos rfl] at H; exact H
    clear H
    have H := H1
    clear H1
    by_cases c6 : t123 = true
    · subst c6
      have H1 : (some 0) = some r := by rw [if_pos rfl] at H; exact H
      clear H
      have H := H1
      clear H1
      obtain rfl := Option.some.inj H
      go_enter Try.func128, Try.ntmps128
      go_wp2_with (first | ((with_reducible refine gate_callee (f := 172) rfl ?_); refine goesL_ (some 8) rfl rfl Try.func172 (by kernel_rfl) rfl #[.int .i64 a0] rfl (by (try simp only [List.map_toArray, List.map_cons, List.map_nil]); first | done | rfl | (simp only [List.length_drop, List.length_take]; rfl)) ?_; (with_reducible refine (cmp_isNaN_int.calls a0 true _ A3.out).mono ?_); rintro e w' ⟨rfl, ⟨nd, rfl⟩⟩; refine ⟨_, rfl, ?_⟩) | ((with_reducible refine gate_callee (f := 172) rfl ?_); refine goesL_ (some 10) rfl rfl Try.func172 (by kernel_rfl) rfl #[.int .i64 a1] rfl (by (try simp only [List.map_toArray, List.map_cons, List.map_nil]); first | done | rfl | (simp only [List.length_drop, List.length_take]; rfl)) ?_; (with_reducible refine (cmp_isNaN_int.calls a1 true _ A4.out).mono ?_); rintro e w' ⟨rfl, ⟨nd, rfl⟩⟩; refine ⟨_, rfl, ?_⟩))
      go_ret
      exact ⟨by first | rfl | (simp; done) | (simp [*]; done), by repeat (first | exact Drawn0.refl _ | apply Drawn0.step)⟩
    · replace c6 := Bool.eq_false_iff.mpr c6
      subst c6
      have H1 : (some (-1)) = some r := by rw [if_neg (show ¬ (false = true) by decide)] at H; exact H
      clear H
      have H := H1
      clear H1
      obtain rfl := Option.some.inj H
      go_enter Try.func128, Try.ntmps128
      go_wp2_with (first | ((with_reducible refine gate_callee (f := 172) rfl ?_); refine goesL_ (some 8) rfl rfl Try.func172 (by kernel_rfl) rfl #[.int .i64 a0] rfl (by (try simp only [List.map_toArray, List.map_cons, List.map_nil]); first | done | rfl | (simp only [List.length_drop, List.length_take]; rfl)) ?_; (with_reducible refine (cmp_isNaN_int.calls a0 true _ A3.out).mono ?_); rintro e w' ⟨rfl, ⟨nd, rfl⟩⟩; refine ⟨_, rfl, ?_⟩) | ((with_reducible refine gate_callee (f := 172) rfl ?_); refine goesL_ (some 10) rfl rfl Try.func172 (by kernel_rfl) rfl #[.int .i64 a1] rfl (by (try simp only [List.map_toArray, List.map_cons, List.map_nil]); first | done | rfl | (simp only [List.length_drop, List.length_take]; rfl)) ?_; (with_reducible refine (cmp_isNaN_int.calls a1 false _ A4.out).mono ?_); rintro e w' ⟨rfl, ⟨nd, rfl⟩⟩; refine ⟨_, rfl, ?_⟩))
      go_ret
      exact ⟨by first | rfl | (simp; done) | (simp [*]; done), by repeat (first | exact Drawn0.refl _ | apply Drawn0.step)⟩
  · replace c5 := Bool.eq_false_iff.mpr c5
    subst c5
    have H1 : (if t123 = true then (some 1) else (if a0 < a1 then (some (-1)) else (if a0 > a1 then (some 1) else (some 0)))) = some r := by rw [if_neg (show ¬ (false = true) by decide)] at H; exact H
    clear H
    have H := H1
    clear H1
    by_cases c7 : t123 = true
    · subst c7
      have H1 : (some 1) = some r := by rw [if_pos rfl] at H; exact H
      clear H
      have H := H1
      clear H1
      obtain rfl := Option.some.inj H
      go_enter Try.func128, Try.ntmps128
      go_wp2_with (first | ((with_reducible refine gate_callee (f := 172) rfl ?_); refine goesL_ (some 8) rfl rfl Try.func172 (by kernel_rfl) rfl #[.int .i64 a0] rfl (by (try simp only [List.map_toArray, List.map_cons, List.map_nil]); first | done | rfl | (simp only [List.length_drop, List.length_take]; rfl)) ?_; (with_reducible refine (cmp_isNaN_int.calls a0 false _ A3.out).mono ?_); rintro e w' ⟨rfl, ⟨nd, rfl⟩⟩; refine ⟨_, rfl, ?_⟩) | ((with_reducible refine gate_callee (f := 172) rfl ?_); refine goesL_ (some 10) rfl rfl Try.func172 (by kernel_rfl) rfl #[.int .i64 a1] rfl (by (try simp only [List.map_toArray, List.map_cons, List.map_nil]); first | done | rfl | (simp only [List.length_drop, List.length_take]; rfl)) ?_; (with_reducible refine (cmp_isNaN_int.calls a1 true _ A4.out).mono ?_); rintro e w' ⟨rfl, ⟨nd, rfl⟩⟩; refine ⟨_, rfl, ?_⟩))
      go_ret
      exact ⟨by first | rfl | (simp; done) | (simp [*]; done), by repeat (first | exact Drawn0.refl _ | apply Drawn0.step)⟩
    · replace c7 := Bool.eq_false_iff.mpr c7
      subst c7
      have H1 : (if a0 < a1 then (some (-1)) else (if a0 > a1 then (some 1) else (some 0))) = some r := by rw [if_neg (show ¬ (false = true) by decide)] at H; exact H
      clear H
      have H := H1
      clear H1
      by_cases c8 : a0 < a1
      · rw [if_pos c8] at H
        have c8b0 : decide (a0 < a1) = true := decide_eq_true c8
        clear c8
        obtain rfl := Option.some.inj H
        go_enter Try.func128, Try.ntmps128
        go_wp2_with (first | ((with_reducible refine gate_callee (f := 172) rfl ?_); refine goesL_ (some 8) rfl rfl Try.func172 (by kernel_rfl) rfl #[.int .i64 a0] rfl (by (try simp only [List.map_toArray, List.map_cons, List.map_nil]); first | done | rfl | (simp only [List.length_drop, List.length_take]; rfl)) ?_; (with_reducible refine (cmp_isNaN_int.calls a0 false _ A3.out).mono ?_); rintro e w' ⟨rfl, ⟨nd, rfl⟩⟩; refine ⟨_, rfl, ?_⟩) | ((with_reducible refine gate_callee (f := 172) rfl ?_); refine goesL_ (some 10) rfl rfl Try.func172 (by kernel_rfl) rfl #[.int .i64 a1] rfl (by (try simp only [List.map_toArray, List.map_cons, List.map_nil]); first | done | rfl | (simp only [List.length_drop, List.length_take]; rfl)) ?_; (with_reducible refine (cmp_isNaN_int.calls a1 false _ A4.out).mono ?_); rintro e w' ⟨rfl, ⟨nd, rfl⟩⟩; refine ⟨_, rfl, ?_⟩))
        go_ret
        exact ⟨by first | rfl | (simp; done) | (simp [*]; done), by repeat (first | exact Drawn0.refl _ | apply Drawn0.step)⟩
      · rw [if_neg c8] at H
        have c8b0 : decide (a0 < a1) = false := decide_eq_false c8
        clear c8
        by_cases c9 : a0 > a1
        · rw [if_pos c9] at H
          have c9b0 : decide (a1 < a0) = true := decide_eq_true c9
          clear c9
          obtain rfl := Option.some.inj H
          go_enter Try.func128, Try.ntmps128
          go_wp2_with (first | ((with_reducible refine gate_callee (f := 172) rfl ?_); refine goesL_ (some 8) rfl rfl Try.func172 (by kernel_rfl) rfl #[.int .i64 a0] rfl (by (try simp only [List.map_toArray, List.map_cons, List.map_nil]); first | done | rfl | (simp only [List.length_drop, List.length_take]; rfl)) ?_; (with_reducible refine (cmp_isNaN_int.calls a0 false _ A3.out).mono ?_); rintro e w' ⟨rfl, ⟨nd, rfl⟩⟩; refine ⟨_, rfl, ?_⟩) | ((with_reducible refine gate_callee (f := 172) rfl ?_); refine goesL_ (some 10) rfl rfl Try.func172 (by kernel_rfl) rfl #[.int .i64 a1] rfl (by (try simp only [List.map_toArray, List.map_cons, List.map_nil]); first | done | rfl | (simp only [List.length_drop, List.length_take]; rfl)) ?_; (with_reducible refine (cmp_isNaN_int.calls a1 false _ A4.out).mono ?_); rintro e w' ⟨rfl, ⟨nd, rfl⟩⟩; refine ⟨_, rfl, ?_⟩))
          go_ret
          exact ⟨by first | rfl | (simp; done) | (simp [*]; done), by repeat (first | exact Drawn0.refl _ | apply Drawn0.step)⟩
        · rw [if_neg c9] at H
          have c9b0 : decide (a1 < a0) = false := decide_eq_false c9
          clear c9
          obtain rfl := Option.some.inj H
          go_enter Try.func128, Try.ntmps128
          go_wp2_with (first | ((with_reducible refine gate_callee (f := 172) rfl ?_); refine goesL_ (some 8) rfl rfl Try.func172 (by kernel_rfl) rfl #[.int .i64 a0] rfl (by (try simp only [List.map_toArray, List.map_cons, List.map_nil]); first | done | rfl | (simp only [List.length_drop, List.length_take]; rfl)) ?_; (with_reducible refine (cmp_isNaN_int.calls a0 false _ A3.out).mono ?_); rintro e w' ⟨rfl, ⟨nd, rfl⟩⟩; refine ⟨_, rfl, ?_⟩) | ((with_reducible refine gate_callee (f := 172) rfl ?_); refine goesL_ (some 10) rfl rfl Try.func172 (by kernel_rfl) rfl #[.int .i64 a1] rfl (by (try simp only [List.map_toArray, List.map_cons, List.map_nil]); first | done | rfl | (simp only [List.length_drop, List.length_take]; rfl)) ?_; (with_reducible refine (cmp_isNaN_int.calls a1 false _ A4.out).mono ?_); rintro e w' ⟨rfl, ⟨nd, rfl⟩⟩; refine ⟨_, rfl, ?_⟩))
          go_ret
          exact ⟨by first | rfl | (simp; done) | (simp [*]; done), by repeat (first | exact Drawn0.refl _ | apply Drawn0.step)⟩

/-! ### impl_find_1: function 127 -/
def impl_find_1.f (a0_0 : Int) (a0_1 : Int) (a0_2 : Int) (a1 : Int) : Option (Int) := if a1 ≥ a0_0 then (if a1 ≤ a0_1 then (some 0) else ((cmp_Compare_int.f a0_0 a1).bind fun t125 => (some t125))) else ((cmp_Compare_int.f a0_0 a1).bind fun t126 => (some t126))
set_option maxHeartbeats 8000000 in
set_option maxRecDepth 100000 in
theorem impl_find_1.calls (a0_0 : Int) (a0_1 : Int) (a0_2 : Int) (a1 : Int) (r : Int) (w : World) (h : impl_find_1.f a0_0 a0_1 a0_2 a1 = some r) :
    Calls Try.prog 127 #[.agg #[.int .i64 a0_0, .int .i64 a0_1, .int .i64 a0_2], .int .i64 a1] w fun e w' => e = .returned (.int .i64 r) ∧ Below w.heap.size w w' := by
  have hu110 := Try.underlying110
  have HB := Aside0.mk (Below.refl w.heap.size w)
  have H : (if a1 ≥ a0_0 then (if a1 ≤ a0_1 then (some 0) else ((cmp_Compare_int.f a0_0 a1).bind fun t125 => (some t125))) else ((cmp_Compare_int.f a0_0 a1).bind fun t126 => (some t126))) = some r := h
  clear h
  by_cases c3 : a1 ≥ a0_0
  · rw [if_pos c3] at H
    have c3b0 : decide (a0_0 ≤ a1) = true := decide_eq_true c3
    clear c3
    by_cases c4 : a1 ≤ a0_1
    · rw [if_pos c4] at H
      have c4b0 : decide (a1 ≤ a0_1) = true := decide_eq_true c4
      clear c4
      obtain rfl := Option.some.inj H
      go_enter Try.func127, Try.ntmps127
      go_wp2_with (first | ((with_reducible refine gate_dst (N := 2) rfl ?_); refine box_event ?hg (N := 2) ?hd (cs := #[.int .i64 a0_0, .int .i64 a0_1, .int .i64 a0_2]) (t := 110) ?hr ?_; (case hd => rfl); (case hg => rfl); (case hr => first | (go_simp; done) | (go_simp; rfl)); intro gb124 hg w5 hbox hb; have n0_ := Aside0.mk (below_step (by repeat (first | (with_reducible first | exact HB.out | apply below_alloc | apply pw_below_drewN | apply below_drew1) | exact HB.out)) hb); have n1_ := Aside0.mk (hbox); have n2_ := Aside0.mk ((by rw [hg]; exact (below_size (by repeat (first | (with_reducible first | exact HB.out | apply below_alloc | apply pw_below_drewN | apply below_drew1) | exact HB.out))) : w.heap.size ≤ gb124)); have n3_ := Aside0.mk ((by rw [hg]; exact (below_size (by repeat (first | (with_reducible first | exact HB.out | apply below_alloc | apply pw_below_drewN | apply below_drew1) | exact HB.out))) : w.heap.size ≤ gb124)); clear HB; have HB := n0_; have BK124 := n1_; have GW124 := n2_; have GE124 := n3_; clear n0_ n1_ n2_ n3_; clear hb hbox hg; have hcz6_0 : w5.cell? ⟨gb124, 0, none⟩ = some (.int .i64 a0_0) := (blk_cell BK124.out 0).trans rfl; have hcz6_1 : w5.cell? ⟨gb124, 1, none⟩ = some (.int .i64 a0_1) := (blk_cell BK124.out 1).trans rfl; have hcz6_2 : w5.cell? ⟨gb124, 2, none⟩ = some (.int .i64 a0_2) := (blk_cell BK124.out 2).trans rfl; have hfz6_0 := blk_frozen BK124.out 0; have hfz6_1 := blk_frozen BK124.out 1; have hfz6_2 := blk_frozen BK124.out 2))
      go_ret
      exact ⟨by first | rfl | (simp [errW_none, errW_some] <;> rfl) | (simp [*, errW_none, errW_some] <;> rfl), by repeat (first | (with_reducible first | exact HB.out | apply below_alloc | apply pw_below_drewN | apply below_drew1 | refine below_set ?_ GE124.out) | exact HB.out)⟩
    · rw [if_neg c4] at H
      have c4b0 : decide (a1 ≤ a0_1) = false := decide_eq_false c4
      clear c4
      replace H := Option.bind_eq_some_iff.mp H
      obtain ⟨t125, A70, H⟩ := H
      replace H : (some t125) = some r := H
      have A7 := Aside0.mk A70
      clear A70
      obtain rfl := Option.some.inj H
      go_enter Try.func127, Try.ntmps127
      go_wp2_with (first | ((with_reducible refine gate_dst (N := 2) rfl ?_); refine box_event ?hg (N := 2) ?hd (cs := #[.int .i64 a0_0, .int .i64 a0_1, .int .i64 a0_2]) (t := 110) ?hr ?_; (case hd => rfl); (case hg => rfl); (case hr => first | (go_simp; done) | (go_simp; rfl)); intro gb124 hg w8 hbox hb; have n0_ := Aside0.mk (below_step (by repeat (first | (with_reducible first | exact HB.out | apply below_alloc | apply pw_below_drewN | apply below_drew1) | exact HB.out)) hb); have n1_ := Aside0.mk (hbox); have n2_ := Aside0.mk ((by rw [hg]; exact (below_size (by repeat (first | (with_reducible first | exact HB.out | apply below_alloc | apply pw_below_drewN | apply below_drew1) | exact HB.out))) : w.heap.size ≤ gb124)); have n3_ := Aside0.mk ((by rw [hg]; exact (below_size (by repeat (first | (with_reducible first | exact HB.out | apply below_alloc | apply pw_below_drewN | apply below_drew1) | exact HB.out))) : w.heap.size ≤ gb124)); clear HB; have HB := n0_; have BK124 := n1_; have GW124 := n2_; have GE124 := n3_; clear n0_ n1_ n2_ n3_; clear hb hbox hg; have hcz9_0 : w8.cell? ⟨gb124, 0, none⟩ = some (.int .i64 a0_0) := (blk_cell BK124.out 0).trans rfl; have hcz9_1 : w8.cell? ⟨gb124, 1, none⟩ = some (.int .i64 a0_1) := (blk_cell BK124.out 1).trans rfl; have hcz9_2 : w8.cell? ⟨gb124, 2, none⟩ = some (.int .i64 a0_2) := (blk_cell BK124.out 2).trans rfl; have hfz9_0 := blk_frozen BK124.out 0; have hfz9_1 := blk_frozen BK124.out 1; have hfz9_2 := blk_frozen BK124.out 2) | ((with_reducible refine gate_callee (f := 128) rfl ?_); refine goesL_ (some 18) rfl rfl Try.func128 (by kernel_rfl) rfl #[.int .i64 a0_0, .int .i64 a1] rfl (by (try simp only [List.map_toArray, List.map_cons, List.map_nil]); first | done | rfl | (simp only [List.length_drop, List.length_take]; rfl)) ?_; (with_reducible refine (cmp_Compare_int.calls a0_0 a1 t125 _ A7.out).mono ?_); rintro e w' ⟨rfl, ⟨nd, rfl⟩⟩; refine ⟨_, rfl, ?_⟩))
      go_ret
      exact ⟨by first | rfl | (simp [errW_none, errW_some] <;> rfl) | (simp [*, errW_none, errW_some] <;> rfl), by repeat (first | (with_reducible first | exact HB.out | apply below_alloc | apply pw_below_drewN | apply below_drew1 | refine below_set ?_ GE124.out) | exact HB.out)⟩
  · rw [if_neg c3] at H
    have c3b0 : decide (a0_0 ≤ a1) = false := decide_eq_false c3
    clear c3
    replace H := Option.bind_eq_some_iff.mp H
    obtain ⟨t126, A100, H⟩ := H
    replace H : (some t126) = some r := H
    have A10 := Aside0.mk A100
    clear A100
    obtain rfl := Option.some.inj H
    go_enter Try.func127, Try.ntmps127
    go_wp2_with (first | ((with_reducible refine gate_dst (N := 2) rfl ?_); refine box_event ?hg (N := 2) ?hd (cs := #[.int .i64 a0_0, .int .i64 a0_1, .int .i64 a0_2]) (t := 110) ?hr ?_; (case hd => rfl); (case hg => rfl); (case hr => first | (go_simp; done) | (go_simp; rfl)); intro gb124 hg w11 hbox hb; have n0_ := Aside0.mk (below_step (by repeat (first | (with_reducible first | exact HB.out | apply below_alloc | apply pw_below_drewN | apply below_drew1) | exact HB.out)) hb); have n1_ := Aside0.mk (hbox); have n2_ := Aside0.mk ((by rw [hg]; exact (below_size (by repeat (first | (with_reducible first | exact HB.out | apply below_alloc | apply pw_below_drewN | apply below_drew1) | exact HB.out))) : w.heap.size ≤ gb124)); have n3_ := Aside0.mk ((by rw [hg]; exact (below_size (by repeat (first | (with_reducible first | exact HB.out | apply below_alloc | apply pw_below_drewN | apply below_drew1) | exact HB.out))) : w.heap.size ≤ gb124)); clear HB; have HB := n0_; have BK124 := n1_; have GW124 := n2_; have GE124 := n3_; clear n0_ n1_ n2_ n3_; clear hb hbox hg; have hcz12_0 : w11.cell? ⟨gb124, 0, none⟩ = some (.int .i64 a0_0) := (blk_cell BK124.out 0).trans rfl; have hcz12_1 : w11.cell? ⟨gb124, 1, none⟩ = some (.int .i64 a0_1) := (blk_cell BK124.out 1).trans rfl; have hcz12_2 : w11.cell? ⟨gb124, 2, none⟩ = some (.int .i64 a0_2) := (blk_cell BK124.out 2).trans rfl; have hfz12_0 := blk_frozen BK124.out 0; have hfz12_1 := blk_frozen BK124.out 1; have hfz12_2 := blk_frozen BK124.out 2) | ((with_reducible refine gate_callee (f := 128) rfl ?_); refine goesL_ (some 18) rfl rfl Try.func128 (by kernel_rfl) rfl #[.int .i64 a0_0, .int .i64 a1] rfl (by (try simp only [List.map_toArray, List.map_cons, List.map_nil]); first | done | rfl | (simp only [List.length_drop, List.length_take]; rfl)) ?_; (with_reducible refine (cmp_Compare_int.calls a0_0 a1 t126 _ A10.out).mono ?_); rintro e w' ⟨rfl, ⟨nd, rfl⟩⟩; refine ⟨_, rfl, ?_⟩))
    go_ret
    exact ⟨by first | rfl | (simp [errW_none, errW_some] <;> rfl) | (simp [*, errW_none, errW_some] <;> rfl), by repeat (first | (with_reducible first | exact HB.out | apply below_alloc | apply pw_below_drewN | apply below_drew1 | refine below_set ?_ GE124.out) | exact HB.out)⟩

def zR : S110 := z110
def cmpR (x : S110) (r : Int) : Int := if x.f0 ≤ r ∧ r ≤ x.f1 then 0 else if x.f0 < r then -1 else if x.f0 > r then 1 else 0
theorem find_1_cmp (x : S110) (r : Int) : impl_find_1.f x.f0 x.f1 x.f2 r = some (cmpR x r) := by
  unfold impl_find_1.f cmp_Compare_int.f cmp_isNaN_int.f cmpR
  by_cases h1 : r ≥ x.f0 <;> by_cases h2 : r ≤ x.f1 <;> by_cases h3 : x.f0 < r <;> by_cases h4 : x.f0 > r <;> simp [h1, h2, h3, h4] <;> omega
/-- ascending reaches, none empty -/
def ascR : List S110 → Bool
  | [] => true
  | [x] => decide (x.f0 ≤ x.f1)
  | x :: y :: r => decide (x.f0 ≤ x.f1) && decide (x.f1 < y.f0) && ascR (y :: r)
theorem ascR_one : ∀ (l : List S110), ascR l = true → ∀ i, i < l.length → (l.getD i z110).f0 ≤ (l.getD i z110).f1
  | [], _, i, h => absurd h (Nat.not_lt_zero _)
  | [x], h, i, hi => by
    have : i = 0 := by simp at hi; omega
    subst this
    simpa [ascR] using h
  | x :: y :: r, h, i, hi => by
    simp only [ascR, Bool.and_eq_true, decide_eq_true_eq] at h
    cases i with
    | zero => simpa using h.1.1
    | succ i => simpa using ascR_one (y :: r) h.2 i (by simpa using hi)
theorem ascR_two : ∀ (l : List S110), ascR l = true → ∀ i j, i < j → j < l.length → (l.getD i z110).f1 < (l.getD j z110).f0
  | [], _, _, _, _, h => absurd h (Nat.not_lt_zero _)
  | [x], h, i, j, hij, hj => by simp at hj; omega
  | x :: y :: r, h, i, j, hij, hj => by
    have h' := h
    simp only [ascR, Bool.and_eq_true, decide_eq_true_eq] at h
    cases j with
    | zero => omega
    | succ j =>
      cases i with
      | zero =>
        cases j with
        | zero => simpa using h.1.2
        | succ j =>
          have h1 := ascR_two (y :: r) h.2 0 (j + 1) (by omega) (by simpa using hj)
          have h2 := ascR_one (y :: r) h.2 0 (by simp)
          simp only [List.getD_cons_zero, List.getD_cons_succ] at h1 h2 ⊢
          omega
      | succ i => simpa using ascR_two (y :: r) h.2 i j (by omega) (by simpa using hj)
def hitR (x : S110) (r : Int) : Bool := decide (x.f0 ≤ r) && decide (r ≤ x.f1)
def lookR (l : List S110) (r other : Int) : Int := ((l.find? fun x => hitR x r).map (·.f2)).getD other
theorem lookR_hit : ∀ (l : List S110) (i : Nat) (r o : Int), i < l.length → hitR (l.getD i z110) r = true → (∀ k, k < i → hitR (l.getD k z110) r = false) → lookR l r o = (l.getD i z110).f2
  | [], _, _, _, h, _, _ => absurd h (Nat.not_lt_zero _)
  | x :: xs, 0, r, o, _, hh, _ => by
    have h1 : hitR x r = true := by simpa using hh
    simp [lookR, List.find?_cons, h1]
  | x :: xs, i + 1, r, o, h, hh, hm => by
    have h1 : hitR x r = false := by simpa using hm 0 (by omega)
    have := lookR_hit xs i r o (by simpa using h) (by simpa using hh) (fun k hk => by simpa using hm (k + 1) (by omega))
    simp only [lookR] at this ⊢
    simpa [List.find?_cons, h1] using this
theorem lookR_miss : ∀ (l : List S110) (r o : Int), (∀ k, k < l.length → hitR (l.getD k z110) r = false) → lookR l r o = o
  | [], _, _, _ => rfl
  | x :: xs, r, o, hm => by
    have h1 : hitR x r = false := by simpa using hm 0 (by simp)
    have := lookR_miss xs r o (fun k hk => by simpa using hm (k + 1) (by simpa using hk))
    simp only [lookR] at this ⊢
    simpa [List.find?_cons, h1] using this
def BsPost (l0 : List S110) (a1 : Int) (w : World) (e : Ending) (w' : World) : Prop :=
  ∃ (i : Nat) (b : Bool), e = .returned (.tuple #[.int .i64 i, .bool b]) ∧ (b = true → i < l0.length ∧ hitR (l0.getD i z110) a1 = true) ∧ (b = false → ∀ k, k < l0.length → hitR (l0.getD k z110) a1 = false) ∧ Below w.heap.size w w'
theorem cmpR_lt {x : S110} {r : Int} (h : x.f0 ≤ x.f1) : cmpR x r < 0 ↔ x.f1 < r := by
  unfold cmpR
  split
  · omega
  · split
    · omega
    · split <;> omega
theorem cmpR_eq {x : S110} {r : Int} (h : x.f0 ≤ x.f1) : cmpR x r = 0 ↔ hitR x r = true := by
  unfold cmpR hitR
  simp only [Bool.and_eq_true, decide_eq_true_eq]
  split
  · omega
  · split
    · omega
    · split <;> omega
theorem bs_none {l0 : List S110} {a1 : Int} {j : Nat} (ha : ascR l0 = true) (hl : ∀ k, k < j → (l0.getD k z110).f1 < a1) (hg : ∀ k, j ≤ k → k < l0.length → ¬ (l0.getD k z110).f1 < a1) (hj : hitR (l0.getD j z110) a1 = false) (k : Nat) (hk : k < l0.length) : hitR (l0.getD k z110) a1 = false := by
  by_cases h1 : k < j
  · have h2 := hl k h1
    unfold hitR
    simp only [Bool.and_eq_false_iff, decide_eq_false_iff_not]
    omega
  · by_cases h2 : k = j
    · subst h2; exact hj
    · have h3 := ascR_two l0 ha j k (by omega) hk
      have h4 := hg j (Nat.le_refl _) (by omega)
      unfold hitR
      simp only [Bool.and_eq_false_iff, decide_eq_false_iff_not]
      omega
set_option maxHeartbeats 4000000 in
set_option maxRecDepth 100000 in
theorem bs_calls (A0 : Option Addr) (c0 : Nat) (l0 : List S110) (a1 : Int) (w : World) (hr0 : Kd.C k110 w A0 l0.length l0) (hc0 : l0.length ≤ c0) (ha : ascR l0 = true) (hsz : l0.length ≤ 1000000) :
    Calls Try.prog 126 #[.slice A0 l0.length c0, .int .i64 a1, .func (.func 127) #[] #[]] w (BsPost l0 a1 w) := by
  have hu110 := Try.underlying110
  have HR0 := Aside0.mk hr0
  have HA := Aside0.mk ha
  clear hr0 ha
  go_enter Try.func126, Try.ntmps126
  go_wp2
  go_loopg [9, 10] l0.length (fun gg v9 v10 wr => ∃ i j : Nat, v9 = .int .i64 i ∧ v10 = .int .i64 j ∧ i ≤ j ∧ j ≤ l0.length ∧ j - i ≤ gg ∧ Aside0 (∀ k, k < i → (l0.getD k z110).f1 < a1) ∧ Aside0 (∀ k, j ≤ k → k < l0.length → ¬ (l0.getD k z110).f1 < a1) ∧ Aside0 (Below w.heap.size w wr))
  case atStart => exact ⟨0, l0.length, rfl, rfl, Nat.zero_le _, Nat.le_refl _, by omega, ⟨fun k hk => absurd hk (Nat.not_lt_zero _)⟩, ⟨fun k h1 h2 => absurd h2 (by omega)⟩, ⟨Below.refl _ _⟩⟩
  case round =>
    obtain ⟨i, j, rfl, rfl, hij, hj, hg, HL, HG, HB⟩ := hrel
    by_cases hlt : i < j
    · have hltz : (i : Int) < (j : Int) := by omega
      obtain ⟨m, hm⟩ : ∃ m : Nat, (m : Int) = ((i : Int) + (j : Int)) / 2 := ⟨(i + j) / 2, by omega⟩
      have hm1 : i ≤ m := by omega
      have hm2 : m < j := by omega
      have p0 : 0 ≤ ((i : Int) + (j : Int)) / 2 := by omega
      have q0 : ((i : Int) + (j : Int)) / 2 < (l0.length : Int) := by omega
      obtain ⟨ad, e0, hx0, hx1, hx2⟩ := at_T110 HR0.out (((i : Int) + (j : Int)) / 2) p0 q0
      have ht : (((i : Int) + (j : Int)) / 2).toNat = (i + j) / 2 := by omega
      rw [ht] at hx0 hx1 hx2
      clear ht
      cases e0
      replace hx0 := (HB.out.cell (World.block_lt_of_cell? w _ hx0)).trans hx0
      replace hx1 := (HB.out.cell (World.block_lt_of_cell? w _ hx1)).trans hx1
      replace hx2 := (HB.out.cell (World.block_lt_of_cell? w _ hx2)).trans hx2
      have hone := ascR_one l0 HA.out m (by omega)
      have Hrd : Aside0 (rd_T110 l0 (((i : Int) + (j : Int)) / 2) = l0.getD m z110) := ⟨by unfold rd_T110; rw [← hm, Int.toNat_natCast]⟩
      generalize hy : rd_T110 l0 (((i : Int) + (j : Int)) / 2) = y at hx0 hx1 hx2 Hrd
      have Hy := Aside0.mk (Hrd.out.symm)
      clear hy Hrd
      have hcall := fun W => impl_find_1.calls y.f0 y.f1 y.f2 a1 _ W (find_1_cmp y a1)
      by_cases hc : cmpR y a1 < 0
      · have hcB : decide (cmpR y a1 < 0) = true := decide_eq_true hc
        have Hup : Aside0 ((l0.getD m z110).f1 < a1) := ⟨by rw [Hy.out]; rw [Hy.out] at hone; exact (cmpR_lt hone).mp hc⟩
        have Hm := Aside0.mk hm
        clear hm hone hc
        have HCall := Aside0.mk hcall
        clear hcall
        go_wp2_with (go_at_call 127; refine (HCall.out _).mono ?_; rintro e w' ⟨rfl, hb⟩)
        go_roundg (gk - 1)
        case measure => omega
        case rel => exact ⟨m + 1, j, by rw [← Hm.out]; go_num, rfl, by omega, by omega, by omega, ⟨fun k hk => by
          by_cases e : k = m
          · subst e; exact Hup.out
          · have h1 := ascR_two l0 HA.out k m (by omega) (by omega)
            have h2 := ascR_one l0 HA.out m (by omega)
            have h3 := Hup.out
            omega⟩, HG, ⟨HB.out.trans (hb.mono HB.out.size)⟩⟩
      · have hcB : decide (cmpR y a1 < 0) = false := decide_eq_false hc
        have Hup : Aside0 (¬ (l0.getD m z110).f1 < a1) := ⟨by rw [Hy.out]; rw [Hy.out] at hone; exact fun h => hc ((cmpR_lt hone).mpr h)⟩
        have Hm := Aside0.mk hm
        clear hm hone hc
        have HCall := Aside0.mk hcall
        clear hcall
        go_wp2_with (go_at_call 127; refine (HCall.out _).mono ?_; rintro e w' ⟨rfl, hb⟩)
        go_roundg (gk - 1)
        case measure => omega
        case rel => exact ⟨i, m, rfl, by rw [← Hm.out], by omega, by omega, by omega, HL, ⟨fun k h1 h2 => by
          by_cases e : k = m
          · subst e; exact Hup.out
          · have h3 := ascR_two l0 HA.out m k (by omega) (by omega)
            have h4 := ascR_one l0 HA.out k (by omega)
            have h5 := Hup.out
            omega⟩, ⟨HB.out.trans (hb.mono HB.out.size)⟩⟩
    · have hltz : ¬ (i : Int) < (j : Int) := by omega
      have hji : j = i := by omega
      subst hji
      by_cases hn : j < l0.length
      · have hnz : (j : Int) < (l0.length : Int) := by omega
        obtain ⟨ad, e0, hx0, hx1, hx2⟩ := at_T110 HR0.out (j : Int) (by omega) (by omega)
        rw [Int.toNat_natCast] at hx0 hx1 hx2
        cases e0
        replace hx0 := (HB.out.cell (World.block_lt_of_cell? w _ hx0)).trans hx0
        replace hx1 := (HB.out.cell (World.block_lt_of_cell? w _ hx1)).trans hx1
        replace hx2 := (HB.out.cell (World.block_lt_of_cell? w _ hx2)).trans hx2
        have hone := ascR_one l0 HA.out j (by omega)
        have Hrd : Aside0 (rd_T110 l0 (j : Int) = l0.getD j z110) := ⟨by unfold rd_T110; rw [Int.toNat_natCast]⟩
        generalize hy : rd_T110 l0 (j : Int) = y at hx0 hx1 hx2 Hrd
        have Hy := Aside0.mk (Hrd.out.symm)
        clear hy Hrd
        have HCall := Aside0.mk (fun W => impl_find_1.calls y.f0 y.f1 y.f2 a1 _ W (find_1_cmp y a1))
        have Hone := Aside0.mk hone
        clear hone
        go_wp2_with (go_at_call 127; refine (HCall.out _).mono ?_; rintro e w' ⟨rfl, hb⟩)
        go_ret2
        refine ⟨j, (cmpR y a1 == 0), rfl, fun hb1 => ⟨hn, ?_⟩, fun hb1 k hk => ?_, HB.out.trans (hb.mono HB.out.size)⟩
        · rw [Hy.out]
          have h1 := Hone.out
          rw [Hy.out] at h1
          exact (cmpR_eq h1).mp (by simpa using hb1)
        · have h1 := Hone.out
          have h2 : ¬ cmpR y a1 = 0 := by simpa using hb1
          have h3 : ¬ hitR (l0.getD j z110) a1 = true := by rw [Hy.out]; rw [Hy.out] at h1; exact fun h => h2 ((cmpR_eq h1).mpr h)
          exact bs_none HA.out HL.out (fun k h4 h5 => by have := HG.out k h4 h5; omega) (by simpa using h3) k hk
      · have hnz : ¬ (j : Int) < (l0.length : Int) := by omega
        go_wp2
        go_ret2
        refine ⟨j, false, rfl, (fun hb1 => by cases hb1), fun _ k hk => ?_, HB.out⟩
        have h1 := HL.out k (by omega)
        unfold hitR
        simp only [Bool.and_eq_false_iff, decide_eq_false_iff_not]
        omega
def impl_find.f (l0 : List S110) (a1 : Int) (a2 : Int) : Option Int := if ascR l0 = true ∧ l0.length ≤ 1000000 then some (lookR l0 a1 a2) else none
theorem asc_hit {l0 : List S110} {a1 : Int} (ha : ascR l0 = true) {i k : Nat} (hi : i < l0.length) (hh : hitR (l0.getD i z110) a1 = true) (hk : k < i) : hitR (l0.getD k z110) a1 = false := by
  have h3 := ascR_two l0 ha k i hk hi
  unfold hitR at hh ⊢
  simp only [Bool.and_eq_true, decide_eq_true_eq] at hh
  simp only [Bool.and_eq_false_iff, decide_eq_false_iff_not]
  omega
set_option maxHeartbeats 4000000 in
set_option maxRecDepth 100000 in
theorem impl_find.calls (A0 : Option Addr) (c0 : Nat) (l0 : List S110) (a1 : Int) (a2 : Int) (r : Int) (w : World) (hr0 : Kd.C k110 w A0 l0.length l0) (hc0 : l0.length ≤ c0) (h : impl_find.f l0 a1 a2 = some r) :
    Calls Try.prog 81 #[.slice A0 l0.length c0, .int .i64 a1, .int .i64 a2] w fun e w' => e = .returned (.int .i64 r) ∧ Below w.heap.size w w' := by
  unfold impl_find.f at h
  split at h
  case isFalse => exact absurd h (by simp)
  case isTrue hs =>
  have H := Aside0.mk (Option.some.inj h)
  clear h
  obtain ⟨ha, hsz⟩ := hs
  have HC := Aside0.mk (fun W => bs_calls A0 c0 l0 a1 W)
  have HR0 := Aside0.mk hr0
  have HA := Aside0.mk ha
  have hu110 := Try.underlying110
  clear hr0 ha
  go_enter Try.func81, Try.ntmps81
  go_wp2_with (fail)
  refine (HC.out _ HR0.out hc0 HA.out hsz).mono ?_
  rintro e w' ⟨i, b, rfl, ht, hf, hb⟩
  have HT := Aside0.mk ht
  have HF := Aside0.mk hf
  clear ht hf
  cases b with
  | true =>
    obtain ⟨hi, hh⟩ := HT.out rfl
    have Hh := Aside0.mk hh
    obtain ⟨ad, e0, hx0, hx1, hx2⟩ := at_T110 HR0.out (i : Int) (by omega) (by omega)
    rw [Int.toNat_natCast] at hx0 hx1 hx2
    cases e0
    replace hx0 := (hb.cell (World.block_lt_of_cell? w _ hx0)).trans hx0
    replace hx1 := (hb.cell (World.block_lt_of_cell? w _ hx1)).trans hx1
    replace hx2 := (hb.cell (World.block_lt_of_cell? w _ hx2)).trans hx2
    have hiz : (i : Int) < (l0.length : Int) := by omega
    clear hh
    go_wp2
    go_ret
    refine ⟨?_, hb⟩
    rw [← H.out, lookR_hit l0 i a1 a2 hi Hh.out (fun k hk => asc_hit HA.out hi Hh.out hk)]
    simp [rd_T110]
  | false =>
    go_wp2
    go_ret
    refine ⟨?_, hb⟩
    rw [← H.out, lookR_miss l0 a1 a2 (HF.out (by trivial))]
    rfl


/-! ### impl_bidiReaches: function 125 -/
def impl_bidiReaches.f  : Option ((List (S110))) := some (([(⟨9, 9, 11⟩ : S110), (⟨32, 32, 12⟩ : S110), (⟨35, 37, 6⟩ : S110), (⟨43, 43, 5⟩ : S110), (⟨44, 44, 8⟩ : S110), (⟨45, 45, 5⟩ : S110), (⟨46, 47, 8⟩ : S110), (⟨48, 57, 4⟩ : S110), (⟨58, 58, 8⟩ : S110), (⟨65, 90, 1⟩ : S110), (⟨97, 122, 1⟩ : S110), (⟨173, 173, 10⟩ : S110), (⟨768, 879, 9⟩ : S110), (⟨1488, 1514, 2⟩ : S110), (⟨1569, 1610, 3⟩ : S110), (⟨1632, 1641, 7⟩ : S110), (⟨8203, 8203, 10⟩ : S110), (⟨8205, 8205, 10⟩ : S110), (⟨8234, 8234, 14⟩ : S110), (⟨8235, 8235, 15⟩ : S110), (⟨8236, 8236, 16⟩ : S110), (⟨8237, 8237, 17⟩ : S110), (⟨8238, 8238, 18⟩ : S110), (⟨8294, 8294, 19⟩ : S110), (⟨8295, 8295, 20⟩ : S110), (⟨8296, 8296, 21⟩ : S110), (⟨8297, 8297, 22⟩ : S110), (⟨19968, 40959, 1⟩ : S110)] : List (S110)))
set_option maxHeartbeats 8000000 in
set_option maxRecDepth 100000 in
theorem impl_bidiReaches.calls  (r : List (S110)) (w : World) (h : impl_bidiReaches.f  = some r) :
    Calls Try.prog 125 #[] w fun e w' => ∃ v0_ : Value, e = .returned (v0_) ∧ Kd.R k110 110 w' w.heap.size (fun _ => True) v0_ r ∧ Below w.heap.size w w' := by
  have hu110 := Try.underlying110
  have HB := Aside0.mk (Below.refl w.heap.size w)
  have H : (some (([(⟨9, 9, 11⟩ : S110), (⟨32, 32, 12⟩ : S110), (⟨35, 37, 6⟩ : S110), (⟨43, 43, 5⟩ : S110), (⟨44, 44, 8⟩ : S110), (⟨45, 45, 5⟩ : S110), (⟨46, 47, 8⟩ : S110), (⟨48, 57, 4⟩ : S110), (⟨58, 58, 8⟩ : S110), (⟨65, 90, 1⟩ : S110), (⟨97, 122, 1⟩ : S110), (⟨173, 173, 10⟩ : S110), (⟨768, 879, 9⟩ : S110), (⟨1488, 1514, 2⟩ : S110), (⟨1569, 1610, 3⟩ : S110), (⟨1632, 1641, 7⟩ : S110), (⟨8203, 8203, 10⟩ : S110), (⟨8205, 8205, 10⟩ : S110), (⟨8234, 8234, 14⟩ : S110), (⟨8235, 8235, 15⟩ : S110), (⟨8236, 8236, 16⟩ : S110), (⟨8237, 8237, 17⟩ : S110), (⟨8238, 8238, 18⟩ : S110), (⟨8294, 8294, 19⟩ : S110), (⟨8295, 8295, 20⟩ : S110), (⟨8296, 8296, 21⟩ : S110), (⟨8297, 8297, 22⟩ : S110), (⟨19968, 40959, 1⟩ : S110)] : List (S110)))) = some r := h
  clear h
  obtain ⟨y127, hy127⟩ : ∃ y_ : List (S110), y_ = (([(⟨9, 9, 11⟩ : S110), (⟨32, 32, 12⟩ : S110), (⟨35, 37, 6⟩ : S110), (⟨43, 43, 5⟩ : S110), (⟨44, 44, 8⟩ : S110), (⟨45, 45, 5⟩ : S110), (⟨46, 47, 8⟩ : S110), (⟨48, 57, 4⟩ : S110), (⟨58, 58, 8⟩ : S110), (⟨65, 90, 1⟩ : S110), (⟨97, 122, 1⟩ : S110), (⟨173, 173, 10⟩ : S110), (⟨768, 879, 9⟩ : S110), (⟨1488, 1514, 2⟩ : S110), (⟨1569, 1610, 3⟩ : S110), (⟨1632, 1641, 7⟩ : S110), (⟨8203, 8203, 10⟩ : S110), (⟨8205, 8205, 10⟩ : S110), (⟨8234, 8234, 14⟩ : S110), (⟨8235, 8235, 15⟩ : S110), (⟨8236, 8236, 16⟩ : S110), (⟨8237, 8237, 17⟩ : S110), (⟨8238, 8238, 18⟩ : S110), (⟨8294, 8294, 19⟩ : S110), (⟨8295, 8295, 20⟩ : S110), (⟨8296, 8296, 21⟩ : S110), (⟨8297, 8297, 22⟩ : S110), (⟨19968, 40959, 1⟩ : S110)] : List (S110))) := ⟨_, rfl⟩
  replace H : (some y127) = some r := by first | (rw [hy127]; with_reducible exact H) | (have H2_ := (Option.bind_some _ _).symm.trans H; rw [hy127]; with_reducible exact H2_) | (have H2_ := (Option.bind_some _ _).symm.trans H; with_reducible exact H2_) | with_reducible exact H | (rw [hy127]; exact H) | exact H
  have Ny127 := Aside0.mk hy127
  clear hy127
  obtain rfl := Option.some.inj H
  go_enter Try.func125, Try.ntmps125
  go_wp2_with (first | ((with_reducible refine gate_dst (N := 29) rfl ?_); refine Kd.R_lit k110 _ 110 ?hg (N := 29) ?hd (xs := ([(⟨9, 9, 11⟩ : S110), (⟨32, 32, 12⟩ : S110), (⟨35, 37, 6⟩ : S110), (⟨43, 43, 5⟩ : S110), (⟨44, 44, 8⟩ : S110), (⟨45, 45, 5⟩ : S110), (⟨46, 47, 8⟩ : S110), (⟨48, 57, 4⟩ : S110), (⟨58, 58, 8⟩ : S110), (⟨65, 90, 1⟩ : S110), (⟨97, 122, 1⟩ : S110), (⟨173, 173, 10⟩ : S110), (⟨768, 879, 9⟩ : S110), (⟨1488, 1514, 2⟩ : S110), (⟨1569, 1610, 3⟩ : S110), (⟨1632, 1641, 7⟩ : S110), (⟨8203, 8203, 10⟩ : S110), (⟨8205, 8205, 10⟩ : S110), (⟨8234, 8234, 14⟩ : S110), (⟨8235, 8235, 15⟩ : S110), (⟨8236, 8236, 16⟩ : S110), (⟨8237, 8237, 17⟩ : S110), (⟨8238, 8238, 18⟩ : S110), (⟨8294, 8294, 19⟩ : S110), (⟨8295, 8295, 20⟩ : S110), (⟨8296, 8296, 21⟩ : S110), (⟨8297, 8297, 22⟩ : S110), (⟨19968, 40959, 1⟩ : S110)] : List (S110))) (inner := [.int .i64 9, .int .i64 9, .int .i64 11, .int .i64 32, .int .i64 32, .int .i64 12, .int .i64 35, .int .i64 37, .int .i64 6, .int .i64 43, .int .i64 43, .int .i64 5, .int .i64 44, .int .i64 44, .int .i64 8, .int .i64 45, .int .i64 45, .int .i64 5, .int .i64 46, .int .i64 47, .int .i64 8, .int .i64 48, .int .i64 57, .int .i64 4, .int .i64 58, .int .i64 58, .int .i64 8, .int .i64 65, .int .i64 90, .int .i64 1, .int .i64 97, .int .i64 122, .int .i64 1, .int .i64 173, .int .i64 173, .int .i64 10, .int .i64 768, .int .i64 879, .int .i64 9, .int .i64 1488, .int .i64 1514, .int .i64 2, .int .i64 1569, .int .i64 1610, .int .i64 3, .int .i64 1632, .int .i64 1641, .int .i64 7, .int .i64 8203, .int .i64 8203, .int .i64 10, .int .i64 8205, .int .i64 8205, .int .i64 10, .int .i64 8234, .int .i64 8234, .int .i64 14, .int .i64 8235, .int .i64 8235, .int .i64 15, .int .i64 8236, .int .i64 8236, .int .i64 16, .int .i64 8237, .int .i64 8237, .int .i64 17, .int .i64 8238, .int .i64 8238, .int .i64 18, .int .i64 8294, .int .i64 8294, .int .i64 19, .int .i64 8295, .int .i64 8295, .int .i64 20, .int .i64 8296, .int .i64 8296, .int .i64 21, .int .i64 8297, .int .i64 8297, .int .i64 22, .int .i64 19968, .int .i64 40959, .int .i64 1]) (ok := fun _ => True) (okp := fun _ => True) ?hr ?hp (fun _ hk => hk) trivial (Below.refl _ _) (Nat.le_refl _) (by simp) ?_; (case hd => rfl); (case hg => rfl); (case hr => first | (go_simp; done) | (go_simp; rfl)); (case hp => exact (Reps.c3 (show Kd.M k110 _ _ _ (⟨9, 9, 11⟩ : S110) [.int .i64 9, .int .i64 9, .int .i64 11] from (k110_mkM _ _ _ (⟨9, 9, 11⟩ : S110) )) (Reps.c3 (show Kd.M k110 _ _ _ (⟨32, 32, 12⟩ : S110) [.int .i64 32, .int .i64 32, .int .i64 12] from (k110_mkM _ _ _ (⟨32, 32, 12⟩ : S110) )) (Reps.c3 (show Kd.M k110 _ _ _ (⟨35, 37, 6⟩ : S110) [.int .i64 35, .int .i64 37, .int .i64 6] from (k110_mkM _ _ _ (⟨35, 37, 6⟩ : S110) )) (Reps.c3 (show Kd.M k110 _ _ _ (⟨43, 43, 5⟩ : S110) [.int .i64 43, .int .i64 43, .int .i64 5] from (k110_mkM _ _ _ (⟨43, 43, 5⟩ : S110) )) (Reps.c3 (show Kd.M k110 _ _ _ (⟨44, 44, 8⟩ : S110) [.int .i64 44, .int .i64 44, .int .i64 8] from (k110_mkM _ _ _ (⟨44, 44, 8⟩ : S110) )) (Reps.c3 (show Kd.M k110 _ _ _ (⟨45, 45, 5⟩ : S110) [.int .i64 45, .int .i64 45, .int .i64 5] from (k110_mkM _ _ _ (⟨45, 45, 5⟩ : S110) )) (Reps.c3 (show Kd.M k110 _ _ _ (⟨46, 47, 8⟩ : S110) [.int .i64 46, .int .i64 47, .int .i64 8] from (k110_mkM _ _ _ (⟨46, 47, 8⟩ : S110) )) (Reps.c3 (show Kd.M k110 _ _ _ (⟨48, 57, 4⟩ : S110) [.int .i64 48, .int .i64 57, .int .i64 4] from (k110_mkM _ _ _ (⟨48, 57, 4⟩ : S110) )) (Reps.c3 (show Kd.M k110 _ _ _ (⟨58, 58, 8⟩ : S110) [.int .i64 58, .int .i64 58, .int .i64 8] from (k110_mkM _ _ _ (⟨58, 58, 8⟩ : S110) )) (Reps.c3 (show Kd.M k110 _ _ _ (⟨65, 90, 1⟩ : S110) [.int .i64 65, .int .i64 90, .int .i64 1] from (k110_mkM _ _ _ (⟨65, 90, 1⟩ : S110) )) (Reps.c3 (show Kd.M k110 _ _ _ (⟨97, 122, 1⟩ : S110) [.int .i64 97, .int .i64 122, .int .i64 1] from (k110_mkM _ _ _ (⟨97, 122, 1⟩ : S110) )) (Reps.c3 (show Kd.M k110 _ _ _ (⟨173, 173, 10⟩ : S110) [.int .i64 173, .int .i64 173, .int .i64 10] from (k110_mkM _ _ _ (⟨173, 173, 10⟩ : S110) )) (Reps.c3 (show Kd.M k110 _ _ _ (⟨768, 879, 9⟩ : S110) [.int .i64 768, .int .i64 879, .int .i64 9] from (k110_mkM _ _ _ (⟨768, 879, 9⟩ : S110) )) (Reps.c3 (show Kd.M k110 _ _ _ (⟨1488, 1514, 2⟩ : S110) [.int .i64 1488, .int .i64 1514, .int .i64 2] from (k110_mkM _ _ _ (⟨1488, 1514, 2⟩ : S110) )) (Reps.c3 (show Kd.M k110 _ _ _ (⟨1569, 1610, 3⟩ : S110) [.int .i64 1569, .int .i64 1610, .int .i64 3] from (k110_mkM _ _ _ (⟨1569, 1610, 3⟩ : S110) )) (Reps.c3 (show Kd.M k110 _ _ _ (⟨1632, 1641, 7⟩ : S110) [.int .i64 1632, .int .i64 1641, .int .i64 7] from (k110_mkM _ _ _ (⟨1632, 1641, 7⟩ : S110) )) (Reps.c3 (show Kd.M k110 _ _ _ (⟨8203, 8203, 10⟩ : S110) [.int .i64 8203, .int .i64 8203, .int .i64 10] from (k110_mkM _ _ _ (⟨8203, 8203, 10⟩ : S110) )) (Reps.c3 (show Kd.M k110 _ _ _ (⟨8205, 8205, 10⟩ : S110) [.int .i64 8205, .int .i64 8205, .int .i64 10] from (k110_mkM _ _ _ (⟨8205, 8205, 10⟩ : S110) )) (Reps.c3 (show Kd.M k110 _ _ _ (⟨8234, 8234, 14⟩ : S110) [.int .i64 8234, .int .i64 8234, .int .i64 14] from (k110_mkM _ _ _ (⟨8234, 8234, 14⟩ : S110) )) (Reps.c3 (show Kd.M k110 _ _ _ (⟨8235, 8235, 15⟩ : S110) [.int .i64 8235, .int .i64 8235, .int .i64 15] from (k110_mkM _ _ _ (⟨8235, 8235, 15⟩ : S110) )) (Reps.c3 (show Kd.M k110 _ _ _ (⟨8236, 8236, 16⟩ : S110) [.int .i64 8236, .int .i64 8236, .int .i64 16] from (k110_mkM _ _ _ (⟨8236, 8236, 16⟩ : S110) )) (Reps.c3 (show Kd.M k110 _ _ _ (⟨8237, 8237, 17⟩ : S110) [.int .i64 8237, .int .i64 8237, .int .i64 17] from (k110_mkM _ _ _ (⟨8237, 8237, 17⟩ : S110) )) (Reps.c3 (show Kd.M k110 _ _ _ (⟨8238, 8238, 18⟩ : S110) [.int .i64 8238, .int .i64 8238, .int .i64 18] from (k110_mkM _ _ _ (⟨8238, 8238, 18⟩ : S110) )) (Reps.c3 (show Kd.M k110 _ _ _ (⟨8294, 8294, 19⟩ : S110) [.int .i64 8294, .int .i64 8294, .int .i64 19] from (k110_mkM _ _ _ (⟨8294, 8294, 19⟩ : S110) )) (Reps.c3 (show Kd.M k110 _ _ _ (⟨8295, 8295, 20⟩ : S110) [.int .i64 8295, .int .i64 8295, .int .i64 20] from (k110_mkM _ _ _ (⟨8295, 8295, 20⟩ : S110) )) (Reps.c3 (show Kd.M k110 _ _ _ (⟨8296, 8296, 21⟩ : S110) [.int .i64 8296, .int .i64 8296, .int .i64 21] from (k110_mkM _ _ _ (⟨8296, 8296, 21⟩ : S110) )) (Reps.c3 (show Kd.M k110 _ _ _ (⟨8297, 8297, 22⟩ : S110) [.int .i64 8297, .int .i64 8297, .int .i64 22] from (k110_mkM _ _ _ (⟨8297, 8297, 22⟩ : S110) )) (Reps.c3 (show Kd.M k110 _ _ _ (⟨19968, 40959, 1⟩ : S110) [.int .i64 19968, .int .i64 40959, .int .i64 1] from (k110_mkM _ _ _ (⟨19968, 40959, 1⟩ : S110) )) (Reps.none _ _)))))))))))))))))))))))))))))); intro v128 w1 ho2 hb hg_ hnew_; clear hg_ hnew_; (first | rw [← Ny127.out] at ho2 | (simp only [Int.reduceToNat] at ho2; rw [← Ny127.out] at ho2)); have n0_ := Aside0.mk (Kd.R_lower ho2 (below_size (by repeat (first | (with_reducible first | exact HB.out | apply below_alloc | apply pw_below_drewN | apply below_drew1) | exact HB.out)))); have n1_ := Aside0.mk (below_step (by repeat (first | (with_reducible first | exact HB.out | apply below_alloc | apply pw_below_drewN | apply below_drew1) | exact HB.out)) hb); clear HB; have HO129 := n0_; have HB := n1_; clear n0_ n1_; clear hb ho2))
  go_ret
  exact ⟨_, by first | rfl | (simp [errW_none, errW_some] <;> rfl) | (simp [*, errW_none, errW_some] <;> rfl), by (with_reducible repeat (first | apply Kd.R_alloc | apply Kd.R_drewN | apply Kd.R_drew)); exact HO129.out, by repeat (first | (with_reducible first | exact HB.out | apply below_alloc | apply pw_below_drewN | apply below_drew1) | exact HB.out)⟩

/-! ### impl_RuneBidi: function 79 -/
def impl_RuneBidi.f (a0 : Int) : Option (Int) := (impl_bidiReaches.f).bind fun t130 => ((impl_find.f t130 a0 13).bind fun t133 => (some t133))
set_option maxHeartbeats 8000000 in
set_option maxRecDepth 100000 in
theorem impl_RuneBidi.calls (a0 : Int) (r : Int) (w : World) (h : impl_RuneBidi.f a0 = some r) :
    Calls Try.prog 79 #[.int .i64 a0] w fun e w' => e = .returned (.int .i64 r) ∧ Below w.heap.size w w' := by
  have HB := Aside0.mk (Below.refl w.heap.size w)
  have H : ((impl_bidiReaches.f).bind fun t130 => ((impl_find.f t130 a0 13).bind fun t133 => (some t133))) = some r := h
  clear h
  replace H := Option.bind_eq_some_iff.mp H
  obtain ⟨t130, A20, H⟩ := H
  replace H : ((impl_find.f t130 a0 13).bind fun t133 => (some t133)) = some r := H
  have A2 := Aside0.mk A20
  clear A20
  replace H := Option.bind_eq_some_iff.mp H
  obtain ⟨t133, A30, H⟩ := H
  replace H : (some t133) = some r := H
  have A3 := Aside0.mk A30
  clear A30
  obtain rfl := Option.some.inj H
  go_enter Try.func79, Try.ntmps79
  go_wp2_with (first | ((with_reducible refine gate_callee (f := 125) rfl ?_); refine goesL_ (some 3) rfl rfl Try.func125 (by kernel_rfl) rfl #[] rfl (by (try simp only [List.map_toArray, List.map_cons, List.map_nil]); first | done | rfl | (simp only [List.length_drop, List.length_take]; rfl)) ?_; (with_reducible refine (impl_bidiReaches.calls  t130 _ A2.out).mono ?_); rintro e w4 ⟨v131, rfl, ho0, hb⟩; refine ⟨_, rfl, ?_⟩; have n0_ := Aside0.mk (Kd.R_lower ho0 (below_size (by repeat (first | (with_reducible first | exact HB.out | apply below_alloc | apply pw_below_drewN | apply below_drew1) | exact HB.out)))); have n1_ := Aside0.mk (below_step (by repeat (first | (with_reducible first | exact HB.out | apply below_alloc | apply pw_below_drewN | apply below_drew1) | exact HB.out)) hb); clear HB; have HO132 := n0_; have HB := n1_; clear n0_ n1_; (try clear hb); (try clear hb2); (try clear hk); (try clear hi); (try clear ho0); obtain ⟨Ao5, co5, eo5⟩ := Kd.R_slice HO132.out; subst eo5) | ((with_reducible refine gate_callee (f := 81) rfl ?_); refine goesL_ (some 5) rfl rfl Try.func81 (by kernel_rfl) rfl #[.slice Ao5 t130.length co5, .int .i64 a0, .int .i64 13] rfl (by (try simp only [List.map_toArray, List.map_cons, List.map_nil]); first | done | rfl | (simp only [List.length_drop, List.length_take]; rfl)) ?_; (with_reducible refine (impl_find.calls _ _ t130 a0 13 t133 _ ?side1 ?side2 A3.out).mono ?_); (case side1 => repeat (first | exact (Kd.R_reads' HO132.out).2.2 | (with_reducible refine Kd.C_alloc ?_ _) | (with_reducible refine Kd.C_drewN ?_ _) | (with_reducible refine Kd.C_drew ?_))); (case side2 => exact (Kd.R_reads' HO132.out).2.1); rintro e w6 ⟨rfl, hb⟩; refine ⟨_, rfl, ?_⟩; have n0_ := Aside0.mk (Kd.R_below (by (with_reducible repeat (first | apply Kd.R_alloc | apply Kd.R_drewN | apply Kd.R_drew)); exact HO132.out) hb); have n1_ := Aside0.mk (below_step (by repeat (first | (with_reducible first | exact HB.out | apply below_alloc | apply pw_below_drewN | apply below_drew1) | exact HB.out)) hb); clear HO132; clear HB; have HO132 := n0_; have HB := n1_; clear n0_ n1_; (try clear hb); (try clear hb2); (try clear hk); (try clear hi)))
  go_ret
  exact ⟨by first | rfl | (simp [errW_none, errW_some] <;> rfl) | (simp [*, errW_none, errW_some] <;> rfl), by repeat (first | (with_reducible first | exact HB.out | apply below_alloc | apply pw_below_drewN | apply below_drew1) | exact HB.out)⟩

/-! ### impl_lineReaches: function 82 -/
def impl_lineReaches.f  : Option ((List (S110))) := some (([(⟨9, 9, 14⟩ : S110), (⟨10, 10, 4⟩ : S110), (⟨32, 32, 3⟩ : S110), (⟨33, 33, 10⟩ : S110), (⟨34, 34, 11⟩ : S110), (⟨40, 40, 8⟩ : S110), (⟨41, 41, 9⟩ : S110), (⟨44, 44, 13⟩ : S110), (⟨45, 45, 12⟩ : S110), (⟨46, 47, 13⟩ : S110), (⟨48, 57, 2⟩ : S110), (⟨58, 59, 13⟩ : S110), (⟨63, 63, 10⟩ : S110), (⟨91, 91, 8⟩ : S110), (⟨93, 93, 9⟩ : S110), (⟨123, 123, 8⟩ : S110), (⟨125, 125, 9⟩ : S110), (⟨160, 160, 5⟩ : S110), (⟨173, 173, 14⟩ : S110), (⟨1632, 1641, 2⟩ : S110), (⟨8203, 8203, 6⟩ : S110), (⟨8205, 8205, 7⟩ : S110), (⟨19968, 40959, 15⟩ : S110)] : List (S110)))
set_option maxHeartbeats 8000000 in
set_option maxRecDepth 100000 in
theorem impl_lineReaches.calls  (r : List (S110)) (w : World) (h : impl_lineReaches.f  = some r) :
    Calls Try.prog 82 #[] w fun e w' => ∃ v0_ : Value, e = .returned (v0_) ∧ Kd.R k110 110 w' w.heap.size (fun _ => True) v0_ r ∧ Below w.heap.size w w' := by
  have hu110 := Try.underlying110
  have HB := Aside0.mk (Below.refl w.heap.size w)
  have H : (some (([(⟨9, 9, 14⟩ : S110), (⟨10, 10, 4⟩ : S110), (⟨32, 32, 3⟩ : S110), (⟨33, 33, 10⟩ : S110), (⟨34, 34, 11⟩ : S110), (⟨40, 40, 8⟩ : S110), (⟨41, 41, 9⟩ : S110), (⟨44, 44, 13⟩ : S110), (⟨45, 45, 12⟩ : S110), (⟨46, 47, 13⟩ : S110), (⟨48, 57, 2⟩ : S110), (⟨58, 59, 13⟩ : S110), (⟨63, 63, 10⟩ : S110), (⟨91, 91, 8⟩ : S110), (⟨93, 93, 9⟩ : S110), (⟨123, 123, 8⟩ : S110), (⟨125, 125, 9⟩ : S110), (⟨160, 160, 5⟩ : S110), (⟨173, 173, 14⟩ : S110), (⟨1632, 1641, 2⟩ : S110), (⟨8203, 8203, 6⟩ : S110), (⟨8205, 8205, 7⟩ : S110), (⟨19968, 40959, 15⟩ : S110)] : List (S110)))) = some r := h
  clear h
  obtain ⟨y134, hy134⟩ : ∃ y_ : List (S110), y_ = (([(⟨9, 9, 14⟩ : S110), (⟨10, 10, 4⟩ : S110), (⟨32, 32, 3⟩ : S110), (⟨33, 33, 10⟩ : S110), (⟨34, 34, 11⟩ : S110), (⟨40, 40, 8⟩ : S110), (⟨41, 41, 9⟩ : S110), (⟨44, 44, 13⟩ : S110), (⟨45, 45, 12⟩ : S110), (⟨46, 47, 13⟩ : S110), (⟨48, 57, 2⟩ : S110), (⟨58, 59, 13⟩ : S110), (⟨63, 63, 10⟩ : S110), (⟨91, 91, 8⟩ : S110), (⟨93, 93, 9⟩ : S110), (⟨123, 123, 8⟩ : S110), (⟨125, 125, 9⟩ : S110), (⟨160, 160, 5⟩ : S110), (⟨173, 173, 14⟩ : S110), (⟨1632, 1641, 2⟩ : S110), (⟨8203, 8203, 6⟩ : S110), (⟨8205, 8205, 7⟩ : S110), (⟨19968, 40959, 15⟩ : S110)] : List (S110))) := ⟨_, rfl⟩
  replace H : (some y134) = some r := by first | (rw [hy134]; with_reducible exact H) | (have H2_ := (Option.bind_some _ _).symm.trans H; rw [hy134]; with_reducible exact H2_) | (have H2_ := (Option.bind_some _ _).symm.trans H; with_reducible exact H2_) | with_reducible exact H | (rw [hy134]; exact H) | exact H
  have Ny134 := Aside0.mk hy134
  clear hy134
  obtain rfl := Option.some.inj H
  go_enter Try.func82, Try.ntmps82
  go_wp2_with (first | ((with_reducible refine gate_dst (N := 24) rfl ?_); refine Kd.R_lit k110 _ 110 ?hg (N := 24) ?hd (xs := ([(⟨9, 9, 14⟩ : S110), (⟨10, 10, 4⟩ : S110), (⟨32, 32, 3⟩ : S110), (⟨33, 33, 10⟩ : S110), (⟨34, 34, 11⟩ : S110), (⟨40, 40, 8⟩ : S110), (⟨41, 41, 9⟩ : S110), (⟨44, 44, 13⟩ : S110), (⟨45, 45, 12⟩ : S110), (⟨46, 47, 13⟩ : S110), (⟨48, 57, 2⟩ : S110), (⟨58, 59, 13⟩ : S110), (⟨63, 63, 10⟩ : S110), (⟨91, 91, 8⟩ : S110), (⟨93, 93, 9⟩ : S110), (⟨123, 123, 8⟩ : S110), (⟨125, 125, 9⟩ : S110), (⟨160, 160, 5⟩ : S110), (⟨173, 173, 14⟩ : S110), (⟨1632, 1641, 2⟩ : S110), (⟨8203, 8203, 6⟩ : S110), (⟨8205, 8205, 7⟩ : S110), (⟨19968, 40959, 15⟩ : S110)] : List (S110))) (inner := [.int .i64 9, .int .i64 9, .int .i64 14, .int .i64 10, .int .i64 10, .int .i64 4, .int .i64 32, .int .i64 32, .int .i64 3, .int .i64 33, .int .i64 33, .int .i64 10, .int .i64 34, .int .i64 34, .int .i64 11, .int .i64 40, .int .i64 40, .int .i64 8, .int .i64 41, .int .i64 41, .int .i64 9, .int .i64 44, .int .i64 44, .int .i64 13, .int .i64 45, .int .i64 45, .int .i64 12, .int .i64 46, .int .i64 47, .int .i64 13, .int .i64 48, .int .i64 57, .int .i64 2, .int .i64 58, .int .i64 59, .int .i64 13, .int .i64 63, .int .i64 63, .int .i64 10, .int .i64 91, .int .i64 91, .int .i64 8, .int .i64 93, .int .i64 93, .int .i64 9, .int .i64 123, .int .i64 123, .int .i64 8, .int .i64 125, .int .i64 125, .int .i64 9, .int .i64 160, .int .i64 160, .int .i64 5, .int .i64 173, .int .i64 173, .int .i64 14, .int .i64 1632, .int .i64 1641, .int .i64 2, .int .i64 8203, .int .i64 8203, .int .i64 6, .int .i64 8205, .int .i64 8205, .int .i64 7, .int .i64 19968, .int .i64 40959, .int .i64 15]) (ok := fun _ => True) (okp := fun _ => True) ?hr ?hp (fun _ hk => hk) trivial (Below.refl _ _) (Nat.le_refl _) (by simp) ?_; (case hd => rfl); (case hg => rfl); (case hr => first | (go_simp; done) | (go_simp; rfl)); (case hp => exact (Reps.c3 (show Kd.M k110 _ _ _ (⟨9, 9, 14⟩ : S110) [.int .i64 9, .int .i64 9, .int .i64 14] from (k110_mkM _ _ _ (⟨9, 9, 14⟩ : S110) )) (Reps.c3 (show Kd.M k110 _ _ _ (⟨10, 10, 4⟩ : S110) [.int .i64 10, .int .i64 10, .int .i64 4] from (k110_mkM _ _ _ (⟨10, 10, 4⟩ : S110) )) (Reps.c3 (show Kd.M k110 _ _ _ (⟨32, 32, 3⟩ : S110) [.int .i64 32, .int .i64 32, .int .i64 3] from (k110_mkM _ _ _ (⟨32, 32, 3⟩ : S110) )) (Reps.c3 (show Kd.M k110 _ _ _ (⟨33, 33, 10⟩ : S110) [.int .i64 33, .int .i64 33, .int .i64 10] from (k110_mkM _ _ _ (⟨33, 33, 10⟩ : S110) )) (Reps.c3 (show Kd.M k110 _ _ _ (⟨34, 34, 11⟩ : S110) [.int .i64 34, .int .i64 34, .int .i64 11] from (k110_mkM _ _ _ (⟨34, 34, 11⟩ : S110) )) (Reps.c3 (show Kd.M k110 _ _ _ (⟨40, 40, 8⟩ : S110) [.int .i64 40, .int .i64 40, .int .i64 8] from (k110_mkM _ _ _ (⟨40, 40, 8⟩ : S110) )) (Reps.c3 (show Kd.M k110 _ _ _ (⟨41, 41, 9⟩ : S110) [.int .i64 41, .int .i64 41, .int .i64 9] from (k110_mkM _ _ _ (⟨41, 41, 9⟩ : S110) )) (Reps.c3 (show Kd.M k110 _ _ _ (⟨44, 44, 13⟩ : S110) [.int .i64 44, .int .i64 44, .int .i64 13] from (k110_mkM _ _ _ (⟨44, 44, 13⟩ : S110) )) (Reps.c3 (show Kd.M k110 _ _ _ (⟨45, 45, 12⟩ : S110) [.int .i64 45, .int .i64 45, .int .i64 12] from (k110_mkM _ _ _ (⟨45, 45, 12⟩ : S110) )) (Reps.c3 (show Kd.M k110 _ _ _ (⟨46, 47, 13⟩ : S110) [.int .i64 46, .int .i64 47, .int .i64 13] from (k110_mkM _ _ _ (⟨46, 47, 13⟩ : S110) )) (Reps.c3 (show Kd.M k110 _ _ _ (⟨48, 57, 2⟩ : S110) [.int .i64 48, .int .i64 57, .int .i64 2] from (k110_mkM _ _ _ (⟨48, 57, 2⟩ : S110) )) (Reps.c3 (show Kd.M k110 _ _ _ (⟨58, 59, 13⟩ : S110) [.int .i64 58, .int .i64 59, .int .i64 13] from (k110_mkM _ _ _ (⟨58, 59, 13⟩ : S110) )) (Reps.c3 (show Kd.M k110 _ _ _ (⟨63, 63, 10⟩ : S110) [.int .i64 63, .int .i64 63, .int .i64 10] from (k110_mkM _ _ _ (⟨63, 63, 10⟩ : S110) )) (Reps.c3 (show Kd.M k110 _ _ _ (⟨91, 91, 8⟩ : S110) [.int .i64 91, .int .i64 91, .int .i64 8] from (k110_mkM _ _ _ (⟨91, 91, 8⟩ : S110) )) (Reps.c3 (show Kd.M k110 _ _ _ (⟨93, 93, 9⟩ : S110) [.int .i64 93, .int .i64 93, .int .i64 9] from (k110_mkM _ _ _ (⟨93, 93, 9⟩ : S110) )) (Reps.c3 (show Kd.M k110 _ _ _ (⟨123, 123, 8⟩ : S110) [.int .i64 123, .int .i64 123, .int .i64 8] from (k110_mkM _ _ _ (⟨123, 123, 8⟩ : S110) )) (Reps.c3 (show Kd.M k110 _ _ _ (⟨125, 125, 9⟩ : S110) [.int .i64 125, .int .i64 125, .int .i64 9] from (k110_mkM _ _ _ (⟨125, 125, 9⟩ : S110) )) (Reps.c3 (show Kd.M k110 _ _ _ (⟨160, 160, 5⟩ : S110) [.int .i64 160, .int .i64 160, .int .i64 5] from (k110_mkM _ _ _ (⟨160, 160, 5⟩ : S110) )) (Reps.c3 (show Kd.M k110 _ _ _ (⟨173, 173, 14⟩ : S110) [.int .i64 173, .int .i64 173, .int .i64 14] from (k110_mkM _ _ _ (⟨173, 173, 14⟩ : S110) )) (Reps.c3 (show Kd.M k110 _ _ _ (⟨1632, 1641, 2⟩ : S110) [.int .i64 1632, .int .i64 1641, .int .i64 2] from (k110_mkM _ _ _ (⟨1632, 1641, 2⟩ : S110) )) (Reps.c3 (show Kd.M k110 _ _ _ (⟨8203, 8203, 6⟩ : S110) [.int .i64 8203, .int .i64 8203, .int .i64 6] from (k110_mkM _ _ _ (⟨8203, 8203, 6⟩ : S110) )) (Reps.c3 (show Kd.M k110 _ _ _ (⟨8205, 8205, 7⟩ : S110) [.int .i64 8205, .int .i64 8205, .int .i64 7] from (k110_mkM _ _ _ (⟨8205, 8205, 7⟩ : S110) )) (Reps.c3 (show Kd.M k110 _ _ _ (⟨19968, 40959, 15⟩ : S110) [.int .i64 19968, .int .i64 40959, .int .i64 15] from (k110_mkM _ _ _ (⟨19968, 40959, 15⟩ : S110) )) (Reps.none _ _))))))))))))))))))))))))); intro v135 w1 ho2 hb hg_ hnew_; clear hg_ hnew_; (first | rw [← Ny134.out] at ho2 | (simp only [Int.reduceToNat] at ho2; rw [← Ny134.out] at ho2)); have n0_ := Aside0.mk (Kd.R_lower ho2 (below_size (by repeat (first | (with_reducible first | exact HB.out | apply below_alloc | apply pw_below_drewN | apply below_drew1) | exact HB.out)))); have n1_ := Aside0.mk (below_step (by repeat (first | (with_reducible first | exact HB.out | apply below_alloc | apply pw_below_drewN | apply below_drew1) | exact HB.out)) hb); clear HB; have HO136 := n0_; have HB := n1_; clear n0_ n1_; clear hb ho2))
  go_ret
  exact ⟨_, by first | rfl | (simp [errW_none, errW_some] <;> rfl) | (simp [*, errW_none, errW_some] <;> rfl), by (with_reducible repeat (first | apply Kd.R_alloc | apply Kd.R_drewN | apply Kd.R_drew)); exact HO136.out, by repeat (first | (with_reducible first | exact HB.out | apply below_alloc | apply pw_below_drewN | apply below_drew1) | exact HB.out)⟩

/-! ### impl_RuneLine: function 37 -/
def impl_RuneLine.j0 : Nat → Int → Bool → Option (Int)
  | 0, _, _ => none
  | k + 1, x0, x11 => if x11 = true then (some 7) else ((impl_lineReaches.f).bind fun t138 => ((impl_find.f t138 x0 1).bind fun t141 => (some t141)))
def impl_RuneLine.f (k : Nat) (a0 : Int) : Option (Int) := (impl_RuneBidi.f a0).bind fun t137 => (if t137 = 9 then (impl_RuneLine.j0 k a0 true) else (impl_RuneLine.j0 k a0 (decide (t137 ≥ 14))))
theorem impl_RuneLine.mono_l : ∀ k, (∀ y0 y1, LeO (impl_RuneLine.j0 k y0 y1) (impl_RuneLine.j0 (k + 1) y0 y1))
  | 0 => fun _ _ r h => by simp [impl_RuneLine.j0] at h
  | k + 1 => by
    have ih0 := impl_RuneLine.mono_l k
    · intro y0 y1
      unfold impl_RuneLine.j0
      repeat' first
      | (with_reducible exact ih0 _ _)
      | (with_reducible exact LeO.refl _)
      | (with_reducible exact LeO.none _)
      | (with_reducible refine LeO.ite ?_ ?_)
      | (with_reducible refine LeO.bind ?_ (fun _ => ?_))
      | exact ih0 _ _
      | exact LeO.none _
      | refine LeO.ite ?_ ?_
      | refine LeO.bind ?_ (fun _ => ?_)
theorem impl_RuneLine.mono : ∀ a0 k, LeO (impl_RuneLine.f k a0) (impl_RuneLine.f (k + 1) a0) := by
  intro a0 k
  have ih0 := impl_RuneLine.mono_l k
  unfold impl_RuneLine.f
  repeat' first
      | (with_reducible exact ih0 _ _)
      | (with_reducible exact LeO.refl _)
      | (with_reducible exact LeO.none _)
      | (with_reducible refine LeO.ite ?_ ?_)
      | (with_reducible refine LeO.bind ?_ (fun _ => ?_))
      | exact ih0 _ _
      | exact LeO.none _
      | refine LeO.ite ?_ ?_
      | refine LeO.bind ?_ (fun _ => ?_)
set_option maxHeartbeats 8000000 in
set_option maxRecDepth 100000 in
theorem impl_RuneLine.calls (k : Nat) (a0 : Int) (r : Int) (w : World) (h : impl_RuneLine.f k a0 = some r) :
    Calls Try.prog 37 #[.int .i64 a0] w fun e w' => e = .returned (.int .i64 r) ∧ Below w.heap.size w w' := by
  have HB := Aside0.mk (Below.refl w.heap.size w)
  have H : ((impl_RuneBidi.f a0).bind fun t137 => (if t137 = 9 then (impl_RuneLine.j0 k a0 true) else (impl_RuneLine.j0 k a0 (decide (t137 ≥ 14))))) = some r := h
  clear h
  replace H := Option.bind_eq_some_iff.mp H
  obtain ⟨t137, A20, H⟩ := H
  replace H : (if t137 = 9 then (impl_RuneLine.j0 k a0 true) else (impl_RuneLine.j0 k a0 (decide (t137 ≥ 14)))) = some r := H
  have A2 := Aside0.mk A20
  clear A20
  have HC3 := Aside0.mk H
  clear H
  go_enter Try.func37, Try.ntmps37
  go_upto_region 2 with (first | ((with_reducible refine gate_callee (f := 79) rfl ?_); refine goesL_ (some 5) rfl rfl Try.func79 (by kernel_rfl) rfl #[.int .i64 a0] rfl (by (try simp only [List.map_toArray, List.map_cons, List.map_nil]); first | done | rfl | (simp only [List.length_drop, List.length_take]; rfl)) ?_; (with_reducible refine (impl_RuneBidi.calls a0 t137 _ A2.out).mono ?_); rintro e w4 ⟨rfl, hb⟩; refine ⟨_, rfl, ?_⟩; have n0_ := Aside0.mk (below_step (by repeat (first | (with_reducible first | exact HB.out | apply below_alloc | apply pw_below_drewN | apply below_drew1) | exact HB.out)) hb); clear HB; have HB := n0_; clear n0_; (try clear hb); (try clear hb2); (try clear hk); (try clear hi)))
  (try simp only [Act.put, List.setIfInBounds_toArray, List.set_cons_zero, List.set_cons_succ])
  go_cut [11] (fun v11 wc => ∃ (kq : Nat) (x11_2 : Bool), v11 = .bool x11_2 ∧ Aside0 (impl_RuneLine.j0 kq a0 x11_2 = some r) ∧ Aside0 (kq ≤ k) ∧ Aside0 (Below w.heap.size w wc))
  case first =>
    have H := HC3.out
    clear HC3
    by_cases c5 : t137 = 9
    · rw [if_pos c5] at H
      have c5b0 : (t137 == 9) = true := beq_iff_eq.mpr c5
      have c5b1 : (t137 != 9) = false := bne_eq_false_iff_eq.mpr c5
      clear c5
      (first | rw [c5b0] | (simp only [i64_w, i32_w]; rw [c5b0]) | skip)
      have H' := Aside0.mk H
      clear H
      go_wp2
      go_meet
      case rel => exact ⟨_, (true), (by first | rfl | (simp; done) | (simp [*]; done)), H', ⟨by first | omega | exact Nat.le_refl _⟩, ⟨by repeat (first | (with_reducible first | exact HB.out | apply below_alloc | apply pw_below_drewN | apply below_drew1) | exact HB.out)⟩⟩
    · rw [if_neg c5] at H
      have c5b0 : (t137 == 9) = false := beq_eq_false_iff_ne.mpr c5
      have c5b1 : (t137 != 9) = true := bne_iff_ne.mpr c5
      (first | rw [c5b0] | (simp only [i64_w, i32_w]; rw [c5b0]) | skip)
      have H' := Aside0.mk H
      clear H
      go_wp2
      go_meet
      case rel => exact ⟨_, (decide (t137 ≥ 14)), (by first | rfl | (simp; done) | (simp [*]; done)), H', ⟨by first | omega | exact Nat.le_refl _⟩, ⟨by repeat (first | (with_reducible first | exact HB.out | apply below_alloc | apply pw_below_drewN | apply below_drew1) | exact HB.out)⟩⟩
  case rest =>
    clear HC3
    try clear p2
    try clear c3
    try clear c5
    try clear c5b0
    try clear c5b1
    obtain ⟨kq, x11_2, rfl, HA, HJ2, HB⟩ := hcut
    cases kq with
    | zero => exact absurd HA.out (by simp [impl_RuneLine.j0])
    | succ kj2 =>
      have H := HA.out
      clear HA
      simp only [impl_RuneLine.j0] at H
      by_cases c6 : x11_2 = true
      · subst c6
        have H1 : (some 7) = some r := by rw [if_pos rfl] at H; exact H
        clear H
        have H := H1
        clear H1
        obtain rfl := Option.some.inj H
        go_wp2
        go_ret
        exact ⟨by first | rfl | (simp [errW_none, errW_some] <;> rfl) | (simp [*, errW_none, errW_some] <;> rfl), by repeat (first | (with_reducible first | exact HB.out | apply below_alloc | apply pw_below_drewN | apply below_drew1) | exact HB.out)⟩
      · replace c6 := Bool.eq_false_iff.mpr c6
        subst c6
        have H1 : ((impl_lineReaches.f).bind fun t138 => ((impl_find.f t138 a0 1).bind fun t141 => (some t141))) = some r := by rw [if_neg (show ¬ (false = true) by decide)] at H; exact H
        clear H
        have H := H1
        clear H1
        replace H := Option.bind_eq_some_iff.mp H
        obtain ⟨t138, A70, H⟩ := H
        replace H : ((impl_find.f t138 a0 1).bind fun t141 => (some t141)) = some r := H
        have A7 := Aside0.mk A70
        clear A70
        replace H := Option.bind_eq_some_iff.mp H
        obtain ⟨t141, A80, H⟩ := H
        replace H : (some t141) = some r := H
        have A8 := Aside0.mk A80
        clear A80
        obtain rfl := Option.some.inj H
        go_wp2_with (first | ((with_reducible refine gate_callee (f := 82) rfl ?_); refine goesL_ (some 12) rfl rfl Try.func82 (by kernel_rfl) rfl #[] rfl (by (try simp only [List.map_toArray, List.map_cons, List.map_nil]); first | done | rfl | (simp only [List.length_drop, List.length_take]; rfl)) ?_; (with_reducible refine (impl_lineReaches.calls  t138 _ A7.out).mono ?_); rintro e w9 ⟨v139, rfl, ho0, hb⟩; refine ⟨_, rfl, ?_⟩; have n0_ := Aside0.mk (Kd.R_lower ho0 (below_size (by repeat (first | (with_reducible first | exact HB.out | apply below_alloc | apply pw_below_drewN | apply below_drew1) | exact HB.out)))); have n1_ := Aside0.mk (below_step (by repeat (first | (with_reducible first | exact HB.out | apply below_alloc | apply pw_below_drewN | apply below_drew1) | exact HB.out)) hb); clear HB; have HO140 := n0_; have HB := n1_; clear n0_ n1_; (try clear hb); (try clear hb2); (try clear hk); (try clear hi); (try clear ho0); obtain ⟨Ao10, co10, eo10⟩ := Kd.R_slice HO140.out; subst eo10) | ((with_reducible refine gate_callee (f := 81) rfl ?_); refine goesL_ (some 14) rfl rfl Try.func81 (by kernel_rfl) rfl #[.slice Ao10 t138.length co10, .int .i64 a0, .int .i64 1] rfl (by (try simp only [List.map_toArray, List.map_cons, List.map_nil]); first | done | rfl | (simp only [List.length_drop, List.length_take]; rfl)) ?_; (with_reducible refine (impl_find.calls _ _ t138 a0 1 t141 _ ?side1 ?side2 A8.out).mono ?_); (case side1 => repeat (first | exact (Kd.R_reads' HO140.out).2.2 | (with_reducible refine Kd.C_alloc ?_ _) | (with_reducible refine Kd.C_drewN ?_ _) | (with_reducible refine Kd.C_drew ?_))); (case side2 => exact (Kd.R_reads' HO140.out).2.1); rintro e w11 ⟨rfl, hb⟩; refine ⟨_, rfl, ?_⟩; have n0_ := Aside0.mk (Kd.R_below (by (with_reducible repeat (first | apply Kd.R_alloc | apply Kd.R_drewN | apply Kd.R_drew)); exact HO140.out) hb); have n1_ := Aside0.mk (below_step (by repeat (first | (with_reducible first | exact HB.out | apply below_alloc | apply pw_below_drewN | apply below_drew1) | exact HB.out)) hb); clear HO140; clear HB; have HO140 := n0_; have HB := n1_; clear n0_ n1_; (try clear hb); (try clear hb2); (try clear hk); (try clear hi)))
        go_ret
        exact ⟨by first | rfl | (simp [errW_none, errW_some] <;> rfl) | (simp [*, errW_none, errW_some] <;> rfl), by repeat (first | (with_reducible first | exact HB.out | apply below_alloc | apply pw_below_drewN | apply below_drew1) | exact HB.out)⟩

/-! ### laws_FnExactRuneLine: function 8 -/
def laws_FnExactRuneLine.f (k : Nat) (a0 : Int) : Option (Bool) := (spec_RuneLine.f k a0).bind fun t142 => ((impl_RuneLine.f k a0).bind fun t143 => (if t143 = t142 then (some true) else (some false)))
theorem laws_FnExactRuneLine.mono : ∀ a0 k, LeO (laws_FnExactRuneLine.f k a0) (laws_FnExactRuneLine.f (k + 1) a0) := by
  intro a0 k
  unfold laws_FnExactRuneLine.f
  repeat' first
      | (with_reducible exact impl_RuneLine.mono _ _)
      | (with_reducible exact spec_RuneLine.mono _ _)
      | (with_reducible exact LeO.refl _)
      | (with_reducible exact LeO.none _)
      | (with_reducible refine LeO.ite ?_ ?_)
      | (with_reducible refine LeO.bind ?_ (fun _ => ?_))
      | exact impl_RuneLine.mono _ _
      | exact spec_RuneLine.mono _ _
      | exact LeO.none _
      | refine LeO.ite ?_ ?_
      | refine LeO.bind ?_ (fun _ => ?_)
set_option maxHeartbeats 8000000 in
set_option maxRecDepth 100000 in
theorem laws_FnExactRuneLine.calls (k : Nat) (a0 : Int) (r : Bool) (w : World) (h : laws_FnExactRuneLine.f k a0 = some r) :
    Calls Try.prog 8 #[.int .i64 a0] w fun e w' => e = .returned (.bool r) ∧ Below w.heap.size w w' := by
  have HB := Aside0.mk (Below.refl w.heap.size w)
  have H : ((spec_RuneLine.f k a0).bind fun t142 => ((impl_RuneLine.f k a0).bind fun t143 => (if t143 = t142 then (some true) else (some false)))) = some r := h
  clear h
  replace H := Option.bind_eq_some_iff.mp H
  obtain ⟨t142, A20, H⟩ := H
  replace H : ((impl_RuneLine.f k a0).bind fun t143 => (if t143 = t142 then (some true) else (some false))) = some r := H
  have A2 := Aside0.mk A20
  clear A20
  replace H := Option.bind_eq_some_iff.mp H
  obtain ⟨t143, A30, H⟩ := H
  replace H : (if t143 = t142 then (some true) else (some false)) = some r := H
  have A3 := Aside0.mk A30
  clear A30
  by_cases c4 : t143 = t142
  · rw [if_pos c4] at H
    have c4b0 : (t143 == t142) = true := beq_iff_eq.mpr c4
    have c4b1 : (t143 != t142) = false := bne_eq_false_iff_eq.mpr c4
    clear c4
    obtain rfl := Option.some.inj H
    go_enter Try.func8, Try.ntmps8
    go_wp2_with (first | ((with_reducible refine gate_callee (f := 36) rfl ?_); refine goesL_ (some 6) rfl rfl Try.func36 (by kernel_rfl) rfl #[.int .i64 a0] rfl (by (try simp only [List.map_toArray, List.map_cons, List.map_nil]); first | done | rfl | (simp only [List.length_drop, List.length_take]; rfl)) ?_; (with_reducible refine (spec_RuneLine.calls k a0 t142 _ A2.out).mono ?_); rintro e w5 ⟨rfl, hb⟩; refine ⟨_, rfl, ?_⟩; have n0_ := Aside0.mk (below_step (by repeat (first | (with_reducible first | exact HB.out | apply below_alloc | apply pw_below_drewN | apply below_drew1) | exact HB.out)) hb); clear HB; have HB := n0_; clear n0_; (try clear hb); (try clear hb2); (try clear hk); (try clear hi)) | ((with_reducible refine gate_callee (f := 37) rfl ?_); refine goesL_ (some 8) rfl rfl Try.func37 (by kernel_rfl) rfl #[.int .i64 a0] rfl (by (try simp only [List.map_toArray, List.map_cons, List.map_nil]); first | done | rfl | (simp only [List.length_drop, List.length_take]; rfl)) ?_; (with_reducible refine (impl_RuneLine.calls k a0 t143 _ A3.out).mono ?_); rintro e w6 ⟨rfl, hb⟩; refine ⟨_, rfl, ?_⟩; have n0_ := Aside0.mk (below_step (by repeat (first | (with_reducible first | exact HB.out | apply below_alloc | apply pw_below_drewN | apply below_drew1) | exact HB.out)) hb); clear HB; have HB := n0_; clear n0_; (try clear hb); (try clear hb2); (try clear hk); (try clear hi)))
    go_ret
    exact ⟨by first | rfl | (simp [errW_none, errW_some] <;> rfl) | (simp [*, errW_none, errW_some] <;> rfl), by repeat (first | (with_reducible first | exact HB.out | apply below_alloc | apply pw_below_drewN | apply below_drew1) | exact HB.out)⟩
  · rw [if_neg c4] at H
    have c4b0 : (t143 == t142) = false := beq_eq_false_iff_ne.mpr c4
    have c4b1 : (t143 != t142) = true := bne_iff_ne.mpr c4
    obtain rfl := Option.some.inj H
    go_enter Try.func8, Try.ntmps8
    go_wp2_with (first | ((with_reducible refine gate_callee (f := 36) rfl ?_); refine goesL_ (some 6) rfl rfl Try.func36 (by kernel_rfl) rfl #[.int .i64 a0] rfl (by (try simp only [List.map_toArray, List.map_cons, List.map_nil]); first | done | rfl | (simp only [List.length_drop, List.length_take]; rfl)) ?_; (with_reducible refine (spec_RuneLine.calls k a0 t142 _ A2.out).mono ?_); rintro e w7 ⟨rfl, hb⟩; refine ⟨_, rfl, ?_⟩; have n0_ := Aside0.mk (below_step (by repeat (first | (with_reducible first | exact HB.out | apply below_alloc | apply pw_below_drewN | apply below_drew1) | exact HB.out)) hb); clear HB; have HB := n0_; clear n0_; (try clear hb); (try clear hb2); (try clear hk); (try clear hi)) | ((with_reducible refine gate_callee (f := 37) rfl ?_); refine goesL_ (some 8) rfl rfl Try.func37 (by kernel_rfl) rfl #[.int .i64 a0] rfl (by (try simp only [List.map_toArray, List.map_cons, List.map_nil]); first | done | rfl | (simp only [List.length_drop, List.length_take]; rfl)) ?_; (with_reducible refine (impl_RuneLine.calls k a0 t143 _ A3.out).mono ?_); rintro e w8 ⟨rfl, hb⟩; refine ⟨_, rfl, ?_⟩; have n0_ := Aside0.mk (below_step (by repeat (first | (with_reducible first | exact HB.out | apply below_alloc | apply pw_below_drewN | apply below_drew1) | exact HB.out)) hb); clear HB; have HB := n0_; clear n0_; (try clear hb); (try clear hb2); (try clear hk); (try clear hi)))
    go_ret
    exact ⟨by first | rfl | (simp [errW_none, errW_some] <;> rfl) | (simp [*, errW_none, errW_some] <;> rfl), by repeat (first | (with_reducible first | exact HB.out | apply below_alloc | apply pw_below_drewN | apply below_drew1) | exact HB.out)⟩

/-- THE ONE PURE STATEMENT of laws_FnExactRuneLine: yours. -/
def laws_FnExactRuneLine.Pure : Prop := ∀ (a0 : Int), (Lit.int .i64 a0).wf = true → ∃ k, laws_FnExactRuneLine.f k a0 = some true
theorem laws_FnExactRuneLine.walk (P : laws_FnExactRuneLine.Pure) (a0 : Int) (w : World) (w0 : (Lit.int .i64 a0).wf = true) :
    Calls Try.prog 8 #[.int .i64 a0] w fun e w' => e = .returned (.bool true) ∧ Below w.heap.size w w' := by
  obtain ⟨k, h⟩ := P a0 w0
  refine (laws_FnExactRuneLine.calls k a0 true w h).mono ?_
  rintro e w' ⟨rfl, hd⟩
  exact ⟨rfl, hd⟩

end Go.Proofs.Ytpdkddhadgeheaa.PFnExactRuneLine
