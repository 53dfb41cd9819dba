-- Written by a program of this session (wip/tools) out of the translation; its shape is that of the kit print.
import Derived.Test.YtmjhdgofepdgkaaPFnExactFillCostx0
import Derived.Test.YtmjhdgofepdgkaaPFnExactFillCostx2
import Derived.Test.YtmjhdgofepdgkaaPFnExactFillCostx3
import Derived.Test.YtmjhdgofepdgkaaPFnExactFillCostx6
namespace Go.Proofs.Ytmjhdgofepdgkaa.PFnExactFillCost
open Go.RowKit Go.Proofs.YtmjhdgofepdgkaaW.PrintWords Go.Proofs.YtmjhdgofepdgkaaW.PrintLast Go.Proofs.YtmjhdgofepdgkaaW.PrintMore
attribute [local go_sem] zbb zcb zjb zkb zxa zya zdb zeb
set_option linter.unusedVariables false
set_option maxHeartbeats 8000000
set_option maxRecDepth 100000
set_option linter.unusedSimpArgs false
mutual
def spec_RuneLine.j0 : Nat → Int → Bool → Option (Int)
 | 0, _, _ => none
 | k + 1, x0, x15 => if x15 = true then (some 7) else ((spec_l1In.f x0 48 57).bind fun t188 => (if t188 = true then (spec_RuneLine.j1 k x0 true) else ((spec_l1In.f x0 1632 1641).bind fun t189 => (spec_RuneLine.j1 k x0 t189))))
def spec_RuneLine.j1 : Nat → Int → Bool → Option (Int)
 | 0, _, _ => none
 | k + 1, x0, x28 => if x28 = true then (some 2) else ((spec_l1In.f x0 19968 40959).bind fun t190 => (if t190 = true then (some 15) else ((spec_l5Signs.f k x0).bind fun t191 => (some t191))))
end
def spec_RuneLine.f (k : Nat) (a0 : Int) : Option (Int) := if a0 = 10 then (some 4) else (if a0 = 32 then (some 3) else (if a0 = 160 then (some 5) else (if a0 = 8203 then (some 6) else ((spec_RuneBidi.f k a0).bind fun t186 => (if t186 = 9 then (spec_RuneLine.j0 k a0 true) else (if a0 = 8205 then (spec_RuneLine.j0 k a0 true) else ((spec_RuneBidi.f k a0).bind fun t187 => (spec_RuneLine.j0 k a0 (decide (t187 ≥ 14))))))))))
theorem spec_RuneLine.calls (k : Nat) (a0 : Int) (r : Int) (w : World) (h : spec_RuneLine.f k a0 = some r) :
  Calls Try.prog 37 #[.int .i64 a0] w fun e w' => e = .returned (.int .i64 r) ∧ Below w.heap.size w w' := by
 have HB := za.mk (Below.refl w.heap.size w)
 have H : (if a0 = 10 then (some 4) else (if a0 = 32 then (some 3) else (if a0 = 160 then (some 5) else (if a0 = 8203 then (some 6) else ((spec_RuneBidi.f k a0).bind fun t186 => (if t186 = 9 then (spec_RuneLine.j0 k a0 true) else (if a0 = 8205 then (spec_RuneLine.j0 k a0 true) else ((spec_RuneBidi.f k a0).bind fun t187 => (spec_RuneLine.j0 k a0 (decide (t187 ≥ 14))))))))))) = some r := h
 clear h
 by_cases c2 : a0 = 10
 ·rw [if_pos c2] at H
  have c2b0 : (a0 == 10) = true := beq_iff_eq.mpr c2
  have c2b1 : (a0 != 10) = false := bne_eq_false_iff_eq.mpr c2
  clear c2
  obtain rfl := Option.some.inj H
  go_enter Try.func37, Try.ntmps37
  go_wp2
  go_ret
  exact ⟨by first | rfl | (simp [zh, zi] <;> rfl) | (simp [*, zh, zi] <;> rfl), by repeat (first | (with_reducible first | exact HB.out | apply zc | apply zb | apply zd) | exact HB.out)⟩
 ·rw [if_neg c2] at H
  have c2b0 : (a0 == 10) = false := beq_eq_false_iff_ne.mpr c2
  have c2b1 : (a0 != 10) = true := bne_iff_ne.mpr c2
  by_cases c3 : a0 = 32
  ·rw [if_pos c3] at H
   have c3b0 : (a0 == 32) = true := beq_iff_eq.mpr c3
   have c3b1 : (a0 != 32) = false := bne_eq_false_iff_eq.mpr c3
   clear c3
   obtain rfl := Option.some.inj H
   go_enter Try.func37, Try.ntmps37
   go_wp2
   go_ret
   exact ⟨by first | rfl | (simp [zh, zi] <;> rfl) | (simp [*, zh, zi] <;> rfl), by repeat (first | (with_reducible first | exact HB.out | apply zc | apply zb | apply zd) | exact HB.out)⟩
  ·rw [if_neg c3] at H
   have c3b0 : (a0 == 32) = false := beq_eq_false_iff_ne.mpr c3
   have c3b1 : (a0 != 32) = true := bne_iff_ne.mpr c3
   by_cases c4 : a0 = 160
   ·rw [if_pos c4] at H
    have c4b0 : (a0 == 160) = true := beq_iff_eq.mpr c4
    have c4b1 : (a0 != 160) = false := bne_eq_false_iff_eq.mpr c4
    clear c4
    obtain rfl := Option.some.inj H
    go_enter Try.func37, Try.ntmps37
    go_wp2
    go_ret
    exact ⟨by first | rfl | (simp [zh, zi] <;> rfl) | (simp [*, zh, zi] <;> rfl), by repeat (first | (with_reducible first | exact HB.out | apply zc | apply zb | apply zd) | exact HB.out)⟩
   ·rw [if_neg c4] at H
    have c4b0 : (a0 == 160) = false := beq_eq_false_iff_ne.mpr c4
    have c4b1 : (a0 != 160) = true := bne_iff_ne.mpr c4
    by_cases c5 : a0 = 8203
    ·rw [if_pos c5] at H
     have c5b0 : (a0 == 8203) = true := beq_iff_eq.mpr c5
     have c5b1 : (a0 != 8203) = false := bne_eq_false_iff_eq.mpr c5
     clear c5
     obtain rfl := Option.some.inj H
     go_enter Try.func37, Try.ntmps37
     go_wp2
     go_ret
     exact ⟨by first | rfl | (simp [zh, zi] <;> rfl) | (simp [*, zh, zi] <;> rfl), by repeat (first | (with_reducible first | exact HB.out | apply zc | apply zb | apply zd) | exact HB.out)⟩
    ·rw [if_neg c5] at H
     have c5b0 : (a0 == 8203) = false := beq_eq_false_iff_ne.mpr c5
     have c5b1 : (a0 != 8203) = true := bne_iff_ne.mpr c5
     have HC6 := za.mk H
     clear H
     go_enter Try.func37, Try.ntmps37
     go_upto_region 9 with (fail)
     go_cut [15] (fun v15 wc => ∃ (kq : Nat) (x15_5 : Bool), v15 = .bool x15_5 ∧ za (spec_RuneLine.j0 kq a0 x15_5 = some r) ∧ za (kq ≤ k) ∧ za (Below w.heap.size w wc))
     case first =>
      have H := HC6.out
      clear HC6
      replace H := Option.bind_eq_some_iff.mp H
      obtain ⟨t186, A70, H⟩ := H
      replace H : (if t186 = 9 then (spec_RuneLine.j0 k a0 true) else (if a0 = 8205 then (spec_RuneLine.j0 k a0 true) else ((spec_RuneBidi.f k a0).bind fun t187 => (spec_RuneLine.j0 k a0 (decide (t187 ≥ 14)))))) = some r := H
      have A7 := za.mk A70
      clear A70
      by_cases c8 : t186 = 9
      ·rw [if_pos c8] at H
       have c8b0 : (t186 == 9) = true := beq_iff_eq.mpr c8
       have c8b1 : (t186 != 9) = false := bne_eq_false_iff_eq.mpr c8
       clear c8
       (first | rw [c8b0] | (simp only [zr, zs]; rw [c8b0]) | skip)
       have H' := za.mk H
       clear H
       go_wp2_with (first | ((with_reducible refine zj (f := 79) rfl ?_); refine zgo (some 17) Try.func79 #[.int .i64 a0] rfl ?_; (with_reducible refine (spec_RuneBidi.calls k a0 t186 _ A7.out).mono ?_); rintro e w9 ⟨rfl, hb⟩; refine ⟨_, rfl, ?_⟩; have n0_ := za.mk (zg (by repeat (first | (with_reducible first | exact HB.out | apply zc | apply zb | apply zd) | exact HB.out)) hb); clear HB; have HB := n0_; clear n0_; (try clear hb); (try clear hb2); (try clear hk); (try clear hi)))
       go_meet
       case rel => exact ⟨_, (true), (by first | rfl | (simp; done) | (simp [*]; done)), H', ⟨by first | omega | exact Nat.le_refl _⟩, ⟨by repeat (first | (with_reducible first | exact HB.out | apply zc | apply zb | apply zd) | exact HB.out)⟩⟩
      ·rw [if_neg c8] at H
       have c8b0 : (t186 == 9) = false := beq_eq_false_iff_ne.mpr c8
       have c8b1 : (t186 != 9) = true := bne_iff_ne.mpr c8
       (first | rw [c8b0] | (simp only [zr, zs]; rw [c8b0]) | skip)
       by_cases c10 : a0 = 8205
       ·rw [if_pos c10] at H
        have c10b0 : (a0 == 8205) = true := beq_iff_eq.mpr c10
        have c10b1 : (a0 != 8205) = false := bne_eq_false_iff_eq.mpr c10
        clear c10
        have H' := za.mk H
        clear H
        go_wp2_with (first | ((with_reducible refine zj (f := 79) rfl ?_); refine zgo (some 17) Try.func79 #[.int .i64 a0] rfl ?_; (with_reducible refine (spec_RuneBidi.calls k a0 t186 _ A7.out).mono ?_); rintro e w11 ⟨rfl, hb⟩; refine ⟨_, rfl, ?_⟩; have n0_ := za.mk (zg (by repeat (first | (with_reducible first | exact HB.out | apply zc | apply zb | apply zd) | exact HB.out)) hb); clear HB; have HB := n0_; clear n0_; (try clear hb); (try clear hb2); (try clear hk); (try clear hi)))
        go_meet
        case rel => exact ⟨_, (true), (by first | rfl | (simp; done) | (simp [*]; done)), H', ⟨by first | omega | exact Nat.le_refl _⟩, ⟨by repeat (first | (with_reducible first | exact HB.out | apply zc | apply zb | apply zd) | exact HB.out)⟩⟩
       ·rw [if_neg c10] at H
        have c10b0 : (a0 == 8205) = false := beq_eq_false_iff_ne.mpr c10
        have c10b1 : (a0 != 8205) = true := bne_iff_ne.mpr c10
        replace H := Option.bind_eq_some_iff.mp H
        obtain ⟨t187, A120, H⟩ := H
        replace H : (spec_RuneLine.j0 k a0 (decide (t187 ≥ 14))) = some r := H
        have A12 := za.mk A120
        clear A120
        have H' := za.mk H
        clear H
        go_wp2_with (first | ((with_reducible refine zj (f := 79) rfl ?_); refine zgo (some 17) Try.func79 #[.int .i64 a0] rfl ?_; (with_reducible refine (spec_RuneBidi.calls k a0 t186 _ A7.out).mono ?_); rintro e w13 ⟨rfl, hb⟩; refine ⟨_, rfl, ?_⟩; have n0_ := za.mk (zg (by repeat (first | (with_reducible first | exact HB.out | apply zc | apply zb | apply zd) | exact HB.out)) hb); clear HB; have HB := n0_; clear n0_; (try clear hb); (try clear hb2); (try clear hk); (try clear hi)) | (go_at_call 79; (with_reducible refine (spec_RuneBidi.calls k a0 t187 _ A12.out).mono ?_); rintro e w14 ⟨rfl, hb⟩; have n0_ := za.mk (zg (by repeat (first | (with_reducible first | exact HB.out | apply zc | apply zb | apply zd) | exact HB.out)) hb); clear HB; have HB := n0_; clear n0_; (try clear hb); (try clear hb2); (try clear hk); (try clear hi)))
        go_meet
        case rel => exact ⟨_, (decide (t187 ≥ 14)), (by first | rfl | (simp; done) | (simp [*]; done)), H', ⟨by first | omega | exact Nat.le_refl _⟩, ⟨by repeat (first | (with_reducible first | exact HB.out | apply zc | apply zb | apply zd) | exact HB.out)⟩⟩
     case rest =>
      clear HC6
      try clear c1
      try clear c2
      try clear c2b0
      try clear c2b1
      try clear p2
      try clear c3
      try clear c3b0
      try clear c3b1
      try clear c4
      try clear c4b0
      try clear c4b1
      try clear c5
      try clear c5b0
      try clear c5b1
      try clear c7
      try clear c8
      try clear c8b0
      try clear c8b1
      try clear c10
      try clear c10b0
      try clear c10b1
      obtain ⟨kq, x15_5, rfl, HA, HJ5, HB⟩ := hcut
      cases kq with
      | zero => exact absurd HA.out (by simp [spec_RuneLine.j0])
      | succ kj5 =>
       have H := HA.out
       clear HA
       simp only [spec_RuneLine.j0] at H
       by_cases c15 : x15_5 = true
       ·subst c15
        have H1 : (some 7) = some r := by rw [if_pos rfl] at H; exact H
        clear H
        have H := H1
        clear H1
        obtain rfl := Option.some.inj H
        go_wp2
        go_ret
        exact ⟨by first | rfl | (simp [zh, zi] <;> rfl) | (simp [*, zh, zi] <;> rfl), by repeat (first | (with_reducible first | exact HB.out | apply zc | apply zb | apply zd) | exact HB.out)⟩
       ·replace c15 := Bool.eq_false_iff.mpr c15
        subst c15
        have H1 : ((spec_l1In.f a0 48 57).bind fun t188 => (if t188 = true then (spec_RuneLine.j1 kj5 a0 true) else ((spec_l1In.f a0 1632 1641).bind fun t189 => (spec_RuneLine.j1 kj5 a0 t189)))) = some r := by rw [if_neg (show ¬ (false = true) by decide)] at H; exact H
        clear H
        have H := H1
        clear H1
        have HC16 := za.mk H
        clear H
        go_upto_region 11 with (fail)
        go_cut [28] (fun v28 wc => ∃ (kq : Nat) (x28_15 : Bool), v28 = .bool x28_15 ∧ za (spec_RuneLine.j1 kq a0 x28_15 = some r) ∧ za (kq ≤ kj5) ∧ za (Below w.heap.size w wc))
        case first =>
         have H := HC16.out
         clear HC16
         replace H := Option.bind_eq_some_iff.mp H
         obtain ⟨t188, A170, H⟩ := H
         replace H : (if t188 = true then (spec_RuneLine.j1 kj5 a0 true) else ((spec_l1In.f a0 1632 1641).bind fun t189 => (spec_RuneLine.j1 kj5 a0 t189))) = some r := H
         have A17 := za.mk A170
         clear A170
         by_cases c18 : t188 = true
         ·subst c18
          have H1 : (spec_RuneLine.j1 kj5 a0 true) = some r := by rw [if_pos rfl] at H; exact H
          clear H
          have H := H1
          clear H1
          have H' := za.mk H
          clear H
          go_wp2_with (first | ((with_reducible refine zj (f := 74) rfl ?_); refine zgo (some 30) Try.func74 #[.int .i64 a0, .int .i64 48, .int .i64 57] rfl ?_; (with_reducible refine (spec_l1In.calls a0 48 57 true _ A17.out).mono ?_); rintro e w' ⟨rfl, ⟨nd, rfl⟩⟩; refine ⟨_, rfl, ?_⟩))
          go_meet
          case rel => exact ⟨_, (true), (by first | rfl | (simp; done) | (simp [*]; done)), H', ⟨by have := HJ5.out; first | omega | exact Nat.le_refl _⟩, ⟨by repeat (first | (with_reducible first | exact HB.out | apply zc | apply zb | apply zd) | exact HB.out)⟩⟩
         ·replace c18 := Bool.eq_false_iff.mpr c18
          subst c18
          have H1 : ((spec_l1In.f a0 1632 1641).bind fun t189 => (spec_RuneLine.j1 kj5 a0 t189)) = some r := by rw [if_neg (show ¬ (false = true) by decide)] at H; exact H
          clear H
          have H := H1
          clear H1
          replace H := Option.bind_eq_some_iff.mp H
          obtain ⟨t189, A190, H⟩ := H
          replace H : (spec_RuneLine.j1 kj5 a0 t189) = some r := H
          have A19 := za.mk A190
          clear A190
          have H' := za.mk H
          clear H
          go_wp2_with (first | ((with_reducible refine zj (f := 74) rfl ?_); refine zgo (some 30) Try.func74 #[.int .i64 a0, .int .i64 48, .int .i64 57] rfl ?_; (with_reducible refine (spec_l1In.calls a0 48 57 false _ A17.out).mono ?_); rintro e w' ⟨rfl, ⟨nd, rfl⟩⟩; refine ⟨_, rfl, ?_⟩) | (go_at_call 74; (with_reducible refine (spec_l1In.calls a0 1632 1641 t189 _ A19.out).mono ?_); rintro e w' ⟨rfl, ⟨nd, rfl⟩⟩))
          go_meet
          case rel => exact ⟨_, (t189), (by first | rfl | (simp; done) | (simp [*]; done)), H', ⟨by have := HJ5.out; first | omega | exact Nat.le_refl _⟩, ⟨by repeat (first | (with_reducible first | exact HB.out | apply zc | apply zb | apply zd) | exact HB.out)⟩⟩
        case rest =>
         clear HC16
         try clear c1
         try clear c2
         try clear c2b0
         try clear c2b1
         try clear p2
         try clear c3
         try clear c3b0
         try clear c3b1
         try clear c4
         try clear c4b0
         try clear c4b1
         try clear c5
         try clear c5b0
         try clear c5b1
         try clear c7
         try clear c8
         try clear c8b0
         try clear c8b1
         try clear c10
         try clear c10b0
         try clear c10b1
         try clear c15
         try clear c18
         try clear p2
         obtain ⟨kq, x28_15, rfl, HA, HJ15, HB⟩ := hcut
         cases kq with
         | zero => exact absurd HA.out (by simp [spec_RuneLine.j1])
         | succ kj15 =>
          have H := HA.out
          clear HA
          simp only [spec_RuneLine.j1] at H
          by_cases c20 : x28_15 = true
          ·subst c20
           have H1 : (some 2) = some r := by rw [if_pos rfl] at H; exact H
           clear H
           have H := H1
           clear H1
           obtain rfl := Option.some.inj H
           go_wp2
           go_ret
           exact ⟨by first | rfl | (simp [zh, zi] <;> rfl) | (simp [*, zh, zi] <;> rfl), by repeat (first | (with_reducible first | exact HB.out | apply zc | apply zb | apply zd) | exact HB.out)⟩
          ·replace c20 := Bool.eq_false_iff.mpr c20
           subst c20
           have H1 : ((spec_l1In.f a0 19968 40959).bind fun t190 => (if t190 = true then (some 15) else ((spec_l5Signs.f kj15 a0).bind fun t191 => (some t191)))) = some r := by rw [if_neg (show ¬ (false = true) by decide)] at H; exact H
           clear H
           have H := H1
           clear H1
           replace H := Option.bind_eq_some_iff.mp H
           obtain ⟨t190, A210, H⟩ := H
           replace H : (if t190 = true then (some 15) else ((spec_l5Signs.f kj15 a0).bind fun t191 => (some t191))) = some r := H
           have A21 := za.mk A210
           clear A210
           by_cases c22 : t190 = true
           ·subst c22
            have H1 : (some 15) = some r := by rw [if_pos rfl] at H; exact H
            clear H
            have H := H1
            clear H1
            obtain rfl := Option.some.inj H
            go_wp2_with (first | ((with_reducible refine zj (f := 74) rfl ?_); refine zgo (some 37) Try.func74 #[.int .i64 a0, .int .i64 19968, .int .i64 40959] rfl ?_; (with_reducible refine (spec_l1In.calls a0 19968 40959 true _ A21.out).mono ?_); rintro e w' ⟨rfl, ⟨nd, rfl⟩⟩; refine ⟨_, rfl, ?_⟩))
            go_ret
            exact ⟨by first | rfl | (simp [zh, zi] <;> rfl) | (simp [*, zh, zi] <;> rfl), by repeat (first | (with_reducible first | exact HB.out | apply zc | apply zb | apply zd) | exact HB.out)⟩
           ·replace c22 := Bool.eq_false_iff.mpr c22
            subst c22
            have H1 : ((spec_l5Signs.f kj15 a0).bind fun t191 => (some t191)) = some r := by rw [if_neg (show ¬ (false = true) by decide)] at H; exact H
            clear H
            have H := H1
            clear H1
            replace H := Option.bind_eq_some_iff.mp H
            obtain ⟨t191, A230, H⟩ := H
            replace H : (some t191) = some r := H
            have A23 := za.mk A230
            clear A230
            obtain rfl := Option.some.inj H
            go_wp2_with (first | ((with_reducible refine zj (f := 74) rfl ?_); refine zgo (some 37) Try.func74 #[.int .i64 a0, .int .i64 19968, .int .i64 40959] rfl ?_; (with_reducible refine (spec_l1In.calls a0 19968 40959 false _ A21.out).mono ?_); rintro e w' ⟨rfl, ⟨nd, rfl⟩⟩; refine ⟨_, rfl, ?_⟩) | ((with_reducible refine zj (f := 80) rfl ?_); refine zgo (some 39) Try.func80 #[.int .i64 a0] rfl ?_; (with_reducible refine (spec_l5Signs.calls kj15 a0 t191 _ A23.out).mono ?_); rintro e w' ⟨rfl, ⟨nd, rfl⟩⟩; refine ⟨_, rfl, ?_⟩))
            go_ret
            exact ⟨by first | rfl | (simp [zh, zi] <;> rfl) | (simp [*, zh, zi] <;> rfl), by repeat (first | (with_reducible first | exact HB.out | apply zc | apply zb | apply zd) | exact HB.out)⟩
def spec_l5Counts.l0 : Nat → List Int → List Int → Int → Option (List Int)
 | 0, _, _, _ => none
 | k + 1, x0, x3, x4 => if x4 < (x0.length : Int) then (if 0 ≤ x4 then ((spec_RuneLine.f k (rd x0 x4)).bind fun t196 => (if t196 = 7 then (if x4 > 0 then (if 0 ≤ (wrap64 (x4 - 1)) then (if (wrap64 (x4 - 1)) < (x3.length : Int) then (if (rd x3 (wrap64 (x4 - 1))) = 3 then (if x3.length < 17592186044416 then (spec_l5Counts.l0 k x0 (x3 ++ [1]) (wrap64 (x4 + 1))) else (none)) else (if (rd x3 (wrap64 (x4 - 1))) = 4 then (if x3.length < 17592186044416 then (spec_l5Counts.l0 k x0 (x3 ++ [1]) (wrap64 (x4 + 1))) else (none)) else (if (rd x3 (wrap64 (x4 - 1))) = 6 then (if x3.length < 17592186044416 then (spec_l5Counts.l0 k x0 (x3 ++ [1]) (wrap64 (x4 + 1))) else (none)) else (if x3.length < 17592186044416 then (spec_l5Counts.l0 k x0 (x3 ++ [rd x3 (wrap64 (x4 - 1))]) (wrap64 (x4 + 1))) else (none))))) else (none)) else (none)) else (if x3.length < 17592186044416 then (spec_l5Counts.l0 k x0 (x3 ++ [1]) (wrap64 (x4 + 1))) else (none))) else (if x3.length < 17592186044416 then (spec_l5Counts.l0 k x0 (x3 ++ [t196]) (wrap64 (x4 + 1))) else (none)))) else (none)) else (some x3)
def spec_l5Counts.f (k : Nat) (l0 : List Int) : Option (List Int) := spec_l5Counts.l0 k l0 (([] : List Int)) 0
theorem spec_l5Counts.calls (k : Nat) (A0 : Option Addr) (c0 : Nat) (l0 : List Int) (r : List Int) (w : World) (hr0 : Kd.C (Kd.int .i64) w A0 l0.length l0) (hc0 : l0.length ≤ c0) (h : spec_l5Counts.f k l0 = some r) :
  Calls Try.prog 111 #[.slice A0 l0.length c0] w fun e w' => ∃ v0_ : Value, e = .returned (v0_) ∧ Kd.R (Kd.int .i64) 3 w' w.heap.size (fun _ => True) v0_ r ∧ Below w.heap.size w w' := by
 have HR0 := za.mk hr0
 have HC0 := za.mk hc0
 clear hr0 hc0
 have HB := za.mk (Below.refl w.heap.size w)
 have H : (spec_l5Counts.l0 k l0 (([] : List Int)) 0) = some r := h
 clear h
 obtain ⟨y192, hy192⟩ : ∃ y_ : List Int, y_ = (([] : List Int)) := ⟨_, rfl⟩
 replace H : (spec_l5Counts.l0 k l0 y192 0) = some r := by first | (rw [hy192]; with_reducible exact H) | (have H2_ := (Option.bind_some _ _).symm.trans H; rw [hy192]; with_reducible exact H2_) | (have H2_ := (Option.bind_some _ _).symm.trans H; with_reducible exact H2_) | with_reducible exact H | (rw [hy192]; exact H) | exact H
 have Ny192 := za.mk hy192
 clear hy192
 have H' := za.mk H
 clear H
 go_enter Try.func111, Try.ntmps111
 go_wp2_with (first | ((with_reducible refine zw (N := 6) rfl ?_); refine Kd.zwa (Kd.int .i64) _ 3 ?hg (N := 6) ?hd (xs := ([] : List Int)) (inner := []) (ok := fun _ => True) (okp := fun _ => True) ?hr ?hp (fun _ hk => hk) trivial (Below.refl _ _) (Nat.le_refl _) (by simp) ?_; (case hd => rfl); (case hg => rfl); (case hr => first | (go_simp; done) | (go_simp; rfl)); (case hp => exact (Reps.none _ _)); intro v193 w2 ho3 hb hg_ hnew_; clear hg_ hnew_; (first | rw [← Ny192.out] at ho3 | (simp only [Int.reduceToNat] at ho3; rw [← Ny192.out] at ho3)); have n0_ := za.mk (Kd.zqa ho3 (zp (by repeat (first | (with_reducible first | exact HB.out | apply zc | apply zb | apply zd) | exact HB.out)))); have n1_ := za.mk (zg (by repeat (first | (with_reducible first | exact HB.out | apply zc | apply zb | apply zd) | exact HB.out)) hb); clear HB; have HO194 := n0_; have HB := n1_; clear n0_ n1_; clear hb ho3))
 go_loopg [3, 4] k (fun kq v3 v4 w' => ∃ (x3_1 : List Int) (x4_1 : Int), v4 = .int .i64 x4_1 ∧ za (spec_l5Counts.l0 kq l0 x3_1 x4_1 = some r) ∧ za (kq ≤ k) ∧ za (Kd.R (Kd.int .i64) 3 w' w.heap.size (fun _ => True) v3 x3_1) ∧ za (Below w.heap.size w w'))
 case atStart => exact ⟨(y192), (0), (by first | rfl | (simp; done) | (simp [*]; done)), H', ⟨Nat.le_refl _⟩, ⟨by (with_reducible repeat (first | apply Kd.zn | apply Kd.zo | apply Kd.zq)); exact HO194.out⟩, ⟨by repeat (first | (with_reducible first | exact HB.out | apply zc | apply zb | apply zd) | exact HB.out)⟩⟩
 case round =>
  clear H'
  try clear c1
  try clear p2
  obtain ⟨x3_1, x4_1, rfl, HA, HK1, HO_3, HB⟩ := hrel
  cases gk with
  | zero => exact absurd HA.out (by simp [spec_l5Counts.l0])
  | succ k1 =>
   have H := HA.out
   clear HA
   simp only [spec_l5Counts.l0] at H
   by_cases c4 : x4_1 < (l0.length : Int)
   ·rw [if_pos c4] at H
    have c4b0 : decide (x4_1 < (l0.length : Int)) = true := decide_eq_true c4
    clear c4
    by_cases c5 : 0 ≤ x4_1
    ·rw [if_pos c5] at H
     have c5b0 : decide (0 ≤ x4_1) = true := decide_eq_true c5
     clear c5
     replace H := Option.bind_eq_some_iff.mp H
     obtain ⟨t196, A60, H⟩ := H
     replace H : (if t196 = 7 then (if x4_1 > 0 then (if 0 ≤ (wrap64 (x4_1 - 1)) then (if (wrap64 (x4_1 - 1)) < (x3_1.length : Int) then (if (rd x3_1 (wrap64 (x4_1 - 1))) = 3 then (if x3_1.length < 17592186044416 then (spec_l5Counts.l0 k1 l0 (x3_1 ++ [1]) (wrap64 (x4_1 + 1))) else (none)) else (if (rd x3_1 (wrap64 (x4_1 - 1))) = 4 then (if x3_1.length < 17592186044416 then (spec_l5Counts.l0 k1 l0 (x3_1 ++ [1]) (wrap64 (x4_1 + 1))) else (none)) else (if (rd x3_1 (wrap64 (x4_1 - 1))) = 6 then (if x3_1.length < 17592186044416 then (spec_l5Counts.l0 k1 l0 (x3_1 ++ [1]) (wrap64 (x4_1 + 1))) else (none)) else (if x3_1.length < 17592186044416 then (spec_l5Counts.l0 k1 l0 (x3_1 ++ [rd x3_1 (wrap64 (x4_1 - 1))]) (wrap64 (x4_1 + 1))) else (none))))) else (none)) else (none)) else (if x3_1.length < 17592186044416 then (spec_l5Counts.l0 k1 l0 (x3_1 ++ [1]) (wrap64 (x4_1 + 1))) else (none))) else (if x3_1.length < 17592186044416 then (spec_l5Counts.l0 k1 l0 (x3_1 ++ [t196]) (wrap64 (x4_1 + 1))) else (none))) = some r := H
     have A6 := za.mk A60
     clear A60
     by_cases c7 : t196 = 7
     ·rw [if_pos c7] at H
      have c7b0 : (t196 == 7) = true := beq_iff_eq.mpr c7
      have c7b1 : (t196 != 7) = false := bne_eq_false_iff_eq.mpr c7
      clear c7
      by_cases c8 : x4_1 > 0
      ·rw [if_pos c8] at H
       have c8b0 : decide (0 < x4_1) = true := decide_eq_true c8
       clear c8
       obtain ⟨ji9, hji9⟩ : ∃ j_ : Int, (wrap64 (x4_1 - 1)) = j_ := ⟨_, rfl⟩
       replace H : (if 0 ≤ (ji9) then (if (ji9) < (x3_1.length : Int) then (if (rd x3_1 (ji9)) = 3 then (if x3_1.length < 17592186044416 then (spec_l5Counts.l0 k1 l0 (x3_1 ++ [1]) (wrap64 (x4_1 + 1))) else (none)) else (if (rd x3_1 (ji9)) = 4 then (if x3_1.length < 17592186044416 then (spec_l5Counts.l0 k1 l0 (x3_1 ++ [1]) (wrap64 (x4_1 + 1))) else (none)) else (if (rd x3_1 (ji9)) = 6 then (if x3_1.length < 17592186044416 then (spec_l5Counts.l0 k1 l0 (x3_1 ++ [1]) (wrap64 (x4_1 + 1))) else (none)) else (if x3_1.length < 17592186044416 then (spec_l5Counts.l0 k1 l0 (x3_1 ++ [rd x3_1 (ji9)]) (wrap64 (x4_1 + 1))) else (none))))) else (none)) else (none)) = some r := by first | (rw [hji9] at H; exact H) | (simp only [hji9] at H ⊢; exact H)
       (try rw [hji9] at A6)
       have hji9w : (IntKind.i64.wrap (x4_1 - 1)) = ji9 := (zr _).trans hji9
       by_cases c10 : 0 ≤ (ji9)
       ·rw [if_pos c10] at H
        have c10b0 : decide (0 ≤ (ji9)) = true := decide_eq_true c10
        clear c10
        by_cases c11 : (ji9) < (x3_1.length : Int)
        ·rw [if_pos c11] at H
         have c11b0 : decide ((ji9) < (x3_1.length : Int)) = true := decide_eq_true c11
         clear c11
         by_cases c12 : (rd x3_1 (ji9)) = 3
         ·rw [if_pos c12] at H
          have c12b0 : ((rd x3_1 (ji9)) == 3) = true := beq_iff_eq.mpr c12
          have c12b1 : ((rd x3_1 (ji9)) != 3) = false := bne_eq_false_iff_eq.mpr c12
          clear c12
          by_cases c13 : x3_1.length < 17592186044416
          ·rw [if_pos c13] at H
           have LMc13 := za.mk c13
           clear c13
           obtain ⟨y198, hy198⟩ : ∃ y_ : List Int, y_ = (x3_1 ++ [1]) := ⟨_, rfl⟩
           replace H : (spec_l5Counts.l0 k1 l0 y198 (wrap64 (x4_1 + 1))) = some r := by first | (rw [hy198]; with_reducible exact H) | (have H2_ := (Option.bind_some _ _).symm.trans H; rw [hy198]; with_reducible exact H2_) | (have H2_ := (Option.bind_some _ _).symm.trans H; with_reducible exact H2_) | with_reducible exact H | (rw [hy198]; exact H) | exact H
           have Ny198 := za.mk hy198
           clear hy198
           have H' := za.mk H
           clear H
           have p195 : 0 ≤ (x4_1 : Int) := of_decide_eq_true (by assumption)
           have q195 : x4_1 < (l0.length : Int) := of_decide_eq_true (by assumption)
           obtain ⟨ad195, e195, hx195_0⟩ := Kd.zfa HR0.out x4_1 p195 q195
           cases e195
           replace hx195_0 := (HB.out.cell (World.block_lt_of_cell? w _ hx195_0)).trans hx195_0
           replace p195 := eq_true p195
           replace q195 := eq_true q195
           go_wp2_with (first | ((with_reducible refine zj (f := 37) rfl ?_); refine zgo (some 17) Try.func37 #[.int .i64 (rd l0 x4_1)] rfl ?_; (with_reducible refine (spec_RuneLine.calls k1 (rd l0 x4_1) t196 _ A6.out).mono ?_); rintro e w14 ⟨rfl, hb⟩; refine ⟨_, rfl, ?_⟩; have n0_ := za.mk (Kd.zba (by (with_reducible repeat (first | apply Kd.zn | apply Kd.zo | apply Kd.zq)); exact HO_3.out) hb); have n1_ := za.mk (zg (by repeat (first | (with_reducible first | exact HB.out | apply zc | apply zb | apply zd) | exact HB.out)) hb); clear HO_3; clear HB; have HO_3 := n0_; have HB := n1_; clear n0_ n1_; (try clear hb); (try clear hb2); (try clear hk); (try clear hi); obtain ⟨Ao15, co15, eo15⟩ := Kd.zia HO_3.out; subst eo15; have p197 : 0 ≤ ((ji9) : Int) := of_decide_eq_true (by assumption); have q197 : (ji9) < (x3_1.length : Int) := of_decide_eq_true (by assumption); obtain ⟨ad197, e197, hx197_0⟩ := Kd.zfa (Kd.zt HO_3.out).2.2 (ji9) p197 q197; cases e197; replace p197 := eq_true p197; replace q197 := eq_true q197) | ((with_reducible refine zra (b := .append) (xs := #[.tmp 51, .tmp 53]) rfl ?_); at_builtin; refine Kd.zza (Kd.int .i64) (w0 := w) w.heap.size rfl (.tmp 51) (.tmp 53) 22 3 (.int .i64 0) 8 rfl Try.underlying22 info3 rfl (by decide) (by omega) (.slice (some ad197) x3_1.length co15) x3_1 1 [.int .i64 1] (fun _ => True) (fun _ => False) rfl rfl ?aP (fun _ hk => hk.elim) ?aF ?aO ?aB ?aS ?aL ?_; (case aP => exact rfl); (case aB => exact (by repeat (first | (with_reducible first | exact HB.out | apply zc | apply zb | apply zd) | exact HB.out))); (case aF => exact (fun _ _ => trivial)); (case aO => exact (by (with_reducible repeat (first | apply Kd.zn | apply Kd.zo | apply Kd.zq)); exact HO_3.out)); (case aS => exact (zp (by repeat (first | (with_reducible first | exact HB.out | apply zc | apply zb | apply zd) | exact HB.out)))); (case aL => have := LMc13.out; omega); intro v199 w16 ho hb hg hat; rw [← Ny198.out] at ho; have n0_ := za.mk (hb); have n1_ := za.mk (ho); clear HB; clear HO_3; have HB := n0_; have HO200 := n1_; clear n0_ n1_; clear ho hb hg hat))
           go_roundg k1
           case measure => have := HK1.out; omega
           case rel => exact ⟨(y198), (wrap64 (x4_1 + 1)), (by first | rfl | (simp; done) | (simp [*]; done)), (by first | exact H' | (simp only [hji9]; exact H') | (simp only [hji9]; exact H')), ⟨by have := HK1.out; omega⟩, ⟨by (with_reducible repeat (first | apply Kd.zn | apply Kd.zo | apply Kd.zq)); exact HO200.out⟩, ⟨by repeat (first | (with_reducible first | exact HB.out | apply zc | apply zb | apply zd) | exact HB.out)⟩⟩
          ·rw [if_neg c13] at H
           exact absurd H (by simp)
         ·rw [if_neg c12] at H
          have c12b0 : ((rd x3_1 (ji9)) == 3) = false := beq_eq_false_iff_ne.mpr c12
          have c12b1 : ((rd x3_1 (ji9)) != 3) = true := bne_iff_ne.mpr c12
          by_cases c17 : (rd x3_1 (ji9)) = 4
          ·rw [if_pos c17] at H
           have c17b0 : ((rd x3_1 (ji9)) == 4) = true := beq_iff_eq.mpr c17
           have c17b1 : ((rd x3_1 (ji9)) != 4) = false := bne_eq_false_iff_eq.mpr c17
           clear c17
           by_cases c18 : x3_1.length < 17592186044416
           ·rw [if_pos c18] at H
            have LMc18 := za.mk c18
            clear c18
            obtain ⟨y202, hy202⟩ : ∃ y_ : List Int, y_ = (x3_1 ++ [1]) := ⟨_, rfl⟩
            replace H : (spec_l5Counts.l0 k1 l0 y202 (wrap64 (x4_1 + 1))) = some r := by first | (rw [hy202]; with_reducible exact H) | (have H2_ := (Option.bind_some _ _).symm.trans H; rw [hy202]; with_reducible exact H2_) | (have H2_ := (Option.bind_some _ _).symm.trans H; with_reducible exact H2_) | with_reducible exact H | (rw [hy202]; exact H) | exact H
            have Ny202 := za.mk hy202
            clear hy202
            have H' := za.mk H
            clear H
            have p195 : 0 ≤ (x4_1 : Int) := of_decide_eq_true (by assumption)
            have q195 : x4_1 < (l0.length : Int) := of_decide_eq_true (by assumption)
            obtain ⟨ad195, e195, hx195_0⟩ := Kd.zfa HR0.out x4_1 p195 q195
            cases e195
            replace hx195_0 := (HB.out.cell (World.block_lt_of_cell? w _ hx195_0)).trans hx195_0
            replace p195 := eq_true p195
            replace q195 := eq_true q195
            go_wp2_with (first | ((with_reducible refine zj (f := 37) rfl ?_); refine zgo (some 17) Try.func37 #[.int .i64 (rd l0 x4_1)] rfl ?_; (with_reducible refine (spec_RuneLine.calls k1 (rd l0 x4_1) t196 _ A6.out).mono ?_); rintro e w19 ⟨rfl, hb⟩; refine ⟨_, rfl, ?_⟩; have n0_ := za.mk (Kd.zba (by (with_reducible repeat (first | apply Kd.zn | apply Kd.zo | apply Kd.zq)); exact HO_3.out) hb); have n1_ := za.mk (zg (by repeat (first | (with_reducible first | exact HB.out | apply zc | apply zb | apply zd) | exact HB.out)) hb); clear HO_3; clear HB; have HO_3 := n0_; have HB := n1_; clear n0_ n1_; (try clear hb); (try clear hb2); (try clear hk); (try clear hi); obtain ⟨Ao20, co20, eo20⟩ := Kd.zia HO_3.out; subst eo20; have p197 : 0 ≤ ((ji9) : Int) := of_decide_eq_true (by assumption); have q197 : (ji9) < (x3_1.length : Int) := of_decide_eq_true (by assumption); obtain ⟨ad197, e197, hx197_0⟩ := Kd.zfa (Kd.zt HO_3.out).2.2 (ji9) p197 q197; cases e197; replace p197 := eq_true p197; replace q197 := eq_true q197; have p201 : 0 ≤ ((ji9) : Int) := of_decide_eq_true (by assumption); have q201 : (ji9) < (x3_1.length : Int) := of_decide_eq_true (by assumption); obtain ⟨ad201, e201, hx201_0⟩ := Kd.zfa (Kd.zt HO_3.out).2.2 (ji9) p201 q201; obtain rfl : ad197 = ad201 := (by injection e201); replace p201 := eq_true p201; replace q201 := eq_true q201) | ((with_reducible refine zra (b := .append) (xs := #[.tmp 51, .tmp 53]) rfl ?_); at_builtin; refine Kd.zza (Kd.int .i64) (w0 := w) w.heap.size rfl (.tmp 51) (.tmp 53) 22 3 (.int .i64 0) 8 rfl Try.underlying22 info3 rfl (by decide) (by omega) (.slice (some ad197) x3_1.length co20) x3_1 1 [.int .i64 1] (fun _ => True) (fun _ => False) rfl rfl ?aP (fun _ hk => hk.elim) ?aF ?aO ?aB ?aS ?aL ?_; (case aP => exact rfl); (case aB => exact (by repeat (first | (with_reducible first | exact HB.out | apply zc | apply zb | apply zd) | exact HB.out))); (case aF => exact (fun _ _ => trivial)); (case aO => exact (by (with_reducible repeat (first | apply Kd.zn | apply Kd.zo | apply Kd.zq)); exact HO_3.out)); (case aS => exact (zp (by repeat (first | (with_reducible first | exact HB.out | apply zc | apply zb | apply zd) | exact HB.out)))); (case aL => have := LMc18.out; omega); intro v203 w21 ho hb hg hat; rw [← Ny202.out] at ho; have n0_ := za.mk (hb); have n1_ := za.mk (ho); clear HB; clear HO_3; have HB := n0_; have HO204 := n1_; clear n0_ n1_; clear ho hb hg hat))
            go_roundg k1
            case measure => have := HK1.out; omega
            case rel => exact ⟨(y202), (wrap64 (x4_1 + 1)), (by first | rfl | (simp; done) | (simp [*]; done)), (by first | exact H' | (simp only [hji9]; exact H') | (simp only [hji9]; exact H')), ⟨by have := HK1.out; omega⟩, ⟨by (with_reducible repeat (first | apply Kd.zn | apply Kd.zo | apply Kd.zq)); exact HO204.out⟩, ⟨by repeat (first | (with_reducible first | exact HB.out | apply zc | apply zb | apply zd) | exact HB.out)⟩⟩
           ·rw [if_neg c18] at H
            exact absurd H (by simp)
          ·rw [if_neg c17] at H
           have c17b0 : ((rd x3_1 (ji9)) == 4) = false := beq_eq_false_iff_ne.mpr c17
           have c17b1 : ((rd x3_1 (ji9)) != 4) = true := bne_iff_ne.mpr c17
           by_cases c22 : (rd x3_1 (ji9)) = 6
           ·rw [if_pos c22] at H
            have c22b0 : ((rd x3_1 (ji9)) == 6) = true := beq_iff_eq.mpr c22
            have c22b1 : ((rd x3_1 (ji9)) != 6) = false := bne_eq_false_iff_eq.mpr c22
            clear c22
            by_cases c23 : x3_1.length < 17592186044416
            ·rw [if_pos c23] at H
             have LMc23 := za.mk c23
             clear c23
             obtain ⟨y206, hy206⟩ : ∃ y_ : List Int, y_ = (x3_1 ++ [1]) := ⟨_, rfl⟩
             replace H : (spec_l5Counts.l0 k1 l0 y206 (wrap64 (x4_1 + 1))) = some r := by first | (rw [hy206]; with_reducible exact H) | (have H2_ := (Option.bind_some _ _).symm.trans H; rw [hy206]; with_reducible exact H2_) | (have H2_ := (Option.bind_some _ _).symm.trans H; with_reducible exact H2_) | with_reducible exact H | (rw [hy206]; exact H) | exact H
             have Ny206 := za.mk hy206
             clear hy206
             have H' := za.mk H
             clear H
             have p195 : 0 ≤ (x4_1 : Int) := of_decide_eq_true (by assumption)
             have q195 : x4_1 < (l0.length : Int) := of_decide_eq_true (by assumption)
             obtain ⟨ad195, e195, hx195_0⟩ := Kd.zfa HR0.out x4_1 p195 q195
             cases e195
             replace hx195_0 := (HB.out.cell (World.block_lt_of_cell? w _ hx195_0)).trans hx195_0
             replace p195 := eq_true p195
             replace q195 := eq_true q195
             go_wp2_with (first | ((with_reducible refine zj (f := 37) rfl ?_); refine zgo (some 17) Try.func37 #[.int .i64 (rd l0 x4_1)] rfl ?_; (with_reducible refine (spec_RuneLine.calls k1 (rd l0 x4_1) t196 _ A6.out).mono ?_); rintro e w24 ⟨rfl, hb⟩; refine ⟨_, rfl, ?_⟩; have n0_ := za.mk (Kd.zba (by (with_reducible repeat (first | apply Kd.zn | apply Kd.zo | apply Kd.zq)); exact HO_3.out) hb); have n1_ := za.mk (zg (by repeat (first | (with_reducible first | exact HB.out | apply zc | apply zb | apply zd) | exact HB.out)) hb); clear HO_3; clear HB; have HO_3 := n0_; have HB := n1_; clear n0_ n1_; (try clear hb); (try clear hb2); (try clear hk); (try clear hi); obtain ⟨Ao25, co25, eo25⟩ := Kd.zia HO_3.out; subst eo25; have p197 : 0 ≤ ((ji9) : Int) := of_decide_eq_true (by assumption); have q197 : (ji9) < (x3_1.length : Int) := of_decide_eq_true (by assumption); obtain ⟨ad197, e197, hx197_0⟩ := Kd.zfa (Kd.zt HO_3.out).2.2 (ji9) p197 q197; cases e197; replace p197 := eq_true p197; replace q197 := eq_true q197; have p201 : 0 ≤ ((ji9) : Int) := of_decide_eq_true (by assumption); have q201 : (ji9) < (x3_1.length : Int) := of_decide_eq_true (by assumption); obtain ⟨ad201, e201, hx201_0⟩ := Kd.zfa (Kd.zt HO_3.out).2.2 (ji9) p201 q201; obtain rfl : ad197 = ad201 := (by injection e201); replace p201 := eq_true p201; replace q201 := eq_true q201; have p205 : 0 ≤ ((ji9) : Int) := of_decide_eq_true (by assumption); have q205 : (ji9) < (x3_1.length : Int) := of_decide_eq_true (by assumption); obtain ⟨ad205, e205, hx205_0⟩ := Kd.zfa (Kd.zt HO_3.out).2.2 (ji9) p205 q205; obtain rfl : ad197 = ad205 := (by injection e205); replace p205 := eq_true p205; replace q205 := eq_true q205) | ((with_reducible refine zra (b := .append) (xs := #[.tmp 51, .tmp 53]) rfl ?_); at_builtin; refine Kd.zza (Kd.int .i64) (w0 := w) w.heap.size rfl (.tmp 51) (.tmp 53) 22 3 (.int .i64 0) 8 rfl Try.underlying22 info3 rfl (by decide) (by omega) (.slice (some ad197) x3_1.length co25) x3_1 1 [.int .i64 1] (fun _ => True) (fun _ => False) rfl rfl ?aP (fun _ hk => hk.elim) ?aF ?aO ?aB ?aS ?aL ?_; (case aP => exact rfl); (case aB => exact (by repeat (first | (with_reducible first | exact HB.out | apply zc | apply zb | apply zd) | exact HB.out))); (case aF => exact (fun _ _ => trivial)); (case aO => exact (by (with_reducible repeat (first | apply Kd.zn | apply Kd.zo | apply Kd.zq)); exact HO_3.out)); (case aS => exact (zp (by repeat (first | (with_reducible first | exact HB.out | apply zc | apply zb | apply zd) | exact HB.out)))); (case aL => have := LMc23.out; omega); intro v207 w26 ho hb hg hat; rw [← Ny206.out] at ho; have n0_ := za.mk (hb); have n1_ := za.mk (ho); clear HB; clear HO_3; have HB := n0_; have HO208 := n1_; clear n0_ n1_; clear ho hb hg hat))
             go_roundg k1
             case measure => have := HK1.out; omega
             case rel => exact ⟨(y206), (wrap64 (x4_1 + 1)), (by first | rfl | (simp; done) | (simp [*]; done)), (by first | exact H' | (simp only [hji9]; exact H') | (simp only [hji9]; exact H')), ⟨by have := HK1.out; omega⟩, ⟨by (with_reducible repeat (first | apply Kd.zn | apply Kd.zo | apply Kd.zq)); exact HO208.out⟩, ⟨by repeat (first | (with_reducible first | exact HB.out | apply zc | apply zb | apply zd) | exact HB.out)⟩⟩
            ·rw [if_neg c23] at H
             exact absurd H (by simp)
           ·rw [if_neg c22] at H
            have c22b0 : ((rd x3_1 (ji9)) == 6) = false := beq_eq_false_iff_ne.mpr c22
            have c22b1 : ((rd x3_1 (ji9)) != 6) = true := bne_iff_ne.mpr c22
            by_cases c27 : x3_1.length < 17592186044416
            ·rw [if_pos c27] at H
             have LMc27 := za.mk c27
             clear c27
             obtain ⟨y210, hy210⟩ : ∃ y_ : List Int, y_ = (x3_1 ++ [rd x3_1 (ji9)]) := ⟨_, rfl⟩
             replace H : (spec_l5Counts.l0 k1 l0 y210 (wrap64 (x4_1 + 1))) = some r := by first | (rw [hy210]; with_reducible exact H) | (have H2_ := (Option.bind_some _ _).symm.trans H; rw [hy210]; with_reducible exact H2_) | (have H2_ := (Option.bind_some _ _).symm.trans H; with_reducible exact H2_) | with_reducible exact H | (rw [hy210]; exact H) | exact H
             have Ny210 := za.mk hy210
             clear hy210
             have H' := za.mk H
             clear H
             have p195 : 0 ≤ (x4_1 : Int) := of_decide_eq_true (by assumption)
             have q195 : x4_1 < (l0.length : Int) := of_decide_eq_true (by assumption)
             obtain ⟨ad195, e195, hx195_0⟩ := Kd.zfa HR0.out x4_1 p195 q195
             cases e195
             replace hx195_0 := (HB.out.cell (World.block_lt_of_cell? w _ hx195_0)).trans hx195_0
             replace p195 := eq_true p195
             replace q195 := eq_true q195
             go_wp2_with (first | ((with_reducible refine zj (f := 37) rfl ?_); refine zgo (some 17) Try.func37 #[.int .i64 (rd l0 x4_1)] rfl ?_; (with_reducible refine (spec_RuneLine.calls k1 (rd l0 x4_1) t196 _ A6.out).mono ?_); rintro e w28 ⟨rfl, hb⟩; refine ⟨_, rfl, ?_⟩; have n0_ := za.mk (Kd.zba (by (with_reducible repeat (first | apply Kd.zn | apply Kd.zo | apply Kd.zq)); exact HO_3.out) hb); have n1_ := za.mk (zg (by repeat (first | (with_reducible first | exact HB.out | apply zc | apply zb | apply zd) | exact HB.out)) hb); clear HO_3; clear HB; have HO_3 := n0_; have HB := n1_; clear n0_ n1_; (try clear hb); (try clear hb2); (try clear hk); (try clear hi); obtain ⟨Ao29, co29, eo29⟩ := Kd.zia HO_3.out; subst eo29; have p197 : 0 ≤ ((ji9) : Int) := of_decide_eq_true (by assumption); have q197 : (ji9) < (x3_1.length : Int) := of_decide_eq_true (by assumption); obtain ⟨ad197, e197, hx197_0⟩ := Kd.zfa (Kd.zt HO_3.out).2.2 (ji9) p197 q197; cases e197; replace p197 := eq_true p197; replace q197 := eq_true q197; have p201 : 0 ≤ ((ji9) : Int) := of_decide_eq_true (by assumption); have q201 : (ji9) < (x3_1.length : Int) := of_decide_eq_true (by assumption); obtain ⟨ad201, e201, hx201_0⟩ := Kd.zfa (Kd.zt HO_3.out).2.2 (ji9) p201 q201; obtain rfl : ad197 = ad201 := (by injection e201); replace p201 := eq_true p201; replace q201 := eq_true q201; have p205 : 0 ≤ ((ji9) : Int) := of_decide_eq_true (by assumption); have q205 : (ji9) < (x3_1.length : Int) := of_decide_eq_true (by assumption); obtain ⟨ad205, e205, hx205_0⟩ := Kd.zfa (Kd.zt HO_3.out).2.2 (ji9) p205 q205; obtain rfl : ad197 = ad205 := (by injection e205); replace p205 := eq_true p205; replace q205 := eq_true q205; have p209 : 0 ≤ ((ji9) : Int) := of_decide_eq_true (by assumption); have q209 : (ji9) < (x3_1.length : Int) := of_decide_eq_true (by assumption); obtain ⟨ad209, e209, hx209_0⟩ := Kd.zfa (Kd.zt HO_3.out).2.2 (ji9) p209 q209; obtain rfl : ad197 = ad209 := (by injection e209); replace p209 := eq_true p209; replace q209 := eq_true q209) | ((with_reducible refine zra (b := .append) (xs := #[.tmp 51, .tmp 53]) rfl ?_); at_builtin; refine Kd.zza (Kd.int .i64) (w0 := w) w.heap.size rfl (.tmp 51) (.tmp 53) 22 3 (.int .i64 0) 8 rfl Try.underlying22 info3 rfl (by decide) (by omega) (.slice (some ad197) x3_1.length co29) x3_1 (rd x3_1 (ji9)) [.int .i64 (rd x3_1 (ji9))] (fun _ => True) (fun _ => False) rfl rfl ?aP (fun _ hk => hk.elim) ?aF ?aO ?aB ?aS ?aL ?_; (case aP => exact rfl); (case aB => exact (by repeat (first | (with_reducible first | exact HB.out | apply zc | apply zb | apply zd) | exact HB.out))); (case aF => exact (fun _ _ => trivial)); (case aO => exact (by (with_reducible repeat (first | apply Kd.zn | apply Kd.zo | apply Kd.zq)); exact HO_3.out)); (case aS => exact (zp (by repeat (first | (with_reducible first | exact HB.out | apply zc | apply zb | apply zd) | exact HB.out)))); (case aL => have := LMc27.out; omega); intro v211 w30 ho hb hg hat; rw [← Ny210.out] at ho; have n0_ := za.mk (hb); have n1_ := za.mk (ho); clear HB; clear HO_3; have HB := n0_; have HO212 := n1_; clear n0_ n1_; clear ho hb hg hat))
             go_roundg k1
             case measure => have := HK1.out; omega
             case rel => exact ⟨(y210), (wrap64 (x4_1 + 1)), (by first | rfl | (simp; done) | (simp [*]; done)), (by first | exact H' | (simp only [hji9]; exact H') | (simp only [hji9]; exact H')), ⟨by have := HK1.out; omega⟩, ⟨by (with_reducible repeat (first | apply Kd.zn | apply Kd.zo | apply Kd.zq)); exact HO212.out⟩, ⟨by repeat (first | (with_reducible first | exact HB.out | apply zc | apply zb | apply zd) | exact HB.out)⟩⟩
            ·rw [if_neg c27] at H
             exact absurd H (by simp)
        ·rw [if_neg c11] at H
         exact absurd H (by simp)
       ·rw [if_neg c10] at H
        exact absurd H (by simp)
      ·rw [if_neg c8] at H
       have c8b0 : decide (0 < x4_1) = false := decide_eq_false c8
       clear c8
       by_cases c31 : x3_1.length < 17592186044416
       ·rw [if_pos c31] at H
        have LMc31 := za.mk c31
        clear c31
        obtain ⟨y213, hy213⟩ : ∃ y_ : List Int, y_ = (x3_1 ++ [1]) := ⟨_, rfl⟩
        replace H : (spec_l5Counts.l0 k1 l0 y213 (wrap64 (x4_1 + 1))) = some r := by first | (rw [hy213]; with_reducible exact H) | (have H2_ := (Option.bind_some _ _).symm.trans H; rw [hy213]; with_reducible exact H2_) | (have H2_ := (Option.bind_some _ _).symm.trans H; with_reducible exact H2_) | with_reducible exact H | (rw [hy213]; exact H) | exact H
        have Ny213 := za.mk hy213
        clear hy213
        have H' := za.mk H
        clear H
        have p195 : 0 ≤ (x4_1 : Int) := of_decide_eq_true (by assumption)
        have q195 : x4_1 < (l0.length : Int) := of_decide_eq_true (by assumption)
        obtain ⟨ad195, e195, hx195_0⟩ := Kd.zfa HR0.out x4_1 p195 q195
        cases e195
        replace hx195_0 := (HB.out.cell (World.block_lt_of_cell? w _ hx195_0)).trans hx195_0
        replace p195 := eq_true p195
        replace q195 := eq_true q195
        go_wp2_with (first | ((with_reducible refine zj (f := 37) rfl ?_); refine zgo (some 17) Try.func37 #[.int .i64 (rd l0 x4_1)] rfl ?_; (with_reducible refine (spec_RuneLine.calls k1 (rd l0 x4_1) t196 _ A6.out).mono ?_); rintro e w32 ⟨rfl, hb⟩; refine ⟨_, rfl, ?_⟩; have n0_ := za.mk (Kd.zba (by (with_reducible repeat (first | apply Kd.zn | apply Kd.zo | apply Kd.zq)); exact HO_3.out) hb); have n1_ := za.mk (zg (by repeat (first | (with_reducible first | exact HB.out | apply zc | apply zb | apply zd) | exact HB.out)) hb); clear HO_3; clear HB; have HO_3 := n0_; have HB := n1_; clear n0_ n1_; (try clear hb); (try clear hb2); (try clear hk); (try clear hi)) | ((with_reducible refine zra (b := .append) (xs := #[.tmp 51, .tmp 53]) rfl ?_); at_builtin; refine Kd.zza (Kd.int .i64) (w0 := w) w.heap.size rfl (.tmp 51) (.tmp 53) 22 3 (.int .i64 0) 8 rfl Try.underlying22 info3 rfl (by decide) (by omega) u3 x3_1 1 [.int .i64 1] (fun _ => True) (fun _ => False) rfl rfl ?aP (fun _ hk => hk.elim) ?aF ?aO ?aB ?aS ?aL ?_; (case aP => exact rfl); (case aB => exact (by repeat (first | (with_reducible first | exact HB.out | apply zc | apply zb | apply zd) | exact HB.out))); (case aF => exact (fun _ _ => trivial)); (case aO => exact (by (with_reducible repeat (first | apply Kd.zn | apply Kd.zo | apply Kd.zq)); exact HO_3.out)); (case aS => exact (zp (by repeat (first | (with_reducible first | exact HB.out | apply zc | apply zb | apply zd) | exact HB.out)))); (case aL => have := LMc31.out; omega); intro v214 w33 ho hb hg hat; rw [← Ny213.out] at ho; have n0_ := za.mk (hb); have n1_ := za.mk (ho); clear HB; clear HO_3; have HB := n0_; have HO215 := n1_; clear n0_ n1_; clear ho hb hg hat))
        go_roundg k1
        case measure => have := HK1.out; omega
        case rel => exact ⟨(y213), (wrap64 (x4_1 + 1)), (by first | rfl | (simp; done) | (simp [*]; done)), (by first | exact H' | (simp only [hji9]; exact H') | (simp only [hji9]; exact H')), ⟨by have := HK1.out; omega⟩, ⟨by (with_reducible repeat (first | apply Kd.zn | apply Kd.zo | apply Kd.zq)); exact HO215.out⟩, ⟨by repeat (first | (with_reducible first | exact HB.out | apply zc | apply zb | apply zd) | exact HB.out)⟩⟩
       ·rw [if_neg c31] at H
        exact absurd H (by simp)
     ·rw [if_neg c7] at H
      have c7b0 : (t196 == 7) = false := beq_eq_false_iff_ne.mpr c7
      have c7b1 : (t196 != 7) = true := bne_iff_ne.mpr c7
      by_cases c34 : x3_1.length < 17592186044416
      ·rw [if_pos c34] at H
       have LMc34 := za.mk c34
       clear c34
       obtain ⟨y216, hy216⟩ : ∃ y_ : List Int, y_ = (x3_1 ++ [t196]) := ⟨_, rfl⟩
       replace H : (spec_l5Counts.l0 k1 l0 y216 (wrap64 (x4_1 + 1))) = some r := by first | (rw [hy216]; with_reducible exact H) | (have H2_ := (Option.bind_some _ _).symm.trans H; rw [hy216]; with_reducible exact H2_) | (have H2_ := (Option.bind_some _ _).symm.trans H; with_reducible exact H2_) | with_reducible exact H | (rw [hy216]; exact H) | exact H
       have Ny216 := za.mk hy216
       clear hy216
       have H' := za.mk H
       clear H
       have p195 : 0 ≤ (x4_1 : Int) := of_decide_eq_true (by assumption)
       have q195 : x4_1 < (l0.length : Int) := of_decide_eq_true (by assumption)
       obtain ⟨ad195, e195, hx195_0⟩ := Kd.zfa HR0.out x4_1 p195 q195
       cases e195
       replace hx195_0 := (HB.out.cell (World.block_lt_of_cell? w _ hx195_0)).trans hx195_0
       replace p195 := eq_true p195
       replace q195 := eq_true q195
       go_wp2_with (first | ((with_reducible refine zj (f := 37) rfl ?_); refine zgo (some 17) Try.func37 #[.int .i64 (rd l0 x4_1)] rfl ?_; (with_reducible refine (spec_RuneLine.calls k1 (rd l0 x4_1) t196 _ A6.out).mono ?_); rintro e w35 ⟨rfl, hb⟩; refine ⟨_, rfl, ?_⟩; have n0_ := za.mk (Kd.zba (by (with_reducible repeat (first | apply Kd.zn | apply Kd.zo | apply Kd.zq)); exact HO_3.out) hb); have n1_ := za.mk (zg (by repeat (first | (with_reducible first | exact HB.out | apply zc | apply zb | apply zd) | exact HB.out)) hb); clear HO_3; clear HB; have HO_3 := n0_; have HB := n1_; clear n0_ n1_; (try clear hb); (try clear hb2); (try clear hk); (try clear hi)) | ((with_reducible refine zra (b := .append) (xs := #[.tmp 51, .tmp 53]) rfl ?_); at_builtin; refine Kd.zza (Kd.int .i64) (w0 := w) w.heap.size rfl (.tmp 51) (.tmp 53) 22 3 (.int .i64 0) 8 rfl Try.underlying22 info3 rfl (by decide) (by omega) u3 x3_1 t196 [.int .i64 t196] (fun _ => True) (fun _ => False) rfl rfl ?aP (fun _ hk => hk.elim) ?aF ?aO ?aB ?aS ?aL ?_; (case aP => exact rfl); (case aB => exact (by repeat (first | (with_reducible first | exact HB.out | apply zc | apply zb | apply zd) | exact HB.out))); (case aF => exact (fun _ _ => trivial)); (case aO => exact (by (with_reducible repeat (first | apply Kd.zn | apply Kd.zo | apply Kd.zq)); exact HO_3.out)); (case aS => exact (zp (by repeat (first | (with_reducible first | exact HB.out | apply zc | apply zb | apply zd) | exact HB.out)))); (case aL => have := LMc34.out; omega); intro v217 w36 ho hb hg hat; rw [← Ny216.out] at ho; have n0_ := za.mk (hb); have n1_ := za.mk (ho); clear HB; clear HO_3; have HB := n0_; have HO218 := n1_; clear n0_ n1_; clear ho hb hg hat))
       go_roundg k1
       case measure => have := HK1.out; omega
       case rel => exact ⟨(y216), (wrap64 (x4_1 + 1)), (by first | rfl | (simp; done) | (simp [*]; done)), (by first | exact H' | (simp only [hji9]; exact H') | (simp only [hji9]; exact H')), ⟨by have := HK1.out; omega⟩, ⟨by (with_reducible repeat (first | apply Kd.zn | apply Kd.zo | apply Kd.zq)); exact HO218.out⟩, ⟨by repeat (first | (with_reducible first | exact HB.out | apply zc | apply zb | apply zd) | exact HB.out)⟩⟩
      ·rw [if_neg c34] at H
       exact absurd H (by simp)
    ·rw [if_neg c5] at H
     exact absurd H (by simp)
   ·rw [if_neg c4] at H
    have c4b0 : decide (x4_1 < (l0.length : Int)) = false := decide_eq_false c4
    clear c4
    obtain rfl := Option.some.inj H
    go_wp2
    go_ret
    exact ⟨_, by first | rfl | (simp [zh, zi] <;> rfl) | (simp [*, zh, zi] <;> rfl), by (with_reducible repeat (first | apply Kd.zn | apply Kd.zo | apply Kd.zq)); exact HO_3.out, by repeat (first | (with_reducible first | exact HB.out | apply zc | apply zb | apply zd) | exact HB.out)⟩
def spec_l5Before.l0 : Nat → List Int → Int → Option (Int)
 | 0, _, _ => none
 | k + 1, x0, x1 => if x1 ≥ 0 then (if 0 ≤ x1 then (if x1 < (x0.length : Int) then (if (rd x0 x1) = 3 then (spec_l5Before.l0 k x0 (wrap64 (x1 - 1))) else (some x1)) else (none)) else (none)) else (some x1)
def spec_l5Before.f (k : Nat) (l0 : List Int) (a1 : Int) : Option (Int) := spec_l5Before.l0 k l0 a1
theorem spec_l5Before.calls (k : Nat) (A0 : Option Addr) (c0 : Nat) (l0 : List Int) (a1 : Int) (r : Int) (w : World) (hr0 : Kd.C (Kd.int .i64) w A0 l0.length l0) (hc0 : l0.length ≤ c0) (h : spec_l5Before.f k l0 a1 = some r) :
  Calls Try.prog 113 #[.slice A0 l0.length c0, .int .i64 a1] w fun e w' => e = .returned (.int .i64 r) ∧ zm w w' := by
 have HR0 := za.mk hr0
 have HC0 := za.mk hc0
 clear hr0 hc0
 have H : (spec_l5Before.l0 k l0 a1) = some r := h
 clear h
 have H' := za.mk H
 clear H
 go_enter Try.func113, Try.ntmps113
 go_wp2
 go_loopg [1] k (fun kq v1 w' => ∃ (x1_1 : Int), v1 = .int .i64 x1_1 ∧ za (spec_l5Before.l0 kq l0 x1_1 = some r) ∧ za (kq ≤ k) ∧ zm w w')
 case atStart => exact ⟨(a1), (by first | rfl | (simp; done) | (simp [*]; done)), H', ⟨Nat.le_refl _⟩, by repeat (first | exact zm.refl _ | apply zm.step)⟩
 case round =>
  clear H'
  try clear c1
  try clear p2
  obtain ⟨x1_1, rfl, HA, HK1, ⟨m1, rfl⟩⟩ := hrel
  cases gk with
  | zero => exact absurd HA.out (by simp [spec_l5Before.l0])
  | succ k1 =>
   have H := HA.out
   clear HA
   simp only [spec_l5Before.l0] at H
   by_cases c3 : x1_1 ≥ 0
   ·rw [if_pos c3] at H
    have c3b0 : decide (0 ≤ x1_1) = true := decide_eq_true c3
    clear c3
    by_cases c4 : 0 ≤ x1_1
    ·rw [if_pos c4] at H
     have c4b0 : decide (0 ≤ x1_1) = true := decide_eq_true c4
     clear c4
     by_cases c5 : x1_1 < (l0.length : Int)
     ·rw [if_pos c5] at H
      have c5b0 : decide (x1_1 < (l0.length : Int)) = true := decide_eq_true c5
      clear c5
      by_cases c6 : (rd l0 x1_1) = 3
      ·rw [if_pos c6] at H
       have c6b0 : ((rd l0 x1_1) == 3) = true := beq_iff_eq.mpr c6
       have c6b1 : ((rd l0 x1_1) != 3) = false := bne_eq_false_iff_eq.mpr c6
       clear c6
       have H' := za.mk H
       clear H
       have p219 : 0 ≤ (x1_1 : Int) := of_decide_eq_true (by assumption)
       have q219 : x1_1 < (l0.length : Int) := of_decide_eq_true (by assumption)
       obtain ⟨ad219, e219, hx219_0⟩ := Kd.zfa HR0.out x1_1 p219 q219
       cases e219
       replace p219 := eq_true p219
       replace q219 := eq_true q219
       go_wp2
       go_roundg k1
       case measure => have := HK1.out; omega
       case rel => exact ⟨(wrap64 (x1_1 - 1)), (by first | rfl | (simp; done) | (simp [*]; done)), H', ⟨by have := HK1.out; omega⟩, by repeat (first | exact zm.refl _ | apply zm.step)⟩
      ·rw [if_neg c6] at H
       have c6b0 : ((rd l0 x1_1) == 3) = false := beq_eq_false_iff_ne.mpr c6
       have c6b1 : ((rd l0 x1_1) != 3) = true := bne_iff_ne.mpr c6
       obtain rfl := Option.some.inj H
       have p219 : 0 ≤ (x1_1 : Int) := of_decide_eq_true (by assumption)
       have q219 : x1_1 < (l0.length : Int) := of_decide_eq_true (by assumption)
       obtain ⟨ad219, e219, hx219_0⟩ := Kd.zfa HR0.out x1_1 p219 q219
       cases e219
       replace p219 := eq_true p219
       replace q219 := eq_true q219
       go_wp2
       go_ret
       exact ⟨by first | rfl | (simp; done) | (simp [*]; done), by repeat (first | exact zm.refl _ | apply zm.step)⟩
     ·rw [if_neg c5] at H
      exact absurd H (by simp)
    ·rw [if_neg c4] at H
     exact absurd H (by simp)
   ·rw [if_neg c3] at H
    have c3b0 : decide (0 ≤ x1_1) = false := decide_eq_false c3
    clear c3
    obtain rfl := Option.some.inj H
    go_wp2
    go_ret
    exact ⟨by first | rfl | (simp; done) | (simp [*]; done), by repeat (first | exact zm.refl _ | apply zm.step)⟩
def spec_l5Never.f (a0 : Int) : Option (Bool) := if a0 = 9 then (some true) else (if a0 = 10 then (some true) else (some (a0 == 13)))
theorem spec_l5Never.calls (a0 : Int) (r : Bool) (w : World) (h : spec_l5Never.f a0 = some r) :
  Calls Try.prog 130 #[.int .i64 a0] w fun e w' => e = .returned (.bool r) ∧ zm w w' := by
 have H : (if a0 = 9 then (some true) else (if a0 = 10 then (some true) else (some (a0 == 13)))) = some r := h
 clear h
 by_cases c2 : a0 = 9
 ·rw [if_pos c2] at H
  have c2b0 : (a0 == 9) = true := beq_iff_eq.mpr c2
  have c2b1 : (a0 != 9) = false := bne_eq_false_iff_eq.mpr c2
  clear c2
  obtain rfl := Option.some.inj H
  go_enter Try.func130, Try.ntmps130
  go_wp2
  go_ret
  exact ⟨by first | rfl | (simp; done) | (simp [*]; done), by repeat (first | exact zm.refl _ | apply zm.step)⟩
 ·rw [if_neg c2] at H
  have c2b0 : (a0 == 9) = false := beq_eq_false_iff_ne.mpr c2
  have c2b1 : (a0 != 9) = true := bne_iff_ne.mpr c2
  by_cases c3 : a0 = 10
  ·rw [if_pos c3] at H
   have c3b0 : (a0 == 10) = true := beq_iff_eq.mpr c3
   have c3b1 : (a0 != 10) = false := bne_eq_false_iff_eq.mpr c3
   clear c3
   obtain rfl := Option.some.inj H
   go_enter Try.func130, Try.ntmps130
   go_wp2
   go_ret
   exact ⟨by first | rfl | (simp; done) | (simp [*]; done), by repeat (first | exact zm.refl _ | apply zm.step)⟩
  ·rw [if_neg c3] at H
   have c3b0 : (a0 == 10) = false := beq_eq_false_iff_ne.mpr c3
   have c3b1 : (a0 != 10) = true := bne_iff_ne.mpr c3
   obtain rfl := Option.some.inj H
   go_enter Try.func130, Try.ntmps130
   go_wp2
   go_ret
   exact ⟨by first | rfl | (simp; done) | (simp [*]; done), by repeat (first | exact zm.refl _ | apply zm.step)⟩
def spec_l5Word.f (a0 : Int) : Option (Bool) := if a0 = 1 then (some true) else (some (a0 == 2))
theorem spec_l5Word.calls (a0 : Int) (r : Bool) (w : World) (h : spec_l5Word.f a0 = some r) :
  Calls Try.prog 162 #[.int .i64 a0] w fun e w' => e = .returned (.bool r) ∧ zm w w' := by
 have H : (if a0 = 1 then (some true) else (some (a0 == 2))) = some r := h
 clear h
 by_cases c2 : a0 = 1
 ·rw [if_pos c2] at H
  have c2b0 : (a0 == 1) = true := beq_iff_eq.mpr c2
  have c2b1 : (a0 != 1) = false := bne_eq_false_iff_eq.mpr c2
  clear c2
  obtain rfl := Option.some.inj H
  go_enter Try.func162, Try.ntmps162
  go_wp2
  go_ret
  exact ⟨by first | rfl | (simp; done) | (simp [*]; done), by repeat (first | exact zm.refl _ | apply zm.step)⟩
 ·rw [if_neg c2] at H
  have c2b0 : (a0 == 1) = false := beq_eq_false_iff_ne.mpr c2
  have c2b1 : (a0 != 1) = true := bne_iff_ne.mpr c2
  obtain rfl := Option.some.inj H
  go_enter Try.func162, Try.ntmps162
  go_wp2
  go_ret
  exact ⟨by first | rfl | (simp; done) | (simp [*]; done), by repeat (first | exact zm.refl _ | apply zm.step)⟩
end Go.Proofs.Ytmjhdgofepdgkaa.PFnExactFillCost
