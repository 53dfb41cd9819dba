-- Written by a program of this session (wip/tools) out of the translation; its shape is that of the kit print.
import Derived.Test.YtmjhdgofepdgkaaPFnWidesx0
import Derived.Test.YtmjhdgofepdgkaaPFnWidesx11
namespace Go.Proofs.Ytmjhdgofepdgkaa.PFnWides
open Go.RowKit Go.Proofs.YtmjhdgofepdgkaaW.PrintWords Go.Proofs.YtmjhdgofepdgkaaW.PrintLast Go.Proofs.YtmjhdgofepdgkaaW.PrintMore
attribute [local go_sem] zlb znb zvb zwb zbb zcb zob zqb
set_option linter.unusedVariables false
set_option maxHeartbeats 8000000
set_option maxRecDepth 100000
set_option linter.unusedSimpArgs false
mutual
def spec_l13Spans.l0 : Nat → Int → List (S40) → Int → List Int → Int → Option ((List (S40)) × Int)
 | 0, _, _, _, _, _ => none
 | k + 1, x1, x5, x6, x1000, x1001 => if x6 < x1 then (if (x5.length : Int) < 12 then ((spec_l1Rd_pick.f k x1000 x1001 8).bind fun bt350 => (spec_l13Spans.j1 k x1 x5 x6 (decide (bt350.1 > 0)) x1000 bt350.2)) else (spec_l13Spans.j1 k x1 x5 x6 false x1000 x1001)) else (spec_l13Spans.j1 k x1 x5 x6 false x1000 x1001)
def spec_l13Spans.j1 : Nat → Int → List (S40) → Int → Bool → List Int → Int → Option ((List (S40)) × Int)
 | 0, _, _, _, _, _, _ => none
 | k + 1, x1, x5, x6, x23, x1000, x1001 => if x23 = true then ((spec_l1Rd_pick.f k x1000 x1001 5).bind fun bt352 => (if (wrap64 ((wrap64 (x6 + 1)) + bt352.1)) > x1 then ((some (([10, 5, 20, 40, 1] : List Int) : List Int)).bind fun y354 => ((spec_l1Rd_pick.f k x1000 bt352.2 5).bind fun bt357 => (if 0 ≤ bt357.1 then (if bt357.1 < (y354.length : Int) then ((spec_l1Rd_pick.f k x1000 bt357.2 3).bind fun bt360 => (if x5.length < 4398046511104 then ((spec_l1Rd_pick.f k x1000 bt360.2 3).bind fun bt365 => (spec_l13Spans.l0 k x1 (x5 ++ [(⟨x6, x1, rd y354 bt357.1, bt360.1⟩ : S40)]) (wrap64 (x1 + bt365.1)) x1000 bt365.2)) else (none))) else (none)) else (none)))) else ((some (([10, 5, 20, 40, 1] : List Int) : List Int)).bind fun y367 => ((spec_l1Rd_pick.f k x1000 bt352.2 5).bind fun bt370 => (if 0 ≤ bt370.1 then (if bt370.1 < (y367.length : Int) then ((spec_l1Rd_pick.f k x1000 bt370.2 3).bind fun bt373 => (if x5.length < 4398046511104 then ((spec_l1Rd_pick.f k x1000 bt373.2 3).bind fun bt378 => (spec_l13Spans.l0 k x1 (x5 ++ [(⟨x6, wrap64 ((wrap64 (x6 + 1)) + bt352.1), rd y367 bt370.1, bt373.1⟩ : S40)]) (wrap64 ((wrap64 ((wrap64 (x6 + 1)) + bt352.1)) + bt378.1)) x1000 bt378.2)) else (none))) else (none)) else (none)))))) else (some (x5, x1001))
end
def spec_l13Spans.f (k : Nat) (s0_0 : List Int) (s0_1 : Int) (a1 : Int) : Option ((List (S40)) × Int) := (spec_l1Rd_pick.f k s0_0 s0_1 4).bind fun bt348 => (spec_l13Spans.l0 k a1 (([] : List (S40))) bt348.1 s0_0 bt348.2)
def spec_l13Spans.T7 : Bool × List (List Nat × List Nat) := (true, [([], []), ([], []), ([], []), ([], []), ([], []), ([4], [4]), ([3, 5], [3, 5]), ([6], [6]), ([], []), ([8, 5], [8]), ([1, 2, 7, 9], [1, 2, 7, 9]), ([10], [10]), ([0, 11, 9], [0, 11]), ([12, 12, 0, 1, 2, 3, 4, 5, 6, 7, 8, 9, 10, 11, 12], [0, 12])])
def spec_l13Spans.B7 : List Nat := [0, 0, 0, 0, 0, 16, 56, 120, 0, 304, 1022, 2046, 4095, 8191]
theorem spec_l13Spans.tab7 : rtab .any (opsOf Try.f64 7) = spec_l13Spans.T7 := by kernel_rfl
theorem spec_l13Spans.bits7 : waitsOk spec_l13Spans.T7.2 spec_l13Spans.B7 = true := by kernel_rfl
theorem spec_l13Spans.calls (k : Nat) (g : Nat) (s0_0 : List Int) (s0_1 : Int) (a1 : Int) (r1 : List (S40)) (r2 : Int) (w0 w : World) (hI : zc w0 w g s0_0 s0_1) (hB : Below w0.heap.size w0 w) (h : spec_l13Spans.f k s0_0 s0_1 a1 = some (r1, r2)) :
  Calls Try.prog 64 #[.pointer (some ⟨g, 0, none⟩), .int .i64 a1] w fun e w' => ∃ v0_ : Value, e = .returned (v0_) ∧ Kd.R k40 40 w' w.heap.size (fun _ => True) v0_ r1 ∧ zc w0 w' g s0_0 r2 ∧ Below w0.heap.size w0 w' ∧ zf w w' g none := by
 have hu40 := Try.underlying40
 have HI0 := za.mk hI
 have HK := za.mk (zf.refl w g none)
 have HL := za.mk hB.size
 clear hI
 have HW0 := za.mk hB.size
 have HB := za.mk hB
 clear hB
 have H : ((spec_l1Rd_pick.f k s0_0 s0_1 4).bind fun bt348 => (spec_l13Spans.l0 k a1 (([] : List (S40))) bt348.1 s0_0 bt348.2)) = some (r1, r2) := h
 clear h
 obtain ⟨y345, hy345⟩ : ∃ y_ : List (S40), y_ = (([] : List (S40))) := ⟨_, rfl⟩
 replace H : ((spec_l1Rd_pick.f k s0_0 s0_1 4).bind fun bt348 => (spec_l13Spans.l0 k a1 y345 bt348.1 s0_0 bt348.2)) = some (r1, r2) := by first | (rw [hy345]; with_reducible exact H) | (have H2_ := (Option.bind_some _ _).symm.trans H; rw [hy345]; with_reducible exact H2_) | (have H2_ := (Option.bind_some _ _).symm.trans H; with_reducible exact H2_) | with_reducible exact H | (rw [hy345]; exact H) | exact H
 have Ny345 := za.mk hy345
 clear hy345
 replace H := Option.bind_eq_some_iff.mp H
 obtain ⟨⟨t348, t349⟩, A30, H⟩ := H
 replace H : (spec_l13Spans.l0 k a1 y345 t348 s0_0 t349) = some (r1, r2) := H
 have A3 := za.mk A30
 clear A30
 have H' := za.mk H
 clear H
 go_enter Try.func64, Try.ntmps64
 go_wp2_with (first | ((with_reducible refine zla (N := 8) rfl ?_); (try (refine zgc (by rfl) ?_; dsimp only)); refine Kd.zfb k40 _ 40 ?hg (N := 8) ?hd (xs := ([] : List (S40))) (inner := []) (ok := fun _ => True) (okp := fun _ => True) ?hr ?hp (fun _ hk => hk) trivial (Below.refl _ _) (Nat.le_refl _) (by simp) ?_; (case hd => rfl); (case hg => rfl); (case hr => first | (go_simp; done) | (go_simp; rfl)); (case hp => exact (Reps.none _ _)); intro v346 w4 ho5 hb hg_ hnew_; clear hg_ hnew_; (first | rw [← Ny345.out] at ho5 | (simp only [Int.reduceToNat] at ho5; rw [← Ny345.out] at ho5)); have n0_ := za.mk (Kd.zqa ho5 (zoa (w := w) (g := g) (row := none) (by repeat (first | (with_reducible first | exact HK.out | apply zf.set_ | apply zn | apply zq | apply zo) | exact HK.out)))); have n1_ := za.mk (zc.below (by repeat (first | (with_reducible first | exact HI0.out | apply zc.alloc | apply zc.drewN | apply zc.drew | apply zc.zx) | exact HI0.out)) hb); have n2_ := za.mk (zf.trans (by repeat (first | (with_reducible first | exact HK.out | apply zf.set_ | apply zn | apply zq | apply zo) | exact HK.out)) (zf.of_below hb g none) (.inl rfl)); have n3_ := za.mk (zv (by repeat (first | (with_reducible first | exact HB.out | apply ze | apply zb | apply zd | refine zr ?_ (zc.ge HI0.out)) | exact HB.out)) hb); clear HI0; clear HK; clear HB; have HO347 := n0_; have HI0 := n1_; have HK := n2_; have HB := n3_; clear n0_ n1_ n2_ n3_; clear hb ho5) | ((with_reducible refine zt (f := 66) rfl ?_); refine zgo (some 10) Try.func66 #[.pointer (some ⟨g, 0, none⟩), .int .i64 4] rfl ?_; (with_reducible refine (spec_l1Rd_pick.calls k g s0_0 s0_1 4 t348 t349 w0 _ ?side1 ?side2 A3.out).mono ?_); (case side1 => repeat (first | (with_reducible first | exact HI0.out | apply zc.alloc | apply zc.drewN | apply zc.drew | apply zc.zx) | exact HI0.out)); (case side2 => repeat (first | (with_reducible first | exact HB.out | apply ze | apply zb | apply zd | refine zr ?_ (zc.ge HI0.out)) | exact HB.out)); rintro e w6 ⟨rfl, hi, hb, hk⟩; refine ⟨_, rfl, ?_⟩; have n0_ := za.mk (Kd.zga (Kd.zsa (zc.apart (show zc w0 _ g s0_0 s0_1 from by repeat (first | (with_reducible first | exact HI0.out | apply zc.alloc | apply zc.drewN | apply zc.drew | apply zc.zx) | exact HI0.out)) (by (with_reducible repeat (first | apply Kd.zg | apply Kd.zh | apply Kd.zm)); exact HO347.out) (by decide)) hk (fun _ h => h.2)) (fun _ h => h.1)); have n1_ := za.mk (zf.trans (by repeat (first | (with_reducible first | exact HK.out | apply zf.set_ | apply zn | apply zq | apply zo) | exact HK.out)) hk (.inl rfl)); have n2_ := za.mk (hb); have n3_ := za.mk (hi); clear HO347; clear HK; clear HB; clear HI0; have HO347 := n0_; have HK := n1_; have HB := n2_; have HI0 := n3_; clear n0_ n1_ n2_ n3_; (try clear hb); (try clear hb2); (try clear hk); (try clear hi)))
 go_loopg [5, 6] k (fun kq v5 v6 w' => ∃ (x5_1 : List (S40)) (x6_1 : Int) (x1001_1 : Int), v6 = .int .i64 x6_1 ∧ za (spec_l13Spans.l0 kq a1 x5_1 x6_1 s0_0 x1001_1 = some (r1, r2)) ∧ za (kq ≤ k) ∧ za (Kd.R k40 40 w' w.heap.size (fun _ => True) v5 x5_1) ∧ za (zc w0 w' g s0_0 x1001_1) ∧ za (zf w w' g none) ∧ za (Below w0.heap.size w0 w'))
 case atStart => exact ⟨(y345), (t348), (t349), (by first | rfl | (simp; done) | (simp [*]; done)), H', ⟨Nat.le_refl _⟩, ⟨by (with_reducible repeat (first | apply Kd.zg | apply Kd.zh | apply Kd.zm)); exact HO347.out⟩, ⟨by repeat (first | (with_reducible first | exact HI0.out | apply zc.alloc | apply zc.drewN | apply zc.drew | apply zc.zx) | exact HI0.out)⟩, ⟨by repeat (first | (with_reducible first | exact HK.out | apply zf.set_ | apply zn | apply zq | apply zo) | exact HK.out)⟩, ⟨by repeat (first | (with_reducible first | exact HB.out | apply ze | apply zb | apply zd | refine zr ?_ (zc.ge HI0.out)) | exact HB.out)⟩⟩
 case round =>
  clear H'
  try clear p2
  try clear c6
  obtain ⟨x5_1, x6_1, x1001_1, rfl, HA, HK1, HO_5, HI0, HK, HB⟩ := hrel
  cases gk with
  | zero => exact absurd HA.out (by simp [spec_l13Spans.l0])
  | succ k1 =>
   have H := HA.out
   clear HA
   simp only [spec_l13Spans.l0] at H
   have HC7 := za.mk H
   clear H
   go_upto_region 3 with (fail)
   go_cut [23] (fun v23 wc => ∃ (kq : Nat) (x23_6 : Bool) (x1001_6 : Int), v23 = .bool x23_6 ∧ za (spec_l13Spans.j1 kq a1 x5_1 x6_1 x23_6 s0_0 x1001_6 = some (r1, r2)) ∧ za (kq ≤ k1) ∧ za (Kd.R k40 40 wc w.heap.size (fun _ => True) u5 x5_1) ∧ za (zc w0 wc g s0_0 x1001_6) ∧ za (zf w wc g none) ∧ za (Below w0.heap.size w0 wc))
   case first =>
    have H := HC7.out
    clear HC7
    by_cases c8 : x6_1 < a1
    ·rw [if_pos c8] at H
     have c8b0 : decide (x6_1 < a1) = true := decide_eq_true c8
     clear c8
     (first | rw [c8b0] | (simp only [zk, zl]; rw [c8b0]) | skip)
     by_cases c9 : (x5_1.length : Int) < 12
     ·rw [if_pos c9] at H
      have c9b0 : decide ((x5_1.length : Int) < 12) = true := decide_eq_true c9
      have c9b1 : decide (x5_1.length < 12) = true := decide_eq_true (by omega)
      clear c9
      replace H := Option.bind_eq_some_iff.mp H
      obtain ⟨⟨t350, t351⟩, A100, H⟩ := H
      replace H : (spec_l13Spans.j1 k1 a1 x5_1 x6_1 (decide (t350 > 0)) s0_0 t351) = some (r1, r2) := H
      have A10 := za.mk A100
      clear A100
      have H' := za.mk H
      clear H
      obtain ⟨Ao11, co11, eo11⟩ := Kd.zka HO_5.out
      subst eo11
      go_wp2_with (first | (go_at_call 66; (with_reducible refine (spec_l1Rd_pick.calls k1 g s0_0 x1001_1 8 t350 t351 w0 _ ?side1 ?side2 A10.out).mono ?_); (case side1 => repeat (first | (with_reducible first | exact HI0.out | apply zc.alloc | apply zc.drewN | apply zc.drew | apply zc.zx) | exact HI0.out)); (case side2 => repeat (first | (with_reducible first | exact HB.out | apply ze | apply zb | apply zd | refine zr ?_ (zc.ge HI0.out)) | exact HB.out)); rintro e w12 ⟨rfl, hi, hb, hk⟩; have n0_ := za.mk (Kd.zga (Kd.zsa (zc.apart (show zc w0 _ g s0_0 x1001_1 from by repeat (first | (with_reducible first | exact HI0.out | apply zc.alloc | apply zc.drewN | apply zc.drew | apply zc.zx) | exact HI0.out)) (by (with_reducible repeat (first | apply Kd.zg | apply Kd.zh | apply Kd.zm)); exact HO_5.out) (by decide)) hk (fun _ h => h.2)) (fun _ h => h.1)); have n1_ := za.mk (zf.trans (by repeat (first | (with_reducible first | exact HK.out | apply zf.set_ | apply zn | apply zq | apply zo) | exact HK.out)) hk (.inl rfl)); have n2_ := za.mk (hb); have n3_ := za.mk (hi); clear HO_5; clear HK; clear HB; clear HI0; have HO_5 := n0_; have HK := n1_; have HB := n2_; have HI0 := n3_; clear n0_ n1_ n2_ n3_; (try clear hb); (try clear hb2); (try clear hk); (try clear hi)))
      go_meet
      case rel => exact ⟨_, (decide (t350 > 0)), (t351), (by first | rfl | (simp; done) | (simp [*]; done)), H', ⟨by have := HK1.out; first | omega | exact Nat.le_refl _⟩, ⟨by (with_reducible repeat (first | apply Kd.zg | apply Kd.zh | apply Kd.zm)); exact HO_5.out⟩, ⟨by repeat (first | (with_reducible first | exact HI0.out | apply zc.alloc | apply zc.drewN | apply zc.drew | apply zc.zx) | exact HI0.out)⟩, ⟨by repeat (first | (with_reducible first | exact HK.out | apply zf.set_ | apply zn | apply zq | apply zo) | exact HK.out)⟩, ⟨by repeat (first | (with_reducible first | exact HB.out | apply ze | apply zb | apply zd | refine zr ?_ (zc.ge HI0.out)) | exact HB.out)⟩⟩
     ·rw [if_neg c9] at H
      have c9b0 : decide ((x5_1.length : Int) < 12) = false := decide_eq_false c9
      have c9b1 : decide (x5_1.length < 12) = false := decide_eq_false (by omega)
      clear c9
      have H' := za.mk H
      clear H
      obtain ⟨Ao13, co13, eo13⟩ := Kd.zka HO_5.out
      subst eo13
      go_wp2
      go_meet
      case rel => exact ⟨_, (false), (x1001_1), (by first | rfl | (simp; done) | (simp [*]; done)), H', ⟨by have := HK1.out; first | omega | exact Nat.le_refl _⟩, ⟨by (with_reducible repeat (first | apply Kd.zg | apply Kd.zh | apply Kd.zm)); exact HO_5.out⟩, ⟨by repeat (first | (with_reducible first | exact HI0.out | apply zc.alloc | apply zc.drewN | apply zc.drew | apply zc.zx) | exact HI0.out)⟩, ⟨by repeat (first | (with_reducible first | exact HK.out | apply zf.set_ | apply zn | apply zq | apply zo) | exact HK.out)⟩, ⟨by repeat (first | (with_reducible first | exact HB.out | apply ze | apply zb | apply zd | refine zr ?_ (zc.ge HI0.out)) | exact HB.out)⟩⟩
    ·rw [if_neg c8] at H
     have c8b0 : decide (x6_1 < a1) = false := decide_eq_false c8
     clear c8
     (first | rw [c8b0] | (simp only [zk, zl]; rw [c8b0]) | skip)
     have H' := za.mk H
     clear H
     go_wp2
     go_meet
     case rel => exact ⟨_, (false), (x1001_1), (by first | rfl | (simp; done) | (simp [*]; done)), H', ⟨by have := HK1.out; first | omega | exact Nat.le_refl _⟩, ⟨by (with_reducible repeat (first | apply Kd.zg | apply Kd.zh | apply Kd.zm)); exact HO_5.out⟩, ⟨by repeat (first | (with_reducible first | exact HI0.out | apply zc.alloc | apply zc.drewN | apply zc.drew | apply zc.zx) | exact HI0.out)⟩, ⟨by repeat (first | (with_reducible first | exact HK.out | apply zf.set_ | apply zn | apply zq | apply zo) | exact HK.out)⟩, ⟨by repeat (first | (with_reducible first | exact HB.out | apply ze | apply zb | apply zd | refine zr ?_ (zc.ge HI0.out)) | exact HB.out)⟩⟩
   case rest =>
    clear HC7
    try clear p2
    try clear c6
    try clear c8
    try clear c8b0
    try clear c9
    try clear c9b0
    try clear c9b1
    try clear p2
    obtain ⟨kq, x23_6, x1001_6, rfl, HA, HJ6, HO_5, HI0, HK, HB⟩ := hcut
    cases kq with
    | zero => exact absurd HA.out (by simp [spec_l13Spans.j1])
    | succ kj6 =>
     have H := HA.out
     clear HA
     simp only [spec_l13Spans.j1] at H
     by_cases c14 : x23_6 = true
     ·subst c14
      have H1 : ((spec_l1Rd_pick.f kj6 s0_0 x1001_6 5).bind fun bt352 => (if (wrap64 ((wrap64 (x6_1 + 1)) + bt352.1)) > a1 then ((some (([10, 5, 20, 40, 1] : List Int) : List Int)).bind fun y354 => ((spec_l1Rd_pick.f kj6 s0_0 bt352.2 5).bind fun bt357 => (if 0 ≤ bt357.1 then (if bt357.1 < (y354.length : Int) then ((spec_l1Rd_pick.f kj6 s0_0 bt357.2 3).bind fun bt360 => (if x5_1.length < 4398046511104 then ((spec_l1Rd_pick.f kj6 s0_0 bt360.2 3).bind fun bt365 => (spec_l13Spans.l0 kj6 a1 (x5_1 ++ [(⟨x6_1, a1, rd y354 bt357.1, bt360.1⟩ : S40)]) (wrap64 (a1 + bt365.1)) s0_0 bt365.2)) else (none))) else (none)) else (none)))) else ((some (([10, 5, 20, 40, 1] : List Int) : List Int)).bind fun y367 => ((spec_l1Rd_pick.f kj6 s0_0 bt352.2 5).bind fun bt370 => (if 0 ≤ bt370.1 then (if bt370.1 < (y367.length : Int) then ((spec_l1Rd_pick.f kj6 s0_0 bt370.2 3).bind fun bt373 => (if x5_1.length < 4398046511104 then ((spec_l1Rd_pick.f kj6 s0_0 bt373.2 3).bind fun bt378 => (spec_l13Spans.l0 kj6 a1 (x5_1 ++ [(⟨x6_1, wrap64 ((wrap64 (x6_1 + 1)) + bt352.1), rd y367 bt370.1, bt373.1⟩ : S40)]) (wrap64 ((wrap64 ((wrap64 (x6_1 + 1)) + bt352.1)) + bt378.1)) s0_0 bt378.2)) else (none))) else (none)) else (none)))))) = some (r1, r2) := by rw [if_pos rfl] at H; exact H
      clear H
      have H := H1
      clear H1
      replace H := Option.bind_eq_some_iff.mp H
      obtain ⟨⟨t352, t353⟩, A150, H⟩ := H
      replace H : (if (wrap64 ((wrap64 (x6_1 + 1)) + t352)) > a1 then ((some (([10, 5, 20, 40, 1] : List Int) : List Int)).bind fun y354 => ((spec_l1Rd_pick.f kj6 s0_0 t353 5).bind fun bt357 => (if 0 ≤ bt357.1 then (if bt357.1 < (y354.length : Int) then ((spec_l1Rd_pick.f kj6 s0_0 bt357.2 3).bind fun bt360 => (if x5_1.length < 4398046511104 then ((spec_l1Rd_pick.f kj6 s0_0 bt360.2 3).bind fun bt365 => (spec_l13Spans.l0 kj6 a1 (x5_1 ++ [(⟨x6_1, a1, rd y354 bt357.1, bt360.1⟩ : S40)]) (wrap64 (a1 + bt365.1)) s0_0 bt365.2)) else (none))) else (none)) else (none)))) else ((some (([10, 5, 20, 40, 1] : List Int) : List Int)).bind fun y367 => ((spec_l1Rd_pick.f kj6 s0_0 t353 5).bind fun bt370 => (if 0 ≤ bt370.1 then (if bt370.1 < (y367.length : Int) then ((spec_l1Rd_pick.f kj6 s0_0 bt370.2 3).bind fun bt373 => (if x5_1.length < 4398046511104 then ((spec_l1Rd_pick.f kj6 s0_0 bt373.2 3).bind fun bt378 => (spec_l13Spans.l0 kj6 a1 (x5_1 ++ [(⟨x6_1, wrap64 ((wrap64 (x6_1 + 1)) + t352), rd y367 bt370.1, bt373.1⟩ : S40)]) (wrap64 ((wrap64 ((wrap64 (x6_1 + 1)) + t352)) + bt378.1)) s0_0 bt378.2)) else (none))) else (none)) else (none))))) = some (r1, r2) := H
      have A15 := za.mk A150
      clear A150
      by_cases c16 : (wrap64 ((wrap64 (x6_1 + 1)) + t352)) > a1
      ·rw [if_pos c16] at H
       have c16b0 : decide (a1 < (wrap64 ((wrap64 (x6_1 + 1)) + t352))) = true := decide_eq_true c16
       clear c16
       obtain ⟨y354, hy354⟩ : ∃ y_ : List Int, y_ = (([10, 5, 20, 40, 1] : List Int)) := ⟨_, rfl⟩
       replace H : ((spec_l1Rd_pick.f kj6 s0_0 t353 5).bind fun bt357 => (if 0 ≤ bt357.1 then (if bt357.1 < (y354.length : Int) then ((spec_l1Rd_pick.f kj6 s0_0 bt357.2 3).bind fun bt360 => (if x5_1.length < 4398046511104 then ((spec_l1Rd_pick.f kj6 s0_0 bt360.2 3).bind fun bt365 => (spec_l13Spans.l0 kj6 a1 (x5_1 ++ [(⟨x6_1, a1, rd y354 bt357.1, bt360.1⟩ : S40)]) (wrap64 (a1 + bt365.1)) s0_0 bt365.2)) else (none))) else (none)) else (none))) = some (r1, r2) := by first | (rw [hy354]; with_reducible exact H) | (have H2_ := (Option.bind_some _ _).symm.trans H; rw [hy354]; with_reducible exact H2_) | (have H2_ := (Option.bind_some _ _).symm.trans H; with_reducible exact H2_) | with_reducible exact H | (rw [hy354]; exact H) | exact H
       have Ny354 := za.mk hy354
       clear hy354
       replace H := Option.bind_eq_some_iff.mp H
       obtain ⟨⟨t357, t358⟩, A170, H⟩ := H
       replace H : (if 0 ≤ t357 then (if t357 < (y354.length : Int) then ((spec_l1Rd_pick.f kj6 s0_0 t358 3).bind fun bt360 => (if x5_1.length < 4398046511104 then ((spec_l1Rd_pick.f kj6 s0_0 bt360.2 3).bind fun bt365 => (spec_l13Spans.l0 kj6 a1 (x5_1 ++ [(⟨x6_1, a1, rd y354 t357, bt360.1⟩ : S40)]) (wrap64 (a1 + bt365.1)) s0_0 bt365.2)) else (none))) else (none)) else (none)) = some (r1, r2) := H
       have A17 := za.mk A170
       clear A170
       by_cases c18 : 0 ≤ t357
       ·rw [if_pos c18] at H
        have c18b0 : decide (0 ≤ t357) = true := decide_eq_true c18
        clear c18
        by_cases c19 : t357 < (y354.length : Int)
        ·rw [if_pos c19] at H
         have c19b0 : decide (t357 < (y354.length : Int)) = true := decide_eq_true c19
         clear c19
         replace H := Option.bind_eq_some_iff.mp H
         obtain ⟨⟨t360, t361⟩, A200, H⟩ := H
         replace H : (if x5_1.length < 4398046511104 then ((spec_l1Rd_pick.f kj6 s0_0 t361 3).bind fun bt365 => (spec_l13Spans.l0 kj6 a1 (x5_1 ++ [(⟨x6_1, a1, rd y354 t357, t360⟩ : S40)]) (wrap64 (a1 + bt365.1)) s0_0 bt365.2)) else (none)) = some (r1, r2) := H
         have A20 := za.mk A200
         clear A200
         by_cases c21 : x5_1.length < 4398046511104
         ·rw [if_pos c21] at H
          have LMc21 := za.mk c21
          clear c21
          obtain ⟨y362, hy362⟩ : ∃ y_ : List (S40), y_ = (x5_1 ++ [(⟨x6_1, a1, rd y354 t357, t360⟩ : S40)]) := ⟨_, rfl⟩
          replace H : ((spec_l1Rd_pick.f kj6 s0_0 t361 3).bind fun bt365 => (spec_l13Spans.l0 kj6 a1 y362 (wrap64 (a1 + bt365.1)) s0_0 bt365.2)) = some (r1, r2) := by first | (rw [hy362]; with_reducible exact H) | (have H2_ := (Option.bind_some _ _).symm.trans H; rw [hy362]; with_reducible exact H2_) | (have H2_ := (Option.bind_some _ _).symm.trans H; with_reducible exact H2_) | with_reducible exact H | (rw [hy362]; exact H) | exact H
          have Ny362 := za.mk hy362
          clear hy362
          replace H := Option.bind_eq_some_iff.mp H
          obtain ⟨⟨t365, t366⟩, A220, H⟩ := H
          replace H : (spec_l13Spans.l0 kj6 a1 y362 (wrap64 (a1 + t365)) s0_0 t366) = some (r1, r2) := H
          have A22 := za.mk A220
          clear A220
          have H' := za.mk H
          clear H
          try go_wp2_with (first | ((with_reducible refine zt (f := 66) rfl ?_); refine zgo (some 27) Try.func66 #[.pointer (some ⟨g, 0, none⟩), .int .i64 5] rfl ?_; (with_reducible refine (spec_l1Rd_pick.calls kj6 g s0_0 x1001_6 5 t352 t353 w0 _ ?side1 ?side2 A15.out).mono ?_); (case side1 => repeat (first | (with_reducible first | exact HI0.out | apply zc.alloc | apply zc.drewN | apply zc.drew | apply zc.zx) | exact HI0.out)); (case side2 => repeat (first | (with_reducible first | exact HB.out | apply ze | apply zb | apply zd | refine zr ?_ (zc.ge HI0.out)) | exact HB.out)); rintro e w23 ⟨rfl, hi, hb, hk⟩; refine ⟨_, rfl, ?_⟩; have n0_ := za.mk (Kd.zga (Kd.zsa (zc.apart (show zc w0 _ g s0_0 x1001_6 from by repeat (first | (with_reducible first | exact HI0.out | apply zc.alloc | apply zc.drewN | apply zc.drew | apply zc.zx) | exact HI0.out)) (by (with_reducible repeat (first | apply Kd.zg | apply Kd.zh | apply Kd.zm)); exact HO_5.out) (by decide)) hk (fun _ h => h.2)) (fun _ h => h.1)); have n1_ := za.mk (zf.trans (by repeat (first | (with_reducible first | exact HK.out | apply zf.set_ | apply zn | apply zq | apply zo) | exact HK.out)) hk (.inl rfl)); have n2_ := za.mk (hb); have n3_ := za.mk (hi); clear HO_5; clear HK; clear HB; clear HI0; have HO_5 := n0_; have HK := n1_; have HB := n2_; have HI0 := n3_; clear n0_ n1_ n2_ n3_; (try clear hb); (try clear hb2); (try clear hk); (try clear hi); obtain ⟨Ao24, co24, eo24⟩ := Kd.zka HO_5.out; subst eo24))
          have pi359 : (0 ≤ (t357 : Int)) = True := eq_true (of_decide_eq_true (by assumption))
          have qi359 : (t357 < (y354.length : Int)) = True := eq_true (of_decide_eq_true (by assumption))
          have n0_ := za.mk (Kd.zm HO_5.out)
          have n1_ := za.mk (zc.drew HI0.out)
          have n2_ := za.mk (zq HK.out)
          have n3_ := za.mk (zd HB.out)
          clear HO_5
          clear HI0
          clear HK
          clear HB
          have HO_5 := n0_
          have HI0 := n1_
          have HK := n2_
          have HB := n3_
          clear n0_ n1_ n2_ n3_
          refine zcc (n := 14) (S := fun w' => True) (ds := []) #[F_,F_,F_,F_,F_,F_,F_,F_,F_,F_,F_,F_,F_,F_] (by kernel_rfl) rfl rfl trivial (fun hHeld => ?_); refine zdb spec_l13Spans.tab7 spec_l13Spans.bits7 (fun HT_ HW_ => ?_)
          generalize w23.drew = w25 at HO_5 HI0 HK HB hHeld ⊢
          refine zu (i := 0) (N := some 33) (v := ?_) (a' := ?_) #[T_,F_,F_,F_,F_,F_,F_,F_,F_,F_,F_,F_,F_,F_] rfl rfl (zp HT_.out (by kernel_rfl)) (fun _ _ _ h => h) (Or.inl ⟨by rfl, ?_⟩) ?_ ?_
          rotate_left
          ·intro w'
           go_simp
           with_reducible rfl
          rotate_left
          ·simp only [zpa,zpb,zpc,zpd,zpe,zk,zl]
           rfl
          refine zu (i := 1) (N := some 34) (v := ?_) (a' := ?_) #[T_,T_,F_,F_,F_,F_,F_,F_,F_,F_,F_,F_,F_,F_] rfl rfl (zp HT_.out (by kernel_rfl)) (fun _ _ _ h => h) (Or.inl ⟨by rfl, ?_⟩) ?_ ?_
          rotate_left
          ·intro w'
           go_simp
           with_reducible rfl
          rotate_left
          ·simp only [zpa,zpb,zpc,zpd,zpe,zk,zl]
           rfl
          refine zu (i := 2) (N := some 35) (v := ?_) (a' := ?_) #[T_,T_,T_,F_,F_,F_,F_,F_,F_,F_,F_,F_,F_,F_] rfl rfl (zp HT_.out (by kernel_rfl)) (fun _ _ _ h => h) (Or.inl ⟨by rfl, ?_⟩) ?_ ?_
          rotate_left
          ·intro w'
           go_simp
           with_reducible rfl
          rotate_left
          ·simp only [zpa,zpb,zpc,zpd,zpe,zk,zl]
           rfl
          refine zu (i := 4) (N := some 37) (v := ?_) (a' := ?_) #[T_,T_,T_,F_,T_,F_,F_,F_,F_,F_,F_,F_,F_,F_] rfl rfl (zp HT_.out (by kernel_rfl)) (fun _ _ _ h => h) (Or.inl ⟨by rfl, ?_⟩) ?_ ?_
          rotate_left
          ·intro w'
           go_simp
           with_reducible rfl
          rotate_left
          ·simp only [zpa,zpb,zpc,zpd,zpe,zk,zl]
           rfl
          refine zu (i := 8) (N := some 41) (v := ?_) (a' := ?_) #[T_,T_,T_,F_,T_,F_,F_,F_,T_,F_,F_,F_,F_,F_] rfl rfl (zp HT_.out (by kernel_rfl)) (fun _ _ _ h => h) (Or.inl ⟨by rfl, ?_⟩) ?_ ?_
          rotate_left
          ·intro w'
           go_simp
           with_reducible rfl
          rotate_left
          ·simp only [zpa,zpb,zpc,zpd,zpe,zk,zl]
           rfl
          refine join_ (σ := Value × Addr) 4 #[T_,T_,T_,T_,T_,T_,T_,T_,T_,T_,F_,F_,F_,F_] (fun s_ => [(36, s_.1), (38, .int .i64 t357), (40, .int .i64 (rd y354 t357)), (42, .int .i64 t360), (39, .pointer (some (s_.2.add (t357).toNat)))]) (fun s_ w' => (Kd.R (Kd.int .i64) 3 w' w.heap.size (fun _ => True) s_.1 y354) ∧ (Kd.R k40 40 w' w.heap.size (fun _ => True) (.slice Ao24 x5_1.length co24) x5_1) ∧ (∃ c_, (s_.1 : Value) = .slice (some s_.2) y354.length c_) ∧ (zc w0 w' g s0_0 t361) ∧ (zf w w' g none) ∧ (Below w0.heap.size w0 w')) ?_ ?_
          rotate_left
          ·intro hJ3_5_7_9
           refine join_ (σ := Value × Addr) 5 #[T_,T_,T_,T_,T_,T_,T_,T_,T_,F_,F_,F_,F_,F_] (fun s_ => [(36, s_.1), (38, .int .i64 t357), (40, .int .i64 (rd y354 t357)), (39, .pointer (some (s_.2.add (t357).toNat)))]) (fun s_ w' => (Kd.R (Kd.int .i64) 3 w' w.heap.size (fun _ => True) s_.1 y354) ∧ (Kd.R k40 40 w' w.heap.size (fun _ => True) (.slice Ao24 x5_1.length co24) x5_1) ∧ (∃ c_, (s_.1 : Value) = .slice (some s_.2) y354.length c_) ∧ (zc w0 w' g s0_0 t358) ∧ (zf w w' g none) ∧ (Below w0.heap.size w0 w')) ?_ ?_
           rotate_left
           ·intro hJ3_5_7
            refine join_ (σ := Value × Addr) 5 #[T_,T_,T_,T_,T_,T_,T_,F_,T_,T_,F_,F_,F_,F_] (fun s_ => [(36, s_.1), (38, .int .i64 t357), (42, .int .i64 t360), (39, .pointer (some (s_.2.add (t357).toNat)))]) (fun s_ w' => (Kd.R (Kd.int .i64) 3 w' w.heap.size (fun _ => True) s_.1 y354) ∧ (Kd.R k40 40 w' w.heap.size (fun _ => True) (.slice Ao24 x5_1.length co24) x5_1) ∧ (∃ c_, (s_.1 : Value) = .slice (some s_.2) y354.length c_) ∧ (zc w0 w' g s0_0 t361) ∧ (zf w w' g none) ∧ (Below w0.heap.size w0 w')) ?_ ?_
            rotate_left
            ·intro hJ3_5_9
             refine join_ (σ := Value × Addr) 6 #[T_,T_,T_,T_,T_,T_,T_,F_,T_,F_,F_,F_,F_,F_] (fun s_ => [(36, s_.1), (38, .int .i64 t357), (39, .pointer (some (s_.2.add (t357).toNat)))]) (fun s_ w' => (Kd.R (Kd.int .i64) 3 w' w.heap.size (fun _ => True) s_.1 y354) ∧ (Kd.R k40 40 w' w.heap.size (fun _ => True) (.slice Ao24 x5_1.length co24) x5_1) ∧ (∃ c_, (s_.1 : Value) = .slice (some s_.2) y354.length c_) ∧ (zc w0 w' g s0_0 t358) ∧ (zf w w' g none) ∧ (Below w0.heap.size w0 w')) ?_ ?_
             rotate_left
             ·intro hJ3_5
              refine join_ (σ := Unit) 7 #[T_,T_,T_,F_,T_,T_,F_,F_,T_,T_,F_,F_,F_,F_] (fun s_ => [(38, .int .i64 t357), (42, .int .i64 t360)]) (fun s_ w' => (Kd.R k40 40 w' w.heap.size (fun _ => True) (.slice Ao24 x5_1.length co24) x5_1) ∧ (zc w0 w' g s0_0 t361) ∧ (zf w w' g none) ∧ (Below w0.heap.size w0 w')) ?_ ?_
              rotate_left
              ·intro hJ5_9
               refine join_ (σ := Value × Addr) 8 #[T_,T_,T_,T_,T_,F_,F_,F_,T_,F_,F_,F_,F_,F_] (fun s_ => [(36, s_.1)]) (fun s_ w' => (Kd.R (Kd.int .i64) 3 w' w.heap.size (fun _ => True) s_.1 y354) ∧ (Kd.R k40 40 w' w.heap.size (fun _ => True) (.slice Ao24 x5_1.length co24) x5_1) ∧ (∃ c_, (s_.1 : Value) = .slice (some s_.2) y354.length c_) ∧ (zc w0 w' g s0_0 t353) ∧ (zf w w' g none) ∧ (Below w0.heap.size w0 w')) ?_ ?_
               rotate_left
               ·intro hJ3
                refine join_ (σ := Unit) 8 #[T_,T_,T_,F_,T_,T_,F_,F_,T_,F_,F_,F_,F_,F_] (fun s_ => [(38, .int .i64 t357)]) (fun s_ w' => (Kd.R k40 40 w' w.heap.size (fun _ => True) (.slice Ao24 x5_1.length co24) x5_1) ∧ (zc w0 w' g s0_0 t358) ∧ (zf w w' g none) ∧ (Below w0.heap.size w0 w')) ?_ ?_
                rotate_left
                ·intro hJ5
                 refine two_ (i := 3) (j := 5) (Ni := some 36) (Nj := some 38) #[T_,T_,T_,T_,T_,F_,F_,F_,T_,F_,F_,F_,F_,F_] #[T_,T_,T_,F_,T_,T_,F_,F_,T_,F_,F_,F_,F_,F_] rfl rfl rfl rfl (two_of HT_.out (by kernel_rfl)) (by decide) (by decide) (fun K hK => ?_) (fun K hK => ?_)
                 ·skip
                  refine Kd.R_lit_step (Kd.int .i64) _ 3 ?hg (N := 36) ?hd (xs := ([10, 5, 20, 40, 1] : List Int)) (inner := [.int .i64 10, .int .i64 5, .int .i64 20, .int .i64 40, .int .i64 1]) (ok := fun _ => True) (okp := fun _ => True) ?hr ?hp (fun _ hk => hk) trivial (Below.refl _ _) (Nat.le_refl _) (by simp) ?_; (case hd => rfl); (case hg => rfl); (case hr => first | (go_simp; done) | (go_simp; rfl)); (case hp => exact (Reps.one (show Kd.M (Kd.int .i64) _ _ _ 10 [.int .i64 10] from rfl) (Reps.one (show Kd.M (Kd.int .i64) _ _ _ 5 [.int .i64 5] from rfl) (Reps.one (show Kd.M (Kd.int .i64) _ _ _ 20 [.int .i64 20] from rfl) (Reps.one (show Kd.M (Kd.int .i64) _ _ _ 40 [.int .i64 40] from rfl) (Reps.one (show Kd.M (Kd.int .i64) _ _ _ 1 [.int .i64 1] from rfl) (Reps.none _ _)))))))
                  intro v355 w26 ho27 hb hg_ hnew_
                  clear hg_ hnew_
                  (first | rw [← Ny354.out] at ho27 | (simp only [Int.reduceToNat] at ho27; rw [← Ny354.out] at ho27))
                  have n0_ := za.mk (Kd.zea (by (with_reducible repeat (first | apply Kd.zg | apply Kd.zh | apply Kd.zm)); exact HO_5.out) hb)
                  have n1_ := za.mk (Kd.zqa ho27 (zoa (w := w) (g := g) (row := none) (by repeat (first | (with_reducible first | exact HK.out | apply zf.set_ | apply zn | apply zq | apply zo) | exact HK.out))))
                  have n2_ := za.mk (zc.below (by repeat (first | (with_reducible first | exact HI0.out | apply zc.alloc | apply zc.drewN | apply zc.drew | apply zc.zx) | exact HI0.out)) hb)
                  have n3_ := za.mk (zf.trans (by repeat (first | (with_reducible first | exact HK.out | apply zf.set_ | apply zn | apply zq | apply zo) | exact HK.out)) (zf.of_below hb g none) (.inl rfl))
                  have n4_ := za.mk (zv (by repeat (first | (with_reducible first | exact HB.out | apply ze | apply zb | apply zd | refine zr ?_ (zc.ge HI0.out)) | exact HB.out)) hb)
                  clear HO_5
                  clear HI0
                  clear HK
                  clear HB
                  have HO_5 := n0_
                  have HO356 := n1_
                  have HI0 := n2_
                  have HK := n3_
                  have HB := n4_
                  clear n0_ n1_ n2_ n3_ n4_
                  clear hb ho27
                  obtain ⟨Ao28, co28, eo28⟩ := Kd.zka HO356.out
                  subst eo28
                  obtain ⟨ado28, fo28, _⟩ := Kd.zta (Kd.zw HO356.out).2.2 0 (by decide) (by rw [Ny354.out]; simp)
                  cases fo28
                  refine hK.out _ _ trivial (fun hHeld => ?_)
                  clear hK K
                  refine zra (a' := ?_) ?_ ?_
                  rotate_left
                  ·show Act.put _ (some 36) _ = _
                   simp only [zpa,zpb,zpc,zpd,zpe,zk,zl]
                   rfl
                  exact zra (by first | (simp only [putAll,zpa,zpb,zpc,zpd,zpe]; done) | (simp only [putAll,zpa,zpb,zpc,zpd,zpe]; rfl)) (hJ3 (.slice (some ado28) y354.length co28, ado28) _ ⟨(by (with_reducible repeat (first | apply Kd.zg | apply Kd.zh | apply Kd.zm)); exact HO356.out), (by (with_reducible repeat (first | apply Kd.zg | apply Kd.zh | apply Kd.zm)); exact HO_5.out), ⟨_, rfl⟩, (by repeat (first | (with_reducible first | exact HI0.out | apply zc.alloc | apply zc.drewN | apply zc.drew | apply zc.zx) | exact HI0.out)), (by repeat (first | (with_reducible first | exact HK.out | apply zf.set_ | apply zn | apply zq | apply zo) | exact HK.out)), (by repeat (first | (with_reducible first | exact HB.out | apply ze | apply zb | apply zd | refine zr ?_ (zc.ge HI0.out)) | exact HB.out))⟩)
                 ·skip
                  refine zeb Try.func66 (by kernel_rfl) rfl #[.pointer (some ⟨g, 0, none⟩), .int .i64 5] (by rfl) rfl rfl (by (try simp only [zma,zmb,zmc]); first | done | rfl) ?_
                  with_reducible refine (spec_l1Rd_pick.calls kj6 g s0_0 t353 5 t357 t358 w0 _ ?side1 ?side2 A17.out).mono ?_
                  (case side1 => repeat (first | (with_reducible first | exact HI0.out | apply zc.alloc | apply zc.drewN | apply zc.drew | apply zc.zx) | exact HI0.out))
                  (case side2 => repeat (first | (with_reducible first | exact HB.out | apply ze | apply zb | apply zd | refine zr ?_ (zc.ge HI0.out)) | exact HB.out))
                  rintro e w26 ⟨rfl, hi, hb, hk⟩
                  refine ⟨_, rfl, ?_⟩
                  have n0_ := za.mk (Kd.zga (Kd.zsa (zc.apart (show zc w0 _ g s0_0 t353 from by repeat (first | (with_reducible first | exact HI0.out | apply zc.alloc | apply zc.drewN | apply zc.drew | apply zc.zx) | exact HI0.out)) (by (with_reducible repeat (first | apply Kd.zg | apply Kd.zh | apply Kd.zm)); exact HO_5.out) (by decide)) hk (fun _ h => h.2)) (fun _ h => h.1))
                  have n1_ := za.mk (zf.trans (by repeat (first | (with_reducible first | exact HK.out | apply zf.set_ | apply zn | apply zq | apply zo) | exact HK.out)) hk (.inl rfl))
                  have n2_ := za.mk (hb)
                  have n3_ := za.mk (hi)
                  clear HO_5
                  clear HK
                  clear HB
                  clear HI0
                  have HO_5 := n0_
                  have HK := n1_
                  have HB := n2_
                  have HI0 := n3_
                  clear n0_ n1_ n2_ n3_
                  (try clear hb)
                  (try clear hb2)
                  (try clear hk)
                  (try clear hi)
                  refine hK.out _ _ trivial (fun hHeld => ?_)
                  clear hK K
                  refine zra (a' := ?_) ?_ ?_
                  rotate_left
                  ·show Act.put _ (some 38) _ = _
                   simp only [zpa,zpb,zpc,zpd,zpe,zk,zl]
                   rfl
                  exact zra (by first | (simp only [putAll,zpa,zpb,zpc,zpd,zpe]; done) | (simp only [putAll,zpa,zpb,zpc,zpd,zpe]; rfl)) (hJ5 () _ ⟨(by (with_reducible repeat (first | apply Kd.zg | apply Kd.zh | apply Kd.zm)); exact HO_5.out), (by repeat (first | (with_reducible first | exact HI0.out | apply zc.alloc | apply zc.drewN | apply zc.drew | apply zc.zx) | exact HI0.out)), (by repeat (first | (with_reducible first | exact HK.out | apply zf.set_ | apply zn | apply zq | apply zo) | exact HK.out)), (by repeat (first | (with_reducible first | exact HB.out | apply ze | apply zb | apply zd | refine zr ?_ (zc.ge HI0.out)) | exact HB.out))⟩)
                ·skip
                 rintro _ w27 ⟨h0_, h1_, h2_, h3_⟩
                 have n0_ : za (Kd.R k40 40 w27 w.heap.size (fun _ => True) (.slice Ao24 x5_1.length co24) x5_1) := ⟨h0_⟩
                 have n1_ : za (zc w0 w27 g s0_0 t358) := ⟨h1_⟩
                 have n2_ : za (zf w w27 g none) := ⟨h2_⟩
                 have n3_ : za (Below w0.heap.size w0 w27) := ⟨h3_⟩
                 clear HO_5
                 clear HI0
                 clear HK
                 clear HB
                 clear h0_ h1_ h2_ h3_
                 have HO_5 := n0_
                 have HI0 := n1_
                 have HK := n2_
                 have HB := n3_
                 clear n0_ n1_ n2_ n3_
                 have hHeld := trivial
                 refine zra (a' := ?_) ?_ ?_
                 rotate_left
                 ·simp only [putAll,zpa,zpb,zpc,zpd,zpe]
                  rfl
                 refine two_ (i := 3) (j := 9) (Ni := some 36) (Nj := some 42) #[T_,T_,T_,T_,T_,T_,F_,F_,T_,F_,F_,F_,F_,F_] #[T_,T_,T_,F_,T_,T_,F_,F_,T_,T_,F_,F_,F_,F_] rfl rfl rfl rfl (two_of HT_.out (by kernel_rfl)) (by decide) (by decide) (fun K hK => ?_) (fun K hK => ?_)
                 ·skip
                  refine Kd.R_lit_step (Kd.int .i64) _ 3 ?hg (N := 36) ?hd (xs := ([10, 5, 20, 40, 1] : List Int)) (inner := [.int .i64 10, .int .i64 5, .int .i64 20, .int .i64 40, .int .i64 1]) (ok := fun _ => True) (okp := fun _ => True) ?hr ?hp (fun _ hk => hk) trivial (Below.refl _ _) (Nat.le_refl _) (by simp) ?_; (case hd => rfl); (case hg => rfl); (case hr => first | (go_simp; done) | (go_simp; rfl)); (case hp => exact (Reps.one (show Kd.M (Kd.int .i64) _ _ _ 10 [.int .i64 10] from rfl) (Reps.one (show Kd.M (Kd.int .i64) _ _ _ 5 [.int .i64 5] from rfl) (Reps.one (show Kd.M (Kd.int .i64) _ _ _ 20 [.int .i64 20] from rfl) (Reps.one (show Kd.M (Kd.int .i64) _ _ _ 40 [.int .i64 40] from rfl) (Reps.one (show Kd.M (Kd.int .i64) _ _ _ 1 [.int .i64 1] from rfl) (Reps.none _ _)))))))
                  intro v355 w28 ho29 hb hg_ hnew_
                  clear hg_ hnew_
                  (first | rw [← Ny354.out] at ho29 | (simp only [Int.reduceToNat] at ho29; rw [← Ny354.out] at ho29))
                  have n0_ := za.mk (Kd.zea (by (with_reducible repeat (first | apply Kd.zg | apply Kd.zh | apply Kd.zm)); exact HO_5.out) hb)
                  have n1_ := za.mk (Kd.zqa ho29 (zoa (w := w) (g := g) (row := none) (by repeat (first | (with_reducible first | exact HK.out | apply zf.set_ | apply zn | apply zq | apply zo) | exact HK.out))))
                  have n2_ := za.mk (zc.below (by repeat (first | (with_reducible first | exact HI0.out | apply zc.alloc | apply zc.drewN | apply zc.drew | apply zc.zx) | exact HI0.out)) hb)
                  have n3_ := za.mk (zf.trans (by repeat (first | (with_reducible first | exact HK.out | apply zf.set_ | apply zn | apply zq | apply zo) | exact HK.out)) (zf.of_below hb g none) (.inl rfl))
                  have n4_ := za.mk (zv (by repeat (first | (with_reducible first | exact HB.out | apply ze | apply zb | apply zd | refine zr ?_ (zc.ge HI0.out)) | exact HB.out)) hb)
                  clear HO_5
                  clear HI0
                  clear HK
                  clear HB
                  have HO_5 := n0_
                  have HO356 := n1_
                  have HI0 := n2_
                  have HK := n3_
                  have HB := n4_
                  clear n0_ n1_ n2_ n3_ n4_
                  clear hb ho29
                  obtain ⟨Ao30, co30, eo30⟩ := Kd.zka HO356.out
                  subst eo30
                  obtain ⟨ado30, fo30, _⟩ := Kd.zta (Kd.zw HO356.out).2.2 0 (by decide) (by rw [Ny354.out]; simp)
                  cases fo30
                  refine hK.out _ _ trivial (fun hHeld => ?_)
                  clear hK K
                  refine zra (a' := ?_) ?_ ?_
                  rotate_left
                  ·show Act.put _ (some 36) _ = _
                   simp only [zpa,zpb,zpc,zpd,zpe,zk,zl]
                   rfl
                  refine zu (i := 6) (N := some 39) (v := ?_) (a' := ?_) #[T_,T_,T_,T_,T_,T_,T_,F_,T_,F_,F_,F_,F_,F_] rfl rfl (zp HT_.out (by kernel_rfl)) (fun _ _ _ h => h) (Or.inl ⟨by rfl, ?_⟩) ?_ ?_
                  rotate_left
                  ·intro w'
                   go_simp
                   with_reducible rfl
                  rotate_left
                  ·simp only [zpa,zpb,zpc,zpd,zpe,zk,zl]
                   rfl
                  exact zra (by first | (simp only [putAll,zpa,zpb,zpc,zpd,zpe]; done) | (simp only [putAll,zpa,zpb,zpc,zpd,zpe]; rfl)) (hJ3_5 (.slice (some ado30) y354.length co30, ado30) _ ⟨(by (with_reducible repeat (first | apply Kd.zg | apply Kd.zh | apply Kd.zm)); exact HO356.out), (by (with_reducible repeat (first | apply Kd.zg | apply Kd.zh | apply Kd.zm)); exact HO_5.out), ⟨_, rfl⟩, (by repeat (first | (with_reducible first | exact HI0.out | apply zc.alloc | apply zc.drewN | apply zc.drew | apply zc.zx) | exact HI0.out)), (by repeat (first | (with_reducible first | exact HK.out | apply zf.set_ | apply zn | apply zq | apply zo) | exact HK.out)), (by repeat (first | (with_reducible first | exact HB.out | apply ze | apply zb | apply zd | refine zr ?_ (zc.ge HI0.out)) | exact HB.out))⟩)
                 ·skip
                  refine zeb Try.func66 (by kernel_rfl) rfl #[.pointer (some ⟨g, 0, none⟩), .int .i64 3] (by rfl) rfl rfl (by (try simp only [zma,zmb,zmc]); first | done | rfl) ?_
                  with_reducible refine (spec_l1Rd_pick.calls kj6 g s0_0 t358 3 t360 t361 w0 _ ?side1 ?side2 A20.out).mono ?_
                  (case side1 => repeat (first | (with_reducible first | exact HI0.out | apply zc.alloc | apply zc.drewN | apply zc.drew | apply zc.zx) | exact HI0.out))
                  (case side2 => repeat (first | (with_reducible first | exact HB.out | apply ze | apply zb | apply zd | refine zr ?_ (zc.ge HI0.out)) | exact HB.out))
                  rintro e w28 ⟨rfl, hi, hb, hk⟩
                  refine ⟨_, rfl, ?_⟩
                  have n0_ := za.mk (Kd.zga (Kd.zsa (zc.apart (show zc w0 _ g s0_0 t358 from by repeat (first | (with_reducible first | exact HI0.out | apply zc.alloc | apply zc.drewN | apply zc.drew | apply zc.zx) | exact HI0.out)) (by (with_reducible repeat (first | apply Kd.zg | apply Kd.zh | apply Kd.zm)); exact HO_5.out) (by decide)) hk (fun _ h => h.2)) (fun _ h => h.1))
                  have n1_ := za.mk (zf.trans (by repeat (first | (with_reducible first | exact HK.out | apply zf.set_ | apply zn | apply zq | apply zo) | exact HK.out)) hk (.inl rfl))
                  have n2_ := za.mk (hb)
                  have n3_ := za.mk (hi)
                  clear HO_5
                  clear HK
                  clear HB
                  clear HI0
                  have HO_5 := n0_
                  have HK := n1_
                  have HB := n2_
                  have HI0 := n3_
                  clear n0_ n1_ n2_ n3_
                  (try clear hb)
                  (try clear hb2)
                  (try clear hk)
                  (try clear hi)
                  refine hK.out _ _ trivial (fun hHeld => ?_)
                  clear hK K
                  refine zra (a' := ?_) ?_ ?_
                  rotate_left
                  ·show Act.put _ (some 42) _ = _
                   simp only [zpa,zpb,zpc,zpd,zpe,zk,zl]
                   rfl
                  exact zra (by first | (simp only [putAll,zpa,zpb,zpc,zpd,zpe]; done) | (simp only [putAll,zpa,zpb,zpc,zpd,zpe]; rfl)) (hJ5_9 () _ ⟨(by (with_reducible repeat (first | apply Kd.zg | apply Kd.zh | apply Kd.zm)); exact HO_5.out), (by repeat (first | (with_reducible first | exact HI0.out | apply zc.alloc | apply zc.drewN | apply zc.drew | apply zc.zx) | exact HI0.out)), (by repeat (first | (with_reducible first | exact HK.out | apply zf.set_ | apply zn | apply zq | apply zo) | exact HK.out)), (by repeat (first | (with_reducible first | exact HB.out | apply ze | apply zb | apply zd | refine zr ?_ (zc.ge HI0.out)) | exact HB.out))⟩)
               ·skip
                rintro ⟨v355, adz_v355⟩ w29 ⟨h0_, h1_, h2_, h3_, h4_, h5_⟩
                have n0_ : za (Kd.R (Kd.int .i64) 3 w29 w.heap.size (fun _ => True) v355 y354) := ⟨h0_⟩
                have n1_ : za (Kd.R k40 40 w29 w.heap.size (fun _ => True) (.slice Ao24 x5_1.length co24) x5_1) := ⟨h1_⟩
                have n2_ : za (∃ c_, (v355 : Value) = .slice (some adz_v355) y354.length c_) := ⟨h2_⟩
                have n3_ : za (zc w0 w29 g s0_0 t353) := ⟨h3_⟩
                have n4_ : za (zf w w29 g none) := ⟨h4_⟩
                have n5_ : za (Below w0.heap.size w0 w29) := ⟨h5_⟩
                clear HO_5
                clear HI0
                clear HK
                clear HB
                clear h0_ h1_ h2_ h3_ h4_ h5_
                have HO356 := n0_
                have HO_5 := n1_
                have HA_HO356 := n2_
                have HI0 := n3_
                have HK := n4_
                have HB := n5_
                clear n0_ n1_ n2_ n3_ n4_ n5_
                have hHeld := trivial
                obtain ⟨co30, eo30⟩ := HA_HO356.out
                clear HA_HO356
                subst eo30
                refine zra (a' := ?_) ?_ ?_
                rotate_left
                ·simp only [putAll,zpa,zpb,zpc,zpd,zpe]
                 rfl
                refine one_ (i := 5) (N := some 38) #[T_,T_,T_,T_,T_,T_,F_,F_,T_,F_,F_,F_,F_,F_] rfl rfl (zxa HT_.out (by kernel_rfl)) (by decide) (fun K hK => ?_)
                refine zeb Try.func66 (by kernel_rfl) rfl #[.pointer (some ⟨g, 0, none⟩), .int .i64 5] (by rfl) rfl rfl (by (try simp only [zma,zmb,zmc]); first | done | rfl) ?_
                with_reducible refine (spec_l1Rd_pick.calls kj6 g s0_0 t353 5 t357 t358 w0 _ ?side1 ?side2 A17.out).mono ?_
                (case side1 => repeat (first | (with_reducible first | exact HI0.out | apply zc.alloc | apply zc.drewN | apply zc.drew | apply zc.zx) | exact HI0.out))
                (case side2 => repeat (first | (with_reducible first | exact HB.out | apply ze | apply zb | apply zd | refine zr ?_ (zc.ge HI0.out)) | exact HB.out))
                rintro e w31 ⟨rfl, hi, hb, hk⟩
                refine ⟨_, rfl, ?_⟩
                have n0_ := za.mk (Kd.zga (Kd.zsa (zc.apart (show zc w0 _ g s0_0 t353 from by repeat (first | (with_reducible first | exact HI0.out | apply zc.alloc | apply zc.drewN | apply zc.drew | apply zc.zx) | exact HI0.out)) (by (with_reducible repeat (first | apply Kd.zg | apply Kd.zh | apply Kd.zm)); exact HO_5.out) (by decide)) hk (fun _ h => h.2)) (fun _ h => h.1))
                have n1_ := za.mk (Kd.zga (Kd.zsa (zc.apart (show zc w0 _ g s0_0 t353 from by repeat (first | (with_reducible first | exact HI0.out | apply zc.alloc | apply zc.drewN | apply zc.drew | apply zc.zx) | exact HI0.out)) (by (with_reducible repeat (first | apply Kd.zg | apply Kd.zh | apply Kd.zm)); exact HO356.out) (by decide)) hk (fun _ h => h.2)) (fun _ h => h.1))
                have n2_ := za.mk (zf.trans (by repeat (first | (with_reducible first | exact HK.out | apply zf.set_ | apply zn | apply zq | apply zo) | exact HK.out)) hk (.inl rfl))
                have n3_ := za.mk (hb)
                have n4_ := za.mk (hi)
                clear HO_5
                clear HO356
                clear HK
                clear HB
                clear HI0
                have HO_5 := n0_
                have HO356 := n1_
                have HK := n2_
                have HB := n3_
                have HI0 := n4_
                clear n0_ n1_ n2_ n3_ n4_
                (try clear hb)
                (try clear hb2)
                (try clear hk)
                (try clear hi)
                refine hK.out _ _ trivial (fun hHeld => ?_)
                clear hK K
                refine zra (a' := ?_) ?_ ?_
                rotate_left
                ·show Act.put _ (some 38) _ = _
                 simp only [zpa,zpb,zpc,zpd,zpe,zk,zl]
                 rfl
                refine zu (i := 6) (N := some 39) (v := ?_) (a' := ?_) #[T_,T_,T_,T_,T_,T_,T_,F_,T_,F_,F_,F_,F_,F_] rfl rfl (zp HT_.out (by kernel_rfl)) (fun _ _ _ h => h) (Or.inl ⟨by rfl, ?_⟩) ?_ ?_
                rotate_left
                ·intro w'
                 go_simp
                 with_reducible rfl
                rotate_left
                ·simp only [zpa,zpb,zpc,zpd,zpe,zk,zl]
                 rfl
                exact zra (by first | (simp only [putAll,zpa,zpb,zpc,zpd,zpe]; done) | (simp only [putAll,zpa,zpb,zpc,zpd,zpe]; rfl)) (hJ3_5 (.slice (some adz_v355) y354.length co30, adz_v355) _ ⟨(by (with_reducible repeat (first | apply Kd.zg | apply Kd.zh | apply Kd.zm)); exact HO356.out), (by (with_reducible repeat (first | apply Kd.zg | apply Kd.zh | apply Kd.zm)); exact HO_5.out), ⟨_, rfl⟩, (by repeat (first | (with_reducible first | exact HI0.out | apply zc.alloc | apply zc.drewN | apply zc.drew | apply zc.zx) | exact HI0.out)), (by repeat (first | (with_reducible first | exact HK.out | apply zf.set_ | apply zn | apply zq | apply zo) | exact HK.out)), (by repeat (first | (with_reducible first | exact HB.out | apply ze | apply zb | apply zd | refine zr ?_ (zc.ge HI0.out)) | exact HB.out))⟩)
              ·skip
               rintro _ w28 ⟨h0_, h1_, h2_, h3_⟩
               have n0_ : za (Kd.R k40 40 w28 w.heap.size (fun _ => True) (.slice Ao24 x5_1.length co24) x5_1) := ⟨h0_⟩
               have n1_ : za (zc w0 w28 g s0_0 t361) := ⟨h1_⟩
               have n2_ : za (zf w w28 g none) := ⟨h2_⟩
               have n3_ : za (Below w0.heap.size w0 w28) := ⟨h3_⟩
               clear HO_5
               clear HI0
               clear HK
               clear HB
               clear h0_ h1_ h2_ h3_
               have HO_5 := n0_
               have HI0 := n1_
               have HK := n2_
               have HB := n3_
               clear n0_ n1_ n2_ n3_
               have hHeld := trivial
               refine zra (a' := ?_) ?_ ?_
               rotate_left
               ·simp only [putAll,zpa,zpb,zpc,zpd,zpe]
                rfl
               refine one_ (i := 3) (N := some 36) #[T_,T_,T_,T_,T_,T_,F_,F_,T_,T_,F_,F_,F_,F_] rfl rfl (zxa HT_.out (by kernel_rfl)) (by decide) (fun K hK => ?_)
               refine Kd.R_lit_step (Kd.int .i64) _ 3 ?hg (N := 36) ?hd (xs := ([10, 5, 20, 40, 1] : List Int)) (inner := [.int .i64 10, .int .i64 5, .int .i64 20, .int .i64 40, .int .i64 1]) (ok := fun _ => True) (okp := fun _ => True) ?hr ?hp (fun _ hk => hk) trivial (Below.refl _ _) (Nat.le_refl _) (by simp) ?_; (case hd => rfl); (case hg => rfl); (case hr => first | (go_simp; done) | (go_simp; rfl)); (case hp => exact (Reps.one (show Kd.M (Kd.int .i64) _ _ _ 10 [.int .i64 10] from rfl) (Reps.one (show Kd.M (Kd.int .i64) _ _ _ 5 [.int .i64 5] from rfl) (Reps.one (show Kd.M (Kd.int .i64) _ _ _ 20 [.int .i64 20] from rfl) (Reps.one (show Kd.M (Kd.int .i64) _ _ _ 40 [.int .i64 40] from rfl) (Reps.one (show Kd.M (Kd.int .i64) _ _ _ 1 [.int .i64 1] from rfl) (Reps.none _ _)))))))
               intro v355 w29 ho30 hb hg_ hnew_
               clear hg_ hnew_
               (first | rw [← Ny354.out] at ho30 | (simp only [Int.reduceToNat] at ho30; rw [← Ny354.out] at ho30))
               have n0_ := za.mk (Kd.zea (by (with_reducible repeat (first | apply Kd.zg | apply Kd.zh | apply Kd.zm)); exact HO_5.out) hb)
               have n1_ := za.mk (Kd.zqa ho30 (zoa (w := w) (g := g) (row := none) (by repeat (first | (with_reducible first | exact HK.out | apply zf.set_ | apply zn | apply zq | apply zo) | exact HK.out))))
               have n2_ := za.mk (zc.below (by repeat (first | (with_reducible first | exact HI0.out | apply zc.alloc | apply zc.drewN | apply zc.drew | apply zc.zx) | exact HI0.out)) hb)
               have n3_ := za.mk (zf.trans (by repeat (first | (with_reducible first | exact HK.out | apply zf.set_ | apply zn | apply zq | apply zo) | exact HK.out)) (zf.of_below hb g none) (.inl rfl))
               have n4_ := za.mk (zv (by repeat (first | (with_reducible first | exact HB.out | apply ze | apply zb | apply zd | refine zr ?_ (zc.ge HI0.out)) | exact HB.out)) hb)
               clear HO_5
               clear HI0
               clear HK
               clear HB
               have HO_5 := n0_
               have HO356 := n1_
               have HI0 := n2_
               have HK := n3_
               have HB := n4_
               clear n0_ n1_ n2_ n3_ n4_
               clear hb ho30
               obtain ⟨Ao31, co31, eo31⟩ := Kd.zka HO356.out
               subst eo31
               obtain ⟨ado31, fo31, _⟩ := Kd.zta (Kd.zw HO356.out).2.2 0 (by decide) (by rw [Ny354.out]; simp)
               cases fo31
               refine hK.out _ _ trivial (fun hHeld => ?_)
               clear hK K
               refine zra (a' := ?_) ?_ ?_
               rotate_left
               ·show Act.put _ (some 36) _ = _
                simp only [zpa,zpb,zpc,zpd,zpe,zk,zl]
                rfl
               refine zu (i := 6) (N := some 39) (v := ?_) (a' := ?_) #[T_,T_,T_,T_,T_,T_,T_,F_,T_,T_,F_,F_,F_,F_] rfl rfl (zp HT_.out (by kernel_rfl)) (fun _ _ _ h => h) (Or.inl ⟨by rfl, ?_⟩) ?_ ?_
               rotate_left
               ·intro w'
                go_simp
                with_reducible rfl
               rotate_left
               ·simp only [zpa,zpb,zpc,zpd,zpe,zk,zl]
                rfl
               exact zra (by first | (simp only [putAll,zpa,zpb,zpc,zpd,zpe]; done) | (simp only [putAll,zpa,zpb,zpc,zpd,zpe]; rfl)) (hJ3_5_9 (.slice (some ado31) y354.length co31, ado31) _ ⟨(by (with_reducible repeat (first | apply Kd.zg | apply Kd.zh | apply Kd.zm)); exact HO356.out), (by (with_reducible repeat (first | apply Kd.zg | apply Kd.zh | apply Kd.zm)); exact HO_5.out), ⟨_, rfl⟩, (by repeat (first | (with_reducible first | exact HI0.out | apply zc.alloc | apply zc.drewN | apply zc.drew | apply zc.zx) | exact HI0.out)), (by repeat (first | (with_reducible first | exact HK.out | apply zf.set_ | apply zn | apply zq | apply zo) | exact HK.out)), (by repeat (first | (with_reducible first | exact HB.out | apply ze | apply zb | apply zd | refine zr ?_ (zc.ge HI0.out)) | exact HB.out))⟩)
             ·skip
              rintro ⟨v355, adz_v355⟩ w30 ⟨h0_, h1_, h2_, h3_, h4_, h5_⟩
              have n0_ : za (Kd.R (Kd.int .i64) 3 w30 w.heap.size (fun _ => True) v355 y354) := ⟨h0_⟩
              have n1_ : za (Kd.R k40 40 w30 w.heap.size (fun _ => True) (.slice Ao24 x5_1.length co24) x5_1) := ⟨h1_⟩
              have n2_ : za (∃ c_, (v355 : Value) = .slice (some adz_v355) y354.length c_) := ⟨h2_⟩
              have n3_ : za (zc w0 w30 g s0_0 t358) := ⟨h3_⟩
              have n4_ : za (zf w w30 g none) := ⟨h4_⟩
              have n5_ : za (Below w0.heap.size w0 w30) := ⟨h5_⟩
              clear HO_5
              clear HI0
              clear HK
              clear HB
              clear h0_ h1_ h2_ h3_ h4_ h5_
              have HO356 := n0_
              have HO_5 := n1_
              have HA_HO356 := n2_
              have HI0 := n3_
              have HK := n4_
              have HB := n5_
              clear n0_ n1_ n2_ n3_ n4_ n5_
              have hHeld := trivial
              obtain ⟨co31, eo31⟩ := HA_HO356.out
              clear HA_HO356
              subst eo31
              refine zra (a' := ?_) ?_ ?_
              rotate_left
              ·simp only [putAll,zpa,zpb,zpc,zpd,zpe]
               rfl
              refine two_ (i := 7) (j := 9) (Ni := some 40) (Nj := some 42) #[T_,T_,T_,T_,T_,T_,T_,T_,T_,F_,F_,F_,F_,F_] #[T_,T_,T_,T_,T_,T_,T_,F_,T_,T_,F_,F_,F_,F_] rfl rfl rfl rfl (two_of HT_.out (by kernel_rfl)) (by decide) (by decide) (fun K hK => ?_) (fun K hK => ?_)
              ·skip
               (have p359 : 0 ≤ (t357 : Int) := of_decide_eq_true (by assumption); have q359 : t357 < (y354.length : Int) := of_decide_eq_true (by assumption); obtain ⟨ad359, e359, hx359_0⟩ := Kd.zta (Kd.zw HO356.out).2.2 t357 p359 q359; obtain rfl : adz_v355 = ad359 := (by injection e359))
               refine value_ (w1 := ?_) (v := ?_) (by rfl) rfl ?_ ?_
               rotate_left 2
               ·go_simp
                constructor
                ·rfl
                ·rfl
               clear hx359_0
               refine hK.out _ _ trivial (fun hHeld => ?_)
               clear hK K
               refine zra (a' := ?_) ?_ ?_
               rotate_left
               ·show Act.put _ (some 40) _ = _
                simp only [zpa,zpb,zpc,zpd,zpe,zk,zl]
                rfl
               exact zra (by first | (simp only [putAll,zpa,zpb,zpc,zpd,zpe]; done) | (simp only [putAll,zpa,zpb,zpc,zpd,zpe]; rfl)) (hJ3_5_7 (.slice (some adz_v355) y354.length co31, adz_v355) _ ⟨(by (with_reducible repeat (first | apply Kd.zg | apply Kd.zh | apply Kd.zm)); exact HO356.out), (by (with_reducible repeat (first | apply Kd.zg | apply Kd.zh | apply Kd.zm)); exact HO_5.out), ⟨_, rfl⟩, (by repeat (first | (with_reducible first | exact HI0.out | apply zc.alloc | apply zc.drewN | apply zc.drew | apply zc.zx) | exact HI0.out)), (by repeat (first | (with_reducible first | exact HK.out | apply zf.set_ | apply zn | apply zq | apply zo) | exact HK.out)), (by repeat (first | (with_reducible first | exact HB.out | apply ze | apply zb | apply zd | refine zr ?_ (zc.ge HI0.out)) | exact HB.out))⟩)
              ·skip
               refine zeb Try.func66 (by kernel_rfl) rfl #[.pointer (some ⟨g, 0, none⟩), .int .i64 3] (by rfl) rfl rfl (by (try simp only [zma,zmb,zmc]); first | done | rfl) ?_
               with_reducible refine (spec_l1Rd_pick.calls kj6 g s0_0 t358 3 t360 t361 w0 _ ?side1 ?side2 A20.out).mono ?_
               (case side1 => repeat (first | (with_reducible first | exact HI0.out | apply zc.alloc | apply zc.drewN | apply zc.drew | apply zc.zx) | exact HI0.out))
               (case side2 => repeat (first | (with_reducible first | exact HB.out | apply ze | apply zb | apply zd | refine zr ?_ (zc.ge HI0.out)) | exact HB.out))
               rintro e w32 ⟨rfl, hi, hb, hk⟩
               refine ⟨_, rfl, ?_⟩
               have n0_ := za.mk (Kd.zga (Kd.zsa (zc.apart (show zc w0 _ g s0_0 t358 from by repeat (first | (with_reducible first | exact HI0.out | apply zc.alloc | apply zc.drewN | apply zc.drew | apply zc.zx) | exact HI0.out)) (by (with_reducible repeat (first | apply Kd.zg | apply Kd.zh | apply Kd.zm)); exact HO_5.out) (by decide)) hk (fun _ h => h.2)) (fun _ h => h.1))
               have n1_ := za.mk (Kd.zga (Kd.zsa (zc.apart (show zc w0 _ g s0_0 t358 from by repeat (first | (with_reducible first | exact HI0.out | apply zc.alloc | apply zc.drewN | apply zc.drew | apply zc.zx) | exact HI0.out)) (by (with_reducible repeat (first | apply Kd.zg | apply Kd.zh | apply Kd.zm)); exact HO356.out) (by decide)) hk (fun _ h => h.2)) (fun _ h => h.1))
               have n2_ := za.mk (zf.trans (by repeat (first | (with_reducible first | exact HK.out | apply zf.set_ | apply zn | apply zq | apply zo) | exact HK.out)) hk (.inl rfl))
               have n3_ := za.mk (hb)
               have n4_ := za.mk (hi)
               clear HO_5
               clear HO356
               clear HK
               clear HB
               clear HI0
               have HO_5 := n0_
               have HO356 := n1_
               have HK := n2_
               have HB := n3_
               have HI0 := n4_
               clear n0_ n1_ n2_ n3_ n4_
               (try clear hb)
               (try clear hb2)
               (try clear hk)
               (try clear hi)
               refine hK.out _ _ trivial (fun hHeld => ?_)
               clear hK K
               refine zra (a' := ?_) ?_ ?_
               rotate_left
               ·show Act.put _ (some 42) _ = _
                simp only [zpa,zpb,zpc,zpd,zpe,zk,zl]
                rfl
               exact zra (by first | (simp only [putAll,zpa,zpb,zpc,zpd,zpe]; done) | (simp only [putAll,zpa,zpb,zpc,zpd,zpe]; rfl)) (hJ3_5_9 (.slice (some adz_v355) y354.length co31, adz_v355) _ ⟨(by (with_reducible repeat (first | apply Kd.zg | apply Kd.zh | apply Kd.zm)); exact HO356.out), (by (with_reducible repeat (first | apply Kd.zg | apply Kd.zh | apply Kd.zm)); exact HO_5.out), ⟨_, rfl⟩, (by repeat (first | (with_reducible first | exact HI0.out | apply zc.alloc | apply zc.drewN | apply zc.drew | apply zc.zx) | exact HI0.out)), (by repeat (first | (with_reducible first | exact HK.out | apply zf.set_ | apply zn | apply zq | apply zo) | exact HK.out)), (by repeat (first | (with_reducible first | exact HB.out | apply ze | apply zb | apply zd | refine zr ?_ (zc.ge HI0.out)) | exact HB.out))⟩)
            ·skip
             rintro ⟨v355, adz_v355⟩ w31 ⟨h0_, h1_, h2_, h3_, h4_, h5_⟩
             have n0_ : za (Kd.R (Kd.int .i64) 3 w31 w.heap.size (fun _ => True) v355 y354) := ⟨h0_⟩
             have n1_ : za (Kd.R k40 40 w31 w.heap.size (fun _ => True) (.slice Ao24 x5_1.length co24) x5_1) := ⟨h1_⟩
             have n2_ : za (∃ c_, (v355 : Value) = .slice (some adz_v355) y354.length c_) := ⟨h2_⟩
             have n3_ : za (zc w0 w31 g s0_0 t361) := ⟨h3_⟩
             have n4_ : za (zf w w31 g none) := ⟨h4_⟩
             have n5_ : za (Below w0.heap.size w0 w31) := ⟨h5_⟩
             clear HO_5
             clear HI0
             clear HK
             clear HB
             clear h0_ h1_ h2_ h3_ h4_ h5_
             have HO356 := n0_
             have HO_5 := n1_
             have HA_HO356 := n2_
             have HI0 := n3_
             have HK := n4_
             have HB := n5_
             clear n0_ n1_ n2_ n3_ n4_ n5_
             have hHeld := trivial
             obtain ⟨co32, eo32⟩ := HA_HO356.out
             clear HA_HO356
             subst eo32
             refine zra (a' := ?_) ?_ ?_
             rotate_left
             ·simp only [putAll,zpa,zpb,zpc,zpd,zpe]
              rfl
             refine one_ (i := 7) (N := some 40) #[T_,T_,T_,T_,T_,T_,T_,T_,T_,T_,F_,F_,F_,F_] rfl rfl (zxa HT_.out (by kernel_rfl)) (by decide) (fun K hK => ?_)
             (have p359 : 0 ≤ (t357 : Int) := of_decide_eq_true (by assumption); have q359 : t357 < (y354.length : Int) := of_decide_eq_true (by assumption); obtain ⟨ad359, e359, hx359_0⟩ := Kd.zta (Kd.zw HO356.out).2.2 t357 p359 q359; obtain rfl : adz_v355 = ad359 := (by injection e359))
             refine value_ (w1 := ?_) (v := ?_) (by rfl) rfl ?_ ?_
             rotate_left 2
             ·go_simp
              constructor
              ·rfl
              ·rfl
             clear hx359_0
             refine hK.out _ _ trivial (fun hHeld => ?_)
             clear hK K
             refine zra (a' := ?_) ?_ ?_
             rotate_left
             ·show Act.put _ (some 40) _ = _
              simp only [zpa,zpb,zpc,zpd,zpe,zk,zl]
              rfl
             exact zra (by first | (simp only [putAll,zpa,zpb,zpc,zpd,zpe]; done) | (simp only [putAll,zpa,zpb,zpc,zpd,zpe]; rfl)) (hJ3_5_7_9 (.slice (some adz_v355) y354.length co32, adz_v355) _ ⟨(by (with_reducible repeat (first | apply Kd.zg | apply Kd.zh | apply Kd.zm)); exact HO356.out), (by (with_reducible repeat (first | apply Kd.zg | apply Kd.zh | apply Kd.zm)); exact HO_5.out), ⟨_, rfl⟩, (by repeat (first | (with_reducible first | exact HI0.out | apply zc.alloc | apply zc.drewN | apply zc.drew | apply zc.zx) | exact HI0.out)), (by repeat (first | (with_reducible first | exact HK.out | apply zf.set_ | apply zn | apply zq | apply zo) | exact HK.out)), (by repeat (first | (with_reducible first | exact HB.out | apply ze | apply zb | apply zd | refine zr ?_ (zc.ge HI0.out)) | exact HB.out))⟩)
           ·skip
            rintro ⟨v355, adz_v355⟩ w30 ⟨h0_, h1_, h2_, h3_, h4_, h5_⟩
            have n0_ : za (Kd.R (Kd.int .i64) 3 w30 w.heap.size (fun _ => True) v355 y354) := ⟨h0_⟩
            have n1_ : za (Kd.R k40 40 w30 w.heap.size (fun _ => True) (.slice Ao24 x5_1.length co24) x5_1) := ⟨h1_⟩
            have n2_ : za (∃ c_, (v355 : Value) = .slice (some adz_v355) y354.length c_) := ⟨h2_⟩
            have n3_ : za (zc w0 w30 g s0_0 t358) := ⟨h3_⟩
            have n4_ : za (zf w w30 g none) := ⟨h4_⟩
            have n5_ : za (Below w0.heap.size w0 w30) := ⟨h5_⟩
            clear HO_5
            clear HI0
            clear HK
            clear HB
            clear h0_ h1_ h2_ h3_ h4_ h5_
            have HO356 := n0_
            have HO_5 := n1_
            have HA_HO356 := n2_
            have HI0 := n3_
            have HK := n4_
            have HB := n5_
            clear n0_ n1_ n2_ n3_ n4_ n5_
            have hHeld := trivial
            obtain ⟨co31, eo31⟩ := HA_HO356.out
            clear HA_HO356
            subst eo31
            refine zra (a' := ?_) ?_ ?_
            rotate_left
            ·simp only [putAll,zpa,zpb,zpc,zpd,zpe]
             rfl
            refine one_ (i := 9) (N := some 42) #[T_,T_,T_,T_,T_,T_,T_,T_,T_,T_,F_,F_,F_,F_] rfl rfl (zxa HT_.out (by kernel_rfl)) (by decide) (fun K hK => ?_)
            refine zeb Try.func66 (by kernel_rfl) rfl #[.pointer (some ⟨g, 0, none⟩), .int .i64 3] (by rfl) rfl rfl (by (try simp only [zma,zmb,zmc]); first | done | rfl) ?_
            with_reducible refine (spec_l1Rd_pick.calls kj6 g s0_0 t358 3 t360 t361 w0 _ ?side1 ?side2 A20.out).mono ?_
            (case side1 => repeat (first | (with_reducible first | exact HI0.out | apply zc.alloc | apply zc.drewN | apply zc.drew | apply zc.zx) | exact HI0.out))
            (case side2 => repeat (first | (with_reducible first | exact HB.out | apply ze | apply zb | apply zd | refine zr ?_ (zc.ge HI0.out)) | exact HB.out))
            rintro e w32 ⟨rfl, hi, hb, hk⟩
            refine ⟨_, rfl, ?_⟩
            have n0_ := za.mk (Kd.zga (Kd.zsa (zc.apart (show zc w0 _ g s0_0 t358 from by repeat (first | (with_reducible first | exact HI0.out | apply zc.alloc | apply zc.drewN | apply zc.drew | apply zc.zx) | exact HI0.out)) (by (with_reducible repeat (first | apply Kd.zg | apply Kd.zh | apply Kd.zm)); exact HO_5.out) (by decide)) hk (fun _ h => h.2)) (fun _ h => h.1))
            have n1_ := za.mk (Kd.zga (Kd.zsa (zc.apart (show zc w0 _ g s0_0 t358 from by repeat (first | (with_reducible first | exact HI0.out | apply zc.alloc | apply zc.drewN | apply zc.drew | apply zc.zx) | exact HI0.out)) (by (with_reducible repeat (first | apply Kd.zg | apply Kd.zh | apply Kd.zm)); exact HO356.out) (by decide)) hk (fun _ h => h.2)) (fun _ h => h.1))
            have n2_ := za.mk (zf.trans (by repeat (first | (with_reducible first | exact HK.out | apply zf.set_ | apply zn | apply zq | apply zo) | exact HK.out)) hk (.inl rfl))
            have n3_ := za.mk (hb)
            have n4_ := za.mk (hi)
            clear HO_5
            clear HO356
            clear HK
            clear HB
            clear HI0
            have HO_5 := n0_
            have HO356 := n1_
            have HK := n2_
            have HB := n3_
            have HI0 := n4_
            clear n0_ n1_ n2_ n3_ n4_
            (try clear hb)
            (try clear hb2)
            (try clear hk)
            (try clear hi)
            refine hK.out _ _ trivial (fun hHeld => ?_)
            clear hK K
            refine zra (a' := ?_) ?_ ?_
            rotate_left
            ·show Act.put _ (some 42) _ = _
             simp only [zpa,zpb,zpc,zpd,zpe,zk,zl]
             rfl
            exact zra (by first | (simp only [putAll,zpa,zpb,zpc,zpd,zpe]; done) | (simp only [putAll,zpa,zpb,zpc,zpd,zpe]; rfl)) (hJ3_5_7_9 (.slice (some adz_v355) y354.length co31, adz_v355) _ ⟨(by (with_reducible repeat (first | apply Kd.zg | apply Kd.zh | apply Kd.zm)); exact HO356.out), (by (with_reducible repeat (first | apply Kd.zg | apply Kd.zh | apply Kd.zm)); exact HO_5.out), ⟨_, rfl⟩, (by repeat (first | (with_reducible first | exact HI0.out | apply zc.alloc | apply zc.drewN | apply zc.drew | apply zc.zx) | exact HI0.out)), (by repeat (first | (with_reducible first | exact HK.out | apply zf.set_ | apply zn | apply zq | apply zo) | exact HK.out)), (by repeat (first | (with_reducible first | exact HB.out | apply ze | apply zb | apply zd | refine zr ?_ (zc.ge HI0.out)) | exact HB.out))⟩)
          rintro ⟨v355, adz_v355⟩ w31 ⟨h0_, h1_, h2_, h3_, h4_, h5_⟩
          have n0_ : za (Kd.R (Kd.int .i64) 3 w31 w.heap.size (fun _ => True) v355 y354) := ⟨h0_⟩
          have n1_ : za (Kd.R k40 40 w31 w.heap.size (fun _ => True) (.slice Ao24 x5_1.length co24) x5_1) := ⟨h1_⟩
          have n2_ : za (∃ c_, (v355 : Value) = .slice (some adz_v355) y354.length c_) := ⟨h2_⟩
          have n3_ : za (zc w0 w31 g s0_0 t361) := ⟨h3_⟩
          have n4_ : za (zf w w31 g none) := ⟨h4_⟩
          have n5_ : za (Below w0.heap.size w0 w31) := ⟨h5_⟩
          clear HO_5
          clear HI0
          clear HK
          clear HB
          clear h0_ h1_ h2_ h3_ h4_ h5_
          have HO356 := n0_
          have HO_5 := n1_
          have HA_HO356 := n2_
          have HI0 := n3_
          have HK := n4_
          have HB := n5_
          clear n0_ n1_ n2_ n3_ n4_ n5_
          have hHeld := trivial
          obtain ⟨co32, eo32⟩ := HA_HO356.out
          clear HA_HO356
          subst eo32
          refine zra (a' := ?_) ?_ ?_
          rotate_left
          ·simp only [putAll,zpa,zpb,zpc,zpd,zpe]
           rfl
          refine zu (i := 10) (N := some 43) (v := ?_) (a' := ?_) #[T_,T_,T_,T_,T_,T_,T_,T_,T_,T_,T_,F_,F_,F_] rfl rfl (zp HT_.out (by kernel_rfl)) (fun _ _ _ h => h) (Or.inl ⟨by rfl, ?_⟩) ?_ ?_
          rotate_left
          ·intro w'
           go_simp
           with_reducible rfl
          rotate_left
          ·simp only [zpa,zpb,zpc,zpd,zpe,zk,zl]
           rfl
          refine one_ (i := 11) (N := some 44) #[T_,T_,T_,T_,T_,T_,T_,T_,T_,T_,T_,T_,F_,F_] rfl rfl (zxa HT_.out (by kernel_rfl)) (by decide) (fun K hK => ?_)
          refine value_ (w1 := ?_) (v := ?_) (by rfl) rfl ?_ ?_
          rotate_left 2
          ·go_simp
           constructor
           ·rfl
           ·rfl
          refine hK.out _ _ trivial (fun hHeld => ?_)
          clear hK K
          refine zra (a' := ?_) ?_ ?_
          rotate_left
          ·show Act.put _ (some 44) _ = _
           simp only [zpa,zpb,zpc,zpd,zpe,zk,zl]
           rfl
          refine one_ (i := 12) (N := some 45) #[T_,T_,T_,T_,T_,T_,T_,T_,T_,T_,T_,T_,T_,F_] rfl rfl (zxa HT_.out (by kernel_rfl)) (by decide) (fun K hK => ?_)
          refine Kd.R_append_step k40 w.heap.size (by rfl) (.tmp 33) (.tmp 44) 27 40 (.agg #[(.int .i64 0), (.int .i64 0), (.int .i64 0), (.int .i64 0)]) 32 rfl Try.underlying27 info40 rfl (by decide) (by omega) (.slice Ao24 x5_1.length co24) x5_1 (⟨x6_1, a1, rd y354 t357, t360⟩ : S40) [.int .i64 x6_1, .int .i64 a1, .int .i64 (rd y354 t357), .int .i64 t360] (fun _ => True) (fun _ => False) rfl rfl ?aP (fun _ hk => hk.elim) ?aF ?aO (Below.refl _ _) ?aS ?aL ?_
          (case aP => exact k40_mkM _ _ _ (⟨x6_1, a1, rd y354 t357, t360⟩ : S40))
          (case aF => exact (fun _ _ => trivial))
          (case aO => exact (by (with_reducible repeat (first | apply Kd.zg | apply Kd.zh | apply Kd.zm)); exact HO_5.out))
          (case aS => exact (zoa (w := w) (g := g) (row := none) (by repeat (first | (with_reducible first | exact HK.out | apply zf.set_ | apply zn | apply zq | apply zo) | exact HK.out))))
          (case aL => have := LMc21.out; omega)
          intro v363 w33 ho hb hg hat
          rw [← Ny362.out] at ho
          have n0_ := za.mk (zc.grown (by repeat (first | (with_reducible first | exact HI0.out | apply zc.alloc | apply zc.drewN | apply zc.drew | apply zc.zx) | exact HI0.out)) hg (zc.zya HI0.out HO_5.out (by decide)))
          have n1_ := za.mk (Kd.R_over' (by (with_reducible repeat (first | apply Kd.zg | apply Kd.zh | apply Kd.zm)); exact HO356.out) (Kd.R_typed (by (with_reducible repeat (first | apply Kd.zg | apply Kd.zh | apply Kd.zm)); exact HO_5.out)) (by decide) hg)
          have n2_ := za.mk (zab (by repeat (first | (with_reducible first | exact HB.out | apply ze | apply zb | apply zd | refine zr ?_ (zc.ge HI0.out)) | exact HB.out)) HL.out hb)
          have n3_ := za.mk (zf.trans (by repeat (first | (with_reducible first | exact HK.out | apply zf.set_ | apply zn | apply zq | apply zo) | exact HK.out)) (zf.zgb hg g) (Kd.zyb HO_5.out))
          have n4_ := za.mk (ho)
          clear HI0
          clear HO356
          clear HB
          clear HK
          clear HO_5
          have HI0 := n0_
          have HO356 := n1_
          have HB := n2_
          have HK := n3_
          have HO364 := n4_
          clear n0_ n1_ n2_ n3_ n4_
          clear ho hb hg hat
          refine hK.out _ _ trivial (fun hHeld => ?_)
          clear hK K
          refine zra (a' := ?_) ?_ ?_
          rotate_left
          ·show Act.put _ (some 45) _ = _
           simp only [zpa,zpb,zpc,zpd,zpe,zk,zl]
           rfl
          refine zu (i := 13) (N := some 5) (v := ?_) (a' := ?_) #[T_,T_,T_,T_,T_,T_,T_,T_,T_,T_,T_,T_,T_,T_] rfl rfl (zp HT_.out (by kernel_rfl)) (fun _ _ _ h => h) (Or.inl ⟨by rfl, ?_⟩) ?_ ?_
          rotate_left
          ·intro w'
           go_simp
           with_reducible rfl
          rotate_left
          ·simp only [zpa,zpb,zpc,zpd,zpe,zk,zl]
           rfl
          refine done_ (zxb HT_.out (by kernel_rfl)) ?_
          try go_wp2_with (first | ((with_reducible refine zt (f := 66) rfl ?_); refine zgo (some 48) Try.func66 #[.pointer (some ⟨g, 0, none⟩), .int .i64 3] rfl ?_; (with_reducible refine (spec_l1Rd_pick.calls kj6 g s0_0 t361 3 t365 t366 w0 _ ?side1 ?side2 A22.out).mono ?_); (case side1 => repeat (first | (with_reducible first | exact HI0.out | apply zc.alloc | apply zc.drewN | apply zc.drew | apply zc.zx) | exact HI0.out)); (case side2 => repeat (first | (with_reducible first | exact HB.out | apply ze | apply zb | apply zd | refine zr ?_ (zc.ge HI0.out)) | exact HB.out)); rintro e w34 ⟨rfl, hi, hb, hk⟩; refine ⟨_, rfl, ?_⟩; have n0_ := za.mk (Kd.zga (Kd.zsa (zc.apart (show zc w0 _ g s0_0 t361 from by repeat (first | (with_reducible first | exact HI0.out | apply zc.alloc | apply zc.drewN | apply zc.drew | apply zc.zx) | exact HI0.out)) (by (with_reducible repeat (first | apply Kd.zg | apply Kd.zh | apply Kd.zm)); exact HO356.out) (by decide)) hk (fun _ h => h.2)) (fun _ h => h.1)); have n1_ := za.mk (Kd.zga (Kd.zsa (zc.apart (show zc w0 _ g s0_0 t361 from by repeat (first | (with_reducible first | exact HI0.out | apply zc.alloc | apply zc.drewN | apply zc.drew | apply zc.zx) | exact HI0.out)) (by (with_reducible repeat (first | apply Kd.zg | apply Kd.zh | apply Kd.zm)); exact HO364.out) (by decide)) hk (fun _ h => h.2)) (fun _ h => h.1)); have n2_ := za.mk (zf.trans (by repeat (first | (with_reducible first | exact HK.out | apply zf.set_ | apply zn | apply zq | apply zo) | exact HK.out)) hk (.inl rfl)); have n3_ := za.mk (hb); have n4_ := za.mk (hi); clear HO356; clear HO364; clear HK; clear HB; clear HI0; have HO356 := n0_; have HO364 := n1_; have HK := n2_; have HB := n3_; have HI0 := n4_; clear n0_ n1_ n2_ n3_ n4_; (try clear hb); (try clear hb2); (try clear hk); (try clear hi)))
          go_roundg kj6
          case measure => have := HK1.out; have := HJ6.out; omega
          case rel => exact ⟨(y362), (wrap64 (a1 + t365)), (t366), (by first | rfl | (simp; done) | (simp [*]; done)), H', ⟨by have := HK1.out; have := HJ6.out; omega⟩, ⟨by (with_reducible repeat (first | apply Kd.zg | apply Kd.zh | apply Kd.zm)); exact HO364.out⟩, ⟨by repeat (first | (with_reducible first | exact HI0.out | apply zc.alloc | apply zc.drewN | apply zc.drew | apply zc.zx) | exact HI0.out)⟩, ⟨by repeat (first | (with_reducible first | exact HK.out | apply zf.set_ | apply zn | apply zq | apply zo) | exact HK.out)⟩, ⟨by repeat (first | (with_reducible first | exact HB.out | apply ze | apply zb | apply zd | refine zr ?_ (zc.ge HI0.out)) | exact HB.out)⟩⟩
         ·rw [if_neg c21] at H
          exact absurd H (by simp)
        ·rw [if_neg c19] at H
         exact absurd H (by simp)
       ·rw [if_neg c18] at H
        exact absurd H (by simp)
      ·rw [if_neg c16] at H
       have c16b0 : decide (a1 < (wrap64 ((wrap64 (x6_1 + 1)) + t352))) = false := decide_eq_false c16
       clear c16
       obtain ⟨y367, hy367⟩ : ∃ y_ : List Int, y_ = (([10, 5, 20, 40, 1] : List Int)) := ⟨_, rfl⟩
       replace H : ((spec_l1Rd_pick.f kj6 s0_0 t353 5).bind fun bt370 => (if 0 ≤ bt370.1 then (if bt370.1 < (y367.length : Int) then ((spec_l1Rd_pick.f kj6 s0_0 bt370.2 3).bind fun bt373 => (if x5_1.length < 4398046511104 then ((spec_l1Rd_pick.f kj6 s0_0 bt373.2 3).bind fun bt378 => (spec_l13Spans.l0 kj6 a1 (x5_1 ++ [(⟨x6_1, wrap64 ((wrap64 (x6_1 + 1)) + t352), rd y367 bt370.1, bt373.1⟩ : S40)]) (wrap64 ((wrap64 ((wrap64 (x6_1 + 1)) + t352)) + bt378.1)) s0_0 bt378.2)) else (none))) else (none)) else (none))) = some (r1, r2) := by first | (rw [hy367]; with_reducible exact H) | (have H2_ := (Option.bind_some _ _).symm.trans H; rw [hy367]; with_reducible exact H2_) | (have H2_ := (Option.bind_some _ _).symm.trans H; with_reducible exact H2_) | with_reducible exact H | (rw [hy367]; exact H) | exact H
       have Ny367 := za.mk hy367
       clear hy367
       replace H := Option.bind_eq_some_iff.mp H
       obtain ⟨⟨t370, t371⟩, A350, H⟩ := H
       replace H : (if 0 ≤ t370 then (if t370 < (y367.length : Int) then ((spec_l1Rd_pick.f kj6 s0_0 t371 3).bind fun bt373 => (if x5_1.length < 4398046511104 then ((spec_l1Rd_pick.f kj6 s0_0 bt373.2 3).bind fun bt378 => (spec_l13Spans.l0 kj6 a1 (x5_1 ++ [(⟨x6_1, wrap64 ((wrap64 (x6_1 + 1)) + t352), rd y367 t370, bt373.1⟩ : S40)]) (wrap64 ((wrap64 ((wrap64 (x6_1 + 1)) + t352)) + bt378.1)) s0_0 bt378.2)) else (none))) else (none)) else (none)) = some (r1, r2) := H
       have A35 := za.mk A350
       clear A350
       by_cases c36 : 0 ≤ t370
       ·rw [if_pos c36] at H
        have c36b0 : decide (0 ≤ t370) = true := decide_eq_true c36
        clear c36
        by_cases c37 : t370 < (y367.length : Int)
        ·rw [if_pos c37] at H
         have c37b0 : decide (t370 < (y367.length : Int)) = true := decide_eq_true c37
         clear c37
         replace H := Option.bind_eq_some_iff.mp H
         obtain ⟨⟨t373, t374⟩, A380, H⟩ := H
         replace H : (if x5_1.length < 4398046511104 then ((spec_l1Rd_pick.f kj6 s0_0 t374 3).bind fun bt378 => (spec_l13Spans.l0 kj6 a1 (x5_1 ++ [(⟨x6_1, wrap64 ((wrap64 (x6_1 + 1)) + t352), rd y367 t370, t373⟩ : S40)]) (wrap64 ((wrap64 ((wrap64 (x6_1 + 1)) + t352)) + bt378.1)) s0_0 bt378.2)) else (none)) = some (r1, r2) := H
         have A38 := za.mk A380
         clear A380
         by_cases c39 : x5_1.length < 4398046511104
         ·rw [if_pos c39] at H
          have LMc39 := za.mk c39
          clear c39
          obtain ⟨y375, hy375⟩ : ∃ y_ : List (S40), y_ = (x5_1 ++ [(⟨x6_1, wrap64 ((wrap64 (x6_1 + 1)) + t352), rd y367 t370, t373⟩ : S40)]) := ⟨_, rfl⟩
          replace H : ((spec_l1Rd_pick.f kj6 s0_0 t374 3).bind fun bt378 => (spec_l13Spans.l0 kj6 a1 y375 (wrap64 ((wrap64 ((wrap64 (x6_1 + 1)) + t352)) + bt378.1)) s0_0 bt378.2)) = some (r1, r2) := by first | (rw [hy375]; with_reducible exact H) | (have H2_ := (Option.bind_some _ _).symm.trans H; rw [hy375]; with_reducible exact H2_) | (have H2_ := (Option.bind_some _ _).symm.trans H; with_reducible exact H2_) | with_reducible exact H | (rw [hy375]; exact H) | exact H
          have Ny375 := za.mk hy375
          clear hy375
          replace H := Option.bind_eq_some_iff.mp H
          obtain ⟨⟨t378, t379⟩, A400, H⟩ := H
          replace H : (spec_l13Spans.l0 kj6 a1 y375 (wrap64 ((wrap64 ((wrap64 (x6_1 + 1)) + t352)) + t378)) s0_0 t379) = some (r1, r2) := H
          have A40 := za.mk A400
          clear A400
          have H' := za.mk H
          clear H
          try go_wp2_with (first | ((with_reducible refine zt (f := 66) rfl ?_); refine zgo (some 27) Try.func66 #[.pointer (some ⟨g, 0, none⟩), .int .i64 5] rfl ?_; (with_reducible refine (spec_l1Rd_pick.calls kj6 g s0_0 x1001_6 5 t352 t353 w0 _ ?side1 ?side2 A15.out).mono ?_); (case side1 => repeat (first | (with_reducible first | exact HI0.out | apply zc.alloc | apply zc.drewN | apply zc.drew | apply zc.zx) | exact HI0.out)); (case side2 => repeat (first | (with_reducible first | exact HB.out | apply ze | apply zb | apply zd | refine zr ?_ (zc.ge HI0.out)) | exact HB.out)); rintro e w41 ⟨rfl, hi, hb, hk⟩; refine ⟨_, rfl, ?_⟩; have n0_ := za.mk (Kd.zga (Kd.zsa (zc.apart (show zc w0 _ g s0_0 x1001_6 from by repeat (first | (with_reducible first | exact HI0.out | apply zc.alloc | apply zc.drewN | apply zc.drew | apply zc.zx) | exact HI0.out)) (by (with_reducible repeat (first | apply Kd.zg | apply Kd.zh | apply Kd.zm)); exact HO_5.out) (by decide)) hk (fun _ h => h.2)) (fun _ h => h.1)); have n1_ := za.mk (zf.trans (by repeat (first | (with_reducible first | exact HK.out | apply zf.set_ | apply zn | apply zq | apply zo) | exact HK.out)) hk (.inl rfl)); have n2_ := za.mk (hb); have n3_ := za.mk (hi); clear HO_5; clear HK; clear HB; clear HI0; have HO_5 := n0_; have HK := n1_; have HB := n2_; have HI0 := n3_; clear n0_ n1_ n2_ n3_; (try clear hb); (try clear hb2); (try clear hk); (try clear hi); obtain ⟨Ao42, co42, eo42⟩ := Kd.zka HO_5.out; subst eo42))
          have pi372 : (0 ≤ (t370 : Int)) = True := eq_true (of_decide_eq_true (by assumption))
          have qi372 : (t370 < (y367.length : Int)) = True := eq_true (of_decide_eq_true (by assumption))
          have n0_ := za.mk (Kd.zm HO_5.out)
          have n1_ := za.mk (zc.drew HI0.out)
          have n2_ := za.mk (zq HK.out)
          have n3_ := za.mk (zd HB.out)
          clear HO_5
          clear HI0
          clear HK
          clear HB
          have HO_5 := n0_
          have HI0 := n1_
          have HK := n2_
          have HB := n3_
          clear n0_ n1_ n2_ n3_
          refine zcc (n := 14) (S := fun w' => True) (ds := []) #[F_,F_,F_,F_,F_,F_,F_,F_,F_,F_,F_,F_,F_,F_] (by kernel_rfl) rfl rfl trivial (fun hHeld => ?_); refine zdb spec_l13Spans.tab7 spec_l13Spans.bits7 (fun HT_ HW_ => ?_)
          generalize w41.drew = w43 at HO_5 HI0 HK HB hHeld ⊢
          refine zu (i := 0) (N := some 33) (v := ?_) (a' := ?_) #[T_,F_,F_,F_,F_,F_,F_,F_,F_,F_,F_,F_,F_,F_] rfl rfl (zp HT_.out (by kernel_rfl)) (fun _ _ _ h => h) (Or.inl ⟨by rfl, ?_⟩) ?_ ?_
          rotate_left
          ·intro w'
           go_simp
           with_reducible rfl
          rotate_left
          ·simp only [zpa,zpb,zpc,zpd,zpe,zk,zl]
           rfl
          refine zu (i := 1) (N := some 34) (v := ?_) (a' := ?_) #[T_,T_,F_,F_,F_,F_,F_,F_,F_,F_,F_,F_,F_,F_] rfl rfl (zp HT_.out (by kernel_rfl)) (fun _ _ _ h => h) (Or.inl ⟨by rfl, ?_⟩) ?_ ?_
          rotate_left
          ·intro w'
           go_simp
           with_reducible rfl
          rotate_left
          ·simp only [zpa,zpb,zpc,zpd,zpe,zk,zl]
           rfl
          refine zu (i := 2) (N := some 35) (v := ?_) (a' := ?_) #[T_,T_,T_,F_,F_,F_,F_,F_,F_,F_,F_,F_,F_,F_] rfl rfl (zp HT_.out (by kernel_rfl)) (fun _ _ _ h => h) (Or.inl ⟨by rfl, ?_⟩) ?_ ?_
          rotate_left
          ·intro w'
           go_simp
           with_reducible rfl
          rotate_left
          ·simp only [zpa,zpb,zpc,zpd,zpe,zk,zl]
           rfl
          refine zu (i := 4) (N := some 37) (v := ?_) (a' := ?_) #[T_,T_,T_,F_,T_,F_,F_,F_,F_,F_,F_,F_,F_,F_] rfl rfl (zp HT_.out (by kernel_rfl)) (fun _ _ _ h => h) (Or.inl ⟨by rfl, ?_⟩) ?_ ?_
          rotate_left
          ·intro w'
           go_simp
           with_reducible rfl
          rotate_left
          ·simp only [zpa,zpb,zpc,zpd,zpe,zk,zl]
           rfl
          refine zu (i := 8) (N := some 41) (v := ?_) (a' := ?_) #[T_,T_,T_,F_,T_,F_,F_,F_,T_,F_,F_,F_,F_,F_] rfl rfl (zp HT_.out (by kernel_rfl)) (fun _ _ _ h => h) (Or.inl ⟨by rfl, ?_⟩) ?_ ?_
          rotate_left
          ·intro w'
           go_simp
           with_reducible rfl
          rotate_left
          ·simp only [zpa,zpb,zpc,zpd,zpe,zk,zl]
           rfl
          refine join_ (σ := Value × Addr) 4 #[T_,T_,T_,T_,T_,T_,T_,T_,T_,T_,F_,F_,F_,F_] (fun s_ => [(36, s_.1), (38, .int .i64 t370), (40, .int .i64 (rd y367 t370)), (42, .int .i64 t373), (39, .pointer (some (s_.2.add (t370).toNat)))]) (fun s_ w' => (Kd.R (Kd.int .i64) 3 w' w.heap.size (fun _ => True) s_.1 y367) ∧ (Kd.R k40 40 w' w.heap.size (fun _ => True) (.slice Ao42 x5_1.length co42) x5_1) ∧ (∃ c_, (s_.1 : Value) = .slice (some s_.2) y367.length c_) ∧ (zc w0 w' g s0_0 t374) ∧ (zf w w' g none) ∧ (Below w0.heap.size w0 w')) ?_ ?_
          rotate_left
          ·intro hJ3_5_7_9
           refine join_ (σ := Value × Addr) 5 #[T_,T_,T_,T_,T_,T_,T_,T_,T_,F_,F_,F_,F_,F_] (fun s_ => [(36, s_.1), (38, .int .i64 t370), (40, .int .i64 (rd y367 t370)), (39, .pointer (some (s_.2.add (t370).toNat)))]) (fun s_ w' => (Kd.R (Kd.int .i64) 3 w' w.heap.size (fun _ => True) s_.1 y367) ∧ (Kd.R k40 40 w' w.heap.size (fun _ => True) (.slice Ao42 x5_1.length co42) x5_1) ∧ (∃ c_, (s_.1 : Value) = .slice (some s_.2) y367.length c_) ∧ (zc w0 w' g s0_0 t371) ∧ (zf w w' g none) ∧ (Below w0.heap.size w0 w')) ?_ ?_
           rotate_left
           ·intro hJ3_5_7
            refine join_ (σ := Value × Addr) 5 #[T_,T_,T_,T_,T_,T_,T_,F_,T_,T_,F_,F_,F_,F_] (fun s_ => [(36, s_.1), (38, .int .i64 t370), (42, .int .i64 t373), (39, .pointer (some (s_.2.add (t370).toNat)))]) (fun s_ w' => (Kd.R (Kd.int .i64) 3 w' w.heap.size (fun _ => True) s_.1 y367) ∧ (Kd.R k40 40 w' w.heap.size (fun _ => True) (.slice Ao42 x5_1.length co42) x5_1) ∧ (∃ c_, (s_.1 : Value) = .slice (some s_.2) y367.length c_) ∧ (zc w0 w' g s0_0 t374) ∧ (zf w w' g none) ∧ (Below w0.heap.size w0 w')) ?_ ?_
            rotate_left
            ·intro hJ3_5_9
             refine join_ (σ := Value × Addr) 6 #[T_,T_,T_,T_,T_,T_,T_,F_,T_,F_,F_,F_,F_,F_] (fun s_ => [(36, s_.1), (38, .int .i64 t370), (39, .pointer (some (s_.2.add (t370).toNat)))]) (fun s_ w' => (Kd.R (Kd.int .i64) 3 w' w.heap.size (fun _ => True) s_.1 y367) ∧ (Kd.R k40 40 w' w.heap.size (fun _ => True) (.slice Ao42 x5_1.length co42) x5_1) ∧ (∃ c_, (s_.1 : Value) = .slice (some s_.2) y367.length c_) ∧ (zc w0 w' g s0_0 t371) ∧ (zf w w' g none) ∧ (Below w0.heap.size w0 w')) ?_ ?_
             rotate_left
             ·intro hJ3_5
              refine join_ (σ := Unit) 7 #[T_,T_,T_,F_,T_,T_,F_,F_,T_,T_,F_,F_,F_,F_] (fun s_ => [(38, .int .i64 t370), (42, .int .i64 t373)]) (fun s_ w' => (Kd.R k40 40 w' w.heap.size (fun _ => True) (.slice Ao42 x5_1.length co42) x5_1) ∧ (zc w0 w' g s0_0 t374) ∧ (zf w w' g none) ∧ (Below w0.heap.size w0 w')) ?_ ?_
              rotate_left
              ·intro hJ5_9
               refine join_ (σ := Value × Addr) 8 #[T_,T_,T_,T_,T_,F_,F_,F_,T_,F_,F_,F_,F_,F_] (fun s_ => [(36, s_.1)]) (fun s_ w' => (Kd.R (Kd.int .i64) 3 w' w.heap.size (fun _ => True) s_.1 y367) ∧ (Kd.R k40 40 w' w.heap.size (fun _ => True) (.slice Ao42 x5_1.length co42) x5_1) ∧ (∃ c_, (s_.1 : Value) = .slice (some s_.2) y367.length c_) ∧ (zc w0 w' g s0_0 t353) ∧ (zf w w' g none) ∧ (Below w0.heap.size w0 w')) ?_ ?_
               rotate_left
               ·intro hJ3
                refine join_ (σ := Unit) 8 #[T_,T_,T_,F_,T_,T_,F_,F_,T_,F_,F_,F_,F_,F_] (fun s_ => [(38, .int .i64 t370)]) (fun s_ w' => (Kd.R k40 40 w' w.heap.size (fun _ => True) (.slice Ao42 x5_1.length co42) x5_1) ∧ (zc w0 w' g s0_0 t371) ∧ (zf w w' g none) ∧ (Below w0.heap.size w0 w')) ?_ ?_
                rotate_left
                ·intro hJ5
                 refine two_ (i := 3) (j := 5) (Ni := some 36) (Nj := some 38) #[T_,T_,T_,T_,T_,F_,F_,F_,T_,F_,F_,F_,F_,F_] #[T_,T_,T_,F_,T_,T_,F_,F_,T_,F_,F_,F_,F_,F_] rfl rfl rfl rfl (two_of HT_.out (by kernel_rfl)) (by decide) (by decide) (fun K hK => ?_) (fun K hK => ?_)
                 ·skip
                  refine Kd.R_lit_step (Kd.int .i64) _ 3 ?hg (N := 36) ?hd (xs := ([10, 5, 20, 40, 1] : List Int)) (inner := [.int .i64 10, .int .i64 5, .int .i64 20, .int .i64 40, .int .i64 1]) (ok := fun _ => True) (okp := fun _ => True) ?hr ?hp (fun _ hk => hk) trivial (Below.refl _ _) (Nat.le_refl _) (by simp) ?_; (case hd => rfl); (case hg => rfl); (case hr => first | (go_simp; done) | (go_simp; rfl)); (case hp => exact (Reps.one (show Kd.M (Kd.int .i64) _ _ _ 10 [.int .i64 10] from rfl) (Reps.one (show Kd.M (Kd.int .i64) _ _ _ 5 [.int .i64 5] from rfl) (Reps.one (show Kd.M (Kd.int .i64) _ _ _ 20 [.int .i64 20] from rfl) (Reps.one (show Kd.M (Kd.int .i64) _ _ _ 40 [.int .i64 40] from rfl) (Reps.one (show Kd.M (Kd.int .i64) _ _ _ 1 [.int .i64 1] from rfl) (Reps.none _ _)))))))
                  intro v368 w44 ho45 hb hg_ hnew_
                  clear hg_ hnew_
                  (first | rw [← Ny367.out] at ho45 | (simp only [Int.reduceToNat] at ho45; rw [← Ny367.out] at ho45))
                  have n0_ := za.mk (Kd.zea (by (with_reducible repeat (first | apply Kd.zg | apply Kd.zh | apply Kd.zm)); exact HO_5.out) hb)
                  have n1_ := za.mk (Kd.zqa ho45 (zoa (w := w) (g := g) (row := none) (by repeat (first | (with_reducible first | exact HK.out | apply zf.set_ | apply zn | apply zq | apply zo) | exact HK.out))))
                  have n2_ := za.mk (zc.below (by repeat (first | (with_reducible first | exact HI0.out | apply zc.alloc | apply zc.drewN | apply zc.drew | apply zc.zx) | exact HI0.out)) hb)
                  have n3_ := za.mk (zf.trans (by repeat (first | (with_reducible first | exact HK.out | apply zf.set_ | apply zn | apply zq | apply zo) | exact HK.out)) (zf.of_below hb g none) (.inl rfl))
                  have n4_ := za.mk (zv (by repeat (first | (with_reducible first | exact HB.out | apply ze | apply zb | apply zd | refine zr ?_ (zc.ge HI0.out)) | exact HB.out)) hb)
                  clear HO_5
                  clear HI0
                  clear HK
                  clear HB
                  have HO_5 := n0_
                  have HO369 := n1_
                  have HI0 := n2_
                  have HK := n3_
                  have HB := n4_
                  clear n0_ n1_ n2_ n3_ n4_
                  clear hb ho45
                  obtain ⟨Ao46, co46, eo46⟩ := Kd.zka HO369.out
                  subst eo46
                  obtain ⟨ado46, fo46, _⟩ := Kd.zta (Kd.zw HO369.out).2.2 0 (by decide) (by rw [Ny367.out]; simp)
                  cases fo46
                  refine hK.out _ _ trivial (fun hHeld => ?_)
                  clear hK K
                  refine zra (a' := ?_) ?_ ?_
                  rotate_left
                  ·show Act.put _ (some 36) _ = _
                   simp only [zpa,zpb,zpc,zpd,zpe,zk,zl]
                   rfl
                  exact zra (by first | (simp only [putAll,zpa,zpb,zpc,zpd,zpe]; done) | (simp only [putAll,zpa,zpb,zpc,zpd,zpe]; rfl)) (hJ3 (.slice (some ado46) y367.length co46, ado46) _ ⟨(by (with_reducible repeat (first | apply Kd.zg | apply Kd.zh | apply Kd.zm)); exact HO369.out), (by (with_reducible repeat (first | apply Kd.zg | apply Kd.zh | apply Kd.zm)); exact HO_5.out), ⟨_, rfl⟩, (by repeat (first | (with_reducible first | exact HI0.out | apply zc.alloc | apply zc.drewN | apply zc.drew | apply zc.zx) | exact HI0.out)), (by repeat (first | (with_reducible first | exact HK.out | apply zf.set_ | apply zn | apply zq | apply zo) | exact HK.out)), (by repeat (first | (with_reducible first | exact HB.out | apply ze | apply zb | apply zd | refine zr ?_ (zc.ge HI0.out)) | exact HB.out))⟩)
                 ·skip
                  refine zeb Try.func66 (by kernel_rfl) rfl #[.pointer (some ⟨g, 0, none⟩), .int .i64 5] (by rfl) rfl rfl (by (try simp only [zma,zmb,zmc]); first | done | rfl) ?_
                  with_reducible refine (spec_l1Rd_pick.calls kj6 g s0_0 t353 5 t370 t371 w0 _ ?side1 ?side2 A35.out).mono ?_
                  (case side1 => repeat (first | (with_reducible first | exact HI0.out | apply zc.alloc | apply zc.drewN | apply zc.drew | apply zc.zx) | exact HI0.out))
                  (case side2 => repeat (first | (with_reducible first | exact HB.out | apply ze | apply zb | apply zd | refine zr ?_ (zc.ge HI0.out)) | exact HB.out))
                  rintro e w44 ⟨rfl, hi, hb, hk⟩
                  refine ⟨_, rfl, ?_⟩
                  have n0_ := za.mk (Kd.zga (Kd.zsa (zc.apart (show zc w0 _ g s0_0 t353 from by repeat (first | (with_reducible first | exact HI0.out | apply zc.alloc | apply zc.drewN | apply zc.drew | apply zc.zx) | exact HI0.out)) (by (with_reducible repeat (first | apply Kd.zg | apply Kd.zh | apply Kd.zm)); exact HO_5.out) (by decide)) hk (fun _ h => h.2)) (fun _ h => h.1))
                  have n1_ := za.mk (zf.trans (by repeat (first | (with_reducible first | exact HK.out | apply zf.set_ | apply zn | apply zq | apply zo) | exact HK.out)) hk (.inl rfl))
                  have n2_ := za.mk (hb)
                  have n3_ := za.mk (hi)
                  clear HO_5
                  clear HK
                  clear HB
                  clear HI0
                  have HO_5 := n0_
                  have HK := n1_
                  have HB := n2_
                  have HI0 := n3_
                  clear n0_ n1_ n2_ n3_
                  (try clear hb)
                  (try clear hb2)
                  (try clear hk)
                  (try clear hi)
                  refine hK.out _ _ trivial (fun hHeld => ?_)
                  clear hK K
                  refine zra (a' := ?_) ?_ ?_
                  rotate_left
                  ·show Act.put _ (some 38) _ = _
                   simp only [zpa,zpb,zpc,zpd,zpe,zk,zl]
                   rfl
                  exact zra (by first | (simp only [putAll,zpa,zpb,zpc,zpd,zpe]; done) | (simp only [putAll,zpa,zpb,zpc,zpd,zpe]; rfl)) (hJ5 () _ ⟨(by (with_reducible repeat (first | apply Kd.zg | apply Kd.zh | apply Kd.zm)); exact HO_5.out), (by repeat (first | (with_reducible first | exact HI0.out | apply zc.alloc | apply zc.drewN | apply zc.drew | apply zc.zx) | exact HI0.out)), (by repeat (first | (with_reducible first | exact HK.out | apply zf.set_ | apply zn | apply zq | apply zo) | exact HK.out)), (by repeat (first | (with_reducible first | exact HB.out | apply ze | apply zb | apply zd | refine zr ?_ (zc.ge HI0.out)) | exact HB.out))⟩)
                ·skip
                 rintro _ w45 ⟨h0_, h1_, h2_, h3_⟩
                 have n0_ : za (Kd.R k40 40 w45 w.heap.size (fun _ => True) (.slice Ao42 x5_1.length co42) x5_1) := ⟨h0_⟩
                 have n1_ : za (zc w0 w45 g s0_0 t371) := ⟨h1_⟩
                 have n2_ : za (zf w w45 g none) := ⟨h2_⟩
                 have n3_ : za (Below w0.heap.size w0 w45) := ⟨h3_⟩
                 clear HO_5
                 clear HI0
                 clear HK
                 clear HB
                 clear h0_ h1_ h2_ h3_
                 have HO_5 := n0_
                 have HI0 := n1_
                 have HK := n2_
                 have HB := n3_
                 clear n0_ n1_ n2_ n3_
                 have hHeld := trivial
                 refine zra (a' := ?_) ?_ ?_
                 rotate_left
                 ·simp only [putAll,zpa,zpb,zpc,zpd,zpe]
                  rfl
                 refine two_ (i := 3) (j := 9) (Ni := some 36) (Nj := some 42) #[T_,T_,T_,T_,T_,T_,F_,F_,T_,F_,F_,F_,F_,F_] #[T_,T_,T_,F_,T_,T_,F_,F_,T_,T_,F_,F_,F_,F_] rfl rfl rfl rfl (two_of HT_.out (by kernel_rfl)) (by decide) (by decide) (fun K hK => ?_) (fun K hK => ?_)
                 ·skip
                  refine Kd.R_lit_step (Kd.int .i64) _ 3 ?hg (N := 36) ?hd (xs := ([10, 5, 20, 40, 1] : List Int)) (inner := [.int .i64 10, .int .i64 5, .int .i64 20, .int .i64 40, .int .i64 1]) (ok := fun _ => True) (okp := fun _ => True) ?hr ?hp (fun _ hk => hk) trivial (Below.refl _ _) (Nat.le_refl _) (by simp) ?_; (case hd => rfl); (case hg => rfl); (case hr => first | (go_simp; done) | (go_simp; rfl)); (case hp => exact (Reps.one (show Kd.M (Kd.int .i64) _ _ _ 10 [.int .i64 10] from rfl) (Reps.one (show Kd.M (Kd.int .i64) _ _ _ 5 [.int .i64 5] from rfl) (Reps.one (show Kd.M (Kd.int .i64) _ _ _ 20 [.int .i64 20] from rfl) (Reps.one (show Kd.M (Kd.int .i64) _ _ _ 40 [.int .i64 40] from rfl) (Reps.one (show Kd.M (Kd.int .i64) _ _ _ 1 [.int .i64 1] from rfl) (Reps.none _ _)))))))
                  intro v368 w46 ho47 hb hg_ hnew_
                  clear hg_ hnew_
                  (first | rw [← Ny367.out] at ho47 | (simp only [Int.reduceToNat] at ho47; rw [← Ny367.out] at ho47))
                  have n0_ := za.mk (Kd.zea (by (with_reducible repeat (first | apply Kd.zg | apply Kd.zh | apply Kd.zm)); exact HO_5.out) hb)
                  have n1_ := za.mk (Kd.zqa ho47 (zoa (w := w) (g := g) (row := none) (by repeat (first | (with_reducible first | exact HK.out | apply zf.set_ | apply zn | apply zq | apply zo) | exact HK.out))))
                  have n2_ := za.mk (zc.below (by repeat (first | (with_reducible first | exact HI0.out | apply zc.alloc | apply zc.drewN | apply zc.drew | apply zc.zx) | exact HI0.out)) hb)
                  have n3_ := za.mk (zf.trans (by repeat (first | (with_reducible first | exact HK.out | apply zf.set_ | apply zn | apply zq | apply zo) | exact HK.out)) (zf.of_below hb g none) (.inl rfl))
                  have n4_ := za.mk (zv (by repeat (first | (with_reducible first | exact HB.out | apply ze | apply zb | apply zd | refine zr ?_ (zc.ge HI0.out)) | exact HB.out)) hb)
                  clear HO_5
                  clear HI0
                  clear HK
                  clear HB
                  have HO_5 := n0_
                  have HO369 := n1_
                  have HI0 := n2_
                  have HK := n3_
                  have HB := n4_
                  clear n0_ n1_ n2_ n3_ n4_
                  clear hb ho47
                  obtain ⟨Ao48, co48, eo48⟩ := Kd.zka HO369.out
                  subst eo48
                  obtain ⟨ado48, fo48, _⟩ := Kd.zta (Kd.zw HO369.out).2.2 0 (by decide) (by rw [Ny367.out]; simp)
                  cases fo48
                  refine hK.out _ _ trivial (fun hHeld => ?_)
                  clear hK K
                  refine zra (a' := ?_) ?_ ?_
                  rotate_left
                  ·show Act.put _ (some 36) _ = _
                   simp only [zpa,zpb,zpc,zpd,zpe,zk,zl]
                   rfl
                  refine zu (i := 6) (N := some 39) (v := ?_) (a' := ?_) #[T_,T_,T_,T_,T_,T_,T_,F_,T_,F_,F_,F_,F_,F_] rfl rfl (zp HT_.out (by kernel_rfl)) (fun _ _ _ h => h) (Or.inl ⟨by rfl, ?_⟩) ?_ ?_
                  rotate_left
                  ·intro w'
                   go_simp
                   with_reducible rfl
                  rotate_left
                  ·simp only [zpa,zpb,zpc,zpd,zpe,zk,zl]
                   rfl
                  exact zra (by first | (simp only [putAll,zpa,zpb,zpc,zpd,zpe]; done) | (simp only [putAll,zpa,zpb,zpc,zpd,zpe]; rfl)) (hJ3_5 (.slice (some ado48) y367.length co48, ado48) _ ⟨(by (with_reducible repeat (first | apply Kd.zg | apply Kd.zh | apply Kd.zm)); exact HO369.out), (by (with_reducible repeat (first | apply Kd.zg | apply Kd.zh | apply Kd.zm)); exact HO_5.out), ⟨_, rfl⟩, (by repeat (first | (with_reducible first | exact HI0.out | apply zc.alloc | apply zc.drewN | apply zc.drew | apply zc.zx) | exact HI0.out)), (by repeat (first | (with_reducible first | exact HK.out | apply zf.set_ | apply zn | apply zq | apply zo) | exact HK.out)), (by repeat (first | (with_reducible first | exact HB.out | apply ze | apply zb | apply zd | refine zr ?_ (zc.ge HI0.out)) | exact HB.out))⟩)
                 ·skip
                  refine zeb Try.func66 (by kernel_rfl) rfl #[.pointer (some ⟨g, 0, none⟩), .int .i64 3] (by rfl) rfl rfl (by (try simp only [zma,zmb,zmc]); first | done | rfl) ?_
                  with_reducible refine (spec_l1Rd_pick.calls kj6 g s0_0 t371 3 t373 t374 w0 _ ?side1 ?side2 A38.out).mono ?_
                  (case side1 => repeat (first | (with_reducible first | exact HI0.out | apply zc.alloc | apply zc.drewN | apply zc.drew | apply zc.zx) | exact HI0.out))
                  (case side2 => repeat (first | (with_reducible first | exact HB.out | apply ze | apply zb | apply zd | refine zr ?_ (zc.ge HI0.out)) | exact HB.out))
                  rintro e w46 ⟨rfl, hi, hb, hk⟩
                  refine ⟨_, rfl, ?_⟩
                  have n0_ := za.mk (Kd.zga (Kd.zsa (zc.apart (show zc w0 _ g s0_0 t371 from by repeat (first | (with_reducible first | exact HI0.out | apply zc.alloc | apply zc.drewN | apply zc.drew | apply zc.zx) | exact HI0.out)) (by (with_reducible repeat (first | apply Kd.zg | apply Kd.zh | apply Kd.zm)); exact HO_5.out) (by decide)) hk (fun _ h => h.2)) (fun _ h => h.1))
                  have n1_ := za.mk (zf.trans (by repeat (first | (with_reducible first | exact HK.out | apply zf.set_ | apply zn | apply zq | apply zo) | exact HK.out)) hk (.inl rfl))
                  have n2_ := za.mk (hb)
                  have n3_ := za.mk (hi)
                  clear HO_5
                  clear HK
                  clear HB
                  clear HI0
                  have HO_5 := n0_
                  have HK := n1_
                  have HB := n2_
                  have HI0 := n3_
                  clear n0_ n1_ n2_ n3_
                  (try clear hb)
                  (try clear hb2)
                  (try clear hk)
                  (try clear hi)
                  refine hK.out _ _ trivial (fun hHeld => ?_)
                  clear hK K
                  refine zra (a' := ?_) ?_ ?_
                  rotate_left
                  ·show Act.put _ (some 42) _ = _
                   simp only [zpa,zpb,zpc,zpd,zpe,zk,zl]
                   rfl
                  exact zra (by first | (simp only [putAll,zpa,zpb,zpc,zpd,zpe]; done) | (simp only [putAll,zpa,zpb,zpc,zpd,zpe]; rfl)) (hJ5_9 () _ ⟨(by (with_reducible repeat (first | apply Kd.zg | apply Kd.zh | apply Kd.zm)); exact HO_5.out), (by repeat (first | (with_reducible first | exact HI0.out | apply zc.alloc | apply zc.drewN | apply zc.drew | apply zc.zx) | exact HI0.out)), (by repeat (first | (with_reducible first | exact HK.out | apply zf.set_ | apply zn | apply zq | apply zo) | exact HK.out)), (by repeat (first | (with_reducible first | exact HB.out | apply ze | apply zb | apply zd | refine zr ?_ (zc.ge HI0.out)) | exact HB.out))⟩)
               ·skip
                rintro ⟨v368, adz_v368⟩ w47 ⟨h0_, h1_, h2_, h3_, h4_, h5_⟩
                have n0_ : za (Kd.R (Kd.int .i64) 3 w47 w.heap.size (fun _ => True) v368 y367) := ⟨h0_⟩
                have n1_ : za (Kd.R k40 40 w47 w.heap.size (fun _ => True) (.slice Ao42 x5_1.length co42) x5_1) := ⟨h1_⟩
                have n2_ : za (∃ c_, (v368 : Value) = .slice (some adz_v368) y367.length c_) := ⟨h2_⟩
                have n3_ : za (zc w0 w47 g s0_0 t353) := ⟨h3_⟩
                have n4_ : za (zf w w47 g none) := ⟨h4_⟩
                have n5_ : za (Below w0.heap.size w0 w47) := ⟨h5_⟩
                clear HO_5
                clear HI0
                clear HK
                clear HB
                clear h0_ h1_ h2_ h3_ h4_ h5_
                have HO369 := n0_
                have HO_5 := n1_
                have HA_HO369 := n2_
                have HI0 := n3_
                have HK := n4_
                have HB := n5_
                clear n0_ n1_ n2_ n3_ n4_ n5_
                have hHeld := trivial
                obtain ⟨co48, eo48⟩ := HA_HO369.out
                clear HA_HO369
                subst eo48
                refine zra (a' := ?_) ?_ ?_
                rotate_left
                ·simp only [putAll,zpa,zpb,zpc,zpd,zpe]
                 rfl
                refine one_ (i := 5) (N := some 38) #[T_,T_,T_,T_,T_,T_,F_,F_,T_,F_,F_,F_,F_,F_] rfl rfl (zxa HT_.out (by kernel_rfl)) (by decide) (fun K hK => ?_)
                refine zeb Try.func66 (by kernel_rfl) rfl #[.pointer (some ⟨g, 0, none⟩), .int .i64 5] (by rfl) rfl rfl (by (try simp only [zma,zmb,zmc]); first | done | rfl) ?_
                with_reducible refine (spec_l1Rd_pick.calls kj6 g s0_0 t353 5 t370 t371 w0 _ ?side1 ?side2 A35.out).mono ?_
                (case side1 => repeat (first | (with_reducible first | exact HI0.out | apply zc.alloc | apply zc.drewN | apply zc.drew | apply zc.zx) | exact HI0.out))
                (case side2 => repeat (first | (with_reducible first | exact HB.out | apply ze | apply zb | apply zd | refine zr ?_ (zc.ge HI0.out)) | exact HB.out))
                rintro e w49 ⟨rfl, hi, hb, hk⟩
                refine ⟨_, rfl, ?_⟩
                have n0_ := za.mk (Kd.zga (Kd.zsa (zc.apart (show zc w0 _ g s0_0 t353 from by repeat (first | (with_reducible first | exact HI0.out | apply zc.alloc | apply zc.drewN | apply zc.drew | apply zc.zx) | exact HI0.out)) (by (with_reducible repeat (first | apply Kd.zg | apply Kd.zh | apply Kd.zm)); exact HO_5.out) (by decide)) hk (fun _ h => h.2)) (fun _ h => h.1))
                have n1_ := za.mk (Kd.zga (Kd.zsa (zc.apart (show zc w0 _ g s0_0 t353 from by repeat (first | (with_reducible first | exact HI0.out | apply zc.alloc | apply zc.drewN | apply zc.drew | apply zc.zx) | exact HI0.out)) (by (with_reducible repeat (first | apply Kd.zg | apply Kd.zh | apply Kd.zm)); exact HO369.out) (by decide)) hk (fun _ h => h.2)) (fun _ h => h.1))
                have n2_ := za.mk (zf.trans (by repeat (first | (with_reducible first | exact HK.out | apply zf.set_ | apply zn | apply zq | apply zo) | exact HK.out)) hk (.inl rfl))
                have n3_ := za.mk (hb)
                have n4_ := za.mk (hi)
                clear HO_5
                clear HO369
                clear HK
                clear HB
                clear HI0
                have HO_5 := n0_
                have HO369 := n1_
                have HK := n2_
                have HB := n3_
                have HI0 := n4_
                clear n0_ n1_ n2_ n3_ n4_
                (try clear hb)
                (try clear hb2)
                (try clear hk)
                (try clear hi)
                refine hK.out _ _ trivial (fun hHeld => ?_)
                clear hK K
                refine zra (a' := ?_) ?_ ?_
                rotate_left
                ·show Act.put _ (some 38) _ = _
                 simp only [zpa,zpb,zpc,zpd,zpe,zk,zl]
                 rfl
                refine zu (i := 6) (N := some 39) (v := ?_) (a' := ?_) #[T_,T_,T_,T_,T_,T_,T_,F_,T_,F_,F_,F_,F_,F_] rfl rfl (zp HT_.out (by kernel_rfl)) (fun _ _ _ h => h) (Or.inl ⟨by rfl, ?_⟩) ?_ ?_
                rotate_left
                ·intro w'
                 go_simp
                 with_reducible rfl
                rotate_left
                ·simp only [zpa,zpb,zpc,zpd,zpe,zk,zl]
                 rfl
                exact zra (by first | (simp only [putAll,zpa,zpb,zpc,zpd,zpe]; done) | (simp only [putAll,zpa,zpb,zpc,zpd,zpe]; rfl)) (hJ3_5 (.slice (some adz_v368) y367.length co48, adz_v368) _ ⟨(by (with_reducible repeat (first | apply Kd.zg | apply Kd.zh | apply Kd.zm)); exact HO369.out), (by (with_reducible repeat (first | apply Kd.zg | apply Kd.zh | apply Kd.zm)); exact HO_5.out), ⟨_, rfl⟩, (by repeat (first | (with_reducible first | exact HI0.out | apply zc.alloc | apply zc.drewN | apply zc.drew | apply zc.zx) | exact HI0.out)), (by repeat (first | (with_reducible first | exact HK.out | apply zf.set_ | apply zn | apply zq | apply zo) | exact HK.out)), (by repeat (first | (with_reducible first | exact HB.out | apply ze | apply zb | apply zd | refine zr ?_ (zc.ge HI0.out)) | exact HB.out))⟩)
              ·skip
               rintro _ w46 ⟨h0_, h1_, h2_, h3_⟩
               have n0_ : za (Kd.R k40 40 w46 w.heap.size (fun _ => True) (.slice Ao42 x5_1.length co42) x5_1) := ⟨h0_⟩
               have n1_ : za (zc w0 w46 g s0_0 t374) := ⟨h1_⟩
               have n2_ : za (zf w w46 g none) := ⟨h2_⟩
               have n3_ : za (Below w0.heap.size w0 w46) := ⟨h3_⟩
               clear HO_5
               clear HI0
               clear HK
               clear HB
               clear h0_ h1_ h2_ h3_
               have HO_5 := n0_
               have HI0 := n1_
               have HK := n2_
               have HB := n3_
               clear n0_ n1_ n2_ n3_
               have hHeld := trivial
               refine zra (a' := ?_) ?_ ?_
               rotate_left
               ·simp only [putAll,zpa,zpb,zpc,zpd,zpe]
                rfl
               refine one_ (i := 3) (N := some 36) #[T_,T_,T_,T_,T_,T_,F_,F_,T_,T_,F_,F_,F_,F_] rfl rfl (zxa HT_.out (by kernel_rfl)) (by decide) (fun K hK => ?_)
               refine Kd.R_lit_step (Kd.int .i64) _ 3 ?hg (N := 36) ?hd (xs := ([10, 5, 20, 40, 1] : List Int)) (inner := [.int .i64 10, .int .i64 5, .int .i64 20, .int .i64 40, .int .i64 1]) (ok := fun _ => True) (okp := fun _ => True) ?hr ?hp (fun _ hk => hk) trivial (Below.refl _ _) (Nat.le_refl _) (by simp) ?_; (case hd => rfl); (case hg => rfl); (case hr => first | (go_simp; done) | (go_simp; rfl)); (case hp => exact (Reps.one (show Kd.M (Kd.int .i64) _ _ _ 10 [.int .i64 10] from rfl) (Reps.one (show Kd.M (Kd.int .i64) _ _ _ 5 [.int .i64 5] from rfl) (Reps.one (show Kd.M (Kd.int .i64) _ _ _ 20 [.int .i64 20] from rfl) (Reps.one (show Kd.M (Kd.int .i64) _ _ _ 40 [.int .i64 40] from rfl) (Reps.one (show Kd.M (Kd.int .i64) _ _ _ 1 [.int .i64 1] from rfl) (Reps.none _ _)))))))
               intro v368 w47 ho48 hb hg_ hnew_
               clear hg_ hnew_
               (first | rw [← Ny367.out] at ho48 | (simp only [Int.reduceToNat] at ho48; rw [← Ny367.out] at ho48))
               have n0_ := za.mk (Kd.zea (by (with_reducible repeat (first | apply Kd.zg | apply Kd.zh | apply Kd.zm)); exact HO_5.out) hb)
               have n1_ := za.mk (Kd.zqa ho48 (zoa (w := w) (g := g) (row := none) (by repeat (first | (with_reducible first | exact HK.out | apply zf.set_ | apply zn | apply zq | apply zo) | exact HK.out))))
               have n2_ := za.mk (zc.below (by repeat (first | (with_reducible first | exact HI0.out | apply zc.alloc | apply zc.drewN | apply zc.drew | apply zc.zx) | exact HI0.out)) hb)
               have n3_ := za.mk (zf.trans (by repeat (first | (with_reducible first | exact HK.out | apply zf.set_ | apply zn | apply zq | apply zo) | exact HK.out)) (zf.of_below hb g none) (.inl rfl))
               have n4_ := za.mk (zv (by repeat (first | (with_reducible first | exact HB.out | apply ze | apply zb | apply zd | refine zr ?_ (zc.ge HI0.out)) | exact HB.out)) hb)
               clear HO_5
               clear HI0
               clear HK
               clear HB
               have HO_5 := n0_
               have HO369 := n1_
               have HI0 := n2_
               have HK := n3_
               have HB := n4_
               clear n0_ n1_ n2_ n3_ n4_
               clear hb ho48
               obtain ⟨Ao49, co49, eo49⟩ := Kd.zka HO369.out
               subst eo49
               obtain ⟨ado49, fo49, _⟩ := Kd.zta (Kd.zw HO369.out).2.2 0 (by decide) (by rw [Ny367.out]; simp)
               cases fo49
               refine hK.out _ _ trivial (fun hHeld => ?_)
               clear hK K
               refine zra (a' := ?_) ?_ ?_
               rotate_left
               ·show Act.put _ (some 36) _ = _
                simp only [zpa,zpb,zpc,zpd,zpe,zk,zl]
                rfl
               refine zu (i := 6) (N := some 39) (v := ?_) (a' := ?_) #[T_,T_,T_,T_,T_,T_,T_,F_,T_,T_,F_,F_,F_,F_] rfl rfl (zp HT_.out (by kernel_rfl)) (fun _ _ _ h => h) (Or.inl ⟨by rfl, ?_⟩) ?_ ?_
               rotate_left
               ·intro w'
                go_simp
                with_reducible rfl
               rotate_left
               ·simp only [zpa,zpb,zpc,zpd,zpe,zk,zl]
                rfl
               exact zra (by first | (simp only [putAll,zpa,zpb,zpc,zpd,zpe]; done) | (simp only [putAll,zpa,zpb,zpc,zpd,zpe]; rfl)) (hJ3_5_9 (.slice (some ado49) y367.length co49, ado49) _ ⟨(by (with_reducible repeat (first | apply Kd.zg | apply Kd.zh | apply Kd.zm)); exact HO369.out), (by (with_reducible repeat (first | apply Kd.zg | apply Kd.zh | apply Kd.zm)); exact HO_5.out), ⟨_, rfl⟩, (by repeat (first | (with_reducible first | exact HI0.out | apply zc.alloc | apply zc.drewN | apply zc.drew | apply zc.zx) | exact HI0.out)), (by repeat (first | (with_reducible first | exact HK.out | apply zf.set_ | apply zn | apply zq | apply zo) | exact HK.out)), (by repeat (first | (with_reducible first | exact HB.out | apply ze | apply zb | apply zd | refine zr ?_ (zc.ge HI0.out)) | exact HB.out))⟩)
             ·skip
              rintro ⟨v368, adz_v368⟩ w48 ⟨h0_, h1_, h2_, h3_, h4_, h5_⟩
              have n0_ : za (Kd.R (Kd.int .i64) 3 w48 w.heap.size (fun _ => True) v368 y367) := ⟨h0_⟩
              have n1_ : za (Kd.R k40 40 w48 w.heap.size (fun _ => True) (.slice Ao42 x5_1.length co42) x5_1) := ⟨h1_⟩
              have n2_ : za (∃ c_, (v368 : Value) = .slice (some adz_v368) y367.length c_) := ⟨h2_⟩
              have n3_ : za (zc w0 w48 g s0_0 t371) := ⟨h3_⟩
              have n4_ : za (zf w w48 g none) := ⟨h4_⟩
              have n5_ : za (Below w0.heap.size w0 w48) := ⟨h5_⟩
              clear HO_5
              clear HI0
              clear HK
              clear HB
              clear h0_ h1_ h2_ h3_ h4_ h5_
              have HO369 := n0_
              have HO_5 := n1_
              have HA_HO369 := n2_
              have HI0 := n3_
              have HK := n4_
              have HB := n5_
              clear n0_ n1_ n2_ n3_ n4_ n5_
              have hHeld := trivial
              obtain ⟨co49, eo49⟩ := HA_HO369.out
              clear HA_HO369
              subst eo49
              refine zra (a' := ?_) ?_ ?_
              rotate_left
              ·simp only [putAll,zpa,zpb,zpc,zpd,zpe]
               rfl
              refine two_ (i := 7) (j := 9) (Ni := some 40) (Nj := some 42) #[T_,T_,T_,T_,T_,T_,T_,T_,T_,F_,F_,F_,F_,F_] #[T_,T_,T_,T_,T_,T_,T_,F_,T_,T_,F_,F_,F_,F_] rfl rfl rfl rfl (two_of HT_.out (by kernel_rfl)) (by decide) (by decide) (fun K hK => ?_) (fun K hK => ?_)
              ·skip
               (have p372 : 0 ≤ (t370 : Int) := of_decide_eq_true (by assumption); have q372 : t370 < (y367.length : Int) := of_decide_eq_true (by assumption); obtain ⟨ad372, e372, hx372_0⟩ := Kd.zta (Kd.zw HO369.out).2.2 t370 p372 q372; obtain rfl : adz_v368 = ad372 := (by injection e372))
               refine value_ (w1 := ?_) (v := ?_) (by rfl) rfl ?_ ?_
               rotate_left 2
               ·go_simp
                constructor
                ·rfl
                ·rfl
               clear hx372_0
               refine hK.out _ _ trivial (fun hHeld => ?_)
               clear hK K
               refine zra (a' := ?_) ?_ ?_
               rotate_left
               ·show Act.put _ (some 40) _ = _
                simp only [zpa,zpb,zpc,zpd,zpe,zk,zl]
                rfl
               exact zra (by first | (simp only [putAll,zpa,zpb,zpc,zpd,zpe]; done) | (simp only [putAll,zpa,zpb,zpc,zpd,zpe]; rfl)) (hJ3_5_7 (.slice (some adz_v368) y367.length co49, adz_v368) _ ⟨(by (with_reducible repeat (first | apply Kd.zg | apply Kd.zh | apply Kd.zm)); exact HO369.out), (by (with_reducible repeat (first | apply Kd.zg | apply Kd.zh | apply Kd.zm)); exact HO_5.out), ⟨_, rfl⟩, (by repeat (first | (with_reducible first | exact HI0.out | apply zc.alloc | apply zc.drewN | apply zc.drew | apply zc.zx) | exact HI0.out)), (by repeat (first | (with_reducible first | exact HK.out | apply zf.set_ | apply zn | apply zq | apply zo) | exact HK.out)), (by repeat (first | (with_reducible first | exact HB.out | apply ze | apply zb | apply zd | refine zr ?_ (zc.ge HI0.out)) | exact HB.out))⟩)
              ·skip
               refine zeb Try.func66 (by kernel_rfl) rfl #[.pointer (some ⟨g, 0, none⟩), .int .i64 3] (by rfl) rfl rfl (by (try simp only [zma,zmb,zmc]); first | done | rfl) ?_
               with_reducible refine (spec_l1Rd_pick.calls kj6 g s0_0 t371 3 t373 t374 w0 _ ?side1 ?side2 A38.out).mono ?_
               (case side1 => repeat (first | (with_reducible first | exact HI0.out | apply zc.alloc | apply zc.drewN | apply zc.drew | apply zc.zx) | exact HI0.out))
               (case side2 => repeat (first | (with_reducible first | exact HB.out | apply ze | apply zb | apply zd | refine zr ?_ (zc.ge HI0.out)) | exact HB.out))
               rintro e w50 ⟨rfl, hi, hb, hk⟩
               refine ⟨_, rfl, ?_⟩
               have n0_ := za.mk (Kd.zga (Kd.zsa (zc.apart (show zc w0 _ g s0_0 t371 from by repeat (first | (with_reducible first | exact HI0.out | apply zc.alloc | apply zc.drewN | apply zc.drew | apply zc.zx) | exact HI0.out)) (by (with_reducible repeat (first | apply Kd.zg | apply Kd.zh | apply Kd.zm)); exact HO_5.out) (by decide)) hk (fun _ h => h.2)) (fun _ h => h.1))
               have n1_ := za.mk (Kd.zga (Kd.zsa (zc.apart (show zc w0 _ g s0_0 t371 from by repeat (first | (with_reducible first | exact HI0.out | apply zc.alloc | apply zc.drewN | apply zc.drew | apply zc.zx) | exact HI0.out)) (by (with_reducible repeat (first | apply Kd.zg | apply Kd.zh | apply Kd.zm)); exact HO369.out) (by decide)) hk (fun _ h => h.2)) (fun _ h => h.1))
               have n2_ := za.mk (zf.trans (by repeat (first | (with_reducible first | exact HK.out | apply zf.set_ | apply zn | apply zq | apply zo) | exact HK.out)) hk (.inl rfl))
               have n3_ := za.mk (hb)
               have n4_ := za.mk (hi)
               clear HO_5
               clear HO369
               clear HK
               clear HB
               clear HI0
               have HO_5 := n0_
               have HO369 := n1_
               have HK := n2_
               have HB := n3_
               have HI0 := n4_
               clear n0_ n1_ n2_ n3_ n4_
               (try clear hb)
               (try clear hb2)
               (try clear hk)
               (try clear hi)
               refine hK.out _ _ trivial (fun hHeld => ?_)
               clear hK K
               refine zra (a' := ?_) ?_ ?_
               rotate_left
               ·show Act.put _ (some 42) _ = _
                simp only [zpa,zpb,zpc,zpd,zpe,zk,zl]
                rfl
               exact zra (by first | (simp only [putAll,zpa,zpb,zpc,zpd,zpe]; done) | (simp only [putAll,zpa,zpb,zpc,zpd,zpe]; rfl)) (hJ3_5_9 (.slice (some adz_v368) y367.length co49, adz_v368) _ ⟨(by (with_reducible repeat (first | apply Kd.zg | apply Kd.zh | apply Kd.zm)); exact HO369.out), (by (with_reducible repeat (first | apply Kd.zg | apply Kd.zh | apply Kd.zm)); exact HO_5.out), ⟨_, rfl⟩, (by repeat (first | (with_reducible first | exact HI0.out | apply zc.alloc | apply zc.drewN | apply zc.drew | apply zc.zx) | exact HI0.out)), (by repeat (first | (with_reducible first | exact HK.out | apply zf.set_ | apply zn | apply zq | apply zo) | exact HK.out)), (by repeat (first | (with_reducible first | exact HB.out | apply ze | apply zb | apply zd | refine zr ?_ (zc.ge HI0.out)) | exact HB.out))⟩)
            ·skip
             rintro ⟨v368, adz_v368⟩ w49 ⟨h0_, h1_, h2_, h3_, h4_, h5_⟩
             have n0_ : za (Kd.R (Kd.int .i64) 3 w49 w.heap.size (fun _ => True) v368 y367) := ⟨h0_⟩
             have n1_ : za (Kd.R k40 40 w49 w.heap.size (fun _ => True) (.slice Ao42 x5_1.length co42) x5_1) := ⟨h1_⟩
             have n2_ : za (∃ c_, (v368 : Value) = .slice (some adz_v368) y367.length c_) := ⟨h2_⟩
             have n3_ : za (zc w0 w49 g s0_0 t374) := ⟨h3_⟩
             have n4_ : za (zf w w49 g none) := ⟨h4_⟩
             have n5_ : za (Below w0.heap.size w0 w49) := ⟨h5_⟩
             clear HO_5
             clear HI0
             clear HK
             clear HB
             clear h0_ h1_ h2_ h3_ h4_ h5_
             have HO369 := n0_
             have HO_5 := n1_
             have HA_HO369 := n2_
             have HI0 := n3_
             have HK := n4_
             have HB := n5_
             clear n0_ n1_ n2_ n3_ n4_ n5_
             have hHeld := trivial
             obtain ⟨co50, eo50⟩ := HA_HO369.out
             clear HA_HO369
             subst eo50
             refine zra (a' := ?_) ?_ ?_
             rotate_left
             ·simp only [putAll,zpa,zpb,zpc,zpd,zpe]
              rfl
             refine one_ (i := 7) (N := some 40) #[T_,T_,T_,T_,T_,T_,T_,T_,T_,T_,F_,F_,F_,F_] rfl rfl (zxa HT_.out (by kernel_rfl)) (by decide) (fun K hK => ?_)
             (have p372 : 0 ≤ (t370 : Int) := of_decide_eq_true (by assumption); have q372 : t370 < (y367.length : Int) := of_decide_eq_true (by assumption); obtain ⟨ad372, e372, hx372_0⟩ := Kd.zta (Kd.zw HO369.out).2.2 t370 p372 q372; obtain rfl : adz_v368 = ad372 := (by injection e372))
             refine value_ (w1 := ?_) (v := ?_) (by rfl) rfl ?_ ?_
             rotate_left 2
             ·go_simp
              constructor
              ·rfl
              ·rfl
             clear hx372_0
             refine hK.out _ _ trivial (fun hHeld => ?_)
             clear hK K
             refine zra (a' := ?_) ?_ ?_
             rotate_left
             ·show Act.put _ (some 40) _ = _
              simp only [zpa,zpb,zpc,zpd,zpe,zk,zl]
              rfl
             exact zra (by first | (simp only [putAll,zpa,zpb,zpc,zpd,zpe]; done) | (simp only [putAll,zpa,zpb,zpc,zpd,zpe]; rfl)) (hJ3_5_7_9 (.slice (some adz_v368) y367.length co50, adz_v368) _ ⟨(by (with_reducible repeat (first | apply Kd.zg | apply Kd.zh | apply Kd.zm)); exact HO369.out), (by (with_reducible repeat (first | apply Kd.zg | apply Kd.zh | apply Kd.zm)); exact HO_5.out), ⟨_, rfl⟩, (by repeat (first | (with_reducible first | exact HI0.out | apply zc.alloc | apply zc.drewN | apply zc.drew | apply zc.zx) | exact HI0.out)), (by repeat (first | (with_reducible first | exact HK.out | apply zf.set_ | apply zn | apply zq | apply zo) | exact HK.out)), (by repeat (first | (with_reducible first | exact HB.out | apply ze | apply zb | apply zd | refine zr ?_ (zc.ge HI0.out)) | exact HB.out))⟩)
           ·skip
            rintro ⟨v368, adz_v368⟩ w48 ⟨h0_, h1_, h2_, h3_, h4_, h5_⟩
            have n0_ : za (Kd.R (Kd.int .i64) 3 w48 w.heap.size (fun _ => True) v368 y367) := ⟨h0_⟩
            have n1_ : za (Kd.R k40 40 w48 w.heap.size (fun _ => True) (.slice Ao42 x5_1.length co42) x5_1) := ⟨h1_⟩
            have n2_ : za (∃ c_, (v368 : Value) = .slice (some adz_v368) y367.length c_) := ⟨h2_⟩
            have n3_ : za (zc w0 w48 g s0_0 t371) := ⟨h3_⟩
            have n4_ : za (zf w w48 g none) := ⟨h4_⟩
            have n5_ : za (Below w0.heap.size w0 w48) := ⟨h5_⟩
            clear HO_5
            clear HI0
            clear HK
            clear HB
            clear h0_ h1_ h2_ h3_ h4_ h5_
            have HO369 := n0_
            have HO_5 := n1_
            have HA_HO369 := n2_
            have HI0 := n3_
            have HK := n4_
            have HB := n5_
            clear n0_ n1_ n2_ n3_ n4_ n5_
            have hHeld := trivial
            obtain ⟨co49, eo49⟩ := HA_HO369.out
            clear HA_HO369
            subst eo49
            refine zra (a' := ?_) ?_ ?_
            rotate_left
            ·simp only [putAll,zpa,zpb,zpc,zpd,zpe]
             rfl
            refine one_ (i := 9) (N := some 42) #[T_,T_,T_,T_,T_,T_,T_,T_,T_,T_,F_,F_,F_,F_] rfl rfl (zxa HT_.out (by kernel_rfl)) (by decide) (fun K hK => ?_)
            refine zeb Try.func66 (by kernel_rfl) rfl #[.pointer (some ⟨g, 0, none⟩), .int .i64 3] (by rfl) rfl rfl (by (try simp only [zma,zmb,zmc]); first | done | rfl) ?_
            with_reducible refine (spec_l1Rd_pick.calls kj6 g s0_0 t371 3 t373 t374 w0 _ ?side1 ?side2 A38.out).mono ?_
            (case side1 => repeat (first | (with_reducible first | exact HI0.out | apply zc.alloc | apply zc.drewN | apply zc.drew | apply zc.zx) | exact HI0.out))
            (case side2 => repeat (first | (with_reducible first | exact HB.out | apply ze | apply zb | apply zd | refine zr ?_ (zc.ge HI0.out)) | exact HB.out))
            rintro e w50 ⟨rfl, hi, hb, hk⟩
            refine ⟨_, rfl, ?_⟩
            have n0_ := za.mk (Kd.zga (Kd.zsa (zc.apart (show zc w0 _ g s0_0 t371 from by repeat (first | (with_reducible first | exact HI0.out | apply zc.alloc | apply zc.drewN | apply zc.drew | apply zc.zx) | exact HI0.out)) (by (with_reducible repeat (first | apply Kd.zg | apply Kd.zh | apply Kd.zm)); exact HO_5.out) (by decide)) hk (fun _ h => h.2)) (fun _ h => h.1))
            have n1_ := za.mk (Kd.zga (Kd.zsa (zc.apart (show zc w0 _ g s0_0 t371 from by repeat (first | (with_reducible first | exact HI0.out | apply zc.alloc | apply zc.drewN | apply zc.drew | apply zc.zx) | exact HI0.out)) (by (with_reducible repeat (first | apply Kd.zg | apply Kd.zh | apply Kd.zm)); exact HO369.out) (by decide)) hk (fun _ h => h.2)) (fun _ h => h.1))
            have n2_ := za.mk (zf.trans (by repeat (first | (with_reducible first | exact HK.out | apply zf.set_ | apply zn | apply zq | apply zo) | exact HK.out)) hk (.inl rfl))
            have n3_ := za.mk (hb)
            have n4_ := za.mk (hi)
            clear HO_5
            clear HO369
            clear HK
            clear HB
            clear HI0
            have HO_5 := n0_
            have HO369 := n1_
            have HK := n2_
            have HB := n3_
            have HI0 := n4_
            clear n0_ n1_ n2_ n3_ n4_
            (try clear hb)
            (try clear hb2)
            (try clear hk)
            (try clear hi)
            refine hK.out _ _ trivial (fun hHeld => ?_)
            clear hK K
            refine zra (a' := ?_) ?_ ?_
            rotate_left
            ·show Act.put _ (some 42) _ = _
             simp only [zpa,zpb,zpc,zpd,zpe,zk,zl]
             rfl
            exact zra (by first | (simp only [putAll,zpa,zpb,zpc,zpd,zpe]; done) | (simp only [putAll,zpa,zpb,zpc,zpd,zpe]; rfl)) (hJ3_5_7_9 (.slice (some adz_v368) y367.length co49, adz_v368) _ ⟨(by (with_reducible repeat (first | apply Kd.zg | apply Kd.zh | apply Kd.zm)); exact HO369.out), (by (with_reducible repeat (first | apply Kd.zg | apply Kd.zh | apply Kd.zm)); exact HO_5.out), ⟨_, rfl⟩, (by repeat (first | (with_reducible first | exact HI0.out | apply zc.alloc | apply zc.drewN | apply zc.drew | apply zc.zx) | exact HI0.out)), (by repeat (first | (with_reducible first | exact HK.out | apply zf.set_ | apply zn | apply zq | apply zo) | exact HK.out)), (by repeat (first | (with_reducible first | exact HB.out | apply ze | apply zb | apply zd | refine zr ?_ (zc.ge HI0.out)) | exact HB.out))⟩)
          rintro ⟨v368, adz_v368⟩ w49 ⟨h0_, h1_, h2_, h3_, h4_, h5_⟩
          have n0_ : za (Kd.R (Kd.int .i64) 3 w49 w.heap.size (fun _ => True) v368 y367) := ⟨h0_⟩
          have n1_ : za (Kd.R k40 40 w49 w.heap.size (fun _ => True) (.slice Ao42 x5_1.length co42) x5_1) := ⟨h1_⟩
          have n2_ : za (∃ c_, (v368 : Value) = .slice (some adz_v368) y367.length c_) := ⟨h2_⟩
          have n3_ : za (zc w0 w49 g s0_0 t374) := ⟨h3_⟩
          have n4_ : za (zf w w49 g none) := ⟨h4_⟩
          have n5_ : za (Below w0.heap.size w0 w49) := ⟨h5_⟩
          clear HO_5
          clear HI0
          clear HK
          clear HB
          clear h0_ h1_ h2_ h3_ h4_ h5_
          have HO369 := n0_
          have HO_5 := n1_
          have HA_HO369 := n2_
          have HI0 := n3_
          have HK := n4_
          have HB := n5_
          clear n0_ n1_ n2_ n3_ n4_ n5_
          have hHeld := trivial
          obtain ⟨co50, eo50⟩ := HA_HO369.out
          clear HA_HO369
          subst eo50
          refine zra (a' := ?_) ?_ ?_
          rotate_left
          ·simp only [putAll,zpa,zpb,zpc,zpd,zpe]
           rfl
          refine zu (i := 10) (N := some 43) (v := ?_) (a' := ?_) #[T_,T_,T_,T_,T_,T_,T_,T_,T_,T_,T_,F_,F_,F_] rfl rfl (zp HT_.out (by kernel_rfl)) (fun _ _ _ h => h) (Or.inl ⟨by rfl, ?_⟩) ?_ ?_
          rotate_left
          ·intro w'
           go_simp
           with_reducible rfl
          rotate_left
          ·simp only [zpa,zpb,zpc,zpd,zpe,zk,zl]
           rfl
          refine one_ (i := 11) (N := some 44) #[T_,T_,T_,T_,T_,T_,T_,T_,T_,T_,T_,T_,F_,F_] rfl rfl (zxa HT_.out (by kernel_rfl)) (by decide) (fun K hK => ?_)
          refine value_ (w1 := ?_) (v := ?_) (by rfl) rfl ?_ ?_
          rotate_left 2
          ·go_simp
           constructor
           ·rfl
           ·rfl
          refine hK.out _ _ trivial (fun hHeld => ?_)
          clear hK K
          refine zra (a' := ?_) ?_ ?_
          rotate_left
          ·show Act.put _ (some 44) _ = _
           simp only [zpa,zpb,zpc,zpd,zpe,zk,zl]
           rfl
          refine one_ (i := 12) (N := some 45) #[T_,T_,T_,T_,T_,T_,T_,T_,T_,T_,T_,T_,T_,F_] rfl rfl (zxa HT_.out (by kernel_rfl)) (by decide) (fun K hK => ?_)
          refine Kd.R_append_step k40 w.heap.size (by rfl) (.tmp 33) (.tmp 44) 27 40 (.agg #[(.int .i64 0), (.int .i64 0), (.int .i64 0), (.int .i64 0)]) 32 rfl Try.underlying27 info40 rfl (by decide) (by omega) (.slice Ao42 x5_1.length co42) x5_1 (⟨x6_1, wrap64 ((wrap64 (x6_1 + 1)) + t352), rd y367 t370, t373⟩ : S40) [.int .i64 x6_1, .int .i64 (wrap64 ((wrap64 (x6_1 + 1)) + t352)), .int .i64 (rd y367 t370), .int .i64 t373] (fun _ => True) (fun _ => False) rfl rfl ?aP (fun _ hk => hk.elim) ?aF ?aO (Below.refl _ _) ?aS ?aL ?_
          (case aP => exact k40_mkM _ _ _ (⟨x6_1, wrap64 ((wrap64 (x6_1 + 1)) + t352), rd y367 t370, t373⟩ : S40))
          (case aF => exact (fun _ _ => trivial))
          (case aO => exact (by (with_reducible repeat (first | apply Kd.zg | apply Kd.zh | apply Kd.zm)); exact HO_5.out))
          (case aS => exact (zoa (w := w) (g := g) (row := none) (by repeat (first | (with_reducible first | exact HK.out | apply zf.set_ | apply zn | apply zq | apply zo) | exact HK.out))))
          (case aL => have := LMc39.out; omega)
          intro v376 w51 ho hb hg hat
          rw [← Ny375.out] at ho
          have n0_ := za.mk (zc.grown (by repeat (first | (with_reducible first | exact HI0.out | apply zc.alloc | apply zc.drewN | apply zc.drew | apply zc.zx) | exact HI0.out)) hg (zc.zya HI0.out HO_5.out (by decide)))
          have n1_ := za.mk (Kd.R_over' (by (with_reducible repeat (first | apply Kd.zg | apply Kd.zh | apply Kd.zm)); exact HO369.out) (Kd.R_typed (by (with_reducible repeat (first | apply Kd.zg | apply Kd.zh | apply Kd.zm)); exact HO_5.out)) (by decide) hg)
          have n2_ := za.mk (zab (by repeat (first | (with_reducible first | exact HB.out | apply ze | apply zb | apply zd | refine zr ?_ (zc.ge HI0.out)) | exact HB.out)) HL.out hb)
          have n3_ := za.mk (zf.trans (by repeat (first | (with_reducible first | exact HK.out | apply zf.set_ | apply zn | apply zq | apply zo) | exact HK.out)) (zf.zgb hg g) (Kd.zyb HO_5.out))
          have n4_ := za.mk (ho)
          clear HI0
          clear HO369
          clear HB
          clear HK
          clear HO_5
          have HI0 := n0_
          have HO369 := n1_
          have HB := n2_
          have HK := n3_
          have HO377 := n4_
          clear n0_ n1_ n2_ n3_ n4_
          clear ho hb hg hat
          refine hK.out _ _ trivial (fun hHeld => ?_)
          clear hK K
          refine zra (a' := ?_) ?_ ?_
          rotate_left
          ·show Act.put _ (some 45) _ = _
           simp only [zpa,zpb,zpc,zpd,zpe,zk,zl]
           rfl
          refine zu (i := 13) (N := some 5) (v := ?_) (a' := ?_) #[T_,T_,T_,T_,T_,T_,T_,T_,T_,T_,T_,T_,T_,T_] rfl rfl (zp HT_.out (by kernel_rfl)) (fun _ _ _ h => h) (Or.inl ⟨by rfl, ?_⟩) ?_ ?_
          rotate_left
          ·intro w'
           go_simp
           with_reducible rfl
          rotate_left
          ·simp only [zpa,zpb,zpc,zpd,zpe,zk,zl]
           rfl
          refine done_ (zxb HT_.out (by kernel_rfl)) ?_
          try go_wp2_with (first | ((with_reducible refine zt (f := 66) rfl ?_); refine zgo (some 48) Try.func66 #[.pointer (some ⟨g, 0, none⟩), .int .i64 3] rfl ?_; (with_reducible refine (spec_l1Rd_pick.calls kj6 g s0_0 t374 3 t378 t379 w0 _ ?side1 ?side2 A40.out).mono ?_); (case side1 => repeat (first | (with_reducible first | exact HI0.out | apply zc.alloc | apply zc.drewN | apply zc.drew | apply zc.zx) | exact HI0.out)); (case side2 => repeat (first | (with_reducible first | exact HB.out | apply ze | apply zb | apply zd | refine zr ?_ (zc.ge HI0.out)) | exact HB.out)); rintro e w52 ⟨rfl, hi, hb, hk⟩; refine ⟨_, rfl, ?_⟩; have n0_ := za.mk (Kd.zga (Kd.zsa (zc.apart (show zc w0 _ g s0_0 t374 from by repeat (first | (with_reducible first | exact HI0.out | apply zc.alloc | apply zc.drewN | apply zc.drew | apply zc.zx) | exact HI0.out)) (by (with_reducible repeat (first | apply Kd.zg | apply Kd.zh | apply Kd.zm)); exact HO369.out) (by decide)) hk (fun _ h => h.2)) (fun _ h => h.1)); have n1_ := za.mk (Kd.zga (Kd.zsa (zc.apart (show zc w0 _ g s0_0 t374 from by repeat (first | (with_reducible first | exact HI0.out | apply zc.alloc | apply zc.drewN | apply zc.drew | apply zc.zx) | exact HI0.out)) (by (with_reducible repeat (first | apply Kd.zg | apply Kd.zh | apply Kd.zm)); exact HO377.out) (by decide)) hk (fun _ h => h.2)) (fun _ h => h.1)); have n2_ := za.mk (zf.trans (by repeat (first | (with_reducible first | exact HK.out | apply zf.set_ | apply zn | apply zq | apply zo) | exact HK.out)) hk (.inl rfl)); have n3_ := za.mk (hb); have n4_ := za.mk (hi); clear HO369; clear HO377; clear HK; clear HB; clear HI0; have HO369 := n0_; have HO377 := n1_; have HK := n2_; have HB := n3_; have HI0 := n4_; clear n0_ n1_ n2_ n3_ n4_; (try clear hb); (try clear hb2); (try clear hk); (try clear hi)))
          go_roundg kj6
          case measure => have := HK1.out; have := HJ6.out; omega
          case rel => exact ⟨(y375), (wrap64 ((wrap64 ((wrap64 (x6_1 + 1)) + t352)) + t378)), (t379), (by first | rfl | (simp; done) | (simp [*]; done)), H', ⟨by have := HK1.out; have := HJ6.out; omega⟩, ⟨by (with_reducible repeat (first | apply Kd.zg | apply Kd.zh | apply Kd.zm)); exact HO377.out⟩, ⟨by repeat (first | (with_reducible first | exact HI0.out | apply zc.alloc | apply zc.drewN | apply zc.drew | apply zc.zx) | exact HI0.out)⟩, ⟨by repeat (first | (with_reducible first | exact HK.out | apply zf.set_ | apply zn | apply zq | apply zo) | exact HK.out)⟩, ⟨by repeat (first | (with_reducible first | exact HB.out | apply ze | apply zb | apply zd | refine zr ?_ (zc.ge HI0.out)) | exact HB.out)⟩⟩
         ·rw [if_neg c39] at H
          exact absurd H (by simp)
        ·rw [if_neg c37] at H
         exact absurd H (by simp)
       ·rw [if_neg c36] at H
        exact absurd H (by simp)
     ·replace c14 := Bool.eq_false_iff.mpr c14
      subst c14
      have H1 : (some (x5_1, x1001_6)) = some (r1, r2) := by rw [if_neg (show ¬ (false = true) by decide)] at H; exact H
      clear H
      have H := H1
      clear H1
      simp only [Option.some.injEq, Prod.mk.injEq] at H
      obtain ⟨rfl, rfl⟩ := H
      go_wp2
      go_ret
      exact ⟨_, by first | rfl | (simp [zi, zj] <;> rfl) | (simp [*, zi, zj] <;> rfl), by (with_reducible repeat (first | apply Kd.zg | apply Kd.zh | apply Kd.zm)); exact HO_5.out, by repeat (first | (with_reducible first | exact HI0.out | apply zc.alloc | apply zc.drewN | apply zc.drew | apply zc.zx) | exact HI0.out), by repeat (first | (with_reducible first | exact HB.out | apply ze | apply zb | apply zd | refine zr ?_ (zc.ge HI0.out)) | exact HB.out), by repeat (first | (with_reducible first | exact HK.out | apply zf.set_ | apply zn | apply zq | apply zo) | exact HK.out)⟩
end Go.Proofs.Ytmjhdgofepdgkaa.PFnWides
