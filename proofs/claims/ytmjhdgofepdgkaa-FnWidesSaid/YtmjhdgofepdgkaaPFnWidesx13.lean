-- Written by a program of this session (wip/tools) out of the translation; its shape is that of the kit print.
import Derived.Test.YtmjhdgofepdgkaaPFnWidesx0
import Derived.Test.YtmjhdgofepdgkaaPFnWidesx11
import Derived.Test.YtmjhdgofepdgkaaPFnWidesx12
namespace Go.Proofs.Ytmjhdgofepdgkaa.PFnWides
open Go.RowKit Go.Proofs.YtmjhdgofepdgkaaW.PrintWords Go.Proofs.YtmjhdgofepdgkaaW.PrintLast Go.Proofs.YtmjhdgofepdgkaaW.PrintMore
attribute [local go_sem] zlb znb zvb zwb zbb zcb zob zqb
set_option linter.unusedVariables false
set_option maxHeartbeats 8000000
set_option maxRecDepth 100000
set_option linter.unusedSimpArgs false
def spec_l13Any.l0 : Nat → List Int → List Int → Int → Option (List Int × Int)
 | 0, _, _, _ => none
 | k + 1, x3, x1000, x1001 => if (x3.length : Int) ≤ 80 then (if x3.length < 17592186044416 then (spec_l13Any.l0 k (x3 ++ [97]) x1000 x1001) else (none)) else (some (x3, x1001))
def spec_l13Any.f (k : Nat) (s0_0 : List Int) (s0_1 : Int) : Option (List Int × Int) := (spec_l13Runes.f k s0_0 s0_1).bind fun bt328 => ((spec_l1Rd_pick.f k s0_0 bt328.2 24).bind fun bt332 => (if bt332.1 = 0 then ((spec_l1Rd_one.f k s0_0 bt332.2 (([(-1), 55296, 57343, 1114112] : List Int))).bind fun bt337 => (if bt328.1.length < 17592186044416 then (some ((bt328.1 ++ [bt337.1]), bt337.2)) else (none))) else (if bt332.1 = 1 then (spec_l13Any.l0 k bt328.1 s0_0 bt332.2) else (some (bt328.1, bt332.2)))))
theorem spec_l13Any.calls (k : Nat) (g : Nat) (s0_0 : List Int) (s0_1 : Int) (r1 : List Int) (r2 : Int) (w0 w : World) (hI : zc w0 w g s0_0 s0_1) (hB : Below w0.heap.size w0 w) (h : spec_l13Any.f k s0_0 s0_1 = some (r1, r2)) :
  Calls Try.prog 58 #[.pointer (some ⟨g, 0, none⟩)] w fun e w' => ∃ v0_ : Value, e = .returned (v0_) ∧ Kd.R (Kd.int .i64) 3 w' w.heap.size (fun _ => True) v0_ r1 ∧ zc w0 w' g s0_0 r2 ∧ Below w0.heap.size w0 w' ∧ zf w w' g none := by
 have HI0 := za.mk hI
 have HK := za.mk (zf.refl w g none)
 have HL := za.mk hB.size
 clear hI
 have HW0 := za.mk hB.size
 have HB := za.mk hB
 clear hB
 have H : ((spec_l13Runes.f k s0_0 s0_1).bind fun bt328 => ((spec_l1Rd_pick.f k s0_0 bt328.2 24).bind fun bt332 => (if bt332.1 = 0 then ((spec_l1Rd_one.f k s0_0 bt332.2 (([(-1), 55296, 57343, 1114112] : List Int))).bind fun bt337 => (if bt328.1.length < 17592186044416 then (some ((bt328.1 ++ [bt337.1]), bt337.2)) else (none))) else (if bt332.1 = 1 then (spec_l13Any.l0 k bt328.1 s0_0 bt332.2) else (some (bt328.1, bt332.2)))))) = some (r1, r2) := h
 clear h
 replace H := Option.bind_eq_some_iff.mp H
 obtain ⟨⟨t328, t331⟩, A20, H⟩ := H
 replace H : ((spec_l1Rd_pick.f k s0_0 t331 24).bind fun bt332 => (if bt332.1 = 0 then ((spec_l1Rd_one.f k s0_0 bt332.2 (([(-1), 55296, 57343, 1114112] : List Int))).bind fun bt337 => (if t328.length < 17592186044416 then (some ((t328 ++ [bt337.1]), bt337.2)) else (none))) else (if bt332.1 = 1 then (spec_l13Any.l0 k t328 s0_0 bt332.2) else (some (t328, bt332.2))))) = some (r1, r2) := H
 have A2 := za.mk A20
 clear A20
 replace H := Option.bind_eq_some_iff.mp H
 obtain ⟨⟨t332, t333⟩, A30, H⟩ := H
 replace H : (if t332 = 0 then ((spec_l1Rd_one.f k s0_0 t333 (([(-1), 55296, 57343, 1114112] : List Int))).bind fun bt337 => (if t328.length < 17592186044416 then (some ((t328 ++ [bt337.1]), bt337.2)) else (none))) else (if t332 = 1 then (spec_l13Any.l0 k t328 s0_0 t333) else (some (t328, t333)))) = some (r1, r2) := H
 have A3 := za.mk A30
 clear A30
 by_cases c4 : t332 = 0
 ·rw [if_pos c4] at H
  have c4b0 : (t332 == 0) = true := beq_iff_eq.mpr c4
  have c4b1 : (t332 != 0) = false := bne_eq_false_iff_eq.mpr c4
  clear c4
  obtain ⟨y334, hy334⟩ : ∃ y_ : List Int, y_ = (([(-1), 55296, 57343, 1114112] : List Int)) := ⟨_, rfl⟩
  replace H : ((spec_l1Rd_one.f k s0_0 t333 y334).bind fun bt337 => (if t328.length < 17592186044416 then (some ((t328 ++ [bt337.1]), bt337.2)) else (none))) = some (r1, r2) := by first | (rw [hy334]; with_reducible exact H) | (have H2_ := (Option.bind_some _ _).symm.trans H; rw [hy334]; with_reducible exact H2_) | (have H2_ := (Option.bind_some _ _).symm.trans H; with_reducible exact H2_) | with_reducible exact H | (rw [hy334]; exact H) | exact H
  have Ny334 := za.mk hy334
  clear hy334
  replace H := Option.bind_eq_some_iff.mp H
  obtain ⟨⟨t337, t338⟩, A50, H⟩ := H
  replace H : (if t328.length < 17592186044416 then (some ((t328 ++ [t337]), t338)) else (none)) = some (r1, r2) := H
  have A5 := za.mk A50
  clear A50
  by_cases c6 : t328.length < 17592186044416
  ·rw [if_pos c6] at H
   have LMc6 := za.mk c6
   clear c6
   obtain ⟨y339, hy339⟩ : ∃ y_ : List Int, y_ = (t328 ++ [t337]) := ⟨_, rfl⟩
   replace H : (some (y339, t338)) = some (r1, r2) := by first | (rw [hy339]; with_reducible exact H) | (have H2_ := (Option.bind_some _ _).symm.trans H; rw [hy339]; with_reducible exact H2_) | (have H2_ := (Option.bind_some _ _).symm.trans H; with_reducible exact H2_) | with_reducible exact H | (rw [hy339]; exact H) | exact H
   have Ny339 := za.mk hy339
   clear hy339
   simp only [Option.some.injEq, Prod.mk.injEq] at H
   obtain ⟨rfl, rfl⟩ := H
   go_enter Try.func58, Try.ntmps58
   go_wp2_with (first | ((with_reducible refine zt (f := 63) rfl ?_); refine zgo (some 5) Try.func63 #[.pointer (some ⟨g, 0, none⟩)] rfl ?_; (with_reducible refine (spec_l13Runes.calls k g s0_0 s0_1 t328 t331 w0 _ ?side1 ?side2 A2.out).mono ?_); (case side1 => repeat (first | (with_reducible first | exact HI0.out | apply zc.alloc | apply zc.drewN | apply zc.drew | apply zc.zx) | exact HI0.out)); (case side2 => repeat (first | (with_reducible first | exact HB.out | apply ze | apply zb | apply zd | refine zr ?_ (zc.ge HI0.out)) | exact HB.out)); rintro e w7 ⟨v329, rfl, ho0, hi, hb, hk⟩; refine ⟨_, rfl, ?_⟩; have n0_ := za.mk (Kd.zqa ho0 (zoa (w := w) (g := g) (row := none) (by repeat (first | (with_reducible first | exact HK.out | apply zf.set_ | apply zn | apply zq | apply zo) | exact HK.out)))); have n1_ := za.mk (zf.trans (by repeat (first | (with_reducible first | exact HK.out | apply zf.set_ | apply zn | apply zq | apply zo) | exact HK.out)) hk (.inl rfl)); have n2_ := za.mk (hb); have n3_ := za.mk (hi); clear HK; clear HB; clear HI0; have HO330 := n0_; have HK := n1_; have HB := n2_; have HI0 := n3_; clear n0_ n1_ n2_ n3_; (try clear hb); (try clear hb2); (try clear hk); (try clear hi); (try clear ho0)) | ((with_reducible refine zt (f := 66) rfl ?_); refine zgo (some 7) Try.func66 #[.pointer (some ⟨g, 0, none⟩), .int .i64 24] rfl ?_; (with_reducible refine (spec_l1Rd_pick.calls k g s0_0 t331 24 t332 t333 w0 _ ?side1 ?side2 A3.out).mono ?_); (case side1 => repeat (first | (with_reducible first | exact HI0.out | apply zc.alloc | apply zc.drewN | apply zc.drew | apply zc.zx) | exact HI0.out)); (case side2 => repeat (first | (with_reducible first | exact HB.out | apply ze | apply zb | apply zd | refine zr ?_ (zc.ge HI0.out)) | exact HB.out)); rintro e w8 ⟨rfl, hi, hb, hk⟩; refine ⟨_, rfl, ?_⟩; have n0_ := za.mk (Kd.zga (Kd.zsa (zc.apart (show zc w0 _ g s0_0 t331 from by repeat (first | (with_reducible first | exact HI0.out | apply zc.alloc | apply zc.drewN | apply zc.drew | apply zc.zx) | exact HI0.out)) (by (with_reducible repeat (first | apply Kd.zg | apply Kd.zh | apply Kd.zm)); exact HO330.out) (by decide)) hk (fun _ h => h.2)) (fun _ h => h.1)); have n1_ := za.mk (zf.trans (by repeat (first | (with_reducible first | exact HK.out | apply zf.set_ | apply zn | apply zq | apply zo) | exact HK.out)) hk (.inl rfl)); have n2_ := za.mk (hb); have n3_ := za.mk (hi); clear HO330; clear HK; clear HB; clear HI0; have HO330 := n0_; have HK := n1_; have HB := n2_; have HI0 := n3_; clear n0_ n1_ n2_ n3_; (try clear hb); (try clear hb2); (try clear hk); (try clear hi)) | ((with_reducible refine zla (N := 12) rfl ?_); refine Kd.zfb (Kd.int .i64) _ 3 ?hg (N := 12) ?hd (xs := ([(-1), 55296, 57343, 1114112] : List Int)) (inner := [.int .i64 (-1), .int .i64 55296, .int .i64 57343, .int .i64 1114112]) (ok := fun _ => True) (okp := fun _ => True) ?hr ?hp (fun _ hk => hk) trivial (Below.refl _ _) (Nat.le_refl _) (by simp) ?_; (case hd => rfl); (case hg => rfl); (case hr => first | (go_simp; done) | (go_simp; rfl)); (case hp => exact (Reps.one (show Kd.M (Kd.int .i64) _ _ _ (-1) [.int .i64 (-1)] from rfl) (Reps.one (show Kd.M (Kd.int .i64) _ _ _ 55296 [.int .i64 55296] from rfl) (Reps.one (show Kd.M (Kd.int .i64) _ _ _ 57343 [.int .i64 57343] from rfl) (Reps.one (show Kd.M (Kd.int .i64) _ _ _ 1114112 [.int .i64 1114112] from rfl) (Reps.none _ _)))))); intro v335 w9 ho10 hb hg_ hnew_; clear hg_ hnew_; (first | rw [← Ny334.out] at ho10 | (simp only [Int.reduceToNat] at ho10; rw [← Ny334.out] at ho10)); have n0_ := za.mk (Kd.zsb (by (with_reducible repeat (first | apply Kd.zg | apply Kd.zh | apply Kd.zm)); exact HO330.out) (Kd.zac ho10) hb); have n1_ := za.mk (Kd.zqa (Kd.zbc ho10 (Kd.R_lt (by (with_reducible repeat (first | apply Kd.zg | apply Kd.zh | apply Kd.zm)); exact HO330.out))) (zoa (w := w) (g := g) (row := none) (by repeat (first | (with_reducible first | exact HK.out | apply zf.set_ | apply zn | apply zq | apply zo) | exact HK.out)))); have n2_ := za.mk (zc.below (by repeat (first | (with_reducible first | exact HI0.out | apply zc.alloc | apply zc.drewN | apply zc.drew | apply zc.zx) | exact HI0.out)) hb); have n3_ := za.mk (zf.trans (by repeat (first | (with_reducible first | exact HK.out | apply zf.set_ | apply zn | apply zq | apply zo) | exact HK.out)) (zf.of_below hb g none) (.inl rfl)); have n4_ := za.mk (zv (by repeat (first | (with_reducible first | exact HB.out | apply ze | apply zb | apply zd | refine zr ?_ (zc.ge HI0.out)) | exact HB.out)) hb); clear HO330; clear HI0; clear HK; clear HB; have HO330 := n0_; have HO336 := n1_; have HI0 := n2_; have HK := n3_; have HB := n4_; clear n0_ n1_ n2_ n3_ n4_; clear hb ho10; obtain ⟨Ao11, co11, eo11⟩ := Kd.zka HO336.out; subst eo11) | ((with_reducible refine zt (f := 67) rfl ?_); refine zgo (some 13) Try.func67 #[.pointer (some ⟨g, 0, none⟩), .slice Ao11 y334.length co11] rfl ?_; (with_reducible refine (spec_l1Rd_one.calls k g s0_0 t333 _ _ y334 t337 t338 w0 _ ?side1 ?side2 ?side3 ?side4 ?side5 A5.out).mono ?_); (case side1 => repeat (first | (with_reducible first | exact HI0.out | apply zc.alloc | apply zc.drewN | apply zc.drew | apply zc.zx) | exact HI0.out)); (case side2 => repeat (first | (with_reducible first | exact HB.out | apply ze | apply zb | apply zd | refine zr ?_ (zc.ge HI0.out)) | exact HB.out)); (case side3 => repeat (first | exact (Kd.zw HO336.out).2.2 | (with_reducible refine Kd.zca ?_ _) | (with_reducible refine Kd.zda ?_ _) | (with_reducible refine Kd.zfa ?_))); (case side4 => exact (Kd.zw HO336.out).2.1); (case side5 => exact zub (zc.zya HI0.out HO336.out (by decide))); rintro e w12 ⟨rfl, hi, hb, hk⟩; refine ⟨_, rfl, ?_⟩; have n0_ := za.mk (Kd.zga (Kd.zsa (zc.apart (show zc w0 _ g s0_0 t333 from by repeat (first | (with_reducible first | exact HI0.out | apply zc.alloc | apply zc.drewN | apply zc.drew | apply zc.zx) | exact HI0.out)) (by (with_reducible repeat (first | apply Kd.zg | apply Kd.zh | apply Kd.zm)); exact HO330.out) (by decide)) hk (fun _ h => h.2)) (fun _ h => h.1)); have n1_ := za.mk (Kd.zga (Kd.zsa (zc.apart (show zc w0 _ g s0_0 t333 from by repeat (first | (with_reducible first | exact HI0.out | apply zc.alloc | apply zc.drewN | apply zc.drew | apply zc.zx) | exact HI0.out)) (by (with_reducible repeat (first | apply Kd.zg | apply Kd.zh | apply Kd.zm)); exact HO336.out) (by decide)) hk (fun _ h => h.2)) (fun _ h => h.1)); have n2_ := za.mk (zf.trans (by repeat (first | (with_reducible first | exact HK.out | apply zf.set_ | apply zn | apply zq | apply zo) | exact HK.out)) hk (.inl rfl)); have n3_ := za.mk (hb); have n4_ := za.mk (hi); clear HO330; clear HO336; clear HK; clear HB; clear HI0; have HO330 := n0_; have HO336 := n1_; have HK := n2_; have HB := n3_; have HI0 := n4_; clear n0_ n1_ n2_ n3_ n4_; (try clear hb); (try clear hb2); (try clear hk); (try clear hi)) | ((with_reducible refine zza (b := .append) (xs := #[.tmp 10, .tmp 14]) rfl ?_); at_builtin; refine Kd.zkc (Kd.int .i64) w.heap.size rfl (.tmp 10) (.tmp 14) 22 3 (.int .i64 0) 8 rfl Try.underlying22 info3 rfl (by decide) (by omega) v329 t328 t337 [.int .i64 t337] (fun k_ => some k_ ≠ (.slice Ao11 y334.length co11 : Value).ownBlock) (fun _ => False) rfl rfl ?aP (fun _ hk => hk.elim) ?aF ?aO (Below.refl _ _) ?aS ?aL ?_; (case aP => exact rfl); (case aF => exact (fun k_ hk => Kd.fresh' (Kd.R_lt (by (with_reducible repeat (first | apply Kd.zg | apply Kd.zh | apply Kd.zm)); exact HO336.out)) k_ hk)); (case aO => exact (by (with_reducible repeat (first | apply Kd.zg | apply Kd.zh | apply Kd.zm)); exact Kd.zga HO330.out (fun _ hk => hk.2))); (case aS => exact (zoa (w := w) (g := g) (row := none) (by repeat (first | (with_reducible first | exact HK.out | apply zf.set_ | apply zn | apply zq | apply zo) | exact HK.out)))); (case aL => have := LMc6.out; omega); intro v340 w13 ho hb hg hat; rw [← Ny339.out] at ho; have n0_ := za.mk (zc.grown (by repeat (first | (with_reducible first | exact HI0.out | apply zc.alloc | apply zc.drewN | apply zc.drew | apply zc.zx) | exact HI0.out)) hg (zc.zya HI0.out HO330.out (by decide))); have n1_ := za.mk (Kd.R_after (ok := (fun _ => True)) (by (with_reducible repeat (first | apply Kd.zg | apply Kd.zh | apply Kd.zm)); exact HO336.out) hg hat); have n2_ := za.mk (zab (by repeat (first | (with_reducible first | exact HB.out | apply ze | apply zb | apply zd | refine zr ?_ (zc.ge HI0.out)) | exact HB.out)) HL.out hb); have n3_ := za.mk (zf.trans (by repeat (first | (with_reducible first | exact HK.out | apply zf.set_ | apply zn | apply zq | apply zo) | exact HK.out)) (zf.zgb hg g) (Kd.zyb HO330.out)); have n4_ := za.mk (ho); clear HI0; clear HO336; clear HB; clear HK; clear HO330; have HI0 := n0_; have HO336 := n1_; have HB := n2_; have HK := n3_; have HO341 := n4_; clear n0_ n1_ n2_ n3_ n4_; clear ho hb hg hat))
   go_ret
   exact ⟨_, by first | rfl | (simp [zi, zj] <;> rfl) | (simp [*, zi, zj] <;> rfl), by (with_reducible repeat (first | apply Kd.zg | apply Kd.zh | apply Kd.zm)); exact Kd.zga HO341.out (fun _ hk => trivial), by repeat (first | (with_reducible first | exact HI0.out | apply zc.alloc | apply zc.drewN | apply zc.drew | apply zc.zx) | exact HI0.out), by repeat (first | (with_reducible first | exact HB.out | apply ze | apply zb | apply zd | refine zr ?_ (zc.ge HI0.out)) | exact HB.out), by repeat (first | (with_reducible first | exact HK.out | apply zf.set_ | apply zn | apply zq | apply zo) | exact HK.out)⟩
  ·rw [if_neg c6] at H
   exact absurd H (by simp)
 ·rw [if_neg c4] at H
  have c4b0 : (t332 == 0) = false := beq_eq_false_iff_ne.mpr c4
  have c4b1 : (t332 != 0) = true := bne_iff_ne.mpr c4
  by_cases c14 : t332 = 1
  ·rw [if_pos c14] at H
   have c14b0 : (t332 == 1) = true := beq_iff_eq.mpr c14
   have c14b1 : (t332 != 1) = false := bne_eq_false_iff_eq.mpr c14
   clear c14
   have H' := za.mk H
   clear H
   go_enter Try.func58, Try.ntmps58
   go_wp2_with (first | ((with_reducible refine zt (f := 63) rfl ?_); refine zgo (some 5) Try.func63 #[.pointer (some ⟨g, 0, none⟩)] rfl ?_; (with_reducible refine (spec_l13Runes.calls k g s0_0 s0_1 t328 t331 w0 _ ?side1 ?side2 A2.out).mono ?_); (case side1 => repeat (first | (with_reducible first | exact HI0.out | apply zc.alloc | apply zc.drewN | apply zc.drew | apply zc.zx) | exact HI0.out)); (case side2 => repeat (first | (with_reducible first | exact HB.out | apply ze | apply zb | apply zd | refine zr ?_ (zc.ge HI0.out)) | exact HB.out)); rintro e w15 ⟨v329, rfl, ho0, hi, hb, hk⟩; refine ⟨_, rfl, ?_⟩; have n0_ := za.mk (Kd.zqa ho0 (zoa (w := w) (g := g) (row := none) (by repeat (first | (with_reducible first | exact HK.out | apply zf.set_ | apply zn | apply zq | apply zo) | exact HK.out)))); have n1_ := za.mk (zf.trans (by repeat (first | (with_reducible first | exact HK.out | apply zf.set_ | apply zn | apply zq | apply zo) | exact HK.out)) hk (.inl rfl)); have n2_ := za.mk (hb); have n3_ := za.mk (hi); clear HK; clear HB; clear HI0; have HO330 := n0_; have HK := n1_; have HB := n2_; have HI0 := n3_; clear n0_ n1_ n2_ n3_; (try clear hb); (try clear hb2); (try clear hk); (try clear hi); (try clear ho0)) | ((with_reducible refine zt (f := 66) rfl ?_); refine zgo (some 7) Try.func66 #[.pointer (some ⟨g, 0, none⟩), .int .i64 24] rfl ?_; (with_reducible refine (spec_l1Rd_pick.calls k g s0_0 t331 24 t332 t333 w0 _ ?side1 ?side2 A3.out).mono ?_); (case side1 => repeat (first | (with_reducible first | exact HI0.out | apply zc.alloc | apply zc.drewN | apply zc.drew | apply zc.zx) | exact HI0.out)); (case side2 => repeat (first | (with_reducible first | exact HB.out | apply ze | apply zb | apply zd | refine zr ?_ (zc.ge HI0.out)) | exact HB.out)); rintro e w16 ⟨rfl, hi, hb, hk⟩; refine ⟨_, rfl, ?_⟩; have n0_ := za.mk (Kd.zga (Kd.zsa (zc.apart (show zc w0 _ g s0_0 t331 from by repeat (first | (with_reducible first | exact HI0.out | apply zc.alloc | apply zc.drewN | apply zc.drew | apply zc.zx) | exact HI0.out)) (by (with_reducible repeat (first | apply Kd.zg | apply Kd.zh | apply Kd.zm)); exact HO330.out) (by decide)) hk (fun _ h => h.2)) (fun _ h => h.1)); have n1_ := za.mk (zf.trans (by repeat (first | (with_reducible first | exact HK.out | apply zf.set_ | apply zn | apply zq | apply zo) | exact HK.out)) hk (.inl rfl)); have n2_ := za.mk (hb); have n3_ := za.mk (hi); clear HO330; clear HK; clear HB; clear HI0; have HO330 := n0_; have HK := n1_; have HB := n2_; have HI0 := n3_; clear n0_ n1_ n2_ n3_; (try clear hb); (try clear hb2); (try clear hk); (try clear hi)))
   go_loopg [3] k (fun kq v3 w' => ∃ (x3_1 : List Int), za (spec_l13Any.l0 kq x3_1 s0_0 t333 = some (r1, r2)) ∧ za (kq ≤ k) ∧ za (Kd.R (Kd.int .i64) 3 w' w.heap.size (fun _ => True) v3 x3_1) ∧ za (zc w0 w' g s0_0 t333) ∧ za (zf w w' g none) ∧ za (Below w0.heap.size w0 w'))
   case atStart => exact ⟨(t328), H', ⟨Nat.le_refl _⟩, ⟨by (with_reducible repeat (first | apply Kd.zg | apply Kd.zh | apply Kd.zm)); exact HO330.out⟩, ⟨by repeat (first | (with_reducible first | exact HI0.out | apply zc.alloc | apply zc.drewN | apply zc.drew | apply zc.zx) | exact HI0.out)⟩, ⟨by repeat (first | (with_reducible first | exact HK.out | apply zf.set_ | apply zn | apply zq | apply zo) | exact HK.out)⟩, ⟨by repeat (first | (with_reducible first | exact HB.out | apply ze | apply zb | apply zd | refine zr ?_ (zc.ge HI0.out)) | exact HB.out)⟩⟩
   case round =>
    clear H'
    try clear c1
    try clear p2
    try clear c4
    try clear c4b0
    try clear c4b1
    try clear c5
    try clear c6
    try clear c14
    try clear c14b0
    try clear c14b1
    obtain ⟨x3_1, HA, HK1, HO_3, HI0, HK, HB⟩ := hrel
    cases gk with
    | zero => exact absurd HA.out (by simp [spec_l13Any.l0])
    | succ k1 =>
     have H := HA.out
     clear HA
     simp only [spec_l13Any.l0] at H
     by_cases c17 : (x3_1.length : Int) ≤ 80
     ·rw [if_pos c17] at H
      have c17b0 : decide ((x3_1.length : Int) ≤ 80) = true := decide_eq_true c17
      have c17b1 : decide (x3_1.length ≤ 80) = true := decide_eq_true (by omega)
      clear c17
      by_cases c18 : x3_1.length < 17592186044416
      ·rw [if_pos c18] at H
       have LMc18 := za.mk c18
       clear c18
       obtain ⟨y342, hy342⟩ : ∃ y_ : List Int, y_ = (x3_1 ++ [97]) := ⟨_, rfl⟩
       replace H : (spec_l13Any.l0 k1 y342 s0_0 t333) = some (r1, r2) := by first | (rw [hy342]; with_reducible exact H) | (have H2_ := (Option.bind_some _ _).symm.trans H; rw [hy342]; with_reducible exact H2_) | (have H2_ := (Option.bind_some _ _).symm.trans H; with_reducible exact H2_) | with_reducible exact H | (rw [hy342]; exact H) | exact H
       have Ny342 := za.mk hy342
       clear hy342
       have H' := za.mk H
       clear H
       obtain ⟨Ao19, co19, eo19⟩ := Kd.zka HO_3.out
       subst eo19
       go_wp2_with (first | ((with_reducible refine zza (b := .append) (xs := #[.tmp 21, .tmp 22]) rfl ?_); at_builtin; refine Kd.zkc (Kd.int .i64) w.heap.size rfl (.tmp 21) (.tmp 22) 22 3 (.int .i64 0) 8 rfl Try.underlying22 info3 rfl (by decide) (by omega) (.slice Ao19 x3_1.length co19) x3_1 97 [.int .i64 97] (fun _ => True) (fun _ => False) rfl rfl ?aP (fun _ hk => hk.elim) ?aF ?aO (Below.refl _ _) ?aS ?aL ?_; (case aP => exact rfl); (case aF => exact (fun _ _ => trivial)); (case aO => exact (by (with_reducible repeat (first | apply Kd.zg | apply Kd.zh | apply Kd.zm)); exact HO_3.out)); (case aS => exact (zoa (w := w) (g := g) (row := none) (by repeat (first | (with_reducible first | exact HK.out | apply zf.set_ | apply zn | apply zq | apply zo) | exact HK.out)))); (case aL => have := LMc18.out; omega); intro v343 w20 ho hb hg hat; rw [← Ny342.out] at ho; have n0_ := za.mk (zc.grown (by repeat (first | (with_reducible first | exact HI0.out | apply zc.alloc | apply zc.drewN | apply zc.drew | apply zc.zx) | exact HI0.out)) hg (zc.zya HI0.out HO_3.out (by decide))); have n1_ := za.mk (zab (by repeat (first | (with_reducible first | exact HB.out | apply ze | apply zb | apply zd | refine zr ?_ (zc.ge HI0.out)) | exact HB.out)) HL.out hb); have n2_ := za.mk (zf.trans (by repeat (first | (with_reducible first | exact HK.out | apply zf.set_ | apply zn | apply zq | apply zo) | exact HK.out)) (zf.zgb hg g) (Kd.zyb HO_3.out)); have n3_ := za.mk (ho); clear HI0; clear HB; clear HK; clear HO_3; have HI0 := n0_; have HB := n1_; have HK := n2_; have HO344 := n3_; clear n0_ n1_ n2_ n3_; clear ho hb hg hat))
       go_roundg k1
       case measure => have := HK1.out; omega
       case rel => exact ⟨(y342), H', ⟨by have := HK1.out; omega⟩, ⟨by (with_reducible repeat (first | apply Kd.zg | apply Kd.zh | apply Kd.zm)); exact HO344.out⟩, ⟨by repeat (first | (with_reducible first | exact HI0.out | apply zc.alloc | apply zc.drewN | apply zc.drew | apply zc.zx) | exact HI0.out)⟩, ⟨by repeat (first | (with_reducible first | exact HK.out | apply zf.set_ | apply zn | apply zq | apply zo) | exact HK.out)⟩, ⟨by repeat (first | (with_reducible first | exact HB.out | apply ze | apply zb | apply zd | refine zr ?_ (zc.ge HI0.out)) | exact HB.out)⟩⟩
      ·rw [if_neg c18] at H
       exact absurd H (by simp)
     ·rw [if_neg c17] at H
      have c17b0 : decide ((x3_1.length : Int) ≤ 80) = false := decide_eq_false c17
      have c17b1 : decide (x3_1.length ≤ 80) = false := decide_eq_false (by omega)
      clear c17
      simp only [Option.some.injEq, Prod.mk.injEq] at H
      obtain ⟨rfl, rfl⟩ := H
      obtain ⟨Ao21, co21, eo21⟩ := Kd.zka HO_3.out
      subst eo21
      go_wp2
      go_ret
      exact ⟨_, by first | rfl | (simp [zi, zj] <;> rfl) | (simp [*, zi, zj] <;> rfl), by (with_reducible repeat (first | apply Kd.zg | apply Kd.zh | apply Kd.zm)); exact HO_3.out, by repeat (first | (with_reducible first | exact HI0.out | apply zc.alloc | apply zc.drewN | apply zc.drew | apply zc.zx) | exact HI0.out), by repeat (first | (with_reducible first | exact HB.out | apply ze | apply zb | apply zd | refine zr ?_ (zc.ge HI0.out)) | exact HB.out), by repeat (first | (with_reducible first | exact HK.out | apply zf.set_ | apply zn | apply zq | apply zo) | exact HK.out)⟩
  ·rw [if_neg c14] at H
   have c14b0 : (t332 == 1) = false := beq_eq_false_iff_ne.mpr c14
   have c14b1 : (t332 != 1) = true := bne_iff_ne.mpr c14
   simp only [Option.some.injEq, Prod.mk.injEq] at H
   obtain ⟨rfl, rfl⟩ := H
   go_enter Try.func58, Try.ntmps58
   go_wp2_with (first | ((with_reducible refine zt (f := 63) rfl ?_); refine zgo (some 5) Try.func63 #[.pointer (some ⟨g, 0, none⟩)] rfl ?_; (with_reducible refine (spec_l13Runes.calls k g s0_0 s0_1 t328 t331 w0 _ ?side1 ?side2 A2.out).mono ?_); (case side1 => repeat (first | (with_reducible first | exact HI0.out | apply zc.alloc | apply zc.drewN | apply zc.drew | apply zc.zx) | exact HI0.out)); (case side2 => repeat (first | (with_reducible first | exact HB.out | apply ze | apply zb | apply zd | refine zr ?_ (zc.ge HI0.out)) | exact HB.out)); rintro e w22 ⟨v329, rfl, ho0, hi, hb, hk⟩; refine ⟨_, rfl, ?_⟩; have n0_ := za.mk (Kd.zqa ho0 (zoa (w := w) (g := g) (row := none) (by repeat (first | (with_reducible first | exact HK.out | apply zf.set_ | apply zn | apply zq | apply zo) | exact HK.out)))); have n1_ := za.mk (zf.trans (by repeat (first | (with_reducible first | exact HK.out | apply zf.set_ | apply zn | apply zq | apply zo) | exact HK.out)) hk (.inl rfl)); have n2_ := za.mk (hb); have n3_ := za.mk (hi); clear HK; clear HB; clear HI0; have HO330 := n0_; have HK := n1_; have HB := n2_; have HI0 := n3_; clear n0_ n1_ n2_ n3_; (try clear hb); (try clear hb2); (try clear hk); (try clear hi); (try clear ho0)) | ((with_reducible refine zt (f := 66) rfl ?_); refine zgo (some 7) Try.func66 #[.pointer (some ⟨g, 0, none⟩), .int .i64 24] rfl ?_; (with_reducible refine (spec_l1Rd_pick.calls k g s0_0 t331 24 t332 t333 w0 _ ?side1 ?side2 A3.out).mono ?_); (case side1 => repeat (first | (with_reducible first | exact HI0.out | apply zc.alloc | apply zc.drewN | apply zc.drew | apply zc.zx) | exact HI0.out)); (case side2 => repeat (first | (with_reducible first | exact HB.out | apply ze | apply zb | apply zd | refine zr ?_ (zc.ge HI0.out)) | exact HB.out)); rintro e w23 ⟨rfl, hi, hb, hk⟩; refine ⟨_, rfl, ?_⟩; have n0_ := za.mk (Kd.zga (Kd.zsa (zc.apart (show zc w0 _ g s0_0 t331 from by repeat (first | (with_reducible first | exact HI0.out | apply zc.alloc | apply zc.drewN | apply zc.drew | apply zc.zx) | exact HI0.out)) (by (with_reducible repeat (first | apply Kd.zg | apply Kd.zh | apply Kd.zm)); exact HO330.out) (by decide)) hk (fun _ h => h.2)) (fun _ h => h.1)); have n1_ := za.mk (zf.trans (by repeat (first | (with_reducible first | exact HK.out | apply zf.set_ | apply zn | apply zq | apply zo) | exact HK.out)) hk (.inl rfl)); have n2_ := za.mk (hb); have n3_ := za.mk (hi); clear HO330; clear HK; clear HB; clear HI0; have HO330 := n0_; have HK := n1_; have HB := n2_; have HI0 := n3_; clear n0_ n1_ n2_ n3_; (try clear hb); (try clear hb2); (try clear hk); (try clear hi)))
   go_ret
   exact ⟨_, by first | rfl | (simp [zi, zj] <;> rfl) | (simp [*, zi, zj] <;> rfl), by (with_reducible repeat (first | apply Kd.zg | apply Kd.zh | apply Kd.zm)); exact HO330.out, by repeat (first | (with_reducible first | exact HI0.out | apply zc.alloc | apply zc.drewN | apply zc.drew | apply zc.zx) | exact HI0.out), by repeat (first | (with_reducible first | exact HB.out | apply ze | apply zb | apply zd | refine zr ?_ (zc.ge HI0.out)) | exact HB.out), by repeat (first | (with_reducible first | exact HK.out | apply zf.set_ | apply zn | apply zq | apply zo) | exact HK.out)⟩
end Go.Proofs.Ytmjhdgofepdgkaa.PFnWides
