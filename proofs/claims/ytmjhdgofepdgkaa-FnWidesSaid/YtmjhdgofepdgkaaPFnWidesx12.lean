-- Written by a program of this session (wip/tools) out of the translation; its shape is that of the kit print.
import Derived.Test.YtmjhdgofepdgkaaPFnWidesx0
import Derived.Test.YtmjhdgofepdgkaaPFnWidesx11
namespace Go.Proofs.Ytmjhdgofepdgkaa.PFnWides
open Go.RowKit Go.Proofs.YtmjhdgofepdgkaaW.PrintWords Go.Proofs.YtmjhdgofepdgkaaW.PrintLast Go.Proofs.YtmjhdgofepdgkaaW.PrintMore
attribute [local go_sem] zlb znb zvb zwb zbb zcb zob zqb
set_option linter.unusedVariables false
set_option maxHeartbeats 8000000
set_option maxRecDepth 100000
set_option linter.unusedSimpArgs false
mutual
def spec_l13Rune.j0 : Nat → Int → Bool → List Int → Int → Option (Int × Int)
 | 0, _, _, _, _ => none
 | k + 1, x4, x5, x1000, x1001 => if x5 = true then ((spec_l1Rd_one.f k x1000 x1001 (([97, 98, 105, 109, 122, 65] : List Int))).bind fun bt266 => (some (bt266.1, bt266.2))) else (if x4 = 4 then (spec_l13Rune.j1 k x4 (x4 == 4) x1000 x1001) else (if x4 = 5 then (spec_l13Rune.j1 k x4 (x4 == 5) x1000 x1001) else (spec_l13Rune.j1 k x4 (x4 == 6) x1000 x1001)))
def spec_l13Rune.j1 : Nat → Int → Bool → List Int → Int → Option (Int × Int)
 | 0, _, _, _, _ => none
 | k + 1, x4, x13, x1000, x1001 => if x13 = true then ((spec_l1Rd_one.f k x1000 x1001 (([1488, 1489, 1514] : List Int))).bind fun bt271 => (some (bt271.1, bt271.2))) else (if x4 = 7 then ((spec_l1Rd_one.f k x1000 x1001 (([1569, 1610, 1600] : List Int))).bind fun bt276 => (some (bt276.1, bt276.2))) else (if x4 = 8 then ((spec_l1Rd_one.f k x1000 x1001 (([48, 55, 1632, 1641] : List Int))).bind fun bt281 => (some (bt281.1, bt281.2))) else (if x4 = 9 then (spec_l13Rune.j2 k x4 (x4 == 9) x1000 x1001) else (spec_l13Rune.j2 k x4 (x4 == 10) x1000 x1001))))
def spec_l13Rune.j2 : Nat → Int → Bool → List Int → Int → Option (Int × Int)
 | 0, _, _, _, _ => none
 | k + 1, x4, x30, x1000, x1001 => if x30 = true then (some (32, x1001)) else (if x4 = 11 then ((spec_l1Rd_one.f k x1000 x1001 (([43, 45, 35, 36, 44, 46, 47, 58, 40, 41, 91, 93, 60, 33, 34, 59, 160] : List Int))).bind fun bt286 => (some (bt286.1, bt286.2))) else (if x4 = 12 then ((spec_l1Rd_one.f k x1000 x1001 (([768, 879, 8203, 8205, 173, 9, 10, 13] : List Int))).bind fun bt291 => (some (bt291.1, bt291.2))) else (if x4 = 13 then ((spec_l1Rd_one.f k x1000 x1001 (([8234, 8235, 8236, 8237, 8238] : List Int))).bind fun bt296 => (some (bt296.1, bt296.2))) else (if x4 = 14 then ((spec_l1Rd_one.f k x1000 x1001 (([8294, 8295, 8296, 8297, 8297] : List Int))).bind fun bt301 => (some (bt301.1, bt301.2))) else ((spec_l1Rd_one.f k x1000 x1001 (([19968, 40959, 127462, 127487, 128512, 200, 40, 41] : List Int))).bind fun bt306 => (some (bt306.1, bt306.2)))))))
end
def spec_l13Rune.f (k : Nat) (s0_0 : List Int) (s0_1 : Int) : Option (Int × Int) := (spec_l1Rd_pick.f k s0_0 s0_1 16).bind fun bt261 => (if bt261.1 = 0 then (spec_l13Rune.j0 k bt261.1 (bt261.1 == 0) s0_0 bt261.2) else (if bt261.1 = 1 then (spec_l13Rune.j0 k bt261.1 (bt261.1 == 1) s0_0 bt261.2) else (if bt261.1 = 2 then (spec_l13Rune.j0 k bt261.1 (bt261.1 == 2) s0_0 bt261.2) else (spec_l13Rune.j0 k bt261.1 (bt261.1 == 3) s0_0 bt261.2))))
theorem spec_l13Rune.calls (k : Nat) (g : Nat) (s0_0 : List Int) (s0_1 : Int) (r1 : Int) (r2 : Int) (w0 w : World) (hI : zc w0 w g s0_0 s0_1) (hB : Below w0.heap.size w0 w) (h : spec_l13Rune.f k s0_0 s0_1 = some (r1, r2)) :
  Calls Try.prog 107 #[.pointer (some ⟨g, 0, none⟩)] w fun e w' => e = .returned (.int .i64 r1) ∧ zc w0 w' g s0_0 r2 ∧ Below w0.heap.size w0 w' ∧ zf w w' g none := by
 have HI0 := za.mk hI
 have HK := za.mk (zf.refl w g none)
 have HL := za.mk hB.size
 clear hI
 have HW0 := za.mk hB.size
 have HB := za.mk hB
 clear hB
 have H : ((spec_l1Rd_pick.f k s0_0 s0_1 16).bind fun bt261 => (if bt261.1 = 0 then (spec_l13Rune.j0 k bt261.1 (bt261.1 == 0) s0_0 bt261.2) else (if bt261.1 = 1 then (spec_l13Rune.j0 k bt261.1 (bt261.1 == 1) s0_0 bt261.2) else (if bt261.1 = 2 then (spec_l13Rune.j0 k bt261.1 (bt261.1 == 2) s0_0 bt261.2) else (spec_l13Rune.j0 k bt261.1 (bt261.1 == 3) s0_0 bt261.2))))) = some (r1, r2) := h
 clear h
 replace H := Option.bind_eq_some_iff.mp H
 obtain ⟨⟨t261, t262⟩, A20, H⟩ := H
 replace H : (if t261 = 0 then (spec_l13Rune.j0 k t261 (t261 == 0) s0_0 t262) else (if t261 = 1 then (spec_l13Rune.j0 k t261 (t261 == 1) s0_0 t262) else (if t261 = 2 then (spec_l13Rune.j0 k t261 (t261 == 2) s0_0 t262) else (spec_l13Rune.j0 k t261 (t261 == 3) s0_0 t262)))) = some (r1, r2) := H
 have A2 := za.mk A20
 clear A20
 have HC3 := za.mk H
 clear H
 go_enter Try.func107, Try.ntmps107
 go_upto_if 5 with (first | ((with_reducible refine zt (f := 66) rfl ?_); refine zgo (some 4) Try.func66 #[.pointer (some ⟨g, 0, none⟩), .int .i64 16] rfl ?_; (with_reducible refine (spec_l1Rd_pick.calls k g s0_0 s0_1 16 t261 t262 w0 _ ?side1 ?side2 A2.out).mono ?_); (case side1 => repeat (first | (with_reducible first | exact HI0.out | apply zc.alloc | apply zc.drewN | apply zc.drew | apply zc.zx) | exact HI0.out)); (case side2 => repeat (first | (with_reducible first | exact HB.out | apply ze | apply zb | apply zd | refine zr ?_ (zc.ge HI0.out)) | exact HB.out)); rintro e w4 ⟨rfl, hi, hb, hk⟩; refine ⟨_, rfl, ?_⟩; have n0_ := za.mk (zf.trans (by repeat (first | (with_reducible first | exact HK.out | apply zf.set_ | apply zn | apply zq | apply zo) | exact HK.out)) hk (.inl rfl)); have n1_ := za.mk (hb); have n2_ := za.mk (hi); clear HK; clear HB; clear HI0; have HK := n0_; have HB := n1_; have HI0 := n2_; clear n0_ n1_ n2_; (try clear hb); (try clear hb2); (try clear hk); (try clear hi)))
 (try simp only [Act.put, List.setIfInBounds_toArray, List.set_cons_zero, List.set_cons_succ])
 go_cut [5] (fun v5 wc => ∃ (kq : Nat) (x5_2 : Bool), v5 = .bool x5_2 ∧ za (spec_l13Rune.j0 kq t261 x5_2 s0_0 t262 = some (r1, r2)) ∧ za (kq ≤ k) ∧ za (zc w0 wc g s0_0 t262) ∧ za (zf w wc g none) ∧ za (Below w0.heap.size w0 wc))
 case first =>
  have H := HC3.out
  clear HC3
  by_cases c5 : t261 = 0
  ·rw [if_pos c5] at H
   have c5b0 : (t261 == 0) = true := beq_iff_eq.mpr c5
   have c5b1 : (t261 != 0) = false := bne_eq_false_iff_eq.mpr c5
   clear c5
   (first | rw [c5b0] | (simp only [zk, zl]; rw [c5b0]) | skip)
   have H' := za.mk H
   clear H
   go_wp2
   go_meet
   case rel => exact ⟨_, ((t261 == 0)), (by first | rfl | (simp; done) | (simp [*]; done)), H', ⟨by first | omega | exact Nat.le_refl _⟩, ⟨by repeat (first | (with_reducible first | exact HI0.out | apply zc.alloc | apply zc.drewN | apply zc.drew | apply zc.zx) | exact HI0.out)⟩, ⟨by repeat (first | (with_reducible first | exact HK.out | apply zf.set_ | apply zn | apply zq | apply zo) | exact HK.out)⟩, ⟨by repeat (first | (with_reducible first | exact HB.out | apply ze | apply zb | apply zd | refine zr ?_ (zc.ge HI0.out)) | exact HB.out)⟩⟩
  ·rw [if_neg c5] at H
   have c5b0 : (t261 == 0) = false := beq_eq_false_iff_ne.mpr c5
   have c5b1 : (t261 != 0) = true := bne_iff_ne.mpr c5
   (first | rw [c5b0] | (simp only [zk, zl]; rw [c5b0]) | skip)
   by_cases c6 : t261 = 1
   ·rw [if_pos c6] at H
    have c6b0 : (t261 == 1) = true := beq_iff_eq.mpr c6
    have c6b1 : (t261 != 1) = false := bne_eq_false_iff_eq.mpr c6
    clear c6
    have H' := za.mk H
    clear H
    go_wp2
    go_meet
    case rel => exact ⟨_, ((t261 == 1)), (by first | rfl | (simp; done) | (simp [*]; done)), H', ⟨by first | omega | exact Nat.le_refl _⟩, ⟨by repeat (first | (with_reducible first | exact HI0.out | apply zc.alloc | apply zc.drewN | apply zc.drew | apply zc.zx) | exact HI0.out)⟩, ⟨by repeat (first | (with_reducible first | exact HK.out | apply zf.set_ | apply zn | apply zq | apply zo) | exact HK.out)⟩, ⟨by repeat (first | (with_reducible first | exact HB.out | apply ze | apply zb | apply zd | refine zr ?_ (zc.ge HI0.out)) | exact HB.out)⟩⟩
   ·rw [if_neg c6] at H
    have c6b0 : (t261 == 1) = false := beq_eq_false_iff_ne.mpr c6
    have c6b1 : (t261 != 1) = true := bne_iff_ne.mpr c6
    by_cases c7 : t261 = 2
    ·rw [if_pos c7] at H
     have c7b0 : (t261 == 2) = true := beq_iff_eq.mpr c7
     have c7b1 : (t261 != 2) = false := bne_eq_false_iff_eq.mpr c7
     clear c7
     have H' := za.mk H
     clear H
     go_wp2
     go_meet
     case rel => exact ⟨_, ((t261 == 2)), (by first | rfl | (simp; done) | (simp [*]; done)), H', ⟨by first | omega | exact Nat.le_refl _⟩, ⟨by repeat (first | (with_reducible first | exact HI0.out | apply zc.alloc | apply zc.drewN | apply zc.drew | apply zc.zx) | exact HI0.out)⟩, ⟨by repeat (first | (with_reducible first | exact HK.out | apply zf.set_ | apply zn | apply zq | apply zo) | exact HK.out)⟩, ⟨by repeat (first | (with_reducible first | exact HB.out | apply ze | apply zb | apply zd | refine zr ?_ (zc.ge HI0.out)) | exact HB.out)⟩⟩
    ·rw [if_neg c7] at H
     have c7b0 : (t261 == 2) = false := beq_eq_false_iff_ne.mpr c7
     have c7b1 : (t261 != 2) = true := bne_iff_ne.mpr c7
     have H' := za.mk H
     clear H
     go_wp2
     go_meet
     case rel => exact ⟨_, ((t261 == 3)), (by first | rfl | (simp; done) | (simp [*]; done)), H', ⟨by first | omega | exact Nat.le_refl _⟩, ⟨by repeat (first | (with_reducible first | exact HI0.out | apply zc.alloc | apply zc.drewN | apply zc.drew | apply zc.zx) | exact HI0.out)⟩, ⟨by repeat (first | (with_reducible first | exact HK.out | apply zf.set_ | apply zn | apply zq | apply zo) | exact HK.out)⟩, ⟨by repeat (first | (with_reducible first | exact HB.out | apply ze | apply zb | apply zd | refine zr ?_ (zc.ge HI0.out)) | exact HB.out)⟩⟩
 case rest =>
  clear HC3
  try clear c1
  try clear p2
  try clear c5
  try clear c5b0
  try clear c5b1
  try clear c6
  try clear c6b0
  try clear c6b1
  try clear c7
  try clear c7b0
  try clear c7b1
  obtain ⟨kq, x5_2, rfl, HA, HJ2, HI0, HK, HB⟩ := hcut
  cases kq with
  | zero => exact absurd HA.out (by simp [spec_l13Rune.j0])
  | succ kj2 =>
   have H := HA.out
   clear HA
   simp only [spec_l13Rune.j0] at H
   by_cases c8 : x5_2 = true
   ·subst c8
    have H1 : ((spec_l1Rd_one.f kj2 s0_0 t262 (([97, 98, 105, 109, 122, 65] : List Int))).bind fun bt266 => (some (bt266.1, bt266.2))) = some (r1, r2) := by rw [if_pos rfl] at H; exact H
    clear H
    have H := H1
    clear H1
    obtain ⟨y263, hy263⟩ : ∃ y_ : List Int, y_ = (([97, 98, 105, 109, 122, 65] : List Int)) := ⟨_, rfl⟩
    replace H : ((spec_l1Rd_one.f kj2 s0_0 t262 y263).bind fun bt266 => (some (bt266.1, bt266.2))) = some (r1, r2) := by first | (rw [hy263]; with_reducible exact H) | (have H2_ := (Option.bind_some _ _).symm.trans H; rw [hy263]; with_reducible exact H2_) | (have H2_ := (Option.bind_some _ _).symm.trans H; with_reducible exact H2_) | with_reducible exact H | (rw [hy263]; exact H) | exact H
    have Ny263 := za.mk hy263
    clear hy263
    replace H := Option.bind_eq_some_iff.mp H
    obtain ⟨⟨t266, t267⟩, A90, H⟩ := H
    replace H : (some (t266, t267)) = some (r1, r2) := H
    have A9 := za.mk A90
    clear A90
    simp only [Option.some.injEq, Prod.mk.injEq] at H
    obtain ⟨rfl, rfl⟩ := H
    go_wp2_with (first | ((with_reducible refine zla (N := 11) rfl ?_); refine Kd.zfb (Kd.int .i64) _ 3 ?hg (N := 11) ?hd (xs := ([97, 98, 105, 109, 122, 65] : List Int)) (inner := [.int .i64 97, .int .i64 98, .int .i64 105, .int .i64 109, .int .i64 122, .int .i64 65]) (ok := fun _ => True) (okp := fun _ => True) ?hr ?hp (fun _ hk => hk) trivial (Below.refl _ _) (Nat.le_refl _) (by simp) ?_; (case hd => rfl); (case hg => rfl); (case hr => first | (go_simp; done) | (go_simp; rfl)); (case hp => exact (Reps.one (show Kd.M (Kd.int .i64) _ _ _ 97 [.int .i64 97] from rfl) (Reps.one (show Kd.M (Kd.int .i64) _ _ _ 98 [.int .i64 98] from rfl) (Reps.one (show Kd.M (Kd.int .i64) _ _ _ 105 [.int .i64 105] from rfl) (Reps.one (show Kd.M (Kd.int .i64) _ _ _ 109 [.int .i64 109] from rfl) (Reps.one (show Kd.M (Kd.int .i64) _ _ _ 122 [.int .i64 122] from rfl) (Reps.one (show Kd.M (Kd.int .i64) _ _ _ 65 [.int .i64 65] from rfl) (Reps.none _ _)))))))); intro v264 w10 ho11 hb hg_ hnew_; clear hg_ hnew_; (first | rw [← Ny263.out] at ho11 | (simp only [Int.reduceToNat] at ho11; rw [← Ny263.out] at ho11)); have n0_ := za.mk (Kd.zqa ho11 (zoa (w := w) (g := g) (row := none) (by repeat (first | (with_reducible first | exact HK.out | apply zf.set_ | apply zn | apply zq | apply zo) | exact HK.out)))); have n1_ := za.mk (zc.below (by repeat (first | (with_reducible first | exact HI0.out | apply zc.alloc | apply zc.drewN | apply zc.drew | apply zc.zx) | exact HI0.out)) hb); have n2_ := za.mk (zf.trans (by repeat (first | (with_reducible first | exact HK.out | apply zf.set_ | apply zn | apply zq | apply zo) | exact HK.out)) (zf.of_below hb g none) (.inl rfl)); have n3_ := za.mk (zv (by repeat (first | (with_reducible first | exact HB.out | apply ze | apply zb | apply zd | refine zr ?_ (zc.ge HI0.out)) | exact HB.out)) hb); clear HI0; clear HK; clear HB; have HO265 := n0_; have HI0 := n1_; have HK := n2_; have HB := n3_; clear n0_ n1_ n2_ n3_; clear hb ho11; obtain ⟨Ao12, co12, eo12⟩ := Kd.zka HO265.out; subst eo12) | ((with_reducible refine zt (f := 67) rfl ?_); refine zgo (some 12) Try.func67 #[.pointer (some ⟨g, 0, none⟩), .slice Ao12 y263.length co12] rfl ?_; (with_reducible refine (spec_l1Rd_one.calls kj2 g s0_0 t262 _ _ y263 t266 t267 w0 _ ?side1 ?side2 ?side3 ?side4 ?side5 A9.out).mono ?_); (case side1 => repeat (first | (with_reducible first | exact HI0.out | apply zc.alloc | apply zc.drewN | apply zc.drew | apply zc.zx) | exact HI0.out)); (case side2 => repeat (first | (with_reducible first | exact HB.out | apply ze | apply zb | apply zd | refine zr ?_ (zc.ge HI0.out)) | exact HB.out)); (case side3 => repeat (first | exact (Kd.zw HO265.out).2.2 | (with_reducible refine Kd.zca ?_ _) | (with_reducible refine Kd.zda ?_ _) | (with_reducible refine Kd.zfa ?_))); (case side4 => exact (Kd.zw HO265.out).2.1); (case side5 => exact zub (zc.zya HI0.out HO265.out (by decide))); rintro e w13 ⟨rfl, hi, hb, hk⟩; refine ⟨_, rfl, ?_⟩; have n0_ := za.mk (Kd.zga (Kd.zsa (zc.apart (show zc w0 _ g s0_0 t262 from by repeat (first | (with_reducible first | exact HI0.out | apply zc.alloc | apply zc.drewN | apply zc.drew | apply zc.zx) | exact HI0.out)) (by (with_reducible repeat (first | apply Kd.zg | apply Kd.zh | apply Kd.zm)); exact HO265.out) (by decide)) hk (fun _ h => h.2)) (fun _ h => h.1)); have n1_ := za.mk (zf.trans (by repeat (first | (with_reducible first | exact HK.out | apply zf.set_ | apply zn | apply zq | apply zo) | exact HK.out)) hk (.inl rfl)); have n2_ := za.mk (hb); have n3_ := za.mk (hi); clear HO265; clear HK; clear HB; clear HI0; have HO265 := n0_; have HK := n1_; have HB := n2_; have HI0 := n3_; clear n0_ n1_ n2_ n3_; (try clear hb); (try clear hb2); (try clear hk); (try clear hi)))
    go_ret
    exact ⟨by first | rfl | (simp [zi, zj] <;> rfl) | (simp [*, zi, zj] <;> rfl), by repeat (first | (with_reducible first | exact HI0.out | apply zc.alloc | apply zc.drewN | apply zc.drew | apply zc.zx) | exact HI0.out), by repeat (first | (with_reducible first | exact HB.out | apply ze | apply zb | apply zd | refine zr ?_ (zc.ge HI0.out)) | exact HB.out), by repeat (first | (with_reducible first | exact HK.out | apply zf.set_ | apply zn | apply zq | apply zo) | exact HK.out)⟩
   ·replace c8 := Bool.eq_false_iff.mpr c8
    subst c8
    have H1 : (if t261 = 4 then (spec_l13Rune.j1 kj2 t261 (t261 == 4) s0_0 t262) else (if t261 = 5 then (spec_l13Rune.j1 kj2 t261 (t261 == 5) s0_0 t262) else (spec_l13Rune.j1 kj2 t261 (t261 == 6) s0_0 t262))) = some (r1, r2) := by rw [if_neg (show ¬ (false = true) by decide)] at H; exact H
    clear H
    have H := H1
    clear H1
    have HC14 := za.mk H
    clear H
    go_upto_if 13 with (fail)
    go_cut [13] (fun v13 wc => ∃ (kq : Nat) (x13_13 : Bool), v13 = .bool x13_13 ∧ za (spec_l13Rune.j1 kq t261 x13_13 s0_0 t262 = some (r1, r2)) ∧ za (kq ≤ kj2) ∧ za (zc w0 wc g s0_0 t262) ∧ za (zf w wc g none) ∧ za (Below w0.heap.size w0 wc))
    case first =>
     have H := HC14.out
     clear HC14
     by_cases c15 : t261 = 4
     ·rw [if_pos c15] at H
      have c15b0 : (t261 == 4) = true := beq_iff_eq.mpr c15
      have c15b1 : (t261 != 4) = false := bne_eq_false_iff_eq.mpr c15
      clear c15
      (first | rw [c15b0] | (simp only [zk, zl]; rw [c15b0]) | skip)
      have H' := za.mk H
      clear H
      go_wp2
      go_meet
      case rel => exact ⟨_, ((t261 == 4)), (by first | rfl | (simp; done) | (simp [*]; done)), H', ⟨by have := HJ2.out; first | omega | exact Nat.le_refl _⟩, ⟨by repeat (first | (with_reducible first | exact HI0.out | apply zc.alloc | apply zc.drewN | apply zc.drew | apply zc.zx) | exact HI0.out)⟩, ⟨by repeat (first | (with_reducible first | exact HK.out | apply zf.set_ | apply zn | apply zq | apply zo) | exact HK.out)⟩, ⟨by repeat (first | (with_reducible first | exact HB.out | apply ze | apply zb | apply zd | refine zr ?_ (zc.ge HI0.out)) | exact HB.out)⟩⟩
     ·rw [if_neg c15] at H
      have c15b0 : (t261 == 4) = false := beq_eq_false_iff_ne.mpr c15
      have c15b1 : (t261 != 4) = true := bne_iff_ne.mpr c15
      (first | rw [c15b0] | (simp only [zk, zl]; rw [c15b0]) | skip)
      by_cases c16 : t261 = 5
      ·rw [if_pos c16] at H
       have c16b0 : (t261 == 5) = true := beq_iff_eq.mpr c16
       have c16b1 : (t261 != 5) = false := bne_eq_false_iff_eq.mpr c16
       clear c16
       have H' := za.mk H
       clear H
       go_wp2
       go_meet
       case rel => exact ⟨_, ((t261 == 5)), (by first | rfl | (simp; done) | (simp [*]; done)), H', ⟨by have := HJ2.out; first | omega | exact Nat.le_refl _⟩, ⟨by repeat (first | (with_reducible first | exact HI0.out | apply zc.alloc | apply zc.drewN | apply zc.drew | apply zc.zx) | exact HI0.out)⟩, ⟨by repeat (first | (with_reducible first | exact HK.out | apply zf.set_ | apply zn | apply zq | apply zo) | exact HK.out)⟩, ⟨by repeat (first | (with_reducible first | exact HB.out | apply ze | apply zb | apply zd | refine zr ?_ (zc.ge HI0.out)) | exact HB.out)⟩⟩
      ·rw [if_neg c16] at H
       have c16b0 : (t261 == 5) = false := beq_eq_false_iff_ne.mpr c16
       have c16b1 : (t261 != 5) = true := bne_iff_ne.mpr c16
       have H' := za.mk H
       clear H
       go_wp2
       go_meet
       case rel => exact ⟨_, ((t261 == 6)), (by first | rfl | (simp; done) | (simp [*]; done)), H', ⟨by have := HJ2.out; first | omega | exact Nat.le_refl _⟩, ⟨by repeat (first | (with_reducible first | exact HI0.out | apply zc.alloc | apply zc.drewN | apply zc.drew | apply zc.zx) | exact HI0.out)⟩, ⟨by repeat (first | (with_reducible first | exact HK.out | apply zf.set_ | apply zn | apply zq | apply zo) | exact HK.out)⟩, ⟨by repeat (first | (with_reducible first | exact HB.out | apply ze | apply zb | apply zd | refine zr ?_ (zc.ge HI0.out)) | exact HB.out)⟩⟩
    case rest =>
     clear HC14
     try clear c1
     try clear p2
     try clear c5
     try clear c5b0
     try clear c5b1
     try clear c6
     try clear c6b0
     try clear c6b1
     try clear c7
     try clear c7b0
     try clear c7b1
     try clear c8
     try clear c10
     try clear c15
     try clear c15b0
     try clear c15b1
     try clear c16
     try clear c16b0
     try clear c16b1
     try clear p2
     obtain ⟨kq, x13_13, rfl, HA, HJ13, HI0, HK, HB⟩ := hcut
     cases kq with
     | zero => exact absurd HA.out (by simp [spec_l13Rune.j1])
     | succ kj13 =>
      have H := HA.out
      clear HA
      simp only [spec_l13Rune.j1] at H
      by_cases c17 : x13_13 = true
      ·subst c17
       have H1 : ((spec_l1Rd_one.f kj13 s0_0 t262 (([1488, 1489, 1514] : List Int))).bind fun bt271 => (some (bt271.1, bt271.2))) = some (r1, r2) := by rw [if_pos rfl] at H; exact H
       clear H
       have H := H1
       clear H1
       obtain ⟨y268, hy268⟩ : ∃ y_ : List Int, y_ = (([1488, 1489, 1514] : List Int)) := ⟨_, rfl⟩
       replace H : ((spec_l1Rd_one.f kj13 s0_0 t262 y268).bind fun bt271 => (some (bt271.1, bt271.2))) = some (r1, r2) := by first | (rw [hy268]; with_reducible exact H) | (have H2_ := (Option.bind_some _ _).symm.trans H; rw [hy268]; with_reducible exact H2_) | (have H2_ := (Option.bind_some _ _).symm.trans H; with_reducible exact H2_) | with_reducible exact H | (rw [hy268]; exact H) | exact H
       have Ny268 := za.mk hy268
       clear hy268
       replace H := Option.bind_eq_some_iff.mp H
       obtain ⟨⟨t271, t272⟩, A180, H⟩ := H
       replace H : (some (t271, t272)) = some (r1, r2) := H
       have A18 := za.mk A180
       clear A180
       simp only [Option.some.injEq, Prod.mk.injEq] at H
       obtain ⟨rfl, rfl⟩ := H
       go_wp2_with (first | ((with_reducible refine zla (N := 18) rfl ?_); refine Kd.zfb (Kd.int .i64) _ 3 ?hg (N := 18) ?hd (xs := ([1488, 1489, 1514] : List Int)) (inner := [.int .i64 1488, .int .i64 1489, .int .i64 1514]) (ok := fun _ => True) (okp := fun _ => True) ?hr ?hp (fun _ hk => hk) trivial (Below.refl _ _) (Nat.le_refl _) (by simp) ?_; (case hd => rfl); (case hg => rfl); (case hr => first | (go_simp; done) | (go_simp; rfl)); (case hp => exact (Reps.one (show Kd.M (Kd.int .i64) _ _ _ 1488 [.int .i64 1488] from rfl) (Reps.one (show Kd.M (Kd.int .i64) _ _ _ 1489 [.int .i64 1489] from rfl) (Reps.one (show Kd.M (Kd.int .i64) _ _ _ 1514 [.int .i64 1514] from rfl) (Reps.none _ _))))); intro v269 w19 ho20 hb hg_ hnew_; clear hg_ hnew_; (first | rw [← Ny268.out] at ho20 | (simp only [Int.reduceToNat] at ho20; rw [← Ny268.out] at ho20)); have n0_ := za.mk (Kd.zqa ho20 (zoa (w := w) (g := g) (row := none) (by repeat (first | (with_reducible first | exact HK.out | apply zf.set_ | apply zn | apply zq | apply zo) | exact HK.out)))); have n1_ := za.mk (zc.below (by repeat (first | (with_reducible first | exact HI0.out | apply zc.alloc | apply zc.drewN | apply zc.drew | apply zc.zx) | exact HI0.out)) hb); have n2_ := za.mk (zf.trans (by repeat (first | (with_reducible first | exact HK.out | apply zf.set_ | apply zn | apply zq | apply zo) | exact HK.out)) (zf.of_below hb g none) (.inl rfl)); have n3_ := za.mk (zv (by repeat (first | (with_reducible first | exact HB.out | apply ze | apply zb | apply zd | refine zr ?_ (zc.ge HI0.out)) | exact HB.out)) hb); clear HI0; clear HK; clear HB; have HO270 := n0_; have HI0 := n1_; have HK := n2_; have HB := n3_; clear n0_ n1_ n2_ n3_; clear hb ho20; obtain ⟨Ao21, co21, eo21⟩ := Kd.zka HO270.out; subst eo21) | ((with_reducible refine zt (f := 67) rfl ?_); refine zgo (some 19) Try.func67 #[.pointer (some ⟨g, 0, none⟩), .slice Ao21 y268.length co21] rfl ?_; (with_reducible refine (spec_l1Rd_one.calls kj13 g s0_0 t262 _ _ y268 t271 t272 w0 _ ?side1 ?side2 ?side3 ?side4 ?side5 A18.out).mono ?_); (case side1 => repeat (first | (with_reducible first | exact HI0.out | apply zc.alloc | apply zc.drewN | apply zc.drew | apply zc.zx) | exact HI0.out)); (case side2 => repeat (first | (with_reducible first | exact HB.out | apply ze | apply zb | apply zd | refine zr ?_ (zc.ge HI0.out)) | exact HB.out)); (case side3 => repeat (first | exact (Kd.zw HO270.out).2.2 | (with_reducible refine Kd.zca ?_ _) | (with_reducible refine Kd.zda ?_ _) | (with_reducible refine Kd.zfa ?_))); (case side4 => exact (Kd.zw HO270.out).2.1); (case side5 => exact zub (zc.zya HI0.out HO270.out (by decide))); rintro e w22 ⟨rfl, hi, hb, hk⟩; refine ⟨_, rfl, ?_⟩; have n0_ := za.mk (Kd.zga (Kd.zsa (zc.apart (show zc w0 _ g s0_0 t262 from by repeat (first | (with_reducible first | exact HI0.out | apply zc.alloc | apply zc.drewN | apply zc.drew | apply zc.zx) | exact HI0.out)) (by (with_reducible repeat (first | apply Kd.zg | apply Kd.zh | apply Kd.zm)); exact HO270.out) (by decide)) hk (fun _ h => h.2)) (fun _ h => h.1)); have n1_ := za.mk (zf.trans (by repeat (first | (with_reducible first | exact HK.out | apply zf.set_ | apply zn | apply zq | apply zo) | exact HK.out)) hk (.inl rfl)); have n2_ := za.mk (hb); have n3_ := za.mk (hi); clear HO270; clear HK; clear HB; clear HI0; have HO270 := n0_; have HK := n1_; have HB := n2_; have HI0 := n3_; clear n0_ n1_ n2_ n3_; (try clear hb); (try clear hb2); (try clear hk); (try clear hi)))
       go_ret
       exact ⟨by first | rfl | (simp [zi, zj] <;> rfl) | (simp [*, zi, zj] <;> rfl), by repeat (first | (with_reducible first | exact HI0.out | apply zc.alloc | apply zc.drewN | apply zc.drew | apply zc.zx) | exact HI0.out), by repeat (first | (with_reducible first | exact HB.out | apply ze | apply zb | apply zd | refine zr ?_ (zc.ge HI0.out)) | exact HB.out), by repeat (first | (with_reducible first | exact HK.out | apply zf.set_ | apply zn | apply zq | apply zo) | exact HK.out)⟩
      ·replace c17 := Bool.eq_false_iff.mpr c17
       subst c17
       have H1 : (if t261 = 7 then ((spec_l1Rd_one.f kj13 s0_0 t262 (([1569, 1610, 1600] : List Int))).bind fun bt276 => (some (bt276.1, bt276.2))) else (if t261 = 8 then ((spec_l1Rd_one.f kj13 s0_0 t262 (([48, 55, 1632, 1641] : List Int))).bind fun bt281 => (some (bt281.1, bt281.2))) else (if t261 = 9 then (spec_l13Rune.j2 kj13 t261 (t261 == 9) s0_0 t262) else (spec_l13Rune.j2 kj13 t261 (t261 == 10) s0_0 t262)))) = some (r1, r2) := by rw [if_neg (show ¬ (false = true) by decide)] at H; exact H
       clear H
       have H := H1
       clear H1
       by_cases c23 : t261 = 7
       ·rw [if_pos c23] at H
        have c23b0 : (t261 == 7) = true := beq_iff_eq.mpr c23
        have c23b1 : (t261 != 7) = false := bne_eq_false_iff_eq.mpr c23
        clear c23
        obtain ⟨y273, hy273⟩ : ∃ y_ : List Int, y_ = (([1569, 1610, 1600] : List Int)) := ⟨_, rfl⟩
        replace H : ((spec_l1Rd_one.f kj13 s0_0 t262 y273).bind fun bt276 => (some (bt276.1, bt276.2))) = some (r1, r2) := by first | (rw [hy273]; with_reducible exact H) | (have H2_ := (Option.bind_some _ _).symm.trans H; rw [hy273]; with_reducible exact H2_) | (have H2_ := (Option.bind_some _ _).symm.trans H; with_reducible exact H2_) | with_reducible exact H | (rw [hy273]; exact H) | exact H
        have Ny273 := za.mk hy273
        clear hy273
        replace H := Option.bind_eq_some_iff.mp H
        obtain ⟨⟨t276, t277⟩, A240, H⟩ := H
        replace H : (some (t276, t277)) = some (r1, r2) := H
        have A24 := za.mk A240
        clear A240
        simp only [Option.some.injEq, Prod.mk.injEq] at H
        obtain ⟨rfl, rfl⟩ := H
        go_wp2_with (first | ((with_reducible refine zla (N := 23) rfl ?_); refine Kd.zfb (Kd.int .i64) _ 3 ?hg (N := 23) ?hd (xs := ([1569, 1610, 1600] : List Int)) (inner := [.int .i64 1569, .int .i64 1610, .int .i64 1600]) (ok := fun _ => True) (okp := fun _ => True) ?hr ?hp (fun _ hk => hk) trivial (Below.refl _ _) (Nat.le_refl _) (by simp) ?_; (case hd => rfl); (case hg => rfl); (case hr => first | (go_simp; done) | (go_simp; rfl)); (case hp => exact (Reps.one (show Kd.M (Kd.int .i64) _ _ _ 1569 [.int .i64 1569] from rfl) (Reps.one (show Kd.M (Kd.int .i64) _ _ _ 1610 [.int .i64 1610] from rfl) (Reps.one (show Kd.M (Kd.int .i64) _ _ _ 1600 [.int .i64 1600] from rfl) (Reps.none _ _))))); intro v274 w25 ho26 hb hg_ hnew_; clear hg_ hnew_; (first | rw [← Ny273.out] at ho26 | (simp only [Int.reduceToNat] at ho26; rw [← Ny273.out] at ho26)); have n0_ := za.mk (Kd.zqa ho26 (zoa (w := w) (g := g) (row := none) (by repeat (first | (with_reducible first | exact HK.out | apply zf.set_ | apply zn | apply zq | apply zo) | exact HK.out)))); have n1_ := za.mk (zc.below (by repeat (first | (with_reducible first | exact HI0.out | apply zc.alloc | apply zc.drewN | apply zc.drew | apply zc.zx) | exact HI0.out)) hb); have n2_ := za.mk (zf.trans (by repeat (first | (with_reducible first | exact HK.out | apply zf.set_ | apply zn | apply zq | apply zo) | exact HK.out)) (zf.of_below hb g none) (.inl rfl)); have n3_ := za.mk (zv (by repeat (first | (with_reducible first | exact HB.out | apply ze | apply zb | apply zd | refine zr ?_ (zc.ge HI0.out)) | exact HB.out)) hb); clear HI0; clear HK; clear HB; have HO275 := n0_; have HI0 := n1_; have HK := n2_; have HB := n3_; clear n0_ n1_ n2_ n3_; clear hb ho26; obtain ⟨Ao27, co27, eo27⟩ := Kd.zka HO275.out; subst eo27) | ((with_reducible refine zt (f := 67) rfl ?_); refine zgo (some 24) Try.func67 #[.pointer (some ⟨g, 0, none⟩), .slice Ao27 y273.length co27] rfl ?_; (with_reducible refine (spec_l1Rd_one.calls kj13 g s0_0 t262 _ _ y273 t276 t277 w0 _ ?side1 ?side2 ?side3 ?side4 ?side5 A24.out).mono ?_); (case side1 => repeat (first | (with_reducible first | exact HI0.out | apply zc.alloc | apply zc.drewN | apply zc.drew | apply zc.zx) | exact HI0.out)); (case side2 => repeat (first | (with_reducible first | exact HB.out | apply ze | apply zb | apply zd | refine zr ?_ (zc.ge HI0.out)) | exact HB.out)); (case side3 => repeat (first | exact (Kd.zw HO275.out).2.2 | (with_reducible refine Kd.zca ?_ _) | (with_reducible refine Kd.zda ?_ _) | (with_reducible refine Kd.zfa ?_))); (case side4 => exact (Kd.zw HO275.out).2.1); (case side5 => exact zub (zc.zya HI0.out HO275.out (by decide))); rintro e w28 ⟨rfl, hi, hb, hk⟩; refine ⟨_, rfl, ?_⟩; have n0_ := za.mk (Kd.zga (Kd.zsa (zc.apart (show zc w0 _ g s0_0 t262 from by repeat (first | (with_reducible first | exact HI0.out | apply zc.alloc | apply zc.drewN | apply zc.drew | apply zc.zx) | exact HI0.out)) (by (with_reducible repeat (first | apply Kd.zg | apply Kd.zh | apply Kd.zm)); exact HO275.out) (by decide)) hk (fun _ h => h.2)) (fun _ h => h.1)); have n1_ := za.mk (zf.trans (by repeat (first | (with_reducible first | exact HK.out | apply zf.set_ | apply zn | apply zq | apply zo) | exact HK.out)) hk (.inl rfl)); have n2_ := za.mk (hb); have n3_ := za.mk (hi); clear HO275; clear HK; clear HB; clear HI0; have HO275 := n0_; have HK := n1_; have HB := n2_; have HI0 := n3_; clear n0_ n1_ n2_ n3_; (try clear hb); (try clear hb2); (try clear hk); (try clear hi)))
        go_ret
        exact ⟨by first | rfl | (simp [zi, zj] <;> rfl) | (simp [*, zi, zj] <;> rfl), by repeat (first | (with_reducible first | exact HI0.out | apply zc.alloc | apply zc.drewN | apply zc.drew | apply zc.zx) | exact HI0.out), by repeat (first | (with_reducible first | exact HB.out | apply ze | apply zb | apply zd | refine zr ?_ (zc.ge HI0.out)) | exact HB.out), by repeat (first | (with_reducible first | exact HK.out | apply zf.set_ | apply zn | apply zq | apply zo) | exact HK.out)⟩
       ·rw [if_neg c23] at H
        have c23b0 : (t261 == 7) = false := beq_eq_false_iff_ne.mpr c23
        have c23b1 : (t261 != 7) = true := bne_iff_ne.mpr c23
        by_cases c29 : t261 = 8
        ·rw [if_pos c29] at H
         have c29b0 : (t261 == 8) = true := beq_iff_eq.mpr c29
         have c29b1 : (t261 != 8) = false := bne_eq_false_iff_eq.mpr c29
         clear c29
         obtain ⟨y278, hy278⟩ : ∃ y_ : List Int, y_ = (([48, 55, 1632, 1641] : List Int)) := ⟨_, rfl⟩
         replace H : ((spec_l1Rd_one.f kj13 s0_0 t262 y278).bind fun bt281 => (some (bt281.1, bt281.2))) = some (r1, r2) := by first | (rw [hy278]; with_reducible exact H) | (have H2_ := (Option.bind_some _ _).symm.trans H; rw [hy278]; with_reducible exact H2_) | (have H2_ := (Option.bind_some _ _).symm.trans H; with_reducible exact H2_) | with_reducible exact H | (rw [hy278]; exact H) | exact H
         have Ny278 := za.mk hy278
         clear hy278
         replace H := Option.bind_eq_some_iff.mp H
         obtain ⟨⟨t281, t282⟩, A300, H⟩ := H
         replace H : (some (t281, t282)) = some (r1, r2) := H
         have A30 := za.mk A300
         clear A300
         simp only [Option.some.injEq, Prod.mk.injEq] at H
         obtain ⟨rfl, rfl⟩ := H
         go_wp2_with (first | ((with_reducible refine zla (N := 28) rfl ?_); refine Kd.zfb (Kd.int .i64) _ 3 ?hg (N := 28) ?hd (xs := ([48, 55, 1632, 1641] : List Int)) (inner := [.int .i64 48, .int .i64 55, .int .i64 1632, .int .i64 1641]) (ok := fun _ => True) (okp := fun _ => True) ?hr ?hp (fun _ hk => hk) trivial (Below.refl _ _) (Nat.le_refl _) (by simp) ?_; (case hd => rfl); (case hg => rfl); (case hr => first | (go_simp; done) | (go_simp; rfl)); (case hp => exact (Reps.one (show Kd.M (Kd.int .i64) _ _ _ 48 [.int .i64 48] from rfl) (Reps.one (show Kd.M (Kd.int .i64) _ _ _ 55 [.int .i64 55] from rfl) (Reps.one (show Kd.M (Kd.int .i64) _ _ _ 1632 [.int .i64 1632] from rfl) (Reps.one (show Kd.M (Kd.int .i64) _ _ _ 1641 [.int .i64 1641] from rfl) (Reps.none _ _)))))); intro v279 w31 ho32 hb hg_ hnew_; clear hg_ hnew_; (first | rw [← Ny278.out] at ho32 | (simp only [Int.reduceToNat] at ho32; rw [← Ny278.out] at ho32)); have n0_ := za.mk (Kd.zqa ho32 (zoa (w := w) (g := g) (row := none) (by repeat (first | (with_reducible first | exact HK.out | apply zf.set_ | apply zn | apply zq | apply zo) | exact HK.out)))); have n1_ := za.mk (zc.below (by repeat (first | (with_reducible first | exact HI0.out | apply zc.alloc | apply zc.drewN | apply zc.drew | apply zc.zx) | exact HI0.out)) hb); have n2_ := za.mk (zf.trans (by repeat (first | (with_reducible first | exact HK.out | apply zf.set_ | apply zn | apply zq | apply zo) | exact HK.out)) (zf.of_below hb g none) (.inl rfl)); have n3_ := za.mk (zv (by repeat (first | (with_reducible first | exact HB.out | apply ze | apply zb | apply zd | refine zr ?_ (zc.ge HI0.out)) | exact HB.out)) hb); clear HI0; clear HK; clear HB; have HO280 := n0_; have HI0 := n1_; have HK := n2_; have HB := n3_; clear n0_ n1_ n2_ n3_; clear hb ho32; obtain ⟨Ao33, co33, eo33⟩ := Kd.zka HO280.out; subst eo33) | ((with_reducible refine zt (f := 67) rfl ?_); refine zgo (some 29) Try.func67 #[.pointer (some ⟨g, 0, none⟩), .slice Ao33 y278.length co33] rfl ?_; (with_reducible refine (spec_l1Rd_one.calls kj13 g s0_0 t262 _ _ y278 t281 t282 w0 _ ?side1 ?side2 ?side3 ?side4 ?side5 A30.out).mono ?_); (case side1 => repeat (first | (with_reducible first | exact HI0.out | apply zc.alloc | apply zc.drewN | apply zc.drew | apply zc.zx) | exact HI0.out)); (case side2 => repeat (first | (with_reducible first | exact HB.out | apply ze | apply zb | apply zd | refine zr ?_ (zc.ge HI0.out)) | exact HB.out)); (case side3 => repeat (first | exact (Kd.zw HO280.out).2.2 | (with_reducible refine Kd.zca ?_ _) | (with_reducible refine Kd.zda ?_ _) | (with_reducible refine Kd.zfa ?_))); (case side4 => exact (Kd.zw HO280.out).2.1); (case side5 => exact zub (zc.zya HI0.out HO280.out (by decide))); rintro e w34 ⟨rfl, hi, hb, hk⟩; refine ⟨_, rfl, ?_⟩; have n0_ := za.mk (Kd.zga (Kd.zsa (zc.apart (show zc w0 _ g s0_0 t262 from by repeat (first | (with_reducible first | exact HI0.out | apply zc.alloc | apply zc.drewN | apply zc.drew | apply zc.zx) | exact HI0.out)) (by (with_reducible repeat (first | apply Kd.zg | apply Kd.zh | apply Kd.zm)); exact HO280.out) (by decide)) hk (fun _ h => h.2)) (fun _ h => h.1)); have n1_ := za.mk (zf.trans (by repeat (first | (with_reducible first | exact HK.out | apply zf.set_ | apply zn | apply zq | apply zo) | exact HK.out)) hk (.inl rfl)); have n2_ := za.mk (hb); have n3_ := za.mk (hi); clear HO280; clear HK; clear HB; clear HI0; have HO280 := n0_; have HK := n1_; have HB := n2_; have HI0 := n3_; clear n0_ n1_ n2_ n3_; (try clear hb); (try clear hb2); (try clear hk); (try clear hi)))
         go_ret
         exact ⟨by first | rfl | (simp [zi, zj] <;> rfl) | (simp [*, zi, zj] <;> rfl), by repeat (first | (with_reducible first | exact HI0.out | apply zc.alloc | apply zc.drewN | apply zc.drew | apply zc.zx) | exact HI0.out), by repeat (first | (with_reducible first | exact HB.out | apply ze | apply zb | apply zd | refine zr ?_ (zc.ge HI0.out)) | exact HB.out), by repeat (first | (with_reducible first | exact HK.out | apply zf.set_ | apply zn | apply zq | apply zo) | exact HK.out)⟩
        ·rw [if_neg c29] at H
         have c29b0 : (t261 == 8) = false := beq_eq_false_iff_ne.mpr c29
         have c29b1 : (t261 != 8) = true := bne_iff_ne.mpr c29
         have HC35 := za.mk H
         clear H
         go_upto_if 30 with (fail)
         go_cut [30] (fun v30 wc => ∃ (kq : Nat) (x30_34 : Bool), v30 = .bool x30_34 ∧ za (spec_l13Rune.j2 kq t261 x30_34 s0_0 t262 = some (r1, r2)) ∧ za (kq ≤ kj13) ∧ za (zc w0 wc g s0_0 t262) ∧ za (zf w wc g none) ∧ za (Below w0.heap.size w0 wc))
         case first =>
          have H := HC35.out
          clear HC35
          by_cases c36 : t261 = 9
          ·rw [if_pos c36] at H
           have c36b0 : (t261 == 9) = true := beq_iff_eq.mpr c36
           have c36b1 : (t261 != 9) = false := bne_eq_false_iff_eq.mpr c36
           clear c36
           (first | rw [c36b0] | (simp only [zk, zl]; rw [c36b0]) | skip)
           have H' := za.mk H
           clear H
           go_wp2
           go_meet
           case rel => exact ⟨_, ((t261 == 9)), (by first | rfl | (simp; done) | (simp [*]; done)), H', ⟨by have := HJ2.out; have := HJ13.out; first | omega | exact Nat.le_refl _⟩, ⟨by repeat (first | (with_reducible first | exact HI0.out | apply zc.alloc | apply zc.drewN | apply zc.drew | apply zc.zx) | exact HI0.out)⟩, ⟨by repeat (first | (with_reducible first | exact HK.out | apply zf.set_ | apply zn | apply zq | apply zo) | exact HK.out)⟩, ⟨by repeat (first | (with_reducible first | exact HB.out | apply ze | apply zb | apply zd | refine zr ?_ (zc.ge HI0.out)) | exact HB.out)⟩⟩
          ·rw [if_neg c36] at H
           have c36b0 : (t261 == 9) = false := beq_eq_false_iff_ne.mpr c36
           have c36b1 : (t261 != 9) = true := bne_iff_ne.mpr c36
           (first | rw [c36b0] | (simp only [zk, zl]; rw [c36b0]) | skip)
           have H' := za.mk H
           clear H
           go_wp2
           go_meet
           case rel => exact ⟨_, ((t261 == 10)), (by first | rfl | (simp; done) | (simp [*]; done)), H', ⟨by have := HJ2.out; have := HJ13.out; first | omega | exact Nat.le_refl _⟩, ⟨by repeat (first | (with_reducible first | exact HI0.out | apply zc.alloc | apply zc.drewN | apply zc.drew | apply zc.zx) | exact HI0.out)⟩, ⟨by repeat (first | (with_reducible first | exact HK.out | apply zf.set_ | apply zn | apply zq | apply zo) | exact HK.out)⟩, ⟨by repeat (first | (with_reducible first | exact HB.out | apply ze | apply zb | apply zd | refine zr ?_ (zc.ge HI0.out)) | exact HB.out)⟩⟩
         case rest =>
          clear HC35
          try clear c1
          try clear c2
          try clear p2
          try clear c3
          try clear c5
          try clear c5b0
          try clear c5b1
          try clear c6
          try clear c6b0
          try clear c6b1
          try clear c7
          try clear c7b0
          try clear c7b1
          try clear c8
          try clear c10
          try clear c15
          try clear c15b0
          try clear c15b1
          try clear c16
          try clear c16b0
          try clear c16b1
          try clear c17
          try clear c23
          try clear c23b0
          try clear c23b1
          try clear c29
          try clear c29b0
          try clear c29b1
          try clear c36
          try clear c36b0
          try clear c36b1
          try clear p2
          obtain ⟨kq, x30_34, rfl, HA, HJ34, HI0, HK, HB⟩ := hcut
          cases kq with
          | zero => exact absurd HA.out (by simp [spec_l13Rune.j2])
          | succ kj34 =>
           have H := HA.out
           clear HA
           simp only [spec_l13Rune.j2] at H
           by_cases c37 : x30_34 = true
           ·subst c37
            have H1 : (some (32, t262)) = some (r1, r2) := by rw [if_pos rfl] at H; exact H
            clear H
            have H := H1
            clear H1
            simp only [Option.some.injEq, Prod.mk.injEq] at H
            obtain ⟨rfl, rfl⟩ := H
            go_wp2
            go_ret
            exact ⟨by first | rfl | (simp [zi, zj] <;> rfl) | (simp [*, zi, zj] <;> rfl), by repeat (first | (with_reducible first | exact HI0.out | apply zc.alloc | apply zc.drewN | apply zc.drew | apply zc.zx) | exact HI0.out), by repeat (first | (with_reducible first | exact HB.out | apply ze | apply zb | apply zd | refine zr ?_ (zc.ge HI0.out)) | exact HB.out), by repeat (first | (with_reducible first | exact HK.out | apply zf.set_ | apply zn | apply zq | apply zo) | exact HK.out)⟩
           ·replace c37 := Bool.eq_false_iff.mpr c37
            subst c37
            have H1 : (if t261 = 11 then ((spec_l1Rd_one.f kj34 s0_0 t262 (([43, 45, 35, 36, 44, 46, 47, 58, 40, 41, 91, 93, 60, 33, 34, 59, 160] : List Int))).bind fun bt286 => (some (bt286.1, bt286.2))) else (if t261 = 12 then ((spec_l1Rd_one.f kj34 s0_0 t262 (([768, 879, 8203, 8205, 173, 9, 10, 13] : List Int))).bind fun bt291 => (some (bt291.1, bt291.2))) else (if t261 = 13 then ((spec_l1Rd_one.f kj34 s0_0 t262 (([8234, 8235, 8236, 8237, 8238] : List Int))).bind fun bt296 => (some (bt296.1, bt296.2))) else (if t261 = 14 then ((spec_l1Rd_one.f kj34 s0_0 t262 (([8294, 8295, 8296, 8297, 8297] : List Int))).bind fun bt301 => (some (bt301.1, bt301.2))) else ((spec_l1Rd_one.f kj34 s0_0 t262 (([19968, 40959, 127462, 127487, 128512, 200, 40, 41] : List Int))).bind fun bt306 => (some (bt306.1, bt306.2))))))) = some (r1, r2) := by rw [if_neg (show ¬ (false = true) by decide)] at H; exact H
            clear H
            have H := H1
            clear H1
            by_cases c38 : t261 = 11
            ·rw [if_pos c38] at H
             have c38b0 : (t261 == 11) = true := beq_iff_eq.mpr c38
             have c38b1 : (t261 != 11) = false := bne_eq_false_iff_eq.mpr c38
             clear c38
             obtain ⟨y283, hy283⟩ : ∃ y_ : List Int, y_ = (([43, 45, 35, 36, 44, 46, 47, 58, 40, 41, 91, 93, 60, 33, 34, 59, 160] : List Int)) := ⟨_, rfl⟩
             replace H : ((spec_l1Rd_one.f kj34 s0_0 t262 y283).bind fun bt286 => (some (bt286.1, bt286.2))) = some (r1, r2) := by first | (rw [hy283]; with_reducible exact H) | (have H2_ := (Option.bind_some _ _).symm.trans H; rw [hy283]; with_reducible exact H2_) | (have H2_ := (Option.bind_some _ _).symm.trans H; with_reducible exact H2_) | with_reducible exact H | (rw [hy283]; exact H) | exact H
             have Ny283 := za.mk hy283
             clear hy283
             replace H := Option.bind_eq_some_iff.mp H
             obtain ⟨⟨t286, t287⟩, A390, H⟩ := H
             replace H : (some (t286, t287)) = some (r1, r2) := H
             have A39 := za.mk A390
             clear A390
             simp only [Option.some.injEq, Prod.mk.injEq] at H
             obtain ⟨rfl, rfl⟩ := H
             go_wp2_with (first | ((with_reducible refine zla (N := 36) rfl ?_); refine Kd.zfb (Kd.int .i64) _ 3 ?hg (N := 36) ?hd (xs := ([43, 45, 35, 36, 44, 46, 47, 58, 40, 41, 91, 93, 60, 33, 34, 59, 160] : List Int)) (inner := [.int .i64 43, .int .i64 45, .int .i64 35, .int .i64 36, .int .i64 44, .int .i64 46, .int .i64 47, .int .i64 58, .int .i64 40, .int .i64 41, .int .i64 91, .int .i64 93, .int .i64 60, .int .i64 33, .int .i64 34, .int .i64 59, .int .i64 160]) (ok := fun _ => True) (okp := fun _ => True) ?hr ?hp (fun _ hk => hk) trivial (Below.refl _ _) (Nat.le_refl _) (by simp) ?_; (case hd => rfl); (case hg => rfl); (case hr => first | (go_simp; done) | (go_simp; rfl)); (case hp => exact (Reps.one (show Kd.M (Kd.int .i64) _ _ _ 43 [.int .i64 43] from rfl) (Reps.one (show Kd.M (Kd.int .i64) _ _ _ 45 [.int .i64 45] from rfl) (Reps.one (show Kd.M (Kd.int .i64) _ _ _ 35 [.int .i64 35] from rfl) (Reps.one (show Kd.M (Kd.int .i64) _ _ _ 36 [.int .i64 36] from rfl) (Reps.one (show Kd.M (Kd.int .i64) _ _ _ 44 [.int .i64 44] from rfl) (Reps.one (show Kd.M (Kd.int .i64) _ _ _ 46 [.int .i64 46] from rfl) (Reps.one (show Kd.M (Kd.int .i64) _ _ _ 47 [.int .i64 47] from rfl) (Reps.one (show Kd.M (Kd.int .i64) _ _ _ 58 [.int .i64 58] from rfl) (Reps.one (show Kd.M (Kd.int .i64) _ _ _ 40 [.int .i64 40] from rfl) (Reps.one (show Kd.M (Kd.int .i64) _ _ _ 41 [.int .i64 41] from rfl) (Reps.one (show Kd.M (Kd.int .i64) _ _ _ 91 [.int .i64 91] from rfl) (Reps.one (show Kd.M (Kd.int .i64) _ _ _ 93 [.int .i64 93] from rfl) (Reps.one (show Kd.M (Kd.int .i64) _ _ _ 60 [.int .i64 60] from rfl) (Reps.one (show Kd.M (Kd.int .i64) _ _ _ 33 [.int .i64 33] from rfl) (Reps.one (show Kd.M (Kd.int .i64) _ _ _ 34 [.int .i64 34] from rfl) (Reps.one (show Kd.M (Kd.int .i64) _ _ _ 59 [.int .i64 59] from rfl) (Reps.one (show Kd.M (Kd.int .i64) _ _ _ 160 [.int .i64 160] from rfl) (Reps.none _ _))))))))))))))))))); intro v284 w40 ho41 hb hg_ hnew_; clear hg_ hnew_; (first | rw [← Ny283.out] at ho41 | (simp only [Int.reduceToNat] at ho41; rw [← Ny283.out] at ho41)); have n0_ := za.mk (Kd.zqa ho41 (zoa (w := w) (g := g) (row := none) (by repeat (first | (with_reducible first | exact HK.out | apply zf.set_ | apply zn | apply zq | apply zo) | exact HK.out)))); have n1_ := za.mk (zc.below (by repeat (first | (with_reducible first | exact HI0.out | apply zc.alloc | apply zc.drewN | apply zc.drew | apply zc.zx) | exact HI0.out)) hb); have n2_ := za.mk (zf.trans (by repeat (first | (with_reducible first | exact HK.out | apply zf.set_ | apply zn | apply zq | apply zo) | exact HK.out)) (zf.of_below hb g none) (.inl rfl)); have n3_ := za.mk (zv (by repeat (first | (with_reducible first | exact HB.out | apply ze | apply zb | apply zd | refine zr ?_ (zc.ge HI0.out)) | exact HB.out)) hb); clear HI0; clear HK; clear HB; have HO285 := n0_; have HI0 := n1_; have HK := n2_; have HB := n3_; clear n0_ n1_ n2_ n3_; clear hb ho41; obtain ⟨Ao42, co42, eo42⟩ := Kd.zka HO285.out; subst eo42) | ((with_reducible refine zt (f := 67) rfl ?_); refine zgo (some 37) Try.func67 #[.pointer (some ⟨g, 0, none⟩), .slice Ao42 y283.length co42] rfl ?_; (with_reducible refine (spec_l1Rd_one.calls kj34 g s0_0 t262 _ _ y283 t286 t287 w0 _ ?side1 ?side2 ?side3 ?side4 ?side5 A39.out).mono ?_); (case side1 => repeat (first | (with_reducible first | exact HI0.out | apply zc.alloc | apply zc.drewN | apply zc.drew | apply zc.zx) | exact HI0.out)); (case side2 => repeat (first | (with_reducible first | exact HB.out | apply ze | apply zb | apply zd | refine zr ?_ (zc.ge HI0.out)) | exact HB.out)); (case side3 => repeat (first | exact (Kd.zw HO285.out).2.2 | (with_reducible refine Kd.zca ?_ _) | (with_reducible refine Kd.zda ?_ _) | (with_reducible refine Kd.zfa ?_))); (case side4 => exact (Kd.zw HO285.out).2.1); (case side5 => exact zub (zc.zya HI0.out HO285.out (by decide))); rintro e w43 ⟨rfl, hi, hb, hk⟩; refine ⟨_, rfl, ?_⟩; have n0_ := za.mk (Kd.zga (Kd.zsa (zc.apart (show zc w0 _ g s0_0 t262 from by repeat (first | (with_reducible first | exact HI0.out | apply zc.alloc | apply zc.drewN | apply zc.drew | apply zc.zx) | exact HI0.out)) (by (with_reducible repeat (first | apply Kd.zg | apply Kd.zh | apply Kd.zm)); exact HO285.out) (by decide)) hk (fun _ h => h.2)) (fun _ h => h.1)); have n1_ := za.mk (zf.trans (by repeat (first | (with_reducible first | exact HK.out | apply zf.set_ | apply zn | apply zq | apply zo) | exact HK.out)) hk (.inl rfl)); have n2_ := za.mk (hb); have n3_ := za.mk (hi); clear HO285; clear HK; clear HB; clear HI0; have HO285 := n0_; have HK := n1_; have HB := n2_; have HI0 := n3_; clear n0_ n1_ n2_ n3_; (try clear hb); (try clear hb2); (try clear hk); (try clear hi)))
             go_ret
             exact ⟨by first | rfl | (simp [zi, zj] <;> rfl) | (simp [*, zi, zj] <;> rfl), by repeat (first | (with_reducible first | exact HI0.out | apply zc.alloc | apply zc.drewN | apply zc.drew | apply zc.zx) | exact HI0.out), by repeat (first | (with_reducible first | exact HB.out | apply ze | apply zb | apply zd | refine zr ?_ (zc.ge HI0.out)) | exact HB.out), by repeat (first | (with_reducible first | exact HK.out | apply zf.set_ | apply zn | apply zq | apply zo) | exact HK.out)⟩
            ·rw [if_neg c38] at H
             have c38b0 : (t261 == 11) = false := beq_eq_false_iff_ne.mpr c38
             have c38b1 : (t261 != 11) = true := bne_iff_ne.mpr c38
             by_cases c44 : t261 = 12
             ·rw [if_pos c44] at H
              have c44b0 : (t261 == 12) = true := beq_iff_eq.mpr c44
              have c44b1 : (t261 != 12) = false := bne_eq_false_iff_eq.mpr c44
              clear c44
              obtain ⟨y288, hy288⟩ : ∃ y_ : List Int, y_ = (([768, 879, 8203, 8205, 173, 9, 10, 13] : List Int)) := ⟨_, rfl⟩
              replace H : ((spec_l1Rd_one.f kj34 s0_0 t262 y288).bind fun bt291 => (some (bt291.1, bt291.2))) = some (r1, r2) := by first | (rw [hy288]; with_reducible exact H) | (have H2_ := (Option.bind_some _ _).symm.trans H; rw [hy288]; with_reducible exact H2_) | (have H2_ := (Option.bind_some _ _).symm.trans H; with_reducible exact H2_) | with_reducible exact H | (rw [hy288]; exact H) | exact H
              have Ny288 := za.mk hy288
              clear hy288
              replace H := Option.bind_eq_some_iff.mp H
              obtain ⟨⟨t291, t292⟩, A450, H⟩ := H
              replace H : (some (t291, t292)) = some (r1, r2) := H
              have A45 := za.mk A450
              clear A450
              simp only [Option.some.injEq, Prod.mk.injEq] at H
              obtain ⟨rfl, rfl⟩ := H
              go_wp2_with (first | ((with_reducible refine zla (N := 41) rfl ?_); refine Kd.zfb (Kd.int .i64) _ 3 ?hg (N := 41) ?hd (xs := ([768, 879, 8203, 8205, 173, 9, 10, 13] : List Int)) (inner := [.int .i64 768, .int .i64 879, .int .i64 8203, .int .i64 8205, .int .i64 173, .int .i64 9, .int .i64 10, .int .i64 13]) (ok := fun _ => True) (okp := fun _ => True) ?hr ?hp (fun _ hk => hk) trivial (Below.refl _ _) (Nat.le_refl _) (by simp) ?_; (case hd => rfl); (case hg => rfl); (case hr => first | (go_simp; done) | (go_simp; rfl)); (case hp => exact (Reps.one (show Kd.M (Kd.int .i64) _ _ _ 768 [.int .i64 768] from rfl) (Reps.one (show Kd.M (Kd.int .i64) _ _ _ 879 [.int .i64 879] from rfl) (Reps.one (show Kd.M (Kd.int .i64) _ _ _ 8203 [.int .i64 8203] from rfl) (Reps.one (show Kd.M (Kd.int .i64) _ _ _ 8205 [.int .i64 8205] from rfl) (Reps.one (show Kd.M (Kd.int .i64) _ _ _ 173 [.int .i64 173] from rfl) (Reps.one (show Kd.M (Kd.int .i64) _ _ _ 9 [.int .i64 9] from rfl) (Reps.one (show Kd.M (Kd.int .i64) _ _ _ 10 [.int .i64 10] from rfl) (Reps.one (show Kd.M (Kd.int .i64) _ _ _ 13 [.int .i64 13] from rfl) (Reps.none _ _)))))))))); intro v289 w46 ho47 hb hg_ hnew_; clear hg_ hnew_; (first | rw [← Ny288.out] at ho47 | (simp only [Int.reduceToNat] at ho47; rw [← Ny288.out] at ho47)); have n0_ := za.mk (Kd.zqa ho47 (zoa (w := w) (g := g) (row := none) (by repeat (first | (with_reducible first | exact HK.out | apply zf.set_ | apply zn | apply zq | apply zo) | exact HK.out)))); have n1_ := za.mk (zc.below (by repeat (first | (with_reducible first | exact HI0.out | apply zc.alloc | apply zc.drewN | apply zc.drew | apply zc.zx) | exact HI0.out)) hb); have n2_ := za.mk (zf.trans (by repeat (first | (with_reducible first | exact HK.out | apply zf.set_ | apply zn | apply zq | apply zo) | exact HK.out)) (zf.of_below hb g none) (.inl rfl)); have n3_ := za.mk (zv (by repeat (first | (with_reducible first | exact HB.out | apply ze | apply zb | apply zd | refine zr ?_ (zc.ge HI0.out)) | exact HB.out)) hb); clear HI0; clear HK; clear HB; have HO290 := n0_; have HI0 := n1_; have HK := n2_; have HB := n3_; clear n0_ n1_ n2_ n3_; clear hb ho47; obtain ⟨Ao48, co48, eo48⟩ := Kd.zka HO290.out; subst eo48) | ((with_reducible refine zt (f := 67) rfl ?_); refine zgo (some 42) Try.func67 #[.pointer (some ⟨g, 0, none⟩), .slice Ao48 y288.length co48] rfl ?_; (with_reducible refine (spec_l1Rd_one.calls kj34 g s0_0 t262 _ _ y288 t291 t292 w0 _ ?side1 ?side2 ?side3 ?side4 ?side5 A45.out).mono ?_); (case side1 => repeat (first | (with_reducible first | exact HI0.out | apply zc.alloc | apply zc.drewN | apply zc.drew | apply zc.zx) | exact HI0.out)); (case side2 => repeat (first | (with_reducible first | exact HB.out | apply ze | apply zb | apply zd | refine zr ?_ (zc.ge HI0.out)) | exact HB.out)); (case side3 => repeat (first | exact (Kd.zw HO290.out).2.2 | (with_reducible refine Kd.zca ?_ _) | (with_reducible refine Kd.zda ?_ _) | (with_reducible refine Kd.zfa ?_))); (case side4 => exact (Kd.zw HO290.out).2.1); (case side5 => exact zub (zc.zya HI0.out HO290.out (by decide))); rintro e w49 ⟨rfl, hi, hb, hk⟩; refine ⟨_, rfl, ?_⟩; have n0_ := za.mk (Kd.zga (Kd.zsa (zc.apart (show zc w0 _ g s0_0 t262 from by repeat (first | (with_reducible first | exact HI0.out | apply zc.alloc | apply zc.drewN | apply zc.drew | apply zc.zx) | exact HI0.out)) (by (with_reducible repeat (first | apply Kd.zg | apply Kd.zh | apply Kd.zm)); exact HO290.out) (by decide)) hk (fun _ h => h.2)) (fun _ h => h.1)); have n1_ := za.mk (zf.trans (by repeat (first | (with_reducible first | exact HK.out | apply zf.set_ | apply zn | apply zq | apply zo) | exact HK.out)) hk (.inl rfl)); have n2_ := za.mk (hb); have n3_ := za.mk (hi); clear HO290; clear HK; clear HB; clear HI0; have HO290 := n0_; have HK := n1_; have HB := n2_; have HI0 := n3_; clear n0_ n1_ n2_ n3_; (try clear hb); (try clear hb2); (try clear hk); (try clear hi)))
              go_ret
              exact ⟨by first | rfl | (simp [zi, zj] <;> rfl) | (simp [*, zi, zj] <;> rfl), by repeat (first | (with_reducible first | exact HI0.out | apply zc.alloc | apply zc.drewN | apply zc.drew | apply zc.zx) | exact HI0.out), by repeat (first | (with_reducible first | exact HB.out | apply ze | apply zb | apply zd | refine zr ?_ (zc.ge HI0.out)) | exact HB.out), by repeat (first | (with_reducible first | exact HK.out | apply zf.set_ | apply zn | apply zq | apply zo) | exact HK.out)⟩
             ·rw [if_neg c44] at H
              have c44b0 : (t261 == 12) = false := beq_eq_false_iff_ne.mpr c44
              have c44b1 : (t261 != 12) = true := bne_iff_ne.mpr c44
              by_cases c50 : t261 = 13
              ·rw [if_pos c50] at H
               have c50b0 : (t261 == 13) = true := beq_iff_eq.mpr c50
               have c50b1 : (t261 != 13) = false := bne_eq_false_iff_eq.mpr c50
               clear c50
               obtain ⟨y293, hy293⟩ : ∃ y_ : List Int, y_ = (([8234, 8235, 8236, 8237, 8238] : List Int)) := ⟨_, rfl⟩
               replace H : ((spec_l1Rd_one.f kj34 s0_0 t262 y293).bind fun bt296 => (some (bt296.1, bt296.2))) = some (r1, r2) := by first | (rw [hy293]; with_reducible exact H) | (have H2_ := (Option.bind_some _ _).symm.trans H; rw [hy293]; with_reducible exact H2_) | (have H2_ := (Option.bind_some _ _).symm.trans H; with_reducible exact H2_) | with_reducible exact H | (rw [hy293]; exact H) | exact H
               have Ny293 := za.mk hy293
               clear hy293
               replace H := Option.bind_eq_some_iff.mp H
               obtain ⟨⟨t296, t297⟩, A510, H⟩ := H
               replace H : (some (t296, t297)) = some (r1, r2) := H
               have A51 := za.mk A510
               clear A510
               simp only [Option.some.injEq, Prod.mk.injEq] at H
               obtain ⟨rfl, rfl⟩ := H
               go_wp2_with (first | ((with_reducible refine zla (N := 46) rfl ?_); refine Kd.zfb (Kd.int .i64) _ 3 ?hg (N := 46) ?hd (xs := ([8234, 8235, 8236, 8237, 8238] : List Int)) (inner := [.int .i64 8234, .int .i64 8235, .int .i64 8236, .int .i64 8237, .int .i64 8238]) (ok := fun _ => True) (okp := fun _ => True) ?hr ?hp (fun _ hk => hk) trivial (Below.refl _ _) (Nat.le_refl _) (by simp) ?_; (case hd => rfl); (case hg => rfl); (case hr => first | (go_simp; done) | (go_simp; rfl)); (case hp => exact (Reps.one (show Kd.M (Kd.int .i64) _ _ _ 8234 [.int .i64 8234] from rfl) (Reps.one (show Kd.M (Kd.int .i64) _ _ _ 8235 [.int .i64 8235] from rfl) (Reps.one (show Kd.M (Kd.int .i64) _ _ _ 8236 [.int .i64 8236] from rfl) (Reps.one (show Kd.M (Kd.int .i64) _ _ _ 8237 [.int .i64 8237] from rfl) (Reps.one (show Kd.M (Kd.int .i64) _ _ _ 8238 [.int .i64 8238] from rfl) (Reps.none _ _))))))); intro v294 w52 ho53 hb hg_ hnew_; clear hg_ hnew_; (first | rw [← Ny293.out] at ho53 | (simp only [Int.reduceToNat] at ho53; rw [← Ny293.out] at ho53)); have n0_ := za.mk (Kd.zqa ho53 (zoa (w := w) (g := g) (row := none) (by repeat (first | (with_reducible first | exact HK.out | apply zf.set_ | apply zn | apply zq | apply zo) | exact HK.out)))); have n1_ := za.mk (zc.below (by repeat (first | (with_reducible first | exact HI0.out | apply zc.alloc | apply zc.drewN | apply zc.drew | apply zc.zx) | exact HI0.out)) hb); have n2_ := za.mk (zf.trans (by repeat (first | (with_reducible first | exact HK.out | apply zf.set_ | apply zn | apply zq | apply zo) | exact HK.out)) (zf.of_below hb g none) (.inl rfl)); have n3_ := za.mk (zv (by repeat (first | (with_reducible first | exact HB.out | apply ze | apply zb | apply zd | refine zr ?_ (zc.ge HI0.out)) | exact HB.out)) hb); clear HI0; clear HK; clear HB; have HO295 := n0_; have HI0 := n1_; have HK := n2_; have HB := n3_; clear n0_ n1_ n2_ n3_; clear hb ho53; obtain ⟨Ao54, co54, eo54⟩ := Kd.zka HO295.out; subst eo54) | ((with_reducible refine zt (f := 67) rfl ?_); refine zgo (some 47) Try.func67 #[.pointer (some ⟨g, 0, none⟩), .slice Ao54 y293.length co54] rfl ?_; (with_reducible refine (spec_l1Rd_one.calls kj34 g s0_0 t262 _ _ y293 t296 t297 w0 _ ?side1 ?side2 ?side3 ?side4 ?side5 A51.out).mono ?_); (case side1 => repeat (first | (with_reducible first | exact HI0.out | apply zc.alloc | apply zc.drewN | apply zc.drew | apply zc.zx) | exact HI0.out)); (case side2 => repeat (first | (with_reducible first | exact HB.out | apply ze | apply zb | apply zd | refine zr ?_ (zc.ge HI0.out)) | exact HB.out)); (case side3 => repeat (first | exact (Kd.zw HO295.out).2.2 | (with_reducible refine Kd.zca ?_ _) | (with_reducible refine Kd.zda ?_ _) | (with_reducible refine Kd.zfa ?_))); (case side4 => exact (Kd.zw HO295.out).2.1); (case side5 => exact zub (zc.zya HI0.out HO295.out (by decide))); rintro e w55 ⟨rfl, hi, hb, hk⟩; refine ⟨_, rfl, ?_⟩; have n0_ := za.mk (Kd.zga (Kd.zsa (zc.apart (show zc w0 _ g s0_0 t262 from by repeat (first | (with_reducible first | exact HI0.out | apply zc.alloc | apply zc.drewN | apply zc.drew | apply zc.zx) | exact HI0.out)) (by (with_reducible repeat (first | apply Kd.zg | apply Kd.zh | apply Kd.zm)); exact HO295.out) (by decide)) hk (fun _ h => h.2)) (fun _ h => h.1)); have n1_ := za.mk (zf.trans (by repeat (first | (with_reducible first | exact HK.out | apply zf.set_ | apply zn | apply zq | apply zo) | exact HK.out)) hk (.inl rfl)); have n2_ := za.mk (hb); have n3_ := za.mk (hi); clear HO295; clear HK; clear HB; clear HI0; have HO295 := n0_; have HK := n1_; have HB := n2_; have HI0 := n3_; clear n0_ n1_ n2_ n3_; (try clear hb); (try clear hb2); (try clear hk); (try clear hi)))
               go_ret
               exact ⟨by first | rfl | (simp [zi, zj] <;> rfl) | (simp [*, zi, zj] <;> rfl), by repeat (first | (with_reducible first | exact HI0.out | apply zc.alloc | apply zc.drewN | apply zc.drew | apply zc.zx) | exact HI0.out), by repeat (first | (with_reducible first | exact HB.out | apply ze | apply zb | apply zd | refine zr ?_ (zc.ge HI0.out)) | exact HB.out), by repeat (first | (with_reducible first | exact HK.out | apply zf.set_ | apply zn | apply zq | apply zo) | exact HK.out)⟩
              ·rw [if_neg c50] at H
               have c50b0 : (t261 == 13) = false := beq_eq_false_iff_ne.mpr c50
               have c50b1 : (t261 != 13) = true := bne_iff_ne.mpr c50
               by_cases c56 : t261 = 14
               ·rw [if_pos c56] at H
                have c56b0 : (t261 == 14) = true := beq_iff_eq.mpr c56
                have c56b1 : (t261 != 14) = false := bne_eq_false_iff_eq.mpr c56
                clear c56
                obtain ⟨y298, hy298⟩ : ∃ y_ : List Int, y_ = (([8294, 8295, 8296, 8297, 8297] : List Int)) := ⟨_, rfl⟩
                replace H : ((spec_l1Rd_one.f kj34 s0_0 t262 y298).bind fun bt301 => (some (bt301.1, bt301.2))) = some (r1, r2) := by first | (rw [hy298]; with_reducible exact H) | (have H2_ := (Option.bind_some _ _).symm.trans H; rw [hy298]; with_reducible exact H2_) | (have H2_ := (Option.bind_some _ _).symm.trans H; with_reducible exact H2_) | with_reducible exact H | (rw [hy298]; exact H) | exact H
                have Ny298 := za.mk hy298
                clear hy298
                replace H := Option.bind_eq_some_iff.mp H
                obtain ⟨⟨t301, t302⟩, A570, H⟩ := H
                replace H : (some (t301, t302)) = some (r1, r2) := H
                have A57 := za.mk A570
                clear A570
                simp only [Option.some.injEq, Prod.mk.injEq] at H
                obtain ⟨rfl, rfl⟩ := H
                go_wp2_with (first | ((with_reducible refine zla (N := 51) rfl ?_); refine Kd.zfb (Kd.int .i64) _ 3 ?hg (N := 51) ?hd (xs := ([8294, 8295, 8296, 8297, 8297] : List Int)) (inner := [.int .i64 8294, .int .i64 8295, .int .i64 8296, .int .i64 8297, .int .i64 8297]) (ok := fun _ => True) (okp := fun _ => True) ?hr ?hp (fun _ hk => hk) trivial (Below.refl _ _) (Nat.le_refl _) (by simp) ?_; (case hd => rfl); (case hg => rfl); (case hr => first | (go_simp; done) | (go_simp; rfl)); (case hp => exact (Reps.one (show Kd.M (Kd.int .i64) _ _ _ 8294 [.int .i64 8294] from rfl) (Reps.one (show Kd.M (Kd.int .i64) _ _ _ 8295 [.int .i64 8295] from rfl) (Reps.one (show Kd.M (Kd.int .i64) _ _ _ 8296 [.int .i64 8296] from rfl) (Reps.one (show Kd.M (Kd.int .i64) _ _ _ 8297 [.int .i64 8297] from rfl) (Reps.one (show Kd.M (Kd.int .i64) _ _ _ 8297 [.int .i64 8297] from rfl) (Reps.none _ _))))))); intro v299 w58 ho59 hb hg_ hnew_; clear hg_ hnew_; (first | rw [← Ny298.out] at ho59 | (simp only [Int.reduceToNat] at ho59; rw [← Ny298.out] at ho59)); have n0_ := za.mk (Kd.zqa ho59 (zoa (w := w) (g := g) (row := none) (by repeat (first | (with_reducible first | exact HK.out | apply zf.set_ | apply zn | apply zq | apply zo) | exact HK.out)))); have n1_ := za.mk (zc.below (by repeat (first | (with_reducible first | exact HI0.out | apply zc.alloc | apply zc.drewN | apply zc.drew | apply zc.zx) | exact HI0.out)) hb); have n2_ := za.mk (zf.trans (by repeat (first | (with_reducible first | exact HK.out | apply zf.set_ | apply zn | apply zq | apply zo) | exact HK.out)) (zf.of_below hb g none) (.inl rfl)); have n3_ := za.mk (zv (by repeat (first | (with_reducible first | exact HB.out | apply ze | apply zb | apply zd | refine zr ?_ (zc.ge HI0.out)) | exact HB.out)) hb); clear HI0; clear HK; clear HB; have HO300 := n0_; have HI0 := n1_; have HK := n2_; have HB := n3_; clear n0_ n1_ n2_ n3_; clear hb ho59; obtain ⟨Ao60, co60, eo60⟩ := Kd.zka HO300.out; subst eo60) | ((with_reducible refine zt (f := 67) rfl ?_); refine zgo (some 52) Try.func67 #[.pointer (some ⟨g, 0, none⟩), .slice Ao60 y298.length co60] rfl ?_; (with_reducible refine (spec_l1Rd_one.calls kj34 g s0_0 t262 _ _ y298 t301 t302 w0 _ ?side1 ?side2 ?side3 ?side4 ?side5 A57.out).mono ?_); (case side1 => repeat (first | (with_reducible first | exact HI0.out | apply zc.alloc | apply zc.drewN | apply zc.drew | apply zc.zx) | exact HI0.out)); (case side2 => repeat (first | (with_reducible first | exact HB.out | apply ze | apply zb | apply zd | refine zr ?_ (zc.ge HI0.out)) | exact HB.out)); (case side3 => repeat (first | exact (Kd.zw HO300.out).2.2 | (with_reducible refine Kd.zca ?_ _) | (with_reducible refine Kd.zda ?_ _) | (with_reducible refine Kd.zfa ?_))); (case side4 => exact (Kd.zw HO300.out).2.1); (case side5 => exact zub (zc.zya HI0.out HO300.out (by decide))); rintro e w61 ⟨rfl, hi, hb, hk⟩; refine ⟨_, rfl, ?_⟩; have n0_ := za.mk (Kd.zga (Kd.zsa (zc.apart (show zc w0 _ g s0_0 t262 from by repeat (first | (with_reducible first | exact HI0.out | apply zc.alloc | apply zc.drewN | apply zc.drew | apply zc.zx) | exact HI0.out)) (by (with_reducible repeat (first | apply Kd.zg | apply Kd.zh | apply Kd.zm)); exact HO300.out) (by decide)) hk (fun _ h => h.2)) (fun _ h => h.1)); have n1_ := za.mk (zf.trans (by repeat (first | (with_reducible first | exact HK.out | apply zf.set_ | apply zn | apply zq | apply zo) | exact HK.out)) hk (.inl rfl)); have n2_ := za.mk (hb); have n3_ := za.mk (hi); clear HO300; clear HK; clear HB; clear HI0; have HO300 := n0_; have HK := n1_; have HB := n2_; have HI0 := n3_; clear n0_ n1_ n2_ n3_; (try clear hb); (try clear hb2); (try clear hk); (try clear hi)))
                go_ret
                exact ⟨by first | rfl | (simp [zi, zj] <;> rfl) | (simp [*, zi, zj] <;> rfl), by repeat (first | (with_reducible first | exact HI0.out | apply zc.alloc | apply zc.drewN | apply zc.drew | apply zc.zx) | exact HI0.out), by repeat (first | (with_reducible first | exact HB.out | apply ze | apply zb | apply zd | refine zr ?_ (zc.ge HI0.out)) | exact HB.out), by repeat (first | (with_reducible first | exact HK.out | apply zf.set_ | apply zn | apply zq | apply zo) | exact HK.out)⟩
               ·rw [if_neg c56] at H
                have c56b0 : (t261 == 14) = false := beq_eq_false_iff_ne.mpr c56
                have c56b1 : (t261 != 14) = true := bne_iff_ne.mpr c56
                obtain ⟨y303, hy303⟩ : ∃ y_ : List Int, y_ = (([19968, 40959, 127462, 127487, 128512, 200, 40, 41] : List Int)) := ⟨_, rfl⟩
                replace H : ((spec_l1Rd_one.f kj34 s0_0 t262 y303).bind fun bt306 => (some (bt306.1, bt306.2))) = some (r1, r2) := by first | (rw [hy303]; with_reducible exact H) | (have H2_ := (Option.bind_some _ _).symm.trans H; rw [hy303]; with_reducible exact H2_) | (have H2_ := (Option.bind_some _ _).symm.trans H; with_reducible exact H2_) | with_reducible exact H | (rw [hy303]; exact H) | exact H
                have Ny303 := za.mk hy303
                clear hy303
                replace H := Option.bind_eq_some_iff.mp H
                obtain ⟨⟨t306, t307⟩, A620, H⟩ := H
                replace H : (some (t306, t307)) = some (r1, r2) := H
                have A62 := za.mk A620
                clear A620
                simp only [Option.some.injEq, Prod.mk.injEq] at H
                obtain ⟨rfl, rfl⟩ := H
                go_wp2_with (first | ((with_reducible refine zla (N := 54) rfl ?_); refine Kd.zfb (Kd.int .i64) _ 3 ?hg (N := 54) ?hd (xs := ([19968, 40959, 127462, 127487, 128512, 200, 40, 41] : List Int)) (inner := [.int .i64 19968, .int .i64 40959, .int .i64 127462, .int .i64 127487, .int .i64 128512, .int .i64 200, .int .i64 40, .int .i64 41]) (ok := fun _ => True) (okp := fun _ => True) ?hr ?hp (fun _ hk => hk) trivial (Below.refl _ _) (Nat.le_refl _) (by simp) ?_; (case hd => rfl); (case hg => rfl); (case hr => first | (go_simp; done) | (go_simp; rfl)); (case hp => exact (Reps.one (show Kd.M (Kd.int .i64) _ _ _ 19968 [.int .i64 19968] from rfl) (Reps.one (show Kd.M (Kd.int .i64) _ _ _ 40959 [.int .i64 40959] from rfl) (Reps.one (show Kd.M (Kd.int .i64) _ _ _ 127462 [.int .i64 127462] from rfl) (Reps.one (show Kd.M (Kd.int .i64) _ _ _ 127487 [.int .i64 127487] from rfl) (Reps.one (show Kd.M (Kd.int .i64) _ _ _ 128512 [.int .i64 128512] from rfl) (Reps.one (show Kd.M (Kd.int .i64) _ _ _ 200 [.int .i64 200] from rfl) (Reps.one (show Kd.M (Kd.int .i64) _ _ _ 40 [.int .i64 40] from rfl) (Reps.one (show Kd.M (Kd.int .i64) _ _ _ 41 [.int .i64 41] from rfl) (Reps.none _ _)))))))))); intro v304 w63 ho64 hb hg_ hnew_; clear hg_ hnew_; (first | rw [← Ny303.out] at ho64 | (simp only [Int.reduceToNat] at ho64; rw [← Ny303.out] at ho64)); have n0_ := za.mk (Kd.zqa ho64 (zoa (w := w) (g := g) (row := none) (by repeat (first | (with_reducible first | exact HK.out | apply zf.set_ | apply zn | apply zq | apply zo) | exact HK.out)))); have n1_ := za.mk (zc.below (by repeat (first | (with_reducible first | exact HI0.out | apply zc.alloc | apply zc.drewN | apply zc.drew | apply zc.zx) | exact HI0.out)) hb); have n2_ := za.mk (zf.trans (by repeat (first | (with_reducible first | exact HK.out | apply zf.set_ | apply zn | apply zq | apply zo) | exact HK.out)) (zf.of_below hb g none) (.inl rfl)); have n3_ := za.mk (zv (by repeat (first | (with_reducible first | exact HB.out | apply ze | apply zb | apply zd | refine zr ?_ (zc.ge HI0.out)) | exact HB.out)) hb); clear HI0; clear HK; clear HB; have HO305 := n0_; have HI0 := n1_; have HK := n2_; have HB := n3_; clear n0_ n1_ n2_ n3_; clear hb ho64; obtain ⟨Ao65, co65, eo65⟩ := Kd.zka HO305.out; subst eo65) | ((with_reducible refine zt (f := 67) rfl ?_); refine zgo (some 55) Try.func67 #[.pointer (some ⟨g, 0, none⟩), .slice Ao65 y303.length co65] rfl ?_; (with_reducible refine (spec_l1Rd_one.calls kj34 g s0_0 t262 _ _ y303 t306 t307 w0 _ ?side1 ?side2 ?side3 ?side4 ?side5 A62.out).mono ?_); (case side1 => repeat (first | (with_reducible first | exact HI0.out | apply zc.alloc | apply zc.drewN | apply zc.drew | apply zc.zx) | exact HI0.out)); (case side2 => repeat (first | (with_reducible first | exact HB.out | apply ze | apply zb | apply zd | refine zr ?_ (zc.ge HI0.out)) | exact HB.out)); (case side3 => repeat (first | exact (Kd.zw HO305.out).2.2 | (with_reducible refine Kd.zca ?_ _) | (with_reducible refine Kd.zda ?_ _) | (with_reducible refine Kd.zfa ?_))); (case side4 => exact (Kd.zw HO305.out).2.1); (case side5 => exact zub (zc.zya HI0.out HO305.out (by decide))); rintro e w66 ⟨rfl, hi, hb, hk⟩; refine ⟨_, rfl, ?_⟩; have n0_ := za.mk (Kd.zga (Kd.zsa (zc.apart (show zc w0 _ g s0_0 t262 from by repeat (first | (with_reducible first | exact HI0.out | apply zc.alloc | apply zc.drewN | apply zc.drew | apply zc.zx) | exact HI0.out)) (by (with_reducible repeat (first | apply Kd.zg | apply Kd.zh | apply Kd.zm)); exact HO305.out) (by decide)) hk (fun _ h => h.2)) (fun _ h => h.1)); have n1_ := za.mk (zf.trans (by repeat (first | (with_reducible first | exact HK.out | apply zf.set_ | apply zn | apply zq | apply zo) | exact HK.out)) hk (.inl rfl)); have n2_ := za.mk (hb); have n3_ := za.mk (hi); clear HO305; clear HK; clear HB; clear HI0; have HO305 := n0_; have HK := n1_; have HB := n2_; have HI0 := n3_; clear n0_ n1_ n2_ n3_; (try clear hb); (try clear hb2); (try clear hk); (try clear hi)))
                go_ret
                exact ⟨by first | rfl | (simp [zi, zj] <;> rfl) | (simp [*, zi, zj] <;> rfl), by repeat (first | (with_reducible first | exact HI0.out | apply zc.alloc | apply zc.drewN | apply zc.drew | apply zc.zx) | exact HI0.out), by repeat (first | (with_reducible first | exact HB.out | apply ze | apply zb | apply zd | refine zr ?_ (zc.ge HI0.out)) | exact HB.out), by repeat (first | (with_reducible first | exact HK.out | apply zf.set_ | apply zn | apply zq | apply zo) | exact HK.out)⟩
mutual
def spec_l13Runes.l0 : Nat → List Int → Int → List Int → Int → Option (List Int × Int)
 | 0, _, _, _, _ => none
 | k + 1, x3, x4, x1000, x1001 => if x4 > 0 then ((spec_l13Rune.f k x1000 x1001).bind fun bt313 => (if x3.length < 17592186044416 then (spec_l13Runes.l0 k (x3 ++ [bt313.1]) (wrap64 (x4 - 1)) x1000 bt313.2) else (none))) else ((spec_l1Rd_pick.f k x1000 x1001 24).bind fun bt318 => (if bt318.1 = 0 then (spec_l13Runes.l1 k x3 x1000 bt318.2) else (some (x3, bt318.2))))
def spec_l13Runes.l1 : Nat → List Int → List Int → Int → Option (List Int × Int)
 | 0, _, _, _ => none
 | k + 1, x3, x1000, x1001 => if (x3.length : Int) < 80 then ((spec_l1Rd_one.f k x1000 x1001 (([8235, 8238, 8295, 1488, 97] : List Int))).bind fun bt323 => (if x3.length < 17592186044416 then (spec_l13Runes.l1 k (x3 ++ [bt323.1]) x1000 bt323.2) else (none))) else (some (x3, x1001))
end
def spec_l13Runes.f (k : Nat) (s0_0 : List Int) (s0_1 : Int) : Option (List Int × Int) := (spec_l1Rd_pick.f k s0_0 s0_1 24).bind fun bt311 => (spec_l13Runes.l0 k (([] : List Int)) bt311.1 s0_0 bt311.2)
theorem spec_l13Runes.calls (k : Nat) (g : Nat) (s0_0 : List Int) (s0_1 : Int) (r1 : List Int) (r2 : Int) (w0 w : World) (hI : zc w0 w g s0_0 s0_1) (hB : Below w0.heap.size w0 w) (h : spec_l13Runes.f k s0_0 s0_1 = some (r1, r2)) :
  Calls Try.prog 63 #[.pointer (some ⟨g, 0, none⟩)] w fun e w' => ∃ v0_ : Value, e = .returned (v0_) ∧ Kd.R (Kd.int .i64) 3 w' w.heap.size (fun _ => True) v0_ r1 ∧ zc w0 w' g s0_0 r2 ∧ Below w0.heap.size w0 w' ∧ zf w w' g none := by
 have HI0 := za.mk hI
 have HK := za.mk (zf.refl w g none)
 have HL := za.mk hB.size
 clear hI
 have HW0 := za.mk hB.size
 have HB := za.mk hB
 clear hB
 have H : ((spec_l1Rd_pick.f k s0_0 s0_1 24).bind fun bt311 => (spec_l13Runes.l0 k (([] : List Int)) bt311.1 s0_0 bt311.2)) = some (r1, r2) := h
 clear h
 obtain ⟨y308, hy308⟩ : ∃ y_ : List Int, y_ = (([] : List Int)) := ⟨_, rfl⟩
 replace H : ((spec_l1Rd_pick.f k s0_0 s0_1 24).bind fun bt311 => (spec_l13Runes.l0 k y308 bt311.1 s0_0 bt311.2)) = some (r1, r2) := by first | (rw [hy308]; with_reducible exact H) | (have H2_ := (Option.bind_some _ _).symm.trans H; rw [hy308]; with_reducible exact H2_) | (have H2_ := (Option.bind_some _ _).symm.trans H; with_reducible exact H2_) | with_reducible exact H | (rw [hy308]; exact H) | exact H
 have Ny308 := za.mk hy308
 clear hy308
 replace H := Option.bind_eq_some_iff.mp H
 obtain ⟨⟨t311, t312⟩, A20, H⟩ := H
 replace H : (spec_l13Runes.l0 k y308 t311 s0_0 t312) = some (r1, r2) := H
 have A2 := za.mk A20
 clear A20
 have H' := za.mk H
 clear H
 go_enter Try.func63, Try.ntmps63
 go_wp2_with (first | ((with_reducible refine zla (N := 5) rfl ?_); refine Kd.zfb (Kd.int .i64) _ 3 ?hg (N := 5) ?hd (xs := ([] : List Int)) (inner := []) (ok := fun _ => True) (okp := fun _ => True) ?hr ?hp (fun _ hk => hk) trivial (Below.refl _ _) (Nat.le_refl _) (by simp) ?_; (case hd => rfl); (case hg => rfl); (case hr => first | (go_simp; done) | (go_simp; rfl)); (case hp => exact (Reps.none _ _)); intro v309 w3 ho4 hb hg_ hnew_; clear hg_ hnew_; (first | rw [← Ny308.out] at ho4 | (simp only [Int.reduceToNat] at ho4; rw [← Ny308.out] at ho4)); have n0_ := za.mk (Kd.zqa ho4 (zoa (w := w) (g := g) (row := none) (by repeat (first | (with_reducible first | exact HK.out | apply zf.set_ | apply zn | apply zq | apply zo) | exact HK.out)))); have n1_ := za.mk (zc.below (by repeat (first | (with_reducible first | exact HI0.out | apply zc.alloc | apply zc.drewN | apply zc.drew | apply zc.zx) | exact HI0.out)) hb); have n2_ := za.mk (zf.trans (by repeat (first | (with_reducible first | exact HK.out | apply zf.set_ | apply zn | apply zq | apply zo) | exact HK.out)) (zf.of_below hb g none) (.inl rfl)); have n3_ := za.mk (zv (by repeat (first | (with_reducible first | exact HB.out | apply ze | apply zb | apply zd | refine zr ?_ (zc.ge HI0.out)) | exact HB.out)) hb); clear HI0; clear HK; clear HB; have HO310 := n0_; have HI0 := n1_; have HK := n2_; have HB := n3_; clear n0_ n1_ n2_ n3_; clear hb ho4) | ((with_reducible refine zt (f := 66) rfl ?_); refine zgo (some 7) Try.func66 #[.pointer (some ⟨g, 0, none⟩), .int .i64 24] rfl ?_; (with_reducible refine (spec_l1Rd_pick.calls k g s0_0 s0_1 24 t311 t312 w0 _ ?side1 ?side2 A2.out).mono ?_); (case side1 => repeat (first | (with_reducible first | exact HI0.out | apply zc.alloc | apply zc.drewN | apply zc.drew | apply zc.zx) | exact HI0.out)); (case side2 => repeat (first | (with_reducible first | exact HB.out | apply ze | apply zb | apply zd | refine zr ?_ (zc.ge HI0.out)) | exact HB.out)); rintro e w5 ⟨rfl, hi, hb, hk⟩; refine ⟨_, rfl, ?_⟩; have n0_ := za.mk (Kd.zga (Kd.zsa (zc.apart (show zc w0 _ g s0_0 s0_1 from by repeat (first | (with_reducible first | exact HI0.out | apply zc.alloc | apply zc.drewN | apply zc.drew | apply zc.zx) | exact HI0.out)) (by (with_reducible repeat (first | apply Kd.zg | apply Kd.zh | apply Kd.zm)); exact HO310.out) (by decide)) hk (fun _ h => h.2)) (fun _ h => h.1)); have n1_ := za.mk (zf.trans (by repeat (first | (with_reducible first | exact HK.out | apply zf.set_ | apply zn | apply zq | apply zo) | exact HK.out)) hk (.inl rfl)); have n2_ := za.mk (hb); have n3_ := za.mk (hi); clear HO310; clear HK; clear HB; clear HI0; have HO310 := n0_; have HK := n1_; have HB := n2_; have HI0 := n3_; clear n0_ n1_ n2_ n3_; (try clear hb); (try clear hb2); (try clear hk); (try clear hi)))
 go_loopg [3, 4] k (fun kq v3 v4 w' => ∃ (x3_1 : List Int) (x4_1 : Int) (x1001_1 : Int), v4 = .int .i64 x4_1 ∧ za (spec_l13Runes.l0 kq x3_1 x4_1 s0_0 x1001_1 = some (r1, r2)) ∧ za (kq ≤ k) ∧ za (Kd.R (Kd.int .i64) 3 w' w.heap.size (fun _ => True) v3 x3_1) ∧ za (zc w0 w' g s0_0 x1001_1) ∧ za (zf w w' g none) ∧ za (Below w0.heap.size w0 w'))
 case atStart => exact ⟨(y308), (t311), (t312), (by first | rfl | (simp; done) | (simp [*]; done)), H', ⟨Nat.le_refl _⟩, ⟨by (with_reducible repeat (first | apply Kd.zg | apply Kd.zh | apply Kd.zm)); exact HO310.out⟩, ⟨by repeat (first | (with_reducible first | exact HI0.out | apply zc.alloc | apply zc.drewN | apply zc.drew | apply zc.zx) | exact HI0.out)⟩, ⟨by repeat (first | (with_reducible first | exact HK.out | apply zf.set_ | apply zn | apply zq | apply zo) | exact HK.out)⟩, ⟨by repeat (first | (with_reducible first | exact HB.out | apply ze | apply zb | apply zd | refine zr ?_ (zc.ge HI0.out)) | exact HB.out)⟩⟩
 case round =>
  clear H'
  try clear p2
  obtain ⟨x3_1, x4_1, x1001_1, rfl, HA, HK1, HO_3, HI0, HK, HB⟩ := hrel
  cases gk with
  | zero => exact absurd HA.out (by simp [spec_l13Runes.l0])
  | succ k1 =>
   have H := HA.out
   clear HA
   simp only [spec_l13Runes.l0] at H
   by_cases c6 : x4_1 > 0
   ·rw [if_pos c6] at H
    have c6b0 : decide (0 < x4_1) = true := decide_eq_true c6
    clear c6
    replace H := Option.bind_eq_some_iff.mp H
    obtain ⟨⟨t313, t314⟩, A70, H⟩ := H
    replace H : (if x3_1.length < 17592186044416 then (spec_l13Runes.l0 k1 (x3_1 ++ [t313]) (wrap64 (x4_1 - 1)) s0_0 t314) else (none)) = some (r1, r2) := H
    have A7 := za.mk A70
    clear A70
    by_cases c8 : x3_1.length < 17592186044416
    ·rw [if_pos c8] at H
     have LMc8 := za.mk c8
     clear c8
     obtain ⟨y315, hy315⟩ : ∃ y_ : List Int, y_ = (x3_1 ++ [t313]) := ⟨_, rfl⟩
     replace H : (spec_l13Runes.l0 k1 y315 (wrap64 (x4_1 - 1)) s0_0 t314) = some (r1, r2) := by first | (rw [hy315]; with_reducible exact H) | (have H2_ := (Option.bind_some _ _).symm.trans H; rw [hy315]; with_reducible exact H2_) | (have H2_ := (Option.bind_some _ _).symm.trans H; with_reducible exact H2_) | with_reducible exact H | (rw [hy315]; exact H) | exact H
     have Ny315 := za.mk hy315
     clear hy315
     have H' := za.mk H
     clear H
     go_wp2_with (first | ((with_reducible refine zt (f := 107) rfl ?_); refine zgo (some 14) Try.func107 #[.pointer (some ⟨g, 0, none⟩)] rfl ?_; (with_reducible refine (spec_l13Rune.calls k1 g s0_0 x1001_1 t313 t314 w0 _ ?side1 ?side2 A7.out).mono ?_); (case side1 => repeat (first | (with_reducible first | exact HI0.out | apply zc.alloc | apply zc.drewN | apply zc.drew | apply zc.zx) | exact HI0.out)); (case side2 => repeat (first | (with_reducible first | exact HB.out | apply ze | apply zb | apply zd | refine zr ?_ (zc.ge HI0.out)) | exact HB.out)); rintro e w9 ⟨rfl, hi, hb, hk⟩; refine ⟨_, rfl, ?_⟩; have n0_ := za.mk (Kd.zga (Kd.zsa (zc.apart (show zc w0 _ g s0_0 x1001_1 from by repeat (first | (with_reducible first | exact HI0.out | apply zc.alloc | apply zc.drewN | apply zc.drew | apply zc.zx) | exact HI0.out)) (by (with_reducible repeat (first | apply Kd.zg | apply Kd.zh | apply Kd.zm)); exact HO_3.out) (by decide)) hk (fun _ h => h.2)) (fun _ h => h.1)); have n1_ := za.mk (zf.trans (by repeat (first | (with_reducible first | exact HK.out | apply zf.set_ | apply zn | apply zq | apply zo) | exact HK.out)) hk (.inl rfl)); have n2_ := za.mk (hb); have n3_ := za.mk (hi); clear HO_3; clear HK; clear HB; clear HI0; have HO_3 := n0_; have HK := n1_; have HB := n2_; have HI0 := n3_; clear n0_ n1_ n2_ n3_; (try clear hb); (try clear hb2); (try clear hk); (try clear hi)) | ((with_reducible refine zza (b := .append) (xs := #[.tmp 12, .tmp 15]) rfl ?_); at_builtin; refine Kd.zkc (Kd.int .i64) w.heap.size rfl (.tmp 12) (.tmp 15) 22 3 (.int .i64 0) 8 rfl Try.underlying22 info3 rfl (by decide) (by omega) u3 x3_1 t313 [.int .i64 t313] (fun _ => True) (fun _ => False) rfl rfl ?aP (fun _ hk => hk.elim) ?aF ?aO (Below.refl _ _) ?aS ?aL ?_; (case aP => exact rfl); (case aF => exact (fun _ _ => trivial)); (case aO => exact (by (with_reducible repeat (first | apply Kd.zg | apply Kd.zh | apply Kd.zm)); exact HO_3.out)); (case aS => exact (zoa (w := w) (g := g) (row := none) (by repeat (first | (with_reducible first | exact HK.out | apply zf.set_ | apply zn | apply zq | apply zo) | exact HK.out)))); (case aL => have := LMc8.out; omega); intro v316 w10 ho hb hg hat; rw [← Ny315.out] at ho; have n0_ := za.mk (zc.grown (by repeat (first | (with_reducible first | exact HI0.out | apply zc.alloc | apply zc.drewN | apply zc.drew | apply zc.zx) | exact HI0.out)) hg (zc.zya HI0.out HO_3.out (by decide))); have n1_ := za.mk (zab (by repeat (first | (with_reducible first | exact HB.out | apply ze | apply zb | apply zd | refine zr ?_ (zc.ge HI0.out)) | exact HB.out)) HL.out hb); have n2_ := za.mk (zf.trans (by repeat (first | (with_reducible first | exact HK.out | apply zf.set_ | apply zn | apply zq | apply zo) | exact HK.out)) (zf.zgb hg g) (Kd.zyb HO_3.out)); have n3_ := za.mk (ho); clear HI0; clear HB; clear HK; clear HO_3; have HI0 := n0_; have HB := n1_; have HK := n2_; have HO317 := n3_; clear n0_ n1_ n2_ n3_; clear ho hb hg hat))
     go_roundg k1
     case measure => have := HK1.out; omega
     case rel => exact ⟨(y315), (wrap64 (x4_1 - 1)), (t314), (by first | rfl | (simp; done) | (simp [*]; done)), H', ⟨by have := HK1.out; omega⟩, ⟨by (with_reducible repeat (first | apply Kd.zg | apply Kd.zh | apply Kd.zm)); exact HO317.out⟩, ⟨by repeat (first | (with_reducible first | exact HI0.out | apply zc.alloc | apply zc.drewN | apply zc.drew | apply zc.zx) | exact HI0.out)⟩, ⟨by repeat (first | (with_reducible first | exact HK.out | apply zf.set_ | apply zn | apply zq | apply zo) | exact HK.out)⟩, ⟨by repeat (first | (with_reducible first | exact HB.out | apply ze | apply zb | apply zd | refine zr ?_ (zc.ge HI0.out)) | exact HB.out)⟩⟩
    ·rw [if_neg c8] at H
     exact absurd H (by simp)
   ·rw [if_neg c6] at H
    have c6b0 : decide (0 < x4_1) = false := decide_eq_false c6
    clear c6
    replace H := Option.bind_eq_some_iff.mp H
    obtain ⟨⟨t318, t319⟩, A110, H⟩ := H
    replace H : (if t318 = 0 then (spec_l13Runes.l1 k1 x3_1 s0_0 t319) else (some (x3_1, t319))) = some (r1, r2) := H
    have A11 := za.mk A110
    clear A110
    by_cases c12 : t318 = 0
    ·rw [if_pos c12] at H
     have c12b0 : (t318 == 0) = true := beq_iff_eq.mpr c12
     have c12b1 : (t318 != 0) = false := bne_eq_false_iff_eq.mpr c12
     clear c12
     have H' := za.mk H
     clear H
     go_wp2_with (first | ((with_reducible refine zt (f := 66) rfl ?_); refine zgo (some 18) Try.func66 #[.pointer (some ⟨g, 0, none⟩), .int .i64 24] rfl ?_; (with_reducible refine (spec_l1Rd_pick.calls k1 g s0_0 x1001_1 24 t318 t319 w0 _ ?side1 ?side2 A11.out).mono ?_); (case side1 => repeat (first | (with_reducible first | exact HI0.out | apply zc.alloc | apply zc.drewN | apply zc.drew | apply zc.zx) | exact HI0.out)); (case side2 => repeat (first | (with_reducible first | exact HB.out | apply ze | apply zb | apply zd | refine zr ?_ (zc.ge HI0.out)) | exact HB.out)); rintro e w13 ⟨rfl, hi, hb, hk⟩; refine ⟨_, rfl, ?_⟩; have n0_ := za.mk (Kd.zga (Kd.zsa (zc.apart (show zc w0 _ g s0_0 x1001_1 from by repeat (first | (with_reducible first | exact HI0.out | apply zc.alloc | apply zc.drewN | apply zc.drew | apply zc.zx) | exact HI0.out)) (by (with_reducible repeat (first | apply Kd.zg | apply Kd.zh | apply Kd.zm)); exact HO_3.out) (by decide)) hk (fun _ h => h.2)) (fun _ h => h.1)); have n1_ := za.mk (zf.trans (by repeat (first | (with_reducible first | exact HK.out | apply zf.set_ | apply zn | apply zq | apply zo) | exact HK.out)) hk (.inl rfl)); have n2_ := za.mk (hb); have n3_ := za.mk (hi); clear HO_3; clear HK; clear HB; clear HI0; have HO_3 := n0_; have HK := n1_; have HB := n2_; have HI0 := n3_; clear n0_ n1_ n2_ n3_; (try clear hb); (try clear hb2); (try clear hk); (try clear hi)))
     go_loopg [3] k1 (fun kq v3 w' => ∃ (x3_2 : List Int) (x1001_2 : Int), za (spec_l13Runes.l1 kq x3_2 s0_0 x1001_2 = some (r1, r2)) ∧ za (kq ≤ k1) ∧ za (Kd.R (Kd.int .i64) 3 w' w.heap.size (fun _ => True) v3 x3_2) ∧ za (zc w0 w' g s0_0 x1001_2) ∧ za (zf w w' g none) ∧ za (Below w0.heap.size w0 w'))
     case atStart => exact ⟨(x3_1), (t319), H', ⟨Nat.le_refl _⟩, ⟨by (with_reducible repeat (first | apply Kd.zg | apply Kd.zh | apply Kd.zm)); exact HO_3.out⟩, ⟨by repeat (first | (with_reducible first | exact HI0.out | apply zc.alloc | apply zc.drewN | apply zc.drew | apply zc.zx) | exact HI0.out)⟩, ⟨by repeat (first | (with_reducible first | exact HK.out | apply zf.set_ | apply zn | apply zq | apply zo) | exact HK.out)⟩, ⟨by repeat (first | (with_reducible first | exact HB.out | apply ze | apply zb | apply zd | refine zr ?_ (zc.ge HI0.out)) | exact HB.out)⟩⟩
     case round =>
      clear H'
      try clear c1
      try clear p2
      try clear c6
      try clear c6b0
      try clear p6
      try clear c8
      try clear c10
      try clear c12
      try clear c12b0
      try clear c12b1
      try clear p2
      obtain ⟨x3_2, x1001_2, HA, HK2, HO_3, HI0, HK, HB⟩ := hrel
      cases gk with
      | zero => exact absurd HA.out (by simp [spec_l13Runes.l1])
      | succ k2 =>
       have H := HA.out
       clear HA
       simp only [spec_l13Runes.l1] at H
       by_cases c14 : (x3_2.length : Int) < 80
       ·rw [if_pos c14] at H
        have c14b0 : decide ((x3_2.length : Int) < 80) = true := decide_eq_true c14
        have c14b1 : decide (x3_2.length < 80) = true := decide_eq_true (by omega)
        clear c14
        obtain ⟨y320, hy320⟩ : ∃ y_ : List Int, y_ = (([8235, 8238, 8295, 1488, 97] : List Int)) := ⟨_, rfl⟩
        replace H : ((spec_l1Rd_one.f k2 s0_0 x1001_2 y320).bind fun bt323 => (if x3_2.length < 17592186044416 then (spec_l13Runes.l1 k2 (x3_2 ++ [bt323.1]) s0_0 bt323.2) else (none))) = some (r1, r2) := by first | (rw [hy320]; with_reducible exact H) | (have H2_ := (Option.bind_some _ _).symm.trans H; rw [hy320]; with_reducible exact H2_) | (have H2_ := (Option.bind_some _ _).symm.trans H; with_reducible exact H2_) | with_reducible exact H | (rw [hy320]; exact H) | exact H
        have Ny320 := za.mk hy320
        clear hy320
        replace H := Option.bind_eq_some_iff.mp H
        obtain ⟨⟨t323, t324⟩, A150, H⟩ := H
        replace H : (if x3_2.length < 17592186044416 then (spec_l13Runes.l1 k2 (x3_2 ++ [t323]) s0_0 t324) else (none)) = some (r1, r2) := H
        have A15 := za.mk A150
        clear A150
        by_cases c16 : x3_2.length < 17592186044416
        ·rw [if_pos c16] at H
         have LMc16 := za.mk c16
         clear c16
         obtain ⟨y325, hy325⟩ : ∃ y_ : List Int, y_ = (x3_2 ++ [t323]) := ⟨_, rfl⟩
         replace H : (spec_l13Runes.l1 k2 y325 s0_0 t324) = some (r1, r2) := by first | (rw [hy325]; with_reducible exact H) | (have H2_ := (Option.bind_some _ _).symm.trans H; rw [hy325]; with_reducible exact H2_) | (have H2_ := (Option.bind_some _ _).symm.trans H; with_reducible exact H2_) | with_reducible exact H | (rw [hy325]; exact H) | exact H
         have Ny325 := za.mk hy325
         clear hy325
         have H' := za.mk H
         clear H
         obtain ⟨Ao17, co17, eo17⟩ := Kd.zka HO_3.out
         subst eo17
         go_wp2_with (first | ((with_reducible refine zla (N := 25) rfl ?_); refine Kd.zfb (Kd.int .i64) _ 3 ?hg (N := 25) ?hd (xs := ([8235, 8238, 8295, 1488, 97] : List Int)) (inner := [.int .i64 8235, .int .i64 8238, .int .i64 8295, .int .i64 1488, .int .i64 97]) (ok := fun _ => True) (okp := fun _ => True) ?hr ?hp (fun _ hk => hk) trivial (Below.refl _ _) (Nat.le_refl _) (by simp) ?_; (case hd => rfl); (case hg => rfl); (case hr => first | (go_simp; done) | (go_simp; rfl)); (case hp => exact (Reps.one (show Kd.M (Kd.int .i64) _ _ _ 8235 [.int .i64 8235] from rfl) (Reps.one (show Kd.M (Kd.int .i64) _ _ _ 8238 [.int .i64 8238] from rfl) (Reps.one (show Kd.M (Kd.int .i64) _ _ _ 8295 [.int .i64 8295] from rfl) (Reps.one (show Kd.M (Kd.int .i64) _ _ _ 1488 [.int .i64 1488] from rfl) (Reps.one (show Kd.M (Kd.int .i64) _ _ _ 97 [.int .i64 97] from rfl) (Reps.none _ _))))))); intro v321 w18 ho19 hb hg_ hnew_; clear hg_ hnew_; (first | rw [← Ny320.out] at ho19 | (simp only [Int.reduceToNat] at ho19; rw [← Ny320.out] at ho19)); have n0_ := za.mk (Kd.zsb (by (with_reducible repeat (first | apply Kd.zg | apply Kd.zh | apply Kd.zm)); exact HO_3.out) (Kd.zac ho19) hb); have n1_ := za.mk (Kd.zqa (Kd.zbc ho19 (Kd.R_lt (by (with_reducible repeat (first | apply Kd.zg | apply Kd.zh | apply Kd.zm)); exact HO_3.out))) (zoa (w := w) (g := g) (row := none) (by repeat (first | (with_reducible first | exact HK.out | apply zf.set_ | apply zn | apply zq | apply zo) | exact HK.out)))); have n2_ := za.mk (zc.below (by repeat (first | (with_reducible first | exact HI0.out | apply zc.alloc | apply zc.drewN | apply zc.drew | apply zc.zx) | exact HI0.out)) hb); have n3_ := za.mk (zf.trans (by repeat (first | (with_reducible first | exact HK.out | apply zf.set_ | apply zn | apply zq | apply zo) | exact HK.out)) (zf.of_below hb g none) (.inl rfl)); have n4_ := za.mk (zv (by repeat (first | (with_reducible first | exact HB.out | apply ze | apply zb | apply zd | refine zr ?_ (zc.ge HI0.out)) | exact HB.out)) hb); clear HO_3; clear HI0; clear HK; clear HB; have HO_3 := n0_; have HO322 := n1_; have HI0 := n2_; have HK := n3_; have HB := n4_; clear n0_ n1_ n2_ n3_ n4_; clear hb ho19; obtain ⟨Ao20, co20, eo20⟩ := Kd.zka HO322.out; subst eo20) | ((with_reducible refine zt (f := 67) rfl ?_); refine zgo (some 26) Try.func67 #[.pointer (some ⟨g, 0, none⟩), .slice Ao20 y320.length co20] rfl ?_; (with_reducible refine (spec_l1Rd_one.calls k2 g s0_0 x1001_2 _ _ y320 t323 t324 w0 _ ?side1 ?side2 ?side3 ?side4 ?side5 A15.out).mono ?_); (case side1 => repeat (first | (with_reducible first | exact HI0.out | apply zc.alloc | apply zc.drewN | apply zc.drew | apply zc.zx) | exact HI0.out)); (case side2 => repeat (first | (with_reducible first | exact HB.out | apply ze | apply zb | apply zd | refine zr ?_ (zc.ge HI0.out)) | exact HB.out)); (case side3 => repeat (first | exact (Kd.zw HO322.out).2.2 | (with_reducible refine Kd.zca ?_ _) | (with_reducible refine Kd.zda ?_ _) | (with_reducible refine Kd.zfa ?_))); (case side4 => exact (Kd.zw HO322.out).2.1); (case side5 => exact zub (zc.zya HI0.out HO322.out (by decide))); rintro e w21 ⟨rfl, hi, hb, hk⟩; refine ⟨_, rfl, ?_⟩; have n0_ := za.mk (Kd.zga (Kd.zsa (zc.apart (show zc w0 _ g s0_0 x1001_2 from by repeat (first | (with_reducible first | exact HI0.out | apply zc.alloc | apply zc.drewN | apply zc.drew | apply zc.zx) | exact HI0.out)) (by (with_reducible repeat (first | apply Kd.zg | apply Kd.zh | apply Kd.zm)); exact HO_3.out) (by decide)) hk (fun _ h => h.2)) (fun _ h => h.1)); have n1_ := za.mk (Kd.zga (Kd.zsa (zc.apart (show zc w0 _ g s0_0 x1001_2 from by repeat (first | (with_reducible first | exact HI0.out | apply zc.alloc | apply zc.drewN | apply zc.drew | apply zc.zx) | exact HI0.out)) (by (with_reducible repeat (first | apply Kd.zg | apply Kd.zh | apply Kd.zm)); exact HO322.out) (by decide)) hk (fun _ h => h.2)) (fun _ h => h.1)); have n2_ := za.mk (zf.trans (by repeat (first | (with_reducible first | exact HK.out | apply zf.set_ | apply zn | apply zq | apply zo) | exact HK.out)) hk (.inl rfl)); have n3_ := za.mk (hb); have n4_ := za.mk (hi); clear HO_3; clear HO322; clear HK; clear HB; clear HI0; have HO_3 := n0_; have HO322 := n1_; have HK := n2_; have HB := n3_; have HI0 := n4_; clear n0_ n1_ n2_ n3_ n4_; (try clear hb); (try clear hb2); (try clear hk); (try clear hi)) | ((with_reducible refine zza (b := .append) (xs := #[.tmp 23, .tmp 27]) rfl ?_); at_builtin; refine Kd.zkc (Kd.int .i64) w.heap.size rfl (.tmp 23) (.tmp 27) 22 3 (.int .i64 0) 8 rfl Try.underlying22 info3 rfl (by decide) (by omega) (.slice Ao17 x3_2.length co17) x3_2 t323 [.int .i64 t323] (fun k_ => some k_ ≠ (.slice Ao20 y320.length co20 : Value).ownBlock) (fun _ => False) rfl rfl ?aP (fun _ hk => hk.elim) ?aF ?aO (Below.refl _ _) ?aS ?aL ?_; (case aP => exact rfl); (case aF => exact (fun k_ hk => Kd.fresh' (Kd.R_lt (by (with_reducible repeat (first | apply Kd.zg | apply Kd.zh | apply Kd.zm)); exact HO322.out)) k_ hk)); (case aO => exact (by (with_reducible repeat (first | apply Kd.zg | apply Kd.zh | apply Kd.zm)); exact Kd.zga HO_3.out (fun _ hk => hk.2))); (case aS => exact (zoa (w := w) (g := g) (row := none) (by repeat (first | (with_reducible first | exact HK.out | apply zf.set_ | apply zn | apply zq | apply zo) | exact HK.out)))); (case aL => have := LMc16.out; omega); intro v326 w22 ho hb hg hat; rw [← Ny325.out] at ho; have n0_ := za.mk (zc.grown (by repeat (first | (with_reducible first | exact HI0.out | apply zc.alloc | apply zc.drewN | apply zc.drew | apply zc.zx) | exact HI0.out)) hg (zc.zya HI0.out HO_3.out (by decide))); have n1_ := za.mk (Kd.R_after (ok := (fun _ => True)) (by (with_reducible repeat (first | apply Kd.zg | apply Kd.zh | apply Kd.zm)); exact HO322.out) hg hat); have n2_ := za.mk (zab (by repeat (first | (with_reducible first | exact HB.out | apply ze | apply zb | apply zd | refine zr ?_ (zc.ge HI0.out)) | exact HB.out)) HL.out hb); have n3_ := za.mk (zf.trans (by repeat (first | (with_reducible first | exact HK.out | apply zf.set_ | apply zn | apply zq | apply zo) | exact HK.out)) (zf.zgb hg g) (Kd.zyb HO_3.out)); have n4_ := za.mk (ho); clear HI0; clear HO322; clear HB; clear HK; clear HO_3; have HI0 := n0_; have HO322 := n1_; have HB := n2_; have HK := n3_; have HO327 := n4_; clear n0_ n1_ n2_ n3_ n4_; clear ho hb hg hat))
         go_roundg k2
         case measure => have := HK1.out; have := HK2.out; omega
         case rel => exact ⟨(y325), (t324), H', ⟨by have := HK1.out; have := HK2.out; omega⟩, ⟨by (with_reducible repeat (first | apply Kd.zg | apply Kd.zh | apply Kd.zm)); exact Kd.zga HO327.out (fun _ hk => trivial)⟩, ⟨by repeat (first | (with_reducible first | exact HI0.out | apply zc.alloc | apply zc.drewN | apply zc.drew | apply zc.zx) | exact HI0.out)⟩, ⟨by repeat (first | (with_reducible first | exact HK.out | apply zf.set_ | apply zn | apply zq | apply zo) | exact HK.out)⟩, ⟨by repeat (first | (with_reducible first | exact HB.out | apply ze | apply zb | apply zd | refine zr ?_ (zc.ge HI0.out)) | exact HB.out)⟩⟩
        ·rw [if_neg c16] at H
         exact absurd H (by simp)
       ·rw [if_neg c14] at H
        have c14b0 : decide ((x3_2.length : Int) < 80) = false := decide_eq_false c14
        have c14b1 : decide (x3_2.length < 80) = false := decide_eq_false (by omega)
        clear c14
        simp only [Option.some.injEq, Prod.mk.injEq] at H
        obtain ⟨rfl, rfl⟩ := H
        obtain ⟨Ao23, co23, eo23⟩ := Kd.zka HO_3.out
        subst eo23
        go_wp2
        go_ret
        exact ⟨_, by first | rfl | (simp [zi, zj] <;> rfl) | (simp [*, zi, zj] <;> rfl), by (with_reducible repeat (first | apply Kd.zg | apply Kd.zh | apply Kd.zm)); exact HO_3.out, by repeat (first | (with_reducible first | exact HI0.out | apply zc.alloc | apply zc.drewN | apply zc.drew | apply zc.zx) | exact HI0.out), by repeat (first | (with_reducible first | exact HB.out | apply ze | apply zb | apply zd | refine zr ?_ (zc.ge HI0.out)) | exact HB.out), by repeat (first | (with_reducible first | exact HK.out | apply zf.set_ | apply zn | apply zq | apply zo) | exact HK.out)⟩
    ·rw [if_neg c12] at H
     have c12b0 : (t318 == 0) = false := beq_eq_false_iff_ne.mpr c12
     have c12b1 : (t318 != 0) = true := bne_iff_ne.mpr c12
     simp only [Option.some.injEq, Prod.mk.injEq] at H
     obtain ⟨rfl, rfl⟩ := H
     go_wp2_with (first | ((with_reducible refine zt (f := 66) rfl ?_); refine zgo (some 18) Try.func66 #[.pointer (some ⟨g, 0, none⟩), .int .i64 24] rfl ?_; (with_reducible refine (spec_l1Rd_pick.calls k1 g s0_0 x1001_1 24 t318 t319 w0 _ ?side1 ?side2 A11.out).mono ?_); (case side1 => repeat (first | (with_reducible first | exact HI0.out | apply zc.alloc | apply zc.drewN | apply zc.drew | apply zc.zx) | exact HI0.out)); (case side2 => repeat (first | (with_reducible first | exact HB.out | apply ze | apply zb | apply zd | refine zr ?_ (zc.ge HI0.out)) | exact HB.out)); rintro e w24 ⟨rfl, hi, hb, hk⟩; refine ⟨_, rfl, ?_⟩; have n0_ := za.mk (Kd.zga (Kd.zsa (zc.apart (show zc w0 _ g s0_0 x1001_1 from by repeat (first | (with_reducible first | exact HI0.out | apply zc.alloc | apply zc.drewN | apply zc.drew | apply zc.zx) | exact HI0.out)) (by (with_reducible repeat (first | apply Kd.zg | apply Kd.zh | apply Kd.zm)); exact HO_3.out) (by decide)) hk (fun _ h => h.2)) (fun _ h => h.1)); have n1_ := za.mk (zf.trans (by repeat (first | (with_reducible first | exact HK.out | apply zf.set_ | apply zn | apply zq | apply zo) | exact HK.out)) hk (.inl rfl)); have n2_ := za.mk (hb); have n3_ := za.mk (hi); clear HO_3; clear HK; clear HB; clear HI0; have HO_3 := n0_; have HK := n1_; have HB := n2_; have HI0 := n3_; clear n0_ n1_ n2_ n3_; (try clear hb); (try clear hb2); (try clear hk); (try clear hi)))
     go_ret
     exact ⟨_, by first | rfl | (simp [zi, zj] <;> rfl) | (simp [*, zi, zj] <;> rfl), by (with_reducible repeat (first | apply Kd.zg | apply Kd.zh | apply Kd.zm)); exact HO_3.out, by repeat (first | (with_reducible first | exact HI0.out | apply zc.alloc | apply zc.drewN | apply zc.drew | apply zc.zx) | exact HI0.out), by repeat (first | (with_reducible first | exact HB.out | apply ze | apply zb | apply zd | refine zr ?_ (zc.ge HI0.out)) | exact HB.out), by repeat (first | (with_reducible first | exact HK.out | apply zf.set_ | apply zn | apply zq | apply zo) | exact HK.out)⟩
end Go.Proofs.Ytmjhdgofepdgkaa.PFnWides
