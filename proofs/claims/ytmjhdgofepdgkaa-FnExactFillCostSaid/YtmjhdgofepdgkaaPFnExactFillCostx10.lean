-- Written by a program of this session (wip/tools) out of the translation; its shape is that of the kit print.
import Derived.Test.YtmjhdgofepdgkaaPFnExactFillCostx0
import Derived.Test.YtmjhdgofepdgkaaPFnExactFillCostx4
import Derived.Test.YtmjhdgofepdgkaaPFnExactFillCostx7
import Derived.Test.YtmjhdgofepdgkaaPFnExactFillCostx9
namespace Go.Proofs.Ytmjhdgofepdgkaa.PFnExactFillCost
open Go.RowKit Go.Proofs.YtmjhdgofepdgkaaW.PrintWords Go.Proofs.YtmjhdgofepdgkaaW.PrintLast Go.Proofs.YtmjhdgofepdgkaaW.PrintMore
attribute [local go_sem] zbb zcb zjb zkb zxa zya zdb zeb
set_option linter.unusedVariables false
set_option maxHeartbeats 8000000
set_option maxRecDepth 100000
set_option linter.unusedSimpArgs false
mutual
def spec_l5Breaks.l0 : Nat → List Int → List Int → List Int → Int → Option (List Int)
 | 0, _, _, _, _ => none
 | k + 1, x0, x3, x4, x5 => if x5 < (x3.length : Int) then (if (wrap64 (x5 + 1)) = (x3.length : Int) then (if x4.length < 17592186044416 then (spec_l5Breaks.l0 k x0 x3 (x4 ++ [2]) (wrap64 (x5 + 1))) else (none)) else ((spec_l2Joins.f k x0 (wrap64 (x5 + 1))).bind fun t238 => (if t238 = true then (spec_l5Breaks.j1 k x0 x3 x4 x5 true) else (if 0 ≤ (wrap64 (x5 + 1)) then (if (wrap64 (x5 + 1)) < (x0.length : Int) then ((spec_RuneLine.f k (rd x0 (wrap64 (x5 + 1)))).bind fun t240 => (if t240 = 7 then (if 0 ≤ x5 then (if (rd x3 x5) = 3 then (spec_l5Breaks.j1 k x0 x3 x4 x5 false) else (if (rd x3 x5) = 4 then (spec_l5Breaks.j1 k x0 x3 x4 x5 false) else (spec_l5Breaks.j1 k x0 x3 x4 x5 ((rd x3 x5) != 6)))) else (none)) else (spec_l5Breaks.j1 k x0 x3 x4 x5 false))) else (none)) else (none))))) else (some x4)
def spec_l5Breaks.j1 : Nat → List Int → List Int → List Int → Int → Bool → Option (List Int)
 | 0, _, _, _, _, _ => none
 | k + 1, x0, x3, x4, x5, x49 => if x49 = true then (if x4.length < 17592186044416 then (spec_l5Breaks.l0 k x0 x3 (x4 ++ [0]) (wrap64 (x5 + 1))) else (none)) else ((spec_l5Before.f k x3 x5).bind fun t247 => (if t247 ≥ 0 then (if 0 ≤ t247 then (if t247 < (x3.length : Int) then (if 0 ≤ x5 then (if x5 < (x3.length : Int) then (if 0 ≤ (wrap64 (x5 + 1)) then (if (wrap64 (x5 + 1)) < (x3.length : Int) then ((spec_l5Place.f k (rd x3 x5) (rd x3 (wrap64 (x5 + 1))) (rd x3 t247)).bind fun t251 => (if x4.length < 17592186044416 then (spec_l5Breaks.l0 k x0 x3 (x4 ++ [t251]) (wrap64 (x5 + 1))) else (none))) else (none)) else (none)) else (none)) else (none)) else (none)) else (none)) else (if 0 ≤ x5 then (if x5 < (x3.length : Int) then (if 0 ≤ (wrap64 (x5 + 1)) then (if (wrap64 (x5 + 1)) < (x3.length : Int) then ((spec_l5Place.f k (rd x3 x5) (rd x3 (wrap64 (x5 + 1))) 0).bind fun t257 => (if x4.length < 17592186044416 then (spec_l5Breaks.l0 k x0 x3 (x4 ++ [t257]) (wrap64 (x5 + 1))) else (none))) else (none)) else (none)) else (none)) else (none))))
end
def spec_l5Breaks.f (k : Nat) (l0 : List Int) : Option (List Int) := (spec_l5Counts.f k l0).bind fun t229 => (spec_l5Breaks.l0 k l0 t229 (([] : List Int)) 0)
def spec_l5Breaks.T10 : Bool × List (List Nat × List Nat) := (true, [([], []), ([], []), ([], []), ([1, 2], [1, 2]), ([3], [3]), ([], []), ([], []), ([6], [6]), ([5, 7], [5, 7]), ([8], [8]), ([], []), ([4, 9, 10], [4, 9, 10]), ([11], [11]), ([0, 12, 11], [0, 12]), ([13, 13, 0, 1, 2, 3, 4, 5, 6, 7, 8, 9, 10, 11, 12, 13], [0, 13])])
def spec_l5Breaks.B10 : List Nat := [0, 0, 0, 6, 14, 0, 0, 64, 224, 480, 0, 2046, 4094, 8191, 16383]
theorem spec_l5Breaks.tab10 : rtab .any (opsOf Try.f76 10) = spec_l5Breaks.T10 := by kernel_rfl
theorem spec_l5Breaks.bits10 : waitsOk spec_l5Breaks.T10.2 spec_l5Breaks.B10 = true := by kernel_rfl
theorem spec_l5Breaks.calls (k : Nat) (A0 : Option Addr) (c0 : Nat) (l0 : List Int) (r : List Int) (w : World) (hr0 : Kd.C (Kd.int .i64) w A0 l0.length l0) (hc0 : l0.length ≤ c0) (h : spec_l5Breaks.f k l0 = some r) :
  Calls Try.prog 76 #[.slice A0 l0.length c0] w fun e w' => ∃ v0_ : Value, e = .returned (v0_) ∧ Kd.R (Kd.int .i64) 3 w' w.heap.size (fun _ => True) v0_ r ∧ Below w.heap.size w w' := by
 have HR0 := za.mk hr0
 have HC0 := za.mk hc0
 clear hr0 hc0
 have HB := za.mk (Below.refl w.heap.size w)
 have H : ((spec_l5Counts.f k l0).bind fun t229 => (spec_l5Breaks.l0 k l0 t229 (([] : List Int)) 0)) = some r := h
 clear h
 replace H := Option.bind_eq_some_iff.mp H
 obtain ⟨t229, A20, H⟩ := H
 replace H : (spec_l5Breaks.l0 k l0 t229 (([] : List Int)) 0) = some r := H
 have A2 := za.mk A20
 clear A20
 obtain ⟨y232, hy232⟩ : ∃ y_ : List Int, y_ = (([] : List Int)) := ⟨_, rfl⟩
 replace H : (spec_l5Breaks.l0 k l0 t229 y232 0) = some r := by first | (rw [hy232]; with_reducible exact H) | (have H2_ := (Option.bind_some _ _).symm.trans H; rw [hy232]; with_reducible exact H2_) | (have H2_ := (Option.bind_some _ _).symm.trans H; with_reducible exact H2_) | with_reducible exact H | (rw [hy232]; exact H) | exact H
 have Ny232 := za.mk hy232
 clear hy232
 have H' := za.mk H
 clear H
 go_enter Try.func76, Try.ntmps76
 go_wp2_with (first | ((with_reducible refine zj (f := 111) rfl ?_); refine zgo (some 9) Try.func111 #[.slice A0 l0.length c0] rfl ?_; (with_reducible refine (spec_l5Counts.calls k _ _ l0 t229 _ ?side1 ?side2 A2.out).mono ?_); (case side1 => repeat (first | exact HR0.out | (with_reducible refine Kd.zea ?_ _) | (with_reducible refine Kd.zga ?_ _) | (with_reducible refine Kd.zha ?_))); (case side2 => exact HC0.out); rintro e w3 ⟨v230, rfl, ho0, hb⟩; refine ⟨_, rfl, ?_⟩; have n0_ := za.mk (Kd.zqa ho0 (zp (by repeat (first | (with_reducible first | exact HB.out | apply zc | apply zb | apply zd) | exact HB.out)))); have n1_ := za.mk (zg (by repeat (first | (with_reducible first | exact HB.out | apply zc | apply zb | apply zd) | exact HB.out)) hb); clear HB; have HO231 := n0_; have HB := n1_; clear n0_ n1_; (try clear hb); (try clear hb2); (try clear hk); (try clear hi); (try clear ho0)) | ((with_reducible refine zw (N := 10) rfl ?_); refine Kd.zwa (Kd.int .i64) _ 3 ?hg (N := 10) ?hd (xs := ([] : List Int)) (inner := []) (ok := fun _ => True) (okp := fun _ => True) ?hr ?hp (fun _ hk => hk) trivial (Below.refl _ _) (Nat.le_refl _) (by simp) ?_; (case hd => rfl); (case hg => rfl); (case hr => first | (go_simp; done) | (go_simp; rfl)); (case hp => exact (Reps.none _ _)); intro v233 w4 ho5 hb hg_ hnew_; clear hg_ hnew_; (first | rw [← Ny232.out] at ho5 | (simp only [Int.reduceToNat] at ho5; rw [← Ny232.out] at ho5)); have n0_ := za.mk (Kd.zua (by (with_reducible repeat (first | apply Kd.zn | apply Kd.zo | apply Kd.zq)); exact HO231.out) (Kd.zgb ho5) hb); have n1_ := za.mk (Kd.zqa (Kd.zhb ho5 (Kd.R_lt (by (with_reducible repeat (first | apply Kd.zn | apply Kd.zo | apply Kd.zq)); exact HO231.out))) (zp (by repeat (first | (with_reducible first | exact HB.out | apply zc | apply zb | apply zd) | exact HB.out)))); have n2_ := za.mk (zg (by repeat (first | (with_reducible first | exact HB.out | apply zc | apply zb | apply zd) | exact HB.out)) hb); clear HO231; clear HB; have HO231 := n0_; have HO234 := n1_; have HB := n2_; clear n0_ n1_ n2_; clear hb ho5))
 go_loopg [4, 5] k (fun kq v4 v5 w' => ∃ (x4_1 : List Int) (x5_1 : Int), v5 = .int .i64 x5_1 ∧ za (spec_l5Breaks.l0 kq l0 t229 x4_1 x5_1 = some r) ∧ za (kq ≤ k) ∧ za (Kd.R (Kd.int .i64) 3 w' w.heap.size (fun k_ => some k_ ≠ (v4 : Value).ownBlock) v230 t229) ∧ za (Kd.R (Kd.int .i64) 3 w' w.heap.size (fun k_ => some k_ ≠ (v230 : Value).ownBlock) v4 x4_1) ∧ za (Below w.heap.size w w'))
 case atStart => exact ⟨(y232), (0), (by first | rfl | (simp; done) | (simp [*]; done)), H', ⟨Nat.le_refl _⟩, ⟨by (with_reducible repeat (first | apply Kd.zn | apply Kd.zo | apply Kd.zq)); exact Kd.zib HO231.out (fun _ hk => hk.2)⟩, ⟨by (with_reducible repeat (first | apply Kd.zn | apply Kd.zo | apply Kd.zq)); exact Kd.zib HO234.out (fun _ hk => hk.2)⟩, ⟨by repeat (first | (with_reducible first | exact HB.out | apply zc | apply zb | apply zd) | exact HB.out)⟩⟩
 case round =>
  clear H'
  try clear c1
  try clear p2
  obtain ⟨x4_1, x5_1, rfl, HA, HK1, HO_3, HO_4, HB⟩ := hrel
  cases gk with
  | zero => exact absurd HA.out (by simp [spec_l5Breaks.l0])
  | succ k1 =>
   have H := HA.out
   clear HA
   simp only [spec_l5Breaks.l0] at H
   by_cases c6 : x5_1 < (t229.length : Int)
   ·rw [if_pos c6] at H
    have c6b0 : decide (x5_1 < (t229.length : Int)) = true := decide_eq_true c6
    clear c6
    by_cases c7 : (wrap64 (x5_1 + 1)) = (t229.length : Int)
    ·rw [if_pos c7] at H
     have c7b0 : ((wrap64 (x5_1 + 1)) == (t229.length : Int)) = true := beq_iff_eq.mpr c7
     have c7b1 : ((wrap64 (x5_1 + 1)) != (t229.length : Int)) = false := bne_eq_false_iff_eq.mpr c7
     clear c7
     by_cases c8 : x4_1.length < 17592186044416
     ·rw [if_pos c8] at H
      have LMc8 := za.mk c8
      clear c8
      obtain ⟨y235, hy235⟩ : ∃ y_ : List Int, y_ = (x4_1 ++ [2]) := ⟨_, rfl⟩
      replace H : (spec_l5Breaks.l0 k1 l0 t229 y235 (wrap64 (x5_1 + 1))) = some r := by first | (rw [hy235]; with_reducible exact H) | (have H2_ := (Option.bind_some _ _).symm.trans H; rw [hy235]; with_reducible exact H2_) | (have H2_ := (Option.bind_some _ _).symm.trans H; with_reducible exact H2_) | with_reducible exact H | (rw [hy235]; exact H) | exact H
      have Ny235 := za.mk hy235
      clear hy235
      have H' := za.mk H
      clear H
      obtain ⟨Ao9, co9, eo9⟩ := Kd.zia HO_3.out
      subst eo9
      go_wp2_with (first | ((with_reducible refine zra (b := .append) (xs := #[.tmp 46, .tmp 47]) rfl ?_); at_builtin; refine Kd.zza (Kd.int .i64) (w0 := w) w.heap.size rfl (.tmp 46) (.tmp 47) 22 3 (.int .i64 0) 8 rfl Try.underlying22 info3 rfl (by decide) (by omega) u4 x4_1 2 [.int .i64 2] (fun k_ => some k_ ≠ (.slice Ao9 t229.length co9 : Value).ownBlock) (fun _ => False) rfl rfl ?aP (fun _ hk => hk.elim) ?aF ?aO ?aB ?aS ?aL ?_; (case aP => exact rfl); (case aB => exact (by repeat (first | (with_reducible first | exact HB.out | apply zc | apply zb | apply zd) | exact HB.out))); (case aF => exact (fun k_ hk => Kd.fresh' (Kd.R_lt (by (with_reducible repeat (first | apply Kd.zn | apply Kd.zo | apply Kd.zq)); exact HO_3.out)) k_ hk)); (case aO => exact (by (with_reducible repeat (first | apply Kd.zn | apply Kd.zo | apply Kd.zq)); exact HO_4.out)); (case aS => exact (zp (by repeat (first | (with_reducible first | exact HB.out | apply zc | apply zb | apply zd) | exact HB.out)))); (case aL => have := LMc8.out; omega); intro v236 w10 ho hb hg hat; rw [← Ny235.out] at ho; have n0_ := za.mk (Kd.R_after (ok := (fun _ => True)) (by (with_reducible repeat (first | apply Kd.zn | apply Kd.zo | apply Kd.zq)); exact Kd.zib HO_3.out (fun _ hk => ⟨trivial, hk⟩)) hg hat); have n1_ := za.mk (hb); have n2_ := za.mk (ho); clear HO_3; clear HB; clear HO_4; have HO_3 := n0_; have HB := n1_; have HO237 := n2_; clear n0_ n1_ n2_; clear ho hb hg hat))
      go_roundg k1
      case measure => have := HK1.out; omega
      case rel => exact ⟨(y235), (wrap64 (x5_1 + 1)), (by first | rfl | (simp; done) | (simp [*]; done)), (by first | exact H' | (simp only [hji16]; exact H') | (simp only [hji41]; exact H') | (simp only [hji50]; exact H') | (simp only [hji16, hji41, hji50]; exact H')), ⟨by have := HK1.out; omega⟩, ⟨by (with_reducible repeat (first | apply Kd.zn | apply Kd.zo | apply Kd.zq)); exact Kd.zib HO_3.out (fun _ hk => hk.2)⟩, ⟨by (with_reducible repeat (first | apply Kd.zn | apply Kd.zo | apply Kd.zq)); exact HO237.out⟩, ⟨by repeat (first | (with_reducible first | exact HB.out | apply zc | apply zb | apply zd) | exact HB.out)⟩⟩
     ·rw [if_neg c8] at H
      exact absurd H (by simp)
    ·rw [if_neg c7] at H
     have c7b0 : ((wrap64 (x5_1 + 1)) == (t229.length : Int)) = false := beq_eq_false_iff_ne.mpr c7
     have c7b1 : ((wrap64 (x5_1 + 1)) != (t229.length : Int)) = true := bne_iff_ne.mpr c7
     have HC11 := za.mk H
     clear H
     obtain ⟨Ao12, co12, eo12⟩ := Kd.zia HO_3.out
     subst eo12
     go_upto_region 13 with (fail)
     go_cut [49] (fun v49 wc => ∃ (kq : Nat) (x49_10 : Bool), v49 = .bool x49_10 ∧ za (spec_l5Breaks.j1 kq l0 t229 x4_1 x5_1 x49_10 = some r) ∧ za (kq ≤ k1) ∧ za (Kd.R (Kd.int .i64) 3 wc w.heap.size (fun k_ => some k_ ≠ (u4 : Value).ownBlock) (.slice Ao12 t229.length co12) t229) ∧ za (Kd.R (Kd.int .i64) 3 wc w.heap.size (fun k_ => some k_ ≠ ((.slice Ao12 t229.length co12) : Value).ownBlock) u4 x4_1) ∧ za (Below w.heap.size w wc))
     case first =>
      have H := HC11.out
      clear HC11
      replace H := Option.bind_eq_some_iff.mp H
      obtain ⟨t238, A130, H⟩ := H
      replace H : (if t238 = true then (spec_l5Breaks.j1 k1 l0 t229 x4_1 x5_1 true) else (if 0 ≤ (wrap64 (x5_1 + 1)) then (if (wrap64 (x5_1 + 1)) < (l0.length : Int) then ((spec_RuneLine.f k1 (rd l0 (wrap64 (x5_1 + 1)))).bind fun t240 => (if t240 = 7 then (if 0 ≤ x5_1 then (if (rd t229 x5_1) = 3 then (spec_l5Breaks.j1 k1 l0 t229 x4_1 x5_1 false) else (if (rd t229 x5_1) = 4 then (spec_l5Breaks.j1 k1 l0 t229 x4_1 x5_1 false) else (spec_l5Breaks.j1 k1 l0 t229 x4_1 x5_1 ((rd t229 x5_1) != 6)))) else (none)) else (spec_l5Breaks.j1 k1 l0 t229 x4_1 x5_1 false))) else (none)) else (none))) = some r := H
      have A13 := za.mk A130
      clear A130
      by_cases c14 : t238 = true
      ·subst c14
       have H1 : (spec_l5Breaks.j1 k1 l0 t229 x4_1 x5_1 true) = some r := by rw [if_pos rfl] at H; exact H
       clear H
       have H := H1
       clear H1
       have H' := za.mk H
       clear H
       go_wp2_with (first | ((with_reducible refine zj (f := 112) rfl ?_); refine zgo (some 53) Try.func112 #[.slice A0 l0.length c0, .int .i64 (wrap64 (x5_1 + 1))] rfl ?_; (with_reducible refine (spec_l2Joins.calls k1 _ _ l0 (wrap64 (x5_1 + 1)) true _ ?side1 ?side2 A13.out).mono ?_); (case side1 => repeat (first | exact (Kd.zka HR0.out HB.out) | (with_reducible refine Kd.zea ?_ _) | (with_reducible refine Kd.zga ?_ _) | (with_reducible refine Kd.zha ?_))); (case side2 => exact HC0.out); rintro e w15 ⟨rfl, hb⟩; refine ⟨_, rfl, ?_⟩; have n0_ := za.mk (Kd.zba (by (with_reducible repeat (first | apply Kd.zn | apply Kd.zo | apply Kd.zq)); exact HO_3.out) hb); have n1_ := za.mk (Kd.zba (by (with_reducible repeat (first | apply Kd.zn | apply Kd.zo | apply Kd.zq)); exact HO_4.out) hb); have n2_ := za.mk (zg (by repeat (first | (with_reducible first | exact HB.out | apply zc | apply zb | apply zd) | exact HB.out)) hb); clear HO_3; clear HO_4; clear HB; have HO_3 := n0_; have HO_4 := n1_; have HB := n2_; clear n0_ n1_ n2_; (try clear hb); (try clear hb2); (try clear hk); (try clear hi)))
       go_meet
       case rel => exact ⟨_, (true), (by first | rfl | (simp; done) | (simp [*]; done)), (by first | exact H' | (simp only [hji16]; exact H') | (simp only [hji41]; exact H') | (simp only [hji50]; exact H') | (simp only [hji16, hji41, hji50]; exact H')), ⟨by have := HK1.out; first | omega | exact Nat.le_refl _⟩, ⟨by (with_reducible repeat (first | apply Kd.zn | apply Kd.zo | apply Kd.zq)); exact HO_3.out⟩, ⟨by (with_reducible repeat (first | apply Kd.zn | apply Kd.zo | apply Kd.zq)); exact HO_4.out⟩, ⟨by repeat (first | (with_reducible first | exact HB.out | apply zc | apply zb | apply zd) | exact HB.out)⟩⟩
      ·replace c14 := Bool.eq_false_iff.mpr c14
       subst c14
       have H1 : (if 0 ≤ (wrap64 (x5_1 + 1)) then (if (wrap64 (x5_1 + 1)) < (l0.length : Int) then ((spec_RuneLine.f k1 (rd l0 (wrap64 (x5_1 + 1)))).bind fun t240 => (if t240 = 7 then (if 0 ≤ x5_1 then (if (rd t229 x5_1) = 3 then (spec_l5Breaks.j1 k1 l0 t229 x4_1 x5_1 false) else (if (rd t229 x5_1) = 4 then (spec_l5Breaks.j1 k1 l0 t229 x4_1 x5_1 false) else (spec_l5Breaks.j1 k1 l0 t229 x4_1 x5_1 ((rd t229 x5_1) != 6)))) else (none)) else (spec_l5Breaks.j1 k1 l0 t229 x4_1 x5_1 false))) else (none)) else (none)) = some r := by rw [if_neg (show ¬ (false = true) by decide)] at H; exact H
       clear H
       have H := H1
       clear H1
       obtain ⟨ji16, hji16⟩ : ∃ j_ : Int, (wrap64 (x5_1 + 1)) = j_ := ⟨_, rfl⟩
       replace H : (if 0 ≤ (ji16) then (if (ji16) < (l0.length : Int) then ((spec_RuneLine.f k1 (rd l0 (ji16))).bind fun t240 => (if t240 = 7 then (if 0 ≤ x5_1 then (if (rd t229 x5_1) = 3 then (spec_l5Breaks.j1 k1 l0 t229 x4_1 x5_1 false) else (if (rd t229 x5_1) = 4 then (spec_l5Breaks.j1 k1 l0 t229 x4_1 x5_1 false) else (spec_l5Breaks.j1 k1 l0 t229 x4_1 x5_1 ((rd t229 x5_1) != 6)))) else (none)) else (spec_l5Breaks.j1 k1 l0 t229 x4_1 x5_1 false))) else (none)) else (none)) = some r := by first | (rw [hji16] at H; exact H) | (simp only [hji16] at H ⊢; exact H)
       (try rw [hji16] at c7b0)
       (try rw [hji16] at c7b1)
       (try rw [hji16] at A13)
       have hji16w : (IntKind.i64.wrap (x5_1 + 1)) = ji16 := (zr _).trans hji16
       by_cases c17 : 0 ≤ (ji16)
       ·rw [if_pos c17] at H
        have c17b0 : decide (0 ≤ (ji16)) = true := decide_eq_true c17
        clear c17
        (first | rw [c17b0] | (simp only [zr, zs]; rw [c17b0]) | skip)
        by_cases c18 : (ji16) < (l0.length : Int)
        ·rw [if_pos c18] at H
         have c18b0 : decide ((ji16) < (l0.length : Int)) = true := decide_eq_true c18
         clear c18
         replace H := Option.bind_eq_some_iff.mp H
         obtain ⟨t240, A190, H⟩ := H
         replace H : (if t240 = 7 then (if 0 ≤ x5_1 then (if (rd t229 x5_1) = 3 then (spec_l5Breaks.j1 k1 l0 t229 x4_1 x5_1 false) else (if (rd t229 x5_1) = 4 then (spec_l5Breaks.j1 k1 l0 t229 x4_1 x5_1 false) else (spec_l5Breaks.j1 k1 l0 t229 x4_1 x5_1 ((rd t229 x5_1) != 6)))) else (none)) else (spec_l5Breaks.j1 k1 l0 t229 x4_1 x5_1 false)) = some r := H
         have A19 := za.mk A190
         clear A190
         by_cases c20 : t240 = 7
         ·rw [if_pos c20] at H
          have c20b0 : (t240 == 7) = true := beq_iff_eq.mpr c20
          have c20b1 : (t240 != 7) = false := bne_eq_false_iff_eq.mpr c20
          clear c20
          by_cases c21 : 0 ≤ x5_1
          ·rw [if_pos c21] at H
           have c21b0 : decide (0 ≤ x5_1) = true := decide_eq_true c21
           clear c21
           by_cases c22 : (rd t229 x5_1) = 3
           ·rw [if_pos c22] at H
            have c22b0 : ((rd t229 x5_1) == 3) = true := beq_iff_eq.mpr c22
            have c22b1 : ((rd t229 x5_1) != 3) = false := bne_eq_false_iff_eq.mpr c22
            clear c22
            have H' := za.mk H
            clear H
            go_wp2_with (first | ((with_reducible refine zj (f := 112) rfl ?_); refine goesL_ (some 53) rfl rfl Try.func112 (by kernel_rfl) rfl #[.slice A0 l0.length c0, .int .i64 ji16] rfl (by (try simp only [List.map_toArray, List.map_cons, List.map_nil]); first | done | (simp only [hji16]; rfl) | rfl | (simp only [List.length_drop, List.length_take]; rfl)) ?_; (with_reducible refine (spec_l2Joins.calls k1 _ _ l0 ji16 false _ ?side1 ?side2 A13.out).mono ?_); (case side1 => repeat (first | exact (Kd.zka HR0.out HB.out) | (with_reducible refine Kd.zea ?_ _) | (with_reducible refine Kd.zga ?_ _) | (with_reducible refine Kd.zha ?_))); (case side2 => exact HC0.out); rintro e w23 ⟨rfl, hb⟩; refine ⟨_, rfl, ?_⟩; have n0_ := za.mk (Kd.zba (by (with_reducible repeat (first | apply Kd.zn | apply Kd.zo | apply Kd.zq)); exact HO_3.out) hb); have n1_ := za.mk (Kd.zba (by (with_reducible repeat (first | apply Kd.zn | apply Kd.zo | apply Kd.zq)); exact HO_4.out) hb); have n2_ := za.mk (zg (by repeat (first | (with_reducible first | exact HB.out | apply zc | apply zb | apply zd) | exact HB.out)) hb); clear HO_3; clear HO_4; clear HB; have HO_3 := n0_; have HO_4 := n1_; have HB := n2_; clear n0_ n1_ n2_; (try clear hb); (try clear hb2); (try clear hk); (try clear hi); have p239 : 0 ≤ ((ji16) : Int) := of_decide_eq_true (by assumption); have q239 : (ji16) < (l0.length : Int) := of_decide_eq_true (by assumption); obtain ⟨ad239, e239, hx239_0⟩ := Kd.zfa HR0.out (ji16) p239 q239; cases e239; replace hx239_0 := (HB.out.cell (World.block_lt_of_cell? w _ hx239_0)).trans hx239_0; replace p239 := eq_true p239; replace q239 := eq_true q239) | (go_at_call 37; (with_reducible refine (spec_RuneLine.calls k1 (rd l0 (ji16)) t240 _ A19.out).mono ?_); rintro e w24 ⟨rfl, hb⟩; have n0_ := za.mk (Kd.zba (by (with_reducible repeat (first | apply Kd.zn | apply Kd.zo | apply Kd.zq)); exact HO_3.out) hb); have n1_ := za.mk (Kd.zba (by (with_reducible repeat (first | apply Kd.zn | apply Kd.zo | apply Kd.zq)); exact HO_4.out) hb); have n2_ := za.mk (zg (by repeat (first | (with_reducible first | exact HB.out | apply zc | apply zb | apply zd) | exact HB.out)) hb); clear HO_3; clear HO_4; clear HB; have HO_3 := n0_; have HO_4 := n1_; have HB := n2_; clear n0_ n1_ n2_; (try clear hb); (try clear hb2); (try clear hk); (try clear hi); have p241 : 0 ≤ (x5_1 : Int) := of_decide_eq_true (by assumption); have q241 : x5_1 < (t229.length : Int) := of_decide_eq_true (by assumption); obtain ⟨ad241, e241, hx241_0⟩ := Kd.zfa (Kd.zt HO_3.out).2.2 x5_1 p241 q241; cases e241; replace p241 := eq_true p241; replace q241 := eq_true q241))
            go_meet
            case rel => exact ⟨_, (false), (by first | rfl | (simp; done) | (simp [*]; done)), (by first | exact H' | (simp only [hji16]; exact H') | (simp only [hji41]; exact H') | (simp only [hji50]; exact H') | (simp only [hji16, hji41, hji50]; exact H')), ⟨by have := HK1.out; first | omega | exact Nat.le_refl _⟩, ⟨by (with_reducible repeat (first | apply Kd.zn | apply Kd.zo | apply Kd.zq)); exact HO_3.out⟩, ⟨by (with_reducible repeat (first | apply Kd.zn | apply Kd.zo | apply Kd.zq)); exact HO_4.out⟩, ⟨by repeat (first | (with_reducible first | exact HB.out | apply zc | apply zb | apply zd) | exact HB.out)⟩⟩
           ·rw [if_neg c22] at H
            have c22b0 : ((rd t229 x5_1) == 3) = false := beq_eq_false_iff_ne.mpr c22
            have c22b1 : ((rd t229 x5_1) != 3) = true := bne_iff_ne.mpr c22
            by_cases c25 : (rd t229 x5_1) = 4
            ·rw [if_pos c25] at H
             have c25b0 : ((rd t229 x5_1) == 4) = true := beq_iff_eq.mpr c25
             have c25b1 : ((rd t229 x5_1) != 4) = false := bne_eq_false_iff_eq.mpr c25
             clear c25
             have H' := za.mk H
             clear H
             go_wp2_with (first | ((with_reducible refine zj (f := 112) rfl ?_); refine goesL_ (some 53) rfl rfl Try.func112 (by kernel_rfl) rfl #[.slice A0 l0.length c0, .int .i64 ji16] rfl (by (try simp only [List.map_toArray, List.map_cons, List.map_nil]); first | done | (simp only [hji16]; rfl) | rfl | (simp only [List.length_drop, List.length_take]; rfl)) ?_; (with_reducible refine (spec_l2Joins.calls k1 _ _ l0 ji16 false _ ?side1 ?side2 A13.out).mono ?_); (case side1 => repeat (first | exact (Kd.zka HR0.out HB.out) | (with_reducible refine Kd.zea ?_ _) | (with_reducible refine Kd.zga ?_ _) | (with_reducible refine Kd.zha ?_))); (case side2 => exact HC0.out); rintro e w26 ⟨rfl, hb⟩; refine ⟨_, rfl, ?_⟩; have n0_ := za.mk (Kd.zba (by (with_reducible repeat (first | apply Kd.zn | apply Kd.zo | apply Kd.zq)); exact HO_3.out) hb); have n1_ := za.mk (Kd.zba (by (with_reducible repeat (first | apply Kd.zn | apply Kd.zo | apply Kd.zq)); exact HO_4.out) hb); have n2_ := za.mk (zg (by repeat (first | (with_reducible first | exact HB.out | apply zc | apply zb | apply zd) | exact HB.out)) hb); clear HO_3; clear HO_4; clear HB; have HO_3 := n0_; have HO_4 := n1_; have HB := n2_; clear n0_ n1_ n2_; (try clear hb); (try clear hb2); (try clear hk); (try clear hi); have p239 : 0 ≤ ((ji16) : Int) := of_decide_eq_true (by assumption); have q239 : (ji16) < (l0.length : Int) := of_decide_eq_true (by assumption); obtain ⟨ad239, e239, hx239_0⟩ := Kd.zfa HR0.out (ji16) p239 q239; cases e239; replace hx239_0 := (HB.out.cell (World.block_lt_of_cell? w _ hx239_0)).trans hx239_0; replace p239 := eq_true p239; replace q239 := eq_true q239) | (go_at_call 37; (with_reducible refine (spec_RuneLine.calls k1 (rd l0 (ji16)) t240 _ A19.out).mono ?_); rintro e w27 ⟨rfl, hb⟩; have n0_ := za.mk (Kd.zba (by (with_reducible repeat (first | apply Kd.zn | apply Kd.zo | apply Kd.zq)); exact HO_3.out) hb); have n1_ := za.mk (Kd.zba (by (with_reducible repeat (first | apply Kd.zn | apply Kd.zo | apply Kd.zq)); exact HO_4.out) hb); have n2_ := za.mk (zg (by repeat (first | (with_reducible first | exact HB.out | apply zc | apply zb | apply zd) | exact HB.out)) hb); clear HO_3; clear HO_4; clear HB; have HO_3 := n0_; have HO_4 := n1_; have HB := n2_; clear n0_ n1_ n2_; (try clear hb); (try clear hb2); (try clear hk); (try clear hi); have p241 : 0 ≤ (x5_1 : Int) := of_decide_eq_true (by assumption); have q241 : x5_1 < (t229.length : Int) := of_decide_eq_true (by assumption); obtain ⟨ad241, e241, hx241_0⟩ := Kd.zfa (Kd.zt HO_3.out).2.2 x5_1 p241 q241; cases e241; replace p241 := eq_true p241; replace q241 := eq_true q241; have p242 : 0 ≤ (x5_1 : Int) := of_decide_eq_true (by assumption); have q242 : x5_1 < (t229.length : Int) := of_decide_eq_true (by assumption); obtain ⟨ad242, e242, hx242_0⟩ := Kd.zfa (Kd.zt HO_3.out).2.2 x5_1 p242 q242; obtain rfl : ad241 = ad242 := (by injection e242); replace p242 := eq_true p242; replace q242 := eq_true q242))
             go_meet
             case rel => exact ⟨_, (false), (by first | rfl | (simp; done) | (simp [*]; done)), (by first | exact H' | (simp only [hji16]; exact H') | (simp only [hji41]; exact H') | (simp only [hji50]; exact H') | (simp only [hji16, hji41, hji50]; exact H')), ⟨by have := HK1.out; first | omega | exact Nat.le_refl _⟩, ⟨by (with_reducible repeat (first | apply Kd.zn | apply Kd.zo | apply Kd.zq)); exact HO_3.out⟩, ⟨by (with_reducible repeat (first | apply Kd.zn | apply Kd.zo | apply Kd.zq)); exact HO_4.out⟩, ⟨by repeat (first | (with_reducible first | exact HB.out | apply zc | apply zb | apply zd) | exact HB.out)⟩⟩
            ·rw [if_neg c25] at H
             have c25b0 : ((rd t229 x5_1) == 4) = false := beq_eq_false_iff_ne.mpr c25
             have c25b1 : ((rd t229 x5_1) != 4) = true := bne_iff_ne.mpr c25
             have H' := za.mk H
             clear H
             go_wp2_with (first | ((with_reducible refine zj (f := 112) rfl ?_); refine goesL_ (some 53) rfl rfl Try.func112 (by kernel_rfl) rfl #[.slice A0 l0.length c0, .int .i64 ji16] rfl (by (try simp only [List.map_toArray, List.map_cons, List.map_nil]); first | done | (simp only [hji16]; rfl) | rfl | (simp only [List.length_drop, List.length_take]; rfl)) ?_; (with_reducible refine (spec_l2Joins.calls k1 _ _ l0 ji16 false _ ?side1 ?side2 A13.out).mono ?_); (case side1 => repeat (first | exact (Kd.zka HR0.out HB.out) | (with_reducible refine Kd.zea ?_ _) | (with_reducible refine Kd.zga ?_ _) | (with_reducible refine Kd.zha ?_))); (case side2 => exact HC0.out); rintro e w28 ⟨rfl, hb⟩; refine ⟨_, rfl, ?_⟩; have n0_ := za.mk (Kd.zba (by (with_reducible repeat (first | apply Kd.zn | apply Kd.zo | apply Kd.zq)); exact HO_3.out) hb); have n1_ := za.mk (Kd.zba (by (with_reducible repeat (first | apply Kd.zn | apply Kd.zo | apply Kd.zq)); exact HO_4.out) hb); have n2_ := za.mk (zg (by repeat (first | (with_reducible first | exact HB.out | apply zc | apply zb | apply zd) | exact HB.out)) hb); clear HO_3; clear HO_4; clear HB; have HO_3 := n0_; have HO_4 := n1_; have HB := n2_; clear n0_ n1_ n2_; (try clear hb); (try clear hb2); (try clear hk); (try clear hi); have p239 : 0 ≤ ((ji16) : Int) := of_decide_eq_true (by assumption); have q239 : (ji16) < (l0.length : Int) := of_decide_eq_true (by assumption); obtain ⟨ad239, e239, hx239_0⟩ := Kd.zfa HR0.out (ji16) p239 q239; cases e239; replace hx239_0 := (HB.out.cell (World.block_lt_of_cell? w _ hx239_0)).trans hx239_0; replace p239 := eq_true p239; replace q239 := eq_true q239) | (go_at_call 37; (with_reducible refine (spec_RuneLine.calls k1 (rd l0 (ji16)) t240 _ A19.out).mono ?_); rintro e w29 ⟨rfl, hb⟩; have n0_ := za.mk (Kd.zba (by (with_reducible repeat (first | apply Kd.zn | apply Kd.zo | apply Kd.zq)); exact HO_3.out) hb); have n1_ := za.mk (Kd.zba (by (with_reducible repeat (first | apply Kd.zn | apply Kd.zo | apply Kd.zq)); exact HO_4.out) hb); have n2_ := za.mk (zg (by repeat (first | (with_reducible first | exact HB.out | apply zc | apply zb | apply zd) | exact HB.out)) hb); clear HO_3; clear HO_4; clear HB; have HO_3 := n0_; have HO_4 := n1_; have HB := n2_; clear n0_ n1_ n2_; (try clear hb); (try clear hb2); (try clear hk); (try clear hi); have p241 : 0 ≤ (x5_1 : Int) := of_decide_eq_true (by assumption); have q241 : x5_1 < (t229.length : Int) := of_decide_eq_true (by assumption); obtain ⟨ad241, e241, hx241_0⟩ := Kd.zfa (Kd.zt HO_3.out).2.2 x5_1 p241 q241; cases e241; replace p241 := eq_true p241; replace q241 := eq_true q241; have p242 : 0 ≤ (x5_1 : Int) := of_decide_eq_true (by assumption); have q242 : x5_1 < (t229.length : Int) := of_decide_eq_true (by assumption); obtain ⟨ad242, e242, hx242_0⟩ := Kd.zfa (Kd.zt HO_3.out).2.2 x5_1 p242 q242; obtain rfl : ad241 = ad242 := (by injection e242); replace p242 := eq_true p242; replace q242 := eq_true q242; have p243 : 0 ≤ (x5_1 : Int) := of_decide_eq_true (by assumption); have q243 : x5_1 < (t229.length : Int) := of_decide_eq_true (by assumption); obtain ⟨ad243, e243, hx243_0⟩ := Kd.zfa (Kd.zt HO_3.out).2.2 x5_1 p243 q243; obtain rfl : ad241 = ad243 := (by injection e243); replace p243 := eq_true p243; replace q243 := eq_true q243))
             go_meet
             case rel => exact ⟨_, (((rd t229 x5_1) != 6)), (by first | rfl | (simp; done) | (simp [*]; done)), (by first | exact H' | (simp only [hji16]; exact H') | (simp only [hji41]; exact H') | (simp only [hji50]; exact H') | (simp only [hji16, hji41, hji50]; exact H')), ⟨by have := HK1.out; first | omega | exact Nat.le_refl _⟩, ⟨by (with_reducible repeat (first | apply Kd.zn | apply Kd.zo | apply Kd.zq)); exact HO_3.out⟩, ⟨by (with_reducible repeat (first | apply Kd.zn | apply Kd.zo | apply Kd.zq)); exact HO_4.out⟩, ⟨by repeat (first | (with_reducible first | exact HB.out | apply zc | apply zb | apply zd) | exact HB.out)⟩⟩
          ·rw [if_neg c21] at H
           exact absurd H (by simp)
         ·rw [if_neg c20] at H
          have c20b0 : (t240 == 7) = false := beq_eq_false_iff_ne.mpr c20
          have c20b1 : (t240 != 7) = true := bne_iff_ne.mpr c20
          have H' := za.mk H
          clear H
          go_wp2_with (first | ((with_reducible refine zj (f := 112) rfl ?_); refine goesL_ (some 53) rfl rfl Try.func112 (by kernel_rfl) rfl #[.slice A0 l0.length c0, .int .i64 ji16] rfl (by (try simp only [List.map_toArray, List.map_cons, List.map_nil]); first | done | (simp only [hji16]; rfl) | rfl | (simp only [List.length_drop, List.length_take]; rfl)) ?_; (with_reducible refine (spec_l2Joins.calls k1 _ _ l0 ji16 false _ ?side1 ?side2 A13.out).mono ?_); (case side1 => repeat (first | exact (Kd.zka HR0.out HB.out) | (with_reducible refine Kd.zea ?_ _) | (with_reducible refine Kd.zga ?_ _) | (with_reducible refine Kd.zha ?_))); (case side2 => exact HC0.out); rintro e w30 ⟨rfl, hb⟩; refine ⟨_, rfl, ?_⟩; have n0_ := za.mk (Kd.zba (by (with_reducible repeat (first | apply Kd.zn | apply Kd.zo | apply Kd.zq)); exact HO_3.out) hb); have n1_ := za.mk (Kd.zba (by (with_reducible repeat (first | apply Kd.zn | apply Kd.zo | apply Kd.zq)); exact HO_4.out) hb); have n2_ := za.mk (zg (by repeat (first | (with_reducible first | exact HB.out | apply zc | apply zb | apply zd) | exact HB.out)) hb); clear HO_3; clear HO_4; clear HB; have HO_3 := n0_; have HO_4 := n1_; have HB := n2_; clear n0_ n1_ n2_; (try clear hb); (try clear hb2); (try clear hk); (try clear hi); have p239 : 0 ≤ ((ji16) : Int) := of_decide_eq_true (by assumption); have q239 : (ji16) < (l0.length : Int) := of_decide_eq_true (by assumption); obtain ⟨ad239, e239, hx239_0⟩ := Kd.zfa HR0.out (ji16) p239 q239; cases e239; replace hx239_0 := (HB.out.cell (World.block_lt_of_cell? w _ hx239_0)).trans hx239_0; replace p239 := eq_true p239; replace q239 := eq_true q239) | (go_at_call 37; (with_reducible refine (spec_RuneLine.calls k1 (rd l0 (ji16)) t240 _ A19.out).mono ?_); rintro e w31 ⟨rfl, hb⟩; have n0_ := za.mk (Kd.zba (by (with_reducible repeat (first | apply Kd.zn | apply Kd.zo | apply Kd.zq)); exact HO_3.out) hb); have n1_ := za.mk (Kd.zba (by (with_reducible repeat (first | apply Kd.zn | apply Kd.zo | apply Kd.zq)); exact HO_4.out) hb); have n2_ := za.mk (zg (by repeat (first | (with_reducible first | exact HB.out | apply zc | apply zb | apply zd) | exact HB.out)) hb); clear HO_3; clear HO_4; clear HB; have HO_3 := n0_; have HO_4 := n1_; have HB := n2_; clear n0_ n1_ n2_; (try clear hb); (try clear hb2); (try clear hk); (try clear hi)))
          go_meet
          case rel => exact ⟨_, (false), (by first | rfl | (simp; done) | (simp [*]; done)), (by first | exact H' | (simp only [hji16]; exact H') | (simp only [hji41]; exact H') | (simp only [hji50]; exact H') | (simp only [hji16, hji41, hji50]; exact H')), ⟨by have := HK1.out; first | omega | exact Nat.le_refl _⟩, ⟨by (with_reducible repeat (first | apply Kd.zn | apply Kd.zo | apply Kd.zq)); exact HO_3.out⟩, ⟨by (with_reducible repeat (first | apply Kd.zn | apply Kd.zo | apply Kd.zq)); exact HO_4.out⟩, ⟨by repeat (first | (with_reducible first | exact HB.out | apply zc | apply zb | apply zd) | exact HB.out)⟩⟩
        ·rw [if_neg c18] at H
         exact absurd H (by simp)
       ·rw [if_neg c17] at H
        exact absurd H (by simp)
     case rest =>
      clear HC11
      try clear c1
      try clear c2
      try clear p2
      try clear q2
      try clear hx2
      try clear c6
      try clear c6b0
      try clear p6
      try clear c7
      try clear c7b0
      try clear c7b1
      try clear c8
      try clear c11
      try clear c14
      try clear c17
      try clear c17b0
      try clear c18
      try clear c18b0
      try clear c20
      try clear c20b0
      try clear c20b1
      try clear c21
      try clear c21b0
      try clear c22
      try clear c22b0
      try clear c22b1
      try clear p23
      try clear q23
      try clear hx23
      try clear p24
      try clear q24
      try clear hx24
      try clear c25
      try clear c25b0
      try clear c25b1
      try clear hx239_0
      try clear hx241_0
      try clear hx242_0
      try clear hx243_0
      try clear p2
      try clear p239
      try clear p241
      try clear p242
      try clear p243
      try clear q239
      try clear q241
      try clear q242
      try clear q243
      obtain ⟨kq, x49_10, rfl, HA, HJ10, HO_3, HO_4, HB⟩ := hcut
      cases kq with
      | zero => exact absurd HA.out (by simp [spec_l5Breaks.j1])
      | succ kj10 =>
       have H := HA.out
       clear HA
       simp only [spec_l5Breaks.j1] at H
       by_cases c32 : x49_10 = true
       ·subst c32
        have H1 : (if x4_1.length < 17592186044416 then (spec_l5Breaks.l0 kj10 l0 t229 (x4_1 ++ [0]) (wrap64 (x5_1 + 1))) else (none)) = some r := by rw [if_pos rfl] at H; exact H
        clear H
        have H := H1
        clear H1
        by_cases c33 : x4_1.length < 17592186044416
        ·rw [if_pos c33] at H
         have LMc33 := za.mk c33
         clear c33
         obtain ⟨y244, hy244⟩ : ∃ y_ : List Int, y_ = (x4_1 ++ [0]) := ⟨_, rfl⟩
         replace H : (spec_l5Breaks.l0 kj10 l0 t229 y244 (wrap64 (x5_1 + 1))) = some r := by first | (rw [hy244]; with_reducible exact H) | (have H2_ := (Option.bind_some _ _).symm.trans H; rw [hy244]; with_reducible exact H2_) | (have H2_ := (Option.bind_some _ _).symm.trans H; with_reducible exact H2_) | with_reducible exact H | (rw [hy244]; exact H) | exact H
         have Ny244 := za.mk hy244
         clear hy244
         have H' := za.mk H
         clear H
         go_wp2_with (first | ((with_reducible refine zra (b := .append) (xs := #[.tmp 84, .tmp 85]) rfl ?_); at_builtin; refine Kd.zza (Kd.int .i64) (w0 := w) w.heap.size rfl (.tmp 84) (.tmp 85) 22 3 (.int .i64 0) 8 rfl Try.underlying22 info3 rfl (by decide) (by omega) u4 x4_1 0 [.int .i64 0] (fun k_ => some k_ ≠ (.slice Ao12 t229.length co12 : Value).ownBlock) (fun _ => False) rfl rfl ?aP (fun _ hk => hk.elim) ?aF ?aO ?aB ?aS ?aL ?_; (case aP => exact rfl); (case aB => exact (by repeat (first | (with_reducible first | exact HB.out | apply zc | apply zb | apply zd) | exact HB.out))); (case aF => exact (fun k_ hk => Kd.fresh' (Kd.R_lt (by (with_reducible repeat (first | apply Kd.zn | apply Kd.zo | apply Kd.zq)); exact HO_3.out)) k_ hk)); (case aO => exact (by (with_reducible repeat (first | apply Kd.zn | apply Kd.zo | apply Kd.zq)); exact HO_4.out)); (case aS => exact (zp (by repeat (first | (with_reducible first | exact HB.out | apply zc | apply zb | apply zd) | exact HB.out)))); (case aL => have := LMc33.out; omega); intro v245 w34 ho hb hg hat; rw [← Ny244.out] at ho; have n0_ := za.mk (Kd.R_after (ok := (fun _ => True)) (by (with_reducible repeat (first | apply Kd.zn | apply Kd.zo | apply Kd.zq)); exact Kd.zib HO_3.out (fun _ hk => ⟨trivial, hk⟩)) hg hat); have n1_ := za.mk (hb); have n2_ := za.mk (ho); clear HO_3; clear HB; clear HO_4; have HO_3 := n0_; have HB := n1_; have HO246 := n2_; clear n0_ n1_ n2_; clear ho hb hg hat))
         go_roundg kj10
         case measure => have := HK1.out; have := HJ10.out; omega
         case rel => exact ⟨(y244), (wrap64 (x5_1 + 1)), (by first | rfl | (simp; done) | (simp [*]; done)), (by first | exact H' | (simp only [hji16]; exact H') | (simp only [hji41]; exact H') | (simp only [hji50]; exact H') | (simp only [hji16, hji41, hji50]; exact H')), ⟨by have := HK1.out; have := HJ10.out; omega⟩, ⟨by (with_reducible repeat (first | apply Kd.zn | apply Kd.zo | apply Kd.zq)); exact Kd.zib HO_3.out (fun _ hk => hk.2)⟩, ⟨by (with_reducible repeat (first | apply Kd.zn | apply Kd.zo | apply Kd.zq)); exact HO246.out⟩, ⟨by repeat (first | (with_reducible first | exact HB.out | apply zc | apply zb | apply zd) | exact HB.out)⟩⟩
        ·rw [if_neg c33] at H
         exact absurd H (by simp)
       ·replace c32 := Bool.eq_false_iff.mpr c32
        subst c32
        have H1 : ((spec_l5Before.f kj10 t229 x5_1).bind fun t247 => (if t247 ≥ 0 then (if 0 ≤ t247 then (if t247 < (t229.length : Int) then (if 0 ≤ x5_1 then (if x5_1 < (t229.length : Int) then (if 0 ≤ (wrap64 (x5_1 + 1)) then (if (wrap64 (x5_1 + 1)) < (t229.length : Int) then ((spec_l5Place.f kj10 (rd t229 x5_1) (rd t229 (wrap64 (x5_1 + 1))) (rd t229 t247)).bind fun t251 => (if x4_1.length < 17592186044416 then (spec_l5Breaks.l0 kj10 l0 t229 (x4_1 ++ [t251]) (wrap64 (x5_1 + 1))) else (none))) else (none)) else (none)) else (none)) else (none)) else (none)) else (none)) else (if 0 ≤ x5_1 then (if x5_1 < (t229.length : Int) then (if 0 ≤ (wrap64 (x5_1 + 1)) then (if (wrap64 (x5_1 + 1)) < (t229.length : Int) then ((spec_l5Place.f kj10 (rd t229 x5_1) (rd t229 (wrap64 (x5_1 + 1))) 0).bind fun t257 => (if x4_1.length < 17592186044416 then (spec_l5Breaks.l0 kj10 l0 t229 (x4_1 ++ [t257]) (wrap64 (x5_1 + 1))) else (none))) else (none)) else (none)) else (none)) else (none)))) = some r := by rw [if_neg (show ¬ (false = true) by decide)] at H; exact H
        clear H
        have H := H1
        clear H1
        replace H := Option.bind_eq_some_iff.mp H
        obtain ⟨t247, A350, H⟩ := H
        replace H : (if t247 ≥ 0 then (if 0 ≤ t247 then (if t247 < (t229.length : Int) then (if 0 ≤ x5_1 then (if x5_1 < (t229.length : Int) then (if 0 ≤ (wrap64 (x5_1 + 1)) then (if (wrap64 (x5_1 + 1)) < (t229.length : Int) then ((spec_l5Place.f kj10 (rd t229 x5_1) (rd t229 (wrap64 (x5_1 + 1))) (rd t229 t247)).bind fun t251 => (if x4_1.length < 17592186044416 then (spec_l5Breaks.l0 kj10 l0 t229 (x4_1 ++ [t251]) (wrap64 (x5_1 + 1))) else (none))) else (none)) else (none)) else (none)) else (none)) else (none)) else (none)) else (if 0 ≤ x5_1 then (if x5_1 < (t229.length : Int) then (if 0 ≤ (wrap64 (x5_1 + 1)) then (if (wrap64 (x5_1 + 1)) < (t229.length : Int) then ((spec_l5Place.f kj10 (rd t229 x5_1) (rd t229 (wrap64 (x5_1 + 1))) 0).bind fun t257 => (if x4_1.length < 17592186044416 then (spec_l5Breaks.l0 kj10 l0 t229 (x4_1 ++ [t257]) (wrap64 (x5_1 + 1))) else (none))) else (none)) else (none)) else (none)) else (none))) = some r := H
        have A35 := za.mk A350
        clear A350
        by_cases c36 : t247 ≥ 0
        ·rw [if_pos c36] at H
         have c36b0 : decide (0 ≤ t247) = true := decide_eq_true c36
         clear c36
         by_cases c37 : 0 ≤ t247
         ·rw [if_pos c37] at H
          have c37b0 : decide (0 ≤ t247) = true := decide_eq_true c37
          clear c37
          by_cases c38 : t247 < (t229.length : Int)
          ·rw [if_pos c38] at H
           have c38b0 : decide (t247 < (t229.length : Int)) = true := decide_eq_true c38
           clear c38
           by_cases c39 : 0 ≤ x5_1
           ·rw [if_pos c39] at H
            have c39b0 : decide (0 ≤ x5_1) = true := decide_eq_true c39
            clear c39
            by_cases c40 : x5_1 < (t229.length : Int)
            ·rw [if_pos c40] at H
             have c40b0 : decide (x5_1 < (t229.length : Int)) = true := decide_eq_true c40
             clear c40
             obtain ⟨ji41, hji41⟩ : ∃ j_ : Int, (wrap64 (x5_1 + 1)) = j_ := ⟨_, rfl⟩
             replace H : (if 0 ≤ (ji41) then (if (ji41) < (t229.length : Int) then ((spec_l5Place.f kj10 (rd t229 x5_1) (rd t229 (ji41)) (rd t229 t247)).bind fun t251 => (if x4_1.length < 17592186044416 then (spec_l5Breaks.l0 kj10 l0 t229 (x4_1 ++ [t251]) ji41) else (none))) else (none)) else (none)) = some r := by first | (rw [hji41] at H; exact H) | (simp only [hji41] at H ⊢; exact H)
             (try rw [hji41] at c7b0)
             (try rw [hji41] at c7b1)
             (try rw [hji41] at A35)
             have hji41w : (IntKind.i64.wrap (x5_1 + 1)) = ji41 := (zr _).trans hji41
             by_cases c42 : 0 ≤ (ji41)
             ·rw [if_pos c42] at H
              have c42b0 : decide (0 ≤ (ji41)) = true := decide_eq_true c42
              clear c42
              by_cases c43 : (ji41) < (t229.length : Int)
              ·rw [if_pos c43] at H
               have c43b0 : decide ((ji41) < (t229.length : Int)) = true := decide_eq_true c43
               clear c43
               replace H := Option.bind_eq_some_iff.mp H
               obtain ⟨t251, A440, H⟩ := H
               replace H : (if x4_1.length < 17592186044416 then (spec_l5Breaks.l0 kj10 l0 t229 (x4_1 ++ [t251]) ji41) else (none)) = some r := H
               have A44 := za.mk A440
               clear A440
               by_cases c45 : x4_1.length < 17592186044416
               ·rw [if_pos c45] at H
                have LMc45 := za.mk c45
                clear c45
                obtain ⟨y252, hy252⟩ : ∃ y_ : List Int, y_ = (x4_1 ++ [t251]) := ⟨_, rfl⟩
                replace H : (spec_l5Breaks.l0 kj10 l0 t229 y252 ji41) = some r := by first | (rw [hy252]; with_reducible exact H) | (have H2_ := (Option.bind_some _ _).symm.trans H; rw [hy252]; with_reducible exact H2_) | (have H2_ := (Option.bind_some _ _).symm.trans H; with_reducible exact H2_) | with_reducible exact H | (rw [hy252]; exact H) | exact H
                have Ny252 := za.mk hy252
                clear hy252
                have H' := za.mk H
                clear H
                try go_wp2_with (first | ((with_reducible refine zj (f := 113) rfl ?_); refine zgo (some 19) Try.func113 #[.slice Ao12 t229.length co12, .int .i64 x5_1] rfl ?_; (with_reducible refine (spec_l5Before.calls kj10 _ _ t229 x5_1 t247 _ ?side1 ?side2 A35.out).mono ?_); (case side1 => repeat (first | exact (Kd.zt HO_3.out).2.2 | (with_reducible refine Kd.zea ?_ _) | (with_reducible refine Kd.zga ?_ _) | (with_reducible refine Kd.zha ?_))); (case side2 => exact (Kd.zt HO_3.out).2.1); rintro e w' ⟨rfl, ⟨nd, rfl⟩⟩; refine ⟨_, rfl, ?_⟩; have p248 : 0 ≤ (t247 : Int) := of_decide_eq_true (by assumption); have q248 : t247 < (t229.length : Int) := of_decide_eq_true (by assumption); obtain ⟨ad248, e248, hx248_0⟩ := Kd.zfa (Kd.zt HO_3.out).2.2 t247 p248 q248; cases e248; replace p248 := eq_true p248; replace q248 := eq_true q248))
                (try (rw [drewN_self wc]; generalize hq_ : World.drewN wc _ = wc; have n0_ : za (Kd.R (Kd.int .i64) 3 wc w.heap.size (fun k_ => some k_ ≠ (u4 : Value).ownBlock) (.slice (some ad248) t229.length co12) t229) := ⟨by rw [← hq_]; exact (by (with_reducible repeat (first | apply Kd.zn | apply Kd.zo | apply Kd.zq)); exact HO_3.out)⟩; have n1_ : za (Kd.R (Kd.int .i64) 3 wc w.heap.size (fun k_ => some k_ ≠ (.slice (some ad248) t229.length co12 : Value).ownBlock) u4 x4_1) := ⟨by rw [← hq_]; exact (by (with_reducible repeat (first | apply Kd.zn | apply Kd.zo | apply Kd.zq)); exact HO_4.out)⟩; have n2_ : za (Below w.heap.size w wc) := ⟨by rw [← hq_]; exact (by repeat (first | (with_reducible first | exact HB.out | apply zc | apply zb | apply zd) | exact HB.out))⟩; clear HO_3 HO_4 HB hq_; have HO_3 := n0_; have HO_4 := n1_; have HB := n2_; clear n0_ n1_ n2_))
                have n0_ := za.mk (Kd.zq HO_3.out)
                have n1_ := za.mk (Kd.zq HO_4.out)
                have n2_ := za.mk (zd HB.out)
                clear HO_3
                clear HO_4
                clear HB
                have HO_3 := n0_
                have HO_4 := n1_
                have HB := n2_
                clear n0_ n1_ n2_
                have p249 : 0 ≤ (x5_1 : Int) := of_decide_eq_true (by assumption)
                have q249 : x5_1 < (t229.length : Int) := of_decide_eq_true (by assumption)
                obtain ⟨ad249, e249, hx249_0⟩ := Kd.zfa (Kd.zt HO_3.out).2.2 x5_1 p249 q249
                obtain rfl : ad248 = ad249 := (by injection e249)
                replace p249 := eq_true p249
                replace q249 := eq_true q249
                have p250 : 0 ≤ ((ji41) : Int) := of_decide_eq_true (by assumption)
                have q250 : (ji41) < (t229.length : Int) := of_decide_eq_true (by assumption)
                obtain ⟨ad250, e250, hx250_0⟩ := Kd.zfa (Kd.zt HO_3.out).2.2 (ji41) p250 q250
                obtain rfl : ad248 = ad250 := (by injection e250)
                replace p250 := eq_true p250
                replace q250 := eq_true q250
                refine start_ (n := 15) (S := fun w' => w'.cell? (ad248.add (x5_1).toNat) = some (.int .i64 (rd t229 x5_1)) ∧ w'.cell? (ad248.add ((ji41)).toNat) = some (.int .i64 (rd t229 (ji41)))) (ds := [12, 13]) #[F_,F_,F_,F_,F_,F_,F_,F_,F_,F_,F_,F_,F_,F_,F_] (by kernel_rfl) rfl rfl ⟨hx249_0, hx250_0⟩ (fun hHeld => ?_); refine zwb spec_l5Breaks.tab10 spec_l5Breaks.bits10 (fun HT_ HW_ => ?_)
                generalize wc.drew = w46 at HO_3 HO_4 HB hx249_0 hx250_0 hHeld ⊢
                refine zz (i := 0) (N := some 26) (v := ?_) (a' := ?_) #[T_,F_,F_,F_,F_,F_,F_,F_,F_,F_,F_,F_,F_,F_,F_] rfl rfl (zv HT_.out (by kernel_rfl)) (fun _ _ _ h => h) (Or.inl ⟨by rfl, ?_⟩) ?_ ?_
                rotate_left
                ·intro w'
                 go_simp
                 with_reducible rfl
                rotate_left
                ·simp only [zpa,zpb,zpc,zpd,zpe,zr,zs]
                 rfl
                refine zz (i := 1) (N := some 27) (v := ?_) (a' := ?_) #[T_,T_,F_,F_,F_,F_,F_,F_,F_,F_,F_,F_,F_,F_,F_] rfl rfl (zv HT_.out (by kernel_rfl)) (fun _ _ _ h => h) (Or.inl ⟨by rfl, ?_⟩) ?_ ?_
                rotate_left
                ·intro w'
                 go_simp
                 with_reducible rfl
                rotate_left
                ·simp only [zpa,zpb,zpc,zpd,zpe,zr,zs]
                 rfl
                refine zz (i := 2) (N := some 28) (v := ?_) (a' := ?_) #[T_,T_,T_,F_,F_,F_,F_,F_,F_,F_,F_,F_,F_,F_,F_] rfl rfl (zv HT_.out (by kernel_rfl)) (fun _ _ _ h => h) (Or.inl ⟨by rfl, ?_⟩) ?_ ?_
                rotate_left
                ·intro w'
                 go_simp
                 with_reducible rfl
                rotate_left
                ·simp only [zpa,zpb,zpc,zpd,zpe,zr,zs]
                 rfl
                refine zz (i := 3) (N := some 29) (v := ?_) (a' := ?_) #[T_,T_,T_,T_,F_,F_,F_,F_,F_,F_,F_,F_,F_,F_,F_] rfl rfl (zv HT_.out (by kernel_rfl)) (fun _ _ _ h => h) (Or.inl ⟨by rfl, ?_⟩) ?_ ?_
                rotate_left
                ·intro w'
                 go_simp
                 with_reducible rfl
                rotate_left
                ·simp only [zpa,zpb,zpc,zpd,zpe,zr,zs]
                 rfl
                refine zz (i := 5) (N := some 31) (v := ?_) (a' := ?_) #[T_,T_,T_,T_,F_,T_,F_,F_,F_,F_,F_,F_,F_,F_,F_] rfl rfl (zv HT_.out (by kernel_rfl)) (fun _ _ _ h => h) (Or.inl ⟨by rfl, ?_⟩) ?_ ?_
                rotate_left
                ·intro w'
                 go_simp
                 with_reducible rfl
                rotate_left
                ·simp only [zpa,zpb,zpc,zpd,zpe,zr,zs]
                 rfl
                refine zz (i := 6) (N := some 32) (v := ?_) (a' := ?_) #[T_,T_,T_,T_,F_,T_,T_,F_,F_,F_,F_,F_,F_,F_,F_] rfl rfl (zv HT_.out (by kernel_rfl)) (fun _ _ _ h => h) (Or.inl ⟨by rfl, ?_⟩) ?_ ?_
                rotate_left
                ·intro w'
                 go_simp
                 with_reducible rfl
                rotate_left
                ·simp only [zpa,zpb,zpc,zpd,zpe,zr,zs]
                 rfl
                refine zz (i := 7) (N := some 33) (v := ?_) (a' := ?_) #[T_,T_,T_,T_,F_,T_,T_,T_,F_,F_,F_,F_,F_,F_,F_] rfl rfl (zv HT_.out (by kernel_rfl)) (fun _ _ _ h => h) (Or.inl ⟨by rfl, ?_⟩) ?_ ?_
                rotate_left
                ·intro w'
                 go_simp
                 with_reducible rfl
                rotate_left
                ·simp only [zpa,zpb,zpc,zpd,zpe,zr,zs]
                 rfl
                refine zz (i := 8) (N := some 34) (v := ?_) (a' := ?_) #[T_,T_,T_,T_,F_,T_,T_,T_,T_,F_,F_,F_,F_,F_,F_] rfl rfl (zv HT_.out (by kernel_rfl)) (fun _ _ _ h => h) (Or.inl ⟨by rfl, ?_⟩) ?_ ?_
                rotate_left
                ·intro w'
                 go_simp
                 with_reducible rfl
                rotate_left
                ·simp only [zpa,zpb,zpc,zpd,zpe,zr,zs]
                 rfl
                refine zz (i := 10) (N := some 36) (v := ?_) (a' := ?_) #[T_,T_,T_,T_,F_,T_,T_,T_,T_,F_,T_,F_,F_,F_,F_] rfl rfl (zv HT_.out (by kernel_rfl)) (fun _ _ _ h => h) (Or.inl ⟨by rfl, ?_⟩) ?_ ?_
                rotate_left
                ·intro w'
                 go_simp
                 with_reducible rfl
                rotate_left
                ·simp only [zpa,zpb,zpc,zpd,zpe,zr,zs]
                 rfl
                refine zob (i := 4) (N := some 30) (v := ?_) (a' := ?_) #[T_,T_,T_,T_,T_,T_,T_,T_,T_,F_,T_,F_,F_,F_,F_] rfl rfl (zab HT_.out HW_.out (by kernel_rfl)) (fun _ _ _ h => h) (Or.inl ⟨by rfl, ?_⟩) hHeld ?_ ?_
                rotate_left
                ·rintro w' ⟨s0, s1⟩
                 go_simp
                 with_reducible rfl
                rotate_left
                ·simp only [zpa,zpb,zpc,zpd,zpe,zr,zs]
                 rfl
                refine zob (i := 9) (N := some 35) (v := ?_) (a' := ?_) #[T_,T_,T_,T_,T_,T_,T_,T_,T_,T_,T_,F_,F_,F_,F_] rfl rfl (zab HT_.out HW_.out (by kernel_rfl)) (fun _ _ _ h => h) (Or.inl ⟨by rfl, ?_⟩) hHeld ?_ ?_
                rotate_left
                ·rintro w' ⟨s0, s1⟩
                 go_simp
                 with_reducible rfl
                rotate_left
                ·simp only [zpa,zpb,zpc,zpd,zpe,zr,zs]
                 rfl
                refine one_ (i := 11) (N := some 37) #[T_,T_,T_,T_,T_,T_,T_,T_,T_,T_,T_,T_,F_,F_,F_] rfl rfl (zzb HT_.out (by kernel_rfl)) (by decide) (fun K hK => ?_)
                refine goes_ Try.func114 (by kernel_rfl) rfl #[.int .i64 (rd t229 x5_1), .int .i64 (rd t229 (ji41)), .int .i64 (rd t229 t247)] (by rfl) rfl rfl (by (try simp only [List.map_toArray, List.map_cons, List.map_nil]); first | done | (simp only [hji41]; rfl) | rfl | (simp only [List.length_drop, List.length_take]; rfl)) ?_
                with_reducible refine (spec_l5Place.calls kj10 (rd t229 x5_1) (rd t229 (ji41)) (rd t229 t247) t251 _ A44.out).mono ?_
                rintro e w' ⟨rfl, ⟨nd, rfl⟩⟩
                refine ⟨_, rfl, ?_⟩
                refine hK.out _ _ ⟨hHeld.1, hHeld.2⟩ (fun hHeld => ?_)
                clear hK K
                refine norm_ (a' := ?_) ?_ ?_
                rotate_left
                ·show Act.put _ (some 37) _ = _
                 simp only [zpa,zpb,zpc,zpd,zpe,zr,zs]
                 rfl
                refine last_ (i := 12) (N := some 38) #[T_,T_,T_,T_,T_,T_,T_,T_,T_,T_,T_,T_,T_,F_,F_] rfl rfl (zzb HT_.out (by kernel_rfl)) (by decide) (fun K hK => ?_)
                refine value_ (w1 := ?_) (v := ?_) (by rfl) rfl ?_ ?_
                rotate_left 2
                ·go_simp
                 constructor
                 ·rfl
                 ·rfl
                refine hK.out _ _ ?_
                clear hK K
                refine norm_ (a' := ?_) ?_ ?_
                rotate_left
                ·show Act.put _ (some 38) _ = _
                 simp only [zpa,zpb,zpc,zpd,zpe,zr,zs]
                 rfl
                refine last_ (i := 13) (N := some 39) #[T_,T_,T_,T_,T_,T_,T_,T_,T_,T_,T_,T_,T_,T_,F_] rfl rfl (zzb HT_.out (by kernel_rfl)) (by decide) (fun K hK => ?_)
                refine Kd.R_append_step (Kd.int .i64) (w0 := w) w.heap.size (by rfl) (.tmp 26) (.tmp 38) 22 3 (.int .i64 0) 8 rfl Try.underlying22 info3 rfl (by decide) (by omega) u4 x4_1 t251 [.int .i64 t251] (fun k_ => some k_ ≠ (.slice (some ad248) t229.length co12 : Value).ownBlock) (fun _ => False) rfl rfl ?aP (fun _ hk => hk.elim) ?aF ?aO ?aB ?aS ?aL ?_
                (case aP => exact rfl)
                (case aB => exact (by repeat (first | (with_reducible first | exact HB.out | apply zc | apply zb | apply zd) | exact HB.out)))
                (case aF => exact (fun k_ hk => Kd.fresh' (Kd.R_lt (by (with_reducible repeat (first | apply Kd.zn | apply Kd.zo | apply Kd.zq)); exact HO_3.out)) k_ hk))
                (case aO => exact (by (with_reducible repeat (first | apply Kd.zn | apply Kd.zo | apply Kd.zq)); exact HO_4.out))
                (case aS => exact (zp (by repeat (first | (with_reducible first | exact HB.out | apply zc | apply zb | apply zd) | exact HB.out))))
                (case aL => have := LMc45.out; omega)
                intro v253 w47 ho hb hg hat
                rw [← Ny252.out] at ho
                have n0_ := za.mk (Kd.R_after (ok := (fun _ => True)) (by (with_reducible repeat (first | apply Kd.zn | apply Kd.zo | apply Kd.zq)); exact Kd.zib HO_3.out (fun _ hk => ⟨trivial, hk⟩)) hg hat)
                have n1_ := za.mk (hb)
                have n2_ := za.mk (ho)
                clear HO_3
                clear HB
                clear HO_4
                have HO_3 := n0_
                have HB := n1_
                have HO254 := n2_
                clear n0_ n1_ n2_
                clear ho hb hg hat
                refine hK.out _ _ ?_
                clear hK K
                refine norm_ (a' := ?_) ?_ ?_
                rotate_left
                ·show Act.put _ (some 39) _ = _
                 simp only [zpa,zpb,zpc,zpd,zpe,zr,zs]
                 rfl
                refine zz (i := 14) (N := some 4) (v := ?_) (a' := ?_) #[T_,T_,T_,T_,T_,T_,T_,T_,T_,T_,T_,T_,T_,T_,T_] rfl rfl (zv HT_.out (by kernel_rfl)) (fun _ _ _ h => h) (Or.inl ⟨by rfl, ?_⟩) ?_ ?_
                rotate_left
                ·intro w'
                 go_simp
                 with_reducible rfl
                rotate_left
                ·simp only [zpa,zpb,zpc,zpd,zpe,zr,zs]
                 rfl
                refine done_ (zbc HT_.out (by kernel_rfl)) ?_
                try go_wp2
                go_roundg kj10
                case measure => have := HK1.out; have := HJ10.out; omega
                case rel => exact ⟨(y252), (ji41), (by first | rfl | (simp; done) | (simp only [← hji41] <;> (first | rfl | simp)) | (simp [*]; done)), (by first | exact H' | (simp only [hji16]; exact H') | (simp only [hji41]; exact H') | (simp only [hji50]; exact H') | (simp only [hji16, hji41, hji50]; exact H')), ⟨by have := HK1.out; have := HJ10.out; omega⟩, ⟨by (with_reducible repeat (first | apply Kd.zn | apply Kd.zo | apply Kd.zq)); exact Kd.zib HO_3.out (fun _ hk => hk.2)⟩, ⟨by (with_reducible repeat (first | apply Kd.zn | apply Kd.zo | apply Kd.zq)); exact HO254.out⟩, ⟨by repeat (first | (with_reducible first | exact HB.out | apply zc | apply zb | apply zd) | exact HB.out)⟩⟩
               ·rw [if_neg c45] at H
                exact absurd H (by simp)
              ·rw [if_neg c43] at H
               exact absurd H (by simp)
             ·rw [if_neg c42] at H
              exact absurd H (by simp)
            ·rw [if_neg c40] at H
             exact absurd H (by simp)
           ·rw [if_neg c39] at H
            exact absurd H (by simp)
          ·rw [if_neg c38] at H
           exact absurd H (by simp)
         ·rw [if_neg c37] at H
          exact absurd H (by simp)
        ·rw [if_neg c36] at H
         have c36b0 : decide (0 ≤ t247) = false := decide_eq_false c36
         clear c36
         by_cases c48 : 0 ≤ x5_1
         ·rw [if_pos c48] at H
          have c48b0 : decide (0 ≤ x5_1) = true := decide_eq_true c48
          clear c48
          by_cases c49 : x5_1 < (t229.length : Int)
          ·rw [if_pos c49] at H
           have c49b0 : decide (x5_1 < (t229.length : Int)) = true := decide_eq_true c49
           clear c49
           obtain ⟨ji50, hji50⟩ : ∃ j_ : Int, (wrap64 (x5_1 + 1)) = j_ := ⟨_, rfl⟩
           replace H : (if 0 ≤ (ji50) then (if (ji50) < (t229.length : Int) then ((spec_l5Place.f kj10 (rd t229 x5_1) (rd t229 (ji50)) 0).bind fun t257 => (if x4_1.length < 17592186044416 then (spec_l5Breaks.l0 kj10 l0 t229 (x4_1 ++ [t257]) ji50) else (none))) else (none)) else (none)) = some r := by first | (rw [hji50] at H; exact H) | (simp only [hji50] at H ⊢; exact H)
           (try rw [hji50] at c7b0)
           (try rw [hji50] at c7b1)
           (try rw [hji50] at A35)
           have hji50w : (IntKind.i64.wrap (x5_1 + 1)) = ji50 := (zr _).trans hji50
           by_cases c51 : 0 ≤ (ji50)
           ·rw [if_pos c51] at H
            have c51b0 : decide (0 ≤ (ji50)) = true := decide_eq_true c51
            clear c51
            by_cases c52 : (ji50) < (t229.length : Int)
            ·rw [if_pos c52] at H
             have c52b0 : decide ((ji50) < (t229.length : Int)) = true := decide_eq_true c52
             clear c52
             replace H := Option.bind_eq_some_iff.mp H
             obtain ⟨t257, A530, H⟩ := H
             replace H : (if x4_1.length < 17592186044416 then (spec_l5Breaks.l0 kj10 l0 t229 (x4_1 ++ [t257]) ji50) else (none)) = some r := H
             have A53 := za.mk A530
             clear A530
             by_cases c54 : x4_1.length < 17592186044416
             ·rw [if_pos c54] at H
              have LMc54 := za.mk c54
              clear c54
              obtain ⟨y258, hy258⟩ : ∃ y_ : List Int, y_ = (x4_1 ++ [t257]) := ⟨_, rfl⟩
              replace H : (spec_l5Breaks.l0 kj10 l0 t229 y258 ji50) = some r := by first | (rw [hy258]; with_reducible exact H) | (have H2_ := (Option.bind_some _ _).symm.trans H; rw [hy258]; with_reducible exact H2_) | (have H2_ := (Option.bind_some _ _).symm.trans H; with_reducible exact H2_) | with_reducible exact H | (rw [hy258]; exact H) | exact H
              have Ny258 := za.mk hy258
              clear hy258
              have H' := za.mk H
              clear H
              try go_wp2_with (first | ((with_reducible refine zj (f := 113) rfl ?_); refine zgo (some 19) Try.func113 #[.slice Ao12 t229.length co12, .int .i64 x5_1] rfl ?_; (with_reducible refine (spec_l5Before.calls kj10 _ _ t229 x5_1 t247 _ ?side1 ?side2 A35.out).mono ?_); (case side1 => repeat (first | exact (Kd.zt HO_3.out).2.2 | (with_reducible refine Kd.zea ?_ _) | (with_reducible refine Kd.zga ?_ _) | (with_reducible refine Kd.zha ?_))); (case side2 => exact (Kd.zt HO_3.out).2.1); rintro e w' ⟨rfl, ⟨nd, rfl⟩⟩; refine ⟨_, rfl, ?_⟩))
              (try (rw [drewN_self wc]; generalize hq_ : World.drewN wc _ = wc; have n0_ : za (Kd.R (Kd.int .i64) 3 wc w.heap.size (fun k_ => some k_ ≠ (u4 : Value).ownBlock) (.slice Ao12 t229.length co12) t229) := ⟨by rw [← hq_]; exact (by (with_reducible repeat (first | apply Kd.zn | apply Kd.zo | apply Kd.zq)); exact HO_3.out)⟩; have n1_ : za (Kd.R (Kd.int .i64) 3 wc w.heap.size (fun k_ => some k_ ≠ (.slice Ao12 t229.length co12 : Value).ownBlock) u4 x4_1) := ⟨by rw [← hq_]; exact (by (with_reducible repeat (first | apply Kd.zn | apply Kd.zo | apply Kd.zq)); exact HO_4.out)⟩; have n2_ : za (Below w.heap.size w wc) := ⟨by rw [← hq_]; exact (by repeat (first | (with_reducible first | exact HB.out | apply zc | apply zb | apply zd) | exact HB.out))⟩; clear HO_3 HO_4 HB hq_; have HO_3 := n0_; have HO_4 := n1_; have HB := n2_; clear n0_ n1_ n2_))
              have n0_ := za.mk (Kd.zq HO_3.out)
              have n1_ := za.mk (Kd.zq HO_4.out)
              have n2_ := za.mk (zd HB.out)
              clear HO_3
              clear HO_4
              clear HB
              have HO_3 := n0_
              have HO_4 := n1_
              have HB := n2_
              clear n0_ n1_ n2_
              have p255 : 0 ≤ (x5_1 : Int) := of_decide_eq_true (by assumption)
              have q255 : x5_1 < (t229.length : Int) := of_decide_eq_true (by assumption)
              obtain ⟨ad255, e255, hx255_0⟩ := Kd.zfa (Kd.zt HO_3.out).2.2 x5_1 p255 q255
              cases e255
              replace p255 := eq_true p255
              replace q255 := eq_true q255
              have p256 : 0 ≤ ((ji50) : Int) := of_decide_eq_true (by assumption)
              have q256 : (ji50) < (t229.length : Int) := of_decide_eq_true (by assumption)
              obtain ⟨ad256, e256, hx256_0⟩ := Kd.zfa (Kd.zt HO_3.out).2.2 (ji50) p256 q256
              obtain rfl : ad255 = ad256 := (by injection e256)
              replace p256 := eq_true p256
              replace q256 := eq_true q256
              refine start_ (n := 15) (S := fun w' => w'.cell? (ad255.add (x5_1).toNat) = some (.int .i64 (rd t229 x5_1)) ∧ w'.cell? (ad255.add ((ji50)).toNat) = some (.int .i64 (rd t229 (ji50)))) (ds := [12, 13]) #[F_,F_,F_,F_,F_,F_,F_,F_,F_,F_,F_,F_,F_,F_,F_] (by kernel_rfl) rfl rfl ⟨hx255_0, hx256_0⟩ (fun hHeld => ?_); refine zwb spec_l5Breaks.tab10 spec_l5Breaks.bits10 (fun HT_ HW_ => ?_)
              generalize wc.drew = w55 at HO_3 HO_4 HB hx255_0 hx256_0 hHeld ⊢
              refine zz (i := 0) (N := some 26) (v := ?_) (a' := ?_) #[T_,F_,F_,F_,F_,F_,F_,F_,F_,F_,F_,F_,F_,F_,F_] rfl rfl (zv HT_.out (by kernel_rfl)) (fun _ _ _ h => h) (Or.inl ⟨by rfl, ?_⟩) ?_ ?_
              rotate_left
              ·intro w'
               go_simp
               with_reducible rfl
              rotate_left
              ·simp only [zpa,zpb,zpc,zpd,zpe,zr,zs]
               rfl
              refine zz (i := 1) (N := some 27) (v := ?_) (a' := ?_) #[T_,T_,F_,F_,F_,F_,F_,F_,F_,F_,F_,F_,F_,F_,F_] rfl rfl (zv HT_.out (by kernel_rfl)) (fun _ _ _ h => h) (Or.inl ⟨by rfl, ?_⟩) ?_ ?_
              rotate_left
              ·intro w'
               go_simp
               with_reducible rfl
              rotate_left
              ·simp only [zpa,zpb,zpc,zpd,zpe,zr,zs]
               rfl
              refine zz (i := 2) (N := some 28) (v := ?_) (a' := ?_) #[T_,T_,T_,F_,F_,F_,F_,F_,F_,F_,F_,F_,F_,F_,F_] rfl rfl (zv HT_.out (by kernel_rfl)) (fun _ _ _ h => h) (Or.inl ⟨by rfl, ?_⟩) ?_ ?_
              rotate_left
              ·intro w'
               go_simp
               with_reducible rfl
              rotate_left
              ·simp only [zpa,zpb,zpc,zpd,zpe,zr,zs]
               rfl
              refine zz (i := 3) (N := some 29) (v := ?_) (a' := ?_) #[T_,T_,T_,T_,F_,F_,F_,F_,F_,F_,F_,F_,F_,F_,F_] rfl rfl (zv HT_.out (by kernel_rfl)) (fun _ _ _ h => h) (Or.inl ⟨by rfl, ?_⟩) ?_ ?_
              rotate_left
              ·intro w'
               go_simp
               with_reducible rfl
              rotate_left
              ·simp only [zpa,zpb,zpc,zpd,zpe,zr,zs]
               rfl
              refine zz (i := 5) (N := some 31) (v := ?_) (a' := ?_) #[T_,T_,T_,T_,F_,T_,F_,F_,F_,F_,F_,F_,F_,F_,F_] rfl rfl (zv HT_.out (by kernel_rfl)) (fun _ _ _ h => h) (Or.inl ⟨by rfl, ?_⟩) ?_ ?_
              rotate_left
              ·intro w'
               go_simp
               with_reducible rfl
              rotate_left
              ·simp only [zpa,zpb,zpc,zpd,zpe,zr,zs]
               rfl
              refine zz (i := 6) (N := some 32) (v := ?_) (a' := ?_) #[T_,T_,T_,T_,F_,T_,T_,F_,F_,F_,F_,F_,F_,F_,F_] rfl rfl (zv HT_.out (by kernel_rfl)) (fun _ _ _ h => h) (Or.inl ⟨by rfl, ?_⟩) ?_ ?_
              rotate_left
              ·intro w'
               go_simp
               with_reducible rfl
              rotate_left
              ·simp only [zpa,zpb,zpc,zpd,zpe,zr,zs]
               rfl
              refine zz (i := 7) (N := some 33) (v := ?_) (a' := ?_) #[T_,T_,T_,T_,F_,T_,T_,T_,F_,F_,F_,F_,F_,F_,F_] rfl rfl (zv HT_.out (by kernel_rfl)) (fun _ _ _ h => h) (Or.inl ⟨by rfl, ?_⟩) ?_ ?_
              rotate_left
              ·intro w'
               go_simp
               with_reducible rfl
              rotate_left
              ·simp only [zpa,zpb,zpc,zpd,zpe,zr,zs]
               rfl
              refine zz (i := 8) (N := some 34) (v := ?_) (a' := ?_) #[T_,T_,T_,T_,F_,T_,T_,T_,T_,F_,F_,F_,F_,F_,F_] rfl rfl (zv HT_.out (by kernel_rfl)) (fun _ _ _ h => h) (Or.inl ⟨by rfl, ?_⟩) ?_ ?_
              rotate_left
              ·intro w'
               go_simp
               with_reducible rfl
              rotate_left
              ·simp only [zpa,zpb,zpc,zpd,zpe,zr,zs]
               rfl
              refine zz (i := 10) (N := some 36) (v := ?_) (a' := ?_) #[T_,T_,T_,T_,F_,T_,T_,T_,T_,F_,T_,F_,F_,F_,F_] rfl rfl (zv HT_.out (by kernel_rfl)) (fun _ _ _ h => h) (Or.inl ⟨by rfl, ?_⟩) ?_ ?_
              rotate_left
              ·intro w'
               go_simp
               with_reducible rfl
              rotate_left
              ·simp only [zpa,zpb,zpc,zpd,zpe,zr,zs]
               rfl
              refine zob (i := 4) (N := some 30) (v := ?_) (a' := ?_) #[T_,T_,T_,T_,T_,T_,T_,T_,T_,F_,T_,F_,F_,F_,F_] rfl rfl (zab HT_.out HW_.out (by kernel_rfl)) (fun _ _ _ h => h) (Or.inl ⟨by rfl, ?_⟩) hHeld ?_ ?_
              rotate_left
              ·rintro w' ⟨s0, s1⟩
               go_simp
               with_reducible rfl
              rotate_left
              ·simp only [zpa,zpb,zpc,zpd,zpe,zr,zs]
               rfl
              refine zob (i := 9) (N := some 35) (v := ?_) (a' := ?_) #[T_,T_,T_,T_,T_,T_,T_,T_,T_,T_,T_,F_,F_,F_,F_] rfl rfl (zab HT_.out HW_.out (by kernel_rfl)) (fun _ _ _ h => h) (Or.inl ⟨by rfl, ?_⟩) hHeld ?_ ?_
              rotate_left
              ·rintro w' ⟨s0, s1⟩
               go_simp
               with_reducible rfl
              rotate_left
              ·simp only [zpa,zpb,zpc,zpd,zpe,zr,zs]
               rfl
              refine one_ (i := 11) (N := some 37) #[T_,T_,T_,T_,T_,T_,T_,T_,T_,T_,T_,T_,F_,F_,F_] rfl rfl (zzb HT_.out (by kernel_rfl)) (by decide) (fun K hK => ?_)
              refine goes_ Try.func114 (by kernel_rfl) rfl #[.int .i64 (rd t229 x5_1), .int .i64 (rd t229 (ji50)), .int .i64 0] (by rfl) rfl rfl (by (try simp only [List.map_toArray, List.map_cons, List.map_nil]); first | done | (simp only [hji50]; rfl) | rfl | (simp only [List.length_drop, List.length_take]; rfl)) ?_
              with_reducible refine (spec_l5Place.calls kj10 (rd t229 x5_1) (rd t229 (ji50)) 0 t257 _ A53.out).mono ?_
              rintro e w' ⟨rfl, ⟨nd, rfl⟩⟩
              refine ⟨_, rfl, ?_⟩
              refine hK.out _ _ ⟨hHeld.1, hHeld.2⟩ (fun hHeld => ?_)
              clear hK K
              refine norm_ (a' := ?_) ?_ ?_
              rotate_left
              ·show Act.put _ (some 37) _ = _
               simp only [zpa,zpb,zpc,zpd,zpe,zr,zs]
               rfl
              refine last_ (i := 12) (N := some 38) #[T_,T_,T_,T_,T_,T_,T_,T_,T_,T_,T_,T_,T_,F_,F_] rfl rfl (zzb HT_.out (by kernel_rfl)) (by decide) (fun K hK => ?_)
              refine value_ (w1 := ?_) (v := ?_) (by rfl) rfl ?_ ?_
              rotate_left 2
              ·go_simp
               constructor
               ·rfl
               ·rfl
              refine hK.out _ _ ?_
              clear hK K
              refine norm_ (a' := ?_) ?_ ?_
              rotate_left
              ·show Act.put _ (some 38) _ = _
               simp only [zpa,zpb,zpc,zpd,zpe,zr,zs]
               rfl
              refine last_ (i := 13) (N := some 39) #[T_,T_,T_,T_,T_,T_,T_,T_,T_,T_,T_,T_,T_,T_,F_] rfl rfl (zzb HT_.out (by kernel_rfl)) (by decide) (fun K hK => ?_)
              refine Kd.R_append_step (Kd.int .i64) (w0 := w) w.heap.size (by rfl) (.tmp 26) (.tmp 38) 22 3 (.int .i64 0) 8 rfl Try.underlying22 info3 rfl (by decide) (by omega) u4 x4_1 t257 [.int .i64 t257] (fun k_ => some k_ ≠ (.slice (some ad255) t229.length co12 : Value).ownBlock) (fun _ => False) rfl rfl ?aP (fun _ hk => hk.elim) ?aF ?aO ?aB ?aS ?aL ?_
              (case aP => exact rfl)
              (case aB => exact (by repeat (first | (with_reducible first | exact HB.out | apply zc | apply zb | apply zd) | exact HB.out)))
              (case aF => exact (fun k_ hk => Kd.fresh' (Kd.R_lt (by (with_reducible repeat (first | apply Kd.zn | apply Kd.zo | apply Kd.zq)); exact HO_3.out)) k_ hk))
              (case aO => exact (by (with_reducible repeat (first | apply Kd.zn | apply Kd.zo | apply Kd.zq)); exact HO_4.out))
              (case aS => exact (zp (by repeat (first | (with_reducible first | exact HB.out | apply zc | apply zb | apply zd) | exact HB.out))))
              (case aL => have := LMc54.out; omega)
              intro v259 w56 ho hb hg hat
              rw [← Ny258.out] at ho
              have n0_ := za.mk (Kd.R_after (ok := (fun _ => True)) (by (with_reducible repeat (first | apply Kd.zn | apply Kd.zo | apply Kd.zq)); exact Kd.zib HO_3.out (fun _ hk => ⟨trivial, hk⟩)) hg hat)
              have n1_ := za.mk (hb)
              have n2_ := za.mk (ho)
              clear HO_3
              clear HB
              clear HO_4
              have HO_3 := n0_
              have HB := n1_
              have HO260 := n2_
              clear n0_ n1_ n2_
              clear ho hb hg hat
              refine hK.out _ _ ?_
              clear hK K
              refine norm_ (a' := ?_) ?_ ?_
              rotate_left
              ·show Act.put _ (some 39) _ = _
               simp only [zpa,zpb,zpc,zpd,zpe,zr,zs]
               rfl
              refine zz (i := 14) (N := some 4) (v := ?_) (a' := ?_) #[T_,T_,T_,T_,T_,T_,T_,T_,T_,T_,T_,T_,T_,T_,T_] rfl rfl (zv HT_.out (by kernel_rfl)) (fun _ _ _ h => h) (Or.inl ⟨by rfl, ?_⟩) ?_ ?_
              rotate_left
              ·intro w'
               go_simp
               with_reducible rfl
              rotate_left
              ·simp only [zpa,zpb,zpc,zpd,zpe,zr,zs]
               rfl
              refine done_ (zbc HT_.out (by kernel_rfl)) ?_
              try go_wp2
              go_roundg kj10
              case measure => have := HK1.out; have := HJ10.out; omega
              case rel => exact ⟨(y258), (ji50), (by first | rfl | (simp; done) | (simp only [← hji50] <;> (first | rfl | simp)) | (simp [*]; done)), (by first | exact H' | (simp only [hji16]; exact H') | (simp only [hji41]; exact H') | (simp only [hji50]; exact H') | (simp only [hji16, hji41, hji50]; exact H')), ⟨by have := HK1.out; have := HJ10.out; omega⟩, ⟨by (with_reducible repeat (first | apply Kd.zn | apply Kd.zo | apply Kd.zq)); exact Kd.zib HO_3.out (fun _ hk => hk.2)⟩, ⟨by (with_reducible repeat (first | apply Kd.zn | apply Kd.zo | apply Kd.zq)); exact HO260.out⟩, ⟨by repeat (first | (with_reducible first | exact HB.out | apply zc | apply zb | apply zd) | exact HB.out)⟩⟩
             ·rw [if_neg c54] at H
              exact absurd H (by simp)
            ·rw [if_neg c52] at H
             exact absurd H (by simp)
           ·rw [if_neg c51] at H
            exact absurd H (by simp)
          ·rw [if_neg c49] at H
           exact absurd H (by simp)
         ·rw [if_neg c48] at H
          exact absurd H (by simp)
   ·rw [if_neg c6] at H
    have c6b0 : decide (x5_1 < (t229.length : Int)) = false := decide_eq_false c6
    clear c6
    obtain rfl := Option.some.inj H
    obtain ⟨Ao57, co57, eo57⟩ := Kd.zia HO_3.out
    subst eo57
    go_wp2
    go_ret
    exact ⟨_, by first | rfl | (simp [zh, zi] <;> rfl) | (simp [*, zh, zi] <;> rfl), by (with_reducible repeat (first | apply Kd.zn | apply Kd.zo | apply Kd.zq)); exact Kd.zib HO_4.out (fun _ hk => trivial), by repeat (first | (with_reducible first | exact HB.out | apply zc | apply zb | apply zd) | exact HB.out)⟩
end Go.Proofs.Ytmjhdgofepdgkaa.PFnExactFillCost
