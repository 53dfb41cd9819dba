-- Written by a program of this session (wip/tools) out of the translation; its shape is that of the kit print.
import Derived.Test.YtmjhdgofepdgkaaPFnExactFillCostx0
import Derived.Test.YtmjhdgofepdgkaaPFnExactFillCostx13
import Derived.Test.YtmjhdgofepdgkaaPFnExactFillCostx14
import Derived.Test.YtmjhdgofepdgkaaPFnExactFillCostx15
namespace Go.Proofs.Ytmjhdgofepdgkaa.PFnExactFillCost
open Go.RowKit Go.Proofs.YtmjhdgofepdgkaaW.PrintWords Go.Proofs.YtmjhdgofepdgkaaW.PrintLast Go.Proofs.YtmjhdgofepdgkaaW.PrintMore
attribute [local go_sem] zbb zcb zjb zkb zxa zya zdb zeb
set_option linter.unusedVariables false
set_option maxHeartbeats 8000000
set_option maxRecDepth 100000
set_option linter.unusedSimpArgs false
def impl_starts.l0 : Nat → List Int → List Bool → Int → Int → Option (List Int)
 | 0, _, _, _, _ => none
 | k + 1, x3, x7, x8, x9 => if x9 < x8 then (if 0 ≤ x9 then (if x9 < (x7.length : Int) then (if rdOf false x7 x9 = true then (impl_starts.l0 k x3 x7 x8 (wrap64 (x9 + 1))) else (if x3.length < 17592186044416 then (impl_starts.l0 k (x3 ++ [x9]) x7 x8 (wrap64 (x9 + 1))) else (none))) else (none)) else (none)) else (some x3)
def impl_starts.f (k : Nat) (l0 : List Int) : Option (List Int) := (impl_joined.f k l0).bind fun t325 => (impl_starts.l0 k ([] : List Int) t325 (t325.length : Int) 0)
theorem impl_starts.calls (k : Nat) (A0 : Option Addr) (c0 : Nat) (l0 : List Int) (r : List Int) (w : World) (hr0 : Kd.C (Kd.int .i64) w A0 l0.length l0) (hc0 : l0.length ≤ c0) (h : impl_starts.f k l0 = some r) :
  Calls Try.prog 102 #[.slice A0 l0.length c0] w fun e w' => ∃ v0_ : Value, e = .returned (v0_) ∧ Kd.R (Kd.int .i64) 3 w' w.heap.size (fun _ => True) v0_ r ∧ Below w.heap.size w w' := by
 have HR0 := za.mk hr0
 have HC0 := za.mk hc0
 clear hr0 hc0
 have HB := za.mk (Below.refl w.heap.size w)
 have H : ((impl_joined.f k l0).bind fun t325 => (impl_starts.l0 k ([] : List Int) t325 (t325.length : Int) 0)) = some r := h
 clear h
 replace H := Option.bind_eq_some_iff.mp H
 obtain ⟨t325, A20, H⟩ := H
 replace H : (impl_starts.l0 k ([] : List Int) t325 (t325.length : Int) 0) = some r := H
 have A2 := za.mk A20
 clear A20
 have H' := za.mk H
 clear H
 go_enter Try.func102, Try.ntmps102
 go_wp2_with (first | ((with_reducible refine zj (f := 105) rfl ?_); refine zgo (some 7) Try.func105 #[.slice A0 l0.length c0] rfl ?_; (with_reducible refine (impl_joined.calls k _ _ l0 t325 _ ?side1 ?side2 A2.out).mono ?_); (case side1 => repeat (first | exact HR0.out | (with_reducible refine Kd.zea ?_ _) | (with_reducible refine Kd.zga ?_ _) | (with_reducible refine Kd.zha ?_))); (case side2 => exact HC0.out); rintro e w3 ⟨v326, rfl, ho0, hb⟩; refine ⟨_, rfl, ?_⟩; have n0_ := za.mk (Kd.zqa ho0 (zp (by repeat (first | (with_reducible first | exact HB.out | apply zc | apply zb | apply zd) | exact HB.out)))); have n1_ := za.mk (zg (by repeat (first | (with_reducible first | exact HB.out | apply zc | apply zb | apply zd) | exact HB.out)) hb); clear HB; have HO327 := n0_; have HB := n1_; clear n0_ n1_; (try clear hb); (try clear hb2); (try clear hk); (try clear hi); (try clear ho0); obtain ⟨Ao4, co4, eo4⟩ := Kd.zia HO327.out; subst eo4))
 go_loopg [3, 9] k (fun kq v3 v9 w' => ∃ (x3_1 : List Int) (x9_1 : Int), v9 = .int .i64 x9_1 ∧ za (impl_starts.l0 kq x3_1 t325 (t325.length : Int) x9_1 = some r) ∧ za (kq ≤ k) ∧ za (Kd.R (Kd.int .i64) 3 w' w.heap.size (fun _ => True) v3 x3_1) ∧ za (Kd.R Kd.bool 4 w' w.heap.size (fun _ => True) (.slice Ao4 t325.length co4) t325) ∧ za (Below w.heap.size w w'))
 case atStart => exact ⟨(([] : List Int)), (0), (by first | rfl | (simp; done) | (simp [*]; done)), H', ⟨Nat.le_refl _⟩, ⟨by first | exact Kd.R_nil _ _ _ _ _ | exact Kd.N_nil _ _ _ _ _ | exact Kd.V_nil _ _ _ _ _ | exact Kd.Q_nil _ _ _ _ _ | exact Kd.S_nil _ _ _ _ _⟩, ⟨by (with_reducible repeat (first | apply Kd.zn | apply Kd.zo | apply Kd.zq)); exact HO327.out⟩, ⟨by repeat (first | (with_reducible first | exact HB.out | apply zc | apply zb | apply zd) | exact HB.out)⟩⟩
 case round =>
  clear H'
  try clear c1
  try clear p2
  obtain ⟨x3_1, x9_1, rfl, HA, HK1, HO_3, HO_7, HB⟩ := hrel
  cases gk with
  | zero => exact absurd HA.out (by simp [impl_starts.l0])
  | succ k1 =>
   have H := HA.out
   clear HA
   simp only [impl_starts.l0] at H
   by_cases c5 : x9_1 < (t325.length : Int)
   ·rw [if_pos c5] at H
    have c5b0 : decide (x9_1 < (t325.length : Int)) = true := decide_eq_true c5
    clear c5
    by_cases c6 : 0 ≤ x9_1
    ·rw [if_pos c6] at H
     have c6b0 : decide (0 ≤ x9_1) = true := decide_eq_true c6
     clear c6
     by_cases c7 : x9_1 < (t325.length : Int)
     ·rw [if_pos c7] at H
      have c7b0 : decide (x9_1 < (t325.length : Int)) = true := decide_eq_true c7
      clear c7
      obtain ⟨bq8, hbq8⟩ : ∃ b_ : Bool, b_ = (rdOf false t325 x9_1) := ⟨_, rfl⟩
      replace H : (if bq8 = true then (impl_starts.l0 k1 x3_1 t325 (t325.length : Int) (wrap64 (x9_1 + 1))) else (if x3_1.length < 17592186044416 then (impl_starts.l0 k1 (x3_1 ++ [x9_1]) t325 (t325.length : Int) (wrap64 (x9_1 + 1))) else (none))) = some r := by rw [← hbq8] at H; exact H
      have Nbq8 := za.mk hbq8
      clear hbq8
      by_cases c9 : bq8 = true
      ·subst c9
       have H1 : (impl_starts.l0 k1 x3_1 t325 (t325.length : Int) (wrap64 (x9_1 + 1))) = some r := by rw [if_pos rfl] at H; exact H
       clear H
       have H := H1
       clear H1
       have H' := za.mk H
       clear H
       have p328 : 0 ≤ (x9_1 : Int) := of_decide_eq_true (by assumption)
       have q328 : x9_1 < (t325.length : Int) := of_decide_eq_true (by assumption)
       obtain ⟨ad328, e328, hx328_0⟩ := Kd.at_bool (Kd.zt HO_7.out).2.2 x9_1 p328 q328
       (try rw [← Nbq8.out] at hx328_0)
       cases e328
       replace p328 := eq_true p328
       replace q328 := eq_true q328
       go_wp2
       go_roundg k1
       case measure => have := HK1.out; omega
       case rel => exact ⟨(x3_1), (wrap64 (x9_1 + 1)), (by first | rfl | (simp; done) | (simp [*]; done)), H', ⟨by have := HK1.out; omega⟩, ⟨by (with_reducible repeat (first | apply Kd.zn | apply Kd.zo | apply Kd.zq)); exact HO_3.out⟩, ⟨by (with_reducible repeat (first | apply Kd.zn | apply Kd.zo | apply Kd.zq)); exact HO_7.out⟩, ⟨by repeat (first | (with_reducible first | exact HB.out | apply zc | apply zb | apply zd) | exact HB.out)⟩⟩
      ·replace c9 := Bool.eq_false_iff.mpr c9
       subst c9
       have H1 : (if x3_1.length < 17592186044416 then (impl_starts.l0 k1 (x3_1 ++ [x9_1]) t325 (t325.length : Int) (wrap64 (x9_1 + 1))) else (none)) = some r := by rw [if_neg (show ¬ (false = true) by decide)] at H; exact H
       clear H
       have H := H1
       clear H1
       by_cases c10 : x3_1.length < 17592186044416
       ·rw [if_pos c10] at H
        have LMc10 := za.mk c10
        clear c10
        obtain ⟨y329, hy329⟩ : ∃ y_ : List Int, y_ = (x3_1 ++ [x9_1]) := ⟨_, rfl⟩
        replace H : (impl_starts.l0 k1 y329 t325 (t325.length : Int) (wrap64 (x9_1 + 1))) = some r := by first | (rw [hy329]; with_reducible exact H) | (have H2_ := (Option.bind_some _ _).symm.trans H; rw [hy329]; with_reducible exact H2_) | (have H2_ := (Option.bind_some _ _).symm.trans H; with_reducible exact H2_) | with_reducible exact H | (rw [hy329]; exact H) | exact H
        have Ny329 := za.mk hy329
        clear hy329
        have H' := za.mk H
        clear H
        have p328 : 0 ≤ (x9_1 : Int) := of_decide_eq_true (by assumption)
        have q328 : x9_1 < (t325.length : Int) := of_decide_eq_true (by assumption)
        obtain ⟨ad328, e328, hx328_0⟩ := Kd.at_bool (Kd.zt HO_7.out).2.2 x9_1 p328 q328
        (try rw [← Nbq8.out] at hx328_0)
        cases e328
        replace p328 := eq_true p328
        replace q328 := eq_true q328
        go_wp2_with (first | ((with_reducible refine zra (b := .append) (xs := #[.tmp 16, .tmp 18]) rfl ?_); at_builtin; refine Kd.zza (Kd.int .i64) (w0 := w) w.heap.size rfl (.tmp 16) (.tmp 18) 22 3 (.int .i64 0) 8 rfl Try.underlying22 info3 rfl (by decide) (by omega) u3 x3_1 x9_1 [.int .i64 x9_1] (fun _ => True) (fun _ => False) rfl rfl ?aP (fun _ hk => hk.elim) ?aF ?aO ?aB ?aS ?aL ?_; (case aP => exact rfl); (case aB => exact (by repeat (first | (with_reducible first | exact HB.out | apply zc | apply zb | apply zd) | exact HB.out))); (case aF => exact (fun _ _ => trivial)); (case aO => exact (by (with_reducible repeat (first | apply Kd.zn | apply Kd.zo | apply Kd.zq)); exact HO_3.out)); (case aS => exact (zp (by repeat (first | (with_reducible first | exact HB.out | apply zc | apply zb | apply zd) | exact HB.out)))); (case aL => have := LMc10.out; omega); intro v330 w11 ho hb hg hat; rw [← Ny329.out] at ho; have n0_ := za.mk (Kd.R_over' (by (with_reducible repeat (first | apply Kd.zn | apply Kd.zo | apply Kd.zq)); exact HO_7.out) (Kd.R_typed (by (with_reducible repeat (first | apply Kd.zn | apply Kd.zo | apply Kd.zq)); exact HO_3.out)) (by decide) hg); have n1_ := za.mk (hb); have n2_ := za.mk (ho); clear HO_7; clear HB; clear HO_3; have HO_7 := n0_; have HB := n1_; have HO331 := n2_; clear n0_ n1_ n2_; clear ho hb hg hat))
        go_roundg k1
        case measure => have := HK1.out; omega
        case rel => exact ⟨(y329), (wrap64 (x9_1 + 1)), (by first | rfl | (simp; done) | (simp [*]; done)), H', ⟨by have := HK1.out; omega⟩, ⟨by (with_reducible repeat (first | apply Kd.zn | apply Kd.zo | apply Kd.zq)); exact HO331.out⟩, ⟨by (with_reducible repeat (first | apply Kd.zn | apply Kd.zo | apply Kd.zq)); exact HO_7.out⟩, ⟨by repeat (first | (with_reducible first | exact HB.out | apply zc | apply zb | apply zd) | exact HB.out)⟩⟩
       ·rw [if_neg c10] at H
        exact absurd H (by simp)
     ·rw [if_neg c7] at H
      exact absurd H (by simp)
    ·rw [if_neg c6] at H
     exact absurd H (by simp)
   ·rw [if_neg c5] at H
    have c5b0 : decide (x9_1 < (t325.length : Int)) = false := decide_eq_false c5
    clear c5
    obtain rfl := Option.some.inj H
    go_wp2
    go_ret
    exact ⟨_, by first | rfl | (simp [zh, zi] <;> rfl) | (simp [*, zh, zi] <;> rfl), by (with_reducible repeat (first | apply Kd.zn | apply Kd.zo | apply Kd.zq)); exact HO_3.out, by repeat (first | (with_reducible first | exact HB.out | apply zc | apply zb | apply zd) | exact HB.out)⟩
def impl_widesOf.l0 : Nat → List Int → List (S40) → List Int → List Int → Int → Int → Option (List Int)
 | 0, _, _, _, _, _, _ => none
 | k + 1, x0, x1, x5, x12, x13, x14 => if x14 < x13 then (if 0 ≤ x14 then (if x14 < (x12.length : Int) then ((impl_clusterWide.f k x0 (rd x12 x14)).bind fun t339 => ((impl_lookAt.f k x1 (rd x12 x14)).bind fun bt340 => (if 0 ≤ (rd x12 x14) then (if (rd x12 x14) < (x5.length : Int) then (impl_widesOf.l0 k x0 x1 (x5.set ((rd x12 x14) : Int).toNat (wrap64 (t339 * bt340.1))) x12 x13 (wrap64 (x14 + 1))) else (none)) else (none)))) else (none)) else (none)) else (some x5)
def impl_widesOf.f (k : Nat) (l0 : List Int) (l1 : List (S40)) : Option (List Int) := if 0 ≤ (l0.length : Int) then (if ((l0.length : Int) : Int).toNat ≤ 35184372088832 then ((impl_starts.f k l0).bind fun t335 => (impl_widesOf.l0 k l0 l1 (List.replicate ((l0.length : Int) : Int).toNat 0) t335 (t335.length : Int) 0)) else (none)) else (none)
theorem impl_widesOf.calls (k : Nat) (A0 : Option Addr) (c0 : Nat) (l0 : List Int) (A1 : Option Addr) (c1 : Nat) (l1 : List (S40)) (r : List Int) (w : World) (hr0 : Kd.C (Kd.int .i64) w A0 l0.length l0) (hc0 : l0.length ≤ c0) (hr1 : Kd.C k40 w A1 l1.length l1) (hc1 : l1.length ≤ c1) (h : impl_widesOf.f k l0 l1 = some r) :
  Calls Try.prog 55 #[.slice A0 l0.length c0, .slice A1 l1.length c1] w fun e w' => ∃ v0_ : Value, e = .returned (v0_) ∧ Kd.R (Kd.int .i64) 3 w' w.heap.size (fun _ => True) v0_ r ∧ Below w.heap.size w w' := by
 have HR0 := za.mk hr0
 have HC0 := za.mk hc0
 clear hr0 hc0
 have HR1 := za.mk hr1
 have HC1 := za.mk hc1
 clear hr1 hc1
 have HB := za.mk (Below.refl w.heap.size w)
 have H : (if 0 ≤ (l0.length : Int) then (if ((l0.length : Int) : Int).toNat ≤ 35184372088832 then ((impl_starts.f k l0).bind fun t335 => (impl_widesOf.l0 k l0 l1 (List.replicate ((l0.length : Int) : Int).toNat 0) t335 (t335.length : Int) 0)) else (none)) else (none)) = some r := h
 clear h
 by_cases c3 : 0 ≤ (l0.length : Int)
 ·rw [if_pos c3] at H
  have c3b0 := eq_true c3
  have c3b1 : decide (0 ≤ (l0.length : Int)) = true := decide_eq_true c3
  clear c3
  by_cases c4 : ((l0.length : Int) : Int).toNat ≤ 35184372088832
  ·rw [if_pos c4] at H
   have c4b0 := eq_true c4
   have c4b1 : decide (((l0.length : Int) : Int).toNat ≤ 35184372088832) = true := decide_eq_true c4
   clear c4
   obtain ⟨y332, hy332⟩ : ∃ y_ : List Int, y_ = (List.replicate ((l0.length : Int) : Int).toNat 0) := ⟨_, rfl⟩
   replace H : ((impl_starts.f k l0).bind fun t335 => (impl_widesOf.l0 k l0 l1 y332 t335 (t335.length : Int) 0)) = some r := by first | (rw [hy332]; with_reducible exact H) | (have H2_ := (Option.bind_some _ _).symm.trans H; rw [hy332]; with_reducible exact H2_) | (have H2_ := (Option.bind_some _ _).symm.trans H; with_reducible exact H2_) | with_reducible exact H | (rw [hy332]; exact H) | exact H
   have Ny332 := za.mk hy332
   clear hy332
   replace H := Option.bind_eq_some_iff.mp H
   obtain ⟨t335, A50, H⟩ := H
   replace H : (impl_widesOf.l0 k l0 l1 y332 t335 (t335.length : Int) 0) = some r := H
   have A5 := za.mk A50
   clear A50
   have H' := za.mk H
   clear H
   go_enter Try.func55, Try.ntmps55
   have hfd66_0 : ∀ (a0 a1 : Int) (w : World), (Instr.field 66 (.agg #[.int .i64 a0, .int .i64 a1]) 0).run Try.prog w = .ok (.int .i64 a0) w := fun _ _ _ => by kernel_rfl
   go_wp2_with (first | ((with_reducible refine zw (N := 10) rfl ?_); refine Kd.R_make (Kd.int .i64) _ 3 rfl (N := 10) rfl 22 _ _ rfl (l0.length : Int) rfl rfl Try.underlying22 (.int .i64 0) 8 info3 rfl (by decide) (by omega) 0 (ok := fun _ => True) (okp := fun _ => True) rfl (fun _ hk => hk) trivial (of_decide_eq_true (by assumption)) (Nat.le_trans (Nat.mul_le_mul_right _ (of_decide_eq_true (by assumption) : (l0.length : Int).toNat ≤ 35184372088832)) (by omega)) (Below.refl _ _) (Nat.le_refl _) ?_; intro v333 w6 ho7 hb hg_ hnew_; clear hg_ hnew_; (first | rw [← Ny332.out] at ho7 | (simp only [Int.reduceToNat] at ho7; rw [← Ny332.out] at ho7)); have n0_ := za.mk (Kd.zqa ho7 (zp (by repeat (first | (with_reducible first | exact HB.out | apply zc | apply zb | apply zd) | exact HB.out)))); have n1_ := za.mk (zg (by repeat (first | (with_reducible first | exact HB.out | apply zc | apply zb | apply zd) | exact HB.out)) hb); clear HB; have HO334 := n0_; have HB := n1_; clear n0_ n1_; clear hb ho7) | ((with_reducible refine zj (f := 102) rfl ?_); refine zgo (some 12) Try.func102 #[.slice A0 l0.length c0] rfl ?_; (with_reducible refine (impl_starts.calls k _ _ l0 t335 _ ?side1 ?side2 A5.out).mono ?_); (case side1 => repeat (first | exact (Kd.zka HR0.out HB.out) | (with_reducible refine Kd.zea ?_ _) | (with_reducible refine Kd.zga ?_ _) | (with_reducible refine Kd.zha ?_))); (case side2 => exact HC0.out); rintro e w8 ⟨v336, rfl, ho0, hb⟩; refine ⟨_, rfl, ?_⟩; have n0_ := za.mk (Kd.zua (by (with_reducible repeat (first | apply Kd.zn | apply Kd.zo | apply Kd.zq)); exact HO334.out) (Kd.zgb ho0) hb); have n1_ := za.mk (Kd.zqa (Kd.zhb ho0 (Kd.R_lt (by (with_reducible repeat (first | apply Kd.zn | apply Kd.zo | apply Kd.zq)); exact HO334.out))) (zp (by repeat (first | (with_reducible first | exact HB.out | apply zc | apply zb | apply zd) | exact HB.out)))); have n2_ := za.mk (zg (by repeat (first | (with_reducible first | exact HB.out | apply zc | apply zb | apply zd) | exact HB.out)) hb); clear HO334; clear HB; have HO334 := n0_; have HO337 := n1_; have HB := n2_; clear n0_ n1_ n2_; (try clear hb); (try clear hb2); (try clear hk); (try clear hi); (try clear ho0); obtain ⟨Ao9, co9, eo9⟩ := Kd.zia HO337.out; subst eo9))
   go_loopg [14] k (fun kq v14 w' => ∃ (x5_1 : List Int) (x14_1 : Int), v14 = .int .i64 x14_1 ∧ za (impl_widesOf.l0 kq l0 l1 x5_1 t335 (t335.length : Int) x14_1 = some r) ∧ za (kq ≤ k) ∧ za (Kd.R (Kd.int .i64) 3 w' w.heap.size (fun k_ => some k_ ≠ ((.slice Ao9 t335.length co9) : Value).ownBlock) v333 x5_1) ∧ za (Kd.R (Kd.int .i64) 3 w' w.heap.size (fun k_ => some k_ ≠ (v333 : Value).ownBlock) (.slice Ao9 t335.length co9) t335) ∧ za (Below w.heap.size w w'))
   case atStart => exact ⟨(y332), (0), (by first | rfl | (simp; done) | (simp [*]; done)), H', ⟨Nat.le_refl _⟩, ⟨by (with_reducible repeat (first | apply Kd.zn | apply Kd.zo | apply Kd.zq)); exact Kd.zib HO334.out (fun _ hk => hk.2)⟩, ⟨by (with_reducible repeat (first | apply Kd.zn | apply Kd.zo | apply Kd.zq)); exact Kd.zib HO337.out (fun _ hk => hk.2)⟩, ⟨by repeat (first | (with_reducible first | exact HB.out | apply zc | apply zb | apply zd) | exact HB.out)⟩⟩
   case round =>
    clear H'
    try clear c1
    try clear p2
    try clear c3
    try clear c3b0
    try clear c3b1
    try clear c4
    try clear c4b0
    try clear c4b1
    try clear c5
    obtain ⟨x5_1, x14_1, rfl, HA, HK1, HO_5, HO_12, HB⟩ := hrel
    cases gk with
    | zero => exact absurd HA.out (by simp [impl_widesOf.l0])
    | succ k1 =>
     have H := HA.out
     clear HA
     simp only [impl_widesOf.l0] at H
     by_cases c10 : x14_1 < (t335.length : Int)
     ·rw [if_pos c10] at H
      have c10b0 : decide (x14_1 < (t335.length : Int)) = true := decide_eq_true c10
      clear c10
      by_cases c11 : 0 ≤ x14_1
      ·rw [if_pos c11] at H
       have c11b0 : decide (0 ≤ x14_1) = true := decide_eq_true c11
       clear c11
       by_cases c12 : x14_1 < (t335.length : Int)
       ·rw [if_pos c12] at H
        have c12b0 : decide (x14_1 < (t335.length : Int)) = true := decide_eq_true c12
        clear c12
        replace H := Option.bind_eq_some_iff.mp H
        obtain ⟨t339, A130, H⟩ := H
        replace H : ((impl_lookAt.f k1 l1 (rd t335 x14_1)).bind fun bt340 => (if 0 ≤ (rd t335 x14_1) then (if (rd t335 x14_1) < (x5_1.length : Int) then (impl_widesOf.l0 k1 l0 l1 (x5_1.set ((rd t335 x14_1) : Int).toNat (wrap64 (t339 * bt340.1))) t335 (t335.length : Int) (wrap64 (x14_1 + 1))) else (none)) else (none))) = some r := H
        have A13 := za.mk A130
        clear A130
        replace H := Option.bind_eq_some_iff.mp H
        obtain ⟨⟨t340, t341⟩, A140, H⟩ := H
        replace H : (if 0 ≤ (rd t335 x14_1) then (if (rd t335 x14_1) < (x5_1.length : Int) then (impl_widesOf.l0 k1 l0 l1 (x5_1.set ((rd t335 x14_1) : Int).toNat (wrap64 (t339 * t340))) t335 (t335.length : Int) (wrap64 (x14_1 + 1))) else (none)) else (none)) = some r := H
        have A14 := za.mk A140
        clear A140
        by_cases c15 : 0 ≤ (rd t335 x14_1)
        ·rw [if_pos c15] at H
         have c15b0 : decide (0 ≤ (rd t335 x14_1)) = true := decide_eq_true c15
         clear c15
         by_cases c16 : (rd t335 x14_1) < (x5_1.length : Int)
         ·rw [if_pos c16] at H
          have c16b0 : decide ((rd t335 x14_1) < (x5_1.length : Int)) = true := decide_eq_true c16
          clear c16
          obtain ⟨y342, hy342⟩ : ∃ y_ : List Int, y_ = (x5_1.set ((rd t335 x14_1) : Int).toNat (wrap64 (t339 * t340))) := ⟨_, rfl⟩
          replace H : (impl_widesOf.l0 k1 l0 l1 y342 t335 (t335.length : Int) (wrap64 (x14_1 + 1))) = some r := by first | (rw [hy342]; with_reducible exact H) | (have H2_ := (Option.bind_some _ _).symm.trans H; rw [hy342]; with_reducible exact H2_) | (have H2_ := (Option.bind_some _ _).symm.trans H; with_reducible exact H2_) | with_reducible exact H | (rw [hy342]; exact H) | exact H
          have Ny342 := za.mk hy342
          clear hy342
          have H' := za.mk H
          clear H
          have p338 : 0 ≤ (x14_1 : Int) := of_decide_eq_true (by assumption)
          have q338 : x14_1 < (t335.length : Int) := of_decide_eq_true (by assumption)
          obtain ⟨ad338, e338, hx338_0⟩ := Kd.zfa (Kd.zt HO_12.out).2.2 x14_1 p338 q338
          cases e338
          replace p338 := eq_true p338
          replace q338 := eq_true q338
          go_wp2_with (first | ((with_reducible refine zj (f := 62) rfl ?_); refine zgo (some 22) Try.func62 #[.slice A0 l0.length c0, .int .i64 (rd t335 x14_1)] rfl ?_; (with_reducible refine (impl_clusterWide.calls k1 _ _ l0 (rd t335 x14_1) t339 _ ?side1 ?side2 A13.out).mono ?_); (case side1 => repeat (first | exact (Kd.zka HR0.out HB.out) | (with_reducible refine Kd.zea ?_ _) | (with_reducible refine Kd.zga ?_ _) | (with_reducible refine Kd.zha ?_))); (case side2 => exact HC0.out); rintro e w18 ⟨rfl, hb⟩; refine ⟨_, rfl, ?_⟩; have n0_ := za.mk (Kd.zba (by (with_reducible repeat (first | apply Kd.zn | apply Kd.zo | apply Kd.zq)); exact HO_5.out) hb); have n1_ := za.mk (Kd.zba (by (with_reducible repeat (first | apply Kd.zn | apply Kd.zo | apply Kd.zq)); exact HO_12.out) hb); have n2_ := za.mk (zg (by repeat (first | (with_reducible first | exact HB.out | apply zc | apply zb | apply zd) | exact HB.out)) hb); clear HO_5; clear HO_12; clear HB; have HO_5 := n0_; have HO_12 := n1_; have HB := n2_; clear n0_ n1_ n2_; (try clear hb); (try clear hb2); (try clear hk); (try clear hi)) | ((with_reducible refine zj (f := 60) rfl ?_); refine zgo (some 25) Try.func60 #[.slice A1 l1.length c1, .int .i64 (rd t335 x14_1)] rfl ?_; (with_reducible refine (impl_lookAt.calls k1 _ _ l1 (rd t335 x14_1) t340 t341 _ ?side1 ?side2 A14.out).mono ?_); (case side1 => repeat (first | exact (Kd.zka HR1.out HB.out) | (with_reducible refine Kd.zea ?_ _) | (with_reducible refine Kd.zga ?_ _) | (with_reducible refine Kd.zha ?_))); (case side2 => exact HC1.out); rintro e w19 ⟨rfl, hb⟩; refine ⟨_, rfl, ?_⟩; have n0_ := za.mk (Kd.zba (by (with_reducible repeat (first | apply Kd.zn | apply Kd.zo | apply Kd.zq)); exact HO_5.out) hb); have n1_ := za.mk (Kd.zba (by (with_reducible repeat (first | apply Kd.zn | apply Kd.zo | apply Kd.zq)); exact HO_12.out) hb); have n2_ := za.mk (zg (by repeat (first | (with_reducible first | exact HB.out | apply zc | apply zb | apply zd) | exact HB.out)) hb); clear HO_5; clear HO_12; clear HB; have HO_5 := n0_; have HO_12 := n1_; have HB := n2_; clear n0_ n1_ n2_; (try clear hb); (try clear hb2); (try clear hk); (try clear hi); have p17 : 0 ≤ ((rd t335 x14_1) : Int) := of_decide_eq_true (by assumption); have q17 : ((rd t335 x14_1) : Int) < ((x5_1.length : Int) : Int) := of_decide_eq_true (by assumption); obtain ⟨go17, co17, eo17, gb17, gl17, cl17, HG17⟩ := Kd.R_form HO_5.out (by omega); (first | cases eo17 | (injection eo17 with ea_ en_ ec_; (first | subst ea_ | (injection ea_ with ea_; subst ea_)); subst ec_; clear en_)); have GB17 := za.mk gb17; have GG17 := za.mk HG17; clear gb17 gl17 HG17; obtain ⟨hx17_0, hf17_0⟩ := Kd.R_celln 0 HO_5.out ((rd t335 x14_1) : Int) p17 q17; replace p17 := eq_true p17; replace q17 := eq_true q17; obtain ⟨hy20_, hz20_⟩ := Kd.R_celln 0 HO_5.out ((rd t335 x14_1) : Int) (of_decide_eq_true (by assumption)) (of_decide_eq_true (by assumption)); have HP20 := Kd.R_putg HO_5.out ((rd t335 x14_1) : Int) (wrap64 (t339 * t340))) | ((with_reducible refine gate_store (t := 3) (p := 28) rfl ?_); refine store_event (t := 3) (p := 28) (v := ?vo_w21) (w1 := (w19.setCell ⟨go17, ((rd t335 x14_1) : Int).toNat, none⟩ (.int .i64 (wrap64 (t339 * t340))))) ?hg ?ho ?hn ?hr ?_; (case ho => rfl); (case hg => rfl); (case hn => rfl); (case hr => first | (go_simp; done) | (go_simp; rfl)); intro w21 hw; have hg : w19.grownBy w21 (some go17) := (by rw [hw]; exact HP20.2); have hp_ : Kd.R (Kd.int .i64) 3 w21 w.heap.size (fun k_ => some k_ ≠ (.slice (some ad338) t335.length co9 : Value).ownBlock) (.slice (some ⟨go17, 0, none⟩) x5_1.length co17) y342 := (by rw [hw, Ny342.out]; exact HP20.1); clear HP20; have n0_ := za.mk (hp_); have n1_ := za.mk (Kd.R_after (v := (.slice (some ⟨go17, 0, none⟩) x5_1.length co17)) (v1 := (.slice (some ⟨go17, 0, none⟩) x5_1.length co17)) (ok := (fun _ => True)) (by (with_reducible repeat (first | apply Kd.zn | apply Kd.zo | apply Kd.zq)); exact Kd.zib HO_12.out (fun _ hk => ⟨trivial, hk⟩)) hg (.inl rfl)); have n2_ := za.mk ((by rw [hw]; exact zu (HB.out) GB17.out : Below w.heap.size w w21)); clear HO_5; clear HO_12; clear HB; have HO_5 := n0_; have HO_12 := n1_; have HB := n2_; clear n0_ n1_ n2_; clear hg hw hp_))
          go_roundg k1
          case measure => have := HK1.out; omega
          case rel => exact ⟨(y342), (wrap64 (x14_1 + 1)), (by first | rfl | (simp; done) | (simp [*]; done)), H', ⟨by have := HK1.out; omega⟩, ⟨by (with_reducible repeat (first | apply Kd.zn | apply Kd.zo | apply Kd.zq)); exact HO_5.out⟩, ⟨by (with_reducible repeat (first | apply Kd.zn | apply Kd.zo | apply Kd.zq)); exact Kd.zib HO_12.out (fun _ hk => hk.2)⟩, ⟨by repeat (first | (with_reducible first | exact HB.out | apply zc | apply zb | apply zd) | exact HB.out)⟩⟩
         ·rw [if_neg c16] at H
          exact absurd H (by simp)
        ·rw [if_neg c15] at H
         exact absurd H (by simp)
       ·rw [if_neg c12] at H
        exact absurd H (by simp)
      ·rw [if_neg c11] at H
       exact absurd H (by simp)
     ·rw [if_neg c10] at H
      have c10b0 : decide (x14_1 < (t335.length : Int)) = false := decide_eq_false c10
      clear c10
      obtain rfl := Option.some.inj H
      go_wp2
      go_ret
      exact ⟨_, by first | rfl | (simp [zh, zi] <;> rfl) | (simp [*, zh, zi] <;> rfl), by (with_reducible repeat (first | apply Kd.zn | apply Kd.zo | apply Kd.zq)); exact Kd.zib HO_5.out (fun _ hk => trivial), by repeat (first | (with_reducible first | exact HB.out | apply zc | apply zb | apply zd) | exact HB.out)⟩
  ·rw [if_neg c4] at H
   exact absurd H (by simp)
 ·rw [if_neg c3] at H
  exact absurd H (by simp)
def impl_body.l0 : Nat → List Int → Int → Int → Option (Int)
 | 0, _, _, _ => none
 | k + 1, x0, x1, x2 => if x2 > x1 then (if 0 ≤ (wrap64 (x2 - 1)) then (if (wrap64 (x2 - 1)) < (x0.length : Int) then (if (rd x0 (wrap64 (x2 - 1))) = 32 then (impl_body.l0 k x0 x1 (wrap64 (x2 - 1))) else (if (rd x0 (wrap64 (x2 - 1))) = 10 then (impl_body.l0 k x0 x1 (wrap64 (x2 - 1))) else ((impl_RuneWide.f k (rd x0 (wrap64 (x2 - 1)))).bind fun t346 => (if t346 = 0 then (impl_body.l0 k x0 x1 (wrap64 (x2 - 1))) else (some x2))))) else (none)) else (none)) else (some x2)
def impl_body.f (k : Nat) (l0 : List Int) (a1 : Int) (a2 : Int) : Option (Int) := impl_body.l0 k l0 a1 a2
theorem impl_body.calls (k : Nat) (A0 : Option Addr) (c0 : Nat) (l0 : List Int) (a1 : Int) (a2 : Int) (r : Int) (w : World) (hr0 : Kd.C (Kd.int .i64) w A0 l0.length l0) (hc0 : l0.length ≤ c0) (h : impl_body.f k l0 a1 a2 = some r) :
  Calls Try.prog 109 #[.slice A0 l0.length c0, .int .i64 a1, .int .i64 a2] w fun e w' => e = .returned (.int .i64 r) ∧ Below w.heap.size w w' := by
 have HR0 := za.mk hr0
 have HC0 := za.mk hc0
 clear hr0 hc0
 have HB := za.mk (Below.refl w.heap.size w)
 have H : (impl_body.l0 k l0 a1 a2) = some r := h
 clear h
 have H' := za.mk H
 clear H
 go_enter Try.func109, Try.ntmps109
 go_wp2
 go_loopg [2] k (fun kq v2 w' => ∃ (x2_1 : Int), v2 = .int .i64 x2_1 ∧ za (impl_body.l0 kq l0 a1 x2_1 = some r) ∧ za (kq ≤ k) ∧ za (Below w.heap.size w w'))
 case atStart => exact ⟨(a2), (by first | rfl | (simp; done) | (simp [*]; done)), H', ⟨Nat.le_refl _⟩, ⟨by repeat (first | (with_reducible first | exact HB.out | apply zc | apply zb | apply zd) | exact HB.out)⟩⟩
 case round =>
  clear H'
  try clear c1
  try clear p2
  obtain ⟨x2_1, rfl, HA, HK1, HB⟩ := hrel
  cases gk with
  | zero => exact absurd HA.out (by simp [impl_body.l0])
  | succ k1 =>
   have H := HA.out
   clear HA
   simp only [impl_body.l0] at H
   by_cases c4 : x2_1 > a1
   ·rw [if_pos c4] at H
    have c4b0 : decide (a1 < x2_1) = true := decide_eq_true c4
    clear c4
    obtain ⟨ji5, hji5⟩ : ∃ j_ : Int, (wrap64 (x2_1 - 1)) = j_ := ⟨_, rfl⟩
    replace H : (if 0 ≤ (ji5) then (if (ji5) < (l0.length : Int) then (if (rd l0 (ji5)) = 32 then (impl_body.l0 k1 l0 a1 ji5) else (if (rd l0 (ji5)) = 10 then (impl_body.l0 k1 l0 a1 ji5) else ((impl_RuneWide.f k1 (rd l0 (ji5))).bind fun t346 => (if t346 = 0 then (impl_body.l0 k1 l0 a1 ji5) else (some x2_1))))) else (none)) else (none)) = some r := by first | (rw [hji5] at H; exact H) | (simp only [hji5] at H ⊢; exact H)
    have hji5w : (IntKind.i64.wrap (x2_1 - 1)) = ji5 := (zr _).trans hji5
    by_cases c6 : 0 ≤ (ji5)
    ·rw [if_pos c6] at H
     have c6b0 : decide (0 ≤ (ji5)) = true := decide_eq_true c6
     clear c6
     by_cases c7 : (ji5) < (l0.length : Int)
     ·rw [if_pos c7] at H
      have c7b0 : decide ((ji5) < (l0.length : Int)) = true := decide_eq_true c7
      clear c7
      by_cases c8 : (rd l0 (ji5)) = 32
      ·rw [if_pos c8] at H
       have c8b0 : ((rd l0 (ji5)) == 32) = true := beq_iff_eq.mpr c8
       have c8b1 : ((rd l0 (ji5)) != 32) = false := bne_eq_false_iff_eq.mpr c8
       clear c8
       have H' := za.mk H
       clear H
       have p343 : 0 ≤ ((ji5) : Int) := of_decide_eq_true (by assumption)
       have q343 : (ji5) < (l0.length : Int) := of_decide_eq_true (by assumption)
       obtain ⟨ad343, e343, hx343_0⟩ := Kd.zfa HR0.out (ji5) p343 q343
       cases e343
       replace hx343_0 := (HB.out.cell (World.block_lt_of_cell? w _ hx343_0)).trans hx343_0
       replace p343 := eq_true p343
       replace q343 := eq_true q343
       go_wp2
       go_roundg k1
       case measure => have := HK1.out; omega
       case rel => exact ⟨(ji5), (by first | rfl | (simp; done) | (simp only [← hji5] <;> (first | rfl | simp)) | (simp [*]; done)), (by first | exact H' | (simp only [hji5]; exact H') | (simp only [hji5]; exact H')), ⟨by have := HK1.out; omega⟩, ⟨by repeat (first | (with_reducible first | exact HB.out | apply zc | apply zb | apply zd) | exact HB.out)⟩⟩
      ·rw [if_neg c8] at H
       have c8b0 : ((rd l0 (ji5)) == 32) = false := beq_eq_false_iff_ne.mpr c8
       have c8b1 : ((rd l0 (ji5)) != 32) = true := bne_iff_ne.mpr c8
       by_cases c9 : (rd l0 (ji5)) = 10
       ·rw [if_pos c9] at H
        have c9b0 : ((rd l0 (ji5)) == 10) = true := beq_iff_eq.mpr c9
        have c9b1 : ((rd l0 (ji5)) != 10) = false := bne_eq_false_iff_eq.mpr c9
        clear c9
        have H' := za.mk H
        clear H
        have p343 : 0 ≤ ((ji5) : Int) := of_decide_eq_true (by assumption)
        have q343 : (ji5) < (l0.length : Int) := of_decide_eq_true (by assumption)
        obtain ⟨ad343, e343, hx343_0⟩ := Kd.zfa HR0.out (ji5) p343 q343
        cases e343
        replace hx343_0 := (HB.out.cell (World.block_lt_of_cell? w _ hx343_0)).trans hx343_0
        replace p343 := eq_true p343
        replace q343 := eq_true q343
        have p344 : 0 ≤ ((ji5) : Int) := of_decide_eq_true (by assumption)
        have q344 : (ji5) < (l0.length : Int) := of_decide_eq_true (by assumption)
        obtain ⟨ad344, e344, hx344_0⟩ := Kd.zfa HR0.out (ji5) p344 q344
        obtain rfl : ad343 = ad344 := (by injection e344)
        replace hx344_0 := (HB.out.cell (World.block_lt_of_cell? w _ hx344_0)).trans hx344_0
        replace p344 := eq_true p344
        replace q344 := eq_true q344
        go_wp2
        go_roundg k1
        case measure => have := HK1.out; omega
        case rel => exact ⟨(ji5), (by first | rfl | (simp; done) | (simp only [← hji5] <;> (first | rfl | simp)) | (simp [*]; done)), (by first | exact H' | (simp only [hji5]; exact H') | (simp only [hji5]; exact H')), ⟨by have := HK1.out; omega⟩, ⟨by repeat (first | (with_reducible first | exact HB.out | apply zc | apply zb | apply zd) | exact HB.out)⟩⟩
       ·rw [if_neg c9] at H
        have c9b0 : ((rd l0 (ji5)) == 10) = false := beq_eq_false_iff_ne.mpr c9
        have c9b1 : ((rd l0 (ji5)) != 10) = true := bne_iff_ne.mpr c9
        replace H := Option.bind_eq_some_iff.mp H
        obtain ⟨t346, A100, H⟩ := H
        replace H : (if t346 = 0 then (impl_body.l0 k1 l0 a1 ji5) else (some x2_1)) = some r := H
        have A10 := za.mk A100
        clear A100
        by_cases c11 : t346 = 0
        ·rw [if_pos c11] at H
         have c11b0 : (t346 == 0) = true := beq_iff_eq.mpr c11
         have c11b1 : (t346 != 0) = false := bne_eq_false_iff_eq.mpr c11
         clear c11
         have H' := za.mk H
         clear H
         have p343 : 0 ≤ ((ji5) : Int) := of_decide_eq_true (by assumption)
         have q343 : (ji5) < (l0.length : Int) := of_decide_eq_true (by assumption)
         obtain ⟨ad343, e343, hx343_0⟩ := Kd.zfa HR0.out (ji5) p343 q343
         cases e343
         replace hx343_0 := (HB.out.cell (World.block_lt_of_cell? w _ hx343_0)).trans hx343_0
         replace p343 := eq_true p343
         replace q343 := eq_true q343
         have p344 : 0 ≤ ((ji5) : Int) := of_decide_eq_true (by assumption)
         have q344 : (ji5) < (l0.length : Int) := of_decide_eq_true (by assumption)
         obtain ⟨ad344, e344, hx344_0⟩ := Kd.zfa HR0.out (ji5) p344 q344
         obtain rfl : ad343 = ad344 := (by injection e344)
         replace hx344_0 := (HB.out.cell (World.block_lt_of_cell? w _ hx344_0)).trans hx344_0
         replace p344 := eq_true p344
         replace q344 := eq_true q344
         have p345 : 0 ≤ ((ji5) : Int) := of_decide_eq_true (by assumption)
         have q345 : (ji5) < (l0.length : Int) := of_decide_eq_true (by assumption)
         obtain ⟨ad345, e345, hx345_0⟩ := Kd.zfa HR0.out (ji5) p345 q345
         obtain rfl : ad343 = ad345 := (by injection e345)
         replace hx345_0 := (HB.out.cell (World.block_lt_of_cell? w _ hx345_0)).trans hx345_0
         replace p345 := eq_true p345
         replace q345 := eq_true q345
         go_wp2_with (first | (go_at_call 106; (with_reducible refine (impl_RuneWide.calls k1 (rd l0 (ji5)) t346 _ A10.out).mono ?_); rintro e w12 ⟨rfl, hb⟩; have n0_ := za.mk (zg (by repeat (first | (with_reducible first | exact HB.out | apply zc | apply zb | apply zd) | exact HB.out)) hb); clear HB; have HB := n0_; clear n0_; (try clear hb); (try clear hb2); (try clear hk); (try clear hi)))
         go_roundg k1
         case measure => have := HK1.out; omega
         case rel => exact ⟨(ji5), (by first | rfl | (simp; done) | (simp only [← hji5] <;> (first | rfl | simp)) | (simp [*]; done)), (by first | exact H' | (simp only [hji5]; exact H') | (simp only [hji5]; exact H')), ⟨by have := HK1.out; omega⟩, ⟨by repeat (first | (with_reducible first | exact HB.out | apply zc | apply zb | apply zd) | exact HB.out)⟩⟩
        ·rw [if_neg c11] at H
         have c11b0 : (t346 == 0) = false := beq_eq_false_iff_ne.mpr c11
         have c11b1 : (t346 != 0) = true := bne_iff_ne.mpr c11
         obtain rfl := Option.some.inj H
         have p343 : 0 ≤ ((ji5) : Int) := of_decide_eq_true (by assumption)
         have q343 : (ji5) < (l0.length : Int) := of_decide_eq_true (by assumption)
         obtain ⟨ad343, e343, hx343_0⟩ := Kd.zfa HR0.out (ji5) p343 q343
         cases e343
         replace hx343_0 := (HB.out.cell (World.block_lt_of_cell? w _ hx343_0)).trans hx343_0
         replace p343 := eq_true p343
         replace q343 := eq_true q343
         have p344 : 0 ≤ ((ji5) : Int) := of_decide_eq_true (by assumption)
         have q344 : (ji5) < (l0.length : Int) := of_decide_eq_true (by assumption)
         obtain ⟨ad344, e344, hx344_0⟩ := Kd.zfa HR0.out (ji5) p344 q344
         obtain rfl : ad343 = ad344 := (by injection e344)
         replace hx344_0 := (HB.out.cell (World.block_lt_of_cell? w _ hx344_0)).trans hx344_0
         replace p344 := eq_true p344
         replace q344 := eq_true q344
         have p345 : 0 ≤ ((ji5) : Int) := of_decide_eq_true (by assumption)
         have q345 : (ji5) < (l0.length : Int) := of_decide_eq_true (by assumption)
         obtain ⟨ad345, e345, hx345_0⟩ := Kd.zfa HR0.out (ji5) p345 q345
         obtain rfl : ad343 = ad345 := (by injection e345)
         replace hx345_0 := (HB.out.cell (World.block_lt_of_cell? w _ hx345_0)).trans hx345_0
         replace p345 := eq_true p345
         replace q345 := eq_true q345
         go_wp2_with (first | (go_at_call 106; (with_reducible refine (impl_RuneWide.calls k1 (rd l0 (ji5)) t346 _ A10.out).mono ?_); rintro e w13 ⟨rfl, hb⟩; have n0_ := za.mk (zg (by repeat (first | (with_reducible first | exact HB.out | apply zc | apply zb | apply zd) | exact HB.out)) hb); clear HB; have HB := n0_; clear n0_; (try clear hb); (try clear hb2); (try clear hk); (try clear hi)))
         go_ret
         exact ⟨by first | rfl | (simp [zh, zi] <;> rfl) | (simp only [← hji5]; first | rfl | (simp [zh, zi] <;> rfl)) | (simp [*, zh, zi] <;> rfl), by repeat (first | (with_reducible first | exact HB.out | apply zc | apply zb | apply zd) | exact HB.out)⟩
     ·rw [if_neg c7] at H
      exact absurd H (by simp)
    ·rw [if_neg c6] at H
     exact absurd H (by simp)
   ·rw [if_neg c4] at H
    have c4b0 : decide (a1 < x2_1) = false := decide_eq_false c4
    clear c4
    obtain rfl := Option.some.inj H
    go_wp2
    go_ret
    exact ⟨by first | rfl | (simp [zh, zi] <;> rfl) | (simp [*, zh, zi] <;> rfl), by repeat (first | (with_reducible first | exact HB.out | apply zc | apply zb | apply zd) | exact HB.out)⟩
def impl_lineWide.l0 : Nat → Int → List Int → Int → Int → Option (Int)
 | 0, _, _, _, _ => none
 | k + 1, x9, x18, x19, x20 => if x20 < x19 then (if 0 ≤ x20 then (if x20 < (x18.length : Int) then (impl_lineWide.l0 k (wrap64 (x9 + (rd x18 x20))) x18 x19 (wrap64 (x20 + 1))) else (none)) else (none)) else (some x9)
def impl_lineWide.f (k : Nat) (l0 : List Int) (l1 : List Int) (a2 : Int) (a3 : Int) : Option (Int) := (impl_body.f k l0 a2 a3).bind fun t167 => (if 0 ≤ a2 then (if a2 ≤ t167 then (if t167 ≤ (l1.length : Int) then (impl_lineWide.l0 k 0 ((l1.take (t167 : Int).toNat).drop (a2 : Int).toNat) (((l1.take (t167 : Int).toNat).drop (a2 : Int).toNat).length : Int) 0) else (none)) else (none)) else (none))
theorem impl_lineWide.calls (k : Nat) (A0 : Option Addr) (c0 : Nat) (l0 : List Int) (A1 : Option Addr) (c1 : Nat) (l1 : List Int) (a2 : Int) (a3 : Int) (r : Int) (w : World) (hr0 : Kd.C (Kd.int .i64) w A0 l0.length l0) (hc0 : l0.length ≤ c0) (hr1 : Kd.C (Kd.int .i64) w A1 l1.length l1) (hc1 : l1.length ≤ c1) (h : impl_lineWide.f k l0 l1 a2 a3 = some r) :
  Calls Try.prog 72 #[.slice A0 l0.length c0, .slice A1 l1.length c1, .int .i64 a2, .int .i64 a3] w fun e w' => e = .returned (.int .i64 r) ∧ Below w.heap.size w w' := by
 have HR0 := za.mk hr0
 have HC0 := za.mk hc0
 clear hr0 hc0
 have HR1 := za.mk hr1
 have HC1 := za.mk hc1
 clear hr1 hc1
 unfold impl_lineWide.f at h
 obtain ⟨t167, A50, H⟩ := Option.bind_eq_some_iff.mp h
 clear h
 have A5 := za.mk A50
 clear A50
 by_cases c6 : 0 ≤ a2
 ·rw [if_pos c6] at H
  by_cases c7 : a2 ≤ t167
  ·rw [if_pos c7] at H
   by_cases c8 : t167 ≤ (l1.length : Int)
   ·rw [if_pos c8] at H
    have H' := za.mk H
    clear H
    go_enter Try.func72, Try.ntmps72
    go_wp2_with (go_at_call 109; refine (impl_body.calls k _ _ l0 a2 a3 t167 _ HR0.out HC0.out A5.out).mono ?_; rintro e w9 ⟨rfl, hb⟩; have HB := za.mk hb; clear hb; obtain ⟨i010, hi010, _, hsz10, _⟩ := info_parts info3; obtain ⟨A10, hcut10, hA10, hC10⟩ := print_mid_of (P := Try.prog) (Value.int .i64) 0 22 3 .i64 .i64 Try.underlying22 hi010 hsz10 A1 c1 l1 a2 t167 c6 c7 c8 HC1.out; have HR168 := za.mk (Kd.C_of_reads (h1 := fun _ => rfl) (hA10 _ (Kd.reads_of_C HR1.out))); clear hA10 hC10 hi010 hsz10)
    clear hcut10
    have hlen : ((l1.take (t167 : Int).toNat).drop (a2 : Int).toNat).length = t167.toNat - a2.toNat := by
     simp only [List.length_drop, List.length_take]
     omega
    have hbl : ((l1.take (t167 : Int).toNat).drop (a2 : Int).toNat).length ≤ 9223372036854775807 := HR168.out.2.1
    generalize (l1.take (t167 : Int).toNat).drop (a2 : Int).toNat = L at HR168 H' hlen hbl
    generalize t167.toNat - a2.toNat = n at hlen ⊢
    clear c6 c7 c8
    subst hlen
    go_loopg [9, 20] k (fun kq v9 v20 w' => ∃ (x9_1 : Int) (x20_1 : Int), v9 = .int .i64 x9_1 ∧ v20 = .int .i64 x20_1 ∧ za (impl_lineWide.l0 kq x9_1 L (L.length : Int) x20_1 = some r) ∧ za (Below w.heap.size w w'))
    case atStart => exact ⟨(0), (0), (by first | rfl | (simp; done)), (by first | rfl | (simp; done)), H', HB⟩
    case round =>
     clear H'
     obtain ⟨x9_1, x20_1, rfl, rfl, HA, HB⟩ := hrel
     cases gk with
     | zero => exact absurd HA.out (by simp [impl_lineWide.l0])
     | succ k1 =>
      have H := HA.out
      clear HA
      simp only [impl_lineWide.l0] at H
      by_cases c11 : x20_1 < (L.length : Int)
      ·rw [if_pos c11] at H
       have c11b0 : decide (x20_1 < (L.length : Int)) = true := decide_eq_true c11
       by_cases c12 : 0 ≤ x20_1
       ·rw [if_pos c12, if_pos c11] at H
        have H' := za.mk H
        clear H
        obtain ⟨ad168, e168, hx168_0⟩ := Kd.zfa HR168.out x20_1 c12 c11
        cases e168
        replace hx168_0 := (HB.out.cell (World.block_lt_of_cell? w _ hx168_0)).trans hx168_0
        go_wp2
        go_roundg k1
        case measure => omega
        case rel => exact ⟨(wrap64 (x9_1 + (rd L x20_1))), (wrap64 (x20_1 + 1)), (by first | rfl | (congr 1; unfold wrap64; omega)), (by first | rfl | (congr 1; unfold wrap64; omega)), H', HB⟩
       ·rw [if_neg c12] at H
        exact absurd H (by simp)
      ·rw [if_neg c11] at H
       have c11b0 : decide (x20_1 < (L.length : Int)) = false := decide_eq_false c11
       obtain rfl := Option.some.inj H
       clear H
       go_wp2
       go_ret
       exact ⟨rfl, HB.out⟩
   ·rw [if_neg c8] at H
    exact absurd H (by simp)
  ·rw [if_neg c7] at H
   exact absurd H (by simp)
 ·rw [if_neg c6] at H
  exact absurd H (by simp)
def impl_lineReaches.f  : Option ((List (S129))) := some (([(⟨9, 9, 14⟩ : S129), (⟨10, 10, 4⟩ : S129), (⟨32, 32, 3⟩ : S129), (⟨33, 33, 10⟩ : S129), (⟨34, 34, 11⟩ : S129), (⟨40, 40, 8⟩ : S129), (⟨41, 41, 9⟩ : S129), (⟨44, 44, 13⟩ : S129), (⟨45, 45, 12⟩ : S129), (⟨46, 47, 13⟩ : S129), (⟨48, 57, 2⟩ : S129), (⟨58, 59, 13⟩ : S129), (⟨63, 63, 10⟩ : S129), (⟨91, 91, 8⟩ : S129), (⟨93, 93, 9⟩ : S129), (⟨123, 123, 8⟩ : S129), (⟨125, 125, 9⟩ : S129), (⟨160, 160, 5⟩ : S129), (⟨173, 173, 14⟩ : S129), (⟨1632, 1641, 2⟩ : S129), (⟨8203, 8203, 6⟩ : S129), (⟨8205, 8205, 7⟩ : S129), (⟨19968, 40959, 15⟩ : S129)] : List (S129)))
theorem impl_lineReaches.calls  (r : List (S129)) (w : World) (h : impl_lineReaches.f  = some r) :
  Calls Try.prog 147 #[] w fun e w' => ∃ v0_ : Value, e = .returned (v0_) ∧ Kd.R k129 129 w' w.heap.size (fun _ => True) v0_ r ∧ Below w.heap.size w w' := by
 have hu129 := Try.underlying129
 have HB := za.mk (Below.refl w.heap.size w)
 have H : (some (([(⟨9, 9, 14⟩ : S129), (⟨10, 10, 4⟩ : S129), (⟨32, 32, 3⟩ : S129), (⟨33, 33, 10⟩ : S129), (⟨34, 34, 11⟩ : S129), (⟨40, 40, 8⟩ : S129), (⟨41, 41, 9⟩ : S129), (⟨44, 44, 13⟩ : S129), (⟨45, 45, 12⟩ : S129), (⟨46, 47, 13⟩ : S129), (⟨48, 57, 2⟩ : S129), (⟨58, 59, 13⟩ : S129), (⟨63, 63, 10⟩ : S129), (⟨91, 91, 8⟩ : S129), (⟨93, 93, 9⟩ : S129), (⟨123, 123, 8⟩ : S129), (⟨125, 125, 9⟩ : S129), (⟨160, 160, 5⟩ : S129), (⟨173, 173, 14⟩ : S129), (⟨1632, 1641, 2⟩ : S129), (⟨8203, 8203, 6⟩ : S129), (⟨8205, 8205, 7⟩ : S129), (⟨19968, 40959, 15⟩ : S129)] : List (S129)))) = some r := h
 clear h
 obtain ⟨y347, hy347⟩ : ∃ y_ : List (S129), y_ = (([(⟨9, 9, 14⟩ : S129), (⟨10, 10, 4⟩ : S129), (⟨32, 32, 3⟩ : S129), (⟨33, 33, 10⟩ : S129), (⟨34, 34, 11⟩ : S129), (⟨40, 40, 8⟩ : S129), (⟨41, 41, 9⟩ : S129), (⟨44, 44, 13⟩ : S129), (⟨45, 45, 12⟩ : S129), (⟨46, 47, 13⟩ : S129), (⟨48, 57, 2⟩ : S129), (⟨58, 59, 13⟩ : S129), (⟨63, 63, 10⟩ : S129), (⟨91, 91, 8⟩ : S129), (⟨93, 93, 9⟩ : S129), (⟨123, 123, 8⟩ : S129), (⟨125, 125, 9⟩ : S129), (⟨160, 160, 5⟩ : S129), (⟨173, 173, 14⟩ : S129), (⟨1632, 1641, 2⟩ : S129), (⟨8203, 8203, 6⟩ : S129), (⟨8205, 8205, 7⟩ : S129), (⟨19968, 40959, 15⟩ : S129)] : List (S129))) := ⟨_, rfl⟩
 replace H : (some y347) = some r := by first | (rw [hy347]; with_reducible exact H) | (have H2_ := (Option.bind_some _ _).symm.trans H; rw [hy347]; with_reducible exact H2_) | (have H2_ := (Option.bind_some _ _).symm.trans H; with_reducible exact H2_) | with_reducible exact H | (rw [hy347]; exact H) | exact H
 have Ny347 := za.mk hy347
 clear hy347
 obtain rfl := Option.some.inj H
 go_enter Try.func147, Try.ntmps147
 go_wp2_with (first | ((with_reducible refine zw (N := 24) rfl ?_); refine Kd.zwa k129 _ 129 ?hg (N := 24) ?hd (xs := ([(⟨9, 9, 14⟩ : S129), (⟨10, 10, 4⟩ : S129), (⟨32, 32, 3⟩ : S129), (⟨33, 33, 10⟩ : S129), (⟨34, 34, 11⟩ : S129), (⟨40, 40, 8⟩ : S129), (⟨41, 41, 9⟩ : S129), (⟨44, 44, 13⟩ : S129), (⟨45, 45, 12⟩ : S129), (⟨46, 47, 13⟩ : S129), (⟨48, 57, 2⟩ : S129), (⟨58, 59, 13⟩ : S129), (⟨63, 63, 10⟩ : S129), (⟨91, 91, 8⟩ : S129), (⟨93, 93, 9⟩ : S129), (⟨123, 123, 8⟩ : S129), (⟨125, 125, 9⟩ : S129), (⟨160, 160, 5⟩ : S129), (⟨173, 173, 14⟩ : S129), (⟨1632, 1641, 2⟩ : S129), (⟨8203, 8203, 6⟩ : S129), (⟨8205, 8205, 7⟩ : S129), (⟨19968, 40959, 15⟩ : S129)] : List (S129))) (inner := [.int .i64 9, .int .i64 9, .int .i64 14, .int .i64 10, .int .i64 10, .int .i64 4, .int .i64 32, .int .i64 32, .int .i64 3, .int .i64 33, .int .i64 33, .int .i64 10, .int .i64 34, .int .i64 34, .int .i64 11, .int .i64 40, .int .i64 40, .int .i64 8, .int .i64 41, .int .i64 41, .int .i64 9, .int .i64 44, .int .i64 44, .int .i64 13, .int .i64 45, .int .i64 45, .int .i64 12, .int .i64 46, .int .i64 47, .int .i64 13, .int .i64 48, .int .i64 57, .int .i64 2, .int .i64 58, .int .i64 59, .int .i64 13, .int .i64 63, .int .i64 63, .int .i64 10, .int .i64 91, .int .i64 91, .int .i64 8, .int .i64 93, .int .i64 93, .int .i64 9, .int .i64 123, .int .i64 123, .int .i64 8, .int .i64 125, .int .i64 125, .int .i64 9, .int .i64 160, .int .i64 160, .int .i64 5, .int .i64 173, .int .i64 173, .int .i64 14, .int .i64 1632, .int .i64 1641, .int .i64 2, .int .i64 8203, .int .i64 8203, .int .i64 6, .int .i64 8205, .int .i64 8205, .int .i64 7, .int .i64 19968, .int .i64 40959, .int .i64 15]) (ok := fun _ => True) (okp := fun _ => True) ?hr ?hp (fun _ hk => hk) trivial (Below.refl _ _) (Nat.le_refl _) (by simp) ?_; (case hd => rfl); (case hg => rfl); (case hr => first | (go_simp; done) | (go_simp; rfl)); (case hp => exact (Reps.c3 (show Kd.M k129 _ _ _ (⟨9, 9, 14⟩ : S129) [.int .i64 9, .int .i64 9, .int .i64 14] from (zna _ _ _ (⟨9, 9, 14⟩ : S129) )) (Reps.c3 (show Kd.M k129 _ _ _ (⟨10, 10, 4⟩ : S129) [.int .i64 10, .int .i64 10, .int .i64 4] from (zna _ _ _ (⟨10, 10, 4⟩ : S129) )) (Reps.c3 (show Kd.M k129 _ _ _ (⟨32, 32, 3⟩ : S129) [.int .i64 32, .int .i64 32, .int .i64 3] from (zna _ _ _ (⟨32, 32, 3⟩ : S129) )) (Reps.c3 (show Kd.M k129 _ _ _ (⟨33, 33, 10⟩ : S129) [.int .i64 33, .int .i64 33, .int .i64 10] from (zna _ _ _ (⟨33, 33, 10⟩ : S129) )) (Reps.c3 (show Kd.M k129 _ _ _ (⟨34, 34, 11⟩ : S129) [.int .i64 34, .int .i64 34, .int .i64 11] from (zna _ _ _ (⟨34, 34, 11⟩ : S129) )) (Reps.c3 (show Kd.M k129 _ _ _ (⟨40, 40, 8⟩ : S129) [.int .i64 40, .int .i64 40, .int .i64 8] from (zna _ _ _ (⟨40, 40, 8⟩ : S129) )) (Reps.c3 (show Kd.M k129 _ _ _ (⟨41, 41, 9⟩ : S129) [.int .i64 41, .int .i64 41, .int .i64 9] from (zna _ _ _ (⟨41, 41, 9⟩ : S129) )) (Reps.c3 (show Kd.M k129 _ _ _ (⟨44, 44, 13⟩ : S129) [.int .i64 44, .int .i64 44, .int .i64 13] from (zna _ _ _ (⟨44, 44, 13⟩ : S129) )) (Reps.c3 (show Kd.M k129 _ _ _ (⟨45, 45, 12⟩ : S129) [.int .i64 45, .int .i64 45, .int .i64 12] from (zna _ _ _ (⟨45, 45, 12⟩ : S129) )) (Reps.c3 (show Kd.M k129 _ _ _ (⟨46, 47, 13⟩ : S129) [.int .i64 46, .int .i64 47, .int .i64 13] from (zna _ _ _ (⟨46, 47, 13⟩ : S129) )) (Reps.c3 (show Kd.M k129 _ _ _ (⟨48, 57, 2⟩ : S129) [.int .i64 48, .int .i64 57, .int .i64 2] from (zna _ _ _ (⟨48, 57, 2⟩ : S129) )) (Reps.c3 (show Kd.M k129 _ _ _ (⟨58, 59, 13⟩ : S129) [.int .i64 58, .int .i64 59, .int .i64 13] from (zna _ _ _ (⟨58, 59, 13⟩ : S129) )) (Reps.c3 (show Kd.M k129 _ _ _ (⟨63, 63, 10⟩ : S129) [.int .i64 63, .int .i64 63, .int .i64 10] from (zna _ _ _ (⟨63, 63, 10⟩ : S129) )) (Reps.c3 (show Kd.M k129 _ _ _ (⟨91, 91, 8⟩ : S129) [.int .i64 91, .int .i64 91, .int .i64 8] from (zna _ _ _ (⟨91, 91, 8⟩ : S129) )) (Reps.c3 (show Kd.M k129 _ _ _ (⟨93, 93, 9⟩ : S129) [.int .i64 93, .int .i64 93, .int .i64 9] from (zna _ _ _ (⟨93, 93, 9⟩ : S129) )) (Reps.c3 (show Kd.M k129 _ _ _ (⟨123, 123, 8⟩ : S129) [.int .i64 123, .int .i64 123, .int .i64 8] from (zna _ _ _ (⟨123, 123, 8⟩ : S129) )) (Reps.c3 (show Kd.M k129 _ _ _ (⟨125, 125, 9⟩ : S129) [.int .i64 125, .int .i64 125, .int .i64 9] from (zna _ _ _ (⟨125, 125, 9⟩ : S129) )) (Reps.c3 (show Kd.M k129 _ _ _ (⟨160, 160, 5⟩ : S129) [.int .i64 160, .int .i64 160, .int .i64 5] from (zna _ _ _ (⟨160, 160, 5⟩ : S129) )) (Reps.c3 (show Kd.M k129 _ _ _ (⟨173, 173, 14⟩ : S129) [.int .i64 173, .int .i64 173, .int .i64 14] from (zna _ _ _ (⟨173, 173, 14⟩ : S129) )) (Reps.c3 (show Kd.M k129 _ _ _ (⟨1632, 1641, 2⟩ : S129) [.int .i64 1632, .int .i64 1641, .int .i64 2] from (zna _ _ _ (⟨1632, 1641, 2⟩ : S129) )) (Reps.c3 (show Kd.M k129 _ _ _ (⟨8203, 8203, 6⟩ : S129) [.int .i64 8203, .int .i64 8203, .int .i64 6] from (zna _ _ _ (⟨8203, 8203, 6⟩ : S129) )) (Reps.c3 (show Kd.M k129 _ _ _ (⟨8205, 8205, 7⟩ : S129) [.int .i64 8205, .int .i64 8205, .int .i64 7] from (zna _ _ _ (⟨8205, 8205, 7⟩ : S129) )) (Reps.c3 (show Kd.M k129 _ _ _ (⟨19968, 40959, 15⟩ : S129) [.int .i64 19968, .int .i64 40959, .int .i64 15] from (zna _ _ _ (⟨19968, 40959, 15⟩ : S129) )) (Reps.none _ _))))))))))))))))))))))))); intro v348 w1 ho2 hb hg_ hnew_; clear hg_ hnew_; (first | rw [← Ny347.out] at ho2 | (simp only [Int.reduceToNat] at ho2; rw [← Ny347.out] at ho2)); have n0_ := za.mk (Kd.zqa ho2 (zp (by repeat (first | (with_reducible first | exact HB.out | apply zc | apply zb | apply zd) | exact HB.out)))); have n1_ := za.mk (zg (by repeat (first | (with_reducible first | exact HB.out | apply zc | apply zb | apply zd) | exact HB.out)) hb); clear HB; have HO349 := n0_; have HB := n1_; clear n0_ n1_; clear hb ho2))
 go_ret
 exact ⟨_, by first | rfl | (simp [zh, zi] <;> rfl) | (simp [*, zh, zi] <;> rfl), by (with_reducible repeat (first | apply Kd.zn | apply Kd.zo | apply Kd.zq)); exact HO349.out, by repeat (first | (with_reducible first | exact HB.out | apply zc | apply zb | apply zd) | exact HB.out)⟩
def impl_RuneLine.j0 : Nat → Int → Bool → Option (Int)
 | 0, _, _ => none
 | k + 1, x0, x11 => if x11 = true then (some 7) else ((impl_lineReaches.f).bind fun t351 => ((impl_find.f t351 x0 1).bind fun t354 => (some t354)))
def impl_RuneLine.f (k : Nat) (a0 : Int) : Option (Int) := (impl_RuneBidi.f a0).bind fun t350 => (if t350 = 9 then (impl_RuneLine.j0 k a0 true) else (impl_RuneLine.j0 k a0 (decide (t350 ≥ 14))))
theorem impl_RuneLine.calls (k : Nat) (a0 : Int) (r : Int) (w : World) (h : impl_RuneLine.f k a0 = some r) :
  Calls Try.prog 117 #[.int .i64 a0] w fun e w' => e = .returned (.int .i64 r) ∧ Below w.heap.size w w' := by
 have HB := za.mk (Below.refl w.heap.size w)
 have H : ((impl_RuneBidi.f a0).bind fun t350 => (if t350 = 9 then (impl_RuneLine.j0 k a0 true) else (impl_RuneLine.j0 k a0 (decide (t350 ≥ 14))))) = some r := h
 clear h
 replace H := Option.bind_eq_some_iff.mp H
 obtain ⟨t350, A20, H⟩ := H
 replace H : (if t350 = 9 then (impl_RuneLine.j0 k a0 true) else (impl_RuneLine.j0 k a0 (decide (t350 ≥ 14)))) = some r := H
 have A2 := za.mk A20
 clear A20
 have HC3 := za.mk H
 clear H
 go_enter Try.func117, Try.ntmps117
 go_upto_region 2 with (first | ((with_reducible refine zj (f := 128) rfl ?_); refine zgo (some 5) Try.func128 #[.int .i64 a0] rfl ?_; (with_reducible refine (impl_RuneBidi.calls a0 t350 _ A2.out).mono ?_); rintro e w4 ⟨rfl, hb⟩; refine ⟨_, rfl, ?_⟩; have n0_ := za.mk (zg (by repeat (first | (with_reducible first | exact HB.out | apply zc | apply zb | apply zd) | exact HB.out)) hb); clear HB; have HB := n0_; clear n0_; (try clear hb); (try clear hb2); (try clear hk); (try clear hi)))
 (try simp only [Act.put, List.setIfInBounds_toArray, List.set_cons_zero, List.set_cons_succ])
 go_cut [11] (fun v11 wc => ∃ (kq : Nat) (x11_2 : Bool), v11 = .bool x11_2 ∧ za (impl_RuneLine.j0 kq a0 x11_2 = some r) ∧ za (kq ≤ k) ∧ za (Below w.heap.size w wc))
 case first =>
  have H := HC3.out
  clear HC3
  by_cases c5 : t350 = 9
  ·rw [if_pos c5] at H
   have c5b0 : (t350 == 9) = true := beq_iff_eq.mpr c5
   have c5b1 : (t350 != 9) = false := bne_eq_false_iff_eq.mpr c5
   clear c5
   (first | rw [c5b0] | (simp only [zr, zs]; rw [c5b0]) | skip)
   have H' := za.mk H
   clear H
   go_wp2
   go_meet
   case rel => exact ⟨_, (true), (by first | rfl | (simp; done) | (simp [*]; done)), H', ⟨by first | omega | exact Nat.le_refl _⟩, ⟨by repeat (first | (with_reducible first | exact HB.out | apply zc | apply zb | apply zd) | exact HB.out)⟩⟩
  ·rw [if_neg c5] at H
   have c5b0 : (t350 == 9) = false := beq_eq_false_iff_ne.mpr c5
   have c5b1 : (t350 != 9) = true := bne_iff_ne.mpr c5
   (first | rw [c5b0] | (simp only [zr, zs]; rw [c5b0]) | skip)
   have H' := za.mk H
   clear H
   go_wp2
   go_meet
   case rel => exact ⟨_, (decide (t350 ≥ 14)), (by first | rfl | (simp; done) | (simp [*]; done)), H', ⟨by first | omega | exact Nat.le_refl _⟩, ⟨by repeat (first | (with_reducible first | exact HB.out | apply zc | apply zb | apply zd) | exact HB.out)⟩⟩
 case rest =>
  clear HC3
  try clear c1
  try clear p2
  try clear c5
  try clear c5b0
  try clear c5b1
  obtain ⟨kq, x11_2, rfl, HA, HJ2, HB⟩ := hcut
  cases kq with
  | zero => exact absurd HA.out (by simp [impl_RuneLine.j0])
  | succ kj2 =>
   have H := HA.out
   clear HA
   simp only [impl_RuneLine.j0] at H
   by_cases c6 : x11_2 = true
   ·subst c6
    have H1 : (some 7) = some r := by rw [if_pos rfl] at H; exact H
    clear H
    have H := H1
    clear H1
    obtain rfl := Option.some.inj H
    go_wp2
    go_ret
    exact ⟨by first | rfl | (simp [zh, zi] <;> rfl) | (simp [*, zh, zi] <;> rfl), by repeat (first | (with_reducible first | exact HB.out | apply zc | apply zb | apply zd) | exact HB.out)⟩
   ·replace c6 := Bool.eq_false_iff.mpr c6
    subst c6
    have H1 : ((impl_lineReaches.f).bind fun t351 => ((impl_find.f t351 a0 1).bind fun t354 => (some t354))) = some r := by rw [if_neg (show ¬ (false = true) by decide)] at H; exact H
    clear H
    have H := H1
    clear H1
    replace H := Option.bind_eq_some_iff.mp H
    obtain ⟨t351, A70, H⟩ := H
    replace H : ((impl_find.f t351 a0 1).bind fun t354 => (some t354)) = some r := H
    have A7 := za.mk A70
    clear A70
    replace H := Option.bind_eq_some_iff.mp H
    obtain ⟨t354, A80, H⟩ := H
    replace H : (some t354) = some r := H
    have A8 := za.mk A80
    clear A80
    obtain rfl := Option.some.inj H
    go_wp2_with (first | ((with_reducible refine zj (f := 147) rfl ?_); refine zgo (some 12) Try.func147 #[] rfl ?_; (with_reducible refine (impl_lineReaches.calls  t351 _ A7.out).mono ?_); rintro e w9 ⟨v352, rfl, ho0, hb⟩; refine ⟨_, rfl, ?_⟩; have n0_ := za.mk (Kd.zqa ho0 (zp (by repeat (first | (with_reducible first | exact HB.out | apply zc | apply zb | apply zd) | exact HB.out)))); have n1_ := za.mk (zg (by repeat (first | (with_reducible first | exact HB.out | apply zc | apply zb | apply zd) | exact HB.out)) hb); clear HB; have HO353 := n0_; have HB := n1_; clear n0_ n1_; (try clear hb); (try clear hb2); (try clear hk); (try clear hi); (try clear ho0); obtain ⟨Ao10, co10, eo10⟩ := Kd.zia HO353.out; subst eo10) | ((with_reducible refine zj (f := 146) rfl ?_); refine zgo (some 14) Try.func146 #[.slice Ao10 t351.length co10, .int .i64 a0, .int .i64 1] rfl ?_; (with_reducible refine (impl_find.calls _ _ t351 a0 1 t354 _ ?side1 ?side2 A8.out).mono ?_); (case side1 => repeat (first | exact (Kd.zt HO353.out).2.2 | (with_reducible refine Kd.zea ?_ _) | (with_reducible refine Kd.zga ?_ _) | (with_reducible refine Kd.zha ?_))); (case side2 => exact (Kd.zt HO353.out).2.1); rintro e w11 ⟨rfl, hb⟩; refine ⟨_, rfl, ?_⟩; have n0_ := za.mk (Kd.zba (by (with_reducible repeat (first | apply Kd.zn | apply Kd.zo | apply Kd.zq)); exact HO353.out) hb); have n1_ := za.mk (zg (by repeat (first | (with_reducible first | exact HB.out | apply zc | apply zb | apply zd) | exact HB.out)) hb); clear HO353; clear HB; have HO353 := n0_; have HB := n1_; clear n0_ n1_; (try clear hb); (try clear hb2); (try clear hk); (try clear hi)))
    go_ret
    exact ⟨by first | rfl | (simp [zh, zi] <;> rfl) | (simp [*, zh, zi] <;> rfl), by repeat (first | (with_reducible first | exact HB.out | apply zc | apply zb | apply zd) | exact HB.out)⟩
def impl_oneOf.l0 : Nat → Int → List Int → Int → Int → Option (Bool)
 | 0, _, _, _, _ => none
 | k + 1, x0, x7, x8, x9 => if x9 < x8 then (if 0 ≤ x9 then (if x9 < (x7.length : Int) then (if x0 = (rd x7 x9) then (some true) else (impl_oneOf.l0 k x0 x7 x8 (wrap64 (x9 + 1)))) else (none)) else (none)) else (some false)
def impl_oneOf.f (k : Nat) (a0 : Int) (l1 : List Int) : Option (Bool) := impl_oneOf.l0 k a0 l1 (l1.length : Int) 0
theorem impl_oneOf.calls (k : Nat) (a0 : Int) (A1 : Option Addr) (c1 : Nat) (l1 : List Int) (r : Bool) (w : World) (hr1 : Kd.C (Kd.int .i64) w A1 l1.length l1) (hc1 : l1.length ≤ c1) (h : impl_oneOf.f k a0 l1 = some r) :
  Calls Try.prog 135 #[.int .i64 a0, .slice A1 l1.length c1] w fun e w' => e = .returned (.bool r) ∧ zm w w' := by
 have HR1 := za.mk hr1
 have HC1 := za.mk hc1
 clear hr1 hc1
 have H : (impl_oneOf.l0 k a0 l1 (l1.length : Int) 0) = some r := h
 clear h
 have H' := za.mk H
 clear H
 go_enter Try.func135, Try.ntmps135
 go_wp2
 go_loopg [9] k (fun kq v9 w' => ∃ (x9_1 : Int), v9 = .int .i64 x9_1 ∧ za (impl_oneOf.l0 kq a0 l1 (l1.length : Int) x9_1 = some r) ∧ za (kq ≤ k) ∧ zm w w')
 case atStart => exact ⟨(0), (by first | rfl | (simp; done) | (simp [*]; done)), H', ⟨Nat.le_refl _⟩, by repeat (first | exact zm.refl _ | apply zm.step)⟩
 case round =>
  clear H'
  try clear c1
  try clear p2
  obtain ⟨x9_1, rfl, HA, HK1, ⟨m1, rfl⟩⟩ := hrel
  cases gk with
  | zero => exact absurd HA.out (by simp [impl_oneOf.l0])
  | succ k1 =>
   have H := HA.out
   clear HA
   simp only [impl_oneOf.l0] at H
   by_cases c3 : x9_1 < (l1.length : Int)
   ·rw [if_pos c3] at H
    have c3b0 : decide (x9_1 < (l1.length : Int)) = true := decide_eq_true c3
    clear c3
    by_cases c4 : 0 ≤ x9_1
    ·rw [if_pos c4] at H
     have c4b0 : decide (0 ≤ x9_1) = true := decide_eq_true c4
     clear c4
     by_cases c5 : x9_1 < (l1.length : Int)
     ·rw [if_pos c5] at H
      have c5b0 : decide (x9_1 < (l1.length : Int)) = true := decide_eq_true c5
      clear c5
      by_cases c6 : a0 = (rd l1 x9_1)
      ·rw [if_pos c6] at H
       have c6b0 : (a0 == (rd l1 x9_1)) = true := beq_iff_eq.mpr c6
       have c6b1 : (a0 != (rd l1 x9_1)) = false := bne_eq_false_iff_eq.mpr c6
       clear c6
       obtain rfl := Option.some.inj H
       have p355 : 0 ≤ (x9_1 : Int) := of_decide_eq_true (by assumption)
       have q355 : x9_1 < (l1.length : Int) := of_decide_eq_true (by assumption)
       obtain ⟨ad355, e355, hx355_0⟩ := Kd.zfa HR1.out x9_1 p355 q355
       cases e355
       replace p355 := eq_true p355
       replace q355 := eq_true q355
       go_wp2
       go_ret
       exact ⟨by first | rfl | (simp; done) | (simp [*]; done), by repeat (first | exact zm.refl _ | apply zm.step)⟩
      ·rw [if_neg c6] at H
       have c6b0 : (a0 == (rd l1 x9_1)) = false := beq_eq_false_iff_ne.mpr c6
       have c6b1 : (a0 != (rd l1 x9_1)) = true := bne_iff_ne.mpr c6
       have H' := za.mk H
       clear H
       have p355 : 0 ≤ (x9_1 : Int) := of_decide_eq_true (by assumption)
       have q355 : x9_1 < (l1.length : Int) := of_decide_eq_true (by assumption)
       obtain ⟨ad355, e355, hx355_0⟩ := Kd.zfa HR1.out x9_1 p355 q355
       cases e355
       replace p355 := eq_true p355
       replace q355 := eq_true q355
       go_wp2
       go_roundg k1
       case measure => have := HK1.out; omega
       case rel => exact ⟨(wrap64 (x9_1 + 1)), (by first | rfl | (simp; done) | (simp [*]; done)), H', ⟨by have := HK1.out; omega⟩, by repeat (first | exact zm.refl _ | apply zm.step)⟩
     ·rw [if_neg c5] at H
      exact absurd H (by simp)
    ·rw [if_neg c4] at H
     exact absurd H (by simp)
   ·rw [if_neg c3] at H
    have c3b0 : decide (x9_1 < (l1.length : Int)) = false := decide_eq_false c3
    clear c3
    obtain rfl := Option.some.inj H
    go_wp2
    go_ret
    exact ⟨by first | rfl | (simp; done) | (simp [*]; done), by repeat (first | exact zm.refl _ | apply zm.step)⟩
end Go.Proofs.Ytmjhdgofepdgkaa.PFnExactFillCost
