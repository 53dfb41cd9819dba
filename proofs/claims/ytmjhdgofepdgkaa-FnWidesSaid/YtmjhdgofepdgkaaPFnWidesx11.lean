-- Written by a program of this session (wip/tools) out of the translation; its shape is that of the kit print.
import Derived.Test.YtmjhdgofepdgkaaPFnWidesx0
import Derived.Test.YtmjhdgofepdgkaaPFnWidesx6
import Derived.Test.YtmjhdgofepdgkaaPFnWidesx7
import Derived.Test.YtmjhdgofepdgkaaPFnWidesx8
import Derived.Test.YtmjhdgofepdgkaaPFnWidesx9
import Derived.Test.YtmjhdgofepdgkaaPFnWidesx10
namespace Go.Proofs.Ytmjhdgofepdgkaa.PFnWides
open Go.RowKit Go.Proofs.YtmjhdgofepdgkaaW.PrintWords Go.Proofs.YtmjhdgofepdgkaaW.PrintLast Go.Proofs.YtmjhdgofepdgkaaW.PrintMore
attribute [local go_sem] zlb znb zvb zwb zbb zcb zob zqb
set_option linter.unusedVariables false
set_option maxHeartbeats 8000000
set_option maxRecDepth 100000
set_option linter.unusedSimpArgs false
def impl_starts.l0 : Nat → List Int → List Bool → Int → Int → Option (List Int)
 | 0, _, _, _, _ => none
 | k + 1, x3, x7, x8, x9 => if x9 < x8 then (if 0 ≤ x9 then (if x9 < (x7.length : Int) then (if rdOf false x7 x9 = true then (impl_starts.l0 k x3 x7 x8 (wrap64 (x9 + 1))) else (if x3.length < 17592186044416 then (impl_starts.l0 k (x3 ++ [x9]) x7 x8 (wrap64 (x9 + 1))) else (none))) else (none)) else (none)) else (some x3)
def impl_starts.f (k : Nat) (l0 : List Int) : Option (List Int) := (impl_joined.f k l0).bind fun t229 => (impl_starts.l0 k ([] : List Int) t229 (t229.length : Int) 0)
theorem impl_starts.calls (k : Nat) (A0 : Option Addr) (c0 : Nat) (l0 : List Int) (r : List Int) (w : World) (hr0 : Kd.C (Kd.int .i64) w A0 l0.length l0) (hc0 : l0.length ≤ c0) (h : impl_starts.f k l0 = some r) :
  Calls Try.prog 102 #[.slice A0 l0.length c0] w fun e w' => ∃ v0_ : Value, e = .returned (v0_) ∧ Kd.R (Kd.int .i64) 3 w' w.heap.size (fun _ => True) v0_ r ∧ Below w.heap.size w w' := by
 have HR0 := za.mk hr0
 have HC0 := za.mk hc0
 clear hr0 hc0
 have HB := za.mk (Below.refl w.heap.size w)
 have H : ((impl_joined.f k l0).bind fun t229 => (impl_starts.l0 k ([] : List Int) t229 (t229.length : Int) 0)) = some r := h
 clear h
 replace H := Option.bind_eq_some_iff.mp H
 obtain ⟨t229, A20, H⟩ := H
 replace H : (impl_starts.l0 k ([] : List Int) t229 (t229.length : Int) 0) = some r := H
 have A2 := za.mk A20
 clear A20
 have H' := za.mk H
 clear H
 go_enter Try.func102, Try.ntmps102
 go_wp2_with (first | ((with_reducible refine zt (f := 105) rfl ?_); refine zgo (some 7) Try.func105 #[.slice A0 l0.length c0] rfl ?_; (with_reducible refine (impl_joined.calls k _ _ l0 t229 _ ?side1 ?side2 A2.out).mono ?_); (case side1 => repeat (first | exact HR0.out | (with_reducible refine Kd.zca ?_ _) | (with_reducible refine Kd.zda ?_ _) | (with_reducible refine Kd.zfa ?_))); (case side2 => exact HC0.out); rintro e w3 ⟨v230, rfl, ho0, hb⟩; refine ⟨_, rfl, ?_⟩; have n0_ := za.mk (Kd.zqa ho0 (zaa (by repeat (first | (with_reducible first | exact HB.out | apply ze | apply zb | apply zd) | exact HB.out)))); have n1_ := za.mk (zv (by repeat (first | (with_reducible first | exact HB.out | apply ze | apply zb | apply zd) | exact HB.out)) hb); clear HB; have HO231 := n0_; have HB := n1_; clear n0_ n1_; (try clear hb); (try clear hb2); (try clear hk); (try clear hi); (try clear ho0); obtain ⟨Ao4, co4, eo4⟩ := Kd.zka HO231.out; subst eo4))
 go_loopg [3, 9] k (fun kq v3 v9 w' => ∃ (x3_1 : List Int) (x9_1 : Int), v9 = .int .i64 x9_1 ∧ za (impl_starts.l0 kq x3_1 t229 (t229.length : Int) x9_1 = some r) ∧ za (kq ≤ k) ∧ za (Kd.R (Kd.int .i64) 3 w' w.heap.size (fun _ => True) v3 x3_1) ∧ za (Kd.R Kd.bool 4 w' w.heap.size (fun _ => True) (.slice Ao4 t229.length co4) t229) ∧ za (Below w.heap.size w w'))
 case atStart => exact ⟨(([] : List Int)), (0), (by first | rfl | (simp; done) | (simp [*]; done)), H', ⟨Nat.le_refl _⟩, ⟨by first | exact Kd.R_nil _ _ _ _ _ | exact Kd.N_nil _ _ _ _ _ | exact Kd.V_nil _ _ _ _ _ | exact Kd.Q_nil _ _ _ _ _ | exact Kd.S_nil _ _ _ _ _⟩, ⟨by (with_reducible repeat (first | apply Kd.zg | apply Kd.zh | apply Kd.zm)); exact HO231.out⟩, ⟨by repeat (first | (with_reducible first | exact HB.out | apply ze | apply zb | apply zd) | exact HB.out)⟩⟩
 case round =>
  clear H'
  try clear c1
  try clear p2
  obtain ⟨x3_1, x9_1, rfl, HA, HK1, HO_3, HO_7, HB⟩ := hrel
  cases gk with
  | zero => exact absurd HA.out (by simp [impl_starts.l0])
  | succ k1 =>
   have H := HA.out
   clear HA
   simp only [impl_starts.l0] at H
   by_cases c5 : x9_1 < (t229.length : Int)
   ·rw [if_pos c5] at H
    have c5b0 : decide (x9_1 < (t229.length : Int)) = true := decide_eq_true c5
    clear c5
    by_cases c6 : 0 ≤ x9_1
    ·rw [if_pos c6] at H
     have c6b0 : decide (0 ≤ x9_1) = true := decide_eq_true c6
     clear c6
     by_cases c7 : x9_1 < (t229.length : Int)
     ·rw [if_pos c7] at H
      have c7b0 : decide (x9_1 < (t229.length : Int)) = true := decide_eq_true c7
      clear c7
      obtain ⟨bq8, hbq8⟩ : ∃ b_ : Bool, b_ = (rdOf false t229 x9_1) := ⟨_, rfl⟩
      replace H : (if bq8 = true then (impl_starts.l0 k1 x3_1 t229 (t229.length : Int) (wrap64 (x9_1 + 1))) else (if x3_1.length < 17592186044416 then (impl_starts.l0 k1 (x3_1 ++ [x9_1]) t229 (t229.length : Int) (wrap64 (x9_1 + 1))) else (none))) = some r := by rw [← hbq8] at H; exact H
      have Nbq8 := za.mk hbq8
      clear hbq8
      by_cases c9 : bq8 = true
      ·subst c9
       have H1 : (impl_starts.l0 k1 x3_1 t229 (t229.length : Int) (wrap64 (x9_1 + 1))) = some r := by rw [if_pos rfl] at H; exact H
       clear H
       have H := H1
       clear H1
       have H' := za.mk H
       clear H
       have p232 : 0 ≤ (x9_1 : Int) := of_decide_eq_true (by assumption)
       have q232 : x9_1 < (t229.length : Int) := of_decide_eq_true (by assumption)
       obtain ⟨ad232, e232, hx232_0⟩ := Kd.at_bool (Kd.zw HO_7.out).2.2 x9_1 p232 q232
       (try rw [← Nbq8.out] at hx232_0)
       cases e232
       replace p232 := eq_true p232
       replace q232 := eq_true q232
       go_wp2
       go_roundg k1
       case measure => have := HK1.out; omega
       case rel => exact ⟨(x3_1), (wrap64 (x9_1 + 1)), (by first | rfl | (simp; done) | (simp [*]; done)), H', ⟨by have := HK1.out; omega⟩, ⟨by (with_reducible repeat (first | apply Kd.zg | apply Kd.zh | apply Kd.zm)); exact HO_3.out⟩, ⟨by (with_reducible repeat (first | apply Kd.zg | apply Kd.zh | apply Kd.zm)); exact HO_7.out⟩, ⟨by repeat (first | (with_reducible first | exact HB.out | apply ze | apply zb | apply zd) | exact HB.out)⟩⟩
      ·replace c9 := Bool.eq_false_iff.mpr c9
       subst c9
       have H1 : (if x3_1.length < 17592186044416 then (impl_starts.l0 k1 (x3_1 ++ [x9_1]) t229 (t229.length : Int) (wrap64 (x9_1 + 1))) else (none)) = some r := by rw [if_neg (show ¬ (false = true) by decide)] at H; exact H
       clear H
       have H := H1
       clear H1
       by_cases c10 : x3_1.length < 17592186044416
       ·rw [if_pos c10] at H
        have LMc10 := za.mk c10
        clear c10
        obtain ⟨y233, hy233⟩ : ∃ y_ : List Int, y_ = (x3_1 ++ [x9_1]) := ⟨_, rfl⟩
        replace H : (impl_starts.l0 k1 y233 t229 (t229.length : Int) (wrap64 (x9_1 + 1))) = some r := by first | (rw [hy233]; with_reducible exact H) | (have H2_ := (Option.bind_some _ _).symm.trans H; rw [hy233]; with_reducible exact H2_) | (have H2_ := (Option.bind_some _ _).symm.trans H; with_reducible exact H2_) | with_reducible exact H | (rw [hy233]; exact H) | exact H
        have Ny233 := za.mk hy233
        clear hy233
        have H' := za.mk H
        clear H
        have p232 : 0 ≤ (x9_1 : Int) := of_decide_eq_true (by assumption)
        have q232 : x9_1 < (t229.length : Int) := of_decide_eq_true (by assumption)
        obtain ⟨ad232, e232, hx232_0⟩ := Kd.at_bool (Kd.zw HO_7.out).2.2 x9_1 p232 q232
        (try rw [← Nbq8.out] at hx232_0)
        cases e232
        replace p232 := eq_true p232
        replace q232 := eq_true q232
        go_wp2_with (first | ((with_reducible refine zza (b := .append) (xs := #[.tmp 16, .tmp 18]) rfl ?_); at_builtin; refine Kd.zkc (Kd.int .i64) (w0 := w) w.heap.size rfl (.tmp 16) (.tmp 18) 22 3 (.int .i64 0) 8 rfl Try.underlying22 info3 rfl (by decide) (by omega) u3 x3_1 x9_1 [.int .i64 x9_1] (fun _ => True) (fun _ => False) rfl rfl ?aP (fun _ hk => hk.elim) ?aF ?aO ?aB ?aS ?aL ?_; (case aP => exact rfl); (case aB => exact (by repeat (first | (with_reducible first | exact HB.out | apply ze | apply zb | apply zd) | exact HB.out))); (case aF => exact (fun _ _ => trivial)); (case aO => exact (by (with_reducible repeat (first | apply Kd.zg | apply Kd.zh | apply Kd.zm)); exact HO_3.out)); (case aS => exact (zaa (by repeat (first | (with_reducible first | exact HB.out | apply ze | apply zb | apply zd) | exact HB.out)))); (case aL => have := LMc10.out; omega); intro v234 w11 ho hb hg hat; rw [← Ny233.out] at ho; have n0_ := za.mk (Kd.R_over' (by (with_reducible repeat (first | apply Kd.zg | apply Kd.zh | apply Kd.zm)); exact HO_7.out) (Kd.R_typed (by (with_reducible repeat (first | apply Kd.zg | apply Kd.zh | apply Kd.zm)); exact HO_3.out)) (by decide) hg); have n1_ := za.mk (hb); have n2_ := za.mk (ho); clear HO_7; clear HB; clear HO_3; have HO_7 := n0_; have HB := n1_; have HO235 := n2_; clear n0_ n1_ n2_; clear ho hb hg hat))
        go_roundg k1
        case measure => have := HK1.out; omega
        case rel => exact ⟨(y233), (wrap64 (x9_1 + 1)), (by first | rfl | (simp; done) | (simp [*]; done)), H', ⟨by have := HK1.out; omega⟩, ⟨by (with_reducible repeat (first | apply Kd.zg | apply Kd.zh | apply Kd.zm)); exact HO235.out⟩, ⟨by (with_reducible repeat (first | apply Kd.zg | apply Kd.zh | apply Kd.zm)); exact HO_7.out⟩, ⟨by repeat (first | (with_reducible first | exact HB.out | apply ze | apply zb | apply zd) | exact HB.out)⟩⟩
       ·rw [if_neg c10] at H
        exact absurd H (by simp)
     ·rw [if_neg c7] at H
      exact absurd H (by simp)
    ·rw [if_neg c6] at H
     exact absurd H (by simp)
   ·rw [if_neg c5] at H
    have c5b0 : decide (x9_1 < (t229.length : Int)) = false := decide_eq_false c5
    clear c5
    obtain rfl := Option.some.inj H
    go_wp2
    go_ret
    exact ⟨_, by first | rfl | (simp [zi, zj] <;> rfl) | (simp [*, zi, zj] <;> rfl), by (with_reducible repeat (first | apply Kd.zg | apply Kd.zh | apply Kd.zm)); exact HO_3.out, by repeat (first | (with_reducible first | exact HB.out | apply ze | apply zb | apply zd) | exact HB.out)⟩
def impl_widesOf.l0 : Nat → List Int → List (S40) → List Int → List Int → Int → Int → Option (List Int)
 | 0, _, _, _, _, _, _ => none
 | k + 1, x0, x1, x5, x12, x13, x14 => if x14 < x13 then (if 0 ≤ x14 then (if x14 < (x12.length : Int) then ((impl_clusterWide.f k x0 (rd x12 x14)).bind fun t243 => ((impl_lookAt.f k x1 (rd x12 x14)).bind fun bt244 => (if 0 ≤ (rd x12 x14) then (if (rd x12 x14) < (x5.length : Int) then (impl_widesOf.l0 k x0 x1 (x5.set ((rd x12 x14) : Int).toNat (wrap64 (t243 * bt244.1))) x12 x13 (wrap64 (x14 + 1))) else (none)) else (none)))) else (none)) else (none)) else (some x5)
def impl_widesOf.f (k : Nat) (l0 : List Int) (l1 : List (S40)) : Option (List Int) := if 0 ≤ (l0.length : Int) then (if ((l0.length : Int) : Int).toNat ≤ 35184372088832 then ((impl_starts.f k l0).bind fun t239 => (impl_widesOf.l0 k l0 l1 (List.replicate ((l0.length : Int) : Int).toNat 0) t239 (t239.length : Int) 0)) else (none)) else (none)
theorem impl_widesOf.calls (k : Nat) (A0 : Option Addr) (c0 : Nat) (l0 : List Int) (A1 : Option Addr) (c1 : Nat) (l1 : List (S40)) (r : List Int) (w : World) (hr0 : Kd.C (Kd.int .i64) w A0 l0.length l0) (hc0 : l0.length ≤ c0) (hr1 : Kd.C k40 w A1 l1.length l1) (hc1 : l1.length ≤ c1) (h : impl_widesOf.f k l0 l1 = some r) :
  Calls Try.prog 55 #[.slice A0 l0.length c0, .slice A1 l1.length c1] w fun e w' => ∃ v0_ : Value, e = .returned (v0_) ∧ Kd.R (Kd.int .i64) 3 w' w.heap.size (fun _ => True) v0_ r ∧ Below w.heap.size w w' := by
 have HR0 := za.mk hr0
 have HC0 := za.mk hc0
 clear hr0 hc0
 have HR1 := za.mk hr1
 have HC1 := za.mk hc1
 clear hr1 hc1
 have HB := za.mk (Below.refl w.heap.size w)
 have H : (if 0 ≤ (l0.length : Int) then (if ((l0.length : Int) : Int).toNat ≤ 35184372088832 then ((impl_starts.f k l0).bind fun t239 => (impl_widesOf.l0 k l0 l1 (List.replicate ((l0.length : Int) : Int).toNat 0) t239 (t239.length : Int) 0)) else (none)) else (none)) = some r := h
 clear h
 by_cases c3 : 0 ≤ (l0.length : Int)
 ·rw [if_pos c3] at H
  have c3b0 := eq_true c3
  have c3b1 : decide (0 ≤ (l0.length : Int)) = true := decide_eq_true c3
  clear c3
  by_cases c4 : ((l0.length : Int) : Int).toNat ≤ 35184372088832
  ·rw [if_pos c4] at H
   have c4b0 := eq_true c4
   have c4b1 : decide (((l0.length : Int) : Int).toNat ≤ 35184372088832) = true := decide_eq_true c4
   clear c4
   obtain ⟨y236, hy236⟩ : ∃ y_ : List Int, y_ = (List.replicate ((l0.length : Int) : Int).toNat 0) := ⟨_, rfl⟩
   replace H : ((impl_starts.f k l0).bind fun t239 => (impl_widesOf.l0 k l0 l1 y236 t239 (t239.length : Int) 0)) = some r := by first | (rw [hy236]; with_reducible exact H) | (have H2_ := (Option.bind_some _ _).symm.trans H; rw [hy236]; with_reducible exact H2_) | (have H2_ := (Option.bind_some _ _).symm.trans H; with_reducible exact H2_) | with_reducible exact H | (rw [hy236]; exact H) | exact H
   have Ny236 := za.mk hy236
   clear hy236
   replace H := Option.bind_eq_some_iff.mp H
   obtain ⟨t239, A50, H⟩ := H
   replace H : (impl_widesOf.l0 k l0 l1 y236 t239 (t239.length : Int) 0) = some r := H
   have A5 := za.mk A50
   clear A50
   have H' := za.mk H
   clear H
   go_enter Try.func55, Try.ntmps55
   have hfd66_0 : ∀ (a0 a1 : Int) (w : World), (Instr.field 66 (.agg #[.int .i64 a0, .int .i64 a1]) 0).run Try.prog w = .ok (.int .i64 a0) w := fun _ _ _ => by kernel_rfl
   go_wp2_with (first | ((with_reducible refine zla (N := 10) rfl ?_); refine Kd.R_make (Kd.int .i64) _ 3 rfl (N := 10) rfl 22 _ _ rfl (l0.length : Int) rfl rfl Try.underlying22 (.int .i64 0) 8 info3 rfl (by decide) (by omega) 0 (ok := fun _ => True) (okp := fun _ => True) rfl (fun _ hk => hk) trivial (of_decide_eq_true (by assumption)) (Nat.le_trans (Nat.mul_le_mul_right _ (of_decide_eq_true (by assumption) : (l0.length : Int).toNat ≤ 35184372088832)) (by omega)) (Below.refl _ _) (Nat.le_refl _) ?_; intro v237 w6 ho7 hb hg_ hnew_; clear hg_ hnew_; (first | rw [← Ny236.out] at ho7 | (simp only [Int.reduceToNat] at ho7; rw [← Ny236.out] at ho7)); have n0_ := za.mk (Kd.zqa ho7 (zaa (by repeat (first | (with_reducible first | exact HB.out | apply ze | apply zb | apply zd) | exact HB.out)))); have n1_ := za.mk (zv (by repeat (first | (with_reducible first | exact HB.out | apply ze | apply zb | apply zd) | exact HB.out)) hb); clear HB; have HO238 := n0_; have HB := n1_; clear n0_ n1_; clear hb ho7) | ((with_reducible refine zt (f := 102) rfl ?_); refine zgo (some 12) Try.func102 #[.slice A0 l0.length c0] rfl ?_; (with_reducible refine (impl_starts.calls k _ _ l0 t239 _ ?side1 ?side2 A5.out).mono ?_); (case side1 => repeat (first | exact (Kd.zjb HR0.out HB.out) | (with_reducible refine Kd.zca ?_ _) | (with_reducible refine Kd.zda ?_ _) | (with_reducible refine Kd.zfa ?_))); (case side2 => exact HC0.out); rintro e w8 ⟨v240, rfl, ho0, hb⟩; refine ⟨_, rfl, ?_⟩; have n0_ := za.mk (Kd.zsb (by (with_reducible repeat (first | apply Kd.zg | apply Kd.zh | apply Kd.zm)); exact HO238.out) (Kd.zac ho0) hb); have n1_ := za.mk (Kd.zqa (Kd.zbc ho0 (Kd.R_lt (by (with_reducible repeat (first | apply Kd.zg | apply Kd.zh | apply Kd.zm)); exact HO238.out))) (zaa (by repeat (first | (with_reducible first | exact HB.out | apply ze | apply zb | apply zd) | exact HB.out)))); have n2_ := za.mk (zv (by repeat (first | (with_reducible first | exact HB.out | apply ze | apply zb | apply zd) | exact HB.out)) hb); clear HO238; clear HB; have HO238 := n0_; have HO241 := n1_; have HB := n2_; clear n0_ n1_ n2_; (try clear hb); (try clear hb2); (try clear hk); (try clear hi); (try clear ho0); obtain ⟨Ao9, co9, eo9⟩ := Kd.zka HO241.out; subst eo9))
   go_loopg [14] k (fun kq v14 w' => ∃ (x5_1 : List Int) (x14_1 : Int), v14 = .int .i64 x14_1 ∧ za (impl_widesOf.l0 kq l0 l1 x5_1 t239 (t239.length : Int) x14_1 = some r) ∧ za (kq ≤ k) ∧ za (Kd.R (Kd.int .i64) 3 w' w.heap.size (fun k_ => some k_ ≠ ((.slice Ao9 t239.length co9) : Value).ownBlock) v237 x5_1) ∧ za (Kd.R (Kd.int .i64) 3 w' w.heap.size (fun k_ => some k_ ≠ (v237 : Value).ownBlock) (.slice Ao9 t239.length co9) t239) ∧ za (Below w.heap.size w w'))
   case atStart => exact ⟨(y236), (0), (by first | rfl | (simp; done) | (simp [*]; done)), H', ⟨Nat.le_refl _⟩, ⟨by (with_reducible repeat (first | apply Kd.zg | apply Kd.zh | apply Kd.zm)); exact Kd.zga HO238.out (fun _ hk => hk.2)⟩, ⟨by (with_reducible repeat (first | apply Kd.zg | apply Kd.zh | apply Kd.zm)); exact Kd.zga HO241.out (fun _ hk => hk.2)⟩, ⟨by repeat (first | (with_reducible first | exact HB.out | apply ze | apply zb | apply zd) | exact HB.out)⟩⟩
   case round =>
    clear H'
    try clear c1
    try clear p2
    try clear c3
    try clear c3b0
    try clear c3b1
    try clear c4
    try clear c4b0
    try clear c4b1
    try clear c5
    obtain ⟨x5_1, x14_1, rfl, HA, HK1, HO_5, HO_12, HB⟩ := hrel
    cases gk with
    | zero => exact absurd HA.out (by simp [impl_widesOf.l0])
    | succ k1 =>
     have H := HA.out
     clear HA
     simp only [impl_widesOf.l0] at H
     by_cases c10 : x14_1 < (t239.length : Int)
     ·rw [if_pos c10] at H
      have c10b0 : decide (x14_1 < (t239.length : Int)) = true := decide_eq_true c10
      clear c10
      by_cases c11 : 0 ≤ x14_1
      ·rw [if_pos c11] at H
       have c11b0 : decide (0 ≤ x14_1) = true := decide_eq_true c11
       clear c11
       by_cases c12 : x14_1 < (t239.length : Int)
       ·rw [if_pos c12] at H
        have c12b0 : decide (x14_1 < (t239.length : Int)) = true := decide_eq_true c12
        clear c12
        replace H := Option.bind_eq_some_iff.mp H
        obtain ⟨t243, A130, H⟩ := H
        replace H : ((impl_lookAt.f k1 l1 (rd t239 x14_1)).bind fun bt244 => (if 0 ≤ (rd t239 x14_1) then (if (rd t239 x14_1) < (x5_1.length : Int) then (impl_widesOf.l0 k1 l0 l1 (x5_1.set ((rd t239 x14_1) : Int).toNat (wrap64 (t243 * bt244.1))) t239 (t239.length : Int) (wrap64 (x14_1 + 1))) else (none)) else (none))) = some r := H
        have A13 := za.mk A130
        clear A130
        replace H := Option.bind_eq_some_iff.mp H
        obtain ⟨⟨t244, t245⟩, A140, H⟩ := H
        replace H : (if 0 ≤ (rd t239 x14_1) then (if (rd t239 x14_1) < (x5_1.length : Int) then (impl_widesOf.l0 k1 l0 l1 (x5_1.set ((rd t239 x14_1) : Int).toNat (wrap64 (t243 * t244))) t239 (t239.length : Int) (wrap64 (x14_1 + 1))) else (none)) else (none)) = some r := H
        have A14 := za.mk A140
        clear A140
        by_cases c15 : 0 ≤ (rd t239 x14_1)
        ·rw [if_pos c15] at H
         have c15b0 : decide (0 ≤ (rd t239 x14_1)) = true := decide_eq_true c15
         clear c15
         by_cases c16 : (rd t239 x14_1) < (x5_1.length : Int)
         ·rw [if_pos c16] at H
          have c16b0 : decide ((rd t239 x14_1) < (x5_1.length : Int)) = true := decide_eq_true c16
          clear c16
          obtain ⟨y246, hy246⟩ : ∃ y_ : List Int, y_ = (x5_1.set ((rd t239 x14_1) : Int).toNat (wrap64 (t243 * t244))) := ⟨_, rfl⟩
          replace H : (impl_widesOf.l0 k1 l0 l1 y246 t239 (t239.length : Int) (wrap64 (x14_1 + 1))) = some r := by first | (rw [hy246]; with_reducible exact H) | (have H2_ := (Option.bind_some _ _).symm.trans H; rw [hy246]; with_reducible exact H2_) | (have H2_ := (Option.bind_some _ _).symm.trans H; with_reducible exact H2_) | with_reducible exact H | (rw [hy246]; exact H) | exact H
          have Ny246 := za.mk hy246
          clear hy246
          have H' := za.mk H
          clear H
          have p242 : 0 ≤ (x14_1 : Int) := of_decide_eq_true (by assumption)
          have q242 : x14_1 < (t239.length : Int) := of_decide_eq_true (by assumption)
          obtain ⟨ad242, e242, hx242_0⟩ := Kd.zta (Kd.zw HO_12.out).2.2 x14_1 p242 q242
          cases e242
          replace p242 := eq_true p242
          replace q242 := eq_true q242
          go_wp2_with (first | ((with_reducible refine zt (f := 62) rfl ?_); refine zgo (some 22) Try.func62 #[.slice A0 l0.length c0, .int .i64 (rd t239 x14_1)] rfl ?_; (with_reducible refine (impl_clusterWide.calls k1 _ _ l0 (rd t239 x14_1) t243 _ ?side1 ?side2 A13.out).mono ?_); (case side1 => repeat (first | exact (Kd.zjb HR0.out HB.out) | (with_reducible refine Kd.zca ?_ _) | (with_reducible refine Kd.zda ?_ _) | (with_reducible refine Kd.zfa ?_))); (case side2 => exact HC0.out); rintro e w18 ⟨rfl, hb⟩; refine ⟨_, rfl, ?_⟩; have n0_ := za.mk (Kd.zea (by (with_reducible repeat (first | apply Kd.zg | apply Kd.zh | apply Kd.zm)); exact HO_5.out) hb); have n1_ := za.mk (Kd.zea (by (with_reducible repeat (first | apply Kd.zg | apply Kd.zh | apply Kd.zm)); exact HO_12.out) hb); have n2_ := za.mk (zv (by repeat (first | (with_reducible first | exact HB.out | apply ze | apply zb | apply zd) | exact HB.out)) hb); clear HO_5; clear HO_12; clear HB; have HO_5 := n0_; have HO_12 := n1_; have HB := n2_; clear n0_ n1_ n2_; (try clear hb); (try clear hb2); (try clear hk); (try clear hi)) | ((with_reducible refine zt (f := 60) rfl ?_); refine zgo (some 25) Try.func60 #[.slice A1 l1.length c1, .int .i64 (rd t239 x14_1)] rfl ?_; (with_reducible refine (impl_lookAt.calls k1 _ _ l1 (rd t239 x14_1) t244 t245 _ ?side1 ?side2 A14.out).mono ?_); (case side1 => repeat (first | exact (Kd.zjb HR1.out HB.out) | (with_reducible refine Kd.zca ?_ _) | (with_reducible refine Kd.zda ?_ _) | (with_reducible refine Kd.zfa ?_))); (case side2 => exact HC1.out); rintro e w19 ⟨rfl, hb⟩; refine ⟨_, rfl, ?_⟩; have n0_ := za.mk (Kd.zea (by (with_reducible repeat (first | apply Kd.zg | apply Kd.zh | apply Kd.zm)); exact HO_5.out) hb); have n1_ := za.mk (Kd.zea (by (with_reducible repeat (first | apply Kd.zg | apply Kd.zh | apply Kd.zm)); exact HO_12.out) hb); have n2_ := za.mk (zv (by repeat (first | (with_reducible first | exact HB.out | apply ze | apply zb | apply zd) | exact HB.out)) hb); clear HO_5; clear HO_12; clear HB; have HO_5 := n0_; have HO_12 := n1_; have HB := n2_; clear n0_ n1_ n2_; (try clear hb); (try clear hb2); (try clear hk); (try clear hi); have p17 : 0 ≤ ((rd t239 x14_1) : Int) := of_decide_eq_true (by assumption); have q17 : ((rd t239 x14_1) : Int) < ((x5_1.length : Int) : Int) := of_decide_eq_true (by assumption); obtain ⟨go17, co17, eo17, gb17, gl17, cl17, HG17⟩ := Kd.R_form HO_5.out (by omega); (first | cases eo17 | (injection eo17 with ea_ en_ ec_; (first | subst ea_ | (injection ea_ with ea_; subst ea_)); subst ec_; clear en_)); have GB17 := za.mk gb17; have GG17 := za.mk HG17; clear gb17 gl17 HG17; obtain ⟨hx17_0, hf17_0⟩ := Kd.R_celln 0 HO_5.out ((rd t239 x14_1) : Int) p17 q17; replace p17 := eq_true p17; replace q17 := eq_true q17; obtain ⟨hy20_, hz20_⟩ := Kd.R_celln 0 HO_5.out ((rd t239 x14_1) : Int) (of_decide_eq_true (by assumption)) (of_decide_eq_true (by assumption)); have HP20 := Kd.R_putg HO_5.out ((rd t239 x14_1) : Int) (wrap64 (t243 * t244))) | ((with_reducible refine gate_store (t := 3) (p := 28) rfl ?_); refine store_event (t := 3) (p := 28) (v := ?vo_w21) (w1 := (w19.setCell ⟨go17, ((rd t239 x14_1) : Int).toNat, none⟩ (.int .i64 (wrap64 (t243 * t244))))) ?hg ?ho ?hn ?hr ?_; (case ho => rfl); (case hg => rfl); (case hn => rfl); (case hr => first | (go_simp; done) | (go_simp; rfl)); intro w21 hw; have hg : w19.grownBy w21 (some go17) := (by rw [hw]; exact HP20.2); have hp_ : Kd.R (Kd.int .i64) 3 w21 w.heap.size (fun k_ => some k_ ≠ (.slice (some ad242) t239.length co9 : Value).ownBlock) (.slice (some ⟨go17, 0, none⟩) x5_1.length co17) y246 := (by rw [hw, Ny246.out]; exact HP20.1); clear HP20; have n0_ := za.mk (hp_); have n1_ := za.mk (Kd.R_after (v := (.slice (some ⟨go17, 0, none⟩) x5_1.length co17)) (v1 := (.slice (some ⟨go17, 0, none⟩) x5_1.length co17)) (ok := (fun _ => True)) (by (with_reducible repeat (first | apply Kd.zg | apply Kd.zh | apply Kd.zm)); exact Kd.zga HO_12.out (fun _ hk => ⟨trivial, hk⟩)) hg (.inl rfl)); have n2_ := za.mk ((by rw [hw]; exact zr (HB.out) GB17.out : Below w.heap.size w w21)); clear HO_5; clear HO_12; clear HB; have HO_5 := n0_; have HO_12 := n1_; have HB := n2_; clear n0_ n1_ n2_; clear hg hw hp_))
          go_roundg k1
          case measure => have := HK1.out; omega
          case rel => exact ⟨(y246), (wrap64 (x14_1 + 1)), (by first | rfl | (simp; done) | (simp [*]; done)), H', ⟨by have := HK1.out; omega⟩, ⟨by (with_reducible repeat (first | apply Kd.zg | apply Kd.zh | apply Kd.zm)); exact HO_5.out⟩, ⟨by (with_reducible repeat (first | apply Kd.zg | apply Kd.zh | apply Kd.zm)); exact Kd.zga HO_12.out (fun _ hk => hk.2)⟩, ⟨by repeat (first | (with_reducible first | exact HB.out | apply ze | apply zb | apply zd) | exact HB.out)⟩⟩
         ·rw [if_neg c16] at H
          exact absurd H (by simp)
        ·rw [if_neg c15] at H
         exact absurd H (by simp)
       ·rw [if_neg c12] at H
        exact absurd H (by simp)
      ·rw [if_neg c11] at H
       exact absurd H (by simp)
     ·rw [if_neg c10] at H
      have c10b0 : decide (x14_1 < (t239.length : Int)) = false := decide_eq_false c10
      clear c10
      obtain rfl := Option.some.inj H
      go_wp2
      go_ret
      exact ⟨_, by first | rfl | (simp [zi, zj] <;> rfl) | (simp [*, zi, zj] <;> rfl), by (with_reducible repeat (first | apply Kd.zg | apply Kd.zh | apply Kd.zm)); exact Kd.zga HO_5.out (fun _ hk => trivial), by repeat (first | (with_reducible first | exact HB.out | apply ze | apply zb | apply zd) | exact HB.out)⟩
  ·rw [if_neg c4] at H
   exact absurd H (by simp)
 ·rw [if_neg c3] at H
  exact absurd H (by simp)
def impl_WidesOf.f (k : Nat) (l0 : List Int) (l1 : List (S40)) : Option (List Int) := (impl_lettersOk.f l0).bind fun t247 => (if t247 = true then ((impl_SpansOk.f k l1 (l0.length : Int)).bind fun t248 => (if t248 = true then ((impl_widesOf.f k l0 l1).bind fun t249 => (some t249)) else (some ([] : List Int)))) else (some ([] : List Int)))
theorem impl_WidesOf.calls (k : Nat) (A0 : Option Addr) (c0 : Nat) (l0 : List Int) (A1 : Option Addr) (c1 : Nat) (l1 : List (S40)) (r : List Int) (w : World) (hr0 : Kd.C (Kd.int .i64) w A0 l0.length l0) (hc0 : l0.length ≤ c0) (hr1 : Kd.C k40 w A1 l1.length l1) (hc1 : l1.length ≤ c1) (h : impl_WidesOf.f k l0 l1 = some r) :
  Calls Try.prog 18 #[.slice A0 l0.length c0, .slice A1 l1.length c1] w fun e w' => ∃ v0_ : Value, e = .returned (v0_) ∧ Kd.R (Kd.int .i64) 3 w' w.heap.size (fun _ => True) v0_ r ∧ Below w.heap.size w w' := by
 have HR0 := za.mk hr0
 have HC0 := za.mk hc0
 clear hr0 hc0
 have HR1 := za.mk hr1
 have HC1 := za.mk hc1
 clear hr1 hc1
 have HB := za.mk (Below.refl w.heap.size w)
 have H : ((impl_lettersOk.f l0).bind fun t247 => (if t247 = true then ((impl_SpansOk.f k l1 (l0.length : Int)).bind fun t248 => (if t248 = true then ((impl_widesOf.f k l0 l1).bind fun t249 => (some t249)) else (some ([] : List Int)))) else (some ([] : List Int)))) = some r := h
 clear h
 replace H := Option.bind_eq_some_iff.mp H
 obtain ⟨t247, A30, H⟩ := H
 replace H : (if t247 = true then ((impl_SpansOk.f k l1 (l0.length : Int)).bind fun t248 => (if t248 = true then ((impl_widesOf.f k l0 l1).bind fun t249 => (some t249)) else (some ([] : List Int)))) else (some ([] : List Int))) = some r := H
 have A3 := za.mk A30
 clear A30
 by_cases c4 : t247 = true
 ·subst c4
  have H1 : ((impl_SpansOk.f k l1 (l0.length : Int)).bind fun t248 => (if t248 = true then ((impl_widesOf.f k l0 l1).bind fun t249 => (some t249)) else (some ([] : List Int)))) = some r := by rw [if_pos rfl] at H; exact H
  clear H
  have H := H1
  clear H1
  replace H := Option.bind_eq_some_iff.mp H
  obtain ⟨t248, A50, H⟩ := H
  replace H : (if t248 = true then ((impl_widesOf.f k l0 l1).bind fun t249 => (some t249)) else (some ([] : List Int))) = some r := H
  have A5 := za.mk A50
  clear A50
  by_cases c6 : t248 = true
  ·subst c6
   have H1 : ((impl_widesOf.f k l0 l1).bind fun t249 => (some t249)) = some r := by rw [if_pos rfl] at H; exact H
   clear H
   have H := H1
   clear H1
   replace H := Option.bind_eq_some_iff.mp H
   obtain ⟨t249, A70, H⟩ := H
   replace H : (some t249) = some r := H
   have A7 := za.mk A70
   clear A70
   obtain rfl := Option.some.inj H
   go_enter Try.func18, Try.ntmps18
   go_wp2_with (first | ((with_reducible refine zt (f := 53) rfl ?_); refine zgo (some 6) Try.func53 #[.slice A0 l0.length c0] rfl ?_; (with_reducible refine (impl_lettersOk.calls _ _ l0 true _ ?side1 ?side2 A3.out).mono ?_); (case side1 => repeat (first | exact HR0.out | (with_reducible refine Kd.zca ?_ _) | (with_reducible refine Kd.zda ?_ _) | (with_reducible refine Kd.zfa ?_))); (case side2 => exact HC0.out); rintro e w' ⟨rfl, ⟨nd, rfl⟩⟩; refine ⟨_, rfl, ?_⟩) | (go_at_call 54; (with_reducible refine (impl_SpansOk.calls k _ _ l1 (l0.length : Int) true _ ?side1 ?side2 A5.out).mono ?_); (case side1 => repeat (first | exact HR1.out | (with_reducible refine Kd.zca ?_ _) | (with_reducible refine Kd.zda ?_ _) | (with_reducible refine Kd.zfa ?_))); (case side2 => exact HC1.out); rintro e w8 ⟨rfl, hb⟩; have n0_ := za.mk (zv (by repeat (first | (with_reducible first | exact HB.out | apply ze | apply zb | apply zd) | exact HB.out)) hb); clear HB; have HB := n0_; clear n0_; (try clear hb); (try clear hb2); (try clear hk); (try clear hi)) | ((with_reducible refine zt (f := 55) rfl ?_); refine zgo (some 17) Try.func55 #[.slice A0 l0.length c0, .slice A1 l1.length c1] rfl ?_; (with_reducible refine (impl_widesOf.calls k _ _ l0 _ _ l1 t249 _ ?side1 ?side2 ?side3 ?side4 A7.out).mono ?_); (case side1 => repeat (first | exact (Kd.zjb HR0.out HB.out) | (with_reducible refine Kd.zca ?_ _) | (with_reducible refine Kd.zda ?_ _) | (with_reducible refine Kd.zfa ?_))); (case side2 => exact HC0.out); (case side3 => repeat (first | exact (Kd.zjb HR1.out HB.out) | (with_reducible refine Kd.zca ?_ _) | (with_reducible refine Kd.zda ?_ _) | (with_reducible refine Kd.zfa ?_))); (case side4 => exact HC1.out); rintro e w9 ⟨v250, rfl, ho0, hb⟩; refine ⟨_, rfl, ?_⟩; have n0_ := za.mk (Kd.zqa ho0 (zaa (by repeat (first | (with_reducible first | exact HB.out | apply ze | apply zb | apply zd) | exact HB.out)))); have n1_ := za.mk (zv (by repeat (first | (with_reducible first | exact HB.out | apply ze | apply zb | apply zd) | exact HB.out)) hb); clear HB; have HO251 := n0_; have HB := n1_; clear n0_ n1_; (try clear hb); (try clear hb2); (try clear hk); (try clear hi); (try clear ho0)))
   go_ret
   exact ⟨_, by first | rfl | (simp [zi, zj] <;> rfl) | (simp [*, zi, zj] <;> rfl), by (with_reducible repeat (first | apply Kd.zg | apply Kd.zh | apply Kd.zm)); exact HO251.out, by repeat (first | (with_reducible first | exact HB.out | apply ze | apply zb | apply zd) | exact HB.out)⟩
  ·replace c6 := Bool.eq_false_iff.mpr c6
   subst c6
   have H1 : (some ([] : List Int)) = some r := by rw [if_neg (show ¬ (false = true) by decide)] at H; exact H
   clear H
   have H := H1
   clear H1
   obtain rfl := Option.some.inj H
   go_enter Try.func18, Try.ntmps18
   go_wp2_with (first | ((with_reducible refine zt (f := 53) rfl ?_); refine zgo (some 6) Try.func53 #[.slice A0 l0.length c0] rfl ?_; (with_reducible refine (impl_lettersOk.calls _ _ l0 true _ ?side1 ?side2 A3.out).mono ?_); (case side1 => repeat (first | exact HR0.out | (with_reducible refine Kd.zca ?_ _) | (with_reducible refine Kd.zda ?_ _) | (with_reducible refine Kd.zfa ?_))); (case side2 => exact HC0.out); rintro e w' ⟨rfl, ⟨nd, rfl⟩⟩; refine ⟨_, rfl, ?_⟩) | (go_at_call 54; (with_reducible refine (impl_SpansOk.calls k _ _ l1 (l0.length : Int) false _ ?side1 ?side2 A5.out).mono ?_); (case side1 => repeat (first | exact HR1.out | (with_reducible refine Kd.zca ?_ _) | (with_reducible refine Kd.zda ?_ _) | (with_reducible refine Kd.zfa ?_))); (case side2 => exact HC1.out); rintro e w10 ⟨rfl, hb⟩; have n0_ := za.mk (zv (by repeat (first | (with_reducible first | exact HB.out | apply ze | apply zb | apply zd) | exact HB.out)) hb); clear HB; have HB := n0_; clear n0_; (try clear hb); (try clear hb2); (try clear hk); (try clear hi)))
   go_ret
   exact ⟨_, by first | rfl | (simp [zi, zj] <;> rfl) | (simp [*, zi, zj] <;> rfl), by first | exact Kd.R_nil _ _ _ _ _ | exact Kd.N_nil _ _ _ _ _ | exact Kd.V_nil _ _ _ _ _ | exact Kd.Q_nil _ _ _ _ _ | exact Kd.S_nil _ _ _ _ _, by repeat (first | (with_reducible first | exact HB.out | apply ze | apply zb | apply zd) | exact HB.out)⟩
 ·replace c4 := Bool.eq_false_iff.mpr c4
  subst c4
  have H1 : (some ([] : List Int)) = some r := by rw [if_neg (show ¬ (false = true) by decide)] at H; exact H
  clear H
  have H := H1
  clear H1
  obtain rfl := Option.some.inj H
  go_enter Try.func18, Try.ntmps18
  go_wp2_with (first | ((with_reducible refine zt (f := 53) rfl ?_); refine zgo (some 6) Try.func53 #[.slice A0 l0.length c0] rfl ?_; (with_reducible refine (impl_lettersOk.calls _ _ l0 false _ ?side1 ?side2 A3.out).mono ?_); (case side1 => repeat (first | exact HR0.out | (with_reducible refine Kd.zca ?_ _) | (with_reducible refine Kd.zda ?_ _) | (with_reducible refine Kd.zfa ?_))); (case side2 => exact HC0.out); rintro e w' ⟨rfl, ⟨nd, rfl⟩⟩; refine ⟨_, rfl, ?_⟩))
  go_ret
  exact ⟨_, by first | rfl | (simp [zi, zj] <;> rfl) | (simp [*, zi, zj] <;> rfl), by first | exact Kd.R_nil _ _ _ _ _ | exact Kd.N_nil _ _ _ _ _ | exact Kd.V_nil _ _ _ _ _ | exact Kd.Q_nil _ _ _ _ _ | exact Kd.S_nil _ _ _ _ _, by repeat (first | (with_reducible first | exact HB.out | apply ze | apply zb | apply zd) | exact HB.out)⟩
def zc (w0 W : World) (g : Nat) (f0 : List Int) (f1 : Int) : Prop := ∃ A0 c0, W.heap[g]? = some (.cells #[.slice A0 f0.length c0, .int .i64 f1] 85 (0, 0)) ∧ w0.heap.size ≤ g ∧ Kd.C (Kd.int .u8) w0 A0 f0.length f0
theorem zc.grown {w0 W : World} {g : Nat} {f0 : List Int} {f1 : Int} {W1 : World} {row : Option Nat} (h : zc w0 W g f0 f1) (hw : W.grownBy W1 row) (hne : some g ≠ row) : zc w0 W1 g f0 f1 := by
 obtain ⟨A0, c0, hb, hg, hr0⟩ := h
 exact ⟨A0, c0, blk_grown hb hw hne, hg, hr0⟩
theorem zc.own_neN {w0 W : World} {g : Nat} {f0 : List Int} {f1 : Int} {α : Type} {d : Kd α} {e : Nat} {base : Nat} {ok : Nat → Prop} {v : Value} {xs : List α} (h : zc w0 W g f0 f1) (ho : Kd.N d e W base ok v xs) (ht : e ≠ 85) : some g ≠ v.ownBlock := by
 obtain ⟨A0, c0, hb, hg, hr0⟩ := h
 exact Kd.N_ne ho hb ht
theorem zc.fresh {w0 W : World} {g : Nat} {f0 : List Int} {f1 : Int} (h : zc w0 W g f0 f1) : ∀ k, W.heap.size ≤ k → k ≠ g := by
 obtain ⟨A0, c0, hb, hg, hr0⟩ := h
 exact Kd.freshB hb
theorem zc.kept {w0 W : World} {g : Nat} {f0 : List Int} {f1 : Int} {W1 : World} {S : Nat → Prop} (h : zc w0 W g f0 f1) (hk : Kept W W1 S) (hne : ¬ S g) : zc w0 W1 g f0 f1 := by
 obtain ⟨A0, c0, hb, hg, hr0⟩ := h
 exact ⟨A0, c0, blk_kept hb hk hne, hg, hr0⟩
theorem zc.below {w0 W : World} {g : Nat} {f0 : List Int} {f1 : Int} {W1 : World} (h : zc w0 W g f0 f1) (hw : Below W.heap.size W W1) : zc w0 W1 g f0 f1 := h.grown (grown_of_below hw none) (by simp)
theorem zc.alloc {w0 W : World} {g : Nat} {f0 : List Int} {f1 : Int} (h : zc w0 W g f0 f1) (o : Obj) : zc w0 (W.alloc o) g f0 f1 := h.below (ze (Below.refl _ _) o)
theorem zc.drewN {w0 W : World} {g : Nat} {f0 : List Int} {f1 : Int} (h : zc w0 W g f0 f1) (m : Nat) : zc w0 (W.drewN m) g f0 f1 := h
theorem zc.drew {w0 W : World} {g : Nat} {f0 : List Int} {f1 : Int} (h : zc w0 W g f0 f1) : zc w0 W.drew g f0 f1 := h
theorem zc.at_ {w0 W : World} {g : Nat} {f0 : List Int} {f1 : Int} {w' : World} {m : Nat} (hq : W.drewN m = w') (h : zc w0 W g f0 f1) : zc w0 w' g f0 f1 := by subst hq; exact zc.drewN h m
theorem zc.apart {w0 W : World} {g : Nat} {f0 : List Int} {f1 : Int} {α : Type} {d : Kd α} {e : Nat} {base : Nat} {ok : Nat → Prop} {v : Value} {xs : List α} (h : zc w0 W g f0 f1) (ho : d.R e W base ok v xs) (ht : ∀ q, q ∈ e :: d.E → q ≠ 85) : d.R e W base (fun k => ok k ∧ k ≠ g) v xs := by
 obtain ⟨A0, c0, hb, hg, hr0⟩ := h
 exact Kd.R_types ho hb ht
theorem zc.zya {w0 W : World} {g : Nat} {f0 : List Int} {f1 : Int} {α : Type} {d : Kd α} {e : Nat} {base : Nat} {ok : Nat → Prop} {v : Value} {xs : List α} (h : zc w0 W g f0 f1) (ho : d.R e W base ok v xs) (ht : e ≠ 85) : some g ≠ v.ownBlock := by
 obtain ⟨A0, c0, hb, hg, hr0⟩ := h
 exact Kd.R_ne ho hb ht
theorem zc.apartQ {w0 W : World} {g : Nat} {f0 : List Int} {f1 : Int} {α : Type} {d : Kd α} {e : Nat} {base : Nat} {ok : Nat → Prop} {v : Value} {xs : List α} (h : zc w0 W g f0 f1) (ho : d.Q e W base ok v xs) (ht : ∀ q, q ∈ e :: d.E → q ≠ 85) : d.Q e W base (fun k => ok k ∧ k ≠ g) v xs := by
 obtain ⟨A0, c0, hb, hg, hr0⟩ := h
 exact Kd.Q_types ho hb ht
theorem zc.own_neQ {w0 W : World} {g : Nat} {f0 : List Int} {f1 : Int} {α : Type} {d : Kd α} {e : Nat} {base : Nat} {ok : Nat → Prop} {v : Value} {xs : List α} (h : zc w0 W g f0 f1) (ho : d.Q e W base ok v xs) (ht : e ≠ 85) : some g ≠ v.ownBlock := by
 obtain ⟨A0, c0, hb, hg, hr0⟩ := h
 exact Kd.Q_ne ho hb ht
theorem zc.apartS {w0 W : World} {g : Nat} {f0 : List Int} {f1 : Int} {α : Type} {d : Kd α} {e : Nat} {base : Nat} {ok : Nat → Prop} {v : Value} {xs : List α} (h : zc w0 W g f0 f1) (ho : d.S e W base ok v xs) (ht : ∀ q, q ∈ e :: d.E → q ≠ 85) : d.S e W base (fun k => ok k ∧ k ≠ g) v xs := by
 obtain ⟨A0, c0, hb, hg, hr0⟩ := h
 exact Kd.S_types ho hb ht
theorem zc.own_neS {w0 W : World} {g : Nat} {f0 : List Int} {f1 : Int} {α : Type} {d : Kd α} {e : Nat} {base : Nat} {ok : Nat → Prop} {v : Value} {xs : List α} (h : zc w0 W g f0 f1) (ho : d.S e W base ok v xs) (ht : e ≠ 85) : some g ≠ v.ownBlock := by
 obtain ⟨A0, c0, hb, hg, hr0⟩ := h
 exact Kd.S_ne ho hb ht
theorem zc.lt {w0 W : World} {g : Nat} {f0 : List Int} {f1 : Int} (h : zc w0 W g f0 f1) : g < W.heap.size := by
 obtain ⟨A0, c0, hb, hg, hr0⟩ := h
 exact blk_lt hb
theorem zc.ge {w0 W : World} {g : Nat} {f0 : List Int} {f1 : Int} (h : zc w0 W g f0 f1) : w0.heap.size ≤ g := by
 obtain ⟨A0, c0, hb, hg, hr0⟩ := h
 exact hg
theorem zc.ne_blk {w0 W : World} {g : Nat} {f0 : List Int} {f1 : Int} {a : Nat} {cs : Array Value} {t : TypeId} {fr : Nat × Nat} (h : zc w0 W g f0 f1) (hb2 : W.heap[a]? = some (.cells cs t fr)) (ht : t ≠ 85) : g ≠ a := by
 obtain ⟨A0, c0, hb, hg, hr0⟩ := h
 rintro rfl
 rw [hb] at hb2
 injection hb2 with hb2
 injection hb2 with _ ht2
 exact ht ht2.symm
theorem zc.far {w0 W : World} {g : Nat} {f0 : List Int} {f1 : Int} {p : Addr} (h : zc w0 W g f0 f1) (hne : g ≠ p.block) (u : Value) : zc w0 (W.setCell p u) g f0 f1 := by
 obtain ⟨A0, c0, hb, hg, hr0⟩ := h
 exact ⟨A0, c0, zhc hb hne u, hg, hr0⟩
theorem cellS85_0 {W : World} {g : Nat} {A0 : Option Addr} {c0 : Nat} {f0 : List Int} {f1 : Int} (h : W.heap[g]? = some (.cells #[.slice A0 f0.length c0, .int .i64 f1] 85 (0, 0))) : W.cell? ⟨g, 0, none⟩ = some (.slice A0 f0.length c0) := (zy h 0).trans rfl
theorem cellS85_1 {W : World} {g : Nat} {A0 : Option Addr} {c0 : Nat} {f0 : List Int} {f1 : Int} (h : W.heap[g]? = some (.cells #[.slice A0 f0.length c0, .int .i64 f1] 85 (0, 0))) : W.cell? ⟨g, 1, none⟩ = some (.int .i64 f1) := (zy h 1).trans rfl
theorem zc.zx {w0 W : World} {g : Nat} {f0 : List Int} {f1 : Int} (h : zc w0 W g f0 f1) (x : Int) : zc w0 (W.setCell ⟨g, 1, none⟩ (.int .i64 x)) g f0 x := by
 obtain ⟨A0, c0, hb, hg, hr0⟩ := h
 exact ⟨A0, c0, by simpa using blk_set hb 1 (.int .i64 x), hg, hr0⟩
theorem zc.new (w0 W : World) (A0 : Option Addr) (c0 : Nat) (f0 : List Int) (f1 : Int) (hB : Below w0.heap.size w0 W) (hr0 : Kd.C (Kd.int .u8) w0 A0 f0.length f0) : zc w0 (W.alloc (.cells #[.slice A0 f0.length c0, .int .i64 f1] 85)) W.heap.size f0 f1 := ⟨A0, c0, by simpa using heap_alloc_new W _, hB.size, hr0⟩
def spec_l1Open.f (l0 : List Int) : Option (List Int × Int) := if (l0.length : Int) > 2000 then (if 2000 ≤ (l0.length : Int) then (some (l0.take 2000, 0)) else (none)) else (some (l0, 0))
theorem spec_l1Open.calls (A0 : Option Addr) (c0 : Nat) (l0 : List Int) (r1 : List Int) (r2 : Int) (w0 w : World) (hB : Below w0.heap.size w0 w) (hr0 : Kd.C (Kd.int .u8) w0 A0 l0.length l0) (hc0 : l0.length ≤ c0) (h : spec_l1Open.f l0 = some (r1, r2)) :
  Calls Try.prog 57 #[.slice A0 l0.length c0] w fun e w' => ∃ g_ : Nat, e = .returned (.pointer (some ⟨g_, 0, none⟩)) ∧ zc w0 w' g_ r1 r2 ∧ Below w0.heap.size w0 w' ∧ Below w.heap.size w w' := by
 have hu85 := Try.underlying85
 have HR0 := za.mk hr0
 have HC0 := za.mk hc0
 clear hr0 hc0
 have HBW := za.mk (Below.refl w.heap.size w)
 have HW0 := za.mk hB.size
 have HB := za.mk hB
 clear hB
 have H : (if (l0.length : Int) > 2000 then (if 2000 ≤ (l0.length : Int) then (some (l0.take 2000, 0)) else (none)) else (some (l0, 0))) = some (r1, r2) := h
 clear h
 by_cases c2 : (l0.length : Int) > 2000
 ·rw [if_pos c2] at H
  have c2b0 : decide (2000 < (l0.length : Int)) = true := decide_eq_true c2
  have c2b1 : decide (2000 < l0.length) = true := decide_eq_true (by omega)
  clear c2
  by_cases c3 : 2000 ≤ (l0.length : Int)
  ·rw [if_pos c3] at H
   have c3b0 := eq_true c3
   have c3b1 : decide (2000 ≤ (l0.length : Int)) = true := decide_eq_true c3
   clear c3
   simp only [Option.some.injEq, Prod.mk.injEq] at H
   obtain ⟨rfl, rfl⟩ := H
   obtain ⟨i04, hi04, _, hsz4, _⟩ := info_parts info5
   obtain ⟨hcut4, hA4, hC4⟩ := print_take_of (P := Try.prog) (Value.int .u8) 0 34 5 .i64 Try.underlying34 hi04 hsz4 A0 c0 l0 2000 (by omega) (of_decide_eq_true (by assumption)) HC0.out
   have HR252 := za.mk (Kd.C_of_reads (h1 := fun _ => rfl) (hA4 _ (Kd.reads_of_C HR0.out)))
   have HC252 := za.mk hC4
   clear hA4 hC4 hi04 hsz4
   go_enter Try.func57, Try.ntmps57
   go_wp2_with (first | ((with_reducible refine zla (N := 10) rfl ?_); refine zua ?hg (N := 10) ?hd (cs := #[.slice A0 (l0.take 2000).length c0, .int .i64 0]) (t := 85) ?hr ?_; (case hd => rfl); (case hg => rfl); (case hr => first | (go_simp; done) | (go_simp; rfl)); intro gb253 hg w5 hbox hb; have n0_ := za.mk (zv HBW.out hb); have n1_ := za.mk (zv (by repeat (first | (with_reducible first | exact HB.out | apply ze | apply zb | apply zd) | exact HB.out)) hb); have n2_ := za.mk (hbox); have n3_ := za.mk ((by rw [hg]; exact (zaa (by repeat (first | (with_reducible first | exact HBW.out | apply ze | apply zb | apply zd) | exact HBW.out))) : w.heap.size ≤ gb253)); have n4_ := za.mk ((Nat.le_trans HW0.out (by rw [hg]; exact (zaa (by repeat (first | (with_reducible first | exact HBW.out | apply ze | apply zb | apply zd) | exact HBW.out))) : w.heap.size ≤ gb253) : w0.heap.size ≤ gb253)); clear HBW; clear HB; have HBW := n0_; have HB := n1_; have BK253 := n2_; have GW253 := n3_; have GE253 := n4_; clear n0_ n1_ n2_ n3_ n4_; clear hb hbox hg))
   go_ret
   exact ⟨_, rfl, (show zc w0 _ gb253 (l0.take 2000) 0 from ⟨_, _, by (with_reducible repeat (first | refine zha ?_ _ | refine zna ?_ | refine zia ?_ _)); exact BK253.out, GE253.out, HR252.out⟩), by repeat (first | (with_reducible first | exact HB.out | apply ze | apply zb | apply zd | refine zr ?_ GE253.out) | exact HB.out), by repeat (first | (with_reducible first | exact HBW.out | apply ze | apply zb | apply zd | refine zr ?_ GW253.out) | exact HBW.out)⟩
  ·rw [if_neg c3] at H
   exact absurd H (by simp)
 ·rw [if_neg c2] at H
  have c2b0 : decide (2000 < (l0.length : Int)) = false := decide_eq_false c2
  have c2b1 : decide (2000 < l0.length) = false := decide_eq_false (by omega)
  clear c2
  simp only [Option.some.injEq, Prod.mk.injEq] at H
  obtain ⟨rfl, rfl⟩ := H
  go_enter Try.func57, Try.ntmps57
  go_wp2_with (first | ((with_reducible refine zla (N := 10) rfl ?_); refine zua ?hg (N := 10) ?hd (cs := #[.slice A0 l0.length c0, .int .i64 0]) (t := 85) ?hr ?_; (case hd => rfl); (case hg => rfl); (case hr => first | (go_simp; done) | (go_simp; rfl)); intro gb254 hg w6 hbox hb; have n0_ := za.mk (zv HBW.out hb); have n1_ := za.mk (zv (by repeat (first | (with_reducible first | exact HB.out | apply ze | apply zb | apply zd) | exact HB.out)) hb); have n2_ := za.mk (hbox); have n3_ := za.mk ((by rw [hg]; exact (zaa (by repeat (first | (with_reducible first | exact HBW.out | apply ze | apply zb | apply zd) | exact HBW.out))) : w.heap.size ≤ gb254)); have n4_ := za.mk ((Nat.le_trans HW0.out (by rw [hg]; exact (zaa (by repeat (first | (with_reducible first | exact HBW.out | apply ze | apply zb | apply zd) | exact HBW.out))) : w.heap.size ≤ gb254) : w0.heap.size ≤ gb254)); clear HBW; clear HB; have HBW := n0_; have HB := n1_; have BK254 := n2_; have GW254 := n3_; have GE254 := n4_; clear n0_ n1_ n2_ n3_ n4_; clear hb hbox hg))
  go_ret
  exact ⟨_, rfl, (show zc w0 _ gb254 l0 0 from ⟨_, _, by (with_reducible repeat (first | refine zha ?_ _ | refine zna ?_ | refine zia ?_ _)); exact BK254.out, GE254.out, HR0.out⟩), by repeat (first | (with_reducible first | exact HB.out | apply ze | apply zb | apply zd | refine zr ?_ GE254.out) | exact HB.out), by repeat (first | (with_reducible first | exact HBW.out | apply ze | apply zb | apply zd | refine zr ?_ GW254.out) | exact HBW.out)⟩
def spec_l1Rd_pick.j0 : Nat → Int → Bool → List Int → Int → Option (Int × Int)
 | 0, _, _, _, _ => none
 | k + 1, x1, x24, x1000, x1001 => if x24 = true then (some (0, x1001)) else (if (wrap64 (x1001 - 1)) < (x1000.length : Int) then (if 0 ≤ (wrap64 (x1001 - 1)) then (if x1 = 0 then (none) else (some (Int.tmod (wrap64 (rd x1000 (wrap64 (x1001 - 1)))) x1, x1001))) else (none)) else (if (x1000.length : Int) = 0 then (none) else (if 0 ≤ (Int.tmod (wrap64 (x1001 - 1)) (x1000.length : Int)) then (if (Int.tmod (wrap64 (x1001 - 1)) (x1000.length : Int)) < (x1000.length : Int) then (if 0 ≤ (Int.tmod (wrap64 ((wrap64 ((wrap64 (x1001 - 1)) * 7)) + 3)) (x1000.length : Int)) then (if (Int.tmod (wrap64 ((wrap64 ((wrap64 (x1001 - 1)) * 7)) + 3)) (x1000.length : Int)) < (x1000.length : Int) then (if x1 = 0 then (none) else (some (Int.tmod (Go.bits .xor .i64 (wrap64 ((wrap64 ((wrap64 ((wrap64 ((wrap64 (rd x1000 (Int.tmod (wrap64 (x1001 - 1)) (x1000.length : Int)))) * 131)) + (wrap64 ((wrap64 (rd x1000 (Int.tmod (wrap64 ((wrap64 ((wrap64 (x1001 - 1)) * 7)) + 3)) (x1000.length : Int)))) * 1117)))) + (wrap64 ((wrap64 (x1001 - 1)) * 29)))) + (wrap64 ((wrap64 (Int.tdiv (wrap64 (x1001 - 1)) (x1000.length : Int))) * 53)))) (wrap64 (Int.tdiv (wrap64 ((wrap64 ((wrap64 ((wrap64 ((wrap64 (rd x1000 (Int.tmod (wrap64 (x1001 - 1)) (x1000.length : Int)))) * 131)) + (wrap64 ((wrap64 (rd x1000 (Int.tmod (wrap64 ((wrap64 ((wrap64 (x1001 - 1)) * 7)) + 3)) (x1000.length : Int)))) * 1117)))) + (wrap64 ((wrap64 (x1001 - 1)) * 29)))) + (wrap64 ((wrap64 (Int.tdiv (wrap64 (x1001 - 1)) (x1000.length : Int))) * 53)))) 64))) x1, x1001))) else (none)) else (none)) else (none)) else (none))))
def spec_l1Rd_pick.f (k : Nat) (s0_0 : List Int) (s0_1 : Int) (a1 : Int) : Option (Int × Int) := if a1 < 1 then (spec_l1Rd_pick.j0 k a1 true s0_0 (wrap64 (s0_1 + 1))) else (spec_l1Rd_pick.j0 k a1 ((s0_0.length : Int) == 0) s0_0 (wrap64 (s0_1 + 1)))
theorem spec_l1Rd_pick.calls (k : Nat) (g : Nat) (s0_0 : List Int) (s0_1 : Int) (a1 : Int) (r1 : Int) (r2 : Int) (w0 w : World) (hI : zc w0 w g s0_0 s0_1) (hB : Below w0.heap.size w0 w) (h : spec_l1Rd_pick.f k s0_0 s0_1 a1 = some (r1, r2)) :
  Calls Try.prog 66 #[.pointer (some ⟨g, 0, none⟩), .int .i64 a1] w fun e w' => e = .returned (.int .i64 r1) ∧ zc w0 w' g s0_0 r2 ∧ Below w0.heap.size w0 w' ∧ zf w w' g none := by
 have HI0 := za.mk hI
 have HK := za.mk (zf.refl w g none)
 have HL := za.mk hB.size
 clear hI
 have HW0 := za.mk hB.size
 have HB := za.mk hB
 clear hB
 have H : (if a1 < 1 then (spec_l1Rd_pick.j0 k a1 true s0_0 (wrap64 (s0_1 + 1))) else (spec_l1Rd_pick.j0 k a1 ((s0_0.length : Int) == 0) s0_0 (wrap64 (s0_1 + 1)))) = some (r1, r2) := h
 clear h
 have HC3 := za.mk H
 clear H
 obtain ⟨ASz4_0, cSz4_0, HGz4, hgz4, HSz4_0⟩ := HI0.out
 have hcz4_0 := cellS85_0 HGz4
 have hcz4_1 := cellS85_1 HGz4
 have hfz4_1 := zz HGz4 1
 clear HGz4 hgz4
 go_enter Try.func66, Try.ntmps66
 go_upto_region 2 with (fail)
 repeat (go_quiet (fail); go_upto_region 2 with (fail))
 go_cut [24] (fun v24 wc => ∃ (kq : Nat) (x24_2 : Bool), v24 = .bool x24_2 ∧ za (spec_l1Rd_pick.j0 kq a1 x24_2 s0_0 (wrap64 (s0_1 + 1)) = some (r1, r2)) ∧ za (kq ≤ k) ∧ za (zc w0 wc g s0_0 (wrap64 (s0_1 + 1))) ∧ za (zf w wc g none) ∧ za (Below w0.heap.size w0 wc))
 case first =>
  have H := HC3.out
  clear HC3
  by_cases c5 : a1 < 1
  ·rw [if_pos c5] at H
   have c5b0 : decide (a1 < 1) = true := decide_eq_true c5
   clear c5
   (first | rw [c5b0] | (simp only [zk, zl]; rw [c5b0]) | skip)
   have H' := za.mk H
   clear H
   go_wp2
   repeat (go_quiet (fail); try go_wp2)
   go_meet
   case rel => exact ⟨_, (true), (by first | rfl | (simp; done) | (simp [*]; done)), (by first | exact H' | (simp only [hji9]; exact H') | (simp only [hji14]; exact H') | (simp only [hji17]; exact H') | (simp only [hji9, hji14, hji17]; exact H')), ⟨by first | omega | exact Nat.le_refl _⟩, ⟨by repeat (first | (with_reducible first | exact HI0.out | apply zc.alloc | apply zc.drewN | apply zc.drew | apply zc.zx) | exact HI0.out)⟩, ⟨by repeat (first | (with_reducible first | exact HK.out | apply zf.set_ | apply zn | apply zq | apply zo) | exact HK.out)⟩, ⟨by repeat (first | (with_reducible first | exact HB.out | apply ze | apply zb | apply zd | refine zr ?_ (zc.ge HI0.out)) | exact HB.out)⟩⟩
  ·rw [if_neg c5] at H
   have c5b0 : decide (a1 < 1) = false := decide_eq_false c5
   clear c5
   (first | rw [c5b0] | (simp only [zk, zl]; rw [c5b0]) | skip)
   have H' := za.mk H
   clear H
   obtain ⟨ASz6_0, cSz6_0, HGz6, hgz6, HSz6_0⟩ := HI0.out
   have hcz6_0 := cellS85_0 HGz6
   have hcz6_1 := cellS85_1 HGz6
   have hfz6_1 := zz HGz6 1
   clear HGz6 hgz6
   go_wp2
   repeat (go_quiet (fail); try go_wp2)
   go_meet
   case rel => exact ⟨_, (((s0_0.length : Int) == 0)), (by first | rfl | (simp; done) | (simp [*]; done)), (by first | exact H' | (simp only [hji9]; exact H') | (simp only [hji14]; exact H') | (simp only [hji17]; exact H') | (simp only [hji9, hji14, hji17]; exact H')), ⟨by first | omega | exact Nat.le_refl _⟩, ⟨by repeat (first | (with_reducible first | exact HI0.out | apply zc.alloc | apply zc.drewN | apply zc.drew | apply zc.zx) | exact HI0.out)⟩, ⟨by repeat (first | (with_reducible first | exact HK.out | apply zf.set_ | apply zn | apply zq | apply zo) | exact HK.out)⟩, ⟨by repeat (first | (with_reducible first | exact HB.out | apply ze | apply zb | apply zd | refine zr ?_ (zc.ge HI0.out)) | exact HB.out)⟩⟩
 case rest =>
  clear HC3
  try clear p2
  try clear c5
  try clear c5b0
  try clear c6
  try clear p6
  try clear hcz4_0
  try clear hcz4_1
  try clear hcz6_0
  try clear hcz6_1
  try clear hfz4_1
  try clear hfz6_1
  obtain ⟨kq, x24_2, rfl, HA, HJ2, HI0, HK, HB⟩ := hcut
  cases kq with
  | zero => exact absurd HA.out (by simp [spec_l1Rd_pick.j0])
  | succ kj2 =>
   have H := HA.out
   clear HA
   simp only [spec_l1Rd_pick.j0] at H
   by_cases c7 : x24_2 = true
   ·subst c7
    have H1 : (some (0, (wrap64 (s0_1 + 1)))) = some (r1, r2) := by rw [if_pos rfl] at H; exact H
    clear H
    have H := H1
    clear H1
    simp only [Option.some.injEq, Prod.mk.injEq] at H
    obtain ⟨rfl, rfl⟩ := H
    go_wp2
    repeat (go_quiet (fail); try go_wp2)
    go_ret
    exact ⟨by first | rfl | (simp [zi, zj] <;> rfl) | (simp [*, zi, zj] <;> rfl), by repeat (first | (with_reducible first | exact HI0.out | apply zc.alloc | apply zc.drewN | apply zc.drew | apply zc.zx) | exact HI0.out), by repeat (first | (with_reducible first | exact HB.out | apply ze | apply zb | apply zd | refine zr ?_ (zc.ge HI0.out)) | exact HB.out), by repeat (first | (with_reducible first | exact HK.out | apply zf.set_ | apply zn | apply zq | apply zo) | exact HK.out)⟩
   ·replace c7 := Bool.eq_false_iff.mpr c7
    subst c7
    have H1 : (if (wrap64 ((wrap64 (s0_1 + 1)) - 1)) < (s0_0.length : Int) then (if 0 ≤ (wrap64 ((wrap64 (s0_1 + 1)) - 1)) then (if a1 = 0 then (none) else (some (Int.tmod (wrap64 (rd s0_0 (wrap64 ((wrap64 (s0_1 + 1)) - 1)))) a1, (wrap64 (s0_1 + 1))))) else (none)) else (if (s0_0.length : Int) = 0 then (none) else (if 0 ≤ (Int.tmod (wrap64 ((wrap64 (s0_1 + 1)) - 1)) (s0_0.length : Int)) then (if (Int.tmod (wrap64 ((wrap64 (s0_1 + 1)) - 1)) (s0_0.length : Int)) < (s0_0.length : Int) then (if 0 ≤ (Int.tmod (wrap64 ((wrap64 ((wrap64 ((wrap64 (s0_1 + 1)) - 1)) * 7)) + 3)) (s0_0.length : Int)) then (if (Int.tmod (wrap64 ((wrap64 ((wrap64 ((wrap64 (s0_1 + 1)) - 1)) * 7)) + 3)) (s0_0.length : Int)) < (s0_0.length : Int) then (if a1 = 0 then (none) else (some (Int.tmod (Go.bits .xor .i64 (wrap64 ((wrap64 ((wrap64 ((wrap64 ((wrap64 (rd s0_0 (Int.tmod (wrap64 ((wrap64 (s0_1 + 1)) - 1)) (s0_0.length : Int)))) * 131)) + (wrap64 ((wrap64 (rd s0_0 (Int.tmod (wrap64 ((wrap64 ((wrap64 ((wrap64 (s0_1 + 1)) - 1)) * 7)) + 3)) (s0_0.length : Int)))) * 1117)))) + (wrap64 ((wrap64 ((wrap64 (s0_1 + 1)) - 1)) * 29)))) + (wrap64 ((wrap64 (Int.tdiv (wrap64 ((wrap64 (s0_1 + 1)) - 1)) (s0_0.length : Int))) * 53)))) (wrap64 (Int.tdiv (wrap64 ((wrap64 ((wrap64 ((wrap64 ((wrap64 (rd s0_0 (Int.tmod (wrap64 ((wrap64 (s0_1 + 1)) - 1)) (s0_0.length : Int)))) * 131)) + (wrap64 ((wrap64 (rd s0_0 (Int.tmod (wrap64 ((wrap64 ((wrap64 ((wrap64 (s0_1 + 1)) - 1)) * 7)) + 3)) (s0_0.length : Int)))) * 1117)))) + (wrap64 ((wrap64 ((wrap64 (s0_1 + 1)) - 1)) * 29)))) + (wrap64 ((wrap64 (Int.tdiv (wrap64 ((wrap64 (s0_1 + 1)) - 1)) (s0_0.length : Int))) * 53)))) 64))) a1, (wrap64 (s0_1 + 1))))) else (none)) else (none)) else (none)) else (none)))) = some (r1, r2) := by rw [if_neg (show ¬ (false = true) by decide)] at H; exact H
    clear H
    have H := H1
    clear H1
    by_cases c8 : (wrap64 ((wrap64 (s0_1 + 1)) - 1)) < (s0_0.length : Int)
    ·rw [if_pos c8] at H
     have c8b0 : decide ((wrap64 ((wrap64 (s0_1 + 1)) - 1)) < (s0_0.length : Int)) = true := decide_eq_true c8
     clear c8
     obtain ⟨ji9, hji9⟩ : ∃ j_ : Int, (wrap64 ((wrap64 (s0_1 + 1)) - 1)) = j_ := ⟨_, rfl⟩
     replace H : (if 0 ≤ (ji9) then (if a1 = 0 then (none) else (some (Int.tmod (wrap64 (rd s0_0 (ji9))) a1, (wrap64 (s0_1 + 1))))) else (none)) = some (r1, r2) := by first | (rw [hji9] at H; exact H) | (simp only [hji9] at H ⊢; exact H)
     (try rw [hji9] at c8b0)
     have hji9w : (IntKind.i64.wrap ((wrap64 (s0_1 + 1)) - 1)) = ji9 := (zk _).trans hji9
     by_cases c10 : 0 ≤ (ji9)
     ·rw [if_pos c10] at H
      have c10b0 : decide (0 ≤ (ji9)) = true := decide_eq_true c10
      clear c10
      by_cases c11 : a1 = 0
      ·rw [if_pos c11] at H
       exact absurd H (by simp)
      ·rw [if_neg c11] at H
       have c11b0 : (a1 == 0) = false := beq_eq_false_iff_ne.mpr c11
       have c11b1 : (a1 != 0) = true := bne_iff_ne.mpr c11
       simp only [Option.some.injEq, Prod.mk.injEq] at H
       obtain ⟨rfl, rfl⟩ := H
       obtain ⟨ASz12_0, cSz12_0, HGz12, hgz12, HSz12_0⟩ := HI0.out
       have hcz12_0 := cellS85_0 HGz12
       have hcz12_1 := cellS85_1 HGz12
       have hfz12_1 := zz HGz12 1
       clear HGz12 hgz12
       have p255 : 0 ≤ ((ji9) : Int) := of_decide_eq_true (by assumption)
       have q255 : (ji9) < (s0_0.length : Int) := of_decide_eq_true (by assumption)
       obtain ⟨ad255, e255, hx255_0⟩ := Kd.zta HSz12_0 (ji9) p255 q255
       cases e255
       replace hx255_0 := zjc HB.out hx255_0
       replace p255 := eq_true p255
       replace q255 := eq_true q255
       go_wp2
       repeat (go_quiet (fail); try go_wp2)
       go_ret
       exact ⟨by first | rfl | (simp [zi, zj] <;> rfl) | (simp only [← hji9]; first | rfl | (simp [zi, zj] <;> rfl)) | (simp [*, zi, zj] <;> rfl), by repeat (first | (with_reducible first | exact HI0.out | apply zc.alloc | apply zc.drewN | apply zc.drew | apply zc.zx) | exact HI0.out), by repeat (first | (with_reducible first | exact HB.out | apply ze | apply zb | apply zd | refine zr ?_ (zc.ge HI0.out)) | exact HB.out), by repeat (first | (with_reducible first | exact HK.out | apply zf.set_ | apply zn | apply zq | apply zo) | exact HK.out)⟩
     ·rw [if_neg c10] at H
      exact absurd H (by simp)
    ·rw [if_neg c8] at H
     have c8b0 : decide ((wrap64 ((wrap64 (s0_1 + 1)) - 1)) < (s0_0.length : Int)) = false := decide_eq_false c8
     clear c8
     by_cases c13 : (s0_0.length : Int) = 0
     ·rw [if_pos c13] at H
      exact absurd H (by simp)
     ·rw [if_neg c13] at H
      have c13b0 : ((s0_0.length : Int) == 0) = false := beq_eq_false_iff_ne.mpr c13
      have c13b1 : ((s0_0.length : Int) != 0) = true := bne_iff_ne.mpr c13
      have c13b2 : ¬ (s0_0 = []) := fun h_ => c13 (by rw [h_]; rfl)
      obtain ⟨ji14, hji14⟩ : ∃ j_ : Int, (Int.tmod (wrap64 ((wrap64 (s0_1 + 1)) - 1)) (s0_0.length : Int)) = j_ := ⟨_, rfl⟩
      replace H : (if 0 ≤ (ji14) then (if (ji14) < (s0_0.length : Int) then (if 0 ≤ (Int.tmod (wrap64 ((wrap64 ((wrap64 ((wrap64 (s0_1 + 1)) - 1)) * 7)) + 3)) (s0_0.length : Int)) then (if (Int.tmod (wrap64 ((wrap64 ((wrap64 ((wrap64 (s0_1 + 1)) - 1)) * 7)) + 3)) (s0_0.length : Int)) < (s0_0.length : Int) then (if a1 = 0 then (none) else (some (Int.tmod (Go.bits .xor .i64 (wrap64 ((wrap64 ((wrap64 ((wrap64 ((wrap64 (rd s0_0 (ji14))) * 131)) + (wrap64 ((wrap64 (rd s0_0 (Int.tmod (wrap64 ((wrap64 ((wrap64 ((wrap64 (s0_1 + 1)) - 1)) * 7)) + 3)) (s0_0.length : Int)))) * 1117)))) + (wrap64 ((wrap64 ((wrap64 (s0_1 + 1)) - 1)) * 29)))) + (wrap64 ((wrap64 (Int.tdiv (wrap64 ((wrap64 (s0_1 + 1)) - 1)) (s0_0.length : Int))) * 53)))) (wrap64 (Int.tdiv (wrap64 ((wrap64 ((wrap64 ((wrap64 ((wrap64 (rd s0_0 (ji14))) * 131)) + (wrap64 ((wrap64 (rd s0_0 (Int.tmod (wrap64 ((wrap64 ((wrap64 ((wrap64 (s0_1 + 1)) - 1)) * 7)) + 3)) (s0_0.length : Int)))) * 1117)))) + (wrap64 ((wrap64 ((wrap64 (s0_1 + 1)) - 1)) * 29)))) + (wrap64 ((wrap64 (Int.tdiv (wrap64 ((wrap64 (s0_1 + 1)) - 1)) (s0_0.length : Int))) * 53)))) 64))) a1, (wrap64 (s0_1 + 1))))) else (none)) else (none)) else (none)) else (none)) = some (r1, r2) := by first | (rw [hji14] at H; exact H) | (simp only [hji14] at H ⊢; exact H)
      by_cases c15 : 0 ≤ (ji14)
      ·rw [if_pos c15] at H
       have c15b0 : decide (0 ≤ (ji14)) = true := decide_eq_true c15
       clear c15
       by_cases c16 : (ji14) < (s0_0.length : Int)
       ·rw [if_pos c16] at H
        have c16b0 : decide ((ji14) < (s0_0.length : Int)) = true := decide_eq_true c16
        clear c16
        obtain ⟨ji17, hji17⟩ : ∃ j_ : Int, (Int.tmod (wrap64 ((wrap64 ((wrap64 ((wrap64 (s0_1 + 1)) - 1)) * 7)) + 3)) (s0_0.length : Int)) = j_ := ⟨_, rfl⟩
        replace H : (if 0 ≤ (ji17) then (if (ji17) < (s0_0.length : Int) then (if a1 = 0 then (none) else (some (Int.tmod (Go.bits .xor .i64 (wrap64 ((wrap64 ((wrap64 ((wrap64 ((wrap64 (rd s0_0 (ji14))) * 131)) + (wrap64 ((wrap64 (rd s0_0 (ji17))) * 1117)))) + (wrap64 ((wrap64 ((wrap64 (s0_1 + 1)) - 1)) * 29)))) + (wrap64 ((wrap64 (Int.tdiv (wrap64 ((wrap64 (s0_1 + 1)) - 1)) (s0_0.length : Int))) * 53)))) (wrap64 (Int.tdiv (wrap64 ((wrap64 ((wrap64 ((wrap64 ((wrap64 (rd s0_0 (ji14))) * 131)) + (wrap64 ((wrap64 (rd s0_0 (ji17))) * 1117)))) + (wrap64 ((wrap64 ((wrap64 (s0_1 + 1)) - 1)) * 29)))) + (wrap64 ((wrap64 (Int.tdiv (wrap64 ((wrap64 (s0_1 + 1)) - 1)) (s0_0.length : Int))) * 53)))) 64))) a1, (wrap64 (s0_1 + 1))))) else (none)) else (none)) = some (r1, r2) := by first | (rw [hji17] at H; exact H) | (simp only [hji17] at H ⊢; exact H)
        by_cases c18 : 0 ≤ (ji17)
        ·rw [if_pos c18] at H
         have c18b0 : decide (0 ≤ (ji17)) = true := decide_eq_true c18
         clear c18
         by_cases c19 : (ji17) < (s0_0.length : Int)
         ·rw [if_pos c19] at H
          have c19b0 : decide ((ji17) < (s0_0.length : Int)) = true := decide_eq_true c19
          clear c19
          by_cases c20 : a1 = 0
          ·rw [if_pos c20] at H
           exact absurd H (by simp)
          ·rw [if_neg c20] at H
           have c20b0 : (a1 == 0) = false := beq_eq_false_iff_ne.mpr c20
           have c20b1 : (a1 != 0) = true := bne_iff_ne.mpr c20
           simp only [Option.some.injEq, Prod.mk.injEq] at H
           obtain ⟨rfl, rfl⟩ := H
           obtain ⟨ASz21_0, cSz21_0, HGz21, hgz21, HSz21_0⟩ := HI0.out
           have hcz21_0 := cellS85_0 HGz21
           have hcz21_1 := cellS85_1 HGz21
           have hfz21_1 := zz HGz21 1
           clear HGz21 hgz21
           have p256 : 0 ≤ ((ji14) : Int) := of_decide_eq_true (by assumption)
           have q256 : (ji14) < (s0_0.length : Int) := of_decide_eq_true (by assumption)
           obtain ⟨ad256, e256, hx256_0⟩ := Kd.zta HSz21_0 (ji14) p256 q256
           cases e256
           replace hx256_0 := zjc HB.out hx256_0
           replace p256 := eq_true p256
           replace q256 := eq_true q256
           have p257 : 0 ≤ ((ji17) : Int) := of_decide_eq_true (by assumption)
           have q257 : (ji17) < (s0_0.length : Int) := of_decide_eq_true (by assumption)
           obtain ⟨ad257, e257, hx257_0⟩ := Kd.zta HSz21_0 (ji17) p257 q257
           obtain rfl : ad256 = ad257 := (by injection e257)
           replace hx257_0 := zjc HB.out hx257_0
           replace p257 := eq_true p257
           replace q257 := eq_true q257
           go_wp2
           repeat (go_quiet (fail); try go_wp2)
           go_ret
           exact ⟨by first | rfl | (simp [zi, zj] <;> rfl) | (simp only [← hji14, ← hji17]; first | rfl | (simp [zi, zj] <;> rfl)) | (simp [*, zi, zj] <;> rfl), by repeat (first | (with_reducible first | exact HI0.out | apply zc.alloc | apply zc.drewN | apply zc.drew | apply zc.zx) | exact HI0.out), by repeat (first | (with_reducible first | exact HB.out | apply ze | apply zb | apply zd | refine zr ?_ (zc.ge HI0.out)) | exact HB.out), by repeat (first | (with_reducible first | exact HK.out | apply zf.set_ | apply zn | apply zq | apply zo) | exact HK.out)⟩
         ·rw [if_neg c19] at H
          exact absurd H (by simp)
        ·rw [if_neg c18] at H
         exact absurd H (by simp)
       ·rw [if_neg c16] at H
        exact absurd H (by simp)
      ·rw [if_neg c15] at H
       exact absurd H (by simp)
def spec_l1Rd_one.f (k : Nat) (s0_0 : List Int) (s0_1 : Int) (l1 : List Int) : Option (Int × Int) := (spec_l1Rd_pick.f k s0_0 s0_1 (l1.length : Int)).bind fun bt258 => (if 0 ≤ bt258.1 then (if bt258.1 < (l1.length : Int) then (some (rd l1 bt258.1, bt258.2)) else (none)) else (none))
theorem spec_l1Rd_one.calls (k : Nat) (g : Nat) (s0_0 : List Int) (s0_1 : Int) (A1 : Option Addr) (c1 : Nat) (l1 : List Int) (r1 : Int) (r2 : Int) (w0 w : World) (hI : zc w0 w g s0_0 s0_1) (hB : Below w0.heap.size w0 w) (hr1 : Kd.C (Kd.int .i64) w A1 l1.length l1) (hc1 : l1.length ≤ c1) (hf1 : ∀ ad, A1 = some ad → 0 < l1.length → ad.block ≠ g) (h : spec_l1Rd_one.f k s0_0 s0_1 l1 = some (r1, r2)) :
  Calls Try.prog 67 #[.pointer (some ⟨g, 0, none⟩), .slice A1 l1.length c1] w fun e w' => e = .returned (.int .i64 r1) ∧ zc w0 w' g s0_0 r2 ∧ Below w0.heap.size w0 w' ∧ zf w w' g none := by
 have HR1 := za.mk hr1
 have HC1 := za.mk hc1
 clear hr1 hc1
 have HI0 := za.mk hI
 have HK := za.mk (zf.refl w g none)
 have HL := za.mk hB.size
 clear hI
 have HW0 := za.mk hB.size
 have HB := za.mk hB
 clear hB
 have H : ((spec_l1Rd_pick.f k s0_0 s0_1 (l1.length : Int)).bind fun bt258 => (if 0 ≤ bt258.1 then (if bt258.1 < (l1.length : Int) then (some (rd l1 bt258.1, bt258.2)) else (none)) else (none))) = some (r1, r2) := h
 clear h
 replace H := Option.bind_eq_some_iff.mp H
 obtain ⟨⟨t258, t259⟩, A30, H⟩ := H
 replace H : (if 0 ≤ t258 then (if t258 < (l1.length : Int) then (some (rd l1 t258, t259)) else (none)) else (none)) = some (r1, r2) := H
 have A3 := za.mk A30
 clear A30
 by_cases c4 : 0 ≤ t258
 ·rw [if_pos c4] at H
  have c4b0 : decide (0 ≤ t258) = true := decide_eq_true c4
  clear c4
  by_cases c5 : t258 < (l1.length : Int)
  ·rw [if_pos c5] at H
   have c5b0 : decide (t258 < (l1.length : Int)) = true := decide_eq_true c5
   clear c5
   simp only [Option.some.injEq, Prod.mk.injEq] at H
   obtain ⟨rfl, rfl⟩ := H
   go_enter Try.func67, Try.ntmps67
   go_wp2_with (first | ((with_reducible refine zt (f := 66) rfl ?_); refine zgo (some 9) Try.func66 #[.pointer (some ⟨g, 0, none⟩), .int .i64 (l1.length : Int)] rfl ?_; (with_reducible refine (spec_l1Rd_pick.calls k g s0_0 s0_1 (l1.length : Int) t258 t259 w0 _ ?side1 ?side2 A3.out).mono ?_); (case side1 => repeat (first | (with_reducible first | exact HI0.out | apply zc.alloc | apply zc.drewN | apply zc.drew | apply zc.zx) | exact HI0.out)); (case side2 => repeat (first | (with_reducible first | exact HB.out | apply ze | apply zb | apply zd | refine zr ?_ (zc.ge HI0.out)) | exact HB.out)); rintro e w6 ⟨rfl, hi, hb, hk⟩; refine ⟨_, rfl, ?_⟩; have n0_ := za.mk (zf.trans (by repeat (first | (with_reducible first | exact HK.out | apply zf.set_ | apply zn | apply zq | apply zo) | exact HK.out)) hk (.inl rfl)); have n1_ := za.mk (hb); have n2_ := za.mk (hi); clear HK; clear HB; clear HI0; have HK := n0_; have HB := n1_; have HI0 := n2_; clear n0_ n1_ n2_; (try clear hb); (try clear hb2); (try clear hk); (try clear hi); have p260 : 0 ≤ (t258 : Int) := of_decide_eq_true (by assumption); have q260 : t258 < (l1.length : Int) := of_decide_eq_true (by assumption); obtain ⟨ad260, e260, hx260_0⟩ := Kd.zta HR1.out t258 p260 q260; cases e260; replace hx260_0 := keep_cell HK.out hx260_0 (by first | (rw [add_block]; exact hf1 _ rfl (by omega)) | exact hf1 _ rfl (by omega) | exact hf1 ad260 rfl (by omega)); replace p260 := eq_true p260; replace q260 := eq_true q260))
   go_ret
   exact ⟨by first | rfl | (simp [zi, zj] <;> rfl) | (simp [*, zi, zj] <;> rfl), by repeat (first | (with_reducible first | exact HI0.out | apply zc.alloc | apply zc.drewN | apply zc.drew | apply zc.zx) | exact HI0.out), by repeat (first | (with_reducible first | exact HB.out | apply ze | apply zb | apply zd | refine zr ?_ (zc.ge HI0.out)) | exact HB.out), by repeat (first | (with_reducible first | exact HK.out | apply zf.set_ | apply zn | apply zq | apply zo) | exact HK.out)⟩
  ·rw [if_neg c5] at H
   exact absurd H (by simp)
 ·rw [if_neg c4] at H
  exact absurd H (by simp)
end Go.Proofs.Ytmjhdgofepdgkaa.PFnWides
