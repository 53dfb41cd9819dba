-- Written by a program of this session (wip/tools) out of the translation; its shape is that of the kit print.
import Derived.Test.YtmjhdgofepdgkaaPFnExactFillCostx0
import Derived.Test.YtmjhdgofepdgkaaPFnExactFillCostx16
namespace Go.Proofs.Ytmjhdgofepdgkaa.PFnExactFillCost
open Go.RowKit Go.Proofs.YtmjhdgofepdgkaaW.PrintWords Go.Proofs.YtmjhdgofepdgkaaW.PrintLast Go.Proofs.YtmjhdgofepdgkaaW.PrintMore
attribute [local go_sem] zbb zcb zjb zkb zxa zya zdb zeb
set_option linter.unusedVariables false
set_option maxHeartbeats 8000000
set_option maxRecDepth 100000
set_option linter.unusedSimpArgs false
def impl_afterSpace.f (k : Nat) (a0 : Int) : Option (Bool) := (impl_oneOf.f k a0 (([3, 4, 6] : List Int))).bind fun t359 => (some t359)
theorem impl_afterSpace.calls (k : Nat) (a0 : Int) (r : Bool) (w : World) (h : impl_afterSpace.f k a0 = some r) :
  Calls Try.prog 118 #[.int .i64 a0] w fun e w' => e = .returned (.bool r) ∧ Below w.heap.size w w' := by
 have HB := za.mk (Below.refl w.heap.size w)
 have H : ((impl_oneOf.f k a0 (([3, 4, 6] : List Int))).bind fun t359 => (some t359)) = some r := h
 clear h
 obtain ⟨y356, hy356⟩ : ∃ y_ : List Int, y_ = (([3, 4, 6] : List Int)) := ⟨_, rfl⟩
 replace H : ((impl_oneOf.f k a0 y356).bind fun t359 => (some t359)) = some r := by first | (rw [hy356]; with_reducible exact H) | (have H2_ := (Option.bind_some _ _).symm.trans H; rw [hy356]; with_reducible exact H2_) | (have H2_ := (Option.bind_some _ _).symm.trans H; with_reducible exact H2_) | with_reducible exact H | (rw [hy356]; exact H) | exact H
 have Ny356 := za.mk hy356
 clear hy356
 replace H := Option.bind_eq_some_iff.mp H
 obtain ⟨t359, A20, H⟩ := H
 replace H : (some t359) = some r := H
 have A2 := za.mk A20
 clear A20
 obtain rfl := Option.some.inj H
 go_enter Try.func118, Try.ntmps118
 go_wp2_with (first | ((with_reducible refine zw (N := 4) rfl ?_); refine Kd.zwa (Kd.int .i64) _ 3 ?hg (N := 4) ?hd (xs := ([3, 4, 6] : List Int)) (inner := [.int .i64 3, .int .i64 4, .int .i64 6]) (ok := fun _ => True) (okp := fun _ => True) ?hr ?hp (fun _ hk => hk) trivial (Below.refl _ _) (Nat.le_refl _) (by simp) ?_; (case hd => rfl); (case hg => rfl); (case hr => first | (go_simp; done) | (go_simp; rfl)); (case hp => exact (Reps.one (show Kd.M (Kd.int .i64) _ _ _ 3 [.int .i64 3] from rfl) (Reps.one (show Kd.M (Kd.int .i64) _ _ _ 4 [.int .i64 4] from rfl) (Reps.one (show Kd.M (Kd.int .i64) _ _ _ 6 [.int .i64 6] from rfl) (Reps.none _ _))))); intro v357 w3 ho4 hb hg_ hnew_; clear hg_ hnew_; (first | rw [← Ny356.out] at ho4 | (simp only [Int.reduceToNat] at ho4; rw [← Ny356.out] at ho4)); have n0_ := za.mk (Kd.zqa ho4 (zp (by repeat (first | (with_reducible first | exact HB.out | apply zc | apply zb | apply zd) | exact HB.out)))); have n1_ := za.mk (zg (by repeat (first | (with_reducible first | exact HB.out | apply zc | apply zb | apply zd) | exact HB.out)) hb); clear HB; have HO358 := n0_; have HB := n1_; clear n0_ n1_; clear hb ho4; obtain ⟨Ao5, co5, eo5⟩ := Kd.zia HO358.out; subst eo5) | ((with_reducible refine zj (f := 135) rfl ?_); refine zgo (some 5) Try.func135 #[.int .i64 a0, .slice Ao5 y356.length co5] rfl ?_; (with_reducible refine (impl_oneOf.calls k a0 _ _ y356 t359 _ ?side1 ?side2 A2.out).mono ?_); (case side1 => repeat (first | exact (Kd.zt HO358.out).2.2 | (with_reducible refine Kd.zea ?_ _) | (with_reducible refine Kd.zga ?_ _) | (with_reducible refine Kd.zha ?_))); (case side2 => exact (Kd.zt HO358.out).2.1); rintro e w' ⟨rfl, ⟨nd, rfl⟩⟩; refine ⟨_, rfl, ?_⟩))
 go_ret
 exact ⟨by first | rfl | (simp [zh, zi] <;> rfl) | (simp [*, zh, zi] <;> rfl), by repeat (first | (with_reducible first | exact HB.out | apply zc | apply zb | apply zd) | exact HB.out)⟩
def impl_countsOf.l0 : Nat → List Int → List Int → Int → Int → Option (List Int)
 | 0, _, _, _, _ => none
 | k + 1, x3, x7, x8, x9 => if x9 < x8 then (if 0 ≤ x9 then (if x9 < (x7.length : Int) then ((impl_RuneLine.f k (rd x7 x9)).bind fun t361 => (if t361 = 7 then (if x9 > 0 then (if 0 ≤ (wrap64 (x9 - 1)) then (if (wrap64 (x9 - 1)) < (x3.length : Int) then ((impl_afterSpace.f k (rd x3 (wrap64 (x9 - 1)))).bind fun t363 => (if t363 = true then (if x3.length < 17592186044416 then (impl_countsOf.l0 k (x3 ++ [1]) x7 x8 (wrap64 (x9 + 1))) else (none)) else (if x3.length < 17592186044416 then (impl_countsOf.l0 k (x3 ++ [rd x3 (wrap64 (x9 - 1))]) x7 x8 (wrap64 (x9 + 1))) else (none)))) else (none)) else (none)) else (if x3.length < 17592186044416 then (impl_countsOf.l0 k (x3 ++ [1]) x7 x8 (wrap64 (x9 + 1))) else (none))) else (if x3.length < 17592186044416 then (impl_countsOf.l0 k (x3 ++ [t361]) x7 x8 (wrap64 (x9 + 1))) else (none)))) else (none)) else (none)) else (some x3)
def impl_countsOf.f (k : Nat) (l0 : List Int) : Option (List Int) := impl_countsOf.l0 k ([] : List Int) l0 (l0.length : Int) 0
theorem impl_countsOf.calls (k : Nat) (A0 : Option Addr) (c0 : Nat) (l0 : List Int) (r : List Int) (w : World) (hr0 : Kd.C (Kd.int .i64) w A0 l0.length l0) (hc0 : l0.length ≤ c0) (h : impl_countsOf.f k l0 = some r) :
  Calls Try.prog 115 #[.slice A0 l0.length c0] w fun e w' => ∃ v0_ : Value, e = .returned (v0_) ∧ Kd.R (Kd.int .i64) 3 w' w.heap.size (fun _ => True) v0_ r ∧ Below w.heap.size w w' := by
 have HR0 := za.mk hr0
 have HC0 := za.mk hc0
 clear hr0 hc0
 have HB := za.mk (Below.refl w.heap.size w)
 have H : (impl_countsOf.l0 k ([] : List Int) l0 (l0.length : Int) 0) = some r := h
 clear h
 have H' := za.mk H
 clear H
 go_enter Try.func115, Try.ntmps115
 go_wp2
 go_loopg [3, 9] k (fun kq v3 v9 w' => ∃ (x3_1 : List Int) (x9_1 : Int), v9 = .int .i64 x9_1 ∧ za (impl_countsOf.l0 kq x3_1 l0 (l0.length : Int) x9_1 = some r) ∧ za (kq ≤ k) ∧ za (Kd.R (Kd.int .i64) 3 w' w.heap.size (fun _ => True) v3 x3_1) ∧ za (Below w.heap.size w w'))
 case atStart => exact ⟨(([] : List Int)), (0), (by first | rfl | (simp; done) | (simp [*]; done)), H', ⟨Nat.le_refl _⟩, ⟨by first | exact Kd.R_nil _ _ _ _ _ | exact Kd.N_nil _ _ _ _ _ | exact Kd.V_nil _ _ _ _ _ | exact Kd.Q_nil _ _ _ _ _ | exact Kd.S_nil _ _ _ _ _⟩, ⟨by repeat (first | (with_reducible first | exact HB.out | apply zc | apply zb | apply zd) | exact HB.out)⟩⟩
 case round =>
  clear H'
  try clear c1
  obtain ⟨x3_1, x9_1, rfl, HA, HK1, HO_3, HB⟩ := hrel
  cases gk with
  | zero => exact absurd HA.out (by simp [impl_countsOf.l0])
  | succ k1 =>
   have H := HA.out
   clear HA
   simp only [impl_countsOf.l0] at H
   by_cases c2 : x9_1 < (l0.length : Int)
   ·rw [if_pos c2] at H
    have c2b0 : decide (x9_1 < (l0.length : Int)) = true := decide_eq_true c2
    clear c2
    by_cases c3 : 0 ≤ x9_1
    ·rw [if_pos c3] at H
     have c3b0 : decide (0 ≤ x9_1) = true := decide_eq_true c3
     clear c3
     by_cases c4 : x9_1 < (l0.length : Int)
     ·rw [if_pos c4] at H
      have c4b0 : decide (x9_1 < (l0.length : Int)) = true := decide_eq_true c4
      clear c4
      replace H := Option.bind_eq_some_iff.mp H
      obtain ⟨t361, A50, H⟩ := H
      replace H : (if t361 = 7 then (if x9_1 > 0 then (if 0 ≤ (wrap64 (x9_1 - 1)) then (if (wrap64 (x9_1 - 1)) < (x3_1.length : Int) then ((impl_afterSpace.f k1 (rd x3_1 (wrap64 (x9_1 - 1)))).bind fun t363 => (if t363 = true then (if x3_1.length < 17592186044416 then (impl_countsOf.l0 k1 (x3_1 ++ [1]) l0 (l0.length : Int) (wrap64 (x9_1 + 1))) else (none)) else (if x3_1.length < 17592186044416 then (impl_countsOf.l0 k1 (x3_1 ++ [rd x3_1 (wrap64 (x9_1 - 1))]) l0 (l0.length : Int) (wrap64 (x9_1 + 1))) else (none)))) else (none)) else (none)) else (if x3_1.length < 17592186044416 then (impl_countsOf.l0 k1 (x3_1 ++ [1]) l0 (l0.length : Int) (wrap64 (x9_1 + 1))) else (none))) else (if x3_1.length < 17592186044416 then (impl_countsOf.l0 k1 (x3_1 ++ [t361]) l0 (l0.length : Int) (wrap64 (x9_1 + 1))) else (none))) = some r := H
      have A5 := za.mk A50
      clear A50
      by_cases c6 : t361 = 7
      ·rw [if_pos c6] at H
       have c6b0 : (t361 == 7) = true := beq_iff_eq.mpr c6
       have c6b1 : (t361 != 7) = false := bne_eq_false_iff_eq.mpr c6
       clear c6
       by_cases c7 : x9_1 > 0
       ·rw [if_pos c7] at H
        have c7b0 : decide (0 < x9_1) = true := decide_eq_true c7
        clear c7
        obtain ⟨ji8, hji8⟩ : ∃ j_ : Int, (wrap64 (x9_1 - 1)) = j_ := ⟨_, rfl⟩
        replace H : (if 0 ≤ (ji8) then (if (ji8) < (x3_1.length : Int) then ((impl_afterSpace.f k1 (rd x3_1 (ji8))).bind fun t363 => (if t363 = true then (if x3_1.length < 17592186044416 then (impl_countsOf.l0 k1 (x3_1 ++ [1]) l0 (l0.length : Int) (wrap64 (x9_1 + 1))) else (none)) else (if x3_1.length < 17592186044416 then (impl_countsOf.l0 k1 (x3_1 ++ [rd x3_1 (ji8)]) l0 (l0.length : Int) (wrap64 (x9_1 + 1))) else (none)))) else (none)) else (none)) = some r := by first | (rw [hji8] at H; exact H) | (simp only [hji8] at H ⊢; exact H)
        (try rw [hji8] at A5)
        have hji8w : (IntKind.i64.wrap (x9_1 - 1)) = ji8 := (zr _).trans hji8
        by_cases c9 : 0 ≤ (ji8)
        ·rw [if_pos c9] at H
         have c9b0 : decide (0 ≤ (ji8)) = true := decide_eq_true c9
         clear c9
         by_cases c10 : (ji8) < (x3_1.length : Int)
         ·rw [if_pos c10] at H
          have c10b0 : decide ((ji8) < (x3_1.length : Int)) = true := decide_eq_true c10
          clear c10
          replace H := Option.bind_eq_some_iff.mp H
          obtain ⟨t363, A110, H⟩ := H
          replace H : (if t363 = true then (if x3_1.length < 17592186044416 then (impl_countsOf.l0 k1 (x3_1 ++ [1]) l0 (l0.length : Int) (wrap64 (x9_1 + 1))) else (none)) else (if x3_1.length < 17592186044416 then (impl_countsOf.l0 k1 (x3_1 ++ [rd x3_1 (ji8)]) l0 (l0.length : Int) (wrap64 (x9_1 + 1))) else (none))) = some r := H
          have A11 := za.mk A110
          clear A110
          by_cases c12 : t363 = true
          ·subst c12
           have H1 : (if x3_1.length < 17592186044416 then (impl_countsOf.l0 k1 (x3_1 ++ [1]) l0 (l0.length : Int) (wrap64 (x9_1 + 1))) else (none)) = some r := by rw [if_pos rfl] at H; exact H
           clear H
           have H := H1
           clear H1
           by_cases c13 : x3_1.length < 17592186044416
           ·rw [if_pos c13] at H
            have LMc13 := za.mk c13
            clear c13
            obtain ⟨y364, hy364⟩ : ∃ y_ : List Int, y_ = (x3_1 ++ [1]) := ⟨_, rfl⟩
            replace H : (impl_countsOf.l0 k1 y364 l0 (l0.length : Int) (wrap64 (x9_1 + 1))) = some r := by first | (rw [hy364]; with_reducible exact H) | (have H2_ := (Option.bind_some _ _).symm.trans H; rw [hy364]; with_reducible exact H2_) | (have H2_ := (Option.bind_some _ _).symm.trans H; with_reducible exact H2_) | with_reducible exact H | (rw [hy364]; exact H) | exact H
            have Ny364 := za.mk hy364
            clear hy364
            have H' := za.mk H
            clear H
            have p360 : 0 ≤ (x9_1 : Int) := of_decide_eq_true (by assumption)
            have q360 : x9_1 < (l0.length : Int) := of_decide_eq_true (by assumption)
            obtain ⟨ad360, e360, hx360_0⟩ := Kd.zfa HR0.out x9_1 p360 q360
            cases e360
            replace hx360_0 := (HB.out.cell (World.block_lt_of_cell? w _ hx360_0)).trans hx360_0
            replace p360 := eq_true p360
            replace q360 := eq_true q360
            go_wp2_with (first | ((with_reducible refine zj (f := 117) rfl ?_); refine zgo (some 15) Try.func117 #[.int .i64 (rd l0 x9_1)] rfl ?_; (with_reducible refine (impl_RuneLine.calls k1 (rd l0 x9_1) t361 _ A5.out).mono ?_); rintro e w14 ⟨rfl, hb⟩; refine ⟨_, rfl, ?_⟩; have n0_ := za.mk (Kd.zba (by (with_reducible repeat (first | apply Kd.zn | apply Kd.zo | apply Kd.zq)); exact HO_3.out) hb); have n1_ := za.mk (zg (by repeat (first | (with_reducible first | exact HB.out | apply zc | apply zb | apply zd) | exact HB.out)) hb); clear HO_3; clear HB; have HO_3 := n0_; have HB := n1_; clear n0_ n1_; (try clear hb); (try clear hb2); (try clear hk); (try clear hi); obtain ⟨Ao15, co15, eo15⟩ := Kd.zia HO_3.out; subst eo15; have p362 : 0 ≤ ((ji8) : Int) := of_decide_eq_true (by assumption); have q362 : (ji8) < (x3_1.length : Int) := of_decide_eq_true (by assumption); obtain ⟨ad362, e362, hx362_0⟩ := Kd.zfa (Kd.zt HO_3.out).2.2 (ji8) p362 q362; cases e362; replace p362 := eq_true p362; replace q362 := eq_true q362) | (go_at_call 118; (with_reducible refine (impl_afterSpace.calls k1 (rd x3_1 (ji8)) true _ A11.out).mono ?_); rintro e w16 ⟨rfl, hb⟩; have n0_ := za.mk (Kd.zba (by (with_reducible repeat (first | apply Kd.zn | apply Kd.zo | apply Kd.zq)); exact HO_3.out) hb); have n1_ := za.mk (zg (by repeat (first | (with_reducible first | exact HB.out | apply zc | apply zb | apply zd) | exact HB.out)) hb); clear HO_3; clear HB; have HO_3 := n0_; have HB := n1_; clear n0_ n1_; (try clear hb); (try clear hb2); (try clear hk); (try clear hi)) | ((with_reducible refine zra (b := .append) (xs := #[.tmp 34, .tmp 36]) rfl ?_); at_builtin; refine Kd.zza (Kd.int .i64) (w0 := w) w.heap.size rfl (.tmp 34) (.tmp 36) 22 3 (.int .i64 0) 8 rfl Try.underlying22 info3 rfl (by decide) (by omega) (.slice (some ad362) x3_1.length co15) x3_1 1 [.int .i64 1] (fun _ => True) (fun _ => False) rfl rfl ?aP (fun _ hk => hk.elim) ?aF ?aO ?aB ?aS ?aL ?_; (case aP => exact rfl); (case aB => exact (by repeat (first | (with_reducible first | exact HB.out | apply zc | apply zb | apply zd) | exact HB.out))); (case aF => exact (fun _ _ => trivial)); (case aO => exact (by (with_reducible repeat (first | apply Kd.zn | apply Kd.zo | apply Kd.zq)); exact HO_3.out)); (case aS => exact (zp (by repeat (first | (with_reducible first | exact HB.out | apply zc | apply zb | apply zd) | exact HB.out)))); (case aL => have := LMc13.out; omega); intro v365 w17 ho hb hg hat; rw [← Ny364.out] at ho; have n0_ := za.mk (hb); have n1_ := za.mk (ho); clear HB; clear HO_3; have HB := n0_; have HO366 := n1_; clear n0_ n1_; clear ho hb hg hat))
            go_roundg k1
            case measure => have := HK1.out; omega
            case rel => exact ⟨(y364), (wrap64 (x9_1 + 1)), (by first | rfl | (simp; done) | (simp [*]; done)), (by first | exact H' | (simp only [hji8]; exact H') | (simp only [hji8]; exact H')), ⟨by have := HK1.out; omega⟩, ⟨by (with_reducible repeat (first | apply Kd.zn | apply Kd.zo | apply Kd.zq)); exact HO366.out⟩, ⟨by repeat (first | (with_reducible first | exact HB.out | apply zc | apply zb | apply zd) | exact HB.out)⟩⟩
           ·rw [if_neg c13] at H
            exact absurd H (by simp)
          ·replace c12 := Bool.eq_false_iff.mpr c12
           subst c12
           have H1 : (if x3_1.length < 17592186044416 then (impl_countsOf.l0 k1 (x3_1 ++ [rd x3_1 (ji8)]) l0 (l0.length : Int) (wrap64 (x9_1 + 1))) else (none)) = some r := by rw [if_neg (show ¬ (false = true) by decide)] at H; exact H
           clear H
           have H := H1
           clear H1
           by_cases c18 : x3_1.length < 17592186044416
           ·rw [if_pos c18] at H
            have LMc18 := za.mk c18
            clear c18
            obtain ⟨y368, hy368⟩ : ∃ y_ : List Int, y_ = (x3_1 ++ [rd x3_1 (ji8)]) := ⟨_, rfl⟩
            replace H : (impl_countsOf.l0 k1 y368 l0 (l0.length : Int) (wrap64 (x9_1 + 1))) = some r := by first | (rw [hy368]; with_reducible exact H) | (have H2_ := (Option.bind_some _ _).symm.trans H; rw [hy368]; with_reducible exact H2_) | (have H2_ := (Option.bind_some _ _).symm.trans H; with_reducible exact H2_) | with_reducible exact H | (rw [hy368]; exact H) | exact H
            have Ny368 := za.mk hy368
            clear hy368
            have H' := za.mk H
            clear H
            have p360 : 0 ≤ (x9_1 : Int) := of_decide_eq_true (by assumption)
            have q360 : x9_1 < (l0.length : Int) := of_decide_eq_true (by assumption)
            obtain ⟨ad360, e360, hx360_0⟩ := Kd.zfa HR0.out x9_1 p360 q360
            cases e360
            replace hx360_0 := (HB.out.cell (World.block_lt_of_cell? w _ hx360_0)).trans hx360_0
            replace p360 := eq_true p360
            replace q360 := eq_true q360
            go_wp2_with (first | ((with_reducible refine zj (f := 117) rfl ?_); refine zgo (some 15) Try.func117 #[.int .i64 (rd l0 x9_1)] rfl ?_; (with_reducible refine (impl_RuneLine.calls k1 (rd l0 x9_1) t361 _ A5.out).mono ?_); rintro e w19 ⟨rfl, hb⟩; refine ⟨_, rfl, ?_⟩; have n0_ := za.mk (Kd.zba (by (with_reducible repeat (first | apply Kd.zn | apply Kd.zo | apply Kd.zq)); exact HO_3.out) hb); have n1_ := za.mk (zg (by repeat (first | (with_reducible first | exact HB.out | apply zc | apply zb | apply zd) | exact HB.out)) hb); clear HO_3; clear HB; have HO_3 := n0_; have HB := n1_; clear n0_ n1_; (try clear hb); (try clear hb2); (try clear hk); (try clear hi); obtain ⟨Ao20, co20, eo20⟩ := Kd.zia HO_3.out; subst eo20; have p362 : 0 ≤ ((ji8) : Int) := of_decide_eq_true (by assumption); have q362 : (ji8) < (x3_1.length : Int) := of_decide_eq_true (by assumption); obtain ⟨ad362, e362, hx362_0⟩ := Kd.zfa (Kd.zt HO_3.out).2.2 (ji8) p362 q362; cases e362; replace p362 := eq_true p362; replace q362 := eq_true q362) | (go_at_call 118; (with_reducible refine (impl_afterSpace.calls k1 (rd x3_1 (ji8)) false _ A11.out).mono ?_); rintro e w21 ⟨rfl, hb⟩; have n0_ := za.mk (Kd.zba (by (with_reducible repeat (first | apply Kd.zn | apply Kd.zo | apply Kd.zq)); exact HO_3.out) hb); have n1_ := za.mk (zg (by repeat (first | (with_reducible first | exact HB.out | apply zc | apply zb | apply zd) | exact HB.out)) hb); clear HO_3; clear HB; have HO_3 := n0_; have HB := n1_; clear n0_ n1_; (try clear hb); (try clear hb2); (try clear hk); (try clear hi); have p367 : 0 ≤ ((ji8) : Int) := of_decide_eq_true (by assumption); have q367 : (ji8) < (x3_1.length : Int) := of_decide_eq_true (by assumption); obtain ⟨ad367, e367, hx367_0⟩ := Kd.zfa (Kd.zt HO_3.out).2.2 (ji8) p367 q367; obtain rfl : ad362 = ad367 := (by injection e367); replace p367 := eq_true p367; replace q367 := eq_true q367) | ((with_reducible refine zra (b := .append) (xs := #[.tmp 34, .tmp 36]) rfl ?_); at_builtin; refine Kd.zza (Kd.int .i64) (w0 := w) w.heap.size rfl (.tmp 34) (.tmp 36) 22 3 (.int .i64 0) 8 rfl Try.underlying22 info3 rfl (by decide) (by omega) (.slice (some ad362) x3_1.length co20) x3_1 (rd x3_1 (ji8)) [.int .i64 (rd x3_1 (ji8))] (fun _ => True) (fun _ => False) rfl rfl ?aP (fun _ hk => hk.elim) ?aF ?aO ?aB ?aS ?aL ?_; (case aP => exact rfl); (case aB => exact (by repeat (first | (with_reducible first | exact HB.out | apply zc | apply zb | apply zd) | exact HB.out))); (case aF => exact (fun _ _ => trivial)); (case aO => exact (by (with_reducible repeat (first | apply Kd.zn | apply Kd.zo | apply Kd.zq)); exact HO_3.out)); (case aS => exact (zp (by repeat (first | (with_reducible first | exact HB.out | apply zc | apply zb | apply zd) | exact HB.out)))); (case aL => have := LMc18.out; omega); intro v369 w22 ho hb hg hat; rw [← Ny368.out] at ho; have n0_ := za.mk (hb); have n1_ := za.mk (ho); clear HB; clear HO_3; have HB := n0_; have HO370 := n1_; clear n0_ n1_; clear ho hb hg hat))
            go_roundg k1
            case measure => have := HK1.out; omega
            case rel => exact ⟨(y368), (wrap64 (x9_1 + 1)), (by first | rfl | (simp; done) | (simp [*]; done)), (by first | exact H' | (simp only [hji8]; exact H') | (simp only [hji8]; exact H')), ⟨by have := HK1.out; omega⟩, ⟨by (with_reducible repeat (first | apply Kd.zn | apply Kd.zo | apply Kd.zq)); exact HO370.out⟩, ⟨by repeat (first | (with_reducible first | exact HB.out | apply zc | apply zb | apply zd) | exact HB.out)⟩⟩
           ·rw [if_neg c18] at H
            exact absurd H (by simp)
         ·rw [if_neg c10] at H
          exact absurd H (by simp)
        ·rw [if_neg c9] at H
         exact absurd H (by simp)
       ·rw [if_neg c7] at H
        have c7b0 : decide (0 < x9_1) = false := decide_eq_false c7
        clear c7
        by_cases c23 : x3_1.length < 17592186044416
        ·rw [if_pos c23] at H
         have LMc23 := za.mk c23
         clear c23
         obtain ⟨y371, hy371⟩ : ∃ y_ : List Int, y_ = (x3_1 ++ [1]) := ⟨_, rfl⟩
         replace H : (impl_countsOf.l0 k1 y371 l0 (l0.length : Int) (wrap64 (x9_1 + 1))) = some r := by first | (rw [hy371]; with_reducible exact H) | (have H2_ := (Option.bind_some _ _).symm.trans H; rw [hy371]; with_reducible exact H2_) | (have H2_ := (Option.bind_some _ _).symm.trans H; with_reducible exact H2_) | with_reducible exact H | (rw [hy371]; exact H) | exact H
         have Ny371 := za.mk hy371
         clear hy371
         have H' := za.mk H
         clear H
         have p360 : 0 ≤ (x9_1 : Int) := of_decide_eq_true (by assumption)
         have q360 : x9_1 < (l0.length : Int) := of_decide_eq_true (by assumption)
         obtain ⟨ad360, e360, hx360_0⟩ := Kd.zfa HR0.out x9_1 p360 q360
         cases e360
         replace hx360_0 := (HB.out.cell (World.block_lt_of_cell? w _ hx360_0)).trans hx360_0
         replace p360 := eq_true p360
         replace q360 := eq_true q360
         go_wp2_with (first | ((with_reducible refine zj (f := 117) rfl ?_); refine zgo (some 15) Try.func117 #[.int .i64 (rd l0 x9_1)] rfl ?_; (with_reducible refine (impl_RuneLine.calls k1 (rd l0 x9_1) t361 _ A5.out).mono ?_); rintro e w24 ⟨rfl, hb⟩; refine ⟨_, rfl, ?_⟩; have n0_ := za.mk (Kd.zba (by (with_reducible repeat (first | apply Kd.zn | apply Kd.zo | apply Kd.zq)); exact HO_3.out) hb); have n1_ := za.mk (zg (by repeat (first | (with_reducible first | exact HB.out | apply zc | apply zb | apply zd) | exact HB.out)) hb); clear HO_3; clear HB; have HO_3 := n0_; have HB := n1_; clear n0_ n1_; (try clear hb); (try clear hb2); (try clear hk); (try clear hi)) | ((with_reducible refine zra (b := .append) (xs := #[.tmp 34, .tmp 36]) rfl ?_); at_builtin; refine Kd.zza (Kd.int .i64) (w0 := w) w.heap.size rfl (.tmp 34) (.tmp 36) 22 3 (.int .i64 0) 8 rfl Try.underlying22 info3 rfl (by decide) (by omega) u3 x3_1 1 [.int .i64 1] (fun _ => True) (fun _ => False) rfl rfl ?aP (fun _ hk => hk.elim) ?aF ?aO ?aB ?aS ?aL ?_; (case aP => exact rfl); (case aB => exact (by repeat (first | (with_reducible first | exact HB.out | apply zc | apply zb | apply zd) | exact HB.out))); (case aF => exact (fun _ _ => trivial)); (case aO => exact (by (with_reducible repeat (first | apply Kd.zn | apply Kd.zo | apply Kd.zq)); exact HO_3.out)); (case aS => exact (zp (by repeat (first | (with_reducible first | exact HB.out | apply zc | apply zb | apply zd) | exact HB.out)))); (case aL => have := LMc23.out; omega); intro v372 w25 ho hb hg hat; rw [← Ny371.out] at ho; have n0_ := za.mk (hb); have n1_ := za.mk (ho); clear HB; clear HO_3; have HB := n0_; have HO373 := n1_; clear n0_ n1_; clear ho hb hg hat))
         go_roundg k1
         case measure => have := HK1.out; omega
         case rel => exact ⟨(y371), (wrap64 (x9_1 + 1)), (by first | rfl | (simp; done) | (simp [*]; done)), (by first | exact H' | (simp only [hji8]; exact H') | (simp only [hji8]; exact H')), ⟨by have := HK1.out; omega⟩, ⟨by (with_reducible repeat (first | apply Kd.zn | apply Kd.zo | apply Kd.zq)); exact HO373.out⟩, ⟨by repeat (first | (with_reducible first | exact HB.out | apply zc | apply zb | apply zd) | exact HB.out)⟩⟩
        ·rw [if_neg c23] at H
         exact absurd H (by simp)
      ·rw [if_neg c6] at H
       have c6b0 : (t361 == 7) = false := beq_eq_false_iff_ne.mpr c6
       have c6b1 : (t361 != 7) = true := bne_iff_ne.mpr c6
       by_cases c26 : x3_1.length < 17592186044416
       ·rw [if_pos c26] at H
        have LMc26 := za.mk c26
        clear c26
        obtain ⟨y374, hy374⟩ : ∃ y_ : List Int, y_ = (x3_1 ++ [t361]) := ⟨_, rfl⟩
        replace H : (impl_countsOf.l0 k1 y374 l0 (l0.length : Int) (wrap64 (x9_1 + 1))) = some r := by first | (rw [hy374]; with_reducible exact H) | (have H2_ := (Option.bind_some _ _).symm.trans H; rw [hy374]; with_reducible exact H2_) | (have H2_ := (Option.bind_some _ _).symm.trans H; with_reducible exact H2_) | with_reducible exact H | (rw [hy374]; exact H) | exact H
        have Ny374 := za.mk hy374
        clear hy374
        have H' := za.mk H
        clear H
        have p360 : 0 ≤ (x9_1 : Int) := of_decide_eq_true (by assumption)
        have q360 : x9_1 < (l0.length : Int) := of_decide_eq_true (by assumption)
        obtain ⟨ad360, e360, hx360_0⟩ := Kd.zfa HR0.out x9_1 p360 q360
        cases e360
        replace hx360_0 := (HB.out.cell (World.block_lt_of_cell? w _ hx360_0)).trans hx360_0
        replace p360 := eq_true p360
        replace q360 := eq_true q360
        go_wp2_with (first | ((with_reducible refine zj (f := 117) rfl ?_); refine zgo (some 15) Try.func117 #[.int .i64 (rd l0 x9_1)] rfl ?_; (with_reducible refine (impl_RuneLine.calls k1 (rd l0 x9_1) t361 _ A5.out).mono ?_); rintro e w27 ⟨rfl, hb⟩; refine ⟨_, rfl, ?_⟩; have n0_ := za.mk (Kd.zba (by (with_reducible repeat (first | apply Kd.zn | apply Kd.zo | apply Kd.zq)); exact HO_3.out) hb); have n1_ := za.mk (zg (by repeat (first | (with_reducible first | exact HB.out | apply zc | apply zb | apply zd) | exact HB.out)) hb); clear HO_3; clear HB; have HO_3 := n0_; have HB := n1_; clear n0_ n1_; (try clear hb); (try clear hb2); (try clear hk); (try clear hi)) | ((with_reducible refine zra (b := .append) (xs := #[.tmp 34, .tmp 36]) rfl ?_); at_builtin; refine Kd.zza (Kd.int .i64) (w0 := w) w.heap.size rfl (.tmp 34) (.tmp 36) 22 3 (.int .i64 0) 8 rfl Try.underlying22 info3 rfl (by decide) (by omega) u3 x3_1 t361 [.int .i64 t361] (fun _ => True) (fun _ => False) rfl rfl ?aP (fun _ hk => hk.elim) ?aF ?aO ?aB ?aS ?aL ?_; (case aP => exact rfl); (case aB => exact (by repeat (first | (with_reducible first | exact HB.out | apply zc | apply zb | apply zd) | exact HB.out))); (case aF => exact (fun _ _ => trivial)); (case aO => exact (by (with_reducible repeat (first | apply Kd.zn | apply Kd.zo | apply Kd.zq)); exact HO_3.out)); (case aS => exact (zp (by repeat (first | (with_reducible first | exact HB.out | apply zc | apply zb | apply zd) | exact HB.out)))); (case aL => have := LMc26.out; omega); intro v375 w28 ho hb hg hat; rw [← Ny374.out] at ho; have n0_ := za.mk (hb); have n1_ := za.mk (ho); clear HB; clear HO_3; have HB := n0_; have HO376 := n1_; clear n0_ n1_; clear ho hb hg hat))
        go_roundg k1
        case measure => have := HK1.out; omega
        case rel => exact ⟨(y374), (wrap64 (x9_1 + 1)), (by first | rfl | (simp; done) | (simp [*]; done)), (by first | exact H' | (simp only [hji8]; exact H') | (simp only [hji8]; exact H')), ⟨by have := HK1.out; omega⟩, ⟨by (with_reducible repeat (first | apply Kd.zn | apply Kd.zo | apply Kd.zq)); exact HO376.out⟩, ⟨by repeat (first | (with_reducible first | exact HB.out | apply zc | apply zb | apply zd) | exact HB.out)⟩⟩
       ·rw [if_neg c26] at H
        exact absurd H (by simp)
     ·rw [if_neg c4] at H
      exact absurd H (by simp)
    ·rw [if_neg c3] at H
     exact absurd H (by simp)
   ·rw [if_neg c2] at H
    have c2b0 : decide (x9_1 < (l0.length : Int)) = false := decide_eq_false c2
    clear c2
    obtain rfl := Option.some.inj H
    go_wp2
    go_ret
    exact ⟨_, by first | rfl | (simp [zh, zi] <;> rfl) | (simp [*, zh, zi] <;> rfl), by (with_reducible repeat (first | apply Kd.zn | apply Kd.zo | apply Kd.zq)); exact HO_3.out, by repeat (first | (with_reducible first | exact HB.out | apply zc | apply zb | apply zd) | exact HB.out)⟩
def impl_rules_2.f (k : Nat) (a0 : Int) : Option (Bool) := (impl_oneOf.f k a0 (([1, 2] : List Int))).bind fun t380 => (some t380)
theorem impl_rules_2.calls (k : Nat) (a0 : Int) (r : Bool) (w : World) (h : impl_rules_2.f k a0 = some r) :
  Calls Try.prog 134 #[.int .i64 a0] w fun e w' => e = .returned (.bool r) ∧ Below w.heap.size w w' := by
 have HB := za.mk (Below.refl w.heap.size w)
 have H : ((impl_oneOf.f k a0 (([1, 2] : List Int))).bind fun t380 => (some t380)) = some r := h
 clear h
 obtain ⟨y377, hy377⟩ : ∃ y_ : List Int, y_ = (([1, 2] : List Int)) := ⟨_, rfl⟩
 replace H : ((impl_oneOf.f k a0 y377).bind fun t380 => (some t380)) = some r := by first | (rw [hy377]; with_reducible exact H) | (have H2_ := (Option.bind_some _ _).symm.trans H; rw [hy377]; with_reducible exact H2_) | (have H2_ := (Option.bind_some _ _).symm.trans H; with_reducible exact H2_) | with_reducible exact H | (rw [hy377]; exact H) | exact H
 have Ny377 := za.mk hy377
 clear hy377
 replace H := Option.bind_eq_some_iff.mp H
 obtain ⟨t380, A20, H⟩ := H
 replace H : (some t380) = some r := H
 have A2 := za.mk A20
 clear A20
 obtain rfl := Option.some.inj H
 go_enter Try.func134, Try.ntmps134
 go_wp2_with (first | ((with_reducible refine zw (N := 4) rfl ?_); refine Kd.zwa (Kd.int .i64) _ 3 ?hg (N := 4) ?hd (xs := ([1, 2] : List Int)) (inner := [.int .i64 1, .int .i64 2]) (ok := fun _ => True) (okp := fun _ => True) ?hr ?hp (fun _ hk => hk) trivial (Below.refl _ _) (Nat.le_refl _) (by simp) ?_; (case hd => rfl); (case hg => rfl); (case hr => first | (go_simp; done) | (go_simp; rfl)); (case hp => exact (Reps.one (show Kd.M (Kd.int .i64) _ _ _ 1 [.int .i64 1] from rfl) (Reps.one (show Kd.M (Kd.int .i64) _ _ _ 2 [.int .i64 2] from rfl) (Reps.none _ _)))); intro v378 w3 ho4 hb hg_ hnew_; clear hg_ hnew_; (first | rw [← Ny377.out] at ho4 | (simp only [Int.reduceToNat] at ho4; rw [← Ny377.out] at ho4)); have n0_ := za.mk (Kd.zqa ho4 (zp (by repeat (first | (with_reducible first | exact HB.out | apply zc | apply zb | apply zd) | exact HB.out)))); have n1_ := za.mk (zg (by repeat (first | (with_reducible first | exact HB.out | apply zc | apply zb | apply zd) | exact HB.out)) hb); clear HB; have HO379 := n0_; have HB := n1_; clear n0_ n1_; clear hb ho4; obtain ⟨Ao5, co5, eo5⟩ := Kd.zia HO379.out; subst eo5) | ((with_reducible refine zj (f := 135) rfl ?_); refine zgo (some 5) Try.func135 #[.int .i64 a0, .slice Ao5 y377.length co5] rfl ?_; (with_reducible refine (impl_oneOf.calls k a0 _ _ y377 t380 _ ?side1 ?side2 A2.out).mono ?_); (case side1 => repeat (first | exact (Kd.zt HO379.out).2.2 | (with_reducible refine Kd.zea ?_ _) | (with_reducible refine Kd.zga ?_ _) | (with_reducible refine Kd.zha ?_))); (case side2 => exact (Kd.zt HO379.out).2.1); rintro e w' ⟨rfl, ⟨nd, rfl⟩⟩; refine ⟨_, rfl, ?_⟩))
 go_ret
 exact ⟨by first | rfl | (simp [zh, zi] <;> rfl) | (simp [*, zh, zi] <;> rfl), by repeat (first | (with_reducible first | exact HB.out | apply zc | apply zb | apply zd) | exact HB.out)⟩
def impl_rules_3.f (a0_0 : Int) (a0_1 : Int) (a0_2 : Int) : Option (Bool) := some (a0_0 == 4)
theorem impl_rules_3.calls (a0_0 : Int) (a0_1 : Int) (a0_2 : Int) (r : Bool) (w : World) (h : impl_rules_3.f a0_0 a0_1 a0_2 = some r) :
  Calls Try.prog 136 #[.agg #[.int .i64 a0_0, .int .i64 a0_1, .int .i64 a0_2]] w fun e w' => e = .returned (.bool r) ∧ Below w.heap.size w w' := by
 have hu99 := Try.underlying99
 have HB := za.mk (Below.refl w.heap.size w)
 have H : (some (a0_0 == 4)) = some r := h
 clear h
 obtain rfl := Option.some.inj H
 go_enter Try.func136, Try.ntmps136
 go_wp2_with (first | ((with_reducible refine zw (N := 1) rfl ?_); refine zca ?hg (N := 1) ?hd (cs := #[.int .i64 a0_0, .int .i64 a0_1, .int .i64 a0_2]) (t := 99) ?hr ?_; (case hd => rfl); (case hg => rfl); (case hr => first | (go_simp; done) | (go_simp; rfl)); intro gb381 hg w2 hbox hb; have n0_ := za.mk (zg (by repeat (first | (with_reducible first | exact HB.out | apply zc | apply zb | apply zd) | exact HB.out)) hb); have n1_ := za.mk (hbox); have n2_ := za.mk ((by rw [hg]; exact (zp (by repeat (first | (with_reducible first | exact HB.out | apply zc | apply zb | apply zd) | exact HB.out))) : w.heap.size ≤ gb381)); have n3_ := za.mk ((by rw [hg]; exact (zp (by repeat (first | (with_reducible first | exact HB.out | apply zc | apply zb | apply zd) | exact HB.out))) : w.heap.size ≤ gb381)); clear HB; have HB := n0_; have BK381 := n1_; have GW381 := n2_; have GE381 := n3_; clear n0_ n1_ n2_ n3_; clear hb hbox hg; have hcz3_0 : w2.cell? ⟨gb381, 0, none⟩ = some (.int .i64 a0_0) := (zf BK381.out 0).trans rfl; have hcz3_1 : w2.cell? ⟨gb381, 1, none⟩ = some (.int .i64 a0_1) := (zf BK381.out 1).trans rfl; have hcz3_2 : w2.cell? ⟨gb381, 2, none⟩ = some (.int .i64 a0_2) := (zf BK381.out 2).trans rfl; have hfz3_0 := zl BK381.out 0; have hfz3_1 := zl BK381.out 1; have hfz3_2 := zl BK381.out 2))
 go_ret
 exact ⟨by first | rfl | (simp [zh, zi] <;> rfl) | (simp [*, zh, zi] <;> rfl), by repeat (first | (with_reducible first | exact HB.out | apply zc | apply zb | apply zd | refine zu ?_ GE381.out) | exact HB.out)⟩
def impl_rules_4.f (k : Nat) (a0_0 : Int) (a0_1 : Int) (a0_2 : Int) : Option (Bool) := (impl_oneOf.f k a0_1 (([4, 3, 6] : List Int))).bind fun t386 => (some t386)
theorem impl_rules_4.calls (k : Nat) (a0_0 : Int) (a0_1 : Int) (a0_2 : Int) (r : Bool) (w : World) (h : impl_rules_4.f k a0_0 a0_1 a0_2 = some r) :
  Calls Try.prog 137 #[.agg #[.int .i64 a0_0, .int .i64 a0_1, .int .i64 a0_2]] w fun e w' => e = .returned (.bool r) ∧ Below w.heap.size w w' := by
 have hu99 := Try.underlying99
 have HB := za.mk (Below.refl w.heap.size w)
 have H : ((impl_oneOf.f k a0_1 (([4, 3, 6] : List Int))).bind fun t386 => (some t386)) = some r := h
 clear h
 obtain ⟨y383, hy383⟩ : ∃ y_ : List Int, y_ = (([4, 3, 6] : List Int)) := ⟨_, rfl⟩
 replace H : ((impl_oneOf.f k a0_1 y383).bind fun t386 => (some t386)) = some r := by first | (rw [hy383]; with_reducible exact H) | (have H2_ := (Option.bind_some _ _).symm.trans H; rw [hy383]; with_reducible exact H2_) | (have H2_ := (Option.bind_some _ _).symm.trans H; with_reducible exact H2_) | with_reducible exact H | (rw [hy383]; exact H) | exact H
 have Ny383 := za.mk hy383
 clear hy383
 replace H := Option.bind_eq_some_iff.mp H
 obtain ⟨t386, A20, H⟩ := H
 replace H : (some t386) = some r := H
 have A2 := za.mk A20
 clear A20
 obtain rfl := Option.some.inj H
 go_enter Try.func137, Try.ntmps137
 go_wp2_with (first | ((with_reducible refine zw (N := 1) rfl ?_); refine zca ?hg (N := 1) ?hd (cs := #[.int .i64 a0_0, .int .i64 a0_1, .int .i64 a0_2]) (t := 99) ?hr ?_; (case hd => rfl); (case hg => rfl); (case hr => first | (go_simp; done) | (go_simp; rfl)); intro gb382 hg w3 hbox hb; have n0_ := za.mk (zg (by repeat (first | (with_reducible first | exact HB.out | apply zc | apply zb | apply zd) | exact HB.out)) hb); have n1_ := za.mk (hbox); have n2_ := za.mk ((by rw [hg]; exact (zp (by repeat (first | (with_reducible first | exact HB.out | apply zc | apply zb | apply zd) | exact HB.out))) : w.heap.size ≤ gb382)); have n3_ := za.mk ((by rw [hg]; exact (zp (by repeat (first | (with_reducible first | exact HB.out | apply zc | apply zb | apply zd) | exact HB.out))) : w.heap.size ≤ gb382)); clear HB; have HB := n0_; have BK382 := n1_; have GW382 := n2_; have GE382 := n3_; clear n0_ n1_ n2_ n3_; clear hb hbox hg; have hcz4_0 : w3.cell? ⟨gb382, 0, none⟩ = some (.int .i64 a0_0) := (zf BK382.out 0).trans rfl; have hcz4_1 : w3.cell? ⟨gb382, 1, none⟩ = some (.int .i64 a0_1) := (zf BK382.out 1).trans rfl; have hcz4_2 : w3.cell? ⟨gb382, 2, none⟩ = some (.int .i64 a0_2) := (zf BK382.out 2).trans rfl; have hfz4_0 := zl BK382.out 0; have hfz4_1 := zl BK382.out 1; have hfz4_2 := zl BK382.out 2) | ((with_reducible refine zw (N := 5) rfl ?_); refine Kd.zwa (Kd.int .i64) _ 3 ?hg (N := 5) ?hd (xs := ([4, 3, 6] : List Int)) (inner := [.int .i64 4, .int .i64 3, .int .i64 6]) (ok := fun _ => True) (okp := fun _ => True) ?hr ?hp (fun _ hk => hk) trivial (Below.refl _ _) (Nat.le_refl _) (by simp) ?_; (case hd => rfl); (case hg => rfl); (case hr => first | (go_simp; done) | (go_simp; rfl)); (case hp => exact (Reps.one (show Kd.M (Kd.int .i64) _ _ _ 4 [.int .i64 4] from rfl) (Reps.one (show Kd.M (Kd.int .i64) _ _ _ 3 [.int .i64 3] from rfl) (Reps.one (show Kd.M (Kd.int .i64) _ _ _ 6 [.int .i64 6] from rfl) (Reps.none _ _))))); intro v384 w5 ho6 hb hg_ hnew_; clear hg_ hnew_; (first | rw [← Ny383.out] at ho6 | (simp only [Int.reduceToNat] at ho6; rw [← Ny383.out] at ho6)); have n0_ := za.mk (Kd.zqa ho6 (zp (by repeat (first | (with_reducible first | exact HB.out | apply zc | apply zb | apply zd | refine zu ?_ GE382.out) | exact HB.out)))); have n1_ := za.mk (zsa (g := gb382) (o := .cells #[.int .i64 a0_0, .int .i64 a0_1, .int .i64 a0_2] 99 (0, 0)) (by (with_reducible repeat (first | refine zy ?_ _ | refine zaa ?_ | refine zx ?_ _)); exact BK382.out) hb); have n2_ := za.mk (zg (by repeat (first | (with_reducible first | exact HB.out | apply zc | apply zb | apply zd | refine zu ?_ GE382.out) | exact HB.out)) hb); clear BK382; clear HB; have HO385 := n0_; have BK382 := n1_; have HB := n2_; clear n0_ n1_ n2_; clear hb ho6; obtain ⟨Ao7, co7, eo7⟩ := Kd.zia HO385.out; subst eo7) | ((with_reducible refine zj (f := 135) rfl ?_); refine zgo (some 6) Try.func135 #[.int .i64 a0_1, .slice Ao7 y383.length co7] rfl ?_; (with_reducible refine (impl_oneOf.calls k a0_1 _ _ y383 t386 _ ?side1 ?side2 A2.out).mono ?_); (case side1 => repeat (first | exact (Kd.zt HO385.out).2.2 | (with_reducible refine Kd.zea ?_ _) | (with_reducible refine Kd.zga ?_ _) | (with_reducible refine Kd.zha ?_))); (case side2 => exact (Kd.zt HO385.out).2.1); rintro e w' ⟨rfl, ⟨nd, rfl⟩⟩; refine ⟨_, rfl, ?_⟩))
 go_ret
 exact ⟨by first | rfl | (simp [zh, zi] <;> rfl) | (simp [*, zh, zi] <;> rfl), by repeat (first | (with_reducible first | exact HB.out | apply zc | apply zb | apply zd | refine zu ?_ GE382.out) | exact HB.out)⟩
def impl_rules_5.f (a0_0 : Int) (a0_1 : Int) (a0_2 : Int) : Option (Bool) := some (a0_2 == 6)
theorem impl_rules_5.calls (a0_0 : Int) (a0_1 : Int) (a0_2 : Int) (r : Bool) (w : World) (h : impl_rules_5.f a0_0 a0_1 a0_2 = some r) :
  Calls Try.prog 138 #[.agg #[.int .i64 a0_0, .int .i64 a0_1, .int .i64 a0_2]] w fun e w' => e = .returned (.bool r) ∧ Below w.heap.size w w' := by
 have hu99 := Try.underlying99
 have HB := za.mk (Below.refl w.heap.size w)
 have H : (some (a0_2 == 6)) = some r := h
 clear h
 obtain rfl := Option.some.inj H
 go_enter Try.func138, Try.ntmps138
 go_wp2_with (first | ((with_reducible refine zw (N := 1) rfl ?_); refine zca ?hg (N := 1) ?hd (cs := #[.int .i64 a0_0, .int .i64 a0_1, .int .i64 a0_2]) (t := 99) ?hr ?_; (case hd => rfl); (case hg => rfl); (case hr => first | (go_simp; done) | (go_simp; rfl)); intro gb387 hg w2 hbox hb; have n0_ := za.mk (zg (by repeat (first | (with_reducible first | exact HB.out | apply zc | apply zb | apply zd) | exact HB.out)) hb); have n1_ := za.mk (hbox); have n2_ := za.mk ((by rw [hg]; exact (zp (by repeat (first | (with_reducible first | exact HB.out | apply zc | apply zb | apply zd) | exact HB.out))) : w.heap.size ≤ gb387)); have n3_ := za.mk ((by rw [hg]; exact (zp (by repeat (first | (with_reducible first | exact HB.out | apply zc | apply zb | apply zd) | exact HB.out))) : w.heap.size ≤ gb387)); clear HB; have HB := n0_; have BK387 := n1_; have GW387 := n2_; have GE387 := n3_; clear n0_ n1_ n2_ n3_; clear hb hbox hg; have hcz3_0 : w2.cell? ⟨gb387, 0, none⟩ = some (.int .i64 a0_0) := (zf BK387.out 0).trans rfl; have hcz3_1 : w2.cell? ⟨gb387, 1, none⟩ = some (.int .i64 a0_1) := (zf BK387.out 1).trans rfl; have hcz3_2 : w2.cell? ⟨gb387, 2, none⟩ = some (.int .i64 a0_2) := (zf BK387.out 2).trans rfl; have hfz3_0 := zl BK387.out 0; have hfz3_1 := zl BK387.out 1; have hfz3_2 := zl BK387.out 2))
 go_ret
 exact ⟨by first | rfl | (simp [zh, zi] <;> rfl) | (simp [*, zh, zi] <;> rfl), by repeat (first | (with_reducible first | exact HB.out | apply zc | apply zb | apply zd | refine zu ?_ GE387.out) | exact HB.out)⟩
def impl_rules_6.f (k : Nat) (a0_0 : Int) (a0_1 : Int) (a0_2 : Int) : Option (Bool) := if a0_0 = 5 then (some true) else (if a0_1 = 5 then ((impl_oneOf.f k a0_0 (([3, 14, 12] : List Int))).bind fun t392 => (some (!t392))) else (some false))
theorem impl_rules_6.calls (k : Nat) (a0_0 : Int) (a0_1 : Int) (a0_2 : Int) (r : Bool) (w : World) (h : impl_rules_6.f k a0_0 a0_1 a0_2 = some r) :
  Calls Try.prog 139 #[.agg #[.int .i64 a0_0, .int .i64 a0_1, .int .i64 a0_2]] w fun e w' => e = .returned (.bool r) ∧ Below w.heap.size w w' := by
 have hu99 := Try.underlying99
 have HB := za.mk (Below.refl w.heap.size w)
 have H : (if a0_0 = 5 then (some true) else (if a0_1 = 5 then ((impl_oneOf.f k a0_0 (([3, 14, 12] : List Int))).bind fun t392 => (some (!t392))) else (some false))) = some r := h
 clear h
 by_cases c2 : a0_0 = 5
 ·rw [if_pos c2] at H
  have c2b0 : (a0_0 == 5) = true := beq_iff_eq.mpr c2
  have c2b1 : (a0_0 != 5) = false := bne_eq_false_iff_eq.mpr c2
  clear c2
  obtain rfl := Option.some.inj H
  go_enter Try.func139, Try.ntmps139
  go_wp2_with (first | ((with_reducible refine zw (N := 1) rfl ?_); (try (refine zla (by rfl) ?_; dsimp only)); refine zca ?hg (N := 1) ?hd (cs := #[.int .i64 a0_0, .int .i64 a0_1, .int .i64 a0_2]) (t := 99) ?hr ?_; (case hd => rfl); (case hg => rfl); (case hr => first | (go_simp; done) | (go_simp; rfl)); intro gb388 hg w3 hbox hb; have n0_ := za.mk (zg (by repeat (first | (with_reducible first | exact HB.out | apply zc | apply zb | apply zd) | exact HB.out)) hb); have n1_ := za.mk (hbox); have n2_ := za.mk ((by rw [hg]; exact (zp (by repeat (first | (with_reducible first | exact HB.out | apply zc | apply zb | apply zd) | exact HB.out))) : w.heap.size ≤ gb388)); have n3_ := za.mk ((by rw [hg]; exact (zp (by repeat (first | (with_reducible first | exact HB.out | apply zc | apply zb | apply zd) | exact HB.out))) : w.heap.size ≤ gb388)); clear HB; have HB := n0_; have BK388 := n1_; have GW388 := n2_; have GE388 := n3_; clear n0_ n1_ n2_ n3_; clear hb hbox hg; have hcz4_0 : w3.cell? ⟨gb388, 0, none⟩ = some (.int .i64 a0_0) := (zf BK388.out 0).trans rfl; have hcz4_1 : w3.cell? ⟨gb388, 1, none⟩ = some (.int .i64 a0_1) := (zf BK388.out 1).trans rfl; have hcz4_2 : w3.cell? ⟨gb388, 2, none⟩ = some (.int .i64 a0_2) := (zf BK388.out 2).trans rfl; have hfz4_0 := zl BK388.out 0; have hfz4_1 := zl BK388.out 1; have hfz4_2 := zl BK388.out 2))
  go_ret
  exact ⟨by first | rfl | (simp [zh, zi] <;> rfl) | (simp [*, zh, zi] <;> rfl), by repeat (first | (with_reducible first | exact HB.out | apply zc | apply zb | apply zd | refine zu ?_ GE388.out) | exact HB.out)⟩
 ·rw [if_neg c2] at H
  have c2b0 : (a0_0 == 5) = false := beq_eq_false_iff_ne.mpr c2
  have c2b1 : (a0_0 != 5) = true := bne_iff_ne.mpr c2
  by_cases c5 : a0_1 = 5
  ·rw [if_pos c5] at H
   have c5b0 : (a0_1 == 5) = true := beq_iff_eq.mpr c5
   have c5b1 : (a0_1 != 5) = false := bne_eq_false_iff_eq.mpr c5
   clear c5
   obtain ⟨y389, hy389⟩ : ∃ y_ : List Int, y_ = (([3, 14, 12] : List Int)) := ⟨_, rfl⟩
   replace H : ((impl_oneOf.f k a0_0 y389).bind fun t392 => (some (!t392))) = some r := by first | (rw [hy389]; with_reducible exact H) | (have H2_ := (Option.bind_some _ _).symm.trans H; rw [hy389]; with_reducible exact H2_) | (have H2_ := (Option.bind_some _ _).symm.trans H; with_reducible exact H2_) | with_reducible exact H | (rw [hy389]; exact H) | exact H
   have Ny389 := za.mk hy389
   clear hy389
   replace H := Option.bind_eq_some_iff.mp H
   obtain ⟨t392, A60, H⟩ := H
   replace H : (some (!t392)) = some r := H
   have A6 := za.mk A60
   clear A60
   obtain rfl := Option.some.inj H
   go_enter Try.func139, Try.ntmps139
   go_wp2_with (first | ((with_reducible refine zw (N := 1) rfl ?_); (try (refine zla (by rfl) ?_; dsimp only)); refine zca ?hg (N := 1) ?hd (cs := #[.int .i64 a0_0, .int .i64 a0_1, .int .i64 a0_2]) (t := 99) ?hr ?_; (case hd => rfl); (case hg => rfl); (case hr => first | (go_simp; done) | (go_simp; rfl)); intro gb388 hg w7 hbox hb; have n0_ := za.mk (zg (by repeat (first | (with_reducible first | exact HB.out | apply zc | apply zb | apply zd) | exact HB.out)) hb); have n1_ := za.mk (hbox); have n2_ := za.mk ((by rw [hg]; exact (zp (by repeat (first | (with_reducible first | exact HB.out | apply zc | apply zb | apply zd) | exact HB.out))) : w.heap.size ≤ gb388)); have n3_ := za.mk ((by rw [hg]; exact (zp (by repeat (first | (with_reducible first | exact HB.out | apply zc | apply zb | apply zd) | exact HB.out))) : w.heap.size ≤ gb388)); clear HB; have HB := n0_; have BK388 := n1_; have GW388 := n2_; have GE388 := n3_; clear n0_ n1_ n2_ n3_; clear hb hbox hg; have hcz8_0 : w7.cell? ⟨gb388, 0, none⟩ = some (.int .i64 a0_0) := (zf BK388.out 0).trans rfl; have hcz8_1 : w7.cell? ⟨gb388, 1, none⟩ = some (.int .i64 a0_1) := (zf BK388.out 1).trans rfl; have hcz8_2 : w7.cell? ⟨gb388, 2, none⟩ = some (.int .i64 a0_2) := (zf BK388.out 2).trans rfl; have hfz8_0 := zl BK388.out 0; have hfz8_1 := zl BK388.out 1; have hfz8_2 := zl BK388.out 2) | ((with_reducible refine zw (N := 13) rfl ?_); (try (refine zla (by rfl) ?_; dsimp only)); refine Kd.zwa (Kd.int .i64) _ 3 ?hg (N := 13) ?hd (xs := ([3, 14, 12] : List Int)) (inner := [.int .i64 3, .int .i64 14, .int .i64 12]) (ok := fun _ => True) (okp := fun _ => True) ?hr ?hp (fun _ hk => hk) trivial (Below.refl _ _) (Nat.le_refl _) (by simp) ?_; (case hd => rfl); (case hg => rfl); (case hr => first | (go_simp; done) | (go_simp; rfl)); (case hp => exact (Reps.one (show Kd.M (Kd.int .i64) _ _ _ 3 [.int .i64 3] from rfl) (Reps.one (show Kd.M (Kd.int .i64) _ _ _ 14 [.int .i64 14] from rfl) (Reps.one (show Kd.M (Kd.int .i64) _ _ _ 12 [.int .i64 12] from rfl) (Reps.none _ _))))); intro v390 w9 ho10 hb hg_ hnew_; clear hg_ hnew_; (first | rw [← Ny389.out] at ho10 | (simp only [Int.reduceToNat] at ho10; rw [← Ny389.out] at ho10)); have n0_ := za.mk (Kd.zqa ho10 (zp (by repeat (first | (with_reducible first | exact HB.out | apply zc | apply zb | apply zd | refine zu ?_ GE388.out) | exact HB.out)))); have n1_ := za.mk (zsa (g := gb388) (o := .cells #[.int .i64 a0_0, .int .i64 a0_1, .int .i64 a0_2] 99 (0, 0)) (by (with_reducible repeat (first | refine zy ?_ _ | refine zaa ?_ | refine zx ?_ _)); exact BK388.out) hb); have n2_ := za.mk (zg (by repeat (first | (with_reducible first | exact HB.out | apply zc | apply zb | apply zd | refine zu ?_ GE388.out) | exact HB.out)) hb); clear BK388; clear HB; have HO391 := n0_; have BK388 := n1_; have HB := n2_; clear n0_ n1_ n2_; clear hb ho10; obtain ⟨Ao11, co11, eo11⟩ := Kd.zia HO391.out; subst eo11) | (go_at_call 135; (with_reducible refine (impl_oneOf.calls k a0_0 _ _ y389 t392 _ ?side1 ?side2 A6.out).mono ?_); (case side1 => repeat (first | exact (Kd.zt HO391.out).2.2 | (with_reducible refine Kd.zea ?_ _) | (with_reducible refine Kd.zga ?_ _) | (with_reducible refine Kd.zha ?_))); (case side2 => exact (Kd.zt HO391.out).2.1); rintro e w' ⟨rfl, ⟨nd, rfl⟩⟩))
   go_ret
   exact ⟨by first | rfl | (simp [zh, zi] <;> rfl) | (simp [*, zh, zi] <;> rfl), by repeat (first | (with_reducible first | exact HB.out | apply zc | apply zb | apply zd | refine zu ?_ GE388.out) | exact HB.out)⟩
  ·rw [if_neg c5] at H
   have c5b0 : (a0_1 == 5) = false := beq_eq_false_iff_ne.mpr c5
   have c5b1 : (a0_1 != 5) = true := bne_iff_ne.mpr c5
   obtain rfl := Option.some.inj H
   go_enter Try.func139, Try.ntmps139
   go_wp2_with (first | ((with_reducible refine zw (N := 1) rfl ?_); (try (refine zla (by rfl) ?_; dsimp only)); refine zca ?hg (N := 1) ?hd (cs := #[.int .i64 a0_0, .int .i64 a0_1, .int .i64 a0_2]) (t := 99) ?hr ?_; (case hd => rfl); (case hg => rfl); (case hr => first | (go_simp; done) | (go_simp; rfl)); intro gb388 hg w12 hbox hb; have n0_ := za.mk (zg (by repeat (first | (with_reducible first | exact HB.out | apply zc | apply zb | apply zd) | exact HB.out)) hb); have n1_ := za.mk (hbox); have n2_ := za.mk ((by rw [hg]; exact (zp (by repeat (first | (with_reducible first | exact HB.out | apply zc | apply zb | apply zd) | exact HB.out))) : w.heap.size ≤ gb388)); have n3_ := za.mk ((by rw [hg]; exact (zp (by repeat (first | (with_reducible first | exact HB.out | apply zc | apply zb | apply zd) | exact HB.out))) : w.heap.size ≤ gb388)); clear HB; have HB := n0_; have BK388 := n1_; have GW388 := n2_; have GE388 := n3_; clear n0_ n1_ n2_ n3_; clear hb hbox hg; have hcz13_0 : w12.cell? ⟨gb388, 0, none⟩ = some (.int .i64 a0_0) := (zf BK388.out 0).trans rfl; have hcz13_1 : w12.cell? ⟨gb388, 1, none⟩ = some (.int .i64 a0_1) := (zf BK388.out 1).trans rfl; have hcz13_2 : w12.cell? ⟨gb388, 2, none⟩ = some (.int .i64 a0_2) := (zf BK388.out 2).trans rfl; have hfz13_0 := zl BK388.out 0; have hfz13_1 := zl BK388.out 1; have hfz13_2 := zl BK388.out 2))
   go_ret
   exact ⟨by first | rfl | (simp [zh, zi] <;> rfl) | (simp [*, zh, zi] <;> rfl), by repeat (first | (with_reducible first | exact HB.out | apply zc | apply zb | apply zd | refine zu ?_ GE388.out) | exact HB.out)⟩
def impl_rules_7.f (k : Nat) (a0_0 : Int) (a0_1 : Int) (a0_2 : Int) : Option (Bool) := (impl_oneOf.f k a0_1 (([9, 10, 13] : List Int))).bind fun t397 => (if t397 = true then (if a0_0 = 3 then ((impl_oneOf.f k a0_1 (([9, 10] : List Int))).bind fun t401 => (if t401 = true then (some (a0_2 != 0)) else (some false))) else (some true)) else ((impl_oneOf.f k a0_1 (([9, 10] : List Int))).bind fun t405 => (if t405 = true then (some (a0_2 != 0)) else (some false))))
theorem impl_rules_7.calls (k : Nat) (a0_0 : Int) (a0_1 : Int) (a0_2 : Int) (r : Bool) (w : World) (h : impl_rules_7.f k a0_0 a0_1 a0_2 = some r) :
  Calls Try.prog 140 #[.agg #[.int .i64 a0_0, .int .i64 a0_1, .int .i64 a0_2]] w fun e w' => e = .returned (.bool r) ∧ Below w.heap.size w w' := by
 have hu99 := Try.underlying99
 have HB := za.mk (Below.refl w.heap.size w)
 have H : ((impl_oneOf.f k a0_1 (([9, 10, 13] : List Int))).bind fun t397 => (if t397 = true then (if a0_0 = 3 then ((impl_oneOf.f k a0_1 (([9, 10] : List Int))).bind fun t401 => (if t401 = true then (some (a0_2 != 0)) else (some false))) else (some true)) else ((impl_oneOf.f k a0_1 (([9, 10] : List Int))).bind fun t405 => (if t405 = true then (some (a0_2 != 0)) else (some false))))) = some r := h
 clear h
 obtain ⟨y394, hy394⟩ : ∃ y_ : List Int, y_ = (([9, 10, 13] : List Int)) := ⟨_, rfl⟩
 replace H : ((impl_oneOf.f k a0_1 y394).bind fun t397 => (if t397 = true then (if a0_0 = 3 then ((impl_oneOf.f k a0_1 (([9, 10] : List Int))).bind fun t401 => (if t401 = true then (some (a0_2 != 0)) else (some false))) else (some true)) else ((impl_oneOf.f k a0_1 (([9, 10] : List Int))).bind fun t405 => (if t405 = true then (some (a0_2 != 0)) else (some false))))) = some r := by first | (rw [hy394]; with_reducible exact H) | (have H2_ := (Option.bind_some _ _).symm.trans H; rw [hy394]; with_reducible exact H2_) | (have H2_ := (Option.bind_some _ _).symm.trans H; with_reducible exact H2_) | with_reducible exact H | (rw [hy394]; exact H) | exact H
 have Ny394 := za.mk hy394
 clear hy394
 replace H := Option.bind_eq_some_iff.mp H
 obtain ⟨t397, A20, H⟩ := H
 replace H : (if t397 = true then (if a0_0 = 3 then ((impl_oneOf.f k a0_1 (([9, 10] : List Int))).bind fun t401 => (if t401 = true then (some (a0_2 != 0)) else (some false))) else (some true)) else ((impl_oneOf.f k a0_1 (([9, 10] : List Int))).bind fun t405 => (if t405 = true then (some (a0_2 != 0)) else (some false)))) = some r := H
 have A2 := za.mk A20
 clear A20
 by_cases c3 : t397 = true
 ·subst c3
  have H1 : (if a0_0 = 3 then ((impl_oneOf.f k a0_1 (([9, 10] : List Int))).bind fun t401 => (if t401 = true then (some (a0_2 != 0)) else (some false))) else (some true)) = some r := by rw [if_pos rfl] at H; exact H
  clear H
  have H := H1
  clear H1
  by_cases c4 : a0_0 = 3
  ·rw [if_pos c4] at H
   have c4b0 : (a0_0 == 3) = true := beq_iff_eq.mpr c4
   have c4b1 : (a0_0 != 3) = false := bne_eq_false_iff_eq.mpr c4
   clear c4
   obtain ⟨y398, hy398⟩ : ∃ y_ : List Int, y_ = (([9, 10] : List Int)) := ⟨_, rfl⟩
   replace H : ((impl_oneOf.f k a0_1 y398).bind fun t401 => (if t401 = true then (some (a0_2 != 0)) else (some false))) = some r := by first | (rw [hy398]; with_reducible exact H) | (have H2_ := (Option.bind_some _ _).symm.trans H; rw [hy398]; with_reducible exact H2_) | (have H2_ := (Option.bind_some _ _).symm.trans H; with_reducible exact H2_) | with_reducible exact H | (rw [hy398]; exact H) | exact H
   have Ny398 := za.mk hy398
   clear hy398
   replace H := Option.bind_eq_some_iff.mp H
   obtain ⟨t401, A50, H⟩ := H
   replace H : (if t401 = true then (some (a0_2 != 0)) else (some false)) = some r := H
   have A5 := za.mk A50
   clear A50
   by_cases c6 : t401 = true
   ·subst c6
    have H1 : (some (a0_2 != 0)) = some r := by rw [if_pos rfl] at H; exact H
    clear H
    have H := H1
    clear H1
    obtain rfl := Option.some.inj H
    go_enter Try.func140, Try.ntmps140
    go_wp2_with (first | ((with_reducible refine zw (N := 1) rfl ?_); (try (refine zla (by rfl) ?_; dsimp only)); refine zca ?hg (N := 1) ?hd (cs := #[.int .i64 a0_0, .int .i64 a0_1, .int .i64 a0_2]) (t := 99) ?hr ?_; (case hd => rfl); (case hg => rfl); (case hr => first | (go_simp; done) | (go_simp; rfl)); intro gb393 hg w7 hbox hb; have n0_ := za.mk (zg (by repeat (first | (with_reducible first | exact HB.out | apply zc | apply zb | apply zd) | exact HB.out)) hb); have n1_ := za.mk (hbox); have n2_ := za.mk ((by rw [hg]; exact (zp (by repeat (first | (with_reducible first | exact HB.out | apply zc | apply zb | apply zd) | exact HB.out))) : w.heap.size ≤ gb393)); have n3_ := za.mk ((by rw [hg]; exact (zp (by repeat (first | (with_reducible first | exact HB.out | apply zc | apply zb | apply zd) | exact HB.out))) : w.heap.size ≤ gb393)); clear HB; have HB := n0_; have BK393 := n1_; have GW393 := n2_; have GE393 := n3_; clear n0_ n1_ n2_ n3_; clear hb hbox hg; have hcz8_0 : w7.cell? ⟨gb393, 0, none⟩ = some (.int .i64 a0_0) := (zf BK393.out 0).trans rfl; have hcz8_1 : w7.cell? ⟨gb393, 1, none⟩ = some (.int .i64 a0_1) := (zf BK393.out 1).trans rfl; have hcz8_2 : w7.cell? ⟨gb393, 2, none⟩ = some (.int .i64 a0_2) := (zf BK393.out 2).trans rfl; have hfz8_0 := zl BK393.out 0; have hfz8_1 := zl BK393.out 1; have hfz8_2 := zl BK393.out 2) | ((with_reducible refine zw (N := 5) rfl ?_); (try (refine zla (by rfl) ?_; dsimp only)); refine Kd.zwa (Kd.int .i64) _ 3 ?hg (N := 5) ?hd (xs := ([9, 10, 13] : List Int)) (inner := [.int .i64 9, .int .i64 10, .int .i64 13]) (ok := fun _ => True) (okp := fun _ => True) ?hr ?hp (fun _ hk => hk) trivial (Below.refl _ _) (Nat.le_refl _) (by simp) ?_; (case hd => rfl); (case hg => rfl); (case hr => first | (go_simp; done) | (go_simp; rfl)); (case hp => exact (Reps.one (show Kd.M (Kd.int .i64) _ _ _ 9 [.int .i64 9] from rfl) (Reps.one (show Kd.M (Kd.int .i64) _ _ _ 10 [.int .i64 10] from rfl) (Reps.one (show Kd.M (Kd.int .i64) _ _ _ 13 [.int .i64 13] from rfl) (Reps.none _ _))))); intro v395 w9 ho10 hb hg_ hnew_; clear hg_ hnew_; (first | rw [← Ny394.out] at ho10 | (simp only [Int.reduceToNat] at ho10; rw [← Ny394.out] at ho10)); have n0_ := za.mk (Kd.zqa ho10 (zp (by repeat (first | (with_reducible first | exact HB.out | apply zc | apply zb | apply zd | refine zu ?_ GE393.out) | exact HB.out)))); have n1_ := za.mk (zsa (g := gb393) (o := .cells #[.int .i64 a0_0, .int .i64 a0_1, .int .i64 a0_2] 99 (0, 0)) (by (with_reducible repeat (first | refine zy ?_ _ | refine zaa ?_ | refine zx ?_ _)); exact BK393.out) hb); have n2_ := za.mk (zg (by repeat (first | (with_reducible first | exact HB.out | apply zc | apply zb | apply zd | refine zu ?_ GE393.out) | exact HB.out)) hb); clear BK393; clear HB; have HO396 := n0_; have BK393 := n1_; have HB := n2_; clear n0_ n1_ n2_; clear hb ho10; obtain ⟨Ao11, co11, eo11⟩ := Kd.zia HO396.out; subst eo11) | ((with_reducible refine zj (f := 135) rfl ?_); refine zgo (some 6) Try.func135 #[.int .i64 a0_1, .slice Ao11 y394.length co11] rfl ?_; (with_reducible refine (impl_oneOf.calls k a0_1 _ _ y394 true _ ?side1 ?side2 A2.out).mono ?_); (case side1 => repeat (first | exact (Kd.zt HO396.out).2.2 | (with_reducible refine Kd.zea ?_ _) | (with_reducible refine Kd.zga ?_ _) | (with_reducible refine Kd.zha ?_))); (case side2 => exact (Kd.zt HO396.out).2.1); rintro e w' ⟨rfl, ⟨nd, rfl⟩⟩; refine ⟨_, rfl, ?_⟩; have hcz12_0 : w9.cell? ⟨gb393, 0, none⟩ = some (.int .i64 a0_0) := (zf BK393.out 0).trans rfl; have hcz12_1 : w9.cell? ⟨gb393, 1, none⟩ = some (.int .i64 a0_1) := (zf BK393.out 1).trans rfl; have hcz12_2 : w9.cell? ⟨gb393, 2, none⟩ = some (.int .i64 a0_2) := (zf BK393.out 2).trans rfl; have hfz12_0 := zl BK393.out 0; have hfz12_1 := zl BK393.out 1; have hfz12_2 := zl BK393.out 2) | ((with_reducible refine zw (N := 15) rfl ?_); (try (refine zla (by rfl) ?_; dsimp only)); refine Kd.zwa (Kd.int .i64) _ 3 ?hg (N := 15) ?hd (xs := ([9, 10] : List Int)) (inner := [.int .i64 9, .int .i64 10]) (ok := fun _ => True) (okp := fun _ => True) ?hr ?hp (fun _ hk => hk) trivial (Below.refl _ _) (Nat.le_refl _) (by simp) ?_; (case hd => rfl); (case hg => rfl); (case hr => first | (go_simp; done) | (go_simp; rfl)); (case hp => exact (Reps.one (show Kd.M (Kd.int .i64) _ _ _ 9 [.int .i64 9] from rfl) (Reps.one (show Kd.M (Kd.int .i64) _ _ _ 10 [.int .i64 10] from rfl) (Reps.none _ _)))); intro v399 w13 ho14 hb hg_ hnew_; clear hg_ hnew_; (first | rw [← Ny398.out] at ho14 | (simp only [Int.reduceToNat] at ho14; rw [← Ny398.out] at ho14)); have n0_ := za.mk (Kd.zua (by (with_reducible repeat (first | apply Kd.zn | apply Kd.zo | apply Kd.zq)); exact HO396.out) (Kd.zgb ho14) hb); have n1_ := za.mk (Kd.zqa (Kd.zhb ho14 (Kd.R_lt (by (with_reducible repeat (first | apply Kd.zn | apply Kd.zo | apply Kd.zq)); exact HO396.out))) (zp (by repeat (first | (with_reducible first | exact HB.out | apply zc | apply zb | apply zd | refine zu ?_ GE393.out) | exact HB.out)))); have n2_ := za.mk (zsa (g := gb393) (o := .cells #[.int .i64 a0_0, .int .i64 a0_1, .int .i64 a0_2] 99 (0, 0)) (by (with_reducible repeat (first | refine zy ?_ _ | refine zaa ?_ | refine zx ?_ _)); exact BK393.out) hb); have n3_ := za.mk (zg (by repeat (first | (with_reducible first | exact HB.out | apply zc | apply zb | apply zd | refine zu ?_ GE393.out) | exact HB.out)) hb); clear HO396; clear BK393; clear HB; have HO396 := n0_; have HO400 := n1_; have BK393 := n2_; have HB := n3_; clear n0_ n1_ n2_ n3_; clear hb ho14; obtain ⟨Ao15, co15, eo15⟩ := Kd.zia HO400.out; subst eo15) | (go_at_call 135; (with_reducible refine (impl_oneOf.calls k a0_1 _ _ y398 true _ ?side1 ?side2 A5.out).mono ?_); (case side1 => repeat (first | exact (Kd.zt HO400.out).2.2 | (with_reducible refine Kd.zea ?_ _) | (with_reducible refine Kd.zga ?_ _) | (with_reducible refine Kd.zha ?_))); (case side2 => exact (Kd.zt HO400.out).2.1); rintro e w' ⟨rfl, ⟨nd, rfl⟩⟩; have hcz16_0 : w13.cell? ⟨gb393, 0, none⟩ = some (.int .i64 a0_0) := (zf BK393.out 0).trans rfl; have hcz16_1 : w13.cell? ⟨gb393, 1, none⟩ = some (.int .i64 a0_1) := (zf BK393.out 1).trans rfl; have hcz16_2 : w13.cell? ⟨gb393, 2, none⟩ = some (.int .i64 a0_2) := (zf BK393.out 2).trans rfl; have hfz16_0 := zl BK393.out 0; have hfz16_1 := zl BK393.out 1; have hfz16_2 := zl BK393.out 2))
    go_ret
    exact ⟨by first | rfl | (simp [zh, zi] <;> rfl) | (simp [*, zh, zi] <;> rfl), by repeat (first | (with_reducible first | exact HB.out | apply zc | apply zb | apply zd | refine zu ?_ GE393.out) | exact HB.out)⟩
   ·replace c6 := Bool.eq_false_iff.mpr c6
    subst c6
    have H1 : (some false) = some r := by rw [if_neg (show ¬ (false = true) by decide)] at H; exact H
    clear H
    have H := H1
    clear H1
    obtain rfl := Option.some.inj H
    go_enter Try.func140, Try.ntmps140
    go_wp2_with (first | ((with_reducible refine zw (N := 1) rfl ?_); (try (refine zla (by rfl) ?_; dsimp only)); refine zca ?hg (N := 1) ?hd (cs := #[.int .i64 a0_0, .int .i64 a0_1, .int .i64 a0_2]) (t := 99) ?hr ?_; (case hd => rfl); (case hg => rfl); (case hr => first | (go_simp; done) | (go_simp; rfl)); intro gb393 hg w17 hbox hb; have n0_ := za.mk (zg (by repeat (first | (with_reducible first | exact HB.out | apply zc | apply zb | apply zd) | exact HB.out)) hb); have n1_ := za.mk (hbox); have n2_ := za.mk ((by rw [hg]; exact (zp (by repeat (first | (with_reducible first | exact HB.out | apply zc | apply zb | apply zd) | exact HB.out))) : w.heap.size ≤ gb393)); have n3_ := za.mk ((by rw [hg]; exact (zp (by repeat (first | (with_reducible first | exact HB.out | apply zc | apply zb | apply zd) | exact HB.out))) : w.heap.size ≤ gb393)); clear HB; have HB := n0_; have BK393 := n1_; have GW393 := n2_; have GE393 := n3_; clear n0_ n1_ n2_ n3_; clear hb hbox hg; have hcz18_0 : w17.cell? ⟨gb393, 0, none⟩ = some (.int .i64 a0_0) := (zf BK393.out 0).trans rfl; have hcz18_1 : w17.cell? ⟨gb393, 1, none⟩ = some (.int .i64 a0_1) := (zf BK393.out 1).trans rfl; have hcz18_2 : w17.cell? ⟨gb393, 2, none⟩ = some (.int .i64 a0_2) := (zf BK393.out 2).trans rfl; have hfz18_0 := zl BK393.out 0; have hfz18_1 := zl BK393.out 1; have hfz18_2 := zl BK393.out 2) | ((with_reducible refine zw (N := 5) rfl ?_); (try (refine zla (by rfl) ?_; dsimp only)); refine Kd.zwa (Kd.int .i64) _ 3 ?hg (N := 5) ?hd (xs := ([9, 10, 13] : List Int)) (inner := [.int .i64 9, .int .i64 10, .int .i64 13]) (ok := fun _ => True) (okp := fun _ => True) ?hr ?hp (fun _ hk => hk) trivial (Below.refl _ _) (Nat.le_refl _) (by simp) ?_; (case hd => rfl); (case hg => rfl); (case hr => first | (go_simp; done) | (go_simp; rfl)); (case hp => exact (Reps.one (show Kd.M (Kd.int .i64) _ _ _ 9 [.int .i64 9] from rfl) (Reps.one (show Kd.M (Kd.int .i64) _ _ _ 10 [.int .i64 10] from rfl) (Reps.one (show Kd.M (Kd.int .i64) _ _ _ 13 [.int .i64 13] from rfl) (Reps.none _ _))))); intro v395 w19 ho20 hb hg_ hnew_; clear hg_ hnew_; (first | rw [← Ny394.out] at ho20 | (simp only [Int.reduceToNat] at ho20; rw [← Ny394.out] at ho20)); have n0_ := za.mk (Kd.zqa ho20 (zp (by repeat (first | (with_reducible first | exact HB.out | apply zc | apply zb | apply zd | refine zu ?_ GE393.out) | exact HB.out)))); have n1_ := za.mk (zsa (g := gb393) (o := .cells #[.int .i64 a0_0, .int .i64 a0_1, .int .i64 a0_2] 99 (0, 0)) (by (with_reducible repeat (first | refine zy ?_ _ | refine zaa ?_ | refine zx ?_ _)); exact BK393.out) hb); have n2_ := za.mk (zg (by repeat (first | (with_reducible first | exact HB.out | apply zc | apply zb | apply zd | refine zu ?_ GE393.out) | exact HB.out)) hb); clear BK393; clear HB; have HO396 := n0_; have BK393 := n1_; have HB := n2_; clear n0_ n1_ n2_; clear hb ho20; obtain ⟨Ao21, co21, eo21⟩ := Kd.zia HO396.out; subst eo21) | ((with_reducible refine zj (f := 135) rfl ?_); refine zgo (some 6) Try.func135 #[.int .i64 a0_1, .slice Ao21 y394.length co21] rfl ?_; (with_reducible refine (impl_oneOf.calls k a0_1 _ _ y394 true _ ?side1 ?side2 A2.out).mono ?_); (case side1 => repeat (first | exact (Kd.zt HO396.out).2.2 | (with_reducible refine Kd.zea ?_ _) | (with_reducible refine Kd.zga ?_ _) | (with_reducible refine Kd.zha ?_))); (case side2 => exact (Kd.zt HO396.out).2.1); rintro e w' ⟨rfl, ⟨nd, rfl⟩⟩; refine ⟨_, rfl, ?_⟩; have hcz22_0 : w19.cell? ⟨gb393, 0, none⟩ = some (.int .i64 a0_0) := (zf BK393.out 0).trans rfl; have hcz22_1 : w19.cell? ⟨gb393, 1, none⟩ = some (.int .i64 a0_1) := (zf BK393.out 1).trans rfl; have hcz22_2 : w19.cell? ⟨gb393, 2, none⟩ = some (.int .i64 a0_2) := (zf BK393.out 2).trans rfl; have hfz22_0 := zl BK393.out 0; have hfz22_1 := zl BK393.out 1; have hfz22_2 := zl BK393.out 2) | ((with_reducible refine zw (N := 15) rfl ?_); (try (refine zla (by rfl) ?_; dsimp only)); refine Kd.zwa (Kd.int .i64) _ 3 ?hg (N := 15) ?hd (xs := ([9, 10] : List Int)) (inner := [.int .i64 9, .int .i64 10]) (ok := fun _ => True) (okp := fun _ => True) ?hr ?hp (fun _ hk => hk) trivial (Below.refl _ _) (Nat.le_refl _) (by simp) ?_; (case hd => rfl); (case hg => rfl); (case hr => first | (go_simp; done) | (go_simp; rfl)); (case hp => exact (Reps.one (show Kd.M (Kd.int .i64) _ _ _ 9 [.int .i64 9] from rfl) (Reps.one (show Kd.M (Kd.int .i64) _ _ _ 10 [.int .i64 10] from rfl) (Reps.none _ _)))); intro v399 w23 ho24 hb hg_ hnew_; clear hg_ hnew_; (first | rw [← Ny398.out] at ho24 | (simp only [Int.reduceToNat] at ho24; rw [← Ny398.out] at ho24)); have n0_ := za.mk (Kd.zua (by (with_reducible repeat (first | apply Kd.zn | apply Kd.zo | apply Kd.zq)); exact HO396.out) (Kd.zgb ho24) hb); have n1_ := za.mk (Kd.zqa (Kd.zhb ho24 (Kd.R_lt (by (with_reducible repeat (first | apply Kd.zn | apply Kd.zo | apply Kd.zq)); exact HO396.out))) (zp (by repeat (first | (with_reducible first | exact HB.out | apply zc | apply zb | apply zd | refine zu ?_ GE393.out) | exact HB.out)))); have n2_ := za.mk (zsa (g := gb393) (o := .cells #[.int .i64 a0_0, .int .i64 a0_1, .int .i64 a0_2] 99 (0, 0)) (by (with_reducible repeat (first | refine zy ?_ _ | refine zaa ?_ | refine zx ?_ _)); exact BK393.out) hb); have n3_ := za.mk (zg (by repeat (first | (with_reducible first | exact HB.out | apply zc | apply zb | apply zd | refine zu ?_ GE393.out) | exact HB.out)) hb); clear HO396; clear BK393; clear HB; have HO396 := n0_; have HO400 := n1_; have BK393 := n2_; have HB := n3_; clear n0_ n1_ n2_ n3_; clear hb ho24; obtain ⟨Ao25, co25, eo25⟩ := Kd.zia HO400.out; subst eo25) | (go_at_call 135; (with_reducible refine (impl_oneOf.calls k a0_1 _ _ y398 false _ ?side1 ?side2 A5.out).mono ?_); (case side1 => repeat (first | exact (Kd.zt HO400.out).2.2 | (with_reducible refine Kd.zea ?_ _) | (with_reducible refine Kd.zga ?_ _) | (with_reducible refine Kd.zha ?_))); (case side2 => exact (Kd.zt HO400.out).2.1); rintro e w' ⟨rfl, ⟨nd, rfl⟩⟩))
    go_ret
    exact ⟨by first | rfl | (simp [zh, zi] <;> rfl) | (simp [*, zh, zi] <;> rfl), by repeat (first | (with_reducible first | exact HB.out | apply zc | apply zb | apply zd | refine zu ?_ GE393.out) | exact HB.out)⟩
  ·rw [if_neg c4] at H
   have c4b0 : (a0_0 == 3) = false := beq_eq_false_iff_ne.mpr c4
   have c4b1 : (a0_0 != 3) = true := bne_iff_ne.mpr c4
   obtain rfl := Option.some.inj H
   go_enter Try.func140, Try.ntmps140
   go_wp2_with (first | ((with_reducible refine zw (N := 1) rfl ?_); (try (refine zla (by rfl) ?_; dsimp only)); refine zca ?hg (N := 1) ?hd (cs := #[.int .i64 a0_0, .int .i64 a0_1, .int .i64 a0_2]) (t := 99) ?hr ?_; (case hd => rfl); (case hg => rfl); (case hr => first | (go_simp; done) | (go_simp; rfl)); intro gb393 hg w26 hbox hb; have n0_ := za.mk (zg (by repeat (first | (with_reducible first | exact HB.out | apply zc | apply zb | apply zd) | exact HB.out)) hb); have n1_ := za.mk (hbox); have n2_ := za.mk ((by rw [hg]; exact (zp (by repeat (first | (with_reducible first | exact HB.out | apply zc | apply zb | apply zd) | exact HB.out))) : w.heap.size ≤ gb393)); have n3_ := za.mk ((by rw [hg]; exact (zp (by repeat (first | (with_reducible first | exact HB.out | apply zc | apply zb | apply zd) | exact HB.out))) : w.heap.size ≤ gb393)); clear HB; have HB := n0_; have BK393 := n1_; have GW393 := n2_; have GE393 := n3_; clear n0_ n1_ n2_ n3_; clear hb hbox hg; have hcz27_0 : w26.cell? ⟨gb393, 0, none⟩ = some (.int .i64 a0_0) := (zf BK393.out 0).trans rfl; have hcz27_1 : w26.cell? ⟨gb393, 1, none⟩ = some (.int .i64 a0_1) := (zf BK393.out 1).trans rfl; have hcz27_2 : w26.cell? ⟨gb393, 2, none⟩ = some (.int .i64 a0_2) := (zf BK393.out 2).trans rfl; have hfz27_0 := zl BK393.out 0; have hfz27_1 := zl BK393.out 1; have hfz27_2 := zl BK393.out 2) | ((with_reducible refine zw (N := 5) rfl ?_); (try (refine zla (by rfl) ?_; dsimp only)); refine Kd.zwa (Kd.int .i64) _ 3 ?hg (N := 5) ?hd (xs := ([9, 10, 13] : List Int)) (inner := [.int .i64 9, .int .i64 10, .int .i64 13]) (ok := fun _ => True) (okp := fun _ => True) ?hr ?hp (fun _ hk => hk) trivial (Below.refl _ _) (Nat.le_refl _) (by simp) ?_; (case hd => rfl); (case hg => rfl); (case hr => first | (go_simp; done) | (go_simp; rfl)); (case hp => exact (Reps.one (show Kd.M (Kd.int .i64) _ _ _ 9 [.int .i64 9] from rfl) (Reps.one (show Kd.M (Kd.int .i64) _ _ _ 10 [.int .i64 10] from rfl) (Reps.one (show Kd.M (Kd.int .i64) _ _ _ 13 [.int .i64 13] from rfl) (Reps.none _ _))))); intro v395 w28 ho29 hb hg_ hnew_; clear hg_ hnew_; (first | rw [← Ny394.out] at ho29 | (simp only [Int.reduceToNat] at ho29; rw [← Ny394.out] at ho29)); have n0_ := za.mk (Kd.zqa ho29 (zp (by repeat (first | (with_reducible first | exact HB.out | apply zc | apply zb | apply zd | refine zu ?_ GE393.out) | exact HB.out)))); have n1_ := za.mk (zsa (g := gb393) (o := .cells #[.int .i64 a0_0, .int .i64 a0_1, .int .i64 a0_2] 99 (0, 0)) (by (with_reducible repeat (first | refine zy ?_ _ | refine zaa ?_ | refine zx ?_ _)); exact BK393.out) hb); have n2_ := za.mk (zg (by repeat (first | (with_reducible first | exact HB.out | apply zc | apply zb | apply zd | refine zu ?_ GE393.out) | exact HB.out)) hb); clear BK393; clear HB; have HO396 := n0_; have BK393 := n1_; have HB := n2_; clear n0_ n1_ n2_; clear hb ho29; obtain ⟨Ao30, co30, eo30⟩ := Kd.zia HO396.out; subst eo30) | ((with_reducible refine zj (f := 135) rfl ?_); refine zgo (some 6) Try.func135 #[.int .i64 a0_1, .slice Ao30 y394.length co30] rfl ?_; (with_reducible refine (impl_oneOf.calls k a0_1 _ _ y394 true _ ?side1 ?side2 A2.out).mono ?_); (case side1 => repeat (first | exact (Kd.zt HO396.out).2.2 | (with_reducible refine Kd.zea ?_ _) | (with_reducible refine Kd.zga ?_ _) | (with_reducible refine Kd.zha ?_))); (case side2 => exact (Kd.zt HO396.out).2.1); rintro e w' ⟨rfl, ⟨nd, rfl⟩⟩; refine ⟨_, rfl, ?_⟩; have hcz31_0 : w28.cell? ⟨gb393, 0, none⟩ = some (.int .i64 a0_0) := (zf BK393.out 0).trans rfl; have hcz31_1 : w28.cell? ⟨gb393, 1, none⟩ = some (.int .i64 a0_1) := (zf BK393.out 1).trans rfl; have hcz31_2 : w28.cell? ⟨gb393, 2, none⟩ = some (.int .i64 a0_2) := (zf BK393.out 2).trans rfl; have hfz31_0 := zl BK393.out 0; have hfz31_1 := zl BK393.out 1; have hfz31_2 := zl BK393.out 2))
   go_ret
   exact ⟨by first | rfl | (simp [zh, zi] <;> rfl) | (simp [*, zh, zi] <;> rfl), by repeat (first | (with_reducible first | exact HB.out | apply zc | apply zb | apply zd | refine zu ?_ GE393.out) | exact HB.out)⟩
 ·replace c3 := Bool.eq_false_iff.mpr c3
  subst c3
  have H1 : ((impl_oneOf.f k a0_1 (([9, 10] : List Int))).bind fun t405 => (if t405 = true then (some (a0_2 != 0)) else (some false))) = some r := by rw [if_neg (show ¬ (false = true) by decide)] at H; exact H
  clear H
  have H := H1
  clear H1
  obtain ⟨y402, hy402⟩ : ∃ y_ : List Int, y_ = (([9, 10] : List Int)) := ⟨_, rfl⟩
  replace H : ((impl_oneOf.f k a0_1 y402).bind fun t405 => (if t405 = true then (some (a0_2 != 0)) else (some false))) = some r := by first | (rw [hy402]; with_reducible exact H) | (have H2_ := (Option.bind_some _ _).symm.trans H; rw [hy402]; with_reducible exact H2_) | (have H2_ := (Option.bind_some _ _).symm.trans H; with_reducible exact H2_) | with_reducible exact H | (rw [hy402]; exact H) | exact H
  have Ny402 := za.mk hy402
  clear hy402
  replace H := Option.bind_eq_some_iff.mp H
  obtain ⟨t405, A320, H⟩ := H
  replace H : (if t405 = true then (some (a0_2 != 0)) else (some false)) = some r := H
  have A32 := za.mk A320
  clear A320
  by_cases c33 : t405 = true
  ·subst c33
   have H1 : (some (a0_2 != 0)) = some r := by rw [if_pos rfl] at H; exact H
   clear H
   have H := H1
   clear H1
   obtain rfl := Option.some.inj H
   go_enter Try.func140, Try.ntmps140
   go_wp2_with (first | ((with_reducible refine zw (N := 1) rfl ?_); (try (refine zla (by rfl) ?_; dsimp only)); refine zca ?hg (N := 1) ?hd (cs := #[.int .i64 a0_0, .int .i64 a0_1, .int .i64 a0_2]) (t := 99) ?hr ?_; (case hd => rfl); (case hg => rfl); (case hr => first | (go_simp; done) | (go_simp; rfl)); intro gb393 hg w34 hbox hb; have n0_ := za.mk (zg (by repeat (first | (with_reducible first | exact HB.out | apply zc | apply zb | apply zd) | exact HB.out)) hb); have n1_ := za.mk (hbox); have n2_ := za.mk ((by rw [hg]; exact (zp (by repeat (first | (with_reducible first | exact HB.out | apply zc | apply zb | apply zd) | exact HB.out))) : w.heap.size ≤ gb393)); have n3_ := za.mk ((by rw [hg]; exact (zp (by repeat (first | (with_reducible first | exact HB.out | apply zc | apply zb | apply zd) | exact HB.out))) : w.heap.size ≤ gb393)); clear HB; have HB := n0_; have BK393 := n1_; have GW393 := n2_; have GE393 := n3_; clear n0_ n1_ n2_ n3_; clear hb hbox hg; have hcz35_0 : w34.cell? ⟨gb393, 0, none⟩ = some (.int .i64 a0_0) := (zf BK393.out 0).trans rfl; have hcz35_1 : w34.cell? ⟨gb393, 1, none⟩ = some (.int .i64 a0_1) := (zf BK393.out 1).trans rfl; have hcz35_2 : w34.cell? ⟨gb393, 2, none⟩ = some (.int .i64 a0_2) := (zf BK393.out 2).trans rfl; have hfz35_0 := zl BK393.out 0; have hfz35_1 := zl BK393.out 1; have hfz35_2 := zl BK393.out 2) | ((with_reducible refine zw (N := 5) rfl ?_); (try (refine zla (by rfl) ?_; dsimp only)); refine Kd.zwa (Kd.int .i64) _ 3 ?hg (N := 5) ?hd (xs := ([9, 10, 13] : List Int)) (inner := [.int .i64 9, .int .i64 10, .int .i64 13]) (ok := fun _ => True) (okp := fun _ => True) ?hr ?hp (fun _ hk => hk) trivial (Below.refl _ _) (Nat.le_refl _) (by simp) ?_; (case hd => rfl); (case hg => rfl); (case hr => first | (go_simp; done) | (go_simp; rfl)); (case hp => exact (Reps.one (show Kd.M (Kd.int .i64) _ _ _ 9 [.int .i64 9] from rfl) (Reps.one (show Kd.M (Kd.int .i64) _ _ _ 10 [.int .i64 10] from rfl) (Reps.one (show Kd.M (Kd.int .i64) _ _ _ 13 [.int .i64 13] from rfl) (Reps.none _ _))))); intro v395 w36 ho37 hb hg_ hnew_; clear hg_ hnew_; (first | rw [← Ny394.out] at ho37 | (simp only [Int.reduceToNat] at ho37; rw [← Ny394.out] at ho37)); have n0_ := za.mk (Kd.zqa ho37 (zp (by repeat (first | (with_reducible first | exact HB.out | apply zc | apply zb | apply zd | refine zu ?_ GE393.out) | exact HB.out)))); have n1_ := za.mk (zsa (g := gb393) (o := .cells #[.int .i64 a0_0, .int .i64 a0_1, .int .i64 a0_2] 99 (0, 0)) (by (with_reducible repeat (first | refine zy ?_ _ | refine zaa ?_ | refine zx ?_ _)); exact BK393.out) hb); have n2_ := za.mk (zg (by repeat (first | (with_reducible first | exact HB.out | apply zc | apply zb | apply zd | refine zu ?_ GE393.out) | exact HB.out)) hb); clear BK393; clear HB; have HO396 := n0_; have BK393 := n1_; have HB := n2_; clear n0_ n1_ n2_; clear hb ho37; obtain ⟨Ao38, co38, eo38⟩ := Kd.zia HO396.out; subst eo38) | ((with_reducible refine zj (f := 135) rfl ?_); refine zgo (some 6) Try.func135 #[.int .i64 a0_1, .slice Ao38 y394.length co38] rfl ?_; (with_reducible refine (impl_oneOf.calls k a0_1 _ _ y394 false _ ?side1 ?side2 A2.out).mono ?_); (case side1 => repeat (first | exact (Kd.zt HO396.out).2.2 | (with_reducible refine Kd.zea ?_ _) | (with_reducible refine Kd.zga ?_ _) | (with_reducible refine Kd.zha ?_))); (case side2 => exact (Kd.zt HO396.out).2.1); rintro e w' ⟨rfl, ⟨nd, rfl⟩⟩; refine ⟨_, rfl, ?_⟩; have hcz39_0 : w36.cell? ⟨gb393, 0, none⟩ = some (.int .i64 a0_0) := (zf BK393.out 0).trans rfl; have hcz39_1 : w36.cell? ⟨gb393, 1, none⟩ = some (.int .i64 a0_1) := (zf BK393.out 1).trans rfl; have hcz39_2 : w36.cell? ⟨gb393, 2, none⟩ = some (.int .i64 a0_2) := (zf BK393.out 2).trans rfl; have hfz39_0 := zl BK393.out 0; have hfz39_1 := zl BK393.out 1; have hfz39_2 := zl BK393.out 2) | ((with_reducible refine zw (N := 15) rfl ?_); (try (refine zla (by rfl) ?_; dsimp only)); refine Kd.zwa (Kd.int .i64) _ 3 ?hg (N := 15) ?hd (xs := ([9, 10] : List Int)) (inner := [.int .i64 9, .int .i64 10]) (ok := fun _ => True) (okp := fun _ => True) ?hr ?hp (fun _ hk => hk) trivial (Below.refl _ _) (Nat.le_refl _) (by simp) ?_; (case hd => rfl); (case hg => rfl); (case hr => first | (go_simp; done) | (go_simp; rfl)); (case hp => exact (Reps.one (show Kd.M (Kd.int .i64) _ _ _ 9 [.int .i64 9] from rfl) (Reps.one (show Kd.M (Kd.int .i64) _ _ _ 10 [.int .i64 10] from rfl) (Reps.none _ _)))); intro v403 w40 ho41 hb hg_ hnew_; clear hg_ hnew_; (first | rw [← Ny402.out] at ho41 | (simp only [Int.reduceToNat] at ho41; rw [← Ny402.out] at ho41)); have n0_ := za.mk (Kd.zua (by (with_reducible repeat (first | apply Kd.zn | apply Kd.zo | apply Kd.zq)); exact HO396.out) (Kd.zgb ho41) hb); have n1_ := za.mk (Kd.zqa (Kd.zhb ho41 (Kd.R_lt (by (with_reducible repeat (first | apply Kd.zn | apply Kd.zo | apply Kd.zq)); exact HO396.out))) (zp (by repeat (first | (with_reducible first | exact HB.out | apply zc | apply zb | apply zd | refine zu ?_ GE393.out) | exact HB.out)))); have n2_ := za.mk (zsa (g := gb393) (o := .cells #[.int .i64 a0_0, .int .i64 a0_1, .int .i64 a0_2] 99 (0, 0)) (by (with_reducible repeat (first | refine zy ?_ _ | refine zaa ?_ | refine zx ?_ _)); exact BK393.out) hb); have n3_ := za.mk (zg (by repeat (first | (with_reducible first | exact HB.out | apply zc | apply zb | apply zd | refine zu ?_ GE393.out) | exact HB.out)) hb); clear HO396; clear BK393; clear HB; have HO396 := n0_; have HO404 := n1_; have BK393 := n2_; have HB := n3_; clear n0_ n1_ n2_ n3_; clear hb ho41; obtain ⟨Ao42, co42, eo42⟩ := Kd.zia HO404.out; subst eo42) | (go_at_call 135; (with_reducible refine (impl_oneOf.calls k a0_1 _ _ y402 true _ ?side1 ?side2 A32.out).mono ?_); (case side1 => repeat (first | exact (Kd.zt HO404.out).2.2 | (with_reducible refine Kd.zea ?_ _) | (with_reducible refine Kd.zga ?_ _) | (with_reducible refine Kd.zha ?_))); (case side2 => exact (Kd.zt HO404.out).2.1); rintro e w' ⟨rfl, ⟨nd, rfl⟩⟩; have hcz43_0 : w40.cell? ⟨gb393, 0, none⟩ = some (.int .i64 a0_0) := (zf BK393.out 0).trans rfl; have hcz43_1 : w40.cell? ⟨gb393, 1, none⟩ = some (.int .i64 a0_1) := (zf BK393.out 1).trans rfl; have hcz43_2 : w40.cell? ⟨gb393, 2, none⟩ = some (.int .i64 a0_2) := (zf BK393.out 2).trans rfl; have hfz43_0 := zl BK393.out 0; have hfz43_1 := zl BK393.out 1; have hfz43_2 := zl BK393.out 2))
   go_ret
   exact ⟨by first | rfl | (simp [zh, zi] <;> rfl) | (simp [*, zh, zi] <;> rfl), by repeat (first | (with_reducible first | exact HB.out | apply zc | apply zb | apply zd | refine zu ?_ GE393.out) | exact HB.out)⟩
  ·replace c33 := Bool.eq_false_iff.mpr c33
   subst c33
   have H1 : (some false) = some r := by rw [if_neg (show ¬ (false = true) by decide)] at H; exact H
   clear H
   have H := H1
   clear H1
   obtain rfl := Option.some.inj H
   go_enter Try.func140, Try.ntmps140
   go_wp2_with (first | ((with_reducible refine zw (N := 1) rfl ?_); (try (refine zla (by rfl) ?_; dsimp only)); refine zca ?hg (N := 1) ?hd (cs := #[.int .i64 a0_0, .int .i64 a0_1, .int .i64 a0_2]) (t := 99) ?hr ?_; (case hd => rfl); (case hg => rfl); (case hr => first | (go_simp; done) | (go_simp; rfl)); intro gb393 hg w44 hbox hb; have n0_ := za.mk (zg (by repeat (first | (with_reducible first | exact HB.out | apply zc | apply zb | apply zd) | exact HB.out)) hb); have n1_ := za.mk (hbox); have n2_ := za.mk ((by rw [hg]; exact (zp (by repeat (first | (with_reducible first | exact HB.out | apply zc | apply zb | apply zd) | exact HB.out))) : w.heap.size ≤ gb393)); have n3_ := za.mk ((by rw [hg]; exact (zp (by repeat (first | (with_reducible first | exact HB.out | apply zc | apply zb | apply zd) | exact HB.out))) : w.heap.size ≤ gb393)); clear HB; have HB := n0_; have BK393 := n1_; have GW393 := n2_; have GE393 := n3_; clear n0_ n1_ n2_ n3_; clear hb hbox hg; have hcz45_0 : w44.cell? ⟨gb393, 0, none⟩ = some (.int .i64 a0_0) := (zf BK393.out 0).trans rfl; have hcz45_1 : w44.cell? ⟨gb393, 1, none⟩ = some (.int .i64 a0_1) := (zf BK393.out 1).trans rfl; have hcz45_2 : w44.cell? ⟨gb393, 2, none⟩ = some (.int .i64 a0_2) := (zf BK393.out 2).trans rfl; have hfz45_0 := zl BK393.out 0; have hfz45_1 := zl BK393.out 1; have hfz45_2 := zl BK393.out 2) | ((with_reducible refine zw (N := 5) rfl ?_); (try (refine zla (by rfl) ?_; dsimp only)); refine Kd.zwa (Kd.int .i64) _ 3 ?hg (N := 5) ?hd (xs := ([9, 10, 13] : List Int)) (inner := [.int .i64 9, .int .i64 10, .int .i64 13]) (ok := fun _ => True) (okp := fun _ => True) ?hr ?hp (fun _ hk => hk) trivial (Below.refl _ _) (Nat.le_refl _) (by simp) ?_; (case hd => rfl); (case hg => rfl); (case hr => first | (go_simp; done) | (go_simp; rfl)); (case hp => exact (Reps.one (show Kd.M (Kd.int .i64) _ _ _ 9 [.int .i64 9] from rfl) (Reps.one (show Kd.M (Kd.int .i64) _ _ _ 10 [.int .i64 10] from rfl) (Reps.one (show Kd.M (Kd.int .i64) _ _ _ 13 [.int .i64 13] from rfl) (Reps.none _ _))))); intro v395 w46 ho47 hb hg_ hnew_; clear hg_ hnew_; (first | rw [← Ny394.out] at ho47 | (simp only [Int.reduceToNat] at ho47; rw [← Ny394.out] at ho47)); have n0_ := za.mk (Kd.zqa ho47 (zp (by repeat (first | (with_reducible first | exact HB.out | apply zc | apply zb | apply zd | refine zu ?_ GE393.out) | exact HB.out)))); have n1_ := za.mk (zsa (g := gb393) (o := .cells #[.int .i64 a0_0, .int .i64 a0_1, .int .i64 a0_2] 99 (0, 0)) (by (with_reducible repeat (first | refine zy ?_ _ | refine zaa ?_ | refine zx ?_ _)); exact BK393.out) hb); have n2_ := za.mk (zg (by repeat (first | (with_reducible first | exact HB.out | apply zc | apply zb | apply zd | refine zu ?_ GE393.out) | exact HB.out)) hb); clear BK393; clear HB; have HO396 := n0_; have BK393 := n1_; have HB := n2_; clear n0_ n1_ n2_; clear hb ho47; obtain ⟨Ao48, co48, eo48⟩ := Kd.zia HO396.out; subst eo48) | ((with_reducible refine zj (f := 135) rfl ?_); refine zgo (some 6) Try.func135 #[.int .i64 a0_1, .slice Ao48 y394.length co48] rfl ?_; (with_reducible refine (impl_oneOf.calls k a0_1 _ _ y394 false _ ?side1 ?side2 A2.out).mono ?_); (case side1 => repeat (first | exact (Kd.zt HO396.out).2.2 | (with_reducible refine Kd.zea ?_ _) | (with_reducible refine Kd.zga ?_ _) | (with_reducible refine Kd.zha ?_))); (case side2 => exact (Kd.zt HO396.out).2.1); rintro e w' ⟨rfl, ⟨nd, rfl⟩⟩; refine ⟨_, rfl, ?_⟩; have hcz49_0 : w46.cell? ⟨gb393, 0, none⟩ = some (.int .i64 a0_0) := (zf BK393.out 0).trans rfl; have hcz49_1 : w46.cell? ⟨gb393, 1, none⟩ = some (.int .i64 a0_1) := (zf BK393.out 1).trans rfl; have hcz49_2 : w46.cell? ⟨gb393, 2, none⟩ = some (.int .i64 a0_2) := (zf BK393.out 2).trans rfl; have hfz49_0 := zl BK393.out 0; have hfz49_1 := zl BK393.out 1; have hfz49_2 := zl BK393.out 2) | ((with_reducible refine zw (N := 15) rfl ?_); (try (refine zla (by rfl) ?_; dsimp only)); refine Kd.zwa (Kd.int .i64) _ 3 ?hg (N := 15) ?hd (xs := ([9, 10] : List Int)) (inner := [.int .i64 9, .int .i64 10]) (ok := fun _ => True) (okp := fun _ => True) ?hr ?hp (fun _ hk => hk) trivial (Below.refl _ _) (Nat.le_refl _) (by simp) ?_; (case hd => rfl); (case hg => rfl); (case hr => first | (go_simp; done) | (go_simp; rfl)); (case hp => exact (Reps.one (show Kd.M (Kd.int .i64) _ _ _ 9 [.int .i64 9] from rfl) (Reps.one (show Kd.M (Kd.int .i64) _ _ _ 10 [.int .i64 10] from rfl) (Reps.none _ _)))); intro v403 w50 ho51 hb hg_ hnew_; clear hg_ hnew_; (first | rw [← Ny402.out] at ho51 | (simp only [Int.reduceToNat] at ho51; rw [← Ny402.out] at ho51)); have n0_ := za.mk (Kd.zua (by (with_reducible repeat (first | apply Kd.zn | apply Kd.zo | apply Kd.zq)); exact HO396.out) (Kd.zgb ho51) hb); have n1_ := za.mk (Kd.zqa (Kd.zhb ho51 (Kd.R_lt (by (with_reducible repeat (first | apply Kd.zn | apply Kd.zo | apply Kd.zq)); exact HO396.out))) (zp (by repeat (first | (with_reducible first | exact HB.out | apply zc | apply zb | apply zd | refine zu ?_ GE393.out) | exact HB.out)))); have n2_ := za.mk (zsa (g := gb393) (o := .cells #[.int .i64 a0_0, .int .i64 a0_1, .int .i64 a0_2] 99 (0, 0)) (by (with_reducible repeat (first | refine zy ?_ _ | refine zaa ?_ | refine zx ?_ _)); exact BK393.out) hb); have n3_ := za.mk (zg (by repeat (first | (with_reducible first | exact HB.out | apply zc | apply zb | apply zd | refine zu ?_ GE393.out) | exact HB.out)) hb); clear HO396; clear BK393; clear HB; have HO396 := n0_; have HO404 := n1_; have BK393 := n2_; have HB := n3_; clear n0_ n1_ n2_ n3_; clear hb ho51; obtain ⟨Ao52, co52, eo52⟩ := Kd.zia HO404.out; subst eo52) | (go_at_call 135; (with_reducible refine (impl_oneOf.calls k a0_1 _ _ y402 false _ ?side1 ?side2 A32.out).mono ?_); (case side1 => repeat (first | exact (Kd.zt HO404.out).2.2 | (with_reducible refine Kd.zea ?_ _) | (with_reducible refine Kd.zga ?_ _) | (with_reducible refine Kd.zha ?_))); (case side2 => exact (Kd.zt HO404.out).2.1); rintro e w' ⟨rfl, ⟨nd, rfl⟩⟩))
   go_ret
   exact ⟨by first | rfl | (simp [zh, zi] <;> rfl) | (simp [*, zh, zi] <;> rfl), by repeat (first | (with_reducible first | exact HB.out | apply zc | apply zb | apply zd | refine zu ?_ GE393.out) | exact HB.out)⟩
def impl_rules_8.f (a0_0 : Int) (a0_1 : Int) (a0_2 : Int) : Option (Bool) := some (a0_2 == 8)
theorem impl_rules_8.calls (a0_0 : Int) (a0_1 : Int) (a0_2 : Int) (r : Bool) (w : World) (h : impl_rules_8.f a0_0 a0_1 a0_2 = some r) :
  Calls Try.prog 141 #[.agg #[.int .i64 a0_0, .int .i64 a0_1, .int .i64 a0_2]] w fun e w' => e = .returned (.bool r) ∧ Below w.heap.size w w' := by
 have hu99 := Try.underlying99
 have HB := za.mk (Below.refl w.heap.size w)
 have H : (some (a0_2 == 8)) = some r := h
 clear h
 obtain rfl := Option.some.inj H
 go_enter Try.func141, Try.ntmps141
 go_wp2_with (first | ((with_reducible refine zw (N := 1) rfl ?_); refine zca ?hg (N := 1) ?hd (cs := #[.int .i64 a0_0, .int .i64 a0_1, .int .i64 a0_2]) (t := 99) ?hr ?_; (case hd => rfl); (case hg => rfl); (case hr => first | (go_simp; done) | (go_simp; rfl)); intro gb406 hg w2 hbox hb; have n0_ := za.mk (zg (by repeat (first | (with_reducible first | exact HB.out | apply zc | apply zb | apply zd) | exact HB.out)) hb); have n1_ := za.mk (hbox); have n2_ := za.mk ((by rw [hg]; exact (zp (by repeat (first | (with_reducible first | exact HB.out | apply zc | apply zb | apply zd) | exact HB.out))) : w.heap.size ≤ gb406)); have n3_ := za.mk ((by rw [hg]; exact (zp (by repeat (first | (with_reducible first | exact HB.out | apply zc | apply zb | apply zd) | exact HB.out))) : w.heap.size ≤ gb406)); clear HB; have HB := n0_; have BK406 := n1_; have GW406 := n2_; have GE406 := n3_; clear n0_ n1_ n2_ n3_; clear hb hbox hg; have hcz3_0 : w2.cell? ⟨gb406, 0, none⟩ = some (.int .i64 a0_0) := (zf BK406.out 0).trans rfl; have hcz3_1 : w2.cell? ⟨gb406, 1, none⟩ = some (.int .i64 a0_1) := (zf BK406.out 1).trans rfl; have hcz3_2 : w2.cell? ⟨gb406, 2, none⟩ = some (.int .i64 a0_2) := (zf BK406.out 2).trans rfl; have hfz3_0 := zl BK406.out 0; have hfz3_1 := zl BK406.out 1; have hfz3_2 := zl BK406.out 2))
 go_ret
 exact ⟨by first | rfl | (simp [zh, zi] <;> rfl) | (simp [*, zh, zi] <;> rfl), by repeat (first | (with_reducible first | exact HB.out | apply zc | apply zb | apply zd | refine zu ?_ GE406.out) | exact HB.out)⟩
def impl_rules_9.f (a0_0 : Int) (a0_1 : Int) (a0_2 : Int) : Option (Bool) := some (a0_0 == 3)
theorem impl_rules_9.calls (a0_0 : Int) (a0_1 : Int) (a0_2 : Int) (r : Bool) (w : World) (h : impl_rules_9.f a0_0 a0_1 a0_2 = some r) :
  Calls Try.prog 142 #[.agg #[.int .i64 a0_0, .int .i64 a0_1, .int .i64 a0_2]] w fun e w' => e = .returned (.bool r) ∧ Below w.heap.size w w' := by
 have hu99 := Try.underlying99
 have HB := za.mk (Below.refl w.heap.size w)
 have H : (some (a0_0 == 3)) = some r := h
 clear h
 obtain rfl := Option.some.inj H
 go_enter Try.func142, Try.ntmps142
 go_wp2_with (first | ((with_reducible refine zw (N := 1) rfl ?_); refine zca ?hg (N := 1) ?hd (cs := #[.int .i64 a0_0, .int .i64 a0_1, .int .i64 a0_2]) (t := 99) ?hr ?_; (case hd => rfl); (case hg => rfl); (case hr => first | (go_simp; done) | (go_simp; rfl)); intro gb407 hg w2 hbox hb; have n0_ := za.mk (zg (by repeat (first | (with_reducible first | exact HB.out | apply zc | apply zb | apply zd) | exact HB.out)) hb); have n1_ := za.mk (hbox); have n2_ := za.mk ((by rw [hg]; exact (zp (by repeat (first | (with_reducible first | exact HB.out | apply zc | apply zb | apply zd) | exact HB.out))) : w.heap.size ≤ gb407)); have n3_ := za.mk ((by rw [hg]; exact (zp (by repeat (first | (with_reducible first | exact HB.out | apply zc | apply zb | apply zd) | exact HB.out))) : w.heap.size ≤ gb407)); clear HB; have HB := n0_; have BK407 := n1_; have GW407 := n2_; have GE407 := n3_; clear n0_ n1_ n2_ n3_; clear hb hbox hg; have hcz3_0 : w2.cell? ⟨gb407, 0, none⟩ = some (.int .i64 a0_0) := (zf BK407.out 0).trans rfl; have hcz3_1 : w2.cell? ⟨gb407, 1, none⟩ = some (.int .i64 a0_1) := (zf BK407.out 1).trans rfl; have hcz3_2 : w2.cell? ⟨gb407, 2, none⟩ = some (.int .i64 a0_2) := (zf BK407.out 2).trans rfl; have hfz3_0 := zl BK407.out 0; have hfz3_1 := zl BK407.out 1; have hfz3_2 := zl BK407.out 2))
 go_ret
 exact ⟨by first | rfl | (simp [zh, zi] <;> rfl) | (simp [*, zh, zi] <;> rfl), by repeat (first | (with_reducible first | exact HB.out | apply zc | apply zb | apply zd | refine zu ?_ GE407.out) | exact HB.out)⟩
def impl_rules_10.f (k : Nat) (a0_0 : Int) (a0_1 : Int) (a0_2 : Int) : Option (Bool) := if a0_0 = 11 then (some true) else ((impl_oneOf.f k a0_1 (([11, 14, 12] : List Int))).bind fun t412 => (some t412))
theorem impl_rules_10.calls (k : Nat) (a0_0 : Int) (a0_1 : Int) (a0_2 : Int) (r : Bool) (w : World) (h : impl_rules_10.f k a0_0 a0_1 a0_2 = some r) :
  Calls Try.prog 143 #[.agg #[.int .i64 a0_0, .int .i64 a0_1, .int .i64 a0_2]] w fun e w' => e = .returned (.bool r) ∧ Below w.heap.size w w' := by
 have hu99 := Try.underlying99
 have HB := za.mk (Below.refl w.heap.size w)
 have H : (if a0_0 = 11 then (some true) else ((impl_oneOf.f k a0_1 (([11, 14, 12] : List Int))).bind fun t412 => (some t412))) = some r := h
 clear h
 by_cases c2 : a0_0 = 11
 ·rw [if_pos c2] at H
  have c2b0 : (a0_0 == 11) = true := beq_iff_eq.mpr c2
  have c2b1 : (a0_0 != 11) = false := bne_eq_false_iff_eq.mpr c2
  clear c2
  obtain rfl := Option.some.inj H
  go_enter Try.func143, Try.ntmps143
  go_wp2_with (first | ((with_reducible refine zw (N := 1) rfl ?_); (try (refine zla (by rfl) ?_; dsimp only)); refine zca ?hg (N := 1) ?hd (cs := #[.int .i64 a0_0, .int .i64 a0_1, .int .i64 a0_2]) (t := 99) ?hr ?_; (case hd => rfl); (case hg => rfl); (case hr => first | (go_simp; done) | (go_simp; rfl)); intro gb408 hg w3 hbox hb; have n0_ := za.mk (zg (by repeat (first | (with_reducible first | exact HB.out | apply zc | apply zb | apply zd) | exact HB.out)) hb); have n1_ := za.mk (hbox); have n2_ := za.mk ((by rw [hg]; exact (zp (by repeat (first | (with_reducible first | exact HB.out | apply zc | apply zb | apply zd) | exact HB.out))) : w.heap.size ≤ gb408)); have n3_ := za.mk ((by rw [hg]; exact (zp (by repeat (first | (with_reducible first | exact HB.out | apply zc | apply zb | apply zd) | exact HB.out))) : w.heap.size ≤ gb408)); clear HB; have HB := n0_; have BK408 := n1_; have GW408 := n2_; have GE408 := n3_; clear n0_ n1_ n2_ n3_; clear hb hbox hg; have hcz4_0 : w3.cell? ⟨gb408, 0, none⟩ = some (.int .i64 a0_0) := (zf BK408.out 0).trans rfl; have hcz4_1 : w3.cell? ⟨gb408, 1, none⟩ = some (.int .i64 a0_1) := (zf BK408.out 1).trans rfl; have hcz4_2 : w3.cell? ⟨gb408, 2, none⟩ = some (.int .i64 a0_2) := (zf BK408.out 2).trans rfl; have hfz4_0 := zl BK408.out 0; have hfz4_1 := zl BK408.out 1; have hfz4_2 := zl BK408.out 2))
  go_ret
  exact ⟨by first | rfl | (simp [zh, zi] <;> rfl) | (simp [*, zh, zi] <;> rfl), by repeat (first | (with_reducible first | exact HB.out | apply zc | apply zb | apply zd | refine zu ?_ GE408.out) | exact HB.out)⟩
 ·rw [if_neg c2] at H
  have c2b0 : (a0_0 == 11) = false := beq_eq_false_iff_ne.mpr c2
  have c2b1 : (a0_0 != 11) = true := bne_iff_ne.mpr c2
  obtain ⟨y409, hy409⟩ : ∃ y_ : List Int, y_ = (([11, 14, 12] : List Int)) := ⟨_, rfl⟩
  replace H : ((impl_oneOf.f k a0_1 y409).bind fun t412 => (some t412)) = some r := by first | (rw [hy409]; with_reducible exact H) | (have H2_ := (Option.bind_some _ _).symm.trans H; rw [hy409]; with_reducible exact H2_) | (have H2_ := (Option.bind_some _ _).symm.trans H; with_reducible exact H2_) | with_reducible exact H | (rw [hy409]; exact H) | exact H
  have Ny409 := za.mk hy409
  clear hy409
  replace H := Option.bind_eq_some_iff.mp H
  obtain ⟨t412, A50, H⟩ := H
  replace H : (some t412) = some r := H
  have A5 := za.mk A50
  clear A50
  obtain rfl := Option.some.inj H
  go_enter Try.func143, Try.ntmps143
  go_wp2_with (first | ((with_reducible refine zw (N := 1) rfl ?_); (try (refine zla (by rfl) ?_; dsimp only)); refine zca ?hg (N := 1) ?hd (cs := #[.int .i64 a0_0, .int .i64 a0_1, .int .i64 a0_2]) (t := 99) ?hr ?_; (case hd => rfl); (case hg => rfl); (case hr => first | (go_simp; done) | (go_simp; rfl)); intro gb408 hg w6 hbox hb; have n0_ := za.mk (zg (by repeat (first | (with_reducible first | exact HB.out | apply zc | apply zb | apply zd) | exact HB.out)) hb); have n1_ := za.mk (hbox); have n2_ := za.mk ((by rw [hg]; exact (zp (by repeat (first | (with_reducible first | exact HB.out | apply zc | apply zb | apply zd) | exact HB.out))) : w.heap.size ≤ gb408)); have n3_ := za.mk ((by rw [hg]; exact (zp (by repeat (first | (with_reducible first | exact HB.out | apply zc | apply zb | apply zd) | exact HB.out))) : w.heap.size ≤ gb408)); clear HB; have HB := n0_; have BK408 := n1_; have GW408 := n2_; have GE408 := n3_; clear n0_ n1_ n2_ n3_; clear hb hbox hg; have hcz7_0 : w6.cell? ⟨gb408, 0, none⟩ = some (.int .i64 a0_0) := (zf BK408.out 0).trans rfl; have hcz7_1 : w6.cell? ⟨gb408, 1, none⟩ = some (.int .i64 a0_1) := (zf BK408.out 1).trans rfl; have hcz7_2 : w6.cell? ⟨gb408, 2, none⟩ = some (.int .i64 a0_2) := (zf BK408.out 2).trans rfl; have hfz7_0 := zl BK408.out 0; have hfz7_1 := zl BK408.out 1; have hfz7_2 := zl BK408.out 2) | ((with_reducible refine zw (N := 9) rfl ?_); (try (refine zla (by rfl) ?_; dsimp only)); refine Kd.zwa (Kd.int .i64) _ 3 ?hg (N := 9) ?hd (xs := ([11, 14, 12] : List Int)) (inner := [.int .i64 11, .int .i64 14, .int .i64 12]) (ok := fun _ => True) (okp := fun _ => True) ?hr ?hp (fun _ hk => hk) trivial (Below.refl _ _) (Nat.le_refl _) (by simp) ?_; (case hd => rfl); (case hg => rfl); (case hr => first | (go_simp; done) | (go_simp; rfl)); (case hp => exact (Reps.one (show Kd.M (Kd.int .i64) _ _ _ 11 [.int .i64 11] from rfl) (Reps.one (show Kd.M (Kd.int .i64) _ _ _ 14 [.int .i64 14] from rfl) (Reps.one (show Kd.M (Kd.int .i64) _ _ _ 12 [.int .i64 12] from rfl) (Reps.none _ _))))); intro v410 w8 ho9 hb hg_ hnew_; clear hg_ hnew_; (first | rw [← Ny409.out] at ho9 | (simp only [Int.reduceToNat] at ho9; rw [← Ny409.out] at ho9)); have n0_ := za.mk (Kd.zqa ho9 (zp (by repeat (first | (with_reducible first | exact HB.out | apply zc | apply zb | apply zd | refine zu ?_ GE408.out) | exact HB.out)))); have n1_ := za.mk (zsa (g := gb408) (o := .cells #[.int .i64 a0_0, .int .i64 a0_1, .int .i64 a0_2] 99 (0, 0)) (by (with_reducible repeat (first | refine zy ?_ _ | refine zaa ?_ | refine zx ?_ _)); exact BK408.out) hb); have n2_ := za.mk (zg (by repeat (first | (with_reducible first | exact HB.out | apply zc | apply zb | apply zd | refine zu ?_ GE408.out) | exact HB.out)) hb); clear BK408; clear HB; have HO411 := n0_; have BK408 := n1_; have HB := n2_; clear n0_ n1_ n2_; clear hb ho9; obtain ⟨Ao10, co10, eo10⟩ := Kd.zia HO411.out; subst eo10) | (go_at_call 135; (with_reducible refine (impl_oneOf.calls k a0_1 _ _ y409 t412 _ ?side1 ?side2 A5.out).mono ?_); (case side1 => repeat (first | exact (Kd.zt HO411.out).2.2 | (with_reducible refine Kd.zea ?_ _) | (with_reducible refine Kd.zga ?_ _) | (with_reducible refine Kd.zha ?_))); (case side2 => exact (Kd.zt HO411.out).2.1); rintro e w' ⟨rfl, ⟨nd, rfl⟩⟩))
  go_ret
  exact ⟨by first | rfl | (simp [zh, zi] <;> rfl) | (simp [*, zh, zi] <;> rfl), by repeat (first | (with_reducible first | exact HB.out | apply zc | apply zb | apply zd | refine zu ?_ GE408.out) | exact HB.out)⟩
def impl_rules_12.f (a0_0 : Int) (a0_1 : Int) (a0_2 : Int) : Option (Bool) := some true
theorem impl_rules_12.calls (a0_0 : Int) (a0_1 : Int) (a0_2 : Int) (r : Bool) (w : World) (h : impl_rules_12.f a0_0 a0_1 a0_2 = some r) :
  Calls Try.prog 145 #[.agg #[.int .i64 a0_0, .int .i64 a0_1, .int .i64 a0_2]] w fun e w' => e = .returned (.bool r) ∧ Below w.heap.size w w' := by
 have hu99 := Try.underlying99
 have HB := za.mk (Below.refl w.heap.size w)
 have H : (some true) = some r := h
 clear h
 obtain rfl := Option.some.inj H
 go_enter Try.func145, Try.ntmps145
 go_wp2_with (first | ((with_reducible refine zw (N := 1) rfl ?_); refine zca ?hg (N := 1) ?hd (cs := #[.int .i64 a0_0, .int .i64 a0_1, .int .i64 a0_2]) (t := 99) ?hr ?_; (case hd => rfl); (case hg => rfl); (case hr => first | (go_simp; done) | (go_simp; rfl)); intro gb413 hg w2 hbox hb; have n0_ := za.mk (zg (by repeat (first | (with_reducible first | exact HB.out | apply zc | apply zb | apply zd) | exact HB.out)) hb); have n1_ := za.mk (hbox); have n2_ := za.mk ((by rw [hg]; exact (zp (by repeat (first | (with_reducible first | exact HB.out | apply zc | apply zb | apply zd) | exact HB.out))) : w.heap.size ≤ gb413)); have n3_ := za.mk ((by rw [hg]; exact (zp (by repeat (first | (with_reducible first | exact HB.out | apply zc | apply zb | apply zd) | exact HB.out))) : w.heap.size ≤ gb413)); clear HB; have HB := n0_; have BK413 := n1_; have GW413 := n2_; have GE413 := n3_; clear n0_ n1_ n2_ n3_; clear hb hbox hg))
 go_ret
 exact ⟨by first | rfl | (simp [zh, zi] <;> rfl) | (simp [*, zh, zi] <;> rfl), by repeat (first | (with_reducible first | exact HB.out | apply zc | apply zb | apply zd | refine zu ?_ GE413.out) | exact HB.out)⟩
end Go.Proofs.Ytmjhdgofepdgkaa.PFnExactFillCost
