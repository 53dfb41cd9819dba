-- Written by a program of this session (wip/tools) out of the translation; its shape is that of the kit print.
import Derived.Test.YtkapjhlcmicpnaaPFnSpansPlainx0
import Derived.Test.YtkapjhlcmicpnaaPFnSpansPlainx1
import Derived.Test.YtkapjhlcmicpnaaPFnSpansPlainx10
import Derived.Test.YtkapjhlcmicpnaaPFnSpansPlainx11
namespace Go.Proofs.Ytkapjhlcmicpnaa.PFnSpansPlain
open Go.RowKit Go.Proofs.YtkapjhlcmicpnaaW.PrintWords Go.Proofs.YtkapjhlcmicpnaaW.PrintLast Go.Proofs.YtkapjhlcmicpnaaW.PrintMore
attribute [local go_sem] max2_int min2_int max_two min_two max_three min_three max_four min_four   -- for this text's walks alone
set_option linter.unusedVariables false
set_option linter.unusedSimpArgs false

attribute [local go_sem high] eqA50
/-! ### spec_l1Rd_one: function 94 -/
def spec_l1Rd_one.f (k : Nat) (s0_0 : List Int) (s0_1 : Int) (l1 : List Int) : Option (Int × Int) := (spec_l1Rd_pick.f k s0_0 s0_1 (l1.length : Int)).bind fun bt210 => (if 0 ≤ bt210.1 then (if bt210.1 < (l1.length : Int) then (some (rd l1 bt210.1, bt210.2)) else (none)) else (none))
theorem spec_l1Rd_one.mono : ∀ a0 a1 a2 k, LeO (spec_l1Rd_one.f k a0 a1 a2) (spec_l1Rd_one.f (k + 1) a0 a1 a2) := by
 intro a0 a1 a2 k
 unfold spec_l1Rd_one.f
 repeat' first
   | (with_reducible exact spec_l1Rd_pick.mono _ _ _ _)
   | (with_reducible exact LeO.refl _)
   | (with_reducible exact LeO.none _)
   | (with_reducible refine LeO.ite ?_ ?_)
   | (with_reducible refine LeO.bind ?_ (fun _ => ?_))
   | exact spec_l1Rd_pick.mono _ _ _ _
   | exact LeO.none _
   | refine LeO.ite ?_ ?_
   | refine LeO.bind ?_ (fun _ => ?_)
set_option maxHeartbeats 8000000 in
set_option maxRecDepth 100000 in
theorem spec_l1Rd_one.calls (k : Nat) (g : Nat) (s0_0 : List Int) (s0_1 : Int) (A1 : Option Addr) (c1 : Nat) (l1 : List Int) (r1 : Int) (r2 : Int) (w0 w : World) (hI : IsS95 w0 w g s0_0 s0_1) (hB : Below w0.heap.size w0 w) (hr1 : Kd.C (Kd.int .i64) w A1 l1.length l1) (hc1 : l1.length ≤ c1) (hf1 : ∀ ad, A1 = some ad → 0 < l1.length → ad.block ≠ g) (h : spec_l1Rd_one.f k s0_0 s0_1 l1 = some (r1, r2)) :
  Calls Try.prog 94 #[.pointer (some ⟨g, 0, none⟩), .slice A1 l1.length c1] w fun e w' => e = .returned (.int .i64 r1) ∧ IsS95 w0 w' g s0_0 r2 ∧ Below w0.heap.size w0 w' ∧ KeepBut w w' g none := by
 have HR1 := Aside0.mk hr1
 have HC1 := Aside0.mk hc1
 clear hr1 hc1
 have HI0 := Aside0.mk hI
 have HK := Aside0.mk (KeepBut.refl w g none)
 have HL := Aside0.mk hB.size
 clear hI
 have HW0 := Aside0.mk hB.size
 have HB := Aside0.mk hB
 clear hB
 have H : ((spec_l1Rd_pick.f k s0_0 s0_1 (l1.length : Int)).bind fun bt210 => (if 0 ≤ bt210.1 then (if bt210.1 < (l1.length : Int) then (some (rd l1 bt210.1, bt210.2)) else (none)) else (none))) = some (r1, r2) := h
 clear h
 replace H := Option.bind_eq_some_iff.mp H
 obtain ⟨⟨t210, t211⟩, A30, H⟩ := H
 replace H : (if 0 ≤ t210 then (if t210 < (l1.length : Int) then (some (rd l1 t210, t211)) else (none)) else (none)) = some (r1, r2) := H
 have A3 := Aside0.mk A30
 clear A30
 by_cases c4 : 0 ≤ t210
 ·rw [if_pos c4] at H
  have c4b0 : decide (0 ≤ t210) = true := decide_eq_true c4
  clear c4
  by_cases c5 : t210 < (l1.length : Int)
  ·rw [if_pos c5] at H
   have c5b0 : decide (t210 < (l1.length : Int)) = true := decide_eq_true c5
   clear c5
   simp only [Option.some.injEq, Prod.mk.injEq] at H
   obtain ⟨rfl, rfl⟩ := H
   go_enter Try.func94, Try.ntmps94
   go_wp2_with (first | ((with_reducible refine gate_callee (f := 61) rfl ?_); refine goesL_ (some 9) rfl rfl Try.func61 (by kernel_rfl) rfl #[.pointer (some ⟨g, 0, none⟩), .int .i64 (l1.length : Int)] rfl (by (try simp only [List.map_toArray, List.map_cons, List.map_nil]); first | done | rfl | (simp only [List.length_drop, List.length_take]; rfl)) ?_; (with_reducible refine (spec_l1Rd_pick.calls k g s0_0 s0_1 (l1.length : Int) t210 t211 w0 _ ?side1 ?side2 A3.out).mono ?_); (case side1 => repeat (first | (with_reducible first | exact HI0.out | apply IsS95.alloc | apply IsS95.drewN | apply IsS95.drew | apply IsS95.set_1) | exact HI0.out)); (case side2 => repeat (first | (with_reducible first | exact HB.out | apply below_alloc | apply pw_below_drewN | apply below_drew1 | refine below_set ?_ (IsS95.ge HI0.out)) | exact HB.out)); rintro e w6 ⟨rfl, hi, hb, hk⟩; refine ⟨_, rfl, ?_⟩; have n0_ := Aside0.mk (KeepBut.trans (by repeat (first | (with_reducible first | exact HK.out | apply KeepBut.set_ | apply keep_drewN | apply keep_drew | apply keep_alloc) | exact HK.out)) hk (.inl rfl)); have n1_ := Aside0.mk (hb); have n2_ := Aside0.mk (hi); clear HK; clear HB; clear HI0; have HK := n0_; have HB := n1_; have HI0 := n2_; clear n0_ n1_ n2_; (try clear hb); (try clear hb2); (try clear hk); (try clear hi); have p212 : 0 ≤ (t210 : Int) := of_decide_eq_true (by first | (with_reducible assumption) | assumption); have q212 : t210 < (l1.length : Int) := of_decide_eq_true (by first | (with_reducible assumption) | assumption); obtain ⟨ad212, e212, hx212_0⟩ := Kd.at_int HR1.out t210 p212 q212; cases e212; replace hx212_0 := keep_cell HK.out hx212_0 (by first | (rw [add_block]; exact hf1 _ rfl (by omega)) | exact hf1 _ rfl (by omega) | exact hf1 ad212 rfl (by omega)); replace p212 := eq_true p212; replace q212 := eq_true q212))
   go_ret
   exact ⟨by first | rfl | (simp [errW_none, errW_some] <;> rfl) | (simp [*, errW_none, errW_some] <;> rfl), by repeat (first | (with_reducible first | exact HI0.out | apply IsS95.alloc | apply IsS95.drewN | apply IsS95.drew | apply IsS95.set_1) | exact HI0.out), by repeat (first | (with_reducible first | exact HB.out | apply below_alloc | apply pw_below_drewN | apply below_drew1 | refine below_set ?_ (IsS95.ge HI0.out)) | exact HB.out), by repeat (first | (with_reducible first | exact HK.out | apply KeepBut.set_ | apply keep_drewN | apply keep_drew | apply keep_alloc) | exact HK.out)⟩
  ·rw [if_neg c5] at H
   exact absurd H (by simp)
 ·rw [if_neg c4] at H
  exact absurd H (by simp)

/-! ### spec_l13SpoilSpans: function 109 -/
def spec_l13SpoilSpans.l0 : Nat → List (S50) → Int → List Int → Int → Option ((List (S50)) × Int)
 | 0, _, _, _, _ => none
 | k + 1, x7, x8, x1000, x1001 => if (x7.length : Int) ≤ 12 then (if 0 ≤ x8 then (if x8 < (x7.length : Int) then (if x7.length < 4398046511104 then (spec_l13SpoilSpans.l0 k (x7 ++ [(⟨(rd_T50 x7 x8).f0, (rd_T50 x7 x8).f1, (rd_T50 x7 x8).f2, (rd_T50 x7 x8).f3⟩ : S50)]) x8 x1000 x1001) else (none)) else (none)) else (none)) else (some (x7, x1001))
def spec_l13SpoilSpans.f (k : Nat) (s0_0 : List Int) (s0_1 : Int) (l1 : List (S50)) (a2 : Int) : Option ((List (S50)) × Int) := (some (([] : List (S50)) : List (S50))).bind fun y213 => (if y213.length + l1.length < 4398046511104 then ((some (y213 ++ l1 : List (S50))).bind fun y216 => (if (y216.length : Int) = 0 then (some ((([(⟨0, wrap64 (a2 + 1), 10, 0⟩ : S50)] : List (S50))), s0_1)) else ((spec_l1Rd_pick.f k s0_0 s0_1 (y216.length : Int)).bind fun bt222 => ((spec_l1Rd_pick.f k s0_0 bt222.2 6).bind fun bt224 => (if bt224.1 = 0 then ((spec_l1Rd_one.f k s0_0 bt224.2 (([(-1), a2, 0] : List Int))).bind fun bt229 => (if 0 ≤ bt222.1 then (if bt222.1 < (y216.length : Int) then (some ((y216.set (bt222.1 : Int).toNat (⟨bt229.1, (rd_T50 y216 bt222.1).f1, (rd_T50 y216 bt222.1).f2, (rd_T50 y216 bt222.1).f3⟩ : S50)), bt229.2)) else (none)) else (none))) else (if bt224.1 = 1 then (if 0 ≤ bt222.1 then (if bt222.1 < (y216.length : Int) then ((spec_l1Rd_one.f k s0_0 bt224.2 (([wrap64 (a2 + 1), (rd_T50 y216 bt222.1).f0, 0] : List Int))).bind fun bt236 => (some ((y216.set (bt222.1 : Int).toNat (⟨(rd_T50 y216 bt222.1).f0, bt236.1, (rd_T50 y216 bt222.1).f2, (rd_T50 y216 bt222.1).f3⟩ : S50)), bt236.2))) else (none)) else (none)) else (if bt224.1 = 2 then ((spec_l1Rd_one.f k s0_0 bt224.2 (([0, 41] : List Int))).bind fun bt242 => (if 0 ≤ bt222.1 then (if bt222.1 < (y216.length : Int) then (some ((y216.set (bt222.1 : Int).toNat (⟨(rd_T50 y216 bt222.1).f0, (rd_T50 y216 bt222.1).f1, bt242.1, (rd_T50 y216 bt222.1).f3⟩ : S50)), bt242.2)) else (none)) else (none))) else (if bt224.1 = 3 then ((spec_l1Rd_one.f k s0_0 bt224.2 (([(-1), 10] : List Int))).bind fun bt248 => (if 0 ≤ bt222.1 then (if bt222.1 < (y216.length : Int) then (some ((y216.set (bt222.1 : Int).toNat (⟨(rd_T50 y216 bt222.1).f0, (rd_T50 y216 bt222.1).f1, (rd_T50 y216 bt222.1).f2, bt248.1⟩ : S50)), bt248.2)) else (none)) else (none))) else (if bt224.1 = 4 then (if 0 ≤ bt222.1 then (if bt222.1 < (y216.length : Int) then (if y216.length < 4398046511104 then (some ((y216 ++ [(⟨(rd_T50 y216 bt222.1).f0, (rd_T50 y216 bt222.1).f1, (rd_T50 y216 bt222.1).f2, (rd_T50 y216 bt222.1).f3⟩ : S50)]), bt224.2)) else (none)) else (none)) else (none)) else (spec_l13SpoilSpans.l0 k y216 bt222.1 s0_0 bt224.2)))))))))) else (none))
theorem spec_l13SpoilSpans.mono_l : ∀ k, (∀ y0 y1 y2 y3, LeO (spec_l13SpoilSpans.l0 k y0 y1 y2 y3) (spec_l13SpoilSpans.l0 (k + 1) y0 y1 y2 y3))
 | 0 => fun _ _ _ _ r h => by simp [spec_l13SpoilSpans.l0] at h
 | k + 1 => by
  have ih0 := spec_l13SpoilSpans.mono_l k
  ·intro y0 y1 y2 y3
   unfold spec_l13SpoilSpans.l0
   repeat' first
   | (with_reducible exact ih0 _ _ _ _)
   | (with_reducible exact spec_l1Rd_one.mono _ _ _ _)
   | (with_reducible exact spec_l1Rd_pick.mono _ _ _ _)
   | (with_reducible exact LeO.refl _)
   | (with_reducible exact LeO.none _)
   | (with_reducible refine LeO.ite ?_ ?_)
   | (with_reducible refine LeO.bind ?_ (fun _ => ?_))
   | exact ih0 _ _ _ _
   | exact spec_l1Rd_one.mono _ _ _ _
   | exact spec_l1Rd_pick.mono _ _ _ _
   | exact LeO.none _
   | refine LeO.ite ?_ ?_
   | refine LeO.bind ?_ (fun _ => ?_)
theorem spec_l13SpoilSpans.mono : ∀ a0 a1 a2 a3 k, LeO (spec_l13SpoilSpans.f k a0 a1 a2 a3) (spec_l13SpoilSpans.f (k + 1) a0 a1 a2 a3) := by
 intro a0 a1 a2 a3 k
 have ih0 := spec_l13SpoilSpans.mono_l k
 unfold spec_l13SpoilSpans.f
 repeat' first
   | (with_reducible exact ih0 _ _ _ _)
   | (with_reducible exact spec_l1Rd_one.mono _ _ _ _)
   | (with_reducible exact spec_l1Rd_pick.mono _ _ _ _)
   | (with_reducible exact LeO.refl _)
   | (with_reducible exact LeO.none _)
   | (with_reducible refine LeO.ite ?_ ?_)
   | (with_reducible refine LeO.bind ?_ (fun _ => ?_))
   | exact ih0 _ _ _ _
   | exact spec_l1Rd_one.mono _ _ _ _
   | exact spec_l1Rd_pick.mono _ _ _ _
   | exact LeO.none _
   | refine LeO.ite ?_ ?_
   | refine LeO.bind ?_ (fun _ => ?_)
set_option maxHeartbeats 8000000 in
set_option maxRecDepth 100000 in
theorem spec_l13SpoilSpans.calls (k : Nat) (g : Nat) (s0_0 : List Int) (s0_1 : Int) (A1 : Option Addr) (c1 : Nat) (l1 : List (S50)) (a2 : Int) (r1 : List (S50)) (r2 : Int) (w0 w : World) (hI : IsS95 w0 w g s0_0 s0_1) (hB : Below w0.heap.size w0 w) (hr1 : ∀ W_, KeepBut w W_ g none → Kd.C k50 W_ A1 l1.length l1) (hc1 : l1.length ≤ c1) (h : spec_l13SpoilSpans.f k s0_0 s0_1 l1 a2 = some (r1, r2)) :
  Calls Try.prog 109 #[.pointer (some ⟨g, 0, none⟩), .slice A1 l1.length c1, .int .i64 a2] w fun e w' => ∃ v0_ : Value, e = .returned (v0_) ∧ Kd.R k50 50 w' w.heap.size (fun _ => True) v0_ r1 ∧ IsS95 w0 w' g s0_0 r2 ∧ Below w0.heap.size w0 w' ∧ KeepBut w w' g none := by
 have hu50 := Try.underlying50
 have HR1 := Aside0.mk hr1
 have HC1 := Aside0.mk hc1
 clear hr1 hc1
 have HI0 := Aside0.mk hI
 have HK := Aside0.mk (KeepBut.refl w g none)
 have HL := Aside0.mk hB.size
 clear hI
 have HW0 := Aside0.mk hB.size
 have HB := Aside0.mk hB
 clear hB
 have H : ((some (([] : List (S50)) : List (S50))).bind fun y213 => (if y213.length + l1.length < 4398046511104 then ((some (y213 ++ l1 : List (S50))).bind fun y216 => (if (y216.length : Int) = 0 then (some ((([(⟨0, wrap64 (a2 + 1), 10, 0⟩ : S50)] : List (S50))), s0_1)) else ((spec_l1Rd_pick.f k s0_0 s0_1 (y216.length : Int)).bind fun bt222 => ((spec_l1Rd_pick.f k s0_0 bt222.2 6).bind fun bt224 => (if bt224.1 = 0 then ((spec_l1Rd_one.f k s0_0 bt224.2 (([(-1), a2, 0] : List Int))).bind fun bt229 => (if 0 ≤ bt222.1 then (if bt222.1 < (y216.length : Int) then (some ((y216.set (bt222.1 : Int).toNat (⟨bt229.1, (rd_T50 y216 bt222.1).f1, (rd_T50 y216 bt222.1).f2, (rd_T50 y216 bt222.1).f3⟩ : S50)), bt229.2)) else (none)) else (none))) else (if bt224.1 = 1 then (if 0 ≤ bt222.1 then (if bt222.1 < (y216.length : Int) then ((spec_l1Rd_one.f k s0_0 bt224.2 (([wrap64 (a2 + 1), (rd_T50 y216 bt222.1).f0, 0] : List Int))).bind fun bt236 => (some ((y216.set (bt222.1 : Int).toNat (⟨(rd_T50 y216 bt222.1).f0, bt236.1, (rd_T50 y216 bt222.1).f2, (rd_T50 y216 bt222.1).f3⟩ : S50)), bt236.2))) else (none)) else (none)) else (if bt224.1 = 2 then ((spec_l1Rd_one.f k s0_0 bt224.2 (([0, 41] : List Int))).bind fun bt242 => (if 0 ≤ bt222.1 then (if bt222.1 < (y216.length : Int) then (some ((y216.set (bt222.1 : Int).toNat (⟨(rd_T50 y216 bt222.1).f0, (rd_T50 y216 bt222.1).f1, bt242.1, (rd_T50 y216 bt222.1).f3⟩ : S50)), bt242.2)) else (none)) else (none))) else (if bt224.1 = 3 then ((spec_l1Rd_one.f k s0_0 bt224.2 (([(-1), 10] : List Int))).bind fun bt248 => (if 0 ≤ bt222.1 then (if bt222.1 < (y216.length : Int) then (some ((y216.set (bt222.1 : Int).toNat (⟨(rd_T50 y216 bt222.1).f0, (rd_T50 y216 bt222.1).f1, (rd_T50 y216 bt222.1).f2, bt248.1⟩ : S50)), bt248.2)) else (none)) else (none))) else (if bt224.1 = 4 then (if 0 ≤ bt222.1 then (if bt222.1 < (y216.length : Int) then (if y216.length < 4398046511104 then (some ((y216 ++ [(⟨(rd_T50 y216 bt222.1).f0, (rd_T50 y216 bt222.1).f1, (rd_T50 y216 bt222.1).f2, (rd_T50 y216 bt222.1).f3⟩ : S50)]), bt224.2)) else (none)) else (none)) else (none)) else (spec_l13SpoilSpans.l0 k y216 bt222.1 s0_0 bt224.2)))))))))) else (none))) = some (r1, r2) := h
 clear h
 obtain ⟨y213, hy213⟩ : ∃ y_ : List (S50), y_ = (([] : List (S50))) := ⟨_, rfl⟩
 replace H : (if y213.length + l1.length < 4398046511104 then ((some (y213 ++ l1 : List (S50))).bind fun y216 => (if (y216.length : Int) = 0 then (some ((([(⟨0, wrap64 (a2 + 1), 10, 0⟩ : S50)] : List (S50))), s0_1)) else ((spec_l1Rd_pick.f k s0_0 s0_1 (y216.length : Int)).bind fun bt222 => ((spec_l1Rd_pick.f k s0_0 bt222.2 6).bind fun bt224 => (if bt224.1 = 0 then ((spec_l1Rd_one.f k s0_0 bt224.2 (([(-1), a2, 0] : List Int))).bind fun bt229 => (if 0 ≤ bt222.1 then (if bt222.1 < (y216.length : Int) then (some ((y216.set (bt222.1 : Int).toNat (⟨bt229.1, (rd_T50 y216 bt222.1).f1, (rd_T50 y216 bt222.1).f2, (rd_T50 y216 bt222.1).f3⟩ : S50)), bt229.2)) else (none)) else (none))) else (if bt224.1 = 1 then (if 0 ≤ bt222.1 then (if bt222.1 < (y216.length : Int) then ((spec_l1Rd_one.f k s0_0 bt224.2 (([wrap64 (a2 + 1), (rd_T50 y216 bt222.1).f0, 0] : List Int))).bind fun bt236 => (some ((y216.set (bt222.1 : Int).toNat (⟨(rd_T50 y216 bt222.1).f0, bt236.1, (rd_T50 y216 bt222.1).f2, (rd_T50 y216 bt222.1).f3⟩ : S50)), bt236.2))) else (none)) else (none)) else (if bt224.1 = 2 then ((spec_l1Rd_one.f k s0_0 bt224.2 (([0, 41] : List Int))).bind fun bt242 => (if 0 ≤ bt222.1 then (if bt222.1 < (y216.length : Int) then (some ((y216.set (bt222.1 : Int).toNat (⟨(rd_T50 y216 bt222.1).f0, (rd_T50 y216 bt222.1).f1, bt242.1, (rd_T50 y216 bt222.1).f3⟩ : S50)), bt242.2)) else (none)) else (none))) else (if bt224.1 = 3 then ((spec_l1Rd_one.f k s0_0 bt224.2 (([(-1), 10] : List Int))).bind fun bt248 => (if 0 ≤ bt222.1 then (if bt222.1 < (y216.length : Int) then (some ((y216.set (bt222.1 : Int).toNat (⟨(rd_T50 y216 bt222.1).f0, (rd_T50 y216 bt222.1).f1, (rd_T50 y216 bt222.1).f2, bt248.1⟩ : S50)), bt248.2)) else (none)) else (none))) else (if bt224.1 = 4 then (if 0 ≤ bt222.1 then (if bt222.1 < (y216.length : Int) then (if y216.length < 4398046511104 then (some ((y216 ++ [(⟨(rd_T50 y216 bt222.1).f0, (rd_T50 y216 bt222.1).f1, (rd_T50 y216 bt222.1).f2, (rd_T50 y216 bt222.1).f3⟩ : S50)]), bt224.2)) else (none)) else (none)) else (none)) else (spec_l13SpoilSpans.l0 k y216 bt222.1 s0_0 bt224.2)))))))))) else (none)) = some (r1, r2) := by first | (rw [hy213]; with_reducible exact H) | (have H2_ := (Option.bind_some _ _).symm.trans H; rw [hy213]; with_reducible exact H2_) | (have H2_ := (Option.bind_some _ _).symm.trans H; with_reducible exact H2_) | with_reducible exact H | (rw [hy213]; exact H) | exact H
 have Ny213 := Aside0.mk hy213
 clear hy213
 by_cases c4 : y213.length + l1.length < 4398046511104
 ·rw [if_pos c4] at H
  have LMc4 := Aside0.mk c4
  clear c4
  obtain ⟨y216, hy216⟩ : ∃ y_ : List (S50), y_ = (y213 ++ l1) := ⟨_, rfl⟩
  replace H : (if (y216.length : Int) = 0 then (some ((([(⟨0, wrap64 (a2 + 1), 10, 0⟩ : S50)] : List (S50))), s0_1)) else ((spec_l1Rd_pick.f k s0_0 s0_1 (y216.length : Int)).bind fun bt222 => ((spec_l1Rd_pick.f k s0_0 bt222.2 6).bind fun bt224 => (if bt224.1 = 0 then ((spec_l1Rd_one.f k s0_0 bt224.2 (([(-1), a2, 0] : List Int))).bind fun bt229 => (if 0 ≤ bt222.1 then (if bt222.1 < (y216.length : Int) then (some ((y216.set (bt222.1 : Int).toNat (⟨bt229.1, (rd_T50 y216 bt222.1).f1, (rd_T50 y216 bt222.1).f2, (rd_T50 y216 bt222.1).f3⟩ : S50)), bt229.2)) else (none)) else (none))) else (if bt224.1 = 1 then (if 0 ≤ bt222.1 then (if bt222.1 < (y216.length : Int) then ((spec_l1Rd_one.f k s0_0 bt224.2 (([wrap64 (a2 + 1), (rd_T50 y216 bt222.1).f0, 0] : List Int))).bind fun bt236 => (some ((y216.set (bt222.1 : Int).toNat (⟨(rd_T50 y216 bt222.1).f0, bt236.1, (rd_T50 y216 bt222.1).f2, (rd_T50 y216 bt222.1).f3⟩ : S50)), bt236.2))) else (none)) else (none)) else (if bt224.1 = 2 then ((spec_l1Rd_one.f k s0_0 bt224.2 (([0, 41] : List Int))).bind fun bt242 => (if 0 ≤ bt222.1 then (if bt222.1 < (y216.length : Int) then (some ((y216.set (bt222.1 : Int).toNat (⟨(rd_T50 y216 bt222.1).f0, (rd_T50 y216 bt222.1).f1, bt242.1, (rd_T50 y216 bt222.1).f3⟩ : S50)), bt242.2)) else (none)) else (none))) else (if bt224.1 = 3 then ((spec_l1Rd_one.f k s0_0 bt224.2 (([(-1), 10] : List Int))).bind fun bt248 => (if 0 ≤ bt222.1 then (if bt222.1 < (y216.length : Int) then (some ((y216.set (bt222.1 : Int).toNat (⟨(rd_T50 y216 bt222.1).f0, (rd_T50 y216 bt222.1).f1, (rd_T50 y216 bt222.1).f2, bt248.1⟩ : S50)), bt248.2)) else (none)) else (none))) else (if bt224.1 = 4 then (if 0 ≤ bt222.1 then (if bt222.1 < (y216.length : Int) then (if y216.length < 4398046511104 then (some ((y216 ++ [(⟨(rd_T50 y216 bt222.1).f0, (rd_T50 y216 bt222.1).f1, (rd_T50 y216 bt222.1).f2, (rd_T50 y216 bt222.1).f3⟩ : S50)]), bt224.2)) else (none)) else (none)) else (none)) else (spec_l13SpoilSpans.l0 k y216 bt222.1 s0_0 bt224.2))))))))) = some (r1, r2) := by first | (rw [hy216]; with_reducible exact H) | (have H2_ := (Option.bind_some _ _).symm.trans H; rw [hy216]; with_reducible exact H2_) | (have H2_ := (Option.bind_some _ _).symm.trans H; with_reducible exact H2_) | with_reducible exact H | (rw [hy216]; exact H) | exact H
  have Ny216 := Aside0.mk hy216
  clear hy216
  by_cases c5 : (y216.length : Int) = 0
  ·rw [if_pos c5] at H
   have c5b0 : ((y216.length : Int) == 0) = true := beq_iff_eq.mpr c5
   have c5b1 : ((y216.length : Int) != 0) = false := bne_eq_false_iff_eq.mpr c5
   clear c5
   obtain ⟨y219, hy219⟩ : ∃ y_ : List (S50), y_ = (([(⟨0, wrap64 (a2 + 1), 10, 0⟩ : S50)] : List (S50))) := ⟨_, rfl⟩
   replace H : (some (y219, s0_1)) = some (r1, r2) := by first | (rw [hy219]; with_reducible exact H) | (have H2_ := (Option.bind_some _ _).symm.trans H; rw [hy219]; with_reducible exact H2_) | (have H2_ := (Option.bind_some _ _).symm.trans H; with_reducible exact H2_) | with_reducible exact H | (rw [hy219]; exact H) | exact H
   have Ny219 := Aside0.mk hy219
   clear hy219
   simp only [Option.some.injEq, Prod.mk.injEq] at H
   obtain ⟨rfl, rfl⟩ := H
   go_enter Try.func109, Try.ntmps109
   go_wp2_with (first | ((with_reducible refine gate_dst (N := 9) rfl ?_); refine Kd.R_lit k50 _ 50 ?hg (N := 9) ?hd (xs := ([] : List (S50))) (inner := []) (ok := fun _ => True) (okp := fun _ => True) ?hr ?hp (fun _ hk => hk) trivial (Below.refl _ _) (Nat.le_refl _) (by simp) ?_; (case hd => rfl); (case hg => rfl); (case hr => first | (go_simp; done) | (go_simp; rfl)); (case hp => exact (Reps.none _ _)); intro v214 w6 ho7 hb hg_ hnew_; clear hg_ hnew_; (first | rw [← Ny213.out] at ho7 | (simp only [Int.reduceToNat] at ho7; rw [← Ny213.out] at ho7)); have n0_ := Aside0.mk (Kd.R_lower ho7 (keep_size (w := w) (g := g) (row := none) (by repeat (first | (with_reducible first | exact HK.out | apply KeepBut.set_ | apply keep_drewN | apply keep_drew | apply keep_alloc) | exact HK.out)))); have n1_ := Aside0.mk (IsS95.below (by repeat (first | (with_reducible first | exact HI0.out | apply IsS95.alloc | apply IsS95.drewN | apply IsS95.drew | apply IsS95.set_1) | exact HI0.out)) hb); have n2_ := Aside0.mk (KeepBut.trans (by repeat (first | (with_reducible first | exact HK.out | apply KeepBut.set_ | apply keep_drewN | apply keep_drew | apply keep_alloc) | exact HK.out)) (KeepBut.of_below hb g none) (.inl rfl)); have n3_ := Aside0.mk (below_step (by repeat (first | (with_reducible first | exact HB.out | apply below_alloc | apply pw_below_drewN | apply below_drew1 | refine below_set ?_ (IsS95.ge HI0.out)) | exact HB.out)) hb); clear HI0; clear HK; clear HB; have HO215 := n0_; have HI0 := n1_; have HK := n2_; have HB := n3_; clear n0_ n1_ n2_ n3_; clear hb ho7) | ((with_reducible refine gate_builtin (b := .append) (xs := #[.tmp 9, .tmp 10]) rfl ?_); at_builtin; refine Kd.R_append_rows k50 w.heap.size rfl (.tmp 9) (.tmp 10) 38 50 (.agg #[(.int .i64 0), (.int .i64 0), (.int .i64 0), (.int .i64 0)]) 32 rfl Try.underlying38 info50 rfl (by decide) (by omega) v214 y213 l1 _ _ _ (fun _ => True) (fun _ => False) rfl rfl ?aO ?aR (fun _ _ h => h) (fun _ h => h.elim) ?aF (Below.refl _ _) ?aS ?aL ?_; (case aR => exact Kd.C_foot_now HR1.out (by repeat (first | (with_reducible first | exact HK.out | apply KeepBut.set_ | apply keep_drewN | apply keep_drew | apply keep_alloc) | exact HK.out))); (case aF => exact (fun _ _ => trivial)); (case aO => exact (by (with_reducible repeat (first | apply Kd.R_alloc | apply Kd.R_drewN | apply Kd.R_drew)); exact HO215.out)); (case aS => exact (keep_size (w := w) (g := g) (row := none) (by repeat (first | (with_reducible first | exact HK.out | apply KeepBut.set_ | apply keep_drewN | apply keep_drew | apply keep_alloc) | exact HK.out)))); (case aL => have := LMc4.out; omega); intro v217 w8 ho hb hg hat; rw [← Ny216.out] at ho; have n0_ := Aside0.mk (IsS95.grown (by repeat (first | (with_reducible first | exact HI0.out | apply IsS95.alloc | apply IsS95.drewN | apply IsS95.drew | apply IsS95.set_1) | exact HI0.out)) hg (IsS95.own_ne HI0.out HO215.out (by decide))); have n1_ := Aside0.mk (below_weaken (by repeat (first | (with_reducible first | exact HB.out | apply below_alloc | apply pw_below_drewN | apply below_drew1 | refine below_set ?_ (IsS95.ge HI0.out)) | exact HB.out)) HL.out hb); have n2_ := Aside0.mk (KeepBut.trans (by repeat (first | (with_reducible first | exact HK.out | apply KeepBut.set_ | apply keep_drewN | apply keep_drew | apply keep_alloc) | exact HK.out)) (KeepBut.of_grown hg g) (Kd.R_base2 HO215.out)); have n3_ := Aside0.mk (ho); clear HI0; clear HB; clear HK; clear HO215; have HI0 := n0_; have HB := n1_; have HK := n2_; have HO218 := n3_; clear n0_ n1_ n2_ n3_; clear ho hb hg hat; obtain ⟨Ao9, co9, eo9⟩ := Kd.R_slice HO218.out; subst eo9) | ((with_reducible refine gate_dst (N := 18) rfl ?_); refine Kd.R_lit k50 _ 50 ?hg (N := 18) ?hd (xs := ([(⟨0, wrap64 (a2 + 1), 10, 0⟩ : S50)] : List (S50))) (inner := [.int .i64 0, .int .i64 (wrap64 (a2 + 1)), .int .i64 10, .int .i64 0]) (ok := fun _ => True) (okp := fun _ => True) ?hr ?hp (fun _ hk => hk) trivial (Below.refl _ _) (Nat.le_refl _) (by simp) ?_; (case hd => rfl); (case hg => rfl); (case hr => first | (go_simp; done) | (go_simp; rfl)); (case hp => exact (Reps.c4 (show Kd.M k50 _ _ _ (⟨0, wrap64 (a2 + 1), 10, 0⟩ : S50) [.int .i64 0, .int .i64 (wrap64 (a2 + 1)), .int .i64 10, .int .i64 0] from (k50_mkM _ _ _ (⟨0, wrap64 (a2 + 1), 10, 0⟩ : S50) )) (Reps.none _ _))); intro v220 w10 ho11 hb hg_ hnew_; clear hg_ hnew_; (first | rw [← Ny219.out] at ho11 | (simp only [Int.reduceToNat] at ho11; rw [← Ny219.out] at ho11)); have n0_ := Aside0.mk (Kd.R_elder' (by (with_reducible repeat (first | apply Kd.R_alloc | apply Kd.R_drewN | apply Kd.R_drew)); exact HO218.out) (Kd.R_base ho11) hb); have n1_ := Aside0.mk (Kd.R_lower (Kd.R_new' ho11 (Kd.R_lt (by (with_reducible repeat (first | apply Kd.R_alloc | apply Kd.R_drewN | apply Kd.R_drew)); exact HO218.out))) (keep_size (w := w) (g := g) (row := none) (by repeat (first | (with_reducible first | exact HK.out | apply KeepBut.set_ | apply keep_drewN | apply keep_drew | apply keep_alloc) | exact HK.out)))); have n2_ := Aside0.mk (IsS95.below (by repeat (first | (with_reducible first | exact HI0.out | apply IsS95.alloc | apply IsS95.drewN | apply IsS95.drew | apply IsS95.set_1) | exact HI0.out)) hb); have n3_ := Aside0.mk (KeepBut.trans (by repeat (first | (with_reducible first | exact HK.out | apply KeepBut.set_ | apply keep_drewN | apply keep_drew | apply keep_alloc) | exact HK.out)) (KeepBut.of_below hb g none) (.inl rfl)); have n4_ := Aside0.mk (below_step (by repeat (first | (with_reducible first | exact HB.out | apply below_alloc | apply pw_below_drewN | apply below_drew1 | refine below_set ?_ (IsS95.ge HI0.out)) | exact HB.out)) hb); clear HO218; clear HI0; clear HK; clear HB; have HO218 := n0_; have HO221 := n1_; have HI0 := n2_; have HK := n3_; have HB := n4_; clear n0_ n1_ n2_ n3_ n4_; clear hb ho11))
   go_ret
   exact ⟨_, by first | rfl | (simp [errW_none, errW_some] <;> rfl) | (simp [*, errW_none, errW_some] <;> rfl), by (with_reducible repeat (first | apply Kd.R_alloc | apply Kd.R_drewN | apply Kd.R_drew)); exact Kd.R_mono HO221.out (fun _ hk => trivial), by repeat (first | (with_reducible first | exact HI0.out | apply IsS95.alloc | apply IsS95.drewN | apply IsS95.drew | apply IsS95.set_1) | exact HI0.out), by repeat (first | (with_reducible first | exact HB.out | apply below_alloc | apply pw_below_drewN | apply below_drew1 | refine below_set ?_ (IsS95.ge HI0.out)) | exact HB.out), by repeat (first | (with_reducible first | exact HK.out | apply KeepBut.set_ | apply keep_drewN | apply keep_drew | apply keep_alloc) | exact HK.out)⟩
  ·rw [if_neg c5] at H
   have c5b0 : ((y216.length : Int) == 0) = false := beq_eq_false_iff_ne.mpr c5
   have c5b1 : ((y216.length : Int) != 0) = true := bne_iff_ne.mpr c5
   have c5b2 : ¬ (y216 = []) := fun h_ => c5 (by rw [h_]; rfl)
   replace H := Option.bind_eq_some_iff.mp H
   obtain ⟨⟨t222, t223⟩, A120, H⟩ := H
   replace H : ((spec_l1Rd_pick.f k s0_0 t223 6).bind fun bt224 => (if bt224.1 = 0 then ((spec_l1Rd_one.f k s0_0 bt224.2 (([(-1), a2, 0] : List Int))).bind fun bt229 => (if 0 ≤ t222 then (if t222 < (y216.length : Int) then (some ((y216.set (t222 : Int).toNat (⟨bt229.1, (rd_T50 y216 t222).f1, (rd_T50 y216 t222).f2, (rd_T50 y216 t222).f3⟩ : S50)), bt229.2)) else (none)) else (none))) else (if bt224.1 = 1 then (if 0 ≤ t222 then (if t222 < (y216.length : Int) then ((spec_l1Rd_one.f k s0_0 bt224.2 (([wrap64 (a2 + 1), (rd_T50 y216 t222).f0, 0] : List Int))).bind fun bt236 => (some ((y216.set (t222 : Int).toNat (⟨(rd_T50 y216 t222).f0, bt236.1, (rd_T50 y216 t222).f2, (rd_T50 y216 t222).f3⟩ : S50)), bt236.2))) else (none)) else (none)) else (if bt224.1 = 2 then ((spec_l1Rd_one.f k s0_0 bt224.2 (([0, 41] : List Int))).bind fun bt242 => (if 0 ≤ t222 then (if t222 < (y216.length : Int) then (some ((y216.set (t222 : Int).toNat (⟨(rd_T50 y216 t222).f0, (rd_T50 y216 t222).f1, bt242.1, (rd_T50 y216 t222).f3⟩ : S50)), bt242.2)) else (none)) else (none))) else (if bt224.1 = 3 then ((spec_l1Rd_one.f k s0_0 bt224.2 (([(-1), 10] : List Int))).bind fun bt248 => (if 0 ≤ t222 then (if t222 < (y216.length : Int) then (some ((y216.set (t222 : Int).toNat (⟨(rd_T50 y216 t222).f0, (rd_T50 y216 t222).f1, (rd_T50 y216 t222).f2, bt248.1⟩ : S50)), bt248.2)) else (none)) else (none))) else (if bt224.1 = 4 then (if 0 ≤ t222 then (if t222 < (y216.length : Int) then (if y216.length < 4398046511104 then (some ((y216 ++ [(⟨(rd_T50 y216 t222).f0, (rd_T50 y216 t222).f1, (rd_T50 y216 t222).f2, (rd_T50 y216 t222).f3⟩ : S50)]), bt224.2)) else (none)) else (none)) else (none)) else (spec_l13SpoilSpans.l0 k y216 t222 s0_0 bt224.2))))))) = some (r1, r2) := H
   have A12 := Aside0.mk A120
   clear A120
   replace H := Option.bind_eq_some_iff.mp H
   obtain ⟨⟨t224, t225⟩, A130, H⟩ := H
   replace H : (if t224 = 0 then ((spec_l1Rd_one.f k s0_0 t225 (([(-1), a2, 0] : List Int))).bind fun bt229 => (if 0 ≤ t222 then (if t222 < (y216.length : Int) then (some ((y216.set (t222 : Int).toNat (⟨bt229.1, (rd_T50 y216 t222).f1, (rd_T50 y216 t222).f2, (rd_T50 y216 t222).f3⟩ : S50)), bt229.2)) else (none)) else (none))) else (if t224 = 1 then (if 0 ≤ t222 then (if t222 < (y216.length : Int) then ((spec_l1Rd_one.f k s0_0 t225 (([wrap64 (a2 + 1), (rd_T50 y216 t222).f0, 0] : List Int))).bind fun bt236 => (some ((y216.set (t222 : Int).toNat (⟨(rd_T50 y216 t222).f0, bt236.1, (rd_T50 y216 t222).f2, (rd_T50 y216 t222).f3⟩ : S50)), bt236.2))) else (none)) else (none)) else (if t224 = 2 then ((spec_l1Rd_one.f k s0_0 t225 (([0, 41] : List Int))).bind fun bt242 => (if 0 ≤ t222 then (if t222 < (y216.length : Int) then (some ((y216.set (t222 : Int).toNat (⟨(rd_T50 y216 t222).f0, (rd_T50 y216 t222).f1, bt242.1, (rd_T50 y216 t222).f3⟩ : S50)), bt242.2)) else (none)) else (none))) else (if t224 = 3 then ((spec_l1Rd_one.f k s0_0 t225 (([(-1), 10] : List Int))).bind fun bt248 => (if 0 ≤ t222 then (if t222 < (y216.length : Int) then (some ((y216.set (t222 : Int).toNat (⟨(rd_T50 y216 t222).f0, (rd_T50 y216 t222).f1, (rd_T50 y216 t222).f2, bt248.1⟩ : S50)), bt248.2)) else (none)) else (none))) else (if t224 = 4 then (if 0 ≤ t222 then (if t222 < (y216.length : Int) then (if y216.length < 4398046511104 then (some ((y216 ++ [(⟨(rd_T50 y216 t222).f0, (rd_T50 y216 t222).f1, (rd_T50 y216 t222).f2, (rd_T50 y216 t222).f3⟩ : S50)]), t225)) else (none)) else (none)) else (none)) else (spec_l13SpoilSpans.l0 k y216 t222 s0_0 t225)))))) = some (r1, r2) := H
   have A13 := Aside0.mk A130
   clear A130
   by_cases c14 : t224 = 0
   ·rw [if_pos c14] at H
    have c14b0 : (t224 == 0) = true := beq_iff_eq.mpr c14
    have c14b1 : (t224 != 0) = false := bne_eq_false_iff_eq.mpr c14
    clear c14
    obtain ⟨y226, hy226⟩ : ∃ y_ : List Int, y_ = (([(-1), a2, 0] : List Int)) := ⟨_, rfl⟩
    replace H : ((spec_l1Rd_one.f k s0_0 t225 y226).bind fun bt229 => (if 0 ≤ t222 then (if t222 < (y216.length : Int) then (some ((y216.set (t222 : Int).toNat (⟨bt229.1, (rd_T50 y216 t222).f1, (rd_T50 y216 t222).f2, (rd_T50 y216 t222).f3⟩ : S50)), bt229.2)) else (none)) else (none))) = some (r1, r2) := by first | (rw [hy226]; with_reducible exact H) | (have H2_ := (Option.bind_some _ _).symm.trans H; rw [hy226]; with_reducible exact H2_) | (have H2_ := (Option.bind_some _ _).symm.trans H; with_reducible exact H2_) | with_reducible exact H | (rw [hy226]; exact H) | exact H
    have Ny226 := Aside0.mk hy226
    clear hy226
    replace H := Option.bind_eq_some_iff.mp H
    obtain ⟨⟨t229, t230⟩, A150, H⟩ := H
    replace H : (if 0 ≤ t222 then (if t222 < (y216.length : Int) then (some ((y216.set (t222 : Int).toNat (⟨t229, (rd_T50 y216 t222).f1, (rd_T50 y216 t222).f2, (rd_T50 y216 t222).f3⟩ : S50)), t230)) else (none)) else (none)) = some (r1, r2) := H
    have A15 := Aside0.mk A150
    clear A150
    by_cases c16 : 0 ≤ t222
    ·rw [if_pos c16] at H
     have c16b0 : decide (0 ≤ t222) = true := decide_eq_true c16
     clear c16
     by_cases c17 : t222 < (y216.length : Int)
     ·rw [if_pos c17] at H
      have c17b0 : decide (t222 < (y216.length : Int)) = true := decide_eq_true c17
      clear c17
      obtain ⟨y231, hy231⟩ : ∃ y_ : List (S50), y_ = (y216.set (t222 : Int).toNat (⟨t229, (rd_T50 y216 t222).f1, (rd_T50 y216 t222).f2, (rd_T50 y216 t222).f3⟩ : S50)) := ⟨_, rfl⟩
      replace H : (some (y231, t230)) = some (r1, r2) := by first | (rw [hy231]; with_reducible exact H) | (have H2_ := (Option.bind_some _ _).symm.trans H; rw [hy231]; with_reducible exact H2_) | (have H2_ := (Option.bind_some _ _).symm.trans H; with_reducible exact H2_) | with_reducible exact H | (rw [hy231]; exact H) | exact H
      have Ny231 := Aside0.mk hy231
      clear hy231
      simp only [Option.some.injEq, Prod.mk.injEq] at H
      obtain ⟨rfl, rfl⟩ := H
      go_enter Try.func109, Try.ntmps109
      go_wp2_with (first | ((with_reducible refine gate_dst (N := 9) rfl ?_); refine Kd.R_lit k50 _ 50 ?hg (N := 9) ?hd (xs := ([] : List (S50))) (inner := []) (ok := fun _ => True) (okp := fun _ => True) ?hr ?hp (fun _ hk => hk) trivial (Below.refl _ _) (Nat.le_refl _) (by simp) ?_; (case hd => rfl); (case hg => rfl); (case hr => first | (go_simp; done) | (go_simp; rfl)); (case hp => exact (Reps.none _ _)); intro v214 w19 ho20 hb hg_ hnew_; clear hg_ hnew_; (first | rw [← Ny213.out] at ho20 | (simp only [Int.reduceToNat] at ho20; rw [← Ny213.out] at ho20)); have n0_ := Aside0.mk (Kd.R_lower ho20 (keep_size (w := w) (g := g) (row := none) (by repeat (first | (with_reducible first | exact HK.out | apply KeepBut.set_ | apply keep_drewN | apply keep_drew | apply keep_alloc) | exact HK.out)))); have n1_ := Aside0.mk (IsS95.below (by repeat (first | (with_reducible first | exact HI0.out | apply IsS95.alloc | apply IsS95.drewN | apply IsS95.drew | apply IsS95.set_1) | exact HI0.out)) hb); have n2_ := Aside0.mk (KeepBut.trans (by repeat (first | (with_reducible first | exact HK.out | apply KeepBut.set_ | apply keep_drewN | apply keep_drew | apply keep_alloc) | exact HK.out)) (KeepBut.of_below hb g none) (.inl rfl)); have n3_ := Aside0.mk (below_step (by repeat (first | (with_reducible first | exact HB.out | apply below_alloc | apply pw_below_drewN | apply below_drew1 | refine below_set ?_ (IsS95.ge HI0.out)) | exact HB.out)) hb); clear HI0; clear HK; clear HB; have HO215 := n0_; have HI0 := n1_; have HK := n2_; have HB := n3_; clear n0_ n1_ n2_ n3_; clear hb ho20) | ((with_reducible refine gate_builtin (b := .append) (xs := #[.tmp 9, .tmp 10]) rfl ?_); at_builtin; refine Kd.R_append_rows k50 w.heap.size rfl (.tmp 9) (.tmp 10) 38 50 (.agg #[(.int .i64 0), (.int .i64 0), (.int .i64 0), (.int .i64 0)]) 32 rfl Try.underlying38 info50 rfl (by decide) (by omega) v214 y213 l1 _ _ _ (fun _ => True) (fun _ => False) rfl rfl ?aO ?aR (fun _ _ h => h) (fun _ h => h.elim) ?aF (Below.refl _ _) ?aS ?aL ?_; (case aR => exact Kd.C_foot_now HR1.out (by repeat (first | (with_reducible first | exact HK.out | apply KeepBut.set_ | apply keep_drewN | apply keep_drew | apply keep_alloc) | exact HK.out))); (case aF => exact (fun _ _ => trivial)); (case aO => exact (by (with_reducible repeat (first | apply Kd.R_alloc | apply Kd.R_drewN | apply Kd.R_drew)); exact HO215.out)); (case aS => exact (keep_size (w := w) (g := g) (row := none) (by repeat (first | (with_reducible first | exact HK.out | apply KeepBut.set_ | apply keep_drewN | apply keep_drew | apply keep_alloc) | exact HK.out)))); (case aL => have := LMc4.out; omega); intro v217 w21 ho hb hg hat; rw [← Ny216.out] at ho; have n0_ := Aside0.mk (IsS95.grown (by repeat (first | (with_reducible first | exact HI0.out | apply IsS95.alloc | apply IsS95.drewN | apply IsS95.drew | apply IsS95.set_1) | exact HI0.out)) hg (IsS95.own_ne HI0.out HO215.out (by decide))); have n1_ := Aside0.mk (below_weaken (by repeat (first | (with_reducible first | exact HB.out | apply below_alloc | apply pw_below_drewN | apply below_drew1 | refine below_set ?_ (IsS95.ge HI0.out)) | exact HB.out)) HL.out hb); have n2_ := Aside0.mk (KeepBut.trans (by repeat (first | (with_reducible first | exact HK.out | apply KeepBut.set_ | apply keep_drewN | apply keep_drew | apply keep_alloc) | exact HK.out)) (KeepBut.of_grown hg g) (Kd.R_base2 HO215.out)); have n3_ := Aside0.mk (ho); clear HI0; clear HB; clear HK; clear HO215; have HI0 := n0_; have HB := n1_; have HK := n2_; have HO218 := n3_; clear n0_ n1_ n2_ n3_; clear ho hb hg hat; obtain ⟨Ao22, co22, eo22⟩ := Kd.R_slice HO218.out; subst eo22) | ((with_reducible refine gate_callee (f := 61) rfl ?_); refine goesL_ (some 22) rfl rfl Try.func61 (by kernel_rfl) rfl #[.pointer (some ⟨g, 0, none⟩), .int .i64 (y216.length : Int)] rfl (by (try simp only [List.map_toArray, List.map_cons, List.map_nil]); first | done | rfl | (simp only [List.length_drop, List.length_take]; rfl)) ?_; (with_reducible refine (spec_l1Rd_pick.calls k g s0_0 s0_1 (y216.length : Int) t222 t223 w0 _ ?side1 ?side2 A12.out).mono ?_); (case side1 => repeat (first | (with_reducible first | exact HI0.out | apply IsS95.alloc | apply IsS95.drewN | apply IsS95.drew | apply IsS95.set_1) | exact HI0.out)); (case side2 => repeat (first | (with_reducible first | exact HB.out | apply below_alloc | apply pw_below_drewN | apply below_drew1 | refine below_set ?_ (IsS95.ge HI0.out)) | exact HB.out)); rintro e w23 ⟨rfl, hi, hb, hk⟩; refine ⟨_, rfl, ?_⟩; have n0_ := Aside0.mk (Kd.R_mono (Kd.R_keep (IsS95.apart (show IsS95 w0 _ g s0_0 s0_1 from by repeat (first | (with_reducible first | exact HI0.out | apply IsS95.alloc | apply IsS95.drewN | apply IsS95.drew | apply IsS95.set_1) | exact HI0.out)) (by (with_reducible repeat (first | apply Kd.R_alloc | apply Kd.R_drewN | apply Kd.R_drew)); exact HO218.out) (by decide)) hk (fun _ h => h.2)) (fun _ h => h.1)); have n1_ := Aside0.mk (KeepBut.trans (by repeat (first | (with_reducible first | exact HK.out | apply KeepBut.set_ | apply keep_drewN | apply keep_drew | apply keep_alloc) | exact HK.out)) hk (.inl rfl)); have n2_ := Aside0.mk (hb); have n3_ := Aside0.mk (hi); clear HO218; clear HK; clear HB; clear HI0; have HO218 := n0_; have HK := n1_; have HB := n2_; have HI0 := n3_; clear n0_ n1_ n2_ n3_; (try clear hb); (try clear hb2); (try clear hk); (try clear hi)) | ((with_reducible refine gate_callee (f := 61) rfl ?_); refine goesL_ (some 24) rfl rfl Try.func61 (by kernel_rfl) rfl #[.pointer (some ⟨g, 0, none⟩), .int .i64 6] rfl (by (try simp only [List.map_toArray, List.map_cons, List.map_nil]); first | done | rfl | (simp only [List.length_drop, List.length_take]; rfl)) ?_; (with_reducible refine (spec_l1Rd_pick.calls k g s0_0 t223 6 t224 t225 w0 _ ?side1 ?side2 A13.out).mono ?_); (case side1 => repeat (first | (with_reducible first | exact HI0.out | apply IsS95.alloc | apply IsS95.drewN | apply IsS95.drew | apply IsS95.set_1) | exact HI0.out)); (case side2 => repeat (first | (with_reducible first | exact HB.out | apply below_alloc | apply pw_below_drewN | apply below_drew1 | refine below_set ?_ (IsS95.ge HI0.out)) | exact HB.out)); rintro e w24 ⟨rfl, hi, hb, hk⟩; refine ⟨_, rfl, ?_⟩; have n0_ := Aside0.mk (Kd.R_mono (Kd.R_keep (IsS95.apart (show IsS95 w0 _ g s0_0 t223 from by repeat (first | (with_reducible first | exact HI0.out | apply IsS95.alloc | apply IsS95.drewN | apply IsS95.drew | apply IsS95.set_1) | exact HI0.out)) (by (with_reducible repeat (first | apply Kd.R_alloc | apply Kd.R_drewN | apply Kd.R_drew)); exact HO218.out) (by decide)) hk (fun _ h => h.2)) (fun _ h => h.1)); have n1_ := Aside0.mk (KeepBut.trans (by repeat (first | (with_reducible first | exact HK.out | apply KeepBut.set_ | apply keep_drewN | apply keep_drew | apply keep_alloc) | exact HK.out)) hk (.inl rfl)); have n2_ := Aside0.mk (hb); have n3_ := Aside0.mk (hi); clear HO218; clear HK; clear HB; clear HI0; have HO218 := n0_; have HK := n1_; have HB := n2_; have HI0 := n3_; clear n0_ n1_ n2_ n3_; (try clear hb); (try clear hb2); (try clear hk); (try clear hi)) | ((with_reducible refine gate_dst (N := 41) rfl ?_); refine Kd.R_lit (Kd.int .i64) _ 3 ?hg (N := 41) ?hd (xs := ([(-1), a2, 0] : List Int)) (inner := [.int .i64 (-1), .int .i64 a2, .int .i64 0]) (ok := fun _ => True) (okp := fun _ => True) ?hr ?hp (fun _ hk => hk) trivial (Below.refl _ _) (Nat.le_refl _) (by simp) ?_; (case hd => rfl); (case hg => rfl); (case hr => first | (go_simp; done) | (go_simp; rfl)); (case hp => exact (Reps.one (show Kd.M (Kd.int .i64) _ _ _ (-1) [.int .i64 (-1)] from rfl) (Reps.one (show Kd.M (Kd.int .i64) _ _ _ a2 [.int .i64 a2] from rfl) (Reps.one (show Kd.M (Kd.int .i64) _ _ _ 0 [.int .i64 0] from rfl) (Reps.none _ _))))); intro v227 w25 ho26 hb hg_ hnew_; clear hg_ hnew_; (first | rw [← Ny226.out] at ho26 | (simp only [Int.reduceToNat] at ho26; rw [← Ny226.out] at ho26)); have n0_ := Aside0.mk (Kd.R_below (by (with_reducible repeat (first | apply Kd.R_alloc | apply Kd.R_drewN | apply Kd.R_drew)); exact HO218.out) hb); have n1_ := Aside0.mk (Kd.R_lower ho26 (keep_size (w := w) (g := g) (row := none) (by repeat (first | (with_reducible first | exact HK.out | apply KeepBut.set_ | apply keep_drewN | apply keep_drew | apply keep_alloc) | exact HK.out)))); have n2_ := Aside0.mk (IsS95.below (by repeat (first | (with_reducible first | exact HI0.out | apply IsS95.alloc | apply IsS95.drewN | apply IsS95.drew | apply IsS95.set_1) | exact HI0.out)) hb); have n3_ := Aside0.mk (KeepBut.trans (by repeat (first | (with_reducible first | exact HK.out | apply KeepBut.set_ | apply keep_drewN | apply keep_drew | apply keep_alloc) | exact HK.out)) (KeepBut.of_below hb g none) (.inl rfl)); have n4_ := Aside0.mk (below_step (by repeat (first | (with_reducible first | exact HB.out | apply below_alloc | apply pw_below_drewN | apply below_drew1 | refine below_set ?_ (IsS95.ge HI0.out)) | exact HB.out)) hb); clear HO218; clear HI0; clear HK; clear HB; have HO218 := n0_; have HO228 := n1_; have HI0 := n2_; have HK := n3_; have HB := n4_; clear n0_ n1_ n2_ n3_ n4_; clear hb ho26; obtain ⟨Ao27, co27, eo27⟩ := Kd.R_slice HO228.out; subst eo27) | ((with_reducible refine gate_callee (f := 94) rfl ?_); refine goesL_ (some 42) rfl rfl Try.func94 (by kernel_rfl) rfl #[.pointer (some ⟨g, 0, none⟩), .slice Ao27 y226.length co27] rfl (by (try simp only [List.map_toArray, List.map_cons, List.map_nil]); first | done | rfl | (simp only [List.length_drop, List.length_take]; rfl)) ?_; (with_reducible refine (spec_l1Rd_one.calls k g s0_0 t225 _ _ y226 t229 t230 w0 _ ?side1 ?side2 ?side3 ?side4 ?side5 A15.out).mono ?_); (case side1 => repeat (first | (with_reducible first | exact HI0.out | apply IsS95.alloc | apply IsS95.drewN | apply IsS95.drew | apply IsS95.set_1) | exact HI0.out)); (case side2 => repeat (first | (with_reducible first | exact HB.out | apply below_alloc | apply pw_below_drewN | apply below_drew1 | refine below_set ?_ (IsS95.ge HI0.out)) | exact HB.out)); (case side3 => repeat (first | exact (Kd.R_reads' HO228.out).2.2 | (with_reducible refine Kd.C_alloc ?_ _) | (with_reducible refine Kd.C_drewN ?_ _) | (with_reducible refine Kd.C_drew ?_))); (case side4 => exact (Kd.R_reads' HO228.out).2.1); (case side5 => exact far_slice (IsS95.own_ne HI0.out HO228.out (by decide))); rintro e w28 ⟨rfl, hi, hb, hk⟩; refine ⟨_, rfl, ?_⟩; have n0_ := Aside0.mk (Kd.R_mono (Kd.R_keep (IsS95.apart (show IsS95 w0 _ g s0_0 t225 from by repeat (first | (with_reducible first | exact HI0.out | apply IsS95.alloc | apply IsS95.drewN | apply IsS95.drew | apply IsS95.set_1) | exact HI0.out)) (by (with_reducible repeat (first | apply Kd.R_alloc | apply Kd.R_drewN | apply Kd.R_drew)); exact HO218.out) (by decide)) hk (fun _ h => h.2)) (fun _ h => h.1)); have n1_ := Aside0.mk (Kd.R_mono (Kd.R_keep (IsS95.apart (show IsS95 w0 _ g s0_0 t225 from by repeat (first | (with_reducible first | exact HI0.out | apply IsS95.alloc | apply IsS95.drewN | apply IsS95.drew | apply IsS95.set_1) | exact HI0.out)) (by (with_reducible repeat (first | apply Kd.R_alloc | apply Kd.R_drewN | apply Kd.R_drew)); exact HO228.out) (by decide)) hk (fun _ h => h.2)) (fun _ h => h.1)); have n2_ := Aside0.mk (KeepBut.trans (by repeat (first | (with_reducible first | exact HK.out | apply KeepBut.set_ | apply keep_drewN | apply keep_drew | apply keep_alloc) | exact HK.out)) hk (.inl rfl)); have n3_ := Aside0.mk (hb); have n4_ := Aside0.mk (hi); clear HO218; clear HO228; clear HK; clear HB; clear HI0; have HO218 := n0_; have HO228 := n1_; have HK := n2_; have HB := n3_; have HI0 := n4_; clear n0_ n1_ n2_ n3_ n4_; (try clear hb); (try clear hb2); (try clear hk); (try clear hi); have p18 : 0 ≤ (t222 : Int) := of_decide_eq_true (by first | (with_reducible assumption) | assumption); have q18 : (t222 : Int) < ((y216.length : Int) : Int) := of_decide_eq_true (by first | (with_reducible assumption) | assumption); obtain ⟨go18, co18, eo18, gb18, gl18, cl18, HG18⟩ := Kd.R_form HO218.out (by omega); (first | cases eo18 | (injection eo18 with ea_ en_ ec_; (first | subst ea_ | (injection ea_ with ea_; subst ea_)); subst ec_; clear en_)); have GB18 := Aside0.mk gb18; have GG18 := Aside0.mk HG18; clear gb18 gl18 HG18; obtain ⟨ce18, hcl18, hM18, hcc18, hfr18⟩ := Kd.R_elem HO218.out z50 (t222 : Int) p18 q18; obtain rfl := k50_openM hM18; have hx18_0 : w28.cell? ⟨go18, (t222 : Int).toNat * 4, none⟩ = some (.int .i64 ((rd_T50 y216 t222).f0)) := hcc18 0 _ rfl; have hx18_1 : w28.cell? ⟨go18, (t222 : Int).toNat * 4 + 1, none⟩ = some (.int .i64 ((rd_T50 y216 t222).f1)) := hcc18 1 _ rfl; have hx18_2 : w28.cell? ⟨go18, (t222 : Int).toNat * 4 + 2, none⟩ = some (.int .i64 ((rd_T50 y216 t222).f2)) := hcc18 2 _ rfl; have hx18_3 : w28.cell? ⟨go18, (t222 : Int).toNat * 4 + 3, none⟩ = some (.int .i64 ((rd_T50 y216 t222).f3)) := hcc18 3 _ rfl; have hf18_0 : w28.frozen? ⟨go18, (t222 : Int).toNat * 4, none⟩ = false := hfr18 0; have hf18_1 : w28.frozen? ⟨go18, (t222 : Int).toNat * 4 + 1, none⟩ = false := hfr18 1; have hf18_2 : w28.frozen? ⟨go18, (t222 : Int).toNat * 4 + 2, none⟩ = false := hfr18 2; have hf18_3 : w28.frozen? ⟨go18, (t222 : Int).toNat * 4 + 3, none⟩ = false := hfr18 3; clear hcl18 hcc18 hfr18 hM18; replace p18 := eq_true p18; replace q18 := eq_true q18; have HX29 := Aside0.mk (show Kd.R k50 50 w28 w.heap.size (fun _ => True) (.slice (some ⟨go18, 0, none⟩) y216.length co22) y216 from (by (with_reducible repeat (first | apply Kd.R_alloc | apply Kd.R_drewN | apply Kd.R_drew)); exact HO218.out)); obtain ⟨ce29, hcl29, hM29, hcc29, hfr29⟩ := Kd.R_elem HX29.out z50 (t222 : Int) (of_decide_eq_true (by first | (with_reducible assumption) | assumption)) (by have h_ : (t222 : Int) < ((y216.length : Int) : Int) := of_decide_eq_true (by first | (with_reducible assumption) | assumption); first | exact h_ | (have e_ := (Kd.R_reads' HO218.out).1; omega) | simpa using h_); obtain rfl := k50_openM hM29; have HP29 := Kd.R_seg HX29.out (t222 : Int) (of_decide_eq_true (by first | (with_reducible assumption) | assumption)) (by have h_ : (t222 : Int) < ((y216.length : Int) : Int) := of_decide_eq_true (by first | (with_reducible assumption) | assumption); first | exact h_ | (have e_ := (Kd.R_reads' HO218.out).1; omega) | simpa using h_) (seg := [.int .i64 t229]) (j := 0) hcl29 hcc29 (show 1 ≤ 4 from by decide) (x' := (⟨t229, (rd_T50 y216 t222).f1, (rd_T50 y216 t222).f2, (rd_T50 y216 t222).f3⟩ : S50)) (k50_mkM _ _ _ (⟨t229, (rd_T50 y216 t222).f1, (rd_T50 y216 t222).f2, (rd_T50 y216 t222).f3⟩ : S50) ) (fun _ hk => hk); have hx29_0 := hcc29 0 _ rfl; (try simp only [show (k50).sz = 4 from rfl, Nat.mul_one, Nat.add_zero] at hx29_0); have hf29_0 := hfr29 0; (try simp only [show (k50).sz = 4 from rfl, Nat.mul_one, Nat.add_zero] at hf29_0); clear hcl29 hcc29 hfr29 hM29) | ((with_reducible refine gate_store (t := 3) (p := 44) rfl ?_); refine store_event (t := 3) (p := 44) (v := ?vo_w30) (w1 := (w28.setCell ⟨go18, (t222 : Int).toNat * 4, none⟩ (.int .i64 t229))) ?hg ?ho ?hn ?hr ?_; (case ho => rfl); (case hg => rfl); (case hn => rfl); (case hr => first | (go_simp; done) | (go_simp; rfl)); intro w30 hw; have hg : w28.grownBy w30 (some go18) := (by rw [hw]; exact HP29.2); have hp_ : Kd.R k50 50 w30 w.heap.size (fun _ => True) (.slice (some ⟨go18, 0, none⟩) y216.length co22) y231 := (by rw [hw, Ny231.out]; exact HP29.1); clear HP29; have n0_ := Aside0.mk (IsS95.grown (by repeat (first | (with_reducible first | exact HI0.out | apply IsS95.alloc | apply IsS95.drewN | apply IsS95.drew | apply IsS95.set_1) | exact HI0.out)) hg (IsS95.own_ne HI0.out HO218.out (by decide))); have n1_ := Aside0.mk (hp_); have n2_ := Aside0.mk (Kd.R_over' (v := (.slice (some ⟨go18, 0, none⟩) y216.length co22)) (by (with_reducible repeat (first | apply Kd.R_alloc | apply Kd.R_drewN | apply Kd.R_drew)); exact HO228.out) (Kd.R_typed HO218.out) (by decide) hg); have n3_ := Aside0.mk ((by rw [hw]; exact below_set (HB.out) (Nat.le_trans HL.out GB18.out) : Below w0.heap.size w0 w30)); have n4_ := Aside0.mk (KeepBut.trans (by repeat (first | (with_reducible first | exact HK.out | apply KeepBut.set_ | apply keep_drewN | apply keep_drew | apply keep_alloc) | exact HK.out)) (KeepBut.of_grown hg g) (Kd.R_base2 HO218.out)); clear HI0; clear HO218; clear HO228; clear HB; clear HK; have HI0 := n0_; have HO218 := n1_; have HO228 := n2_; have HB := n3_; have HK := n4_; clear n0_ n1_ n2_ n3_ n4_; clear hg hw hp_))
      go_ret
      exact ⟨_, by first | rfl | (simp [errW_none, errW_some] <;> rfl) | (simp [*, errW_none, errW_some] <;> rfl), by (with_reducible repeat (first | apply Kd.R_alloc | apply Kd.R_drewN | apply Kd.R_drew)); exact HO218.out, by repeat (first | (with_reducible first | exact HI0.out | apply IsS95.alloc | apply IsS95.drewN | apply IsS95.drew | apply IsS95.set_1) | exact HI0.out), by repeat (first | (with_reducible first | exact HB.out | apply below_alloc | apply pw_below_drewN | apply below_drew1 | refine below_set ?_ (IsS95.ge HI0.out)) | exact HB.out), by repeat (first | (with_reducible first | exact HK.out | apply KeepBut.set_ | apply keep_drewN | apply keep_drew | apply keep_alloc) | exact HK.out)⟩
     ·rw [if_neg c17] at H
      exact absurd H (by simp)
    ·rw [if_neg c16] at H
     exact absurd H (by simp)
   ·rw [if_neg c14] at H
    have c14b0 : (t224 == 0) = false := beq_eq_false_iff_ne.mpr c14
    have c14b1 : (t224 != 0) = true := bne_iff_ne.mpr c14
    by_cases c31 : t224 = 1
    ·rw [if_pos c31] at H
     have c31b0 : (t224 == 1) = true := beq_iff_eq.mpr c31
     have c31b1 : (t224 != 1) = false := bne_eq_false_iff_eq.mpr c31
     clear c31
     by_cases c32 : 0 ≤ t222
     ·rw [if_pos c32] at H
      have c32b0 : decide (0 ≤ t222) = true := decide_eq_true c32
      clear c32
      by_cases c33 : t222 < (y216.length : Int)
      ·rw [if_pos c33] at H
       have c33b0 : decide (t222 < (y216.length : Int)) = true := decide_eq_true c33
       clear c33
       obtain ⟨y233, hy233⟩ : ∃ y_ : List Int, y_ = (([wrap64 (a2 + 1), (rd_T50 y216 t222).f0, 0] : List Int)) := ⟨_, rfl⟩
       replace H : ((spec_l1Rd_one.f k s0_0 t225 y233).bind fun bt236 => (some ((y216.set (t222 : Int).toNat (⟨(rd_T50 y216 t222).f0, bt236.1, (rd_T50 y216 t222).f2, (rd_T50 y216 t222).f3⟩ : S50)), bt236.2))) = some (r1, r2) := by first | (rw [hy233]; with_reducible exact H) | (have H2_ := (Option.bind_some _ _).symm.trans H; rw [hy233]; with_reducible exact H2_) | (have H2_ := (Option.bind_some _ _).symm.trans H; with_reducible exact H2_) | with_reducible exact H | (rw [hy233]; exact H) | exact H
       have Ny233 := Aside0.mk hy233
       clear hy233
       replace H := Option.bind_eq_some_iff.mp H
       obtain ⟨⟨t236, t237⟩, A340, H⟩ := H
       replace H : (some ((y216.set (t222 : Int).toNat (⟨(rd_T50 y216 t222).f0, t236, (rd_T50 y216 t222).f2, (rd_T50 y216 t222).f3⟩ : S50)), t237)) = some (r1, r2) := H
       have A34 := Aside0.mk A340
       clear A340
       obtain ⟨y238, hy238⟩ : ∃ y_ : List (S50), y_ = (y216.set (t222 : Int).toNat (⟨(rd_T50 y216 t222).f0, t236, (rd_T50 y216 t222).f2, (rd_T50 y216 t222).f3⟩ : S50)) := ⟨_, rfl⟩
       replace H : (some (y238, t237)) = some (r1, r2) := by first | (rw [hy238]; with_reducible exact H) | (have H2_ := (Option.bind_some _ _).symm.trans H; rw [hy238]; with_reducible exact H2_) | (have H2_ := (Option.bind_some _ _).symm.trans H; with_reducible exact H2_) | with_reducible exact H | (rw [hy238]; exact H) | exact H
       have Ny238 := Aside0.mk hy238
       clear hy238
       simp only [Option.some.injEq, Prod.mk.injEq] at H
       obtain ⟨rfl, rfl⟩ := H
       go_enter Try.func109, Try.ntmps109
       go_wp2_with (first | ((with_reducible refine gate_dst (N := 9) rfl ?_); refine Kd.R_lit k50 _ 50 ?hg (N := 9) ?hd (xs := ([] : List (S50))) (inner := []) (ok := fun _ => True) (okp := fun _ => True) ?hr ?hp (fun _ hk => hk) trivial (Below.refl _ _) (Nat.le_refl _) (by simp) ?_; (case hd => rfl); (case hg => rfl); (case hr => first | (go_simp; done) | (go_simp; rfl)); (case hp => exact (Reps.none _ _)); intro v214 w36 ho37 hb hg_ hnew_; clear hg_ hnew_; (first | rw [← Ny213.out] at ho37 | (simp only [Int.reduceToNat] at ho37; rw [← Ny213.out] at ho37)); have n0_ := Aside0.mk (Kd.R_lower ho37 (keep_size (w := w) (g := g) (row := none) (by repeat (first | (with_reducible first | exact HK.out | apply KeepBut.set_ | apply keep_drewN | apply keep_drew | apply keep_alloc) | exact HK.out)))); have n1_ := Aside0.mk (IsS95.below (by repeat (first | (with_reducible first | exact HI0.out | apply IsS95.alloc | apply IsS95.drewN | apply IsS95.drew | apply IsS95.set_1) | exact HI0.out)) hb); have n2_ := Aside0.mk (KeepBut.trans (by repeat (first | (with_reducible first | exact HK.out | apply KeepBut.set_ | apply keep_drewN | apply keep_drew | apply keep_alloc) | exact HK.out)) (KeepBut.of_below hb g none) (.inl rfl)); have n3_ := Aside0.mk (below_step (by repeat (first | (with_reducible first | exact HB.out | apply below_alloc | apply pw_below_drewN | apply below_drew1 | refine below_set ?_ (IsS95.ge HI0.out)) | exact HB.out)) hb); clear HI0; clear HK; clear HB; have HO215 := n0_; have HI0 := n1_; have HK := n2_; have HB := n3_; clear n0_ n1_ n2_ n3_; clear hb ho37) | ((with_reducible refine gate_builtin (b := .append) (xs := #[.tmp 9, .tmp 10]) rfl ?_); at_builtin; refine Kd.R_append_rows k50 w.heap.size rfl (.tmp 9) (.tmp 10) 38 50 (.agg #[(.int .i64 0), (.int .i64 0), (.int .i64 0), (.int .i64 0)]) 32 rfl Try.underlying38 info50 rfl (by decide) (by omega) v214 y213 l1 _ _ _ (fun _ => True) (fun _ => False) rfl rfl ?aO ?aR (fun _ _ h => h) (fun _ h => h.elim) ?aF (Below.refl _ _) ?aS ?aL ?_; (case aR => exact Kd.C_foot_now HR1.out (by repeat (first | (with_reducible first | exact HK.out | apply KeepBut.set_ | apply keep_drewN | apply keep_drew | apply keep_alloc) | exact HK.out))); (case aF => exact (fun _ _ => trivial)); (case aO => exact (by (with_reducible repeat (first | apply Kd.R_alloc | apply Kd.R_drewN | apply Kd.R_drew)); exact HO215.out)); (case aS => exact (keep_size (w := w) (g := g) (row := none) (by repeat (first | (with_reducible first | exact HK.out | apply KeepBut.set_ | apply keep_drewN | apply keep_drew | apply keep_alloc) | exact HK.out)))); (case aL => have := LMc4.out; omega); intro v217 w38 ho hb hg hat; rw [← Ny216.out] at ho; have n0_ := Aside0.mk (IsS95.grown (by repeat (first | (with_reducible first | exact HI0.out | apply IsS95.alloc | apply IsS95.drewN | apply IsS95.drew | apply IsS95.set_1) | exact HI0.out)) hg (IsS95.own_ne HI0.out HO215.out (by decide))); have n1_ := Aside0.mk (below_weaken (by repeat (first | (with_reducible first | exact HB.out | apply below_alloc | apply pw_below_drewN | apply below_drew1 | refine below_set ?_ (IsS95.ge HI0.out)) | exact HB.out)) HL.out hb); have n2_ := Aside0.mk (KeepBut.trans (by repeat (first | (with_reducible first | exact HK.out | apply KeepBut.set_ | apply keep_drewN | apply keep_drew | apply keep_alloc) | exact HK.out)) (KeepBut.of_grown hg g) (Kd.R_base2 HO215.out)); have n3_ := Aside0.mk (ho); clear HI0; clear HB; clear HK; clear HO215; have HI0 := n0_; have HB := n1_; have HK := n2_; have HO218 := n3_; clear n0_ n1_ n2_ n3_; clear ho hb hg hat; obtain ⟨Ao39, co39, eo39⟩ := Kd.R_slice HO218.out; subst eo39) | ((with_reducible refine gate_callee (f := 61) rfl ?_); refine goesL_ (some 22) rfl rfl Try.func61 (by kernel_rfl) rfl #[.pointer (some ⟨g, 0, none⟩), .int .i64 (y216.length : Int)] rfl (by (try simp only [List.map_toArray, List.map_cons, List.map_nil]); first | done | rfl | (simp only [List.length_drop, List.length_take]; rfl)) ?_; (with_reducible refine (spec_l1Rd_pick.calls k g s0_0 s0_1 (y216.length : Int) t222 t223 w0 _ ?side1 ?side2 A12.out).mono ?_); (case side1 => repeat (first | (with_reducible first | exact HI0.out | apply IsS95.alloc | apply IsS95.drewN | apply IsS95.drew | apply IsS95.set_1) | exact HI0.out)); (case side2 => repeat (first | (with_reducible first | exact HB.out | apply below_alloc | apply pw_below_drewN | apply below_drew1 | refine below_set ?_ (IsS95.ge HI0.out)) | exact HB.out)); rintro e w40 ⟨rfl, hi, hb, hk⟩; refine ⟨_, rfl, ?_⟩; have n0_ := Aside0.mk (Kd.R_mono (Kd.R_keep (IsS95.apart (show IsS95 w0 _ g s0_0 s0_1 from by repeat (first | (with_reducible first | exact HI0.out | apply IsS95.alloc | apply IsS95.drewN | apply IsS95.drew | apply IsS95.set_1) | exact HI0.out)) (by (with_reducible repeat (first | apply Kd.R_alloc | apply Kd.R_drewN | apply Kd.R_drew)); exact HO218.out) (by decide)) hk (fun _ h => h.2)) (fun _ h => h.1)); have n1_ := Aside0.mk (KeepBut.trans (by repeat (first | (with_reducible first | exact HK.out | apply KeepBut.set_ | apply keep_drewN | apply keep_drew | apply keep_alloc) | exact HK.out)) hk (.inl rfl)); have n2_ := Aside0.mk (hb); have n3_ := Aside0.mk (hi); clear HO218; clear HK; clear HB; clear HI0; have HO218 := n0_; have HK := n1_; have HB := n2_; have HI0 := n3_; clear n0_ n1_ n2_ n3_; (try clear hb); (try clear hb2); (try clear hk); (try clear hi)) | ((with_reducible refine gate_callee (f := 61) rfl ?_); refine goesL_ (some 24) rfl rfl Try.func61 (by kernel_rfl) rfl #[.pointer (some ⟨g, 0, none⟩), .int .i64 6] rfl (by (try simp only [List.map_toArray, List.map_cons, List.map_nil]); first | done | rfl | (simp only [List.length_drop, List.length_take]; rfl)) ?_; (with_reducible refine (spec_l1Rd_pick.calls k g s0_0 t223 6 t224 t225 w0 _ ?side1 ?side2 A13.out).mono ?_); (case side1 => repeat (first | (with_reducible first | exact HI0.out | apply IsS95.alloc | apply IsS95.drewN | apply IsS95.drew | apply IsS95.set_1) | exact HI0.out)); (case side2 => repeat (first | (with_reducible first | exact HB.out | apply below_alloc | apply pw_below_drewN | apply below_drew1 | refine below_set ?_ (IsS95.ge HI0.out)) | exact HB.out)); rintro e w41 ⟨rfl, hi, hb, hk⟩; refine ⟨_, rfl, ?_⟩; have n0_ := Aside0.mk (Kd.R_mono (Kd.R_keep (IsS95.apart (show IsS95 w0 _ g s0_0 t223 from by repeat (first | (with_reducible first | exact HI0.out | apply IsS95.alloc | apply IsS95.drewN | apply IsS95.drew | apply IsS95.set_1) | exact HI0.out)) (by (with_reducible repeat (first | apply Kd.R_alloc | apply Kd.R_drewN | apply Kd.R_drew)); exact HO218.out) (by decide)) hk (fun _ h => h.2)) (fun _ h => h.1)); have n1_ := Aside0.mk (KeepBut.trans (by repeat (first | (with_reducible first | exact HK.out | apply KeepBut.set_ | apply keep_drewN | apply keep_drew | apply keep_alloc) | exact HK.out)) hk (.inl rfl)); have n2_ := Aside0.mk (hb); have n3_ := Aside0.mk (hi); clear HO218; clear HK; clear HB; clear HI0; have HO218 := n0_; have HK := n1_; have HB := n2_; have HI0 := n3_; clear n0_ n1_ n2_ n3_; (try clear hb); (try clear hb2); (try clear hk); (try clear hi); have p232 : 0 ≤ (t222 : Int) := of_decide_eq_true (by first | (with_reducible assumption) | assumption); have q232 : t222 < (y216.length : Int) := of_decide_eq_true (by first | (with_reducible assumption) | assumption); obtain ⟨ad232, e232, hx232_0, hx232_1, hx232_2, hx232_3⟩ := at_T50 (Kd.R_reads' HO218.out).2.2 t222 p232 q232; cases e232; replace p232 := eq_true p232; replace q232 := eq_true q232) | ((with_reducible refine gate_dst (N := 57) rfl ?_); refine Kd.R_lit (Kd.int .i64) _ 3 ?hg (N := 57) ?hd (xs := ([wrap64 (a2 + 1), (rd_T50 y216 t222).f0, 0] : List Int)) (inner := [.int .i64 (wrap64 (a2 + 1)), .int .i64 ((rd_T50 y216 t222).f0), .int .i64 0]) (ok := fun _ => True) (okp := fun _ => True) ?hr ?hp (fun _ hk => hk) trivial (Below.refl _ _) (Nat.le_refl _) (by simp) ?_; (case hd => rfl); (case hg => rfl); (case hr => first | (go_simp; done) | (go_simp; rfl)); (case hp => exact (Reps.one (show Kd.M (Kd.int .i64) _ _ _ (wrap64 (a2 + 1)) [.int .i64 (wrap64 (a2 + 1))] from rfl) (Reps.one (show Kd.M (Kd.int .i64) _ _ _ ((rd_T50 y216 t222).f0) [.int .i64 ((rd_T50 y216 t222).f0)] from rfl) (Reps.one (show Kd.M (Kd.int .i64) _ _ _ 0 [.int .i64 0] from rfl) (Reps.none _ _))))); intro v234 w42 ho43 hb hg_ hnew_; clear hg_ hnew_; (first | rw [← Ny233.out] at ho43 | (simp only [Int.reduceToNat] at ho43; rw [← Ny233.out] at ho43)); have n0_ := Aside0.mk (Kd.R_below (by (with_reducible repeat (first | apply Kd.R_alloc | apply Kd.R_drewN | apply Kd.R_drew)); exact HO218.out) hb); have n1_ := Aside0.mk (Kd.R_lower ho43 (keep_size (w := w) (g := g) (row := none) (by repeat (first | (with_reducible first | exact HK.out | apply KeepBut.set_ | apply keep_drewN | apply keep_drew | apply keep_alloc) | exact HK.out)))); have n2_ := Aside0.mk (IsS95.below (by repeat (first | (with_reducible first | exact HI0.out | apply IsS95.alloc | apply IsS95.drewN | apply IsS95.drew | apply IsS95.set_1) | exact HI0.out)) hb); have n3_ := Aside0.mk (KeepBut.trans (by repeat (first | (with_reducible first | exact HK.out | apply KeepBut.set_ | apply keep_drewN | apply keep_drew | apply keep_alloc) | exact HK.out)) (KeepBut.of_below hb g none) (.inl rfl)); have n4_ := Aside0.mk (below_step (by repeat (first | (with_reducible first | exact HB.out | apply below_alloc | apply pw_below_drewN | apply below_drew1 | refine below_set ?_ (IsS95.ge HI0.out)) | exact HB.out)) hb); clear HO218; clear HI0; clear HK; clear HB; have HO218 := n0_; have HO235 := n1_; have HI0 := n2_; have HK := n3_; have HB := n4_; clear n0_ n1_ n2_ n3_ n4_; clear hb ho43; obtain ⟨Ao44, co44, eo44⟩ := Kd.R_slice HO235.out; subst eo44) | ((with_reducible refine gate_callee (f := 94) rfl ?_); refine goesL_ (some 58) rfl rfl Try.func94 (by kernel_rfl) rfl #[.pointer (some ⟨g, 0, none⟩), .slice Ao44 y233.length co44] rfl (by (try simp only [List.map_toArray, List.map_cons, List.map_nil]); first | done | rfl | (simp only [List.length_drop, List.length_take]; rfl)) ?_; (with_reducible refine (spec_l1Rd_one.calls k g s0_0 t225 _ _ y233 t236 t237 w0 _ ?side1 ?side2 ?side3 ?side4 ?side5 A34.out).mono ?_); (case side1 => repeat (first | (with_reducible first | exact HI0.out | apply IsS95.alloc | apply IsS95.drewN | apply IsS95.drew | apply IsS95.set_1) | exact HI0.out)); (case side2 => repeat (first | (with_reducible first | exact HB.out | apply below_alloc | apply pw_below_drewN | apply below_drew1 | refine below_set ?_ (IsS95.ge HI0.out)) | exact HB.out)); (case side3 => repeat (first | exact (Kd.R_reads' HO235.out).2.2 | (with_reducible refine Kd.C_alloc ?_ _) | (with_reducible refine Kd.C_drewN ?_ _) | (with_reducible refine Kd.C_drew ?_))); (case side4 => exact (Kd.R_reads' HO235.out).2.1); (case side5 => exact far_slice (IsS95.own_ne HI0.out HO235.out (by decide))); rintro e w45 ⟨rfl, hi, hb, hk⟩; refine ⟨_, rfl, ?_⟩; have n0_ := Aside0.mk (Kd.R_mono (Kd.R_keep (IsS95.apart (show IsS95 w0 _ g s0_0 t225 from by repeat (first | (with_reducible first | exact HI0.out | apply IsS95.alloc | apply IsS95.drewN | apply IsS95.drew | apply IsS95.set_1) | exact HI0.out)) (by (with_reducible repeat (first | apply Kd.R_alloc | apply Kd.R_drewN | apply Kd.R_drew)); exact HO218.out) (by decide)) hk (fun _ h => h.2)) (fun _ h => h.1)); have n1_ := Aside0.mk (Kd.R_mono (Kd.R_keep (IsS95.apart (show IsS95 w0 _ g s0_0 t225 from by repeat (first | (with_reducible first | exact HI0.out | apply IsS95.alloc | apply IsS95.drewN | apply IsS95.drew | apply IsS95.set_1) | exact HI0.out)) (by (with_reducible repeat (first | apply Kd.R_alloc | apply Kd.R_drewN | apply Kd.R_drew)); exact HO235.out) (by decide)) hk (fun _ h => h.2)) (fun _ h => h.1)); have n2_ := Aside0.mk (KeepBut.trans (by repeat (first | (with_reducible first | exact HK.out | apply KeepBut.set_ | apply keep_drewN | apply keep_drew | apply keep_alloc) | exact HK.out)) hk (.inl rfl)); have n3_ := Aside0.mk (hb); have n4_ := Aside0.mk (hi); clear HO218; clear HO235; clear HK; clear HB; clear HI0; have HO218 := n0_; have HO235 := n1_; have HK := n2_; have HB := n3_; have HI0 := n4_; clear n0_ n1_ n2_ n3_ n4_; (try clear hb); (try clear hb2); (try clear hk); (try clear hi); have p35 : 0 ≤ (t222 : Int) := of_decide_eq_true (by first | (with_reducible assumption) | assumption); have q35 : (t222 : Int) < ((y216.length : Int) : Int) := of_decide_eq_true (by first | (with_reducible assumption) | assumption); obtain ⟨go35, co35, eo35, gb35, gl35, cl35, HG35⟩ := Kd.R_form HO218.out (by omega); (first | cases eo35 | (injection eo35 with ea_ en_ ec_; (first | subst ea_ | (injection ea_ with ea_; subst ea_)); subst ec_; clear en_)); have GB35 := Aside0.mk gb35; have GG35 := Aside0.mk HG35; clear gb35 gl35 HG35; (first | simp only [add_plain] at hx232_0 | skip); (first | simp only [add_plain] at hx232_1 | skip); (first | simp only [add_plain] at hx232_2 | skip); (first | simp only [add_plain] at hx232_3 | skip); obtain ⟨ce35, hcl35, hM35, hcc35, hfr35⟩ := Kd.R_elem HO218.out z50 (t222 : Int) p35 q35; obtain rfl := k50_openM hM35; have hx35_0 : w45.cell? ⟨go35, (t222 : Int).toNat * 4, none⟩ = some (.int .i64 ((rd_T50 y216 t222).f0)) := hcc35 0 _ rfl; have hx35_1 : w45.cell? ⟨go35, (t222 : Int).toNat * 4 + 1, none⟩ = some (.int .i64 ((rd_T50 y216 t222).f1)) := hcc35 1 _ rfl; have hx35_2 : w45.cell? ⟨go35, (t222 : Int).toNat * 4 + 2, none⟩ = some (.int .i64 ((rd_T50 y216 t222).f2)) := hcc35 2 _ rfl; have hx35_3 : w45.cell? ⟨go35, (t222 : Int).toNat * 4 + 3, none⟩ = some (.int .i64 ((rd_T50 y216 t222).f3)) := hcc35 3 _ rfl; have hf35_0 : w45.frozen? ⟨go35, (t222 : Int).toNat * 4, none⟩ = false := hfr35 0; have hf35_1 : w45.frozen? ⟨go35, (t222 : Int).toNat * 4 + 1, none⟩ = false := hfr35 1; have hf35_2 : w45.frozen? ⟨go35, (t222 : Int).toNat * 4 + 2, none⟩ = false := hfr35 2; have hf35_3 : w45.frozen? ⟨go35, (t222 : Int).toNat * 4 + 3, none⟩ = false := hfr35 3; clear hcl35 hcc35 hfr35 hM35; replace p35 := eq_true p35; replace q35 := eq_true q35; have HX46 := Aside0.mk (show Kd.R k50 50 w45 w.heap.size (fun _ => True) (.slice (some ⟨go35, 0, none⟩) y216.length co39) y216 from (by (with_reducible repeat (first | apply Kd.R_alloc | apply Kd.R_drewN | apply Kd.R_drew)); exact HO218.out)); obtain ⟨ce46, hcl46, hM46, hcc46, hfr46⟩ := Kd.R_elem HX46.out z50 (t222 : Int) (of_decide_eq_true (by first | (with_reducible assumption) | assumption)) (by have h_ : (t222 : Int) < ((y216.length : Int) : Int) := of_decide_eq_true (by first | (with_reducible assumption) | assumption); first | exact h_ | (have e_ := (Kd.R_reads' HO218.out).1; omega) | simpa using h_); obtain rfl := k50_openM hM46; have HP46 := Kd.R_seg HX46.out (t222 : Int) (of_decide_eq_true (by first | (with_reducible assumption) | assumption)) (by have h_ : (t222 : Int) < ((y216.length : Int) : Int) := of_decide_eq_true (by first | (with_reducible assumption) | assumption); first | exact h_ | (have e_ := (Kd.R_reads' HO218.out).1; omega) | simpa using h_) (seg := [.int .i64 t236]) (j := 1) hcl46 hcc46 (show 2 ≤ 4 from by decide) (x' := (⟨(rd_T50 y216 t222).f0, t236, (rd_T50 y216 t222).f2, (rd_T50 y216 t222).f3⟩ : S50)) (k50_mkM _ _ _ (⟨(rd_T50 y216 t222).f0, t236, (rd_T50 y216 t222).f2, (rd_T50 y216 t222).f3⟩ : S50) ) (fun _ hk => hk); have hx46_1 := hcc46 1 _ rfl; (try simp only [show (k50).sz = 4 from rfl, Nat.mul_one, Nat.add_zero] at hx46_1); have hf46_1 := hfr46 1; (try simp only [show (k50).sz = 4 from rfl, Nat.mul_one, Nat.add_zero] at hf46_1); clear hcl46 hcc46 hfr46 hM46) | ((with_reducible refine gate_store (t := 3) (p := 60) rfl ?_); refine store_event (t := 3) (p := 60) (v := ?vo_w47) (w1 := (w45.setCell ⟨go35, (t222 : Int).toNat * 4 + 1, none⟩ (.int .i64 t236))) ?hg ?ho ?hn ?hr ?_; (case ho => rfl); (case hg => rfl); (case hn => rfl); (case hr => first | (go_simp; done) | (go_simp; rfl)); intro w47 hw; have hg : w45.grownBy w47 (some go35) := (by rw [hw]; exact HP46.2); have hp_ : Kd.R k50 50 w47 w.heap.size (fun _ => True) (.slice (some ⟨go35, 0, none⟩) y216.length co39) y238 := (by rw [hw, Ny238.out]; exact HP46.1); clear HP46; have n0_ := Aside0.mk (IsS95.grown (by repeat (first | (with_reducible first | exact HI0.out | apply IsS95.alloc | apply IsS95.drewN | apply IsS95.drew | apply IsS95.set_1) | exact HI0.out)) hg (IsS95.own_ne HI0.out HO218.out (by decide))); have n1_ := Aside0.mk (hp_); have n2_ := Aside0.mk (Kd.R_over' (v := (.slice (some ⟨go35, 0, none⟩) y216.length co39)) (by (with_reducible repeat (first | apply Kd.R_alloc | apply Kd.R_drewN | apply Kd.R_drew)); exact HO235.out) (Kd.R_typed HO218.out) (by decide) hg); have n3_ := Aside0.mk ((by rw [hw]; exact below_set (HB.out) (Nat.le_trans HL.out GB35.out) : Below w0.heap.size w0 w47)); have n4_ := Aside0.mk (KeepBut.trans (by repeat (first | (with_reducible first | exact HK.out | apply KeepBut.set_ | apply keep_drewN | apply keep_drew | apply keep_alloc) | exact HK.out)) (KeepBut.of_grown hg g) (Kd.R_base2 HO218.out)); clear HI0; clear HO218; clear HO235; clear HB; clear HK; have HI0 := n0_; have HO218 := n1_; have HO235 := n2_; have HB := n3_; have HK := n4_; clear n0_ n1_ n2_ n3_ n4_; clear hg hw hp_))
       go_ret
       exact ⟨_, by first | rfl | (simp [errW_none, errW_some] <;> rfl) | (simp [*, errW_none, errW_some] <;> rfl), by (with_reducible repeat (first | apply Kd.R_alloc | apply Kd.R_drewN | apply Kd.R_drew)); exact HO218.out, by repeat (first | (with_reducible first | exact HI0.out | apply IsS95.alloc | apply IsS95.drewN | apply IsS95.drew | apply IsS95.set_1) | exact HI0.out), by repeat (first | (with_reducible first | exact HB.out | apply below_alloc | apply pw_below_drewN | apply below_drew1 | refine below_set ?_ (IsS95.ge HI0.out)) | exact HB.out), by repeat (first | (with_reducible first | exact HK.out | apply KeepBut.set_ | apply keep_drewN | apply keep_drew | apply keep_alloc) | exact HK.out)⟩
      ·rw [if_neg c33] at H
       exact absurd H (by simp)
     ·rw [if_neg c32] at H
      exact absurd H (by simp)
    ·rw [if_neg c31] at H
     have c31b0 : (t224 == 1) = false := beq_eq_false_iff_ne.mpr c31
     have c31b1 : (t224 != 1) = true := bne_iff_ne.mpr c31
     by_cases c48 : t224 = 2
     ·rw [if_pos c48] at H
      have c48b0 : (t224 == 2) = true := beq_iff_eq.mpr c48
      have c48b1 : (t224 != 2) = false := bne_eq_false_iff_eq.mpr c48
      clear c48
      obtain ⟨y239, hy239⟩ : ∃ y_ : List Int, y_ = (([0, 41] : List Int)) := ⟨_, rfl⟩
      replace H : ((spec_l1Rd_one.f k s0_0 t225 y239).bind fun bt242 => (if 0 ≤ t222 then (if t222 < (y216.length : Int) then (some ((y216.set (t222 : Int).toNat (⟨(rd_T50 y216 t222).f0, (rd_T50 y216 t222).f1, bt242.1, (rd_T50 y216 t222).f3⟩ : S50)), bt242.2)) else (none)) else (none))) = some (r1, r2) := by first | (rw [hy239]; with_reducible exact H) | (have H2_ := (Option.bind_some _ _).symm.trans H; rw [hy239]; with_reducible exact H2_) | (have H2_ := (Option.bind_some _ _).symm.trans H; with_reducible exact H2_) | with_reducible exact H | (rw [hy239]; exact H) | exact H
      have Ny239 := Aside0.mk hy239
      clear hy239
      replace H := Option.bind_eq_some_iff.mp H
      obtain ⟨⟨t242, t243⟩, A490, H⟩ := H
      replace H : (if 0 ≤ t222 then (if t222 < (y216.length : Int) then (some ((y216.set (t222 : Int).toNat (⟨(rd_T50 y216 t222).f0, (rd_T50 y216 t222).f1, t242, (rd_T50 y216 t222).f3⟩ : S50)), t243)) else (none)) else (none)) = some (r1, r2) := H
      have A49 := Aside0.mk A490
      clear A490
      by_cases c50 : 0 ≤ t222
      ·rw [if_pos c50] at H
       have c50b0 : decide (0 ≤ t222) = true := decide_eq_true c50
       clear c50
       by_cases c51 : t222 < (y216.length : Int)
       ·rw [if_pos c51] at H
        have c51b0 : decide (t222 < (y216.length : Int)) = true := decide_eq_true c51
        clear c51
        obtain ⟨y244, hy244⟩ : ∃ y_ : List (S50), y_ = (y216.set (t222 : Int).toNat (⟨(rd_T50 y216 t222).f0, (rd_T50 y216 t222).f1, t242, (rd_T50 y216 t222).f3⟩ : S50)) := ⟨_, rfl⟩
        replace H : (some (y244, t243)) = some (r1, r2) := by first | (rw [hy244]; with_reducible exact H) | (have H2_ := (Option.bind_some _ _).symm.trans H; rw [hy244]; with_reducible exact H2_) | (have H2_ := (Option.bind_some _ _).symm.trans H; with_reducible exact H2_) | with_reducible exact H | (rw [hy244]; exact H) | exact H
        have Ny244 := Aside0.mk hy244
        clear hy244
        simp only [Option.some.injEq, Prod.mk.injEq] at H
        obtain ⟨rfl, rfl⟩ := H
        go_enter Try.func109, Try.ntmps109
        go_wp2_with (first | ((with_reducible refine gate_dst (N := 9) rfl ?_); refine Kd.R_lit k50 _ 50 ?hg (N := 9) ?hd (xs := ([] : List (S50))) (inner := []) (ok := fun _ => True) (okp := fun _ => True) ?hr ?hp (fun _ hk => hk) trivial (Below.refl _ _) (Nat.le_refl _) (by simp) ?_; (case hd => rfl); (case hg => rfl); (case hr => first | (go_simp; done) | (go_simp; rfl)); (case hp => exact (Reps.none _ _)); intro v214 w53 ho54 hb hg_ hnew_; clear hg_ hnew_; (first | rw [← Ny213.out] at ho54 | (simp only [Int.reduceToNat] at ho54; rw [← Ny213.out] at ho54)); have n0_ := Aside0.mk (Kd.R_lower ho54 (keep_size (w := w) (g := g) (row := none) (by repeat (first | (with_reducible first | exact HK.out | apply KeepBut.set_ | apply keep_drewN | apply keep_drew | apply keep_alloc) | exact HK.out)))); have n1_ := Aside0.mk (IsS95.below (by repeat (first | (with_reducible first | exact HI0.out | apply IsS95.alloc | apply IsS95.drewN | apply IsS95.drew | apply IsS95.set_1) | exact HI0.out)) hb); have n2_ := Aside0.mk (KeepBut.trans (by repeat (first | (with_reducible first | exact HK.out | apply KeepBut.set_ | apply keep_drewN | apply keep_drew | apply keep_alloc) | exact HK.out)) (KeepBut.of_below hb g none) (.inl rfl)); have n3_ := Aside0.mk (below_step (by repeat (first | (with_reducible first | exact HB.out | apply below_alloc | apply pw_below_drewN | apply below_drew1 | refine below_set ?_ (IsS95.ge HI0.out)) | exact HB.out)) hb); clear HI0; clear HK; clear HB; have HO215 := n0_; have HI0 := n1_; have HK := n2_; have HB := n3_; clear n0_ n1_ n2_ n3_; clear hb ho54) | ((with_reducible refine gate_builtin (b := .append) (xs := #[.tmp 9, .tmp 10]) rfl ?_); at_builtin; refine Kd.R_append_rows k50 w.heap.size rfl (.tmp 9) (.tmp 10) 38 50 (.agg #[(.int .i64 0), (.int .i64 0), (.int .i64 0), (.int .i64 0)]) 32 rfl Try.underlying38 info50 rfl (by decide) (by omega) v214 y213 l1 _ _ _ (fun _ => True) (fun _ => False) rfl rfl ?aO ?aR (fun _ _ h => h) (fun _ h => h.elim) ?aF (Below.refl _ _) ?aS ?aL ?_; (case aR => exact Kd.C_foot_now HR1.out (by repeat (first | (with_reducible first | exact HK.out | apply KeepBut.set_ | apply keep_drewN | apply keep_drew | apply keep_alloc) | exact HK.out))); (case aF => exact (fun _ _ => trivial)); (case aO => exact (by (with_reducible repeat (first | apply Kd.R_alloc | apply Kd.R_drewN | apply Kd.R_drew)); exact HO215.out)); (case aS => exact (keep_size (w := w) (g := g) (row := none) (by repeat (first | (with_reducible first | exact HK.out | apply KeepBut.set_ | apply keep_drewN | apply keep_drew | apply keep_alloc) | exact HK.out)))); (case aL => have := LMc4.out; omega); intro v217 w55 ho hb hg hat; rw [← Ny216.out] at ho; have n0_ := Aside0.mk (IsS95.grown (by repeat (first | (with_reducible first | exact HI0.out | apply IsS95.alloc | apply IsS95.drewN | apply IsS95.drew | apply IsS95.set_1) | exact HI0.out)) hg (IsS95.own_ne HI0.out HO215.out (by decide))); have n1_ := Aside0.mk (below_weaken (by repeat (first | (with_reducible first | exact HB.out | apply below_alloc | apply pw_below_drewN | apply below_drew1 | refine below_set ?_ (IsS95.ge HI0.out)) | exact HB.out)) HL.out hb); have n2_ := Aside0.mk (KeepBut.trans (by repeat (first | (with_reducible first | exact HK.out | apply KeepBut.set_ | apply keep_drewN | apply keep_drew | apply keep_alloc) | exact HK.out)) (KeepBut.of_grown hg g) (Kd.R_base2 HO215.out)); have n3_ := Aside0.mk (ho); clear HI0; clear HB; clear HK; clear HO215; have HI0 := n0_; have HB := n1_; have HK := n2_; have HO218 := n3_; clear n0_ n1_ n2_ n3_; clear ho hb hg hat; obtain ⟨Ao56, co56, eo56⟩ := Kd.R_slice HO218.out; subst eo56) | ((with_reducible refine gate_callee (f := 61) rfl ?_); refine goesL_ (some 22) rfl rfl Try.func61 (by kernel_rfl) rfl #[.pointer (some ⟨g, 0, none⟩), .int .i64 (y216.length : Int)] rfl (by (try simp only [List.map_toArray, List.map_cons, List.map_nil]); first | done | rfl | (simp only [List.length_drop, List.length_take]; rfl)) ?_; (with_reducible refine (spec_l1Rd_pick.calls k g s0_0 s0_1 (y216.length : Int) t222 t223 w0 _ ?side1 ?side2 A12.out).mono ?_); (case side1 => repeat (first | (with_reducible first | exact HI0.out | apply IsS95.alloc | apply IsS95.drewN | apply IsS95.drew | apply IsS95.set_1) | exact HI0.out)); (case side2 => repeat (first | (with_reducible first | exact HB.out | apply below_alloc | apply pw_below_drewN | apply below_drew1 | refine below_set ?_ (IsS95.ge HI0.out)) | exact HB.out)); rintro e w57 ⟨rfl, hi, hb, hk⟩; refine ⟨_, rfl, ?_⟩; have n0_ := Aside0.mk (Kd.R_mono (Kd.R_keep (IsS95.apart (show IsS95 w0 _ g s0_0 s0_1 from by repeat (first | (with_reducible first | exact HI0.out | apply IsS95.alloc | apply IsS95.drewN | apply IsS95.drew | apply IsS95.set_1) | exact HI0.out)) (by (with_reducible repeat (first | apply Kd.R_alloc | apply Kd.R_drewN | apply Kd.R_drew)); exact HO218.out) (by decide)) hk (fun _ h => h.2)) (fun _ h => h.1)); have n1_ := Aside0.mk (KeepBut.trans (by repeat (first | (with_reducible first | exact HK.out | apply KeepBut.set_ | apply keep_drewN | apply keep_drew | apply keep_alloc) | exact HK.out)) hk (.inl rfl)); have n2_ := Aside0.mk (hb); have n3_ := Aside0.mk (hi); clear HO218; clear HK; clear HB; clear HI0; have HO218 := n0_; have HK := n1_; have HB := n2_; have HI0 := n3_; clear n0_ n1_ n2_ n3_; (try clear hb); (try clear hb2); (try clear hk); (try clear hi)) | ((with_reducible refine gate_callee (f := 61) rfl ?_); refine goesL_ (some 24) rfl rfl Try.func61 (by kernel_rfl) rfl #[.pointer (some ⟨g, 0, none⟩), .int .i64 6] rfl (by (try simp only [List.map_toArray, List.map_cons, List.map_nil]); first | done | rfl | (simp only [List.length_drop, List.length_take]; rfl)) ?_; (with_reducible refine (spec_l1Rd_pick.calls k g s0_0 t223 6 t224 t225 w0 _ ?side1 ?side2 A13.out).mono ?_); (case side1 => repeat (first | (with_reducible first | exact HI0.out | apply IsS95.alloc | apply IsS95.drewN | apply IsS95.drew | apply IsS95.set_1) | exact HI0.out)); (case side2 => repeat (first | (with_reducible first | exact HB.out | apply below_alloc | apply pw_below_drewN | apply below_drew1 | refine below_set ?_ (IsS95.ge HI0.out)) | exact HB.out)); rintro e w58 ⟨rfl, hi, hb, hk⟩; refine ⟨_, rfl, ?_⟩; have n0_ := Aside0.mk (Kd.R_mono (Kd.R_keep (IsS95.apart (show IsS95 w0 _ g s0_0 t223 from by repeat (first | (with_reducible first | exact HI0.out | apply IsS95.alloc | apply IsS95.drewN | apply IsS95.drew | apply IsS95.set_1) | exact HI0.out)) (by (with_reducible repeat (first | apply Kd.R_alloc | apply Kd.R_drewN | apply Kd.R_drew)); exact HO218.out) (by decide)) hk (fun _ h => h.2)) (fun _ h => h.1)); have n1_ := Aside0.mk (KeepBut.trans (by repeat (first | (with_reducible first | exact HK.out | apply KeepBut.set_ | apply keep_drewN | apply keep_drew | apply keep_alloc) | exact HK.out)) hk (.inl rfl)); have n2_ := Aside0.mk (hb); have n3_ := Aside0.mk (hi); clear HO218; clear HK; clear HB; clear HI0; have HO218 := n0_; have HK := n1_; have HB := n2_; have HI0 := n3_; clear n0_ n1_ n2_ n3_; (try clear hb); (try clear hb2); (try clear hk); (try clear hi)) | ((with_reducible refine gate_dst (N := 66) rfl ?_); refine Kd.R_lit (Kd.int .i64) _ 3 ?hg (N := 66) ?hd (xs := ([0, 41] : List Int)) (inner := [.int .i64 0, .int .i64 41]) (ok := fun _ => True) (okp := fun _ => True) ?hr ?hp (fun _ hk => hk) trivial (Below.refl _ _) (Nat.le_refl _) (by simp) ?_; (case hd => rfl); (case hg => rfl); (case hr => first | (go_simp; done) | (go_simp; rfl)); (case hp => exact (Reps.one (show Kd.M (Kd.int .i64) _ _ _ 0 [.int .i64 0] from rfl) (Reps.one (show Kd.M (Kd.int .i64) _ _ _ 41 [.int .i64 41] from rfl) (Reps.none _ _)))); intro v240 w59 ho60 hb hg_ hnew_; clear hg_ hnew_; (first | rw [← Ny239.out] at ho60 | (simp only [Int.reduceToNat] at ho60; rw [← Ny239.out] at ho60)); have n0_ := Aside0.mk (Kd.R_below (by (with_reducible repeat (first | apply Kd.R_alloc | apply Kd.R_drewN | apply Kd.R_drew)); exact HO218.out) hb); have n1_ := Aside0.mk (Kd.R_lower ho60 (keep_size (w := w) (g := g) (row := none) (by repeat (first | (with_reducible first | exact HK.out | apply KeepBut.set_ | apply keep_drewN | apply keep_drew | apply keep_alloc) | exact HK.out)))); have n2_ := Aside0.mk (IsS95.below (by repeat (first | (with_reducible first | exact HI0.out | apply IsS95.alloc | apply IsS95.drewN | apply IsS95.drew | apply IsS95.set_1) | exact HI0.out)) hb); have n3_ := Aside0.mk (KeepBut.trans (by repeat (first | (with_reducible first | exact HK.out | apply KeepBut.set_ | apply keep_drewN | apply keep_drew | apply keep_alloc) | exact HK.out)) (KeepBut.of_below hb g none) (.inl rfl)); have n4_ := Aside0.mk (below_step (by repeat (first | (with_reducible first | exact HB.out | apply below_alloc | apply pw_below_drewN | apply below_drew1 | refine below_set ?_ (IsS95.ge HI0.out)) | exact HB.out)) hb); clear HO218; clear HI0; clear HK; clear HB; have HO218 := n0_; have HO241 := n1_; have HI0 := n2_; have HK := n3_; have HB := n4_; clear n0_ n1_ n2_ n3_ n4_; clear hb ho60; obtain ⟨Ao61, co61, eo61⟩ := Kd.R_slice HO241.out; subst eo61) | ((with_reducible refine gate_callee (f := 94) rfl ?_); refine goesL_ (some 67) rfl rfl Try.func94 (by kernel_rfl) rfl #[.pointer (some ⟨g, 0, none⟩), .slice Ao61 y239.length co61] rfl (by (try simp only [List.map_toArray, List.map_cons, List.map_nil]); first | done | rfl | (simp only [List.length_drop, List.length_take]; rfl)) ?_; (with_reducible refine (spec_l1Rd_one.calls k g s0_0 t225 _ _ y239 t242 t243 w0 _ ?side1 ?side2 ?side3 ?side4 ?side5 A49.out).mono ?_); (case side1 => repeat (first | (with_reducible first | exact HI0.out | apply IsS95.alloc | apply IsS95.drewN | apply IsS95.drew | apply IsS95.set_1) | exact HI0.out)); (case side2 => repeat (first | (with_reducible first | exact HB.out | apply below_alloc | apply pw_below_drewN | apply below_drew1 | refine below_set ?_ (IsS95.ge HI0.out)) | exact HB.out)); (case side3 => repeat (first | exact (Kd.R_reads' HO241.out).2.2 | (with_reducible refine Kd.C_alloc ?_ _) | (with_reducible refine Kd.C_drewN ?_ _) | (with_reducible refine Kd.C_drew ?_))); (case side4 => exact (Kd.R_reads' HO241.out).2.1); (case side5 => exact far_slice (IsS95.own_ne HI0.out HO241.out (by decide))); rintro e w62 ⟨rfl, hi, hb, hk⟩; refine ⟨_, rfl, ?_⟩; have n0_ := Aside0.mk (Kd.R_mono (Kd.R_keep (IsS95.apart (show IsS95 w0 _ g s0_0 t225 from by repeat (first | (with_reducible first | exact HI0.out | apply IsS95.alloc | apply IsS95.drewN | apply IsS95.drew | apply IsS95.set_1) | exact HI0.out)) (by (with_reducible repeat (first | apply Kd.R_alloc | apply Kd.R_drewN | apply Kd.R_drew)); exact HO218.out) (by decide)) hk (fun _ h => h.2)) (fun _ h => h.1)); have n1_ := Aside0.mk (Kd.R_mono (Kd.R_keep (IsS95.apart (show IsS95 w0 _ g s0_0 t225 from by repeat (first | (with_reducible first | exact HI0.out | apply IsS95.alloc | apply IsS95.drewN | apply IsS95.drew | apply IsS95.set_1) | exact HI0.out)) (by (with_reducible repeat (first | apply Kd.R_alloc | apply Kd.R_drewN | apply Kd.R_drew)); exact HO241.out) (by decide)) hk (fun _ h => h.2)) (fun _ h => h.1)); have n2_ := Aside0.mk (KeepBut.trans (by repeat (first | (with_reducible first | exact HK.out | apply KeepBut.set_ | apply keep_drewN | apply keep_drew | apply keep_alloc) | exact HK.out)) hk (.inl rfl)); have n3_ := Aside0.mk (hb); have n4_ := Aside0.mk (hi); clear HO218; clear HO241; clear HK; clear HB; clear HI0; have HO218 := n0_; have HO241 := n1_; have HK := n2_; have HB := n3_; have HI0 := n4_; clear n0_ n1_ n2_ n3_ n4_; (try clear hb); (try clear hb2); (try clear hk); (try clear hi); have p52 : 0 ≤ (t222 : Int) := of_decide_eq_true (by first | (with_reducible assumption) | assumption); have q52 : (t222 : Int) < ((y216.length : Int) : Int) := of_decide_eq_true (by first | (with_reducible assumption) | assumption); obtain ⟨go52, co52, eo52, gb52, gl52, cl52, HG52⟩ := Kd.R_form HO218.out (by omega); (first | cases eo52 | (injection eo52 with ea_ en_ ec_; (first | subst ea_ | (injection ea_ with ea_; subst ea_)); subst ec_; clear en_)); have GB52 := Aside0.mk gb52; have GG52 := Aside0.mk HG52; clear gb52 gl52 HG52; obtain ⟨ce52, hcl52, hM52, hcc52, hfr52⟩ := Kd.R_elem HO218.out z50 (t222 : Int) p52 q52; obtain rfl := k50_openM hM52; have hx52_0 : w62.cell? ⟨go52, (t222 : Int).toNat * 4, none⟩ = some (.int .i64 ((rd_T50 y216 t222).f0)) := hcc52 0 _ rfl; have hx52_1 : w62.cell? ⟨go52, (t222 : Int).toNat * 4 + 1, none⟩ = some (.int .i64 ((rd_T50 y216 t222).f1)) := hcc52 1 _ rfl; have hx52_2 : w62.cell? ⟨go52, (t222 : Int).toNat * 4 + 2, none⟩ = some (.int .i64 ((rd_T50 y216 t222).f2)) := hcc52 2 _ rfl; have hx52_3 : w62.cell? ⟨go52, (t222 : Int).toNat * 4 + 3, none⟩ = some (.int .i64 ((rd_T50 y216 t222).f3)) := hcc52 3 _ rfl; have hf52_0 : w62.frozen? ⟨go52, (t222 : Int).toNat * 4, none⟩ = false := hfr52 0; have hf52_1 : w62.frozen? ⟨go52, (t222 : Int).toNat * 4 + 1, none⟩ = false := hfr52 1; have hf52_2 : w62.frozen? ⟨go52, (t222 : Int).toNat * 4 + 2, none⟩ = false := hfr52 2; have hf52_3 : w62.frozen? ⟨go52, (t222 : Int).toNat * 4 + 3, none⟩ = false := hfr52 3; clear hcl52 hcc52 hfr52 hM52; replace p52 := eq_true p52; replace q52 := eq_true q52; have HX63 := Aside0.mk (show Kd.R k50 50 w62 w.heap.size (fun _ => True) (.slice (some ⟨go52, 0, none⟩) y216.length co56) y216 from (by (with_reducible repeat (first | apply Kd.R_alloc | apply Kd.R_drewN | apply Kd.R_drew)); exact HO218.out)); obtain ⟨ce63, hcl63, hM63, hcc63, hfr63⟩ := Kd.R_elem HX63.out z50 (t222 : Int) (of_decide_eq_true (by first | (with_reducible assumption) | assumption)) (by have h_ : (t222 : Int) < ((y216.length : Int) : Int) := of_decide_eq_true (by first | (with_reducible assumption) | assumption); first | exact h_ | (have e_ := (Kd.R_reads' HO218.out).1; omega) | simpa using h_); obtain rfl := k50_openM hM63; have HP63 := Kd.R_seg HX63.out (t222 : Int) (of_decide_eq_true (by first | (with_reducible assumption) | assumption)) (by have h_ : (t222 : Int) < ((y216.length : Int) : Int) := of_decide_eq_true (by first | (with_reducible assumption) | assumption); first | exact h_ | (have e_ := (Kd.R_reads' HO218.out).1; omega) | simpa using h_) (seg := [.int .i64 t242]) (j := 2) hcl63 hcc63 (show 3 ≤ 4 from by decide) (x' := (⟨(rd_T50 y216 t222).f0, (rd_T50 y216 t222).f1, t242, (rd_T50 y216 t222).f3⟩ : S50)) (k50_mkM _ _ _ (⟨(rd_T50 y216 t222).f0, (rd_T50 y216 t222).f1, t242, (rd_T50 y216 t222).f3⟩ : S50) ) (fun _ hk => hk); have hx63_2 := hcc63 2 _ rfl; (try simp only [show (k50).sz = 4 from rfl, Nat.mul_one, Nat.add_zero] at hx63_2); have hf63_2 := hfr63 2; (try simp only [show (k50).sz = 4 from rfl, Nat.mul_one, Nat.add_zero] at hf63_2); clear hcl63 hcc63 hfr63 hM63) | ((with_reducible refine gate_store (t := 3) (p := 69) rfl ?_); refine store_event (t := 3) (p := 69) (v := ?vo_w64) (w1 := (w62.setCell ⟨go52, (t222 : Int).toNat * 4 + 2, none⟩ (.int .i64 t242))) ?hg ?ho ?hn ?hr ?_; (case ho => rfl); (case hg => rfl); (case hn => rfl); (case hr => first | (go_simp; done) | (go_simp; rfl)); intro w64 hw; have hg : w62.grownBy w64 (some go52) := (by rw [hw]; exact HP63.2); have hp_ : Kd.R k50 50 w64 w.heap.size (fun _ => True) (.slice (some ⟨go52, 0, none⟩) y216.length co56) y244 := (by rw [hw, Ny244.out]; exact HP63.1); clear HP63; have n0_ := Aside0.mk (IsS95.grown (by repeat (first | (with_reducible first | exact HI0.out | apply IsS95.alloc | apply IsS95.drewN | apply IsS95.drew | apply IsS95.set_1) | exact HI0.out)) hg (IsS95.own_ne HI0.out HO218.out (by decide))); have n1_ := Aside0.mk (hp_); have n2_ := Aside0.mk (Kd.R_over' (v := (.slice (some ⟨go52, 0, none⟩) y216.length co56)) (by (with_reducible repeat (first | apply Kd.R_alloc | apply Kd.R_drewN | apply Kd.R_drew)); exact HO241.out) (Kd.R_typed HO218.out) (by decide) hg); have n3_ := Aside0.mk ((by rw [hw]; exact below_set (HB.out) (Nat.le_trans HL.out GB52.out) : Below w0.heap.size w0 w64)); have n4_ := Aside0.mk (KeepBut.trans (by repeat (first | (with_reducible first | exact HK.out | apply KeepBut.set_ | apply keep_drewN | apply keep_drew | apply keep_alloc) | exact HK.out)) (KeepBut.of_grown hg g) (Kd.R_base2 HO218.out)); clear HI0; clear HO218; clear HO241; clear HB; clear HK; have HI0 := n0_; have HO218 := n1_; have HO241 := n2_; have HB := n3_; have HK := n4_; clear n0_ n1_ n2_ n3_ n4_; clear hg hw hp_))
        go_ret
        exact ⟨_, by first | rfl | (simp [errW_none, errW_some] <;> rfl) | (simp [*, errW_none, errW_some] <;> rfl), by (with_reducible repeat (first | apply Kd.R_alloc | apply Kd.R_drewN | apply Kd.R_drew)); exact HO218.out, by repeat (first | (with_reducible first | exact HI0.out | apply IsS95.alloc | apply IsS95.drewN | apply IsS95.drew | apply IsS95.set_1) | exact HI0.out), by repeat (first | (with_reducible first | exact HB.out | apply below_alloc | apply pw_below_drewN | apply below_drew1 | refine below_set ?_ (IsS95.ge HI0.out)) | exact HB.out), by repeat (first | (with_reducible first | exact HK.out | apply KeepBut.set_ | apply keep_drewN | apply keep_drew | apply keep_alloc) | exact HK.out)⟩
       ·rw [if_neg c51] at H
        exact absurd H (by simp)
      ·rw [if_neg c50] at H
       exact absurd H (by simp)
     ·rw [if_neg c48] at H
      have c48b0 : (t224 == 2) = false := beq_eq_false_iff_ne.mpr c48
      have c48b1 : (t224 != 2) = true := bne_iff_ne.mpr c48
      by_cases c65 : t224 = 3
      ·rw [if_pos c65] at H
       have c65b0 : (t224 == 3) = true := beq_iff_eq.mpr c65
       have c65b1 : (t224 != 3) = false := bne_eq_false_iff_eq.mpr c65
       clear c65
       obtain ⟨y245, hy245⟩ : ∃ y_ : List Int, y_ = (([(-1), 10] : List Int)) := ⟨_, rfl⟩
       replace H : ((spec_l1Rd_one.f k s0_0 t225 y245).bind fun bt248 => (if 0 ≤ t222 then (if t222 < (y216.length : Int) then (some ((y216.set (t222 : Int).toNat (⟨(rd_T50 y216 t222).f0, (rd_T50 y216 t222).f1, (rd_T50 y216 t222).f2, bt248.1⟩ : S50)), bt248.2)) else (none)) else (none))) = some (r1, r2) := by first | (rw [hy245]; with_reducible exact H) | (have H2_ := (Option.bind_some _ _).symm.trans H; rw [hy245]; with_reducible exact H2_) | (have H2_ := (Option.bind_some _ _).symm.trans H; with_reducible exact H2_) | with_reducible exact H | (rw [hy245]; exact H) | exact H
       have Ny245 := Aside0.mk hy245
       clear hy245
       replace H := Option.bind_eq_some_iff.mp H
       obtain ⟨⟨t248, t249⟩, A660, H⟩ := H
       replace H : (if 0 ≤ t222 then (if t222 < (y216.length : Int) then (some ((y216.set (t222 : Int).toNat (⟨(rd_T50 y216 t222).f0, (rd_T50 y216 t222).f1, (rd_T50 y216 t222).f2, t248⟩ : S50)), t249)) else (none)) else (none)) = some (r1, r2) := H
       have A66 := Aside0.mk A660
       clear A660
       by_cases c67 : 0 ≤ t222
       ·rw [if_pos c67] at H
        have c67b0 : decide (0 ≤ t222) = true := decide_eq_true c67
        clear c67
        by_cases c68 : t222 < (y216.length : Int)
        ·rw [if_pos c68] at H
         have c68b0 : decide (t222 < (y216.length : Int)) = true := decide_eq_true c68
         clear c68
         obtain ⟨y250, hy250⟩ : ∃ y_ : List (S50), y_ = (y216.set (t222 : Int).toNat (⟨(rd_T50 y216 t222).f0, (rd_T50 y216 t222).f1, (rd_T50 y216 t222).f2, t248⟩ : S50)) := ⟨_, rfl⟩
         replace H : (some (y250, t249)) = some (r1, r2) := by first | (rw [hy250]; with_reducible exact H) | (have H2_ := (Option.bind_some _ _).symm.trans H; rw [hy250]; with_reducible exact H2_) | (have H2_ := (Option.bind_some _ _).symm.trans H; with_reducible exact H2_) | with_reducible exact H | (rw [hy250]; exact H) | exact H
         have Ny250 := Aside0.mk hy250
         clear hy250
         simp only [Option.some.injEq, Prod.mk.injEq] at H
         obtain ⟨rfl, rfl⟩ := H
         go_enter Try.func109, Try.ntmps109
         go_wp2_with (first | ((with_reducible refine gate_dst (N := 9) rfl ?_); refine Kd.R_lit k50 _ 50 ?hg (N := 9) ?hd (xs := ([] : List (S50))) (inner := []) (ok := fun _ => True) (okp := fun _ => True) ?hr ?hp (fun _ hk => hk) trivial (Below.refl _ _) (Nat.le_refl _) (by simp) ?_; (case hd => rfl); (case hg => rfl); (case hr => first | (go_simp; done) | (go_simp; rfl)); (case hp => exact (Reps.none _ _)); intro v214 w70 ho71 hb hg_ hnew_; clear hg_ hnew_; (first | rw [← Ny213.out] at ho71 | (simp only [Int.reduceToNat] at ho71; rw [← Ny213.out] at ho71)); have n0_ := Aside0.mk (Kd.R_lower ho71 (keep_size (w := w) (g := g) (row := none) (by repeat (first | (with_reducible first | exact HK.out | apply KeepBut.set_ | apply keep_drewN | apply keep_drew | apply keep_alloc) | exact HK.out)))); have n1_ := Aside0.mk (IsS95.below (by repeat (first | (with_reducible first | exact HI0.out | apply IsS95.alloc | apply IsS95.drewN | apply IsS95.drew | apply IsS95.set_1) | exact HI0.out)) hb); have n2_ := Aside0.mk (KeepBut.trans (by repeat (first | (with_reducible first | exact HK.out | apply KeepBut.set_ | apply keep_drewN | apply keep_drew | apply keep_alloc) | exact HK.out)) (KeepBut.of_below hb g none) (.inl rfl)); have n3_ := Aside0.mk (below_step (by repeat (first | (with_reducible first | exact HB.out | apply below_alloc | apply pw_below_drewN | apply below_drew1 | refine below_set ?_ (IsS95.ge HI0.out)) | exact HB.out)) hb); clear HI0; clear HK; clear HB; have HO215 := n0_; have HI0 := n1_; have HK := n2_; have HB := n3_; clear n0_ n1_ n2_ n3_; clear hb ho71) | ((with_reducible refine gate_builtin (b := .append) (xs := #[.tmp 9, .tmp 10]) rfl ?_); at_builtin; refine Kd.R_append_rows k50 w.heap.size rfl (.tmp 9) (.tmp 10) 38 50 (.agg #[(.int .i64 0), (.int .i64 0), (.int .i64 0), (.int .i64 0)]) 32 rfl Try.underlying38 info50 rfl (by decide) (by omega) v214 y213 l1 _ _ _ (fun _ => True) (fun _ => False) rfl rfl ?aO ?aR (fun _ _ h => h) (fun _ h => h.elim) ?aF (Below.refl _ _) ?aS ?aL ?_; (case aR => exact Kd.C_foot_now HR1.out (by repeat (first | (with_reducible first | exact HK.out | apply KeepBut.set_ | apply keep_drewN | apply keep_drew | apply keep_alloc) | exact HK.out))); (case aF => exact (fun _ _ => trivial)); (case aO => exact (by (with_reducible repeat (first | apply Kd.R_alloc | apply Kd.R_drewN | apply Kd.R_drew)); exact HO215.out)); (case aS => exact (keep_size (w := w) (g := g) (row := none) (by repeat (first | (with_reducible first | exact HK.out | apply KeepBut.set_ | apply keep_drewN | apply keep_drew | apply keep_alloc) | exact HK.out)))); (case aL => have := LMc4.out; omega); intro v217 w72 ho hb hg hat; rw [← Ny216.out] at ho; have n0_ := Aside0.mk (IsS95.grown (by repeat (first | (with_reducible first | exact HI0.out | apply IsS95.alloc | apply IsS95.drewN | apply IsS95.drew | apply IsS95.set_1) | exact HI0.out)) hg (IsS95.own_ne HI0.out HO215.out (by decide))); have n1_ := Aside0.mk (below_weaken (by repeat (first | (with_reducible first | exact HB.out | apply below_alloc | apply pw_below_drewN | apply below_drew1 | refine below_set ?_ (IsS95.ge HI0.out)) | exact HB.out)) HL.out hb); have n2_ := Aside0.mk (KeepBut.trans (by repeat (first | (with_reducible first | exact HK.out | apply KeepBut.set_ | apply keep_drewN | apply keep_drew | apply keep_alloc) | exact HK.out)) (KeepBut.of_grown hg g) (Kd.R_base2 HO215.out)); have n3_ := Aside0.mk (ho); clear HI0; clear HB; clear HK; clear HO215; have HI0 := n0_; have HB := n1_; have HK := n2_; have HO218 := n3_; clear n0_ n1_ n2_ n3_; clear ho hb hg hat; obtain ⟨Ao73, co73, eo73⟩ := Kd.R_slice HO218.out; subst eo73) | ((with_reducible refine gate_callee (f := 61) rfl ?_); refine goesL_ (some 22) rfl rfl Try.func61 (by kernel_rfl) rfl #[.pointer (some ⟨g, 0, none⟩), .int .i64 (y216.length : Int)] rfl (by (try simp only [List.map_toArray, List.map_cons, List.map_nil]); first | done | rfl | (simp only [List.length_drop, List.length_take]; rfl)) ?_; (with_reducible refine (spec_l1Rd_pick.calls k g s0_0 s0_1 (y216.length : Int) t222 t223 w0 _ ?side1 ?side2 A12.out).mono ?_); (case side1 => repeat (first | (with_reducible first | exact HI0.out | apply IsS95.alloc | apply IsS95.drewN | apply IsS95.drew | apply IsS95.set_1) | exact HI0.out)); (case side2 => repeat (first | (with_reducible first | exact HB.out | apply below_alloc | apply pw_below_drewN | apply below_drew1 | refine below_set ?_ (IsS95.ge HI0.out)) | exact HB.out)); rintro e w74 ⟨rfl, hi, hb, hk⟩; refine ⟨_, rfl, ?_⟩; have n0_ := Aside0.mk (Kd.R_mono (Kd.R_keep (IsS95.apart (show IsS95 w0 _ g s0_0 s0_1 from by repeat (first | (with_reducible first | exact HI0.out | apply IsS95.alloc | apply IsS95.drewN | apply IsS95.drew | apply IsS95.set_1) | exact HI0.out)) (by (with_reducible repeat (first | apply Kd.R_alloc | apply Kd.R_drewN | apply Kd.R_drew)); exact HO218.out) (by decide)) hk (fun _ h => h.2)) (fun _ h => h.1)); have n1_ := Aside0.mk (KeepBut.trans (by repeat (first | (with_reducible first | exact HK.out | apply KeepBut.set_ | apply keep_drewN | apply keep_drew | apply keep_alloc) | exact HK.out)) hk (.inl rfl)); have n2_ := Aside0.mk (hb); have n3_ := Aside0.mk (hi); clear HO218; clear HK; clear HB; clear HI0; have HO218 := n0_; have HK := n1_; have HB := n2_; have HI0 := n3_; clear n0_ n1_ n2_ n3_; (try clear hb); (try clear hb2); (try clear hk); (try clear hi)) | ((with_reducible refine gate_callee (f := 61) rfl ?_); refine goesL_ (some 24) rfl rfl Try.func61 (by kernel_rfl) rfl #[.pointer (some ⟨g, 0, none⟩), .int .i64 6] rfl (by (try simp only [List.map_toArray, List.map_cons, List.map_nil]); first | done | rfl | (simp only [List.length_drop, List.length_take]; rfl)) ?_; (with_reducible refine (spec_l1Rd_pick.calls k g s0_0 t223 6 t224 t225 w0 _ ?side1 ?side2 A13.out).mono ?_); (case side1 => repeat (first | (with_reducible first | exact HI0.out | apply IsS95.alloc | apply IsS95.drewN | apply IsS95.drew | apply IsS95.set_1) | exact HI0.out)); (case side2 => repeat (first | (with_reducible first | exact HB.out | apply below_alloc | apply pw_below_drewN | apply below_drew1 | refine below_set ?_ (IsS95.ge HI0.out)) | exact HB.out)); rintro e w75 ⟨rfl, hi, hb, hk⟩; refine ⟨_, rfl, ?_⟩; have n0_ := Aside0.mk (Kd.R_mono (Kd.R_keep (IsS95.apart (show IsS95 w0 _ g s0_0 t223 from by repeat (first | (with_reducible first | exact HI0.out | apply IsS95.alloc | apply IsS95.drewN | apply IsS95.drew | apply IsS95.set_1) | exact HI0.out)) (by (with_reducible repeat (first | apply Kd.R_alloc | apply Kd.R_drewN | apply Kd.R_drew)); exact HO218.out) (by decide)) hk (fun _ h => h.2)) (fun _ h => h.1)); have n1_ := Aside0.mk (KeepBut.trans (by repeat (first | (with_reducible first | exact HK.out | apply KeepBut.set_ | apply keep_drewN | apply keep_drew | apply keep_alloc) | exact HK.out)) hk (.inl rfl)); have n2_ := Aside0.mk (hb); have n3_ := Aside0.mk (hi); clear HO218; clear HK; clear HB; clear HI0; have HO218 := n0_; have HK := n1_; have HB := n2_; have HI0 := n3_; clear n0_ n1_ n2_ n3_; (try clear hb); (try clear hb2); (try clear hk); (try clear hi)) | ((with_reducible refine gate_dst (N := 75) rfl ?_); refine Kd.R_lit (Kd.int .i64) _ 3 ?hg (N := 75) ?hd (xs := ([(-1), 10] : List Int)) (inner := [.int .i64 (-1), .int .i64 10]) (ok := fun _ => True) (okp := fun _ => True) ?hr ?hp (fun _ hk => hk) trivial (Below.refl _ _) (Nat.le_refl _) (by simp) ?_; (case hd => rfl); (case hg => rfl); (case hr => first | (go_simp; done) | (go_simp; rfl)); (case hp => exact (Reps.one (show Kd.M (Kd.int .i64) _ _ _ (-1) [.int .i64 (-1)] from rfl) (Reps.one (show Kd.M (Kd.int .i64) _ _ _ 10 [.int .i64 10] from rfl) (Reps.none _ _)))); intro v246 w76 ho77 hb hg_ hnew_; clear hg_ hnew_; (first | rw [← Ny245.out] at ho77 | (simp only [Int.reduceToNat] at ho77; rw [← Ny245.out] at ho77)); have n0_ := Aside0.mk (Kd.R_below (by (with_reducible repeat (first | apply Kd.R_alloc | apply Kd.R_drewN | apply Kd.R_drew)); exact HO218.out) hb); have n1_ := Aside0.mk (Kd.R_lower ho77 (keep_size (w := w) (g := g) (row := none) (by repeat (first | (with_reducible first | exact HK.out | apply KeepBut.set_ | apply keep_drewN | apply keep_drew | apply keep_alloc) | exact HK.out)))); have n2_ := Aside0.mk (IsS95.below (by repeat (first | (with_reducible first | exact HI0.out | apply IsS95.alloc | apply IsS95.drewN | apply IsS95.drew | apply IsS95.set_1) | exact HI0.out)) hb); have n3_ := Aside0.mk (KeepBut.trans (by repeat (first | (with_reducible first | exact HK.out | apply KeepBut.set_ | apply keep_drewN | apply keep_drew | apply keep_alloc) | exact HK.out)) (KeepBut.of_below hb g none) (.inl rfl)); have n4_ := Aside0.mk (below_step (by repeat (first | (with_reducible first | exact HB.out | apply below_alloc | apply pw_below_drewN | apply below_drew1 | refine below_set ?_ (IsS95.ge HI0.out)) | exact HB.out)) hb); clear HO218; clear HI0; clear HK; clear HB; have HO218 := n0_; have HO247 := n1_; have HI0 := n2_; have HK := n3_; have HB := n4_; clear n0_ n1_ n2_ n3_ n4_; clear hb ho77; obtain ⟨Ao78, co78, eo78⟩ := Kd.R_slice HO247.out; subst eo78) | ((with_reducible refine gate_callee (f := 94) rfl ?_); refine goesL_ (some 76) rfl rfl Try.func94 (by kernel_rfl) rfl #[.pointer (some ⟨g, 0, none⟩), .slice Ao78 y245.length co78] rfl (by (try simp only [List.map_toArray, List.map_cons, List.map_nil]); first | done | rfl | (simp only [List.length_drop, List.length_take]; rfl)) ?_; (with_reducible refine (spec_l1Rd_one.calls k g s0_0 t225 _ _ y245 t248 t249 w0 _ ?side1 ?side2 ?side3 ?side4 ?side5 A66.out).mono ?_); (case side1 => repeat (first | (with_reducible first | exact HI0.out | apply IsS95.alloc | apply IsS95.drewN | apply IsS95.drew | apply IsS95.set_1) | exact HI0.out)); (case side2 => repeat (first | (with_reducible first | exact HB.out | apply below_alloc | apply pw_below_drewN | apply below_drew1 | refine below_set ?_ (IsS95.ge HI0.out)) | exact HB.out)); (case side3 => repeat (first | exact (Kd.R_reads' HO247.out).2.2 | (with_reducible refine Kd.C_alloc ?_ _) | (with_reducible refine Kd.C_drewN ?_ _) | (with_reducible refine Kd.C_drew ?_))); (case side4 => exact (Kd.R_reads' HO247.out).2.1); (case side5 => exact far_slice (IsS95.own_ne HI0.out HO247.out (by decide))); rintro e w79 ⟨rfl, hi, hb, hk⟩; refine ⟨_, rfl, ?_⟩; have n0_ := Aside0.mk (Kd.R_mono (Kd.R_keep (IsS95.apart (show IsS95 w0 _ g s0_0 t225 from by repeat (first | (with_reducible first | exact HI0.out | apply IsS95.alloc | apply IsS95.drewN | apply IsS95.drew | apply IsS95.set_1) | exact HI0.out)) (by (with_reducible repeat (first | apply Kd.R_alloc | apply Kd.R_drewN | apply Kd.R_drew)); exact HO218.out) (by decide)) hk (fun _ h => h.2)) (fun _ h => h.1)); have n1_ := Aside0.mk (Kd.R_mono (Kd.R_keep (IsS95.apart (show IsS95 w0 _ g s0_0 t225 from by repeat (first | (with_reducible first | exact HI0.out | apply IsS95.alloc | apply IsS95.drewN | apply IsS95.drew | apply IsS95.set_1) | exact HI0.out)) (by (with_reducible repeat (first | apply Kd.R_alloc | apply Kd.R_drewN | apply Kd.R_drew)); exact HO247.out) (by decide)) hk (fun _ h => h.2)) (fun _ h => h.1)); have n2_ := Aside0.mk (KeepBut.trans (by repeat (first | (with_reducible first | exact HK.out | apply KeepBut.set_ | apply keep_drewN | apply keep_drew | apply keep_alloc) | exact HK.out)) hk (.inl rfl)); have n3_ := Aside0.mk (hb); have n4_ := Aside0.mk (hi); clear HO218; clear HO247; clear HK; clear HB; clear HI0; have HO218 := n0_; have HO247 := n1_; have HK := n2_; have HB := n3_; have HI0 := n4_; clear n0_ n1_ n2_ n3_ n4_; (try clear hb); (try clear hb2); (try clear hk); (try clear hi); have p69 : 0 ≤ (t222 : Int) := of_decide_eq_true (by first | (with_reducible assumption) | assumption); have q69 : (t222 : Int) < ((y216.length : Int) : Int) := of_decide_eq_true (by first | (with_reducible assumption) | assumption); obtain ⟨go69, co69, eo69, gb69, gl69, cl69, HG69⟩ := Kd.R_form HO218.out (by omega); (first | cases eo69 | (injection eo69 with ea_ en_ ec_; (first | subst ea_ | (injection ea_ with ea_; subst ea_)); subst ec_; clear en_)); have GB69 := Aside0.mk gb69; have GG69 := Aside0.mk HG69; clear gb69 gl69 HG69; obtain ⟨ce69, hcl69, hM69, hcc69, hfr69⟩ := Kd.R_elem HO218.out z50 (t222 : Int) p69 q69; obtain rfl := k50_openM hM69; have hx69_0 : w79.cell? ⟨go69, (t222 : Int).toNat * 4, none⟩ = some (.int .i64 ((rd_T50 y216 t222).f0)) := hcc69 0 _ rfl; have hx69_1 : w79.cell? ⟨go69, (t222 : Int).toNat * 4 + 1, none⟩ = some (.int .i64 ((rd_T50 y216 t222).f1)) := hcc69 1 _ rfl; have hx69_2 : w79.cell? ⟨go69, (t222 : Int).toNat * 4 + 2, none⟩ = some (.int .i64 ((rd_T50 y216 t222).f2)) := hcc69 2 _ rfl; have hx69_3 : w79.cell? ⟨go69, (t222 : Int).toNat * 4 + 3, none⟩ = some (.int .i64 ((rd_T50 y216 t222).f3)) := hcc69 3 _ rfl; have hf69_0 : w79.frozen? ⟨go69, (t222 : Int).toNat * 4, none⟩ = false := hfr69 0; have hf69_1 : w79.frozen? ⟨go69, (t222 : Int).toNat * 4 + 1, none⟩ = false := hfr69 1; have hf69_2 : w79.frozen? ⟨go69, (t222 : Int).toNat * 4 + 2, none⟩ = false := hfr69 2; have hf69_3 : w79.frozen? ⟨go69, (t222 : Int).toNat * 4 + 3, none⟩ = false := hfr69 3; clear hcl69 hcc69 hfr69 hM69; replace p69 := eq_true p69; replace q69 := eq_true q69; have HX80 := Aside0.mk (show Kd.R k50 50 w79 w.heap.size (fun _ => True) (.slice (some ⟨go69, 0, none⟩) y216.length co73) y216 from (by (with_reducible repeat (first | apply Kd.R_alloc | apply Kd.R_drewN | apply Kd.R_drew)); exact HO218.out)); obtain ⟨ce80, hcl80, hM80, hcc80, hfr80⟩ := Kd.R_elem HX80.out z50 (t222 : Int) (of_decide_eq_true (by first | (with_reducible assumption) | assumption)) (by have h_ : (t222 : Int) < ((y216.length : Int) : Int) := of_decide_eq_true (by first | (with_reducible assumption) | assumption); first | exact h_ | (have e_ := (Kd.R_reads' HO218.out).1; omega) | simpa using h_); obtain rfl := k50_openM hM80; have HP80 := Kd.R_seg HX80.out (t222 : Int) (of_decide_eq_true (by first | (with_reducible assumption) | assumption)) (by have h_ : (t222 : Int) < ((y216.length : Int) : Int) := of_decide_eq_true (by first | (with_reducible assumption) | assumption); first | exact h_ | (have e_ := (Kd.R_reads' HO218.out).1; omega) | simpa using h_) (seg := [.int .i64 t248]) (j := 3) hcl80 hcc80 (show 4 ≤ 4 from by decide) (x' := (⟨(rd_T50 y216 t222).f0, (rd_T50 y216 t222).f1, (rd_T50 y216 t222).f2, t248⟩ : S50)) (k50_mkM _ _ _ (⟨(rd_T50 y216 t222).f0, (rd_T50 y216 t222).f1, (rd_T50 y216 t222).f2, t248⟩ : S50) ) (fun _ hk => hk); have hx80_3 := hcc80 3 _ rfl; (try simp only [show (k50).sz = 4 from rfl, Nat.mul_one, Nat.add_zero] at hx80_3); have hf80_3 := hfr80 3; (try simp only [show (k50).sz = 4 from rfl, Nat.mul_one, Nat.add_zero] at hf80_3); clear hcl80 hcc80 hfr80 hM80) | ((with_reducible refine gate_store (t := 3) (p := 78) rfl ?_); refine store_event (t := 3) (p := 78) (v := ?vo_w81) (w1 := (w79.setCell ⟨go69, (t222 : Int).toNat * 4 + 3, none⟩ (.int .i64 t248))) ?hg ?ho ?hn ?hr ?_; (case ho => rfl); (case hg => rfl); (case hn => rfl); (case hr => first | (go_simp; done) | (go_simp; rfl)); intro w81 hw; have hg : w79.grownBy w81 (some go69) := (by rw [hw]; exact HP80.2); have hp_ : Kd.R k50 50 w81 w.heap.size (fun _ => True) (.slice (some ⟨go69, 0, none⟩) y216.length co73) y250 := (by rw [hw, Ny250.out]; exact HP80.1); clear HP80; have n0_ := Aside0.mk (IsS95.grown (by repeat (first | (with_reducible first | exact HI0.out | apply IsS95.alloc | apply IsS95.drewN | apply IsS95.drew | apply IsS95.set_1) | exact HI0.out)) hg (IsS95.own_ne HI0.out HO218.out (by decide))); have n1_ := Aside0.mk (hp_); have n2_ := Aside0.mk (Kd.R_over' (v := (.slice (some ⟨go69, 0, none⟩) y216.length co73)) (by (with_reducible repeat (first | apply Kd.R_alloc | apply Kd.R_drewN | apply Kd.R_drew)); exact HO247.out) (Kd.R_typed HO218.out) (by decide) hg); have n3_ := Aside0.mk ((by rw [hw]; exact below_set (HB.out) (Nat.le_trans HL.out GB69.out) : Below w0.heap.size w0 w81)); have n4_ := Aside0.mk (KeepBut.trans (by repeat (first | (with_reducible first | exact HK.out | apply KeepBut.set_ | apply keep_drewN | apply keep_drew | apply keep_alloc) | exact HK.out)) (KeepBut.of_grown hg g) (Kd.R_base2 HO218.out)); clear HI0; clear HO218; clear HO247; clear HB; clear HK; have HI0 := n0_; have HO218 := n1_; have HO247 := n2_; have HB := n3_; have HK := n4_; clear n0_ n1_ n2_ n3_ n4_; clear hg hw hp_))
         go_ret
         exact ⟨_, by first | rfl | (simp [errW_none, errW_some] <;> rfl) | (simp [*, errW_none, errW_some] <;> rfl), by (with_reducible repeat (first | apply Kd.R_alloc | apply Kd.R_drewN | apply Kd.R_drew)); exact HO218.out, by repeat (first | (with_reducible first | exact HI0.out | apply IsS95.alloc | apply IsS95.drewN | apply IsS95.drew | apply IsS95.set_1) | exact HI0.out), by repeat (first | (with_reducible first | exact HB.out | apply below_alloc | apply pw_below_drewN | apply below_drew1 | refine below_set ?_ (IsS95.ge HI0.out)) | exact HB.out), by repeat (first | (with_reducible first | exact HK.out | apply KeepBut.set_ | apply keep_drewN | apply keep_drew | apply keep_alloc) | exact HK.out)⟩
        ·rw [if_neg c68] at H
         exact absurd H (by simp)
       ·rw [if_neg c67] at H
        exact absurd H (by simp)
      ·rw [if_neg c65] at H
       have c65b0 : (t224 == 3) = false := beq_eq_false_iff_ne.mpr c65
       have c65b1 : (t224 != 3) = true := bne_iff_ne.mpr c65
       by_cases c82 : t224 = 4
       ·rw [if_pos c82] at H
        have c82b0 : (t224 == 4) = true := beq_iff_eq.mpr c82
        have c82b1 : (t224 != 4) = false := bne_eq_false_iff_eq.mpr c82
        clear c82
        by_cases c83 : 0 ≤ t222
        ·rw [if_pos c83] at H
         have c83b0 : decide (0 ≤ t222) = true := decide_eq_true c83
         clear c83
         by_cases c84 : t222 < (y216.length : Int)
         ·rw [if_pos c84] at H
          have c84b0 : decide (t222 < (y216.length : Int)) = true := decide_eq_true c84
          clear c84
          by_cases c85 : y216.length < 4398046511104
          ·rw [if_pos c85] at H
           have LMc85 := Aside0.mk c85
           clear c85
           obtain ⟨y252, hy252⟩ : ∃ y_ : List (S50), y_ = (y216 ++ [(⟨(rd_T50 y216 t222).f0, (rd_T50 y216 t222).f1, (rd_T50 y216 t222).f2, (rd_T50 y216 t222).f3⟩ : S50)]) := ⟨_, rfl⟩
           replace H : (some (y252, t225)) = some (r1, r2) := by first | (rw [hy252]; with_reducible exact H) | (have H2_ := (Option.bind_some _ _).symm.trans H; rw [hy252]; with_reducible exact H2_) | (have H2_ := (Option.bind_some _ _).symm.trans H; with_reducible exact H2_) | with_reducible exact H | (rw [hy252]; exact H) | exact H
           have Ny252 := Aside0.mk hy252
           clear hy252
           simp only [Option.some.injEq, Prod.mk.injEq] at H
           obtain ⟨rfl, rfl⟩ := H
           go_enter Try.func109, Try.ntmps109
           go_wp2_with (first | ((with_reducible refine gate_dst (N := 9) rfl ?_); refine Kd.R_lit k50 _ 50 ?hg (N := 9) ?hd (xs := ([] : List (S50))) (inner := []) (ok := fun _ => True) (okp := fun _ => True) ?hr ?hp (fun _ hk => hk) trivial (Below.refl _ _) (Nat.le_refl _) (by simp) ?_; (case hd => rfl); (case hg => rfl); (case hr => first | (go_simp; done) | (go_simp; rfl)); (case hp => exact (Reps.none _ _)); intro v214 w86 ho87 hb hg_ hnew_; clear hg_ hnew_; (first | rw [← Ny213.out] at ho87 | (simp only [Int.reduceToNat] at ho87; rw [← Ny213.out] at ho87)); have n0_ := Aside0.mk (Kd.R_lower ho87 (keep_size (w := w) (g := g) (row := none) (by repeat (first | (with_reducible first | exact HK.out | apply KeepBut.set_ | apply keep_drewN | apply keep_drew | apply keep_alloc) | exact HK.out)))); have n1_ := Aside0.mk (IsS95.below (by repeat (first | (with_reducible first | exact HI0.out | apply IsS95.alloc | apply IsS95.drewN | apply IsS95.drew | apply IsS95.set_1) | exact HI0.out)) hb); have n2_ := Aside0.mk (KeepBut.trans (by repeat (first | (with_reducible first | exact HK.out | apply KeepBut.set_ | apply keep_drewN | apply keep_drew | apply keep_alloc) | exact HK.out)) (KeepBut.of_below hb g none) (.inl rfl)); have n3_ := Aside0.mk (below_step (by repeat (first | (with_reducible first | exact HB.out | apply below_alloc | apply pw_below_drewN | apply below_drew1 | refine below_set ?_ (IsS95.ge HI0.out)) | exact HB.out)) hb); clear HI0; clear HK; clear HB; have HO215 := n0_; have HI0 := n1_; have HK := n2_; have HB := n3_; clear n0_ n1_ n2_ n3_; clear hb ho87) | ((with_reducible refine gate_builtin (b := .append) (xs := #[.tmp 9, .tmp 10]) rfl ?_); at_builtin; refine Kd.R_append_rows k50 w.heap.size rfl (.tmp 9) (.tmp 10) 38 50 (.agg #[(.int .i64 0), (.int .i64 0), (.int .i64 0), (.int .i64 0)]) 32 rfl Try.underlying38 info50 rfl (by decide) (by omega) v214 y213 l1 _ _ _ (fun _ => True) (fun _ => False) rfl rfl ?aO ?aR (fun _ _ h => h) (fun _ h => h.elim) ?aF (Below.refl _ _) ?aS ?aL ?_; (case aR => exact Kd.C_foot_now HR1.out (by repeat (first | (with_reducible first | exact HK.out | apply KeepBut.set_ | apply keep_drewN | apply keep_drew | apply keep_alloc) | exact HK.out))); (case aF => exact (fun _ _ => trivial)); (case aO => exact (by (with_reducible repeat (first | apply Kd.R_alloc | apply Kd.R_drewN | apply Kd.R_drew)); exact HO215.out)); (case aS => exact (keep_size (w := w) (g := g) (row := none) (by repeat (first | (with_reducible first | exact HK.out | apply KeepBut.set_ | apply keep_drewN | apply keep_drew | apply keep_alloc) | exact HK.out)))); (case aL => have := LMc4.out; omega); intro v217 w88 ho hb hg hat; rw [← Ny216.out] at ho; have n0_ := Aside0.mk (IsS95.grown (by repeat (first | (with_reducible first | exact HI0.out | apply IsS95.alloc | apply IsS95.drewN | apply IsS95.drew | apply IsS95.set_1) | exact HI0.out)) hg (IsS95.own_ne HI0.out HO215.out (by decide))); have n1_ := Aside0.mk (below_weaken (by repeat (first | (with_reducible first | exact HB.out | apply below_alloc | apply pw_below_drewN | apply below_drew1 | refine below_set ?_ (IsS95.ge HI0.out)) | exact HB.out)) HL.out hb); have n2_ := Aside0.mk (KeepBut.trans (by repeat (first | (with_reducible first | exact HK.out | apply KeepBut.set_ | apply keep_drewN | apply keep_drew | apply keep_alloc) | exact HK.out)) (KeepBut.of_grown hg g) (Kd.R_base2 HO215.out)); have n3_ := Aside0.mk (ho); clear HI0; clear HB; clear HK; clear HO215; have HI0 := n0_; have HB := n1_; have HK := n2_; have HO218 := n3_; clear n0_ n1_ n2_ n3_; clear ho hb hg hat; obtain ⟨Ao89, co89, eo89⟩ := Kd.R_slice HO218.out; subst eo89) | ((with_reducible refine gate_callee (f := 61) rfl ?_); refine goesL_ (some 22) rfl rfl Try.func61 (by kernel_rfl) rfl #[.pointer (some ⟨g, 0, none⟩), .int .i64 (y216.length : Int)] rfl (by (try simp only [List.map_toArray, List.map_cons, List.map_nil]); first | done | rfl | (simp only [List.length_drop, List.length_take]; rfl)) ?_; (with_reducible refine (spec_l1Rd_pick.calls k g s0_0 s0_1 (y216.length : Int) t222 t223 w0 _ ?side1 ?side2 A12.out).mono ?_); (case side1 => repeat (first | (with_reducible first | exact HI0.out | apply IsS95.alloc | apply IsS95.drewN | apply IsS95.drew | apply IsS95.set_1) | exact HI0.out)); (case side2 => repeat (first | (with_reducible first | exact HB.out | apply below_alloc | apply pw_below_drewN | apply below_drew1 | refine below_set ?_ (IsS95.ge HI0.out)) | exact HB.out)); rintro e w90 ⟨rfl, hi, hb, hk⟩; refine ⟨_, rfl, ?_⟩; have n0_ := Aside0.mk (Kd.R_mono (Kd.R_keep (IsS95.apart (show IsS95 w0 _ g s0_0 s0_1 from by repeat (first | (with_reducible first | exact HI0.out | apply IsS95.alloc | apply IsS95.drewN | apply IsS95.drew | apply IsS95.set_1) | exact HI0.out)) (by (with_reducible repeat (first | apply Kd.R_alloc | apply Kd.R_drewN | apply Kd.R_drew)); exact HO218.out) (by decide)) hk (fun _ h => h.2)) (fun _ h => h.1)); have n1_ := Aside0.mk (KeepBut.trans (by repeat (first | (with_reducible first | exact HK.out | apply KeepBut.set_ | apply keep_drewN | apply keep_drew | apply keep_alloc) | exact HK.out)) hk (.inl rfl)); have n2_ := Aside0.mk (hb); have n3_ := Aside0.mk (hi); clear HO218; clear HK; clear HB; clear HI0; have HO218 := n0_; have HK := n1_; have HB := n2_; have HI0 := n3_; clear n0_ n1_ n2_ n3_; (try clear hb); (try clear hb2); (try clear hk); (try clear hi)) | ((with_reducible refine gate_callee (f := 61) rfl ?_); refine goesL_ (some 24) rfl rfl Try.func61 (by kernel_rfl) rfl #[.pointer (some ⟨g, 0, none⟩), .int .i64 6] rfl (by (try simp only [List.map_toArray, List.map_cons, List.map_nil]); first | done | rfl | (simp only [List.length_drop, List.length_take]; rfl)) ?_; (with_reducible refine (spec_l1Rd_pick.calls k g s0_0 t223 6 t224 t225 w0 _ ?side1 ?side2 A13.out).mono ?_); (case side1 => repeat (first | (with_reducible first | exact HI0.out | apply IsS95.alloc | apply IsS95.drewN | apply IsS95.drew | apply IsS95.set_1) | exact HI0.out)); (case side2 => repeat (first | (with_reducible first | exact HB.out | apply below_alloc | apply pw_below_drewN | apply below_drew1 | refine below_set ?_ (IsS95.ge HI0.out)) | exact HB.out)); rintro e w91 ⟨rfl, hi, hb, hk⟩; refine ⟨_, rfl, ?_⟩; have n0_ := Aside0.mk (Kd.R_mono (Kd.R_keep (IsS95.apart (show IsS95 w0 _ g s0_0 t223 from by repeat (first | (with_reducible first | exact HI0.out | apply IsS95.alloc | apply IsS95.drewN | apply IsS95.drew | apply IsS95.set_1) | exact HI0.out)) (by (with_reducible repeat (first | apply Kd.R_alloc | apply Kd.R_drewN | apply Kd.R_drew)); exact HO218.out) (by decide)) hk (fun _ h => h.2)) (fun _ h => h.1)); have n1_ := Aside0.mk (KeepBut.trans (by repeat (first | (with_reducible first | exact HK.out | apply KeepBut.set_ | apply keep_drewN | apply keep_drew | apply keep_alloc) | exact HK.out)) hk (.inl rfl)); have n2_ := Aside0.mk (hb); have n3_ := Aside0.mk (hi); clear HO218; clear HK; clear HB; clear HI0; have HO218 := n0_; have HK := n1_; have HB := n2_; have HI0 := n3_; clear n0_ n1_ n2_ n3_; (try clear hb); (try clear hb2); (try clear hk); (try clear hi); have p251 : 0 ≤ (t222 : Int) := of_decide_eq_true (by first | (with_reducible assumption) | assumption); have q251 : t222 < (y216.length : Int) := of_decide_eq_true (by first | (with_reducible assumption) | assumption); obtain ⟨ad251, e251, hx251_0, hx251_1, hx251_2, hx251_3⟩ := at_T50 (Kd.R_reads' HO218.out).2.2 t222 p251 q251; cases e251; replace p251 := eq_true p251; replace q251 := eq_true q251) | ((with_reducible refine gate_builtin (b := .append) (xs := #[.tmp 81, .tmp 86]) rfl ?_); at_builtin; refine Kd.R_append k50 w.heap.size rfl (.tmp 81) (.tmp 86) 38 50 (.agg #[(.int .i64 0), (.int .i64 0), (.int .i64 0), (.int .i64 0)]) 32 rfl Try.underlying38 info50 rfl (by decide) (by omega) (.slice (some ad251) y216.length co89) y216 (⟨(rd_T50 y216 t222).f0, (rd_T50 y216 t222).f1, (rd_T50 y216 t222).f2, (rd_T50 y216 t222).f3⟩ : S50) [.int .i64 ((rd_T50 y216 t222).f0), .int .i64 ((rd_T50 y216 t222).f1), .int .i64 ((rd_T50 y216 t222).f2), .int .i64 ((rd_T50 y216 t222).f3)] (fun _ => True) (fun _ => False) rfl rfl ?aP (fun _ hk => hk.elim) ?aF ?aO (Below.refl _ _) ?aS ?aL ?_; (case aP => exact k50_mkM _ _ _ (⟨(rd_T50 y216 t222).f0, (rd_T50 y216 t222).f1, (rd_T50 y216 t222).f2, (rd_T50 y216 t222).f3⟩ : S50)); (case aF => exact (fun _ _ => trivial)); (case aO => exact (by (with_reducible repeat (first | apply Kd.R_alloc | apply Kd.R_drewN | apply Kd.R_drew)); exact HO218.out)); (case aS => exact (keep_size (w := w) (g := g) (row := none) (by repeat (first | (with_reducible first | exact HK.out | apply KeepBut.set_ | apply keep_drewN | apply keep_drew | apply keep_alloc) | exact HK.out)))); (case aL => have := LMc85.out; omega); intro v253 w92 ho hb hg hat; rw [← Ny252.out] at ho; have n0_ := Aside0.mk (IsS95.grown (by repeat (first | (with_reducible first | exact HI0.out | apply IsS95.alloc | apply IsS95.drewN | apply IsS95.drew | apply IsS95.set_1) | exact HI0.out)) hg (IsS95.own_ne HI0.out HO218.out (by decide))); have n1_ := Aside0.mk (below_weaken (by repeat (first | (with_reducible first | exact HB.out | apply below_alloc | apply pw_below_drewN | apply below_drew1 | refine below_set ?_ (IsS95.ge HI0.out)) | exact HB.out)) HL.out hb); have n2_ := Aside0.mk (KeepBut.trans (by repeat (first | (with_reducible first | exact HK.out | apply KeepBut.set_ | apply keep_drewN | apply keep_drew | apply keep_alloc) | exact HK.out)) (KeepBut.of_grown hg g) (Kd.R_base2 HO218.out)); have n3_ := Aside0.mk (ho); clear HI0; clear HB; clear HK; clear HO218; have HI0 := n0_; have HB := n1_; have HK := n2_; have HO254 := n3_; clear n0_ n1_ n2_ n3_; clear ho hb hg hat))
           go_ret
           exact ⟨_, by first | rfl | (simp [errW_none, errW_some] <;> rfl) | (simp [*, errW_none, errW_some] <;> rfl), by (with_reducible repeat (first | apply Kd.R_alloc | apply Kd.R_drewN | apply Kd.R_drew)); exact HO254.out, by repeat (first | (with_reducible first | exact HI0.out | apply IsS95.alloc | apply IsS95.drewN | apply IsS95.drew | apply IsS95.set_1) | exact HI0.out), by repeat (first | (with_reducible first | exact HB.out | apply below_alloc | apply pw_below_drewN | apply below_drew1 | refine below_set ?_ (IsS95.ge HI0.out)) | exact HB.out), by repeat (first | (with_reducible first | exact HK.out | apply KeepBut.set_ | apply keep_drewN | apply keep_drew | apply keep_alloc) | exact HK.out)⟩
          ·rw [if_neg c85] at H
           exact absurd H (by simp)
         ·rw [if_neg c84] at H
          exact absurd H (by simp)
        ·rw [if_neg c83] at H
         exact absurd H (by simp)
       ·rw [if_neg c82] at H
        have c82b0 : (t224 == 4) = false := beq_eq_false_iff_ne.mpr c82
        have c82b1 : (t224 != 4) = true := bne_iff_ne.mpr c82
        have H' := Aside0.mk H
        clear H
        go_enter Try.func109, Try.ntmps109
        go_wp2_with (first | ((with_reducible refine gate_dst (N := 9) rfl ?_); refine Kd.R_lit k50 _ 50 ?hg (N := 9) ?hd (xs := ([] : List (S50))) (inner := []) (ok := fun _ => True) (okp := fun _ => True) ?hr ?hp (fun _ hk => hk) trivial (Below.refl _ _) (Nat.le_refl _) (by simp) ?_; (case hd => rfl); (case hg => rfl); (case hr => first | (go_simp; done) | (go_simp; rfl)); (case hp => exact (Reps.none _ _)); intro v214 w93 ho94 hb hg_ hnew_; clear hg_ hnew_; (first | rw [← Ny213.out] at ho94 | (simp only [Int.reduceToNat] at ho94; rw [← Ny213.out] at ho94)); have n0_ := Aside0.mk (Kd.R_lower ho94 (keep_size (w := w) (g := g) (row := none) (by repeat (first | (with_reducible first | exact HK.out | apply KeepBut.set_ | apply keep_drewN | apply keep_drew | apply keep_alloc) | exact HK.out)))); have n1_ := Aside0.mk (IsS95.below (by repeat (first | (with_reducible first | exact HI0.out | apply IsS95.alloc | apply IsS95.drewN | apply IsS95.drew | apply IsS95.set_1) | exact HI0.out)) hb); have n2_ := Aside0.mk (KeepBut.trans (by repeat (first | (with_reducible first | exact HK.out | apply KeepBut.set_ | apply keep_drewN | apply keep_drew | apply keep_alloc) | exact HK.out)) (KeepBut.of_below hb g none) (.inl rfl)); have n3_ := Aside0.mk (below_step (by repeat (first | (with_reducible first | exact HB.out | apply below_alloc | apply pw_below_drewN | apply below_drew1 | refine below_set ?_ (IsS95.ge HI0.out)) | exact HB.out)) hb); clear HI0; clear HK; clear HB; have HO215 := n0_; have HI0 := n1_; have HK := n2_; have HB := n3_; clear n0_ n1_ n2_ n3_; clear hb ho94) | ((with_reducible refine gate_builtin (b := .append) (xs := #[.tmp 9, .tmp 10]) rfl ?_); at_builtin; refine Kd.R_append_rows k50 w.heap.size rfl (.tmp 9) (.tmp 10) 38 50 (.agg #[(.int .i64 0), (.int .i64 0), (.int .i64 0), (.int .i64 0)]) 32 rfl Try.underlying38 info50 rfl (by decide) (by omega) v214 y213 l1 _ _ _ (fun _ => True) (fun _ => False) rfl rfl ?aO ?aR (fun _ _ h => h) (fun _ h => h.elim) ?aF (Below.refl _ _) ?aS ?aL ?_; (case aR => exact Kd.C_foot_now HR1.out (by repeat (first | (with_reducible first | exact HK.out | apply KeepBut.set_ | apply keep_drewN | apply keep_drew | apply keep_alloc) | exact HK.out))); (case aF => exact (fun _ _ => trivial)); (case aO => exact (by (with_reducible repeat (first | apply Kd.R_alloc | apply Kd.R_drewN | apply Kd.R_drew)); exact HO215.out)); (case aS => exact (keep_size (w := w) (g := g) (row := none) (by repeat (first | (with_reducible first | exact HK.out | apply KeepBut.set_ | apply keep_drewN | apply keep_drew | apply keep_alloc) | exact HK.out)))); (case aL => have := LMc4.out; omega); intro v217 w95 ho hb hg hat; rw [← Ny216.out] at ho; have n0_ := Aside0.mk (IsS95.grown (by repeat (first | (with_reducible first | exact HI0.out | apply IsS95.alloc | apply IsS95.drewN | apply IsS95.drew | apply IsS95.set_1) | exact HI0.out)) hg (IsS95.own_ne HI0.out HO215.out (by decide))); have n1_ := Aside0.mk (below_weaken (by repeat (first | (with_reducible first | exact HB.out | apply below_alloc | apply pw_below_drewN | apply below_drew1 | refine below_set ?_ (IsS95.ge HI0.out)) | exact HB.out)) HL.out hb); have n2_ := Aside0.mk (KeepBut.trans (by repeat (first | (with_reducible first | exact HK.out | apply KeepBut.set_ | apply keep_drewN | apply keep_drew | apply keep_alloc) | exact HK.out)) (KeepBut.of_grown hg g) (Kd.R_base2 HO215.out)); have n3_ := Aside0.mk (ho); clear HI0; clear HB; clear HK; clear HO215; have HI0 := n0_; have HB := n1_; have HK := n2_; have HO218 := n3_; clear n0_ n1_ n2_ n3_; clear ho hb hg hat; obtain ⟨Ao96, co96, eo96⟩ := Kd.R_slice HO218.out; subst eo96) | ((with_reducible refine gate_callee (f := 61) rfl ?_); refine goesL_ (some 22) rfl rfl Try.func61 (by kernel_rfl) rfl #[.pointer (some ⟨g, 0, none⟩), .int .i64 (y216.length : Int)] rfl (by (try simp only [List.map_toArray, List.map_cons, List.map_nil]); first | done | rfl | (simp only [List.length_drop, List.length_take]; rfl)) ?_; (with_reducible refine (spec_l1Rd_pick.calls k g s0_0 s0_1 (y216.length : Int) t222 t223 w0 _ ?side1 ?side2 A12.out).mono ?_); (case side1 => repeat (first | (with_reducible first | exact HI0.out | apply IsS95.alloc | apply IsS95.drewN | apply IsS95.drew | apply IsS95.set_1) | exact HI0.out)); (case side2 => repeat (first | (with_reducible first | exact HB.out | apply below_alloc | apply pw_below_drewN | apply below_drew1 | refine below_set ?_ (IsS95.ge HI0.out)) | exact HB.out)); rintro e w97 ⟨rfl, hi, hb, hk⟩; refine ⟨_, rfl, ?_⟩; have n0_ := Aside0.mk (Kd.R_mono (Kd.R_keep (IsS95.apart (show IsS95 w0 _ g s0_0 s0_1 from by repeat (first | (with_reducible first | exact HI0.out | apply IsS95.alloc | apply IsS95.drewN | apply IsS95.drew | apply IsS95.set_1) | exact HI0.out)) (by (with_reducible repeat (first | apply Kd.R_alloc | apply Kd.R_drewN | apply Kd.R_drew)); exact HO218.out) (by decide)) hk (fun _ h => h.2)) (fun _ h => h.1)); have n1_ := Aside0.mk (KeepBut.trans (by repeat (first | (with_reducible first | exact HK.out | apply KeepBut.set_ | apply keep_drewN | apply keep_drew | apply keep_alloc) | exact HK.out)) hk (.inl rfl)); have n2_ := Aside0.mk (hb); have n3_ := Aside0.mk (hi); clear HO218; clear HK; clear HB; clear HI0; have HO218 := n0_; have HK := n1_; have HB := n2_; have HI0 := n3_; clear n0_ n1_ n2_ n3_; (try clear hb); (try clear hb2); (try clear hk); (try clear hi)) | ((with_reducible refine gate_callee (f := 61) rfl ?_); refine goesL_ (some 24) rfl rfl Try.func61 (by kernel_rfl) rfl #[.pointer (some ⟨g, 0, none⟩), .int .i64 6] rfl (by (try simp only [List.map_toArray, List.map_cons, List.map_nil]); first | done | rfl | (simp only [List.length_drop, List.length_take]; rfl)) ?_; (with_reducible refine (spec_l1Rd_pick.calls k g s0_0 t223 6 t224 t225 w0 _ ?side1 ?side2 A13.out).mono ?_); (case side1 => repeat (first | (with_reducible first | exact HI0.out | apply IsS95.alloc | apply IsS95.drewN | apply IsS95.drew | apply IsS95.set_1) | exact HI0.out)); (case side2 => repeat (first | (with_reducible first | exact HB.out | apply below_alloc | apply pw_below_drewN | apply below_drew1 | refine below_set ?_ (IsS95.ge HI0.out)) | exact HB.out)); rintro e w98 ⟨rfl, hi, hb, hk⟩; refine ⟨_, rfl, ?_⟩; have n0_ := Aside0.mk (Kd.R_mono (Kd.R_keep (IsS95.apart (show IsS95 w0 _ g s0_0 t223 from by repeat (first | (with_reducible first | exact HI0.out | apply IsS95.alloc | apply IsS95.drewN | apply IsS95.drew | apply IsS95.set_1) | exact HI0.out)) (by (with_reducible repeat (first | apply Kd.R_alloc | apply Kd.R_drewN | apply Kd.R_drew)); exact HO218.out) (by decide)) hk (fun _ h => h.2)) (fun _ h => h.1)); have n1_ := Aside0.mk (KeepBut.trans (by repeat (first | (with_reducible first | exact HK.out | apply KeepBut.set_ | apply keep_drewN | apply keep_drew | apply keep_alloc) | exact HK.out)) hk (.inl rfl)); have n2_ := Aside0.mk (hb); have n3_ := Aside0.mk (hi); clear HO218; clear HK; clear HB; clear HI0; have HO218 := n0_; have HK := n1_; have HB := n2_; have HI0 := n3_; clear n0_ n1_ n2_ n3_; (try clear hb); (try clear hb2); (try clear hk); (try clear hi)))
        go_loopg [7] k (fun kq v7 w' => ∃ (x7_1 : List (S50)), Aside0 (spec_l13SpoilSpans.l0 kq x7_1 t222 s0_0 t225 = some (r1, r2)) ∧ Aside0 (kq ≤ k) ∧ Aside0 (Kd.R k50 50 w' w.heap.size (fun _ => True) v7 x7_1) ∧ Aside0 (IsS95 w0 w' g s0_0 t225) ∧ Aside0 (KeepBut w w' g none) ∧ Aside0 (Below w0.heap.size w0 w'))
        case atStart => exact ⟨(y216), H', ⟨Nat.le_refl _⟩, ⟨by (with_reducible repeat (first | apply Kd.R_alloc | apply Kd.R_drewN | apply Kd.R_drew)); exact HO218.out⟩, ⟨by repeat (first | (with_reducible first | exact HI0.out | apply IsS95.alloc | apply IsS95.drewN | apply IsS95.drew | apply IsS95.set_1) | exact HI0.out)⟩, ⟨by repeat (first | (with_reducible first | exact HK.out | apply KeepBut.set_ | apply keep_drewN | apply keep_drew | apply keep_alloc) | exact HK.out)⟩, ⟨by repeat (first | (with_reducible first | exact HB.out | apply below_alloc | apply pw_below_drewN | apply below_drew1 | refine below_set ?_ (IsS95.ge HI0.out)) | exact HB.out)⟩⟩
        case round =>
         clear H'
         try clear c1
         try clear p1
         try clear q1
         try clear hx1
         try clear c2
         try clear p2
         try clear q2
         try clear hx2
         try clear c3
         try clear p3
         try clear q3
         try clear hx3
         try clear hf3
         try clear c4
         try clear hx4
         try clear hf4
         try clear c5
         try clear c5b0
         try clear c5b1
         try clear c5b2
         try clear p5
         try clear q5
         try clear hx5
         try clear hf5
         try clear c6
         try clear p6
         try clear q6
         try clear hx6
         try clear hf6
         try clear c8
         try clear hx8
         try clear hf8
         try clear c9
         try clear c10
         try clear c14
         try clear c14b0
         try clear c14b1
         try clear c16
         try clear c16b0
         try clear c17
         try clear c17b0
         try clear c18
         try clear p18
         try clear q18
         try clear hx18
         try clear hf18
         try clear p23
         try clear q23
         try clear hx23
         try clear p25
         try clear q25
         try clear hx25
         try clear c29
         try clear hx29
         try clear hf29
         try clear c31
         try clear c31b0
         try clear c31b1
         try clear c32
         try clear c32b0
         try clear c33
         try clear c33b0
         try clear c35
         try clear p35
         try clear q35
         try clear hx35
         try clear hf35
         try clear c46
         try clear hx46
         try clear hf46
         try clear c48
         try clear c48b0
         try clear c48b1
         try clear c50
         try clear c50b0
         try clear c51
         try clear c51b0
         try clear c52
         try clear p52
         try clear q52
         try clear hx52
         try clear hf52
         try clear c61
         try clear c63
         try clear hx63
         try clear hf63
         try clear p64
         try clear c65
         try clear c65b0
         try clear c65b1
         try clear c67
         try clear c67b0
         try clear c68
         try clear c68b0
         try clear c69
         try clear p69
         try clear q69
         try clear hx69
         try clear hf69
         try clear c80
         try clear hx80
         try clear hf80
         try clear c82
         try clear c82b0
         try clear c82b1
         try clear c83
         try clear c83b0
         try clear c84
         try clear c84b0
         try clear c85
         try clear c94
         try clear hx18_0
         try clear hx18_1
         try clear hx18_2
         try clear hx18_3
         try clear hx232_0
         try clear hx232_1
         try clear hx232_2
         try clear hx232_3
         try clear hx251_0
         try clear hx251_1
         try clear hx251_2
         try clear hx251_3
         try clear hx29_0
         try clear hx35_0
         try clear hx35_1
         try clear hx35_2
         try clear hx35_3
         try clear hx46_1
         try clear hx52_0
         try clear hx52_1
         try clear hx52_2
         try clear hx52_3
         try clear hx63_2
         try clear hx69_0
         try clear hx69_1
         try clear hx69_2
         try clear hx69_3
         try clear hx80_3
         try clear p18
         try clear p232
         try clear p251
         try clear p35
         try clear p52
         try clear p69
         try clear q18
         try clear q232
         try clear q251
         try clear q35
         try clear q52
         try clear q69
         obtain ⟨x7_1, HA, HK1, HO_7, HI0, HK, HB⟩ := hrel
         cases gk with
         | zero => exact absurd HA.out (by simp [spec_l13SpoilSpans.l0])
         | succ k1 =>
          have H := HA.out
          clear HA
          simp only [spec_l13SpoilSpans.l0] at H
          by_cases c99 : (x7_1.length : Int) ≤ 12
          ·rw [if_pos c99] at H
           have c99b0 : decide ((x7_1.length : Int) ≤ 12) = true := decide_eq_true c99
           have c99b1 : decide (x7_1.length ≤ 12) = true := decide_eq_true (by omega)
           clear c99
           by_cases c100 : 0 ≤ t222
           ·rw [if_pos c100] at H
            have c100b0 : decide (0 ≤ t222) = true := decide_eq_true c100
            clear c100
            by_cases c101 : t222 < (x7_1.length : Int)
            ·rw [if_pos c101] at H
             have c101b0 : decide (t222 < (x7_1.length : Int)) = true := decide_eq_true c101
             clear c101
             by_cases c102 : x7_1.length < 4398046511104
             ·rw [if_pos c102] at H
              have LMc102 := Aside0.mk c102
              clear c102
              obtain ⟨y256, hy256⟩ : ∃ y_ : List (S50), y_ = (x7_1 ++ [(⟨(rd_T50 x7_1 t222).f0, (rd_T50 x7_1 t222).f1, (rd_T50 x7_1 t222).f2, (rd_T50 x7_1 t222).f3⟩ : S50)]) := ⟨_, rfl⟩
              replace H : (spec_l13SpoilSpans.l0 k1 y256 t222 s0_0 t225) = some (r1, r2) := by first | (rw [hy256]; with_reducible exact H) | (have H2_ := (Option.bind_some _ _).symm.trans H; rw [hy256]; with_reducible exact H2_) | (have H2_ := (Option.bind_some _ _).symm.trans H; with_reducible exact H2_) | with_reducible exact H | (rw [hy256]; exact H) | exact H
              have Ny256 := Aside0.mk hy256
              clear hy256
              have H' := Aside0.mk H
              clear H
              obtain ⟨Ao103, co103, eo103⟩ := Kd.R_slice HO_7.out
              subst eo103
              have p255 : 0 ≤ (t222 : Int) := of_decide_eq_true (by first | (with_reducible assumption) | assumption)
              have q255 : t222 < (x7_1.length : Int) := of_decide_eq_true (by first | (with_reducible assumption) | assumption)
              obtain ⟨ad255, e255, hx255_0, hx255_1, hx255_2, hx255_3⟩ := at_T50 (Kd.R_reads' HO_7.out).2.2 t222 p255 q255
              cases e255
              replace p255 := eq_true p255
              replace q255 := eq_true q255
              go_wp2_with (first | ((with_reducible refine gate_builtin (b := .append) (xs := #[.tmp 28, .tmp 33]) rfl ?_); at_builtin; refine Kd.R_append k50 w.heap.size rfl (.tmp 28) (.tmp 33) 38 50 (.agg #[(.int .i64 0), (.int .i64 0), (.int .i64 0), (.int .i64 0)]) 32 rfl Try.underlying38 info50 rfl (by decide) (by omega) (.slice (some ad255) x7_1.length co103) x7_1 (⟨(rd_T50 x7_1 t222).f0, (rd_T50 x7_1 t222).f1, (rd_T50 x7_1 t222).f2, (rd_T50 x7_1 t222).f3⟩ : S50) [.int .i64 ((rd_T50 x7_1 t222).f0), .int .i64 ((rd_T50 x7_1 t222).f1), .int .i64 ((rd_T50 x7_1 t222).f2), .int .i64 ((rd_T50 x7_1 t222).f3)] (fun _ => True) (fun _ => False) rfl rfl ?aP (fun _ hk => hk.elim) ?aF ?aO (Below.refl _ _) ?aS ?aL ?_; (case aP => exact k50_mkM _ _ _ (⟨(rd_T50 x7_1 t222).f0, (rd_T50 x7_1 t222).f1, (rd_T50 x7_1 t222).f2, (rd_T50 x7_1 t222).f3⟩ : S50)); (case aF => exact (fun _ _ => trivial)); (case aO => exact (by (with_reducible repeat (first | apply Kd.R_alloc | apply Kd.R_drewN | apply Kd.R_drew)); exact HO_7.out)); (case aS => exact (keep_size (w := w) (g := g) (row := none) (by repeat (first | (with_reducible first | exact HK.out | apply KeepBut.set_ | apply keep_drewN | apply keep_drew | apply keep_alloc) | exact HK.out)))); (case aL => have := LMc102.out; omega); intro v257 w104 ho hb hg hat; rw [← Ny256.out] at ho; have n0_ := Aside0.mk (IsS95.grown (by repeat (first | (with_reducible first | exact HI0.out | apply IsS95.alloc | apply IsS95.drewN | apply IsS95.drew | apply IsS95.set_1) | exact HI0.out)) hg (IsS95.own_ne HI0.out HO_7.out (by decide))); have n1_ := Aside0.mk (below_weaken (by repeat (first | (with_reducible first | exact HB.out | apply below_alloc | apply pw_below_drewN | apply below_drew1 | refine below_set ?_ (IsS95.ge HI0.out)) | exact HB.out)) HL.out hb); have n2_ := Aside0.mk (KeepBut.trans (by repeat (first | (with_reducible first | exact HK.out | apply KeepBut.set_ | apply keep_drewN | apply keep_drew | apply keep_alloc) | exact HK.out)) (KeepBut.of_grown hg g) (Kd.R_base2 HO_7.out)); have n3_ := Aside0.mk (ho); clear HI0; clear HB; clear HK; clear HO_7; have HI0 := n0_; have HB := n1_; have HK := n2_; have HO258 := n3_; clear n0_ n1_ n2_ n3_; clear ho hb hg hat))
              go_roundg k1
              case measure => have := HK1.out; omega
              case rel => exact ⟨(y256), H', ⟨by have := HK1.out; omega⟩, ⟨by (with_reducible repeat (first | apply Kd.R_alloc | apply Kd.R_drewN | apply Kd.R_drew)); exact HO258.out⟩, ⟨by repeat (first | (with_reducible first | exact HI0.out | apply IsS95.alloc | apply IsS95.drewN | apply IsS95.drew | apply IsS95.set_1) | exact HI0.out)⟩, ⟨by repeat (first | (with_reducible first | exact HK.out | apply KeepBut.set_ | apply keep_drewN | apply keep_drew | apply keep_alloc) | exact HK.out)⟩, ⟨by repeat (first | (with_reducible first | exact HB.out | apply below_alloc | apply pw_below_drewN | apply below_drew1 | refine below_set ?_ (IsS95.ge HI0.out)) | exact HB.out)⟩⟩
             ·rw [if_neg c102] at H
              exact absurd H (by simp)
            ·rw [if_neg c101] at H
             exact absurd H (by simp)
           ·rw [if_neg c100] at H
            exact absurd H (by simp)
          ·rw [if_neg c99] at H
           have c99b0 : decide ((x7_1.length : Int) ≤ 12) = false := decide_eq_false c99
           have c99b1 : decide (x7_1.length ≤ 12) = false := decide_eq_false (by omega)
           clear c99
           simp only [Option.some.injEq, Prod.mk.injEq] at H
           obtain ⟨rfl, rfl⟩ := H
           obtain ⟨Ao105, co105, eo105⟩ := Kd.R_slice HO_7.out
           subst eo105
           go_wp2
           go_ret
           exact ⟨_, by first | rfl | (simp [errW_none, errW_some] <;> rfl) | (simp [*, errW_none, errW_some] <;> rfl), by (with_reducible repeat (first | apply Kd.R_alloc | apply Kd.R_drewN | apply Kd.R_drew)); exact HO_7.out, by repeat (first | (with_reducible first | exact HI0.out | apply IsS95.alloc | apply IsS95.drewN | apply IsS95.drew | apply IsS95.set_1) | exact HI0.out), by repeat (first | (with_reducible first | exact HB.out | apply below_alloc | apply pw_below_drewN | apply below_drew1 | refine below_set ?_ (IsS95.ge HI0.out)) | exact HB.out), by repeat (first | (with_reducible first | exact HK.out | apply KeepBut.set_ | apply keep_drewN | apply keep_drew | apply keep_alloc) | exact HK.out)⟩
 ·rw [if_neg c4] at H
  exact absurd H (by simp)

/-! ### spec_l13AnySpans: function 74 -/
def spec_l13AnySpans.f (k : Nat) (s0_0 : List Int) (s0_1 : Int) (a1 : Int) : Option ((List (S50)) × Int) := (spec_l13Spans.f k s0_0 s0_1 a1).bind fun bt259 => ((spec_l1Rd_pick.f k s0_0 bt259.2 12).bind fun bt263 => (if bt263.1 = 0 then ((spec_l13SpoilSpans.f k s0_0 bt263.2 bt259.1 a1).bind fun bt265 => (some (bt265.1, bt265.2))) else (some (bt259.1, bt263.2))))
theorem spec_l13AnySpans.mono : ∀ a0 a1 a2 k, LeO (spec_l13AnySpans.f k a0 a1 a2) (spec_l13AnySpans.f (k + 1) a0 a1 a2) := by
 intro a0 a1 a2 k
 unfold spec_l13AnySpans.f
 repeat' first
   | (with_reducible exact spec_l13Spans.mono _ _ _ _)
   | (with_reducible exact spec_l13SpoilSpans.mono _ _ _ _ _)
   | (with_reducible exact spec_l1Rd_pick.mono _ _ _ _)
   | (with_reducible exact LeO.refl _)
   | (with_reducible exact LeO.none _)
   | (with_reducible refine LeO.ite ?_ ?_)
   | (with_reducible refine LeO.bind ?_ (fun _ => ?_))
   | exact spec_l13Spans.mono _ _ _ _
   | exact spec_l13SpoilSpans.mono _ _ _ _ _
   | exact spec_l1Rd_pick.mono _ _ _ _
   | exact LeO.none _
   | refine LeO.ite ?_ ?_
   | refine LeO.bind ?_ (fun _ => ?_)
set_option maxHeartbeats 8000000 in
set_option maxRecDepth 100000 in
theorem spec_l13AnySpans.calls (k : Nat) (g : Nat) (s0_0 : List Int) (s0_1 : Int) (a1 : Int) (r1 : List (S50)) (r2 : Int) (w0 w : World) (hI : IsS95 w0 w g s0_0 s0_1) (hB : Below w0.heap.size w0 w) (h : spec_l13AnySpans.f k s0_0 s0_1 a1 = some (r1, r2)) :
  Calls Try.prog 74 #[.pointer (some ⟨g, 0, none⟩), .int .i64 a1] w fun e w' => ∃ v0_ : Value, e = .returned (v0_) ∧ Kd.R k50 50 w' w.heap.size (fun _ => True) v0_ r1 ∧ IsS95 w0 w' g s0_0 r2 ∧ Below w0.heap.size w0 w' ∧ KeepBut w w' g none := by
 have HI0 := Aside0.mk hI
 have HK := Aside0.mk (KeepBut.refl w g none)
 have HL := Aside0.mk hB.size
 clear hI
 have HW0 := Aside0.mk hB.size
 have HB := Aside0.mk hB
 clear hB
 have H : ((spec_l13Spans.f k s0_0 s0_1 a1).bind fun bt259 => ((spec_l1Rd_pick.f k s0_0 bt259.2 12).bind fun bt263 => (if bt263.1 = 0 then ((spec_l13SpoilSpans.f k s0_0 bt263.2 bt259.1 a1).bind fun bt265 => (some (bt265.1, bt265.2))) else (some (bt259.1, bt263.2))))) = some (r1, r2) := h
 clear h
 replace H := Option.bind_eq_some_iff.mp H
 obtain ⟨⟨t259, t262⟩, A30, H⟩ := H
 replace H : ((spec_l1Rd_pick.f k s0_0 t262 12).bind fun bt263 => (if bt263.1 = 0 then ((spec_l13SpoilSpans.f k s0_0 bt263.2 t259 a1).bind fun bt265 => (some (bt265.1, bt265.2))) else (some (t259, bt263.2)))) = some (r1, r2) := H
 have A3 := Aside0.mk A30
 clear A30
 replace H := Option.bind_eq_some_iff.mp H
 obtain ⟨⟨t263, t264⟩, A40, H⟩ := H
 replace H : (if t263 = 0 then ((spec_l13SpoilSpans.f k s0_0 t264 t259 a1).bind fun bt265 => (some (bt265.1, bt265.2))) else (some (t259, t264))) = some (r1, r2) := H
 have A4 := Aside0.mk A40
 clear A40
 by_cases c5 : t263 = 0
 ·rw [if_pos c5] at H
  have c5b0 : (t263 == 0) = true := beq_iff_eq.mpr c5
  have c5b1 : (t263 != 0) = false := bne_eq_false_iff_eq.mpr c5
  clear c5
  replace H := Option.bind_eq_some_iff.mp H
  obtain ⟨⟨t265, t268⟩, A60, H⟩ := H
  replace H : (some (t265, t268)) = some (r1, r2) := H
  have A6 := Aside0.mk A60
  clear A60
  simp only [Option.some.injEq, Prod.mk.injEq] at H
  obtain ⟨rfl, rfl⟩ := H
  go_enter Try.func74, Try.ntmps74
  go_wp2_with (first | ((with_reducible refine gate_callee (f := 108) rfl ?_); refine goesL_ (some 8) rfl rfl Try.func108 (by kernel_rfl) rfl #[.pointer (some ⟨g, 0, none⟩), .int .i64 a1] rfl (by (try simp only [List.map_toArray, List.map_cons, List.map_nil]); first | done | rfl | (simp only [List.length_drop, List.length_take]; rfl)) ?_; (with_reducible refine (spec_l13Spans.calls k g s0_0 s0_1 a1 t259 t262 w0 _ ?side1 ?side2 A3.out).mono ?_); (case side1 => repeat (first | (with_reducible first | exact HI0.out | apply IsS95.alloc | apply IsS95.drewN | apply IsS95.drew | apply IsS95.set_1) | exact HI0.out)); (case side2 => repeat (first | (with_reducible first | exact HB.out | apply below_alloc | apply pw_below_drewN | apply below_drew1 | refine below_set ?_ (IsS95.ge HI0.out)) | exact HB.out)); rintro e w7 ⟨v260, rfl, ho0, hi, hb, hk⟩; refine ⟨_, rfl, ?_⟩; have n0_ := Aside0.mk (Kd.R_lower ho0 (keep_size (w := w) (g := g) (row := none) (by repeat (first | (with_reducible first | exact HK.out | apply KeepBut.set_ | apply keep_drewN | apply keep_drew | apply keep_alloc) | exact HK.out)))); have n1_ := Aside0.mk (KeepBut.trans (by repeat (first | (with_reducible first | exact HK.out | apply KeepBut.set_ | apply keep_drewN | apply keep_drew | apply keep_alloc) | exact HK.out)) hk (.inl rfl)); have n2_ := Aside0.mk (hb); have n3_ := Aside0.mk (hi); clear HK; clear HB; clear HI0; have HO261 := n0_; have HK := n1_; have HB := n2_; have HI0 := n3_; clear n0_ n1_ n2_ n3_; (try clear hb); (try clear hb2); (try clear hk); (try clear hi); (try clear ho0)) | ((with_reducible refine gate_callee (f := 61) rfl ?_); refine goesL_ (some 10) rfl rfl Try.func61 (by kernel_rfl) rfl #[.pointer (some ⟨g, 0, none⟩), .int .i64 12] rfl (by (try simp only [List.map_toArray, List.map_cons, List.map_nil]); first | done | rfl | (simp only [List.length_drop, List.length_take]; rfl)) ?_; (with_reducible refine (spec_l1Rd_pick.calls k g s0_0 t262 12 t263 t264 w0 _ ?side1 ?side2 A4.out).mono ?_); (case side1 => repeat (first | (with_reducible first | exact HI0.out | apply IsS95.alloc | apply IsS95.drewN | apply IsS95.drew | apply IsS95.set_1) | exact HI0.out)); (case side2 => repeat (first | (with_reducible first | exact HB.out | apply below_alloc | apply pw_below_drewN | apply below_drew1 | refine below_set ?_ (IsS95.ge HI0.out)) | exact HB.out)); rintro e w8 ⟨rfl, hi, hb, hk⟩; refine ⟨_, rfl, ?_⟩; have n0_ := Aside0.mk (Kd.R_mono (Kd.R_keep (IsS95.apart (show IsS95 w0 _ g s0_0 t262 from by repeat (first | (with_reducible first | exact HI0.out | apply IsS95.alloc | apply IsS95.drewN | apply IsS95.drew | apply IsS95.set_1) | exact HI0.out)) (by (with_reducible repeat (first | apply Kd.R_alloc | apply Kd.R_drewN | apply Kd.R_drew)); exact HO261.out) (by decide)) hk (fun _ h => h.2)) (fun _ h => h.1)); have n1_ := Aside0.mk (KeepBut.trans (by repeat (first | (with_reducible first | exact HK.out | apply KeepBut.set_ | apply keep_drewN | apply keep_drew | apply keep_alloc) | exact HK.out)) hk (.inl rfl)); have n2_ := Aside0.mk (hb); have n3_ := Aside0.mk (hi); clear HO261; clear HK; clear HB; clear HI0; have HO261 := n0_; have HK := n1_; have HB := n2_; have HI0 := n3_; clear n0_ n1_ n2_ n3_; (try clear hb); (try clear hb2); (try clear hk); (try clear hi); obtain ⟨Ao9, co9, eo9⟩ := Kd.R_slice HO261.out; subst eo9) | ((with_reducible refine gate_callee (f := 109) rfl ?_); refine goesL_ (some 15) rfl rfl Try.func109 (by kernel_rfl) rfl #[.pointer (some ⟨g, 0, none⟩), .slice Ao9 t259.length co9, .int .i64 a1] rfl (by (try simp only [List.map_toArray, List.map_cons, List.map_nil]); first | done | rfl | (simp only [List.length_drop, List.length_take]; rfl)) ?_; (with_reducible refine (spec_l13SpoilSpans.calls k g s0_0 t264 _ _ t259 a1 t265 t268 w0 _ ?side1 ?side2 ?side3 ?side4 A6.out).mono ?_); (case side1 => repeat (first | (with_reducible first | exact HI0.out | apply IsS95.alloc | apply IsS95.drewN | apply IsS95.drew | apply IsS95.set_1) | exact HI0.out)); (case side2 => repeat (first | (with_reducible first | exact HB.out | apply below_alloc | apply pw_below_drewN | apply below_drew1 | refine below_set ?_ (IsS95.ge HI0.out)) | exact HB.out)); (case side3 => exact Kd.C_foot_own (IsS95.apart (show IsS95 w0 _ g s0_0 t264 from by repeat (first | (with_reducible first | exact HI0.out | apply IsS95.alloc | apply IsS95.drewN | apply IsS95.drew | apply IsS95.set_1) | exact HI0.out)) (by (with_reducible repeat (first | apply Kd.R_alloc | apply Kd.R_drewN | apply Kd.R_drew)); exact HO261.out) (by decide)) (fun _ h_ => h_.2)); (case side4 => exact (Kd.R_reads' HO261.out).2.1); rintro e w10 ⟨v266, rfl, ho0, hi, hb, hk⟩; refine ⟨_, rfl, ?_⟩; have n0_ := Aside0.mk (Kd.R_mono (Kd.R_told (Kd.R_oldK (IsS95.apart (show IsS95 w0 _ g s0_0 t264 from by repeat (first | (with_reducible first | exact HI0.out | apply IsS95.alloc | apply IsS95.drewN | apply IsS95.drew | apply IsS95.set_1) | exact HI0.out)) (by (with_reducible repeat (first | apply Kd.R_alloc | apply Kd.R_drewN | apply Kd.R_drew)); exact HO261.out) (by decide)) hk) (Kd.R_base ho0)) (fun _ h_ => h_.1)); have n1_ := Aside0.mk (Kd.R_lower (Kd.R_new' ho0 (Kd.R_lt (by (with_reducible repeat (first | apply Kd.R_alloc | apply Kd.R_drewN | apply Kd.R_drew)); exact HO261.out))) (keep_size (w := w) (g := g) (row := none) (by repeat (first | (with_reducible first | exact HK.out | apply KeepBut.set_ | apply keep_drewN | apply keep_drew | apply keep_alloc) | exact HK.out)))); have n2_ := Aside0.mk (KeepBut.trans (by repeat (first | (with_reducible first | exact HK.out | apply KeepBut.set_ | apply keep_drewN | apply keep_drew | apply keep_alloc) | exact HK.out)) hk (.inl rfl)); have n3_ := Aside0.mk (hb); have n4_ := Aside0.mk (hi); clear HO261; clear HK; clear HB; clear HI0; have HO261 := n0_; have HO267 := n1_; have HK := n2_; have HB := n3_; have HI0 := n4_; clear n0_ n1_ n2_ n3_ n4_; (try clear hb); (try clear hb2); (try clear hk); (try clear hi); (try clear ho0)))
  go_ret
  exact ⟨_, by first | rfl | (simp [errW_none, errW_some] <;> rfl) | (simp [*, errW_none, errW_some] <;> rfl), by (with_reducible repeat (first | apply Kd.R_alloc | apply Kd.R_drewN | apply Kd.R_drew)); exact Kd.R_mono HO267.out (fun _ hk => trivial), by repeat (first | (with_reducible first | exact HI0.out | apply IsS95.alloc | apply IsS95.drewN | apply IsS95.drew | apply IsS95.set_1) | exact HI0.out), by repeat (first | (with_reducible first | exact HB.out | apply below_alloc | apply pw_below_drewN | apply below_drew1 | refine below_set ?_ (IsS95.ge HI0.out)) | exact HB.out), by repeat (first | (with_reducible first | exact HK.out | apply KeepBut.set_ | apply keep_drewN | apply keep_drew | apply keep_alloc) | exact HK.out)⟩
 ·rw [if_neg c5] at H
  have c5b0 : (t263 == 0) = false := beq_eq_false_iff_ne.mpr c5
  have c5b1 : (t263 != 0) = true := bne_iff_ne.mpr c5
  simp only [Option.some.injEq, Prod.mk.injEq] at H
  obtain ⟨rfl, rfl⟩ := H
  go_enter Try.func74, Try.ntmps74
  go_wp2_with (first | ((with_reducible refine gate_callee (f := 108) rfl ?_); refine goesL_ (some 8) rfl rfl Try.func108 (by kernel_rfl) rfl #[.pointer (some ⟨g, 0, none⟩), .int .i64 a1] rfl (by (try simp only [List.map_toArray, List.map_cons, List.map_nil]); first | done | rfl | (simp only [List.length_drop, List.length_take]; rfl)) ?_; (with_reducible refine (spec_l13Spans.calls k g s0_0 s0_1 a1 t259 t262 w0 _ ?side1 ?side2 A3.out).mono ?_); (case side1 => repeat (first | (with_reducible first | exact HI0.out | apply IsS95.alloc | apply IsS95.drewN | apply IsS95.drew | apply IsS95.set_1) | exact HI0.out)); (case side2 => repeat (first | (with_reducible first | exact HB.out | apply below_alloc | apply pw_below_drewN | apply below_drew1 | refine below_set ?_ (IsS95.ge HI0.out)) | exact HB.out)); rintro e w11 ⟨v260, rfl, ho0, hi, hb, hk⟩; refine ⟨_, rfl, ?_⟩; have n0_ := Aside0.mk (Kd.R_lower ho0 (keep_size (w := w) (g := g) (row := none) (by repeat (first | (with_reducible first | exact HK.out | apply KeepBut.set_ | apply keep_drewN | apply keep_drew | apply keep_alloc) | exact HK.out)))); have n1_ := Aside0.mk (KeepBut.trans (by repeat (first | (with_reducible first | exact HK.out | apply KeepBut.set_ | apply keep_drewN | apply keep_drew | apply keep_alloc) | exact HK.out)) hk (.inl rfl)); have n2_ := Aside0.mk (hb); have n3_ := Aside0.mk (hi); clear HK; clear HB; clear HI0; have HO261 := n0_; have HK := n1_; have HB := n2_; have HI0 := n3_; clear n0_ n1_ n2_ n3_; (try clear hb); (try clear hb2); (try clear hk); (try clear hi); (try clear ho0)) | ((with_reducible refine gate_callee (f := 61) rfl ?_); refine goesL_ (some 10) rfl rfl Try.func61 (by kernel_rfl) rfl #[.pointer (some ⟨g, 0, none⟩), .int .i64 12] rfl (by (try simp only [List.map_toArray, List.map_cons, List.map_nil]); first | done | rfl | (simp only [List.length_drop, List.length_take]; rfl)) ?_; (with_reducible refine (spec_l1Rd_pick.calls k g s0_0 t262 12 t263 t264 w0 _ ?side1 ?side2 A4.out).mono ?_); (case side1 => repeat (first | (with_reducible first | exact HI0.out | apply IsS95.alloc | apply IsS95.drewN | apply IsS95.drew | apply IsS95.set_1) | exact HI0.out)); (case side2 => repeat (first | (with_reducible first | exact HB.out | apply below_alloc | apply pw_below_drewN | apply below_drew1 | refine below_set ?_ (IsS95.ge HI0.out)) | exact HB.out)); rintro e w12 ⟨rfl, hi, hb, hk⟩; refine ⟨_, rfl, ?_⟩; have n0_ := Aside0.mk (Kd.R_mono (Kd.R_keep (IsS95.apart (show IsS95 w0 _ g s0_0 t262 from by repeat (first | (with_reducible first | exact HI0.out | apply IsS95.alloc | apply IsS95.drewN | apply IsS95.drew | apply IsS95.set_1) | exact HI0.out)) (by (with_reducible repeat (first | apply Kd.R_alloc | apply Kd.R_drewN | apply Kd.R_drew)); exact HO261.out) (by decide)) hk (fun _ h => h.2)) (fun _ h => h.1)); have n1_ := Aside0.mk (KeepBut.trans (by repeat (first | (with_reducible first | exact HK.out | apply KeepBut.set_ | apply keep_drewN | apply keep_drew | apply keep_alloc) | exact HK.out)) hk (.inl rfl)); have n2_ := Aside0.mk (hb); have n3_ := Aside0.mk (hi); clear HO261; clear HK; clear HB; clear HI0; have HO261 := n0_; have HK := n1_; have HB := n2_; have HI0 := n3_; clear n0_ n1_ n2_ n3_; (try clear hb); (try clear hb2); (try clear hk); (try clear hi)))
  go_ret
  exact ⟨_, by first | rfl | (simp [errW_none, errW_some] <;> rfl) | (simp [*, errW_none, errW_some] <;> rfl), by (with_reducible repeat (first | apply Kd.R_alloc | apply Kd.R_drewN | apply Kd.R_drew)); exact HO261.out, by repeat (first | (with_reducible first | exact HI0.out | apply IsS95.alloc | apply IsS95.drewN | apply IsS95.drew | apply IsS95.set_1) | exact HI0.out), by repeat (first | (with_reducible first | exact HB.out | apply below_alloc | apply pw_below_drewN | apply below_drew1 | refine below_set ?_ (IsS95.ge HI0.out)) | exact HB.out), by repeat (first | (with_reducible first | exact HK.out | apply KeepBut.set_ | apply keep_drewN | apply keep_drew | apply keep_alloc) | exact HK.out)⟩

/-! ### spec_DrawSpansPlain: function 33 -/
def spec_DrawSpansPlain.f (k : Nat) (l0 : List Int) : Option ((List (S50)) × Int) := (spec_l1Open.f l0).bind fun bt269 => ((spec_l1Rd_pick.f k bt269.1 bt269.2 20).bind fun bt272 => ((spec_l13AnySpans.f k bt269.1 bt272.2 bt272.1).bind fun bt274 => (some (bt274.1, bt272.1))))
theorem spec_DrawSpansPlain.mono : ∀ a0 k, LeO (spec_DrawSpansPlain.f k a0) (spec_DrawSpansPlain.f (k + 1) a0) := by
 intro a0 k
 unfold spec_DrawSpansPlain.f
 repeat' first
   | (with_reducible exact spec_l13AnySpans.mono _ _ _ _)
   | (with_reducible exact spec_l1Rd_pick.mono _ _ _ _)
   | (with_reducible exact LeO.refl _)
   | (with_reducible exact LeO.none _)
   | (with_reducible refine LeO.ite ?_ ?_)
   | (with_reducible refine LeO.bind ?_ (fun _ => ?_))
   | exact spec_l13AnySpans.mono _ _ _ _
   | exact spec_l1Rd_pick.mono _ _ _ _
   | exact LeO.none _
   | refine LeO.ite ?_ ?_
   | refine LeO.bind ?_ (fun _ => ?_)
set_option maxHeartbeats 8000000 in
set_option maxRecDepth 100000 in
theorem spec_DrawSpansPlain.calls (k : Nat) (A0 : Option Addr) (c0 : Nat) (l0 : List Int) (r1 : List (S50)) (r2 : Int) (w : World) (hr0 : Kd.C (Kd.int .u8) w A0 l0.length l0) (hc0 : l0.length ≤ c0) (h : spec_DrawSpansPlain.f k l0 = some (r1, r2)) :
  Calls Try.prog 33 #[.slice A0 l0.length c0] w fun e w' => ∃ v0_ : Value, e = .returned (.tuple #[v0_, .int .i64 r2]) ∧ Kd.R k50 50 w' w.heap.size (fun _ => True) v0_ r1 ∧ Below w.heap.size w w' := by
 have HR0 := Aside0.mk hr0
 have HC0 := Aside0.mk hc0
 clear hr0 hc0
 have HB := Aside0.mk (Below.refl w.heap.size w)
 have H : ((spec_l1Open.f l0).bind fun bt269 => ((spec_l1Rd_pick.f k bt269.1 bt269.2 20).bind fun bt272 => ((spec_l13AnySpans.f k bt269.1 bt272.2 bt272.1).bind fun bt274 => (some (bt274.1, bt272.1))))) = some (r1, r2) := h
 clear h
 replace H := Option.bind_eq_some_iff.mp H
 obtain ⟨⟨t269, t270⟩, A20, H⟩ := H
 replace H : ((spec_l1Rd_pick.f k t269 t270 20).bind fun bt272 => ((spec_l13AnySpans.f k t269 bt272.2 bt272.1).bind fun bt274 => (some (bt274.1, bt272.1)))) = some (r1, r2) := H
 have A2 := Aside0.mk A20
 clear A20
 replace H := Option.bind_eq_some_iff.mp H
 obtain ⟨⟨t272, t273⟩, A30, H⟩ := H
 replace H : ((spec_l13AnySpans.f k t269 t273 t272).bind fun bt274 => (some (bt274.1, t272))) = some (r1, r2) := H
 have A3 := Aside0.mk A30
 clear A30
 replace H := Option.bind_eq_some_iff.mp H
 obtain ⟨⟨t274, t277⟩, A40, H⟩ := H
 replace H : (some (t274, t272)) = some (r1, r2) := H
 have A4 := Aside0.mk A40
 clear A40
 simp only [Option.some.injEq, Prod.mk.injEq] at H
 obtain ⟨rfl, rfl⟩ := H
 go_enter Try.func33, Try.ntmps33
 go_wp2_with (first | ((with_reducible refine gate_callee (f := 59) rfl ?_); refine goesL_ (some 7) rfl rfl Try.func59 (by kernel_rfl) rfl #[.slice A0 l0.length c0] rfl (by (try simp only [List.map_toArray, List.map_cons, List.map_nil]); first | done | rfl | (simp only [List.length_drop, List.length_take]; rfl)) ?_; (with_reducible refine (spec_l1Open.calls _ _ l0 t269 t270 w _ ?side1 ?side2 ?side3 A2.out).mono ?_); (case side1 => repeat (first | (with_reducible first | exact HB.out | apply below_alloc | apply pw_below_drewN | apply below_drew1) | exact HB.out)); (case side2 => exact HR0.out); (case side3 => exact HC0.out); rintro e w5 ⟨g271, rfl, hi, hb, hb2⟩; refine ⟨_, rfl, ?_⟩; have n0_ := Aside0.mk (hb); have n1_ := Aside0.mk (hi); clear HB; have HB := n0_; have HI271 := n1_; clear n0_ n1_; (try clear hb); (try clear hb2); (try clear hk); (try clear hi)) | ((with_reducible refine gate_callee (f := 61) rfl ?_); refine goesL_ (some 9) rfl rfl Try.func61 (by kernel_rfl) rfl #[.pointer (some ⟨g271, 0, none⟩), .int .i64 20] rfl (by (try simp only [List.map_toArray, List.map_cons, List.map_nil]); first | done | rfl | (simp only [List.length_drop, List.length_take]; rfl)) ?_; (with_reducible refine (spec_l1Rd_pick.calls k g271 t269 t270 20 t272 t273 w _ ?side1 ?side2 A3.out).mono ?_); (case side1 => repeat (first | (with_reducible first | exact HI271.out | apply IsS95.alloc | apply IsS95.drewN | apply IsS95.drew | apply IsS95.set_1) | exact HI271.out)); (case side2 => repeat (first | (with_reducible first | exact HB.out | apply below_alloc | apply pw_below_drewN | apply below_drew1 | refine below_set ?_ (IsS95.ge HI271.out)) | exact HB.out)); rintro e w6 ⟨rfl, hi, hb, hk⟩; refine ⟨_, rfl, ?_⟩; have n0_ := Aside0.mk (hb); have n1_ := Aside0.mk (hi); clear HB; clear HI271; have HB := n0_; have HI271 := n1_; clear n0_ n1_; (try clear hb); (try clear hb2); (try clear hk); (try clear hi)) | ((with_reducible refine gate_callee (f := 74) rfl ?_); refine goesL_ (some 12) rfl rfl Try.func74 (by kernel_rfl) rfl #[.pointer (some ⟨g271, 0, none⟩), .int .i64 t272] rfl (by (try simp only [List.map_toArray, List.map_cons, List.map_nil]); first | done | rfl | (simp only [List.length_drop, List.length_take]; rfl)) ?_; (with_reducible refine (spec_l13AnySpans.calls k g271 t269 t273 t272 t274 t277 w _ ?side1 ?side2 A4.out).mono ?_); (case side1 => repeat (first | (with_reducible first | exact HI271.out | apply IsS95.alloc | apply IsS95.drewN | apply IsS95.drew | apply IsS95.set_1) | exact HI271.out)); (case side2 => repeat (first | (with_reducible first | exact HB.out | apply below_alloc | apply pw_below_drewN | apply below_drew1 | refine below_set ?_ (IsS95.ge HI271.out)) | exact HB.out)); rintro e w7 ⟨v275, rfl, ho0, hi, hb, hk⟩; refine ⟨_, rfl, ?_⟩; have n0_ := Aside0.mk (Kd.R_lower ho0 (below_size (by repeat (first | (with_reducible first | exact HB.out | apply below_alloc | apply pw_below_drewN | apply below_drew1 | refine below_set ?_ (IsS95.ge HI271.out)) | exact HB.out)))); have n1_ := Aside0.mk (hb); have n2_ := Aside0.mk (hi); clear HB; clear HI271; have HO276 := n0_; have HB := n1_; have HI271 := n2_; clear n0_ n1_ n2_; (try clear hb); (try clear hb2); (try clear hk); (try clear hi); (try clear ho0)))
 go_ret2
 exact ⟨_, by first | rfl | (simp [errW_none, errW_some] <;> rfl) | (simp [*, errW_none, errW_some] <;> rfl), by (with_reducible repeat (first | apply Kd.R_alloc | apply Kd.R_drewN | apply Kd.R_drew)); exact HO276.out, by repeat (first | (with_reducible first | exact HB.out | apply below_alloc | apply pw_below_drewN | apply below_drew1 | refine below_set ?_ (IsS95.ge HI271.out)) | exact HB.out)⟩

/-! ### laws_wcSpans: function 34 -/
def laws_wcSpans.l0 : Nat → List (S50) → List (S50) → Int → Option (Bool)
 | 0, _, _, _ => none
 | k + 1, x0, x1, x5 => if x5 < (x0.length : Int) then (if 0 ≤ x5 then (if x5 < (x1.length : Int) then (if (!(((rd_T50 x0 x5).f0) == ((rd_T50 x1 x5).f0)) || (!(((rd_T50 x0 x5).f1) == ((rd_T50 x1 x5).f1)) || (!(((rd_T50 x0 x5).f2) == ((rd_T50 x1 x5).f2)) || (!(((rd_T50 x0 x5).f3) == ((rd_T50 x1 x5).f3)))))) = true then (some false) else (laws_wcSpans.l0 k x0 x1 (wrap64 (x5 + 1)))) else (none)) else (none)) else (some true)
def laws_wcSpans.f (k : Nat) (l0 : List (S50)) (l1 : List (S50)) : Option (Bool) := if (l0.length : Int) = (l1.length : Int) then (laws_wcSpans.l0 k l0 l1 0) else (some false)
theorem laws_wcSpans.mono_l : ∀ k, (∀ y0 y1 y2, LeO (laws_wcSpans.l0 k y0 y1 y2) (laws_wcSpans.l0 (k + 1) y0 y1 y2))
 | 0 => fun _ _ _ r h => by simp [laws_wcSpans.l0] at h
 | k + 1 => by
  have ih0 := laws_wcSpans.mono_l k
  ·intro y0 y1 y2
   unfold laws_wcSpans.l0
   repeat' first
   | (with_reducible exact ih0 _ _ _)
   | (with_reducible exact LeO.refl _)
   | (with_reducible exact LeO.none _)
   | (with_reducible refine LeO.ite ?_ ?_)
   | (with_reducible refine LeO.bind ?_ (fun _ => ?_))
   | exact ih0 _ _ _
   | exact LeO.none _
   | refine LeO.ite ?_ ?_
   | refine LeO.bind ?_ (fun _ => ?_)
theorem laws_wcSpans.mono : ∀ a0 a1 k, LeO (laws_wcSpans.f k a0 a1) (laws_wcSpans.f (k + 1) a0 a1) := by
 intro a0 a1 k
 have ih0 := laws_wcSpans.mono_l k
 unfold laws_wcSpans.f
 repeat' first
   | (with_reducible exact ih0 _ _ _)
   | (with_reducible exact LeO.refl _)
   | (with_reducible exact LeO.none _)
   | (with_reducible refine LeO.ite ?_ ?_)
   | (with_reducible refine LeO.bind ?_ (fun _ => ?_))
   | exact ih0 _ _ _
   | exact LeO.none _
   | refine LeO.ite ?_ ?_
   | refine LeO.bind ?_ (fun _ => ?_)
set_option maxHeartbeats 8000000 in
set_option maxRecDepth 100000 in
theorem laws_wcSpans.calls (k : Nat) (A0 : Option Addr) (c0 : Nat) (l0 : List (S50)) (A1 : Option Addr) (c1 : Nat) (l1 : List (S50)) (r : Bool) (w : World) (hr0 : Kd.C k50 w A0 l0.length l0) (hc0 : l0.length ≤ c0) (hr1 : Kd.C k50 w A1 l1.length l1) (hc1 : l1.length ≤ c1) (h : laws_wcSpans.f k l0 l1 = some r) :
  Calls Try.prog 34 #[.slice A0 l0.length c0, .slice A1 l1.length c1] w fun e w' => e = .returned (.bool r) ∧ Drawn0 w w' := by
 have hu50 := Try.underlying50
 have HR0 := Aside0.mk hr0
 have HC0 := Aside0.mk hc0
 clear hr0 hc0
 have HR1 := Aside0.mk hr1
 have HC1 := Aside0.mk hc1
 clear hr1 hc1
 have H : (if (l0.length : Int) = (l1.length : Int) then (laws_wcSpans.l0 k l0 l1 0) else (some false)) = some r := h
 clear h
 by_cases c3 : (l0.length : Int) = (l1.length : Int)
 ·rw [if_pos c3] at H
  have c3b0 : ((l0.length : Int) == (l1.length : Int)) = true := beq_iff_eq.mpr c3
  have c3b1 : ((l0.length : Int) != (l1.length : Int)) = false := bne_eq_false_iff_eq.mpr c3
  have c3b2 : (l0.length == l1.length) = true := by first | simpa using c3 | (simp at c3 ⊢; omega)
  clear c3
  have H' := Aside0.mk H
  clear H
  go_enter Try.func34, Try.ntmps34
  go_wp2
  repeat (go_quiet (fail); try go_wp2)
  go_loopg [5] k (fun kq v5 w' => ∃ (x5_1 : Int), v5 = .int .i64 x5_1 ∧ Aside0 (laws_wcSpans.l0 kq l0 l1 x5_1 = some r) ∧ Aside0 (kq ≤ k) ∧ Drawn0 w w')
  case atStart => exact ⟨(0), (by first | rfl | (simp; done) | (simp [*]; done)), H', ⟨Nat.le_refl _⟩, by repeat (first | exact Drawn0.refl _ | apply Drawn0.step)⟩
  case round =>
   clear H'
   try clear c1
   try clear p2
   try clear c3
   try clear c3b0
   try clear c3b1
   try clear c3b2
   obtain ⟨x5_1, rfl, HA, HK1, ⟨m1, rfl⟩⟩ := hrel
   cases gk with
   | zero => exact absurd HA.out (by simp [laws_wcSpans.l0])
   | succ k1 =>
    have H := HA.out
    clear HA
    simp only [laws_wcSpans.l0] at H
    by_cases c4 : x5_1 < (l0.length : Int)
    ·rw [if_pos c4] at H
     have c4b0 : decide (x5_1 < (l0.length : Int)) = true := decide_eq_true c4
     clear c4
     by_cases c5 : 0 ≤ x5_1
     ·rw [if_pos c5] at H
      have c5b0 : decide (0 ≤ x5_1) = true := decide_eq_true c5
      clear c5
      by_cases c6 : x5_1 < (l1.length : Int)
      ·rw [if_pos c6] at H
       have c6b0 : decide (x5_1 < (l1.length : Int)) = true := decide_eq_true c6
       clear c6
       by_cases c7 : (!(((rd_T50 l0 x5_1).f0) == ((rd_T50 l1 x5_1).f0)) || (!(((rd_T50 l0 x5_1).f1) == ((rd_T50 l1 x5_1).f1)) || (!(((rd_T50 l0 x5_1).f2) == ((rd_T50 l1 x5_1).f2)) || (!(((rd_T50 l0 x5_1).f3) == ((rd_T50 l1 x5_1).f3)))))) = true
       ·rw [if_pos c7] at H
        have c7b0 : (!(((rd_T50 l0 x5_1).f0) == ((rd_T50 l1 x5_1).f0)) || (!(((rd_T50 l0 x5_1).f1) == ((rd_T50 l1 x5_1).f1)) || (!(((rd_T50 l0 x5_1).f2) == ((rd_T50 l1 x5_1).f2)) || (!(((rd_T50 l0 x5_1).f3) == ((rd_T50 l1 x5_1).f3)))))) = true := c7
        clear c7
        obtain rfl := Option.some.inj H
        have p278 : 0 ≤ (x5_1 : Int) := of_decide_eq_true (by first | (with_reducible assumption) | assumption)
        have q278 : x5_1 < (l0.length : Int) := of_decide_eq_true (by first | (with_reducible assumption) | assumption)
        obtain ⟨ad278, e278, hx278_0, hx278_1, hx278_2, hx278_3⟩ := at_T50 HR0.out x5_1 p278 q278
        cases e278
        replace p278 := eq_true p278
        replace q278 := eq_true q278
        have p279 : 0 ≤ (x5_1 : Int) := of_decide_eq_true (by first | (with_reducible assumption) | assumption)
        have q279 : x5_1 < (l1.length : Int) := of_decide_eq_true (by first | (with_reducible assumption) | assumption)
        obtain ⟨ad279, e279, hx279_0, hx279_1, hx279_2, hx279_3⟩ := at_T50 HR1.out x5_1 p279 q279
        cases e279
        replace p279 := eq_true p279
        replace q279 := eq_true q279
        go_wp2
        repeat (go_quiet (fail); try go_wp2)
        go_ret
        exact ⟨by first | rfl | (simp; done) | (simp [*]; done), by repeat (first | exact Drawn0.refl _ | apply Drawn0.step)⟩
       ·rw [if_neg c7] at H
        have c7b0 : (!(((rd_T50 l0 x5_1).f0) == ((rd_T50 l1 x5_1).f0)) || (!(((rd_T50 l0 x5_1).f1) == ((rd_T50 l1 x5_1).f1)) || (!(((rd_T50 l0 x5_1).f2) == ((rd_T50 l1 x5_1).f2)) || (!(((rd_T50 l0 x5_1).f3) == ((rd_T50 l1 x5_1).f3)))))) = false := by simpa using c7
        clear c7
        have H' := Aside0.mk H
        clear H
        have p278 : 0 ≤ (x5_1 : Int) := of_decide_eq_true (by first | (with_reducible assumption) | assumption)
        have q278 : x5_1 < (l0.length : Int) := of_decide_eq_true (by first | (with_reducible assumption) | assumption)
        obtain ⟨ad278, e278, hx278_0, hx278_1, hx278_2, hx278_3⟩ := at_T50 HR0.out x5_1 p278 q278
        cases e278
        replace p278 := eq_true p278
        replace q278 := eq_true q278
        have p279 : 0 ≤ (x5_1 : Int) := of_decide_eq_true (by first | (with_reducible assumption) | assumption)
        have q279 : x5_1 < (l1.length : Int) := of_decide_eq_true (by first | (with_reducible assumption) | assumption)
        obtain ⟨ad279, e279, hx279_0, hx279_1, hx279_2, hx279_3⟩ := at_T50 HR1.out x5_1 p279 q279
        cases e279
        replace p279 := eq_true p279
        replace q279 := eq_true q279
        go_wp2
        repeat (go_quiet (fail); try go_wp2)
        go_roundg k1
        case measure => have := HK1.out; omega
        case rel => exact ⟨(wrap64 (x5_1 + 1)), (by first | rfl | (simp; done) | (simp [*]; done)), H', ⟨by have := HK1.out; omega⟩, by repeat (first | exact Drawn0.refl _ | apply Drawn0.step)⟩
      ·rw [if_neg c6] at H
       exact absurd H (by simp)
     ·rw [if_neg c5] at H
      exact absurd H (by simp)
    ·rw [if_neg c4] at H
     have c4b0 : decide (x5_1 < (l0.length : Int)) = false := decide_eq_false c4
     clear c4
     obtain rfl := Option.some.inj H
     go_wp2
     repeat (go_quiet (fail); try go_wp2)
     go_ret
     exact ⟨by first | rfl | (simp; done) | (simp [*]; done), by repeat (first | exact Drawn0.refl _ | apply Drawn0.step)⟩
 ·rw [if_neg c3] at H
  have c3b0 : ((l0.length : Int) == (l1.length : Int)) = false := beq_eq_false_iff_ne.mpr c3
  have c3b1 : ((l0.length : Int) != (l1.length : Int)) = true := bne_iff_ne.mpr c3
  have c3b2 : (l0.length == l1.length) = false := by first | simpa using c3 | (simp at c3 ⊢; omega)
  obtain rfl := Option.some.inj H
  go_enter Try.func34, Try.ntmps34
  go_wp2
  repeat (go_quiet (fail); try go_wp2)
  go_ret
  exact ⟨by first | rfl | (simp; done) | (simp [*]; done), by repeat (first | exact Drawn0.refl _ | apply Drawn0.step)⟩

end Go.Proofs.Ytkapjhlcmicpnaa.PFnSpansPlain
