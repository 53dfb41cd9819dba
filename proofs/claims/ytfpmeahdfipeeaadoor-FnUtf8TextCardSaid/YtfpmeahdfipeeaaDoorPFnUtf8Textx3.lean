-- Written by a program of this session (wip/tools) out of the translation; its shape is that of the kit print.
import Derived.Test.YtfpmeahdfipeeaaDoorPFnUtf8Textx0
import Derived.Test.YtfpmeahdfipeeaaDoorPFnUtf8Textx1
import Derived.Test.YtfpmeahdfipeeaaDoorPFnUtf8Textx2
namespace Go.Proofs.YtfpmeahdfipeeaaDoor.PFnUtf8Text
open Go.RowKit Go.Proofs.YtfpmeahdfipeeaaDoorW.PrintWords Go.Proofs.YtfpmeahdfipeeaaDoorW.PrintLast Go.Proofs.YtfpmeahdfipeeaaDoorW.PrintMore
attribute [local go_sem] max2_int min2_int max_two min_two max_three min_three max_four min_four   -- for this text's walks alone
set_option linter.unusedVariables false
set_option linter.unusedSimpArgs false

/-! ### spec_DrawUtf8Get: function 5 -/
def spec_DrawUtf8Get.f (k : Nat) (l0 : List Int) : Option (ByteArray) := (spec_l1Open.f l0).bind fun bt202 => ((spec_l13Runes.f k bt202.1 bt202.2).bind fun bt205 => ((spec_Utf8Put.f k bt205.1).bind fun t209 => ((spec_l1Rd_pick.f k bt202.1 bt205.2 4).bind fun bt210 => (if bt210.1 = 0 then ((spec_l1Rd_of.f k bt202.1 bt210.2 (([(⟨#[128]⟩ : ByteArray), (⟨#[195]⟩ : ByteArray), (⟨#[192, 128]⟩ : ByteArray), (⟨#[224, 128, 128]⟩ : ByteArray), (⟨#[237, 160, 128]⟩ : ByteArray), (⟨#[244, 144, 128, 128]⟩ : ByteArray), (⟨#[240, 159, 152]⟩ : ByteArray), (⟨#[255]⟩ : ByteArray), (⟨#[193, 191]⟩ : ByteArray)] : List ByteArray))).bind fun bt215 => (if t209.size + bt215.1.size ≤ 9223372036854775807 then ((spec_l1Rd_of.f k bt202.1 bt215.2 (([(⟨#[]⟩ : ByteArray), (⟨#[97]⟩ : ByteArray)] : List ByteArray))).bind fun bt220 => (if (t209 ++ bt215.1).size + bt220.1.size ≤ 9223372036854775807 then (some ((t209 ++ bt215.1) ++ bt220.1)) else (none))) else (none))) else (if bt210.1 = 1 then ((spec_l1Rd_pick.f k bt202.1 bt210.2 (wrap64 ((t209.size : Int) + 1))).bind fun bt222 => (if 0 ≤ bt222.1 then (if bt222.1 ≤ (t209.size : Int) then (some (t209.extract 0 (bt222.1 : Int).toNat)) else (none)) else (none))) else (some t209))))))
theorem spec_DrawUtf8Get.mono : ∀ a0 k, LeO (spec_DrawUtf8Get.f k a0) (spec_DrawUtf8Get.f (k + 1) a0) := by
  intro a0 k
  unfold spec_DrawUtf8Get.f
  repeat' first
      | (with_reducible exact spec_Utf8Put.mono _ _)
      | (with_reducible exact spec_l13Runes.mono _ _ _)
      | (with_reducible exact spec_l1Rd_of.mono _ _ _ _)
      | (with_reducible exact spec_l1Rd_pick.mono _ _ _ _)
      | (with_reducible exact LeO.refl _)
      | (with_reducible exact LeO.none _)
      | (with_reducible refine LeO.ite ?_ ?_)
      | (with_reducible refine LeO.bind ?_ (fun _ => ?_))
      | exact spec_Utf8Put.mono _ _
      | exact spec_l13Runes.mono _ _ _
      | exact spec_l1Rd_of.mono _ _ _ _
      | exact spec_l1Rd_pick.mono _ _ _ _
      | exact LeO.none _
      | refine LeO.ite ?_ ?_
      | refine LeO.bind ?_ (fun _ => ?_)
set_option maxHeartbeats 8000000 in
set_option maxRecDepth 100000 in
theorem spec_DrawUtf8Get.calls (k : Nat) (A0 : Option Addr) (c0 : Nat) (l0 : List Int) (r : ByteArray) (w : World) (hr0 : Kd.C (Kd.int .u8) w A0 l0.length l0) (hc0 : l0.length ≤ c0) (h : spec_DrawUtf8Get.f k l0 = some r) :
    Calls Tryd.prog 5 #[.slice A0 l0.length c0] w fun e w' => e = .returned (.string r) ∧ Below w.heap.size w w' := by
  have HR0 := Aside0.mk hr0
  have HC0 := Aside0.mk hc0
  clear hr0 hc0
  have HB := Aside0.mk (Below.refl w.heap.size w)
  have H : ((spec_l1Open.f l0).bind fun bt202 => ((spec_l13Runes.f k bt202.1 bt202.2).bind fun bt205 => ((spec_Utf8Put.f k bt205.1).bind fun t209 => ((spec_l1Rd_pick.f k bt202.1 bt205.2 4).bind fun bt210 => (if bt210.1 = 0 then ((spec_l1Rd_of.f k bt202.1 bt210.2 (([(⟨#[128]⟩ : ByteArray), (⟨#[195]⟩ : ByteArray), (⟨#[192, 128]⟩ : ByteArray), (⟨#[224, 128, 128]⟩ : ByteArray), (⟨#[237, 160, 128]⟩ : ByteArray), (⟨#[244, 144, 128, 128]⟩ : ByteArray), (⟨#[240, 159, 152]⟩ : ByteArray), (⟨#[255]⟩ : ByteArray), (⟨#[193, 191]⟩ : ByteArray)] : List ByteArray))).bind fun bt215 => (if t209.size + bt215.1.size ≤ 9223372036854775807 then ((spec_l1Rd_of.f k bt202.1 bt215.2 (([(⟨#[]⟩ : ByteArray), (⟨#[97]⟩ : ByteArray)] : List ByteArray))).bind fun bt220 => (if (t209 ++ bt215.1).size + bt220.1.size ≤ 9223372036854775807 then (some ((t209 ++ bt215.1) ++ bt220.1)) else (none))) else (none))) else (if bt210.1 = 1 then ((spec_l1Rd_pick.f k bt202.1 bt210.2 (wrap64 ((t209.size : Int) + 1))).bind fun bt222 => (if 0 ≤ bt222.1 then (if bt222.1 ≤ (t209.size : Int) then (some (t209.extract 0 (bt222.1 : Int).toNat)) else (none)) else (none))) else (some t209))))))) = some r := h
  clear h
  replace H := Option.bind_eq_some_iff.mp H
  obtain ⟨⟨t202, t203⟩, A20, H⟩ := H
  replace H : ((spec_l13Runes.f k t202 t203).bind fun bt205 => ((spec_Utf8Put.f k bt205.1).bind fun t209 => ((spec_l1Rd_pick.f k t202 bt205.2 4).bind fun bt210 => (if bt210.1 = 0 then ((spec_l1Rd_of.f k t202 bt210.2 (([(⟨#[128]⟩ : ByteArray), (⟨#[195]⟩ : ByteArray), (⟨#[192, 128]⟩ : ByteArray), (⟨#[224, 128, 128]⟩ : ByteArray), (⟨#[237, 160, 128]⟩ : ByteArray), (⟨#[244, 144, 128, 128]⟩ : ByteArray), (⟨#[240, 159, 152]⟩ : ByteArray), (⟨#[255]⟩ : ByteArray), (⟨#[193, 191]⟩ : ByteArray)] : List ByteArray))).bind fun bt215 => (if t209.size + bt215.1.size ≤ 9223372036854775807 then ((spec_l1Rd_of.f k t202 bt215.2 (([(⟨#[]⟩ : ByteArray), (⟨#[97]⟩ : ByteArray)] : List ByteArray))).bind fun bt220 => (if (t209 ++ bt215.1).size + bt220.1.size ≤ 9223372036854775807 then (some ((t209 ++ bt215.1) ++ bt220.1)) else (none))) else (none))) else (if bt210.1 = 1 then ((spec_l1Rd_pick.f k t202 bt210.2 (wrap64 ((t209.size : Int) + 1))).bind fun bt222 => (if 0 ≤ bt222.1 then (if bt222.1 ≤ (t209.size : Int) then (some (t209.extract 0 (bt222.1 : Int).toNat)) else (none)) else (none))) else (some t209)))))) = some r := H
  have A2 := Aside0.mk A20
  clear A20
  replace H := Option.bind_eq_some_iff.mp H
  obtain ⟨⟨t205, t208⟩, A30, H⟩ := H
  replace H : ((spec_Utf8Put.f k t205).bind fun t209 => ((spec_l1Rd_pick.f k t202 t208 4).bind fun bt210 => (if bt210.1 = 0 then ((spec_l1Rd_of.f k t202 bt210.2 (([(⟨#[128]⟩ : ByteArray), (⟨#[195]⟩ : ByteArray), (⟨#[192, 128]⟩ : ByteArray), (⟨#[224, 128, 128]⟩ : ByteArray), (⟨#[237, 160, 128]⟩ : ByteArray), (⟨#[244, 144, 128, 128]⟩ : ByteArray), (⟨#[240, 159, 152]⟩ : ByteArray), (⟨#[255]⟩ : ByteArray), (⟨#[193, 191]⟩ : ByteArray)] : List ByteArray))).bind fun bt215 => (if t209.size + bt215.1.size ≤ 9223372036854775807 then ((spec_l1Rd_of.f k t202 bt215.2 (([(⟨#[]⟩ : ByteArray), (⟨#[97]⟩ : ByteArray)] : List ByteArray))).bind fun bt220 => (if (t209 ++ bt215.1).size + bt220.1.size ≤ 9223372036854775807 then (some ((t209 ++ bt215.1) ++ bt220.1)) else (none))) else (none))) else (if bt210.1 = 1 then ((spec_l1Rd_pick.f k t202 bt210.2 (wrap64 ((t209.size : Int) + 1))).bind fun bt222 => (if 0 ≤ bt222.1 then (if bt222.1 ≤ (t209.size : Int) then (some (t209.extract 0 (bt222.1 : Int).toNat)) else (none)) else (none))) else (some t209))))) = some r := H
  have A3 := Aside0.mk A30
  clear A30
  replace H := Option.bind_eq_some_iff.mp H
  obtain ⟨t209, A40, H⟩ := H
  replace H : ((spec_l1Rd_pick.f k t202 t208 4).bind fun bt210 => (if bt210.1 = 0 then ((spec_l1Rd_of.f k t202 bt210.2 (([(⟨#[128]⟩ : ByteArray), (⟨#[195]⟩ : ByteArray), (⟨#[192, 128]⟩ : ByteArray), (⟨#[224, 128, 128]⟩ : ByteArray), (⟨#[237, 160, 128]⟩ : ByteArray), (⟨#[244, 144, 128, 128]⟩ : ByteArray), (⟨#[240, 159, 152]⟩ : ByteArray), (⟨#[255]⟩ : ByteArray), (⟨#[193, 191]⟩ : ByteArray)] : List ByteArray))).bind fun bt215 => (if t209.size + bt215.1.size ≤ 9223372036854775807 then ((spec_l1Rd_of.f k t202 bt215.2 (([(⟨#[]⟩ : ByteArray), (⟨#[97]⟩ : ByteArray)] : List ByteArray))).bind fun bt220 => (if (t209 ++ bt215.1).size + bt220.1.size ≤ 9223372036854775807 then (some ((t209 ++ bt215.1) ++ bt220.1)) else (none))) else (none))) else (if bt210.1 = 1 then ((spec_l1Rd_pick.f k t202 bt210.2 (wrap64 ((t209.size : Int) + 1))).bind fun bt222 => (if 0 ≤ bt222.1 then (if bt222.1 ≤ (t209.size : Int) then (some (t209.extract 0 (bt222.1 : Int).toNat)) else (none)) else (none))) else (some t209)))) = some r := H
  have A4 := Aside0.mk A40
  clear A40
  replace H := Option.bind_eq_some_iff.mp H
  obtain ⟨⟨t210, t211⟩, A50, H⟩ := H
  replace H : (if t210 = 0 then ((spec_l1Rd_of.f k t202 t211 (([(⟨#[128]⟩ : ByteArray), (⟨#[195]⟩ : ByteArray), (⟨#[192, 128]⟩ : ByteArray), (⟨#[224, 128, 128]⟩ : ByteArray), (⟨#[237, 160, 128]⟩ : ByteArray), (⟨#[244, 144, 128, 128]⟩ : ByteArray), (⟨#[240, 159, 152]⟩ : ByteArray), (⟨#[255]⟩ : ByteArray), (⟨#[193, 191]⟩ : ByteArray)] : List ByteArray))).bind fun bt215 => (if t209.size + bt215.1.size ≤ 9223372036854775807 then ((spec_l1Rd_of.f k t202 bt215.2 (([(⟨#[]⟩ : ByteArray), (⟨#[97]⟩ : ByteArray)] : List ByteArray))).bind fun bt220 => (if (t209 ++ bt215.1).size + bt220.1.size ≤ 9223372036854775807 then (some ((t209 ++ bt215.1) ++ bt220.1)) else (none))) else (none))) else (if t210 = 1 then ((spec_l1Rd_pick.f k t202 t211 (wrap64 ((t209.size : Int) + 1))).bind fun bt222 => (if 0 ≤ bt222.1 then (if bt222.1 ≤ (t209.size : Int) then (some (t209.extract 0 (bt222.1 : Int).toNat)) else (none)) else (none))) else (some t209))) = some r := H
  have A5 := Aside0.mk A50
  clear A50
  by_cases c6 : t210 = 0
  · rw [if_pos c6] at H
    have c6b0 : (t210 == 0) = true := beq_iff_eq.mpr c6
    have c6b1 : (t210 != 0) = false := bne_eq_false_iff_eq.mpr c6
    clear c6
    obtain ⟨y212, hy212⟩ : ∃ y_ : List ByteArray, y_ = (([(⟨#[128]⟩ : ByteArray), (⟨#[195]⟩ : ByteArray), (⟨#[192, 128]⟩ : ByteArray), (⟨#[224, 128, 128]⟩ : ByteArray), (⟨#[237, 160, 128]⟩ : ByteArray), (⟨#[244, 144, 128, 128]⟩ : ByteArray), (⟨#[240, 159, 152]⟩ : ByteArray), (⟨#[255]⟩ : ByteArray), (⟨#[193, 191]⟩ : ByteArray)] : List ByteArray)) := ⟨_, rfl⟩
    replace H : ((spec_l1Rd_of.f k t202 t211 y212).bind fun bt215 => (if t209.size + bt215.1.size ≤ 9223372036854775807 then ((spec_l1Rd_of.f k t202 bt215.2 (([(⟨#[]⟩ : ByteArray), (⟨#[97]⟩ : ByteArray)] : List ByteArray))).bind fun bt220 => (if (t209 ++ bt215.1).size + bt220.1.size ≤ 9223372036854775807 then (some ((t209 ++ bt215.1) ++ bt220.1)) else (none))) else (none))) = some r := by first | (rw [hy212]; with_reducible exact H) | (have H2_ := (Option.bind_some _ _).symm.trans H; rw [hy212]; with_reducible exact H2_) | (have H2_ := (Option.bind_some _ _).symm.trans H; with_reducible exact H2_) | with_reducible exact H | (rw [hy212]; exact H) | exact H
    have Ny212 := Aside0.mk hy212
    clear hy212
    replace H := Option.bind_eq_some_iff.mp H
    obtain ⟨⟨t215, t216⟩, A70, H⟩ := H
    replace H : (if t209.size + t215.size ≤ 9223372036854775807 then ((spec_l1Rd_of.f k t202 t216 (([(⟨#[]⟩ : ByteArray), (⟨#[97]⟩ : ByteArray)] : List ByteArray))).bind fun bt220 => (if (t209 ++ t215).size + bt220.1.size ≤ 9223372036854775807 then (some ((t209 ++ t215) ++ bt220.1)) else (none))) else (none)) = some r := H
    have A7 := Aside0.mk A70
    clear A70
    by_cases c8 : t209.size + t215.size ≤ 9223372036854775807
    · rw [if_pos c8] at H
      have c8b0 := eq_true c8
      have c8b1 : decide (t209.size + t215.size ≤ 9223372036854775807) = true := decide_eq_true c8
      try have c8b2 : (9223372036854775807 < t209.size + t215.size) = False := eq_false (Nat.not_lt.2 c8)
      obtain ⟨y217, hy217⟩ : ∃ y_ : List ByteArray, y_ = (([(⟨#[]⟩ : ByteArray), (⟨#[97]⟩ : ByteArray)] : List ByteArray)) := ⟨_, rfl⟩
      replace H : ((spec_l1Rd_of.f k t202 t216 y217).bind fun bt220 => (if (t209 ++ t215).size + bt220.1.size ≤ 9223372036854775807 then (some ((t209 ++ t215) ++ bt220.1)) else (none))) = some r := by first | (rw [hy217]; with_reducible exact H) | (have H2_ := (Option.bind_some _ _).symm.trans H; rw [hy217]; with_reducible exact H2_) | (have H2_ := (Option.bind_some _ _).symm.trans H; with_reducible exact H2_) | with_reducible exact H | (rw [hy217]; exact H) | exact H
      have Ny217 := Aside0.mk hy217
      clear hy217
      replace H := Option.bind_eq_some_iff.mp H
      obtain ⟨⟨t220, t221⟩, A90, H⟩ := H
      replace H : (if (t209 ++ t215).size + t220.size ≤ 9223372036854775807 then (some ((t209 ++ t215) ++ t220)) else (none)) = some r := H
      have A9 := Aside0.mk A90
      clear A90
      by_cases c10 : (t209 ++ t215).size + t220.size ≤ 9223372036854775807
      · rw [if_pos c10] at H
        have c10b0 := eq_true c10
        have c10b1 : decide ((t209 ++ t215).size + t220.size ≤ 9223372036854775807) = true := decide_eq_true c10
        try have c10b2 : (9223372036854775807 < (t209 ++ t215).size + t220.size) = False := eq_false (Nat.not_lt.2 c10)
        try have c10b3 : (9223372036854775807 < t209.size + t215.size + t220.size) = False := by rw [← ByteArray.size_append]; exact c10b2
        obtain rfl := Option.some.inj H
        go_enter Tryd.func5, Tryd.ntmps5
        go_wp2_with (first | ((with_reducible refine gate_callee (f := 12) rfl ?_); refine goesL_ (some 6) rfl rfl Tryd.func12 (by kernel_rfl) rfl #[.slice A0 l0.length c0] rfl (by (try simp only [List.map_toArray, List.map_cons, List.map_nil]); first | done | rfl | (simp only [List.length_drop, List.length_take]; rfl)) ?_; (with_reducible refine (spec_l1Open.calls _ _ l0 t202 t203 w _ ?side1 ?side2 ?side3 A2.out).mono ?_); (case side1 => repeat (first | (with_reducible first | exact HB.out | apply below_alloc | apply pw_below_drewN | apply below_drew1) | exact HB.out)); (case side2 => exact HR0.out); (case side3 => exact HC0.out); rintro e w11 ⟨g204, rfl, hi, hb, hb2⟩; refine ⟨_, rfl, ?_⟩; have n0_ := Aside0.mk (hb); have n1_ := Aside0.mk (hi); clear HB; have HB := n0_; have HI204 := n1_; clear n0_ n1_; (try clear hb); (try clear hb2); (try clear hk); (try clear hi)) | ((with_reducible refine gate_callee (f := 13) rfl ?_); refine goesL_ (some 8) rfl rfl Tryd.func13 (by kernel_rfl) rfl #[.pointer (some ⟨g204, 0, none⟩)] rfl (by (try simp only [List.map_toArray, List.map_cons, List.map_nil]); first | done | rfl | (simp only [List.length_drop, List.length_take]; rfl)) ?_; (with_reducible refine (spec_l13Runes.calls k g204 t202 t203 t205 t208 w _ ?side1 ?side2 A3.out).mono ?_); (case side1 => repeat (first | (with_reducible first | exact HI204.out | apply IsS46.alloc | apply IsS46.drewN | apply IsS46.drew | apply IsS46.set_1) | exact HI204.out)); (case side2 => repeat (first | (with_reducible first | exact HB.out | apply below_alloc | apply pw_below_drewN | apply below_drew1 | refine below_set ?_ (IsS46.ge HI204.out)) | exact HB.out)); rintro e w12 ⟨v206, rfl, ho0, hi, hb, hk⟩; refine ⟨_, rfl, ?_⟩; have n0_ := Aside0.mk (Kd.R_lower ho0 (below_size (by repeat (first | (with_reducible first | exact HB.out | apply below_alloc | apply pw_below_drewN | apply below_drew1 | refine below_set ?_ (IsS46.ge HI204.out)) | exact HB.out)))); have n1_ := Aside0.mk (hb); have n2_ := Aside0.mk (hi); clear HB; clear HI204; have HO207 := n0_; have HB := n1_; have HI204 := n2_; clear n0_ n1_ n2_; (try clear hb); (try clear hb2); (try clear hk); (try clear hi); (try clear ho0); obtain ⟨Ao13, co13, eo13⟩ := Kd.R_slice HO207.out; subst eo13) | ((with_reducible refine gate_callee (f := 11) rfl ?_); refine goesL_ (some 9) rfl rfl Tryd.func11 (by kernel_rfl) rfl #[.slice Ao13 t205.length co13] rfl (by (try simp only [List.map_toArray, List.map_cons, List.map_nil]); first | done | rfl | (simp only [List.length_drop, List.length_take]; rfl)) ?_; (with_reducible refine (spec_Utf8Put.calls k _ _ t205 t209 _ ?side1 ?side2 A4.out).mono ?_); (case side1 => repeat (first | exact (Kd.R_reads' HO207.out).2.2 | (with_reducible refine Kd.C_alloc ?_ _) | (with_reducible refine Kd.C_drewN ?_ _) | (with_reducible refine Kd.C_drew ?_))); (case side2 => exact (Kd.R_reads' HO207.out).2.1); rintro e w14 ⟨rfl, hb⟩; refine ⟨_, rfl, ?_⟩; have n0_ := Aside0.mk (Kd.R_below (by (with_reducible repeat (first | apply Kd.R_alloc | apply Kd.R_drewN | apply Kd.R_drew)); exact HO207.out) hb); have n1_ := Aside0.mk (IsS46.below (by repeat (first | (with_reducible first | exact HI204.out | apply IsS46.alloc | apply IsS46.drewN | apply IsS46.drew | apply IsS46.set_1) | exact HI204.out)) hb); have n2_ := Aside0.mk (below_step (by repeat (first | (with_reducible first | exact HB.out | apply below_alloc | apply pw_below_drewN | apply below_drew1 | refine below_set ?_ (IsS46.ge HI204.out)) | exact HB.out)) hb); clear HO207; clear HI204; clear HB; have HO207 := n0_; have HI204 := n1_; have HB := n2_; clear n0_ n1_ n2_; (try clear hb); (try clear hb2); (try clear hk); (try clear hi)) | ((with_reducible refine gate_callee (f := 14) rfl ?_); refine goesL_ (some 11) rfl rfl Tryd.func14 (by kernel_rfl) rfl #[.pointer (some ⟨g204, 0, none⟩), .int .i64 4] rfl (by (try simp only [List.map_toArray, List.map_cons, List.map_nil]); first | done | rfl | (simp only [List.length_drop, List.length_take]; rfl)) ?_; (with_reducible refine (spec_l1Rd_pick.calls k g204 t202 t208 4 t210 t211 w _ ?side1 ?side2 A5.out).mono ?_); (case side1 => repeat (first | (with_reducible first | exact HI204.out | apply IsS46.alloc | apply IsS46.drewN | apply IsS46.drew | apply IsS46.set_1) | exact HI204.out)); (case side2 => repeat (first | (with_reducible first | exact HB.out | apply below_alloc | apply pw_below_drewN | apply below_drew1 | refine below_set ?_ (IsS46.ge HI204.out)) | exact HB.out)); rintro e w15 ⟨rfl, hi, hb, hk⟩; refine ⟨_, rfl, ?_⟩; have n0_ := Aside0.mk (Kd.R_mono (Kd.R_keep (IsS46.apart (show IsS46 w _ g204 t202 t208 from by repeat (first | (with_reducible first | exact HI204.out | apply IsS46.alloc | apply IsS46.drewN | apply IsS46.drew | apply IsS46.set_1) | exact HI204.out)) (by (with_reducible repeat (first | apply Kd.R_alloc | apply Kd.R_drewN | apply Kd.R_drew)); exact HO207.out) (by decide)) hk (fun _ h => h.2)) (fun _ h => h.1)); have n1_ := Aside0.mk (hb); have n2_ := Aside0.mk (hi); clear HO207; clear HB; clear HI204; have HO207 := n0_; have HB := n1_; have HI204 := n2_; clear n0_ n1_ n2_; (try clear hb); (try clear hb2); (try clear hk); (try clear hi)) | ((with_reducible refine gate_dst (N := 16) rfl ?_); refine Kd.R_lit Kd.string _ 9 ?hg (N := 16) ?hd (xs := ([(⟨#[128]⟩ : ByteArray), (⟨#[195]⟩ : ByteArray), (⟨#[192, 128]⟩ : ByteArray), (⟨#[224, 128, 128]⟩ : ByteArray), (⟨#[237, 160, 128]⟩ : ByteArray), (⟨#[244, 144, 128, 128]⟩ : ByteArray), (⟨#[240, 159, 152]⟩ : ByteArray), (⟨#[255]⟩ : ByteArray), (⟨#[193, 191]⟩ : ByteArray)] : List ByteArray)) (inner := [.string (⟨#[128]⟩ : ByteArray), .string (⟨#[195]⟩ : ByteArray), .string (⟨#[192, 128]⟩ : ByteArray), .string (⟨#[224, 128, 128]⟩ : ByteArray), .string (⟨#[237, 160, 128]⟩ : ByteArray), .string (⟨#[244, 144, 128, 128]⟩ : ByteArray), .string (⟨#[240, 159, 152]⟩ : ByteArray), .string (⟨#[255]⟩ : ByteArray), .string (⟨#[193, 191]⟩ : ByteArray)]) (ok := fun _ => True) (okp := fun _ => True) ?hr ?hp (fun _ hk => hk) trivial (Below.refl _ _) (Nat.le_refl _) (by simp) ?_; (case hd => rfl); (case hg => rfl); (case hr => first | (go_simp; done) | (go_simp; rfl)); (case hp => exact (Reps.one (show Kd.M Kd.string _ _ _ (⟨#[128]⟩ : ByteArray) [.string (⟨#[128]⟩ : ByteArray)] from rfl) (Reps.one (show Kd.M Kd.string _ _ _ (⟨#[195]⟩ : ByteArray) [.string (⟨#[195]⟩ : ByteArray)] from rfl) (Reps.one (show Kd.M Kd.string _ _ _ (⟨#[192, 128]⟩ : ByteArray) [.string (⟨#[192, 128]⟩ : ByteArray)] from rfl) (Reps.one (show Kd.M Kd.string _ _ _ (⟨#[224, 128, 128]⟩ : ByteArray) [.string (⟨#[224, 128, 128]⟩ : ByteArray)] from rfl) (Reps.one (show Kd.M Kd.string _ _ _ (⟨#[237, 160, 128]⟩ : ByteArray) [.string (⟨#[237, 160, 128]⟩ : ByteArray)] from rfl) (Reps.one (show Kd.M Kd.string _ _ _ (⟨#[244, 144, 128, 128]⟩ : ByteArray) [.string (⟨#[244, 144, 128, 128]⟩ : ByteArray)] from rfl) (Reps.one (show Kd.M Kd.string _ _ _ (⟨#[240, 159, 152]⟩ : ByteArray) [.string (⟨#[240, 159, 152]⟩ : ByteArray)] from rfl) (Reps.one (show Kd.M Kd.string _ _ _ (⟨#[255]⟩ : ByteArray) [.string (⟨#[255]⟩ : ByteArray)] from rfl) (Reps.one (show Kd.M Kd.string _ _ _ (⟨#[193, 191]⟩ : ByteArray) [.string (⟨#[193, 191]⟩ : ByteArray)] from rfl) (Reps.none _ _))))))))))); intro v213 w16 ho17 hb hg_ hnew_; clear hg_ hnew_; (first | rw [← Ny212.out] at ho17 | (simp only [Int.reduceToNat] at ho17; rw [← Ny212.out] at ho17)); have n0_ := Aside0.mk (Kd.R_below (by (with_reducible repeat (first | apply Kd.R_alloc | apply Kd.R_drewN | apply Kd.R_drew)); exact HO207.out) hb); have n1_ := Aside0.mk (Kd.R_lower ho17 (below_size (by repeat (first | (with_reducible first | exact HB.out | apply below_alloc | apply pw_below_drewN | apply below_drew1 | refine below_set ?_ (IsS46.ge HI204.out)) | exact HB.out)))); have n2_ := Aside0.mk (IsS46.below (by repeat (first | (with_reducible first | exact HI204.out | apply IsS46.alloc | apply IsS46.drewN | apply IsS46.drew | apply IsS46.set_1) | exact HI204.out)) hb); have n3_ := Aside0.mk (below_step (by repeat (first | (with_reducible first | exact HB.out | apply below_alloc | apply pw_below_drewN | apply below_drew1 | refine below_set ?_ (IsS46.ge HI204.out)) | exact HB.out)) hb); clear HO207; clear HI204; clear HB; have HO207 := n0_; have HO214 := n1_; have HI204 := n2_; have HB := n3_; clear n0_ n1_ n2_ n3_; clear hb ho17; obtain ⟨Ao18, co18, eo18⟩ := Kd.R_slice HO214.out; subst eo18) | ((with_reducible refine gate_callee (f := 15) rfl ?_); refine goesL_ (some 17) rfl rfl Tryd.func15 (by kernel_rfl) rfl #[.pointer (some ⟨g204, 0, none⟩), .slice Ao18 y212.length co18] rfl (by (try simp only [List.map_toArray, List.map_cons, List.map_nil]); first | done | rfl | (simp only [List.length_drop, List.length_take]; rfl)) ?_; (with_reducible refine (spec_l1Rd_of.calls k g204 t202 t211 _ _ y212 t215 t216 w _ ?side1 ?side2 ?side3 ?side4 ?side5 A7.out).mono ?_); (case side1 => repeat (first | (with_reducible first | exact HI204.out | apply IsS46.alloc | apply IsS46.drewN | apply IsS46.drew | apply IsS46.set_1) | exact HI204.out)); (case side2 => repeat (first | (with_reducible first | exact HB.out | apply below_alloc | apply pw_below_drewN | apply below_drew1 | refine below_set ?_ (IsS46.ge HI204.out)) | exact HB.out)); (case side3 => repeat (first | exact (Kd.R_reads' HO214.out).2.2 | (with_reducible refine Kd.C_alloc ?_ _) | (with_reducible refine Kd.C_drewN ?_ _) | (with_reducible refine Kd.C_drew ?_))); (case side4 => exact (Kd.R_reads' HO214.out).2.1); (case side5 => exact far_slice (IsS46.own_ne HI204.out HO214.out (by decide))); rintro e w19 ⟨rfl, hi, hb, hk⟩; refine ⟨_, rfl, ?_⟩; have n0_ := Aside0.mk (Kd.R_mono (Kd.R_keep (IsS46.apart (show IsS46 w _ g204 t202 t211 from by repeat (first | (with_reducible first | exact HI204.out | apply IsS46.alloc | apply IsS46.drewN | apply IsS46.drew | apply IsS46.set_1) | exact HI204.out)) (by (with_reducible repeat (first | apply Kd.R_alloc | apply Kd.R_drewN | apply Kd.R_drew)); exact HO207.out) (by decide)) hk (fun _ h => h.2)) (fun _ h => h.1)); have n1_ := Aside0.mk (Kd.R_mono (Kd.R_keep (IsS46.apart (show IsS46 w _ g204 t202 t211 from by repeat (first | (with_reducible first | exact HI204.out | apply IsS46.alloc | apply IsS46.drewN | apply IsS46.drew | apply IsS46.set_1) | exact HI204.out)) (by (with_reducible repeat (first | apply Kd.R_alloc | apply Kd.R_drewN | apply Kd.R_drew)); exact HO214.out) (by decide)) hk (fun _ h => h.2)) (fun _ h => h.1)); have n2_ := Aside0.mk (hb); have n3_ := Aside0.mk (hi); clear HO207; clear HO214; clear HB; clear HI204; have HO207 := n0_; have HO214 := n1_; have HB := n2_; have HI204 := n3_; clear n0_ n1_ n2_ n3_; (try clear hb); (try clear hb2); (try clear hk); (try clear hi)) | ((with_reducible refine gate_dst (N := 20) rfl ?_); refine Kd.R_lit Kd.string _ 9 ?hg (N := 20) ?hd (xs := ([(⟨#[]⟩ : ByteArray), (⟨#[97]⟩ : ByteArray)] : List ByteArray)) (inner := [.string (⟨#[]⟩ : ByteArray), .string (⟨#[97]⟩ : ByteArray)]) (ok := fun _ => True) (okp := fun _ => True) ?hr ?hp (fun _ hk => hk) trivial (Below.refl _ _) (Nat.le_refl _) (by simp) ?_; (case hd => rfl); (case hg => rfl); (case hr => first | (go_simp; done) | (go_simp; rfl)); (case hp => exact (Reps.one (show Kd.M Kd.string _ _ _ (⟨#[]⟩ : ByteArray) [.string (⟨#[]⟩ : ByteArray)] from rfl) (Reps.one (show Kd.M Kd.string _ _ _ (⟨#[97]⟩ : ByteArray) [.string (⟨#[97]⟩ : ByteArray)] from rfl) (Reps.none _ _)))); intro v218 w20 ho21 hb hg_ hnew_; clear hg_ hnew_; (first | rw [← Ny217.out] at ho21 | (simp only [Int.reduceToNat] at ho21; rw [← Ny217.out] at ho21)); have n0_ := Aside0.mk (Kd.R_below (by (with_reducible repeat (first | apply Kd.R_alloc | apply Kd.R_drewN | apply Kd.R_drew)); exact HO207.out) hb); have n1_ := Aside0.mk (Kd.R_elder' (by (with_reducible repeat (first | apply Kd.R_alloc | apply Kd.R_drewN | apply Kd.R_drew)); exact HO214.out) (Kd.R_base ho21) hb); have n2_ := Aside0.mk (Kd.R_lower (Kd.R_new' ho21 (Kd.R_lt (by (with_reducible repeat (first | apply Kd.R_alloc | apply Kd.R_drewN | apply Kd.R_drew)); exact HO214.out))) (below_size (by repeat (first | (with_reducible first | exact HB.out | apply below_alloc | apply pw_below_drewN | apply below_drew1 | refine below_set ?_ (IsS46.ge HI204.out)) | exact HB.out)))); have n3_ := Aside0.mk (IsS46.below (by repeat (first | (with_reducible first | exact HI204.out | apply IsS46.alloc | apply IsS46.drewN | apply IsS46.drew | apply IsS46.set_1) | exact HI204.out)) hb); have n4_ := Aside0.mk (below_step (by repeat (first | (with_reducible first | exact HB.out | apply below_alloc | apply pw_below_drewN | apply below_drew1 | refine below_set ?_ (IsS46.ge HI204.out)) | exact HB.out)) hb); clear HO207; clear HO214; clear HI204; clear HB; have HO207 := n0_; have HO214 := n1_; have HO219 := n2_; have HI204 := n3_; have HB := n4_; clear n0_ n1_ n2_ n3_ n4_; clear hb ho21; obtain ⟨Ao22, co22, eo22⟩ := Kd.R_slice HO219.out; subst eo22) | ((with_reducible refine gate_callee (f := 15) rfl ?_); refine goesL_ (some 21) rfl rfl Tryd.func15 (by kernel_rfl) rfl #[.pointer (some ⟨g204, 0, none⟩), .slice Ao22 y217.length co22] rfl (by (try simp only [List.map_toArray, List.map_cons, List.map_nil]); first | done | rfl | (simp only [List.length_drop, List.length_take]; rfl)) ?_; (with_reducible refine (spec_l1Rd_of.calls k g204 t202 t216 _ _ y217 t220 t221 w _ ?side1 ?side2 ?side3 ?side4 ?side5 A9.out).mono ?_); (case side1 => repeat (first | (with_reducible first | exact HI204.out | apply IsS46.alloc | apply IsS46.drewN | apply IsS46.drew | apply IsS46.set_1) | exact HI204.out)); (case side2 => repeat (first | (with_reducible first | exact HB.out | apply below_alloc | apply pw_below_drewN | apply below_drew1 | refine below_set ?_ (IsS46.ge HI204.out)) | exact HB.out)); (case side3 => repeat (first | exact (Kd.R_reads' HO219.out).2.2 | (with_reducible refine Kd.C_alloc ?_ _) | (with_reducible refine Kd.C_drewN ?_ _) | (with_reducible refine Kd.C_drew ?_))); (case side4 => exact (Kd.R_reads' HO219.out).2.1); (case side5 => exact far_slice (IsS46.own_ne HI204.out HO219.out (by decide))); rintro e w23 ⟨rfl, hi, hb, hk⟩; refine ⟨_, rfl, ?_⟩; have n0_ := Aside0.mk (Kd.R_mono (Kd.R_keep (IsS46.apart (show IsS46 w _ g204 t202 t216 from by repeat (first | (with_reducible first | exact HI204.out | apply IsS46.alloc | apply IsS46.drewN | apply IsS46.drew | apply IsS46.set_1) | exact HI204.out)) (by (with_reducible repeat (first | apply Kd.R_alloc | apply Kd.R_drewN | apply Kd.R_drew)); exact HO207.out) (by decide)) hk (fun _ h => h.2)) (fun _ h => h.1)); have n1_ := Aside0.mk (Kd.R_mono (Kd.R_keep (IsS46.apart (show IsS46 w _ g204 t202 t216 from by repeat (first | (with_reducible first | exact HI204.out | apply IsS46.alloc | apply IsS46.drewN | apply IsS46.drew | apply IsS46.set_1) | exact HI204.out)) (by (with_reducible repeat (first | apply Kd.R_alloc | apply Kd.R_drewN | apply Kd.R_drew)); exact HO214.out) (by decide)) hk (fun _ h => h.2)) (fun _ h => h.1)); have n2_ := Aside0.mk (Kd.R_mono (Kd.R_keep (IsS46.apart (show IsS46 w _ g204 t202 t216 from by repeat (first | (with_reducible first | exact HI204.out | apply IsS46.alloc | apply IsS46.drewN | apply IsS46.drew | apply IsS46.set_1) | exact HI204.out)) (by (with_reducible repeat (first | apply Kd.R_alloc | apply Kd.R_drewN | apply Kd.R_drew)); exact HO219.out) (by decide)) hk (fun _ h => h.2)) (fun _ h => h.1)); have n3_ := Aside0.mk (hb); have n4_ := Aside0.mk (hi); clear HO207; clear HO214; clear HO219; clear HB; clear HI204; have HO207 := n0_; have HO214 := n1_; have HO219 := n2_; have HB := n3_; have HI204 := n4_; clear n0_ n1_ n2_ n3_ n4_; (try clear hb); (try clear hb2); (try clear hk); (try clear hi)))
        go_ret
        exact ⟨by first | rfl | (simp [errW_none, errW_some] <;> rfl) | (simp [*, errW_none, errW_some] <;> rfl), by repeat (first | (with_reducible first | exact HB.out | apply below_alloc | apply pw_below_drewN | apply below_drew1 | refine below_set ?_ (IsS46.ge HI204.out)) | exact HB.out)⟩
      · rw [if_neg c10] at H
        exact absurd H (by simp)
    · rw [if_neg c8] at H
      exact absurd H (by simp)
  · rw [if_neg c6] at H
    have c6b0 : (t210 == 0) = false := beq_eq_false_iff_ne.mpr c6
    have c6b1 : (t210 != 0) = true := bne_iff_ne.mpr c6
    by_cases c24 : t210 = 1
    · rw [if_pos c24] at H
      have c24b0 : (t210 == 1) = true := beq_iff_eq.mpr c24
      have c24b1 : (t210 != 1) = false := bne_eq_false_iff_eq.mpr c24
      clear c24
      replace H := Option.bind_eq_some_iff.mp H
      obtain ⟨⟨t222, t223⟩, A250, H⟩ := H
      replace H : (if 0 ≤ t222 then (if t222 ≤ (t209.size : Int) then (some (t209.extract 0 (t222 : Int).toNat)) else (none)) else (none)) = some r := H
      have A25 := Aside0.mk A250
      clear A250
      by_cases c26 : 0 ≤ t222
      · rw [if_pos c26] at H
        have c26b0 := eq_true c26
        have c26b1 : decide (0 ≤ t222) = true := decide_eq_true c26
        clear c26
        by_cases c27 : t222 ≤ (t209.size : Int)
        · rw [if_pos c27] at H
          have c27b0 := eq_true c27
          have c27b1 : decide (t222 ≤ (t209.size : Int)) = true := decide_eq_true c27
          clear c27
          obtain rfl := Option.some.inj H
          go_enter Tryd.func5, Tryd.ntmps5
          go_wp2_with (first | ((with_reducible refine gate_callee (f := 12) rfl ?_); refine goesL_ (some 6) rfl rfl Tryd.func12 (by kernel_rfl) rfl #[.slice A0 l0.length c0] rfl (by (try simp only [List.map_toArray, List.map_cons, List.map_nil]); first | done | rfl | (simp only [List.length_drop, List.length_take]; rfl)) ?_; (with_reducible refine (spec_l1Open.calls _ _ l0 t202 t203 w _ ?side1 ?side2 ?side3 A2.out).mono ?_); (case side1 => repeat (first | (with_reducible first | exact HB.out | apply below_alloc | apply pw_below_drewN | apply below_drew1) | exact HB.out)); (case side2 => exact HR0.out); (case side3 => exact HC0.out); rintro e w28 ⟨g204, rfl, hi, hb, hb2⟩; refine ⟨_, rfl, ?_⟩; have n0_ := Aside0.mk (hb); have n1_ := Aside0.mk (hi); clear HB; have HB := n0_; have HI204 := n1_; clear n0_ n1_; (try clear hb); (try clear hb2); (try clear hk); (try clear hi)) | ((with_reducible refine gate_callee (f := 13) rfl ?_); refine goesL_ (some 8) rfl rfl Tryd.func13 (by kernel_rfl) rfl #[.pointer (some ⟨g204, 0, none⟩)] rfl (by (try simp only [List.map_toArray, List.map_cons, List.map_nil]); first | done | rfl | (simp only [List.length_drop, List.length_take]; rfl)) ?_; (with_reducible refine (spec_l13Runes.calls k g204 t202 t203 t205 t208 w _ ?side1 ?side2 A3.out).mono ?_); (case side1 => repeat (first | (with_reducible first | exact HI204.out | apply IsS46.alloc | apply IsS46.drewN | apply IsS46.drew | apply IsS46.set_1) | exact HI204.out)); (case side2 => repeat (first | (with_reducible first | exact HB.out | apply below_alloc | apply pw_below_drewN | apply below_drew1 | refine below_set ?_ (IsS46.ge HI204.out)) | exact HB.out)); rintro e w29 ⟨v206, rfl, ho0, hi, hb, hk⟩; refine ⟨_, rfl, ?_⟩; have n0_ := Aside0.mk (Kd.R_lower ho0 (below_size (by repeat (first | (with_reducible first | exact HB.out | apply below_alloc | apply pw_below_drewN | apply below_drew1 | refine below_set ?_ (IsS46.ge HI204.out)) | exact HB.out)))); have n1_ := Aside0.mk (hb); have n2_ := Aside0.mk (hi); clear HB; clear HI204; have HO207 := n0_; have HB := n1_; have HI204 := n2_; clear n0_ n1_ n2_; (try clear hb); (try clear hb2); (try clear hk); (try clear hi); (try clear ho0); obtain ⟨Ao30, co30, eo30⟩ := Kd.R_slice HO207.out; subst eo30) | ((with_reducible refine gate_callee (f := 11) rfl ?_); refine goesL_ (some 9) rfl rfl Tryd.func11 (by kernel_rfl) rfl #[.slice Ao30 t205.length co30] rfl (by (try simp only [List.map_toArray, List.map_cons, List.map_nil]); first | done | rfl | (simp only [List.length_drop, List.length_take]; rfl)) ?_; (with_reducible refine (spec_Utf8Put.calls k _ _ t205 t209 _ ?side1 ?side2 A4.out).mono ?_); (case side1 => repeat (first | exact (Kd.R_reads' HO207.out).2.2 | (with_reducible refine Kd.C_alloc ?_ _) | (with_reducible refine Kd.C_drewN ?_ _) | (with_reducible refine Kd.C_drew ?_))); (case side2 => exact (Kd.R_reads' HO207.out).2.1); rintro e w31 ⟨rfl, hb⟩; refine ⟨_, rfl, ?_⟩; have n0_ := Aside0.mk (Kd.R_below (by (with_reducible repeat (first | apply Kd.R_alloc | apply Kd.R_drewN | apply Kd.R_drew)); exact HO207.out) hb); have n1_ := Aside0.mk (IsS46.below (by repeat (first | (with_reducible first | exact HI204.out | apply IsS46.alloc | apply IsS46.drewN | apply IsS46.drew | apply IsS46.set_1) | exact HI204.out)) hb); have n2_ := Aside0.mk (below_step (by repeat (first | (with_reducible first | exact HB.out | apply below_alloc | apply pw_below_drewN | apply below_drew1 | refine below_set ?_ (IsS46.ge HI204.out)) | exact HB.out)) hb); clear HO207; clear HI204; clear HB; have HO207 := n0_; have HI204 := n1_; have HB := n2_; clear n0_ n1_ n2_; (try clear hb); (try clear hb2); (try clear hk); (try clear hi)) | ((with_reducible refine gate_callee (f := 14) rfl ?_); refine goesL_ (some 11) rfl rfl Tryd.func14 (by kernel_rfl) rfl #[.pointer (some ⟨g204, 0, none⟩), .int .i64 4] rfl (by (try simp only [List.map_toArray, List.map_cons, List.map_nil]); first | done | rfl | (simp only [List.length_drop, List.length_take]; rfl)) ?_; (with_reducible refine (spec_l1Rd_pick.calls k g204 t202 t208 4 t210 t211 w _ ?side1 ?side2 A5.out).mono ?_); (case side1 => repeat (first | (with_reducible first | exact HI204.out | apply IsS46.alloc | apply IsS46.drewN | apply IsS46.drew | apply IsS46.set_1) | exact HI204.out)); (case side2 => repeat (first | (with_reducible first | exact HB.out | apply below_alloc | apply pw_below_drewN | apply below_drew1 | refine below_set ?_ (IsS46.ge HI204.out)) | exact HB.out)); rintro e w32 ⟨rfl, hi, hb, hk⟩; refine ⟨_, rfl, ?_⟩; have n0_ := Aside0.mk (Kd.R_mono (Kd.R_keep (IsS46.apart (show IsS46 w _ g204 t202 t208 from by repeat (first | (with_reducible first | exact HI204.out | apply IsS46.alloc | apply IsS46.drewN | apply IsS46.drew | apply IsS46.set_1) | exact HI204.out)) (by (with_reducible repeat (first | apply Kd.R_alloc | apply Kd.R_drewN | apply Kd.R_drew)); exact HO207.out) (by decide)) hk (fun _ h => h.2)) (fun _ h => h.1)); have n1_ := Aside0.mk (hb); have n2_ := Aside0.mk (hi); clear HO207; clear HB; clear HI204; have HO207 := n0_; have HB := n1_; have HI204 := n2_; clear n0_ n1_ n2_; (try clear hb); (try clear hb2); (try clear hk); (try clear hi)) | ((with_reducible refine gate_callee (f := 14) rfl ?_); refine goesL_ (some 30) rfl rfl Tryd.func14 (by kernel_rfl) rfl #[.pointer (some ⟨g204, 0, none⟩), .int .i64 (wrap64 ((t209.size : Int) + 1))] rfl (by (try simp only [List.map_toArray, List.map_cons, List.map_nil]); first | done | rfl | (simp only [List.length_drop, List.length_take]; rfl)) ?_; (with_reducible refine (spec_l1Rd_pick.calls k g204 t202 t211 (wrap64 ((t209.size : Int) + 1)) t222 t223 w _ ?side1 ?side2 A25.out).mono ?_); (case side1 => repeat (first | (with_reducible first | exact HI204.out | apply IsS46.alloc | apply IsS46.drewN | apply IsS46.drew | apply IsS46.set_1) | exact HI204.out)); (case side2 => repeat (first | (with_reducible first | exact HB.out | apply below_alloc | apply pw_below_drewN | apply below_drew1 | refine below_set ?_ (IsS46.ge HI204.out)) | exact HB.out)); rintro e w33 ⟨rfl, hi, hb, hk⟩; refine ⟨_, rfl, ?_⟩; have n0_ := Aside0.mk (Kd.R_mono (Kd.R_keep (IsS46.apart (show IsS46 w _ g204 t202 t211 from by repeat (first | (with_reducible first | exact HI204.out | apply IsS46.alloc | apply IsS46.drewN | apply IsS46.drew | apply IsS46.set_1) | exact HI204.out)) (by (with_reducible repeat (first | apply Kd.R_alloc | apply Kd.R_drewN | apply Kd.R_drew)); exact HO207.out) (by decide)) hk (fun _ h => h.2)) (fun _ h => h.1)); have n1_ := Aside0.mk (hb); have n2_ := Aside0.mk (hi); clear HO207; clear HB; clear HI204; have HO207 := n0_; have HB := n1_; have HI204 := n2_; clear n0_ n1_ n2_; (try clear hb); (try clear hb2); (try clear hk); (try clear hi)))
          go_ret
          exact ⟨by first | rfl | (simp [errW_none, errW_some] <;> rfl) | (simp [*, errW_none, errW_some] <;> rfl), by repeat (first | (with_reducible first | exact HB.out | apply below_alloc | apply pw_below_drewN | apply below_drew1 | refine below_set ?_ (IsS46.ge HI204.out)) | exact HB.out)⟩
        · rw [if_neg c27] at H
          exact absurd H (by simp)
      · rw [if_neg c26] at H
        exact absurd H (by simp)
    · rw [if_neg c24] at H
      have c24b0 : (t210 == 1) = false := beq_eq_false_iff_ne.mpr c24
      have c24b1 : (t210 != 1) = true := bne_iff_ne.mpr c24
      obtain rfl := Option.some.inj H
      go_enter Tryd.func5, Tryd.ntmps5
      go_wp2_with (first | ((with_reducible refine gate_callee (f := 12) rfl ?_); refine goesL_ (some 6) rfl rfl Tryd.func12 (by kernel_rfl) rfl #[.slice A0 l0.length c0] rfl (by (try simp only [List.map_toArray, List.map_cons, List.map_nil]); first | done | rfl | (simp only [List.length_drop, List.length_take]; rfl)) ?_; (with_reducible refine (spec_l1Open.calls _ _ l0 t202 t203 w _ ?side1 ?side2 ?side3 A2.out).mono ?_); (case side1 => repeat (first | (with_reducible first | exact HB.out | apply below_alloc | apply pw_below_drewN | apply below_drew1) | exact HB.out)); (case side2 => exact HR0.out); (case side3 => exact HC0.out); rintro e w34 ⟨g204, rfl, hi, hb, hb2⟩; refine ⟨_, rfl, ?_⟩; have n0_ := Aside0.mk (hb); have n1_ := Aside0.mk (hi); clear HB; have HB := n0_; have HI204 := n1_; clear n0_ n1_; (try clear hb); (try clear hb2); (try clear hk); (try clear hi)) | ((with_reducible refine gate_callee (f := 13) rfl ?_); refine goesL_ (some 8) rfl rfl Tryd.func13 (by kernel_rfl) rfl #[.pointer (some ⟨g204, 0, none⟩)] rfl (by (try simp only [List.map_toArray, List.map_cons, List.map_nil]); first | done | rfl | (simp only [List.length_drop, List.length_take]; rfl)) ?_; (with_reducible refine (spec_l13Runes.calls k g204 t202 t203 t205 t208 w _ ?side1 ?side2 A3.out).mono ?_); (case side1 => repeat (first | (with_reducible first | exact HI204.out | apply IsS46.alloc | apply IsS46.drewN | apply IsS46.drew | apply IsS46.set_1) | exact HI204.out)); (case side2 => repeat (first | (with_reducible first | exact HB.out | apply below_alloc | apply pw_below_drewN | apply below_drew1 | refine below_set ?_ (IsS46.ge HI204.out)) | exact HB.out)); rintro e w35 ⟨v206, rfl, ho0, hi, hb, hk⟩; refine ⟨_, rfl, ?_⟩; have n0_ := Aside0.mk (Kd.R_lower ho0 (below_size (by repeat (first | (with_reducible first | exact HB.out | apply below_alloc | apply pw_below_drewN | apply below_drew1 | refine below_set ?_ (IsS46.ge HI204.out)) | exact HB.out)))); have n1_ := Aside0.mk (hb); have n2_ := Aside0.mk (hi); clear HB; clear HI204; have HO207 := n0_; have HB := n1_; have HI204 := n2_; clear n0_ n1_ n2_; (try clear hb); (try clear hb2); (try clear hk); (try clear hi); (try clear ho0); obtain ⟨Ao36, co36, eo36⟩ := Kd.R_slice HO207.out; subst eo36) | ((with_reducible refine gate_callee (f := 11) rfl ?_); refine goesL_ (some 9) rfl rfl Tryd.func11 (by kernel_rfl) rfl #[.slice Ao36 t205.length co36] rfl (by (try simp only [List.map_toArray, List.map_cons, List.map_nil]); first | done | rfl | (simp only [List.length_drop, List.length_take]; rfl)) ?_; (with_reducible refine (spec_Utf8Put.calls k _ _ t205 t209 _ ?side1 ?side2 A4.out).mono ?_); (case side1 => repeat (first | exact (Kd.R_reads' HO207.out).2.2 | (with_reducible refine Kd.C_alloc ?_ _) | (with_reducible refine Kd.C_drewN ?_ _) | (with_reducible refine Kd.C_drew ?_))); (case side2 => exact (Kd.R_reads' HO207.out).2.1); rintro e w37 ⟨rfl, hb⟩; refine ⟨_, rfl, ?_⟩; have n0_ := Aside0.mk (Kd.R_below (by (with_reducible repeat (first | apply Kd.R_alloc | apply Kd.R_drewN | apply Kd.R_drew)); exact HO207.out) hb); have n1_ := Aside0.mk (IsS46.below (by repeat (first | (with_reducible first | exact HI204.out | apply IsS46.alloc | apply IsS46.drewN | apply IsS46.drew | apply IsS46.set_1) | exact HI204.out)) hb); have n2_ := Aside0.mk (below_step (by repeat (first | (with_reducible first | exact HB.out | apply below_alloc | apply pw_below_drewN | apply below_drew1 | refine below_set ?_ (IsS46.ge HI204.out)) | exact HB.out)) hb); clear HO207; clear HI204; clear HB; have HO207 := n0_; have HI204 := n1_; have HB := n2_; clear n0_ n1_ n2_; (try clear hb); (try clear hb2); (try clear hk); (try clear hi)) | ((with_reducible refine gate_callee (f := 14) rfl ?_); refine goesL_ (some 11) rfl rfl Tryd.func14 (by kernel_rfl) rfl #[.pointer (some ⟨g204, 0, none⟩), .int .i64 4] rfl (by (try simp only [List.map_toArray, List.map_cons, List.map_nil]); first | done | rfl | (simp only [List.length_drop, List.length_take]; rfl)) ?_; (with_reducible refine (spec_l1Rd_pick.calls k g204 t202 t208 4 t210 t211 w _ ?side1 ?side2 A5.out).mono ?_); (case side1 => repeat (first | (with_reducible first | exact HI204.out | apply IsS46.alloc | apply IsS46.drewN | apply IsS46.drew | apply IsS46.set_1) | exact HI204.out)); (case side2 => repeat (first | (with_reducible first | exact HB.out | apply below_alloc | apply pw_below_drewN | apply below_drew1 | refine below_set ?_ (IsS46.ge HI204.out)) | exact HB.out)); rintro e w38 ⟨rfl, hi, hb, hk⟩; refine ⟨_, rfl, ?_⟩; have n0_ := Aside0.mk (Kd.R_mono (Kd.R_keep (IsS46.apart (show IsS46 w _ g204 t202 t208 from by repeat (first | (with_reducible first | exact HI204.out | apply IsS46.alloc | apply IsS46.drewN | apply IsS46.drew | apply IsS46.set_1) | exact HI204.out)) (by (with_reducible repeat (first | apply Kd.R_alloc | apply Kd.R_drewN | apply Kd.R_drew)); exact HO207.out) (by decide)) hk (fun _ h => h.2)) (fun _ h => h.1)); have n1_ := Aside0.mk (hb); have n2_ := Aside0.mk (hi); clear HO207; clear HB; clear HI204; have HO207 := n0_; have HB := n1_; have HI204 := n2_; clear n0_ n1_ n2_; (try clear hb); (try clear hb2); (try clear hk); (try clear hi)))
      go_ret
      exact ⟨by first | rfl | (simp [errW_none, errW_some] <;> rfl) | (simp [*, errW_none, errW_some] <;> rfl), by repeat (first | (with_reducible first | exact HB.out | apply below_alloc | apply pw_below_drewN | apply below_drew1 | refine below_set ?_ (IsS46.ge HI204.out)) | exact HB.out)⟩

-- function 6
/-! ### the letters of a text: the model of impl.Utf8Get -/
def Tryd.laysDecode_ren : Go.Shelf.Ren := ⟨fun | 197 => 26 | 260 => 33 | n => n, fun | 9 => 9 | 21 => 21 | 3 => 3 | 4 => 4 | 5 => 5 | 105 => 50 | 119 => 59 | 0 => 0 | 46 => 58 | 139 => 62 | 138 => 61 | n => n, fun | 3 => 0 | 4 => 1 | n => n⟩
theorem Tryd.laysDecode : Go.Proofs.Lays.n197 Tryd.prog Tryd.laysDecode_ren := {
  mixed := by kernel_rfl
  f197 := Tryd.func26.trans (congrArg some (by kernel_rfl))
  f260 := Tryd.func33.trans (congrArg some (by kernel_rfl))
  t0 := Tryd.underlying0
  a0 := Tryd.isAgg0
  z0 := Tryd.sizeOf0
  v0 := Tryd.zeroValue0
  t3 := Tryd.underlying3
  a3 := Tryd.isAgg3
  z3 := Tryd.sizeOf3
  v3 := Tryd.zeroValue3
  t4 := Tryd.underlying4
  a4 := Tryd.isAgg4
  z4 := Tryd.sizeOf4
  v4 := Tryd.zeroValue4
  t5 := Tryd.underlying5
  a5 := Tryd.isAgg5
  z5 := Tryd.sizeOf5
  v5 := Tryd.zeroValue5
  t9 := Tryd.underlying9
  a9 := Tryd.isAgg9
  z9 := Tryd.sizeOf9
  v9 := Tryd.zeroValue9
  t21 := Tryd.underlying21
  a21 := Tryd.isAgg21
  z21 := Tryd.sizeOf21
  v21 := Tryd.zeroValue21
  t46 := Tryd.underlying58
  a46 := Tryd.isAgg58
  z46 := Tryd.sizeOf58
  v46 := Tryd.zeroValue58
  t105 := Tryd.underlying50
  a105 := Tryd.isAgg50
  z105 := Tryd.sizeOf50
  v105 := Tryd.zeroValue50
  t119 := Tryd.underlying59
  a119 := Tryd.isAgg59
  z119 := Tryd.sizeOf59
  t138 := Tryd.underlying61
  a138 := Tryd.isAgg61
  z138 := Tryd.sizeOf61
  v138 := Tryd.zeroValue61
  t139 := Tryd.underlying62
  a139 := Tryd.isAgg62
  z139 := Tryd.sizeOf62
  v139 := Tryd.zeroValue62
  g3 := by kernel_rfl
  g4 := by kernel_rfl }
attribute [local go_sem] Oper.semAt_some
def runeOf (s : ByteArray) : Int := ((Lib.decodeGo s).1 : Int)
def goodOf (s : ByteArray) : Bool := (runeOf s != 65533) || decide (1 < ((Lib.decodeGo s).2 : Int))
def tailOf (s : ByteArray) : ByteArray := s.extract (Lib.decodeGo s).2 s.size
/-- the letters of a text, behind those that have come -/
def impl_Utf8Get.go : Nat → ByteArray → List Int → Option (List Int × Bool)
  | 0, _, _ => none
  | k + 1, s, out => if s.size = 0 then some (out, true) else if goodOf s = true ∧ out.length ≠ 80 then impl_Utf8Get.go k (tailOf s) (out ++ [runeOf s]) else some ([], false)
def impl_Utf8Get.f (k : Nat) (s : ByteArray) : Option (List Int × Bool) := impl_Utf8Get.go k s []
theorem impl_Utf8Get.mono_l : ∀ k, ∀ y0 y1, LeO (impl_Utf8Get.go k y0 y1) (impl_Utf8Get.go (k + 1) y0 y1)
  | 0, _, _ => fun r h => by simp [impl_Utf8Get.go] at h
  | k + 1, y0, y1 => by
    rw [impl_Utf8Get.go, impl_Utf8Get.go]
    exact LeO.ite (LeO.refl _) (LeO.ite (impl_Utf8Get.mono_l k _ _) (LeO.refl _))
theorem impl_Utf8Get.mono : ∀ a0 k, LeO (impl_Utf8Get.f k a0) (impl_Utf8Get.f (k + 1) a0) := fun a0 k => impl_Utf8Get.mono_l k a0 []
/-- what a round keeps: every string's box -/
def Kt9 (W W' : World) : Prop := ∀ (k : Nat) (cs : Array Value), W.heap[k]? = some (.cells cs 9 (0, 0)) → W'.heap[k]? = some (.cells cs 9 (0, 0))
/-- how a round ends: on with the next letter, or a return -/
def YEnd (r : List Int × Bool) (J : List Int → World → Prop) (Jx : World → Prop) (s : ByteArray) (pre : List Int) (X : World) (b : Bool) (Y : World) : Prop := (b = true → goodOf s = true ∧ pre.length ≠ 80 ∧ J (pre ++ [runeOf s]) Y ∧ Kt9 X Y) ∧ (b = false → Jx Y)
theorem decodeGo_eq {s : ByteArray} (h : s.size ≠ 0) : Lib.decodeGo s = Lib.decodeN s.size (s.get! 0).toNat (s.get! 1).toNat (s.get! 2).toNat (s.get! 3).toNat := by
  unfold Lib.decodeGo
  rw [if_neg h, Lib.decode_at]
  rfl
theorem decodeN_le (n b0 b1 b2 b3 : Nat) (hn : 1 ≤ n) : 1 ≤ (Lib.decodeN n b0 b1 b2 b3).2 ∧ (Lib.decodeN n b0 b1 b2 b3).2 ≤ n ∧ (Lib.decodeN n b0 b1 b2 b3).1 ≤ 1114111 := by
  unfold Lib.decodeN
  repeat' split
  all_goals (simp only; omega)
theorem grown_at {X Y : World} (B : Nat) (h : Below X.heap.size X Y) : X.grownBy Y (some B) := ⟨h.os, h.tape, h.output, h.size, fun k hk _ => h.block k hk⟩
theorem text_size {s : ByteArray} (h : s.size ≠ 0) : 1 ≤ (Lib.decodeGo s).2 ∧ (Lib.decodeGo s).2 ≤ s.size := by
  rw [decodeGo_eq h]
  have := decodeN_le s.size (s.get! 0).toNat (s.get! 1).toNat (s.get! 2).toNat (s.get! 3).toNat (by omega)
  exact ⟨this.1, this.2.1⟩
theorem rune_bounds (s : ByteArray) : 0 ≤ runeOf s ∧ runeOf s ≤ 1114111 := by
  unfold runeOf
  by_cases h : s.size = 0
  · unfold Lib.decodeGo
    rw [if_pos h]
    decide
  · rw [decodeGo_eq h]
    have := decodeN_le s.size (s.get! 0).toNat (s.get! 1).toNat (s.get! 2).toNat (s.get! 3).toNat (by omega)
    omega
def textIn (Bs : Nat) (w : World) : Nat := match w.cell? ⟨Bs, 0, none⟩ with | some (.string s) => s.size | _ => 0
theorem textIn_box {Bs : Nat} {w : World} {s : ByteArray} (h : Boxed w Bs 9 (.string s)) : textIn Bs w = s.size := by
  unfold textIn
  rw [h.cell]
theorem round_end {k Bs : Nat} {s : ByteArray} {pre : List Int} {r : List Int × Bool} {K : Int} {wr Y : World} {J : List Int → World → Prop} (hk : impl_Utf8Get.go (k + 1) s pre = some r) (hs : ¬ s.size = 0) (hg : goodOf s = true) (hl : pre.length ≠ 80) (hK : ((Lib.decodeGo s).2 : Int) = K) (hz : 1 ≤ (Lib.decodeGo s).2 ∧ (Lib.decodeGo s).2 ≤ s.size) (hB : Boxed wr Bs 9 (.string s)) (hJ : J (pre ++ [runeOf s]) Y) (hB2 : Boxed Y Bs 9 (.string (s.extract K.toNat s.size))) :
    (∃ k s' pre, Boxed Y Bs 9 (.string s') ∧ Aside0 (J pre Y) ∧ Aside0 (impl_Utf8Get.go k s' pre = some r)) ∧ textIn Bs Y < textIn Bs wr := by
  have hKn : K.toNat = (Lib.decodeGo s).2 := by omega
  rw [impl_Utf8Get.go, if_neg hs, if_pos ⟨hg, hl⟩] at hk
  refine ⟨⟨k, _, _, hB2, ⟨hJ⟩, ⟨?_⟩⟩, ?_⟩
  · rw [hKn]
    exact hk
  · rw [textIn_box hB2, textIn_box hB, ByteArray.size_extract]
    omega
set_option maxRecDepth 100000 in
set_option maxHeartbeats 4000000 in
theorem letters_in (n : Nat) (hn : 1 ≤ n) (l Bs k0 : Nat) (s0 : ByteArray) (r : List Int × Bool) (J : List Int → World → Prop) (Jx : World → Prop) (W : World)
    (hJ : ∀ pre X Y, J pre X → X.grownBy Y (some Bs) → J pre Y)
    (hT : ∀ pre X, J pre X → Lib.Utf8Tabs (Tryd.laysDecode_ren.g 3) (Tryd.laysDecode_ren.g 4) X)
    (hY : ∀ pre s k X, J pre X → impl_Utf8Get.go (k + 1) s pre = some r → s.size ≠ 0 → YieldAt Fence.wide (n - 1) Tryd.prog l #[.int .i64 (runeOf s), .bool (goodOf s)] X fun e Y => ∃ b : Bool, e = .returned (.bool b) ∧ YEnd r J Jx s pre X b Y)
    (hBs : Boxed W Bs 9 (.string s0)) (h0 : J [] W) (hgo : impl_Utf8Get.go k0 s0 [] = some r) :
    CallsIn Fence.wide n Tryd.prog 25 #[.func (.yield l) #[] #[], .pointer (some ⟨Bs, 0, none⟩)] W fun e Y => (∃ v, e = .returned v) ∧ ((J r.1 Y ∧ r.2 = true) ∨ Jx Y) := by
  have HJ := Aside0.mk hJ
  have HT := Aside0.mk hT
  have HY := Aside0.mk hY
  have hc0 := hBs.cell
  have HG := Aside0.mk hgo
  clear hJ hT hY hgo
  refine callsIn_of_wp Tryd.func25 rfl trivial ?_ rfl
  simp only [Tryd.ntmps25, List.size_toArray, List.length_cons, List.length_nil, Nat.reduceAdd, Nat.reduceSub, Array.replicate_succ, Array.replicate_zero, List.push_toArray, List.append_toArray, List.nil_append, List.cons_append]
  gi_wp2
  gi_loopw [3] (fun _ wr => ∃ (k : Nat) (s : ByteArray) (pre : List Int), Boxed wr Bs 9 (.string s) ∧ Aside0 (J pre wr) ∧ Aside0 (impl_Utf8Get.go k s pre = some r))
    (fun _ wr => textIn Bs wr)
  case atStart => exact ⟨k0, s0, [], hBs, ⟨h0⟩, HG⟩
  case round =>
    obtain ⟨k, s, pre, hB, HP, HK⟩ := hrel
    clear h0 hc0 hBs
    have hc := hB.cell
    by_cases hs : s.size = 0
    · have hd : decide (0 < (s.size : Int)) = false := decide_eq_false (by omega)
      have hd2 : decide (0 < s.size) = false := decide_eq_false (by omega)
      have hr : r = (pre, true) := by
        have := HK.out
        cases k with
        | zero => simp [impl_Utf8Get.go] at this
        | succ k => rw [impl_Utf8Get.go, if_pos hs] at this; exact (Option.some.inj this).symm
      have HR := Aside0.mk hr
      clear hr
      gi_wp2
      go_end0
      exact ⟨⟨_, rfl⟩, .inl (by rw [HR.out]; exact ⟨HP.out, rfl⟩)⟩
    · have hd : decide (0 < (s.size : Int)) = true := decide_eq_true (by omega)
      have hd2 : decide (0 < s.size) = true := decide_eq_true (by omega)
      obtain ⟨k, rfl⟩ : ∃ m, k = m + 1 := by
        cases k with
        | zero => have := HK.out; simp [impl_Utf8Get.go] at this
        | succ k => exact ⟨k, rfl⟩
      have cD : Calls Tryd.prog 26 #[.string s] wr fun e w' => e = .returned (.tuple #[.int .i32 (runeOf s), .int .i64 ((Lib.decodeGo s).2 : Int)]) ∧ Below wr.heap.size wr w' := Any.utf8_DecodeRuneInString Tryd.laysDecode s wr (HT.out pre wr HP.out)
      have CD := Aside0.mk cD
      have hz := text_size hs
      have hz1 : (0 : Int) ≤ ((Lib.decodeGo s).2 : Int) := by omega
      have hz2 : ((Lib.decodeGo s).2 : Int) ≤ (s.size : Int) := by omega
      have hrb := rune_bounds s
      have hw1 : wrap64 (runeOf s) = runeOf s := by unfold wrap64; omega
      have hw2 : IntKind.i64.wrap (runeOf s) = runeOf s := (i64_w _).trans hw1
      have hgd : goodOf s = ((runeOf s != 65533) || decide (1 < ((Lib.decodeGo s).2 : Int))) := rfl
      have HS := Aside0.mk hs
      have HBX := Aside0.mk hB
      have HSZ := Aside0.mk hz
      clear cD hs hz hB hrb
      obtain ⟨K, hK⟩ : ∃ K, ((Lib.decodeGo s).2 : Int) = K := ⟨_, rfl⟩
      rw [hK] at hz1 hz2 hgd
      have HKK := Aside0.mk hK
      have CD2 : Aside0 (Calls Tryd.prog 26 #[.string s] wr fun e w' => e = .returned (.tuple #[.int .i32 (runeOf s), .int .i64 K]) ∧ Below wr.heap.size wr w') := ⟨by rw [← hK]; exact CD.out⟩
      clear hK CD
      have HGD := Aside0.mk hgd
      clear hgd
      rcases Bool.eq_false_or_eq_true (runeOf s != 65533) with h1 | h1
      · have HGO : Aside0 (goodOf s = true) := ⟨by rw [HGD.out, h1]; rfl⟩
        have HR0 := Aside0.mk (show ∃ R, runeOf s = R from ⟨_, rfl⟩)
        obtain ⟨R, hR0⟩ := HR0.out
        clear HR0
        have HRU : Aside0 (runeOf s = R) := ⟨hR0⟩
        rw [hR0] at hw1 hw2 h1 CD2
        clear hR0
        gi_wp2_with (refine ⟨trivial, ?_⟩; gi_at_call 26; refine (callsIn_wide.2 CD2.out).mono ?_; rintro e w6 ⟨rfl, hb6⟩; have y0 := pw_cell_below hb6 hc; have HB6 := Aside0.mk hb6; clear hb6)
        obtain ⟨fn, tmps, assign, body, hy, hR⟩ := HY.out pre s k w6 (HJ.out pre wr w6 HP.out (grown_at Bs HB6.out)) HK.out HS.out
        rw [HRU.out, HGO.out] at hy
        rw [hy]
        go_simp
        refine hR.mono ?_
        rintro e W3 ⟨b, rfl, hb3⟩
        have HY3 := Aside0.mk hb3
        clear hb3 hR
        cases b with
        | true =>
          obtain ⟨hg3, hl3, hJ3, hT3⟩ := HY3.out.1 rfl
          have hB3 : Boxed W3 Bs 9 (.string s) := hT3 Bs _ ((HB6.out.block Bs HBX.out.lt).trans HBX.out)
          have z1 := hB3.cell
          have z2 := hB3.frozen
          have HJ3 := Aside0.mk (HJ.out _ _ _ hJ3 (grownBy_setCell' W3 Bs (.string (s.extract K.toNat s.size))))
          have HB3 := Aside0.mk (hB3.set (.string (s.extract K.toNat s.size)))
          have HG3 := Aside0.mk (And.intro hg3 hl3)
          clear hg3 hl3 hJ3 hT3 hB3
          gi_wp2
          exact round_end HK.out HS.out HG3.out.1 HG3.out.2 HKK.out HSZ.out HBX.out HJ3.out HB3.out
        | false =>
          have HJ3 := Aside0.mk (HY3.out.2 rfl)
          gi_wp2
          refine bodyPost_ret (results_none rfl _ _ _) rfl ?_
          exact ⟨⟨_, rfl⟩, .inr HJ3.out⟩
      · have hR : runeOf s = 65533 := by simpa using h1
        have HRU : Aside0 (runeOf s = 65533) := ⟨hR⟩
        rw [hR] at hw1 hw2 CD2
        clear h1
        rcases Bool.eq_false_or_eq_true (decide (1 < K)) with h2 | h2
        · have HGO : Aside0 (goodOf s = true) := ⟨by rw [HGD.out, hR, h2]; rfl⟩
          clear hR hw1 hw2
          gi_wp2_with (refine ⟨trivial, ?_⟩; gi_at_call 26; refine (callsIn_wide.2 CD2.out).mono ?_; rintro e w6 ⟨rfl, hb6⟩; have y0 := pw_cell_below hb6 hc; have HB6 := Aside0.mk hb6; clear hb6)
          obtain ⟨fn, tmps, assign, body, hy, hR⟩ := HY.out pre s k w6 (HJ.out pre wr w6 HP.out (grown_at Bs HB6.out)) HK.out HS.out
          rw [HRU.out, HGO.out] at hy
          rw [hy]
          go_simp
          refine hR.mono ?_
          rintro e W3 ⟨b, rfl, hb3⟩
          have HY3 := Aside0.mk hb3
          clear hb3 hR
          cases b with
          | true =>
            obtain ⟨hg3, hl3, hJ3, hT3⟩ := HY3.out.1 rfl
            have hB3 : Boxed W3 Bs 9 (.string s) := hT3 Bs _ ((HB6.out.block Bs HBX.out.lt).trans HBX.out)
            have z1 := hB3.cell
            have z2 := hB3.frozen
            have HJ3 := Aside0.mk (HJ.out _ _ _ hJ3 (grownBy_setCell' W3 Bs (.string (s.extract K.toNat s.size))))
            have HB3 := Aside0.mk (hB3.set (.string (s.extract K.toNat s.size)))
            have HG3 := Aside0.mk (And.intro hg3 hl3)
            clear hg3 hl3 hJ3 hT3 hB3
            gi_wp2
            exact round_end HK.out HS.out HG3.out.1 HG3.out.2 HKK.out HSZ.out HBX.out HJ3.out HB3.out
          | false =>
            have HJ3 := Aside0.mk (HY3.out.2 rfl)
            gi_wp2
            refine bodyPost_ret (results_none rfl _ _ _) rfl ?_
            exact ⟨⟨_, rfl⟩, .inr HJ3.out⟩
        · have HGO : Aside0 (goodOf s = false) := ⟨by rw [HGD.out, hR, h2]; rfl⟩
          clear hR hw1 hw2
          gi_wp2_with (refine ⟨trivial, ?_⟩; gi_at_call 26; refine (callsIn_wide.2 CD2.out).mono ?_; rintro e w6 ⟨rfl, hb6⟩; have y0 := pw_cell_below hb6 hc; have HB6 := Aside0.mk hb6; clear hb6)
          obtain ⟨fn, tmps, assign, body, hy, hR⟩ := HY.out pre s k w6 (HJ.out pre wr w6 HP.out (grown_at Bs HB6.out)) HK.out HS.out
          rw [HRU.out, HGO.out] at hy
          rw [hy]
          go_simp
          refine hR.mono ?_
          rintro e W3 ⟨b, rfl, hb3⟩
          have HY3 := Aside0.mk hb3
          clear hb3 hR
          cases b with
          | true =>
            exact absurd ((HY3.out.1 rfl).1) (by rw [HGO.out]; decide)
          | false =>
            have HJ3 := Aside0.mk (HY3.out.2 rfl)
            gi_wp2
            refine bodyPost_ret (results_none rfl _ _ _) rfl ?_
            exact ⟨⟨_, rfl⟩, .inr HJ3.out⟩
theorem below_grown' {W W' : World} (h : Below W.heap.size W W') : W.grownBy W' none := ⟨h.os, h.tape, h.output, h.size, fun k hk _ => h.block k hk⟩
theorem blk_lt' {W : World} {k : Nat} {o : Obj} (h : W.heap[k]? = some o) : k < W.heap.size := (Array.getElem?_eq_some_iff.1 h).1
/-- how the body of a round may be left: on with the next letter, or a return -/
def bodyEnd (r : List Int × Bool) (I : List Int → World → Prop) (E : World → Prop) (s : ByteArray) (pre : List Int) (X : World) : Exit → Act → World → Prop
  | .normal, _, Y => KeepsOthers X Y ∧ Kt9 X Y ∧ goodOf s = true ∧ pre.length ≠ 80 ∧ I (pre ++ [runeOf s]) Y
  | .ret, _, Y => KeepsOthers X Y ∧ E Y
  | _, _, _ => False
theorem Kt9.put {W : World} {l : Nat} {o o' : Obj} (h : W.heap[l]? = some o) (hc : o.isCells = false) : Kt9 W (W.putObj l o') := by
  intro k cs hk
  by_cases e : k = l
  · subst e
    rw [h] at hk
    cases hk
    cases hc
  · exact (World.putObj_heap_other e).trans hk
theorem Kt9.trans {A B C : World} (h : Kt9 A B) (k : Kt9 B C) : Kt9 A C := fun i cs hi => k i cs (h i cs hi)
set_option maxHeartbeats 1000000 in
/-- The loop over the letters of a text: the iterator writes its own variable (block Bs), the body's invariant is of other blocks; a round goes on or returns. -/
theorem range_letters {n : Nat} {g : Operand} {ps : Array Tmp} {assign body : Code} {Q : Exit → Act → World → Prop} {a : Act} {w : World} (h1 : 2 ≤ n) (Bs k0 : Nat) (s0 : ByteArray) (r : List Int × Bool)
    (hg : a.eval g = .func (.func 25) #[] #[.pointer (some ⟨Bs, 0, none⟩)]) (hBs : Boxed w Bs 9 (.string s0)) (hgo : impl_Utf8Get.go k0 s0 [] = some r) (hps : ps.size = 2)
    (I : List Int → World → Prop) (E : World → Prop)
    (hI : ∀ pre X Y b, I pre X → X.grownBy Y (some b) → (b = Bs ∨ (w.heap.size ≤ b ∧ ∃ o : Obj, X.heap[b]? = some o ∧ o.isCells = false)) → I pre Y)
    (hE : ∀ X Y b, E X → X.grownBy Y (some b) → w.heap.size ≤ b → (∃ o : Obj, X.heap[b]? = some o ∧ o.isCells = false) → E Y)
    (hT : ∀ pre X, I pre X → Lib.Utf8Tabs (Tryd.laysDecode_ren.g 3) (Tryd.laysDecode_ren.g 4) X) (h0 : I [] w) (a₁ : ByteArray → Act)
    (hassign : ∀ (l : Nat) (s : ByteArray) (X : World) (K : Act → World → Prop), K (a₁ s) X →
      assign.wpIn (Fence.wide.inRound l) (n - 1 - 1) Tryd.prog (Exit.then K (fun _ _ _ => False)) { tmps := (ps.zip #[.int .i64 (runeOf s), .bool (goodOf s)]).foldl (fun t (p, v) => t.setIfInBounds p v) a.tmps, defers := [] } X)
    (hbody : ∀ (l : Nat) (pre : List Int) (s : ByteArray) (k : Nat) (X : World), I pre X → impl_Utf8Get.go (k + 1) s pre = some r → s.size ≠ 0 → body.wpIn (Fence.wide.inRound l) (n - 1 - 1) Tryd.prog (bodyEnd r I E s pre X) (a₁ s) X)
    (hdone : ∀ (D : Nat) (Y : World), w.heap.size ≤ D → I r.1 Y → r.2 = true → Y.heap[D]? = some (.deferred (some [])) → Q .normal { a with defers := { target := .collected D, args := #[] } :: a.defers } Y)
    (hstop : ∀ (D : Nat) (Y : World), w.heap.size ≤ D → E Y → Y.heap[D]? = some (.deferred (some [])) → Code.ret.wpIn Fence.wide n Tryd.prog Q { a with defers := { target := .collected D, args := #[] } :: a.defers } Y) :
    (Code.rangeFunc g ps assign body).wpIn Fence.wide n Tryd.prog Q a w := by
  refine wpIn_rangeFunc fun fn hfn => ?_
  obtain ⟨R, hR⟩ : ∃ R : LoopState → Option Code → Loop, R = fun st pe => { state := st, pending := pe, fn, tmps := a.tmps, params := ps, assign, body, defers := w.heap.size } := ⟨_, rfl⟩
  obtain ⟨D, hD⟩ : ∃ D, w.heap.size = D := ⟨_, rfl⟩
  obtain ⟨W1, hW1⟩ : ∃ W1, (w.alloc (.deferred (some []))).alloc (.loop (R .ready none)) = W1 := ⟨_, rfl⟩
  have hlt := hBs.lt
  have g1 : w.grownBy W1 none := by
    rw [← hW1]
    exact below_grown' (((Below.refl _ w).alloc (Nat.le_refl _) _).alloc (by simp) _)
  have hL1 : W1.heap[D + 1]? = some (.loop (R .ready none)) := by
    rw [← hW1, ← hD]
    have := World.alloc_heap_new (w.alloc (.deferred (some []))) (.loop (R .ready none))
    rwa [World.size_alloc] at this
  have hK1 : W1.heap[D]? = some (.deferred (some [])) := by
    rw [← hW1, ← hD]
    exact (Below.heap_alloc _ _ _ (by simp)).trans (World.alloc_heap_new w _)
  have hI1 : I [] W1 := hI _ _ _ Bs h0 ⟨g1.os, g1.tape, g1.output, g1.size, fun k hk _ => g1.block k hk (by simp)⟩ (.inl rfl)
  -- a turn of the record or of the deferred calls' block
  have put : ∀ pre X l (o o' : Obj), I pre X → D ≤ l → X.heap[l]? = some o → o.isCells = false → I pre (X.putObj l o') := fun pre X l o o' hi hl ho hc =>
    hI _ _ _ l hi (grownBy_putObj' X l o') (.inr ⟨by omega, o, ho, hc⟩)
  refine ⟨D + 1, [{ target := .collected D, args := #[] }], W1, { target := .fn (.func 25) #[.pointer (some ⟨Bs, 0, none⟩)], args := #[.func (.yield (D + 1)) #[] #[]] }, W1, 25, #[.func (.yield (D + 1)) #[] #[], .pointer (some ⟨Bs, 0, none⟩)], W1, ?_, ?_, ?_, ?_, fun _ => by omega, ?_⟩
  · subst hD
    rw [← hW1, hR]
    exact run_enterLoop_outer _ _ _ _ _
  · simp only [resolve, hg]
    simp [go_sem]
  · intro f' hf'
    simp [Target.leads] at hf'
    subst hf'
    exact trivial
  · have eg := enters_of Tryd.func25 (by kernel_rfl) rfl
    simp [invoke, go_sem, eg]
  · refine (letters_in (n - 1) (by omega) (D + 1) Bs k0 s0 r (fun pre X => I pre X ∧ X.heap[D + 1]? = some (.loop (R .ready none)) ∧ X.heap[D]? = some (.deferred (some []))) (fun X => E X ∧ X.heap[D + 1]? = some (.loop (R .done (some .ret))) ∧ X.heap[D]? = some (.deferred (some []))) W1 ?_ (fun pre X h => hT pre X h.1) ?_ ?_ ⟨hI1, hL1, hK1⟩ hgo).mono ?_
    · rintro pre X Y ⟨hi, hl, hk⟩ hg'
      exact ⟨hI _ _ _ Bs hi hg' (.inl rfl), (hg'.block _ (blk_lt' hl) (by intro e; cases e; omega)).trans hl, (hg'.block _ (blk_lt' hk) (by intro e; cases e; omega)).trans hk⟩
    · rintro pre s k X ⟨hi, hl, hk⟩ hgo' hs
      have hy := run_yield (P := Tryd.prog) (args := #[.int .i64 (runeOf s), .bool (goodOf s)]) hl (by rw [hR]; exact hps.symm)
      rw [hR] at hy
      refine ⟨fn, _, assign, body, hy, roundIn_of_wpIn hfn (hassign _ s X _ ⟨_, run_beginRound hl (by rw [hR]), ?_⟩)⟩
      obtain ⟨X2, hX2⟩ : ∃ X2, X.putObj (D + 1) (.loop { R .ready none with state := .busy }) = X2 := ⟨_, rfl⟩
      have hl2 : X2.heap[D + 1]? = some (.loop { R .ready none with state := .busy }) := by rw [← hX2]; exact World.putObj_heap_same (blk_lt' hl)
      have hk2 : X2.heap[D]? = some (.deferred (some [])) := by rw [← hX2]; exact (World.putObj_heap_other (by omega)).trans hk
      have hi2 : I pre X2 := by rw [← hX2]; exact put _ _ _ _ _ hi (by omega) hl rfl
      have ht2 : Kt9 X X2 := by rw [← hX2]; exact Kt9.put hl rfl
      rw [hX2]
      refine wpIn_mono (hbody _ pre s k X2 hi2 hgo' hs) ?_
      have fin : ∀ (jump : Option Code) (Y : World), KeepsOthers X2 Y → (Instr.endRound (D + 1) jump).run Tryd.prog Y = .ok (.bool jump.isNone) (Y.putObj (D + 1) (.loop (R (if jump.isNone then .ready else .done) jump))) ∧ Y.heap[D + 1]? = some (.loop { R .ready none with state := .busy }) ∧ Y.heap[D]? = some (.deferred (some [])) := by
        intro jump Y hk3
        have hl3 := hk3.same _ _ hl2 rfl
        have := run_endRound (P := Tryd.prog) jump hl3
        rw [hR] at this ⊢
        exact ⟨this, by rw [hR] at hl3; exact hl3, hk3.same _ _ hk2 rfl⟩
      rintro e a3 Y hp
      match e, hp with
      | .normal, ⟨hk3, ht3, hg3, hn3, hi3⟩ =>
        obtain ⟨hr, hl3, hd3⟩ := fin none Y hk3
        exact ⟨_, _, hr, true, rfl, fun _ => ⟨hg3, hn3, ⟨put _ _ _ _ _ hi3 (by omega) hl3 rfl, World.putObj_heap_same (blk_lt' hl3), (World.putObj_heap_other (by omega)).trans hd3⟩, (ht2.trans ht3).trans (Kt9.put hl3 rfl)⟩, fun h => by cases h⟩
      | .ret, ⟨hk3, he3⟩ =>
        obtain ⟨hr, hl3, hd3⟩ := fin (some .ret) Y hk3
        exact ⟨_, _, hr, false, rfl, (fun h => by cases h), fun _ => ⟨hE _ _ (D + 1) he3 (grownBy_putObj' Y _ _) (by omega) ⟨_, hl3, rfl⟩, World.putObj_heap_same (blk_lt' hl3), (World.putObj_heap_other (by omega)).trans hd3⟩⟩
    · exact (g1.block Bs hlt (by simp)).trans hBs
    · rintro e Y ⟨⟨v, rfl⟩, (⟨⟨hi, hl, hk⟩, h2⟩ | ⟨he, hl, hk⟩)⟩
      · exact ⟨none, _, by have := run_endLoop (P := Tryd.prog) hl (by rw [hR]; simp); rw [hR] at this; exact this, hdone D _ (by omega) (put _ _ _ _ _ hi (by omega) hl rfl) h2 ((World.putObj_heap_other (by omega)).trans hk)⟩
      · exact ⟨some .ret, _, by have := run_endLoop (P := Tryd.prog) hl (by rw [hR]; simp); rw [hR] at this; exact this, hstop D _ (by omega) (hE _ _ (D + 1) he (grownBy_putObj' Y _ _) (by omega) ⟨_, hl, rfl⟩) ((World.putObj_heap_other (by omega)).trans hk)⟩
theorem letters_new (F : Fence) (n : Nat) (h : F.fn 16) (hro : F.round = none) (s : ByteArray) (w : World) :
    CallsIn F n Tryd.prog 16 #[.string s] w fun e W' => e = .returned (.func (.func 25) #[] #[.pointer (some ⟨w.heap.size, 0, none⟩)]) ∧ W' = w.alloc (.cells #[.string s] 9) := by
  refine callsIn_of_wp Tryd.func16 rfl h ?_ hro
  simp only [Tryd.ntmps16, List.size_toArray, List.length_cons, List.length_nil, Nat.reduceAdd, Nat.reduceSub, Array.replicate_succ, Array.replicate_zero, List.push_toArray, List.append_toArray, List.nil_append, List.cons_append]
  gi_wp2
  go_ret
  exact ⟨rfl, rfl⟩
theorem some_ne {a b : Nat} (h : a ≠ b) : some a ≠ some b := fun e => h (Option.some.inj e)
theorem results_cell2 {fn : Func} {p u : Tmp} {ty tu : TypeId} (h : fn.results = #[.cell p ty, .cell u tu]) (tmps : Array Value) (P : Program) (w : World) :
    (results fn tmps).run P w =
      ((asAddr (tmps.getD p undef)).run P w).andThen fun a w₁ => ((loadVar ty a).run P w₁).andThen fun v w₂ => ((asAddr (tmps.getD u undef)).run P w₂).andThen fun b w₃ => ((loadVar tu b).run P w₃).andThen fun x w₄ => .ok (.tuple #[v, x]) w₄ := by
  simp only [results, h]
  simp [Sem.run_bind, Result.andThen]
theorem cell_new1 (w : World) (u : Value) (t : TypeId) : ∀ j x, [u][j]? = some x → (w.alloc (.cells #[u] t)).cell? ((⟨w.heap.size, 0, none⟩ : Addr).add j) = some x := by
  intro j x hj
  obtain ⟨rfl, rfl⟩ : j = 0 ∧ u = x := by
    cases j with
    | zero => simpa using hj
    | succ j => simp at hj
  exact (Boxed.new w t u).cell
/-- between two rounds -/
def RunesAt (w : World) (pre : List Int) (W : World) : Prop :=
  (∃ v, Boxed W (w.heap.size + 1 + 1) 24 v ∧ W.ownsRow (w.heap.size + 1 + 1 + 1 + 1) 3 1 v pre.length (pre.map (Value.int .i64))) ∧ Boxed W w.heap.size 24 (.slice none 0 0) ∧ Boxed W (w.heap.size + 1) 4 (.bool false) ∧ Below w.heap.size w W ∧ pre.length ≤ 80 ∧ w.heap.size + 1 + 1 + 1 + 1 ≤ W.heap.size
/-- a round has returned -/
def RunesNo (w : World) (r : List Int × Bool) (W : World) : Prop :=
  Boxed W w.heap.size 24 (.slice none 0 0) ∧ Boxed W (w.heap.size + 1) 4 (.bool false) ∧ Below w.heap.size w W ∧ r = ([], false)
theorem RunesAt.grown {w : World} {pre : List Int} {X Y : World} {b B : Nat} (h : RunesAt w pre X) (hg : X.grownBy Y (some b)) (hB : w.heap.size + 4 ≤ B) (hb : b = w.heap.size + 3 ∨ (B ≤ b ∧ ∃ o : Obj, X.heap[b]? = some o ∧ o.isCells = false)) : RunesAt w pre Y := by
  obtain ⟨⟨v, hv, hr⟩, h1, h2, h3, h4, h5⟩ := h
  have hlt : w.heap.size + 3 ≤ b := by rcases hb with rfl | h <;> omega
  refine ⟨⟨v, hv.kept hg (some_ne (by omega)), hr.kept hg ?_⟩, h1.kept hg (some_ne (by omega)), h2.kept hg (some_ne (by omega)), h3.grown hg (by have := hv.lt; omega) (by intro j e; have := Option.some.inj e; omega), h4, Nat.le_trans h5 hg.size⟩
  rcases hr.2 with ⟨rfl, _⟩ | ⟨g, cap, cur, rfl, hge, hgb, _⟩
  · exact .inl rfl
  · refine .inr fun e' => ?_
    have e2 : g = b := by simpa [Value.ownBlock] using e'
    subst e2
    rcases hb with rfl | ⟨_, o, ho, hc⟩
    · omega
    · rw [hgb] at ho
      cases ho
      cases hc
theorem RunesNo.grown {w : World} {r : List Int × Bool} {X Y : World} {b : Nat} (h : RunesNo w r X) (hg : X.grownBy Y (some b)) (hb : w.heap.size + 3 ≤ b) : RunesNo w r Y := by
  obtain ⟨h1, h2, h3, h4⟩ := h
  exact ⟨h1.kept hg (some_ne (by omega)), h2.kept hg (some_ne (by omega)), h3.grown hg (by have := h2.lt; omega) (by intro j e; have := Option.some.inj e; omega), h4⟩
theorem RunesNo.stored {w X : World} {r : List Int × Bool} (h1 : Boxed X w.heap.size 24 (.slice none 0 0)) (h2 : Boxed X (w.heap.size + 1) 4 (.bool false)) (hb : Below w.heap.size w X) (hr : r = ([], false)) :
    KeepsOthers X ((X.setCell ⟨w.heap.size, 0, none⟩ (.slice none 0 0)).setCell ⟨w.heap.size + 1, 0, none⟩ (.bool false)) ∧ RunesNo w r ((X.setCell ⟨w.heap.size, 0, none⟩ (.slice none 0 0)).setCell ⟨w.heap.size + 1, 0, none⟩ (.bool false)) := by
  have k2 : Boxed (X.setCell ⟨w.heap.size, 0, none⟩ (.slice none 0 0)) (w.heap.size + 1) 4 (.bool false) := h2.kept (grownBy_setCell' X _ _) (some_ne (by omega))
  refine ⟨(KeepsOthers.setCell _ _ _).trans (KeepsOthers.setCell _ _ _), ?_, k2.set _, ?_, hr⟩
  · exact (h1.set (.slice none 0 0)).kept (grownBy_setCell' _ _ _) (some_ne (by omega))
  · exact (hb.setCell (p := ⟨w.heap.size, 0, none⟩) (Nat.le_refl _) _).setCell (p := ⟨w.heap.size + 1, 0, none⟩) (by simp) _
theorem own_slice {W : World} {base e size : Nat} {v : Value} {k : Nat} {xs : List Value} (h : W.ownsRow base e size v k xs) : ∃ A cap, v = .slice A k cap := by
  rcases h.2 with ⟨rfl, h0⟩ | ⟨g, cap, cur, rfl, _⟩
  · obtain rfl := h0
    exact ⟨none, 0, rfl⟩
  · exact ⟨_, _, rfl⟩
theorem Kt9.appended {W w1 : World} {n₀ B : Nat} {v v' : Value} {k : Nat} {xs : List Value} {tmp : Obj} (hv : Boxed W B 24 v) (hrow : W.ownsRow n₀ 3 1 v k xs) (hgrow : (W.alloc tmp).grownBy w1 v.ownBlock) :
    Kt9 W (w1.setCell ⟨B, 0, none⟩ v') := by
  intro j cs hj
  have hne : j ≠ B := by
    intro e
    subst e
    have := (show W.heap[j]? = _ from hv).symm.trans hj
    simp at this
  have hlt := blk_lt' hj
  refine (Below.heap_setCell _ _ _ j hne).trans ?_
  refine (hgrow.block j (by simp; omega) ?_).trans ((Below.heap_alloc _ _ j hlt).trans hj)
  intro e
  rcases hrow.2 with ⟨rfl, _⟩ | ⟨g, cap, cur, rfl, _, hgb, _⟩
  · simp [Value.ownBlock] at e
  · obtain rfl : j = g := by simpa [Value.ownBlock] using e
    rw [hgb] at hj
    simp at hj
def runesTmps (w : World) (a0 : ByteArray) (x : Value) : Array Value := #[.string a0, undef, .pointer (some ⟨w.heap.size, 0, none⟩), .pointer (some ⟨w.heap.size + 1, 0, none⟩), .pointer (some ⟨w.heap.size + 1 + 1, 0, none⟩), undef, undef, .string a0, .func (.func 25) #[] #[.pointer (some ⟨w.heap.size + 1 + 1 + 1, 0, none⟩)], undef, undef, undef, undef, undef, undef, undef, undef, undef, undef, undef, undef, undef, x]
theorem runes_result {w Y : World} {a0 : ByteArray} {x v : Value} {b : Bool} (h1 : Boxed Y w.heap.size 24 v) (h2 : Boxed Y (w.heap.size + 1) 4 (.bool b)) (hv : ∃ A n c, v = .slice A n c) : (results Tryd.f6 (runesTmps w a0 x)).run Tryd.prog Y = .ok (.tuple #[v, .bool b]) Y := by
  obtain ⟨A, n, c, rfl⟩ := hv
  have c1 := h1.cell
  have c2 := h2.cell
  have hu24 := Tryd.underlying24
  have hu4 := Tryd.underlying4
  rw [results_cell2 rfl]
  unfold runesTmps
  go_simp
theorem put_box {Y : World} {D B : Nat} {t : TypeId} {v : Value} {o' : Obj} (h : Boxed Y B t v) (hD : D ≠ B) : Boxed (Y.putObj D o') B t v := (World.putObj_heap_other (Ne.symm hD)).trans h
theorem runes_done {w Y : World} {D : Nat} {v : Value} {a0 : ByteArray} {r1 : List Int} (h1 : Boxed Y w.heap.size 24 (.slice none 0 0)) (h2 : Boxed Y (w.heap.size + 1) 4 (.bool false)) (hb : Below w.heap.size w Y) (hrow : Y.ownsRow (w.heap.size + 1 + 1 + 1 + 1) 3 1 v r1.length (r1.map (Value.int .i64))) (hD : w.heap.size + 1 + 1 + 1 + 1 ≤ D) (hK : Y.heap[D]? = some (.deferred (some []))) :
    ((Y.setCell ⟨w.heap.size, 0, none⟩ v).setCell ⟨w.heap.size + 1, 0, none⟩ (.bool true)).heap[D]? = some (.deferred (some [])) ∧
    (results Tryd.f6 (runesTmps w a0 v)).run Tryd.prog (((Y.setCell ⟨w.heap.size, 0, none⟩ v).setCell ⟨w.heap.size + 1, 0, none⟩ (.bool true)).putObj D (.deferred none)) = .ok (.tuple #[v, .bool true]) (((Y.setCell ⟨w.heap.size, 0, none⟩ v).setCell ⟨w.heap.size + 1, 0, none⟩ (.bool true)).putObj D (.deferred none)) ∧
    Kd.R (Kd.int .i64) 3 (((Y.setCell ⟨w.heap.size, 0, none⟩ v).setCell ⟨w.heap.size + 1, 0, none⟩ (.bool true)).putObj D (.deferred none)) w.heap.size (fun _ => True) v r1 ∧
    Below w.heap.size w (((Y.setCell ⟨w.heap.size, 0, none⟩ v).setCell ⟨w.heap.size + 1, 0, none⟩ (.bool true)).putObj D (.deferred none)) := by
  have g1 := grownBy_setCell' Y w.heap.size v
  have k1 := h1.set v
  have k2 : Boxed (Y.setCell ⟨w.heap.size, 0, none⟩ v) (w.heap.size + 1) 4 (.bool false) := h2.kept g1 (some_ne (by omega))
  have g2 := grownBy_setCell' (Y.setCell ⟨w.heap.size, 0, none⟩ v) (w.heap.size + 1) (.bool true)
  have m1 := k1.kept g2 (some_ne (by omega))
  have m2 := k2.set (.bool true)
  have d1 : ((Y.setCell ⟨w.heap.size, 0, none⟩ v).setCell ⟨w.heap.size + 1, 0, none⟩ (.bool true)).heap[D]? = some (.deferred (some [])) := (Below.heap_setCell _ _ _ D (by simp; omega)).trans ((Below.heap_setCell _ _ _ D (by simp; omega)).trans hK)
  have row : ∀ b : Nat, b ≤ w.heap.size + 1 → v.ownBlock = none ∨ v.ownBlock ≠ some b := by
    intro b hb'
    rcases hrow.2 with ⟨rfl, _⟩ | ⟨g, cap, cur, rfl, hge, hgb, _⟩
    · exact .inl rfl
    · refine .inr fun e => ?_
      have e2 : g = b := by simpa [Value.ownBlock] using e
      omega
  refine ⟨d1, runes_result (put_box m1 (by omega)) (put_box m2 (by omega)) ?_, ?_, ?_⟩
  · obtain ⟨A, c, e⟩ := own_slice hrow
    exact ⟨A, _, c, e⟩
  · exact Kd.R_of_own (own_weaken (ownsRow_putObj ((hrow.kept g1 (row w.heap.size (by omega))).kept g2 (row (w.heap.size + 1) (by omega))) _ d1 rfl) (by omega)) (fun _ _ => trivial)
  · exact (((hb.setCell (p := ⟨w.heap.size, 0, none⟩) (Nat.le_refl _) _).setCell (p := ⟨w.heap.size + 1, 0, none⟩) (by simp) _).grown (grownBy_putObj' _ D _) (by have := k2.lt; simp at this ⊢; omega) (by intro j e; have := Option.some.inj e; omega))
theorem runes_stop {w Y : World} {D : Nat} {a0 : ByteArray} (h1 : Boxed Y w.heap.size 24 (.slice none 0 0)) (h2 : Boxed Y (w.heap.size + 1) 4 (.bool false)) (hb : Below w.heap.size w Y) (hD : w.heap.size + 1 + 1 + 1 + 1 ≤ D) (hK : Y.heap[D]? = some (.deferred (some []))) :
    (results Tryd.f6 (runesTmps w a0 undef)).run Tryd.prog (Y.putObj D (.deferred none)) = .ok (.tuple #[.slice none 0 0, .bool false]) (Y.putObj D (.deferred none)) ∧
    Kd.R (Kd.int .i64) 3 (Y.putObj D (.deferred none)) w.heap.size (fun _ => True) (.slice none 0 0) [] ∧ Below w.heap.size w (Y.putObj D (.deferred none)) :=
  ⟨runes_result (put_box h1 (by omega)) (put_box h2 (by omega)) ⟨none, 0, 0, rfl⟩, Kd.R_nil _ _ _ _ _, hb.grown (grownBy_putObj' _ D _) (by have := h2.lt; omega) (by intro j e; have := Option.some.inj e; omega)⟩
set_option maxRecDepth 100000 in
set_option maxHeartbeats 4000000 in
theorem impl_Utf8Get.calls (k : Nat) (a0 : ByteArray) (r1 : List Int) (r2 : Bool) (w : World) (hT : Lib.Utf8Tabs (Tryd.laysDecode_ren.g 3) (Tryd.laysDecode_ren.g 4) w) (h : impl_Utf8Get.f k a0 = some (r1, r2)) :
    Calls Tryd.prog 6 #[.string a0] w fun e w' => ∃ v0_ : Value, e = .returned (.tuple #[v0_, .bool r2]) ∧ Kd.R (Kd.int .i64) 3 w' w.heap.size (fun _ => True) v0_ r1 ∧ Below w.heap.size w w' := by
  refine (callsIn_wide (n := 9)).1 ?_
  have HT := Aside0.mk hT
  have HG := Aside0.mk (show impl_Utf8Get.go k a0 [] = some (r1, r2) from h)
  clear hT h
  refine callsIn_of_wp_marks Tryd.func6 rfl trivial ?_ rfl
  simp only [Tryd.ntmps6, List.size_toArray, List.length_cons, List.length_nil, Nat.reduceAdd, Nat.reduceSub, Array.replicate_succ, Array.replicate_zero, List.push_toArray, List.append_toArray, List.nil_append, List.cons_append]
  gi_wp2_with (refine ⟨trivial, ?_⟩; gi_at_call 16; refine (letters_new Fence.wide _ trivial rfl a0 _).mono ?_; rintro e w' ⟨rfl, rfl⟩)
  obtain ⟨W4, hW4⟩ : ∃ W4, (((w.alloc (.cells #[.slice none 0 0] 24)).alloc (.cells #[.bool false] 4)).alloc (.cells #[.slice none 0 0] 24)).alloc (.cells #[.string a0] 9) = W4 := ⟨_, rfl⟩
  have hz4 : W4.heap.size = w.heap.size + 1 + 1 + 1 + 1 := by rw [← hW4]; simp
  have hB4 : Below w.heap.size w W4 := by
    rw [← hW4]
    exact ((((Below.refl _ w).alloc (Nat.le_refl _) _).alloc (by simp) _).alloc (by simp; omega) _).alloc (by simp; omega) _
  have c0 : Boxed W4 w.heap.size 24 (.slice none 0 0) := by
    rw [← hW4]
    exact (((Boxed.new w 24 (.slice none 0 0)).alloc _).alloc _).alloc _
  have c1 : Boxed W4 (w.heap.size + 1) 4 (.bool false) := by
    rw [← hW4]
    have := (((Boxed.new (w.alloc (.cells #[.slice none 0 0] 24)) 4 (.bool false)).alloc (.cells #[.slice none 0 0] 24)).alloc (.cells #[.string a0] 9))
    simpa using this
  have c2 : Boxed W4 (w.heap.size + 1 + 1) 24 (.slice none 0 0) := by
    rw [← hW4]
    have := ((Boxed.new ((w.alloc (.cells #[.slice none 0 0] 24)).alloc (.cells #[.bool false] 4)) 24 (.slice none 0 0)).alloc (.cells #[.string a0] 9))
    simpa using this
  have c3 : Boxed W4 (w.heap.size + 1 + 1 + 1) 9 (.string a0) := by
    rw [← hW4]
    have := Boxed.new (((w.alloc (.cells #[.slice none 0 0] 24)).alloc (.cells #[.bool false] 4)).alloc (.cells #[.slice none 0 0] 24)) 9 (.string a0)
    simpa using this
  rw [hW4]
  clear hW4
  refine range_letters (n := 9) (by omega) (w.heap.size + 1 + 1 + 1) k a0 (r1, r2) rfl c3 HG.out rfl (RunesAt w) (RunesNo w (r1, r2)) ?hI ?hE ?hT ?h0 (fun s => { tmps := #[.string a0, undef, .pointer (some ⟨w.heap.size, 0, none⟩), .pointer (some ⟨w.heap.size + 1, 0, none⟩), .pointer (some ⟨w.heap.size + 1 + 1, 0, none⟩), .int .i64 (runeOf s), .bool (goodOf s), .string a0, .func (.func 25) #[] #[.pointer (some ⟨w.heap.size + 1 + 1 + 1, 0, none⟩)], .int .i64 (runeOf s), .bool (goodOf s), undef, undef, undef, undef, undef, undef, undef, undef, undef, undef, undef, undef], defers := [] }) ?assign ?body ?done ?stop
  case hI => exact fun pre X Y b h hg hb => h.grown hg (Nat.le_refl _) (by rw [← hz4]; exact hb)
  case hE => exact fun X Y b h hg hb _ => h.grown hg (by omega)
  case hT => exact fun pre X h => Utf8Tabs_below HT.out h.2.2.2.1
  case h0 => exact ⟨⟨_, c2, World.ownsRow_nil _ _ _ _⟩, c0, c1, hB4, by simp, by rw [hz4]; exact Nat.le_refl _⟩
  case assign =>
    intro l s X K hK
    gi_wp2
    exact hK
  case body =>
    rintro l pre s k' X ⟨⟨v, hv, hrow⟩, h1, h2, hb, h80, hbig⟩ hgo hs
    have hc2 := hv.cell
    have hf2 := hv.frozen
    have hc0 := h1.cell
    have hf0 := h1.frozen
    have k1 : Boxed (X.setCell ⟨w.heap.size, 0, none⟩ (.slice none 0 0)) (w.heap.size + 1) 4 (.bool false) := h2.kept (grownBy_setCell' X _ _) (some_ne (by omega))
    have hc1 := k1.cell
    have hf1 := k1.frozen
    obtain ⟨A, cap, rfl⟩ := own_slice hrow
    rw [impl_Utf8Get.go, if_neg hs] at hgo
    by_cases hg : goodOf s = true
    · by_cases h8 : pre.length = 80
      · have hr : (r1, r2) = (([] : List Int), false) := by
          rw [if_neg (by rintro ⟨_, h⟩; exact h h8)] at hgo
          exact (Option.some.inj hgo).symm
        have q1 : ((pre.length : Int) == 80) = true := by simp [h8]
        have FIN := Aside0.mk (RunesNo.stored h1 h2 hb hr)
        rw [hg]
        clear hg h8 hr hgo hrow h80 hb hs
        gi_wp2
        exact FIN.out
      · have q1 : ((pre.length : Int) == 80) = false := by
          rw [beq_eq_false_iff_ne]
          omega
        have HH := Aside0.mk hgo
        have HG8 := Aside0.mk (And.intro hg h8)
        have HRW := Aside0.mk hrow
        have HV := Aside0.mk hv
        have H1 := Aside0.mk h1
        have H2 := Aside0.mk h2
        have HBW := Aside0.mk hb
        have H80 := Aside0.mk h80
        have HBIG := Aside0.mk hbig
        obtain ⟨i0, hi, hz0, hz1, hz2⟩ := info_parts info3
        have hu24 := Tryd.underlying24
        rw [hg]
        clear hg h8 hgo hrow h80 hbig hb hs h1 h2 hv k1 hc1 hf1 hc0 hf0
        gi_wp2_with (gi_at_builtin; refine wpListIn_append_own _ rfl _ _ 24 rfl (w.heap.size + 1 + 1 + 1 + 1) 3 i0 (.int .i64 0) 1 8 Tryd.underlying24 hi hz0 hz1 hz2 rfl (by decide) _ _ _ rfl (HRW.out.alloc _) ⟨X.heap.size, 0, none⟩ 1 1 [.int .i64 (runeOf s)] rfl rfl (cell_new1 X (.int .i64 (runeOf s)) 3) (by intro u hu; simp at hu; subst hu; rfl) (by have := H80.out; have hmx : maxLen = 9223372036854775807 := rfl; omega) (by have := H80.out; omega) (by have := HBIG.out; simp; omega) ?_; intro v' w1 hown' hgrow _; obtain ⟨g', cap', rfl⟩ := ownsRow_succ hown'; have HKT := Aside0.mk (Kt9.appended (v' := .slice (some ⟨g', 0, none⟩) (pre.length + 1) cap') HV.out HRW.out hgrow); have HOWN := Aside0.mk hown'; obtain ⟨hv1, hv2, _, hk2, hb2⟩ := HV.out.appended (n₀ := w.heap.size) (by decide) (own_weaken HRW.out (by omega)) (by have := HBIG.out; omega) (by omega) (own_weaken hown' (by omega)) hgrow; have HG1 := Aside0.mk hgrow; have HV1 := Aside0.mk hv1; have HV2 := Aside0.mk hv2; have HK2 := Aside0.mk hk2; have HB2 := Aside0.mk hb2; have hc1 := hv1.cell; have hf1 := hv1.frozen; clear hv1 hv2 hk2 hb2 hown' hgrow)
        have HNE := Aside0.mk (HV1.out.not_row (by decide) HOWN.out)
        have e0 : ∀ (B : Nat) (t : TypeId) (u : Value), t ≠ 3 → B ≠ w.heap.size + 1 + 1 → Boxed X B t u → Boxed (w1.setCell ⟨w.heap.size + 1 + 1, 0, none⟩ (.slice (some ⟨g', 0, none⟩) (pre.length + 1) cap')) B t u := fun B t u ht hne hbx =>
          ((hbx.alloc _).kept HG1.out (hbx.not_row ht HRW.out)).kept (grownBy_setCell' w1 _ _) (some_ne hne)
        refine ⟨HK2.out, HKT.out, HG8.out.1, HG8.out.2, ⟨.slice (some ⟨g', 0, none⟩) (pre.length + 1) cap', ?_, ?_⟩, e0 _ _ _ (by decide) (by omega) H1.out, e0 _ _ _ (by decide) (by omega) H2.out, HBW.out.trans HB2.out, ?_⟩
        · exact HV2.out
        · rw [List.length_append, List.map_append]
          exact HOWN.out.kept (grownBy_setCell' w1 _ _) (.inr HNE.out.symm)
        · refine ⟨?_, Nat.le_trans HBIG.out HK2.out.size⟩
          have := H80.out
          have := HG8.out.2
          simp
          omega
    · have hr : (r1, r2) = (([] : List Int), false) := by
        rw [if_neg (by rintro ⟨h, _⟩; exact hg h)] at hgo
        exact (Option.some.inj hgo).symm
      have hg2 : goodOf s = false := by simpa using hg
      have FIN := Aside0.mk (RunesNo.stored h1 h2 hb hr)
      rw [hg2]
      clear hg hg2 hr hgo hrow h80 hb hs
      gi_wp2
      exact FIN.out
  case done =>
    rintro D Y hD ⟨⟨v, hv, hrow⟩, h1, h2, hb, h80, hbig⟩ hr hK
    have hc2 := hv.cell
    have hc0 := h1.cell
    have hf0 := h1.frozen
    obtain ⟨A, cap, rfl⟩ := own_slice hrow
    have k1 : Boxed (Y.setCell ⟨w.heap.size, 0, none⟩ (.slice A r1.length cap)) (w.heap.size + 1) 4 (.bool false) := h2.kept (grownBy_setCell' Y _ _) (some_ne (by omega))
    have hc1 := k1.cell
    have hf1 := k1.frozen
    obtain rfl : r2 = true := hr
    have FF := Aside0.mk (runes_done (v := .slice A r1.length cap) (a0 := a0) h1 h2 hb hrow (by omega) hK)
    clear h1 h2 hb hrow hv k1
    gi_wp2
    obtain ⟨f1, f2, f3, f4⟩ := FF.out
    refine ⟨by simp, .inl ⟨_, _, rfl, run_takeDeferred f1, ?_⟩⟩
    exact ⟨_, f2, _, rfl, f3, f4⟩
  case stop =>
    rintro D Y hD ⟨h1, h2, hb, hr⟩ hK
    have FF := Aside0.mk (runes_stop (a0 := a0) h1 h2 hb (by omega) hK)
    obtain ⟨rfl, rfl⟩ : r1 = [] ∧ r2 = false := by simpa using hr
    clear h1 h2 hb hr
    gi_wp2
    obtain ⟨f2, f3, f4⟩ := FF.out
    refine ⟨by simp, .inl ⟨_, _, rfl, run_takeDeferred hK, ?_⟩⟩
    exact ⟨_, f2, _, rfl, f3, f4⟩


/-! ### spec_l1Lead: function 27 -/
def spec_l1Lead.f (a0 : Int) : Option (Int × Int) := if a0 < 128 then (some (1, a0)) else ((spec_l1In.f a0 192 223).bind fun t224 => (if t224 = true then (some (2, wrap64 (a0 - 192))) else ((spec_l1In.f a0 224 239).bind fun t225 => (if t225 = true then (some (3, wrap64 (a0 - 224))) else ((spec_l1In.f a0 240 247).bind fun t226 => (if t226 = true then (some (4, wrap64 (a0 - 240))) else (some (0, 0))))))))
set_option maxHeartbeats 8000000 in
set_option maxRecDepth 100000 in
theorem spec_l1Lead.calls (a0 : Int) (r1 : Int) (r2 : Int) (w : World) (h : spec_l1Lead.f a0 = some (r1, r2)) :
    Calls Tryd.prog 27 #[.int .i64 a0] w fun e w' => e = .returned (.tuple #[.int .i64 r1, .int .i64 r2]) ∧ Drawn0 w w' := by
  have H : (if a0 < 128 then (some (1, a0)) else ((spec_l1In.f a0 192 223).bind fun t224 => (if t224 = true then (some (2, wrap64 (a0 - 192))) else ((spec_l1In.f a0 224 239).bind fun t225 => (if t225 = true then (some (3, wrap64 (a0 - 224))) else ((spec_l1In.f a0 240 247).bind fun t226 => (if t226 = true then (some (4, wrap64 (a0 - 240))) else (some (0, 0))))))))) = some (r1, r2) := h
  clear h
  by_cases c2 : a0 < 128
  · rw [if_pos c2] at H
    have c2b0 : decide (a0 < 128) = true := decide_eq_true c2
    clear c2
    simp only [Option.some.injEq, Prod.mk.injEq] at H
    obtain ⟨rfl, rfl⟩ := H
    go_enter Tryd.func27, Tryd.ntmps27
    go_wp2
    go_ret2
    exact ⟨by first | rfl | (simp; done) | (simp [*]; done), by repeat (first | exact Drawn0.refl _ | apply Drawn0.step)⟩
  · rw [if_neg c2] at H
    have c2b0 : decide (a0 < 128) = false := decide_eq_false c2
    clear c2
    replace H := Option.bind_eq_some_iff.mp H
    obtain ⟨t224, A30, H⟩ := H
    replace H : (if t224 = true then (some (2, wrap64 (a0 - 192))) else ((spec_l1In.f a0 224 239).bind fun t225 => (if t225 = true then (some (3, wrap64 (a0 - 224))) else ((spec_l1In.f a0 240 247).bind fun t226 => (if t226 = true then (some (4, wrap64 (a0 - 240))) else (some (0, 0))))))) = some (r1, r2) := H
    have A3 := Aside0.mk A30
    clear A30
    by_cases c4 : t224 = true
    · subst c4
      have H1 : (some (2, wrap64 (a0 - 192))) = some (r1, r2) := by rw [if_pos rfl] at H; exact H
      clear H
      have H := H1
      clear H1
      simp only [Option.some.injEq, Prod.mk.injEq] at H
      obtain ⟨rfl, rfl⟩ := H
      go_enter Tryd.func27, Tryd.ntmps27
      go_wp2_with (first | ((with_reducible refine gate_callee (f := 28) rfl ?_); refine goesL_ (some 10) rfl rfl Tryd.func28 (by kernel_rfl) rfl #[.int .i64 a0, .int .i64 192, .int .i64 223] rfl (by (try simp only [List.map_toArray, List.map_cons, List.map_nil]); first | done | rfl | (simp only [List.length_drop, List.length_take]; rfl)) ?_; (with_reducible refine (spec_l1In.calls a0 192 223 true _ A3.out).mono ?_); rintro e w' ⟨rfl, ⟨nd, rfl⟩⟩; refine ⟨_, rfl, ?_⟩))
      go_ret2
      exact ⟨by first | rfl | (simp; done) | (simp [*]; done), by repeat (first | exact Drawn0.refl _ | apply Drawn0.step)⟩
    · replace c4 := Bool.eq_false_iff.mpr c4
      subst c4
      have H1 : ((spec_l1In.f a0 224 239).bind fun t225 => (if t225 = true then (some (3, wrap64 (a0 - 224))) else ((spec_l1In.f a0 240 247).bind fun t226 => (if t226 = true then (some (4, wrap64 (a0 - 240))) else (some (0, 0)))))) = some (r1, r2) := by rw [if_neg (show ¬ (false = true) by decide)] at H; exact H
      clear H
      have H := H1
      clear H1
      replace H := Option.bind_eq_some_iff.mp H
      obtain ⟨t225, A50, H⟩ := H
      replace H : (if t225 = true then (some (3, wrap64 (a0 - 224))) else ((spec_l1In.f a0 240 247).bind fun t226 => (if t226 = true then (some (4, wrap64 (a0 - 240))) else (some (0, 0))))) = some (r1, r2) := H
      have A5 := Aside0.mk A50
      clear A50
      by_cases c6 : t225 = true
      · subst c6
        have H1 : (some (3, wrap64 (a0 - 224))) = some (r1, r2) := by rw [if_pos rfl] at H; exact H
        clear H
        have H := H1
        clear H1
        simp only [Option.some.injEq, Prod.mk.injEq] at H
        obtain ⟨rfl, rfl⟩ := H
        go_enter Tryd.func27, Tryd.ntmps27
        go_wp2_with (first | ((with_reducible refine gate_callee (f := 28) rfl ?_); refine goesL_ (some 10) rfl rfl Tryd.func28 (by kernel_rfl) rfl #[.int .i64 a0, .int .i64 192, .int .i64 223] rfl (by (try simp only [List.map_toArray, List.map_cons, List.map_nil]); first | done | rfl | (simp only [List.length_drop, List.length_take]; rfl)) ?_; (with_reducible refine (spec_l1In.calls a0 192 223 false _ A3.out).mono ?_); rintro e w' ⟨rfl, ⟨nd, rfl⟩⟩; refine ⟨_, rfl, ?_⟩) | ((with_reducible refine gate_callee (f := 28) rfl ?_); refine goesL_ (some 15) rfl rfl Tryd.func28 (by kernel_rfl) rfl #[.int .i64 a0, .int .i64 224, .int .i64 239] rfl (by (try simp only [List.map_toArray, List.map_cons, List.map_nil]); first | done | rfl | (simp only [List.length_drop, List.length_take]; rfl)) ?_; (with_reducible refine (spec_l1In.calls a0 224 239 true _ A5.out).mono ?_); rintro e w' ⟨rfl, ⟨nd, rfl⟩⟩; refine ⟨_, rfl, ?_⟩))
        go_ret2
        exact ⟨by first | rfl | (simp; done) | (simp [*]; done), by repeat (first | exact Drawn0.refl _ | apply Drawn0.step)⟩
      · replace c6 := Bool.eq_false_iff.mpr c6
        subst c6
        have H1 : ((spec_l1In.f a0 240 247).bind fun t226 => (if t226 = true then (some (4, wrap64 (a0 - 240))) else (some (0, 0)))) = some (r1, r2) := by rw [if_neg (show ¬ (false = true) by decide)] at H; exact H
        clear H
        have H := H1
        clear H1
        replace H := Option.bind_eq_some_iff.mp H
        obtain ⟨t226, A70, H⟩ := H
        replace H : (if t226 = true then (some (4, wrap64 (a0 - 240))) else (some (0, 0))) = some (r1, r2) := H
        have A7 := Aside0.mk A70
        clear A70
        by_cases c8 : t226 = true
        · subst c8
          have H1 : (some (4, wrap64 (a0 - 240))) = some (r1, r2) := by rw [if_pos rfl] at H; exact H
          clear H
          have H := H1
          clear H1
          simp only [Option.some.injEq, Prod.mk.injEq] at H
          obtain ⟨rfl, rfl⟩ := H
          go_enter Tryd.func27, Tryd.ntmps27
          go_wp2_with (first | ((with_reducible refine gate_callee (f := 28) rfl ?_); refine goesL_ (some 10) rfl rfl Tryd.func28 (by kernel_rfl) rfl #[.int .i64 a0, .int .i64 192, .int .i64 223] rfl (by (try simp only [List.map_toArray, List.map_cons, List.map_nil]); first | done | rfl | (simp only [List.length_drop, List.length_take]; rfl)) ?_; (with_reducible refine (spec_l1In.calls a0 192 223 false _ A3.out).mono ?_); rintro e w' ⟨rfl, ⟨nd, rfl⟩⟩; refine ⟨_, rfl, ?_⟩) | ((with_reducible refine gate_callee (f := 28) rfl ?_); refine goesL_ (some 15) rfl rfl Tryd.func28 (by kernel_rfl) rfl #[.int .i64 a0, .int .i64 224, .int .i64 239] rfl (by (try simp only [List.map_toArray, List.map_cons, List.map_nil]); first | done | rfl | (simp only [List.length_drop, List.length_take]; rfl)) ?_; (with_reducible refine (spec_l1In.calls a0 224 239 false _ A5.out).mono ?_); rintro e w' ⟨rfl, ⟨nd, rfl⟩⟩; refine ⟨_, rfl, ?_⟩) | ((with_reducible refine gate_callee (f := 28) rfl ?_); refine goesL_ (some 20) rfl rfl Tryd.func28 (by kernel_rfl) rfl #[.int .i64 a0, .int .i64 240, .int .i64 247] rfl (by (try simp only [List.map_toArray, List.map_cons, List.map_nil]); first | done | rfl | (simp only [List.length_drop, List.length_take]; rfl)) ?_; (with_reducible refine (spec_l1In.calls a0 240 247 true _ A7.out).mono ?_); rintro e w' ⟨rfl, ⟨nd, rfl⟩⟩; refine ⟨_, rfl, ?_⟩))
          go_ret2
          exact ⟨by first | rfl | (simp; done) | (simp [*]; done), by repeat (first | exact Drawn0.refl _ | apply Drawn0.step)⟩
        · replace c8 := Bool.eq_false_iff.mpr c8
          subst c8
          have H1 : (some (0, 0)) = some (r1, r2) := by rw [if_neg (show ¬ (false = true) by decide)] at H; exact H
          clear H
          have H := H1
          clear H1
          simp only [Option.some.injEq, Prod.mk.injEq] at H
          obtain ⟨rfl, rfl⟩ := H
          go_enter Tryd.func27, Tryd.ntmps27
          go_wp2_with (first | ((with_reducible refine gate_callee (f := 28) rfl ?_); refine goesL_ (some 10) rfl rfl Tryd.func28 (by kernel_rfl) rfl #[.int .i64 a0, .int .i64 192, .int .i64 223] rfl (by (try simp only [List.map_toArray, List.map_cons, List.map_nil]); first | done | rfl | (simp only [List.length_drop, List.length_take]; rfl)) ?_; (with_reducible refine (spec_l1In.calls a0 192 223 false _ A3.out).mono ?_); rintro e w' ⟨rfl, ⟨nd, rfl⟩⟩; refine ⟨_, rfl, ?_⟩) | ((with_reducible refine gate_callee (f := 28) rfl ?_); refine goesL_ (some 15) rfl rfl Tryd.func28 (by kernel_rfl) rfl #[.int .i64 a0, .int .i64 224, .int .i64 239] rfl (by (try simp only [List.map_toArray, List.map_cons, List.map_nil]); first | done | rfl | (simp only [List.length_drop, List.length_take]; rfl)) ?_; (with_reducible refine (spec_l1In.calls a0 224 239 false _ A5.out).mono ?_); rintro e w' ⟨rfl, ⟨nd, rfl⟩⟩; refine ⟨_, rfl, ?_⟩) | ((with_reducible refine gate_callee (f := 28) rfl ?_); refine goesL_ (some 20) rfl rfl Tryd.func28 (by kernel_rfl) rfl #[.int .i64 a0, .int .i64 240, .int .i64 247] rfl (by (try simp only [List.map_toArray, List.map_cons, List.map_nil]); first | done | rfl | (simp only [List.length_drop, List.length_take]; rfl)) ?_; (with_reducible refine (spec_l1In.calls a0 240 247 false _ A7.out).mono ?_); rintro e w' ⟨rfl, ⟨nd, rfl⟩⟩; refine ⟨_, rfl, ?_⟩))
          go_ret2
          exact ⟨by first | rfl | (simp; done) | (simp [*]; done), by repeat (first | exact Drawn0.refl _ | apply Drawn0.step)⟩

end Go.Proofs.YtfpmeahdfipeeaaDoor.PFnUtf8Text
