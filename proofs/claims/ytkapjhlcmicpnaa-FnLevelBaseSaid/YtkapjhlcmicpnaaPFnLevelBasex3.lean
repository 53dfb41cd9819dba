-- Written by a program of this session (wip/tools) out of the translation; its shape is that of the kit print.
import Derived.Test.YtkapjhlcmicpnaaPFnLevelBasex0
import Derived.Test.YtkapjhlcmicpnaaPFnLevelBasex2
namespace Go.Proofs.Ytkapjhlcmicpnaa.PFnLevelBase
open Go.RowKit Go.Proofs.YtkapjhlcmicpnaaW.PrintWords Go.Proofs.YtkapjhlcmicpnaaW.PrintLast Go.Proofs.YtkapjhlcmicpnaaW.PrintMore
attribute [local go_sem] max2_int min2_int max_two min_two max_three min_three max_four min_four   -- for this text's walks alone
set_option linter.unusedVariables false
set_option linter.unusedSimpArgs false

/-- a letter -/
def isL (x : Int) : Bool := decide (0 ≤ x) && decide (x ≤ 1114111) && (decide (x < 55296) || decide (57343 < x))
theorem isLetter_isL (x : Int) : impl_isLetter.f x = some (isL x) := by
  unfold impl_isLetter.f isL
  by_cases h1 : (0 : Int) ≤ x <;> by_cases h2 : x ≤ 1114111 <;> by_cases h3 : x < 55296 <;> by_cases h4 : 57343 < x <;> simp [h1, h2, h3, h4]
theorem impl_lettersOk_1_eq (x : Int) : impl_lettersOk_1.f x = some (!isL x) := by
  unfold impl_lettersOk_1.f
  rw [isLetter_isL]
  rfl
set_option maxHeartbeats 2000000 in
theorem impl_lettersOk_idx (p : Int → Bool) (hp : ∀ (x : Int) (W : World), Calls Try.prog 99 #[.int .i64 x] W fun e W' => e = .returned (.bool (p x)) ∧ Drawn0 W W')
    (A0 : Option Addr) (c0 : Nat) (l0 : List Int) (w : World) (hr0 : Kd.C (Kd.int .i64) w A0 l0.length l0) (hc0 : l0.length ≤ c0) :
    Calls Try.prog 112 #[.slice A0 l0.length c0, .func (.func 99) #[] #[]] w fun e w' => e = .returned (.int .i64 (fidx p l0 0)) ∧ Drawn0 w w' := by
  have hbig : l0.length ≤ 9223372036854775807 := hr0.2.1
  have HR0 := Aside0.mk hr0
  have HP := Aside0.mk hp
  clear hr0 hc0 hp
  go_enter Try.func112, Try.ntmps112
  go_wp2
  go_loopg [5, 8] l0.length (fun gg _ s8 wr => ∃ kk : Nat, kk ≤ l0.length ∧ l0.length - kk ≤ gg ∧ s8 = .int .i64 kk ∧ Drawn0 w wr ∧ Aside0 (∀ j, j < kk → p (l0.getD j 0) = false))
  case atStart => exact ⟨0, Nat.zero_le _, by omega, rfl, Drawn0.refl _, ⟨fun j hj => absurd hj (Nat.not_lt_zero _)⟩⟩
  case round =>
    obtain ⟨kk, hkk, hg, rfl, ⟨q, rfl⟩, A⟩ := hrel
    by_cases hlt : kk < l0.length
    · have hltz : (kk : Int) < (l0.length : Int) := by omega
      obtain ⟨ad, e0, hcell⟩ := Kd.at_int HR0.out (kk : Int) (by omega) (by omega)
      rw [Int.toNat_natCast] at hcell
      subst e0
      generalize hy : rd l0 (kk : Int) = y at hcell
      have B : Aside0 (l0.getD kk 0 = y) := ⟨hy⟩
      clear hy
      have hcall := HP.out y
      cases hq : p y with
      | true =>
        rw [hq] at hcall
        go_wp2_with (go_at_call 99; refine (hcall _).mono ?_; rintro e w' ⟨rfl, ⟨q', rfl⟩⟩)
        go_ret
        refine ⟨?_, ⟨_, rfl⟩⟩
        rw [fidx_hit p l0 0 kk hlt (by rw [B.out]; exact hq) A.out]
        simp
      | false =>
        rw [hq] at hcall
        go_wp2_with (go_at_call 99; refine (hcall _).mono ?_; rintro e w' ⟨rfl, ⟨q', rfl⟩⟩)
        go_roundg (l0.length - (kk + 1))
        case measure => omega
        case rel =>
          refine ⟨kk + 1, by omega, by omega, by go_num, ⟨_, rfl⟩, ⟨fun j hj => ?_⟩⟩
          by_cases e : j = kk
          · subst e
            rw [B.out]; exact hq
          · exact A.out j (by omega)
    · have hltz : ¬ (kk : Int) < (l0.length : Int) := by omega
      have hk : kk = l0.length := by omega
      subst hk
      go_wp2
      go_ret
      refine ⟨?_, ⟨q, rfl⟩⟩
      rw [fidx_miss p l0 0 A.out]
      rfl
set_option maxHeartbeats 1000000 in
theorem impl_lettersOk_con (p : Int → Bool) (hp : ∀ (x : Int) (W : World), Calls Try.prog 99 #[.int .i64 x] W fun e W' => e = .returned (.bool (p x)) ∧ Drawn0 W W')
    (A0 : Option Addr) (c0 : Nat) (l0 : List Int) (w : World) (hr0 : Kd.C (Kd.int .i64) w A0 l0.length l0) (hc0 : l0.length ≤ c0) :
    Calls Try.prog 85 #[.slice A0 l0.length c0, .func (.func 99) #[] #[]] w fun e w' => e = .returned (.bool (l0.any p)) ∧ Drawn0 w w' := by
  rw [← fidx_nonneg p l0 0]
  have H := fun W => impl_lettersOk_idx p hp A0 c0 l0 W
  have HR0 := Aside0.mk hr0
  clear hr0 hp
  have HH := Aside0.mk H
  clear H
  go_enter Try.func85, Try.ntmps85
  go_wp2_with (go_at_call 112; refine (HH.out _ HR0.out hc0).mono ?_; rintro e w' ⟨rfl, ⟨q, rfl⟩⟩)
  go_ret
  exact ⟨rfl, ⟨q, rfl⟩⟩
def impl_lettersOk.f (l0 : List Int) : Option Bool := some (decide ((l0.length : Int) ≤ 80) && !(l0.any fun x => !isL x))
set_option maxHeartbeats 1000000 in
theorem impl_lettersOk.calls (A0 : Option Addr) (c0 : Nat) (l0 : List Int) (r : Bool) (w : World) (hr0 : Kd.C (Kd.int .i64) w A0 l0.length l0) (hc0 : l0.length ≤ c0) (h : impl_lettersOk.f l0 = some r) :
    Calls Try.prog 65 #[.slice A0 l0.length c0] w fun e w' => e = .returned (.bool r) ∧ Drawn0 w w' := by
  have H := Option.some.inj h
  clear h
  have hb := hr0.2.1
  have HC := fun W => impl_lettersOk_con (fun x => !isL x) (fun x W => impl_lettersOk_1.calls x _ W (impl_lettersOk_1_eq x)) A0 c0 l0 W
  have HR := Aside0.mk hr0
  have HH := Aside0.mk HC
  clear HC hr0
  generalize hq : (l0.any fun x => !isL x) = q at HH H
  have Hq := Aside0.mk H
  clear H hq
  by_cases hl : (l0.length : Int) ≤ 80
  · have hl1 : decide ((l0.length : Int) ≤ 80) = true := decide_eq_true hl
    have hl2 : decide (l0.length ≤ 80) = true := decide_eq_true (by omega)
    go_enter Try.func65, Try.ntmps65
    go_wp2_with (go_at_call 85; refine (HH.out _ HR.out hc0).mono ?_; rintro e w' ⟨rfl, ⟨q', rfl⟩⟩)
    go_ret
    exact ⟨by rw [← Hq.out, hl1]; rfl, ⟨_, rfl⟩⟩
  · have hl1 : decide ((l0.length : Int) ≤ 80) = false := decide_eq_false hl
    have hl2 : decide (l0.length ≤ 80) = false := decide_eq_false (by omega)
    go_enter Try.func65, Try.ntmps65
    go_wp2
    go_ret
    exact ⟨by rw [← Hq.out, hl1]; rfl, Drawn0.refl _⟩


-- NOT PRINTED: function 127 (impl_reach_int)

/-! ### cmp_isNaN_int: function 131 -/
def cmp_isNaN_int.f (a0 : Int) : Option (Bool) := some (a0 != a0)
set_option maxHeartbeats 8000000 in
set_option maxRecDepth 100000 in
theorem cmp_isNaN_int.calls (a0 : Int) (r : Bool) (w : World) (h : cmp_isNaN_int.f a0 = some r) :
    Calls Try.prog 131 #[.int .i64 a0] w fun e w' => e = .returned (.bool r) ∧ Drawn0 w w' := by
  have H : (some (a0 != a0)) = some r := h
  clear h
  obtain rfl := Option.some.inj H
  go_enter Try.func131, Try.ntmps131
  go_wp2
  go_ret
  exact ⟨by first | rfl | (simp; done) | (simp [*]; done), by repeat (first | exact Drawn0.refl _ | apply Drawn0.step)⟩

/-! ### cmp_Compare_int: function 129 -/
def cmp_Compare_int.f (a0 : Int) (a1 : Int) : Option (Int) := (cmp_isNaN_int.f a0).bind fun t134 => ((cmp_isNaN_int.f a1).bind fun t135 => (if t134 = true then (if t135 = true then (some 0) else (some (-1))) else (if t135 = true then (some 1) else (if a0 < a1 then (some (-1)) else (if a0 > a1 then (some 1) else (some 0))))))
set_option maxHeartbeats 8000000 in
set_option maxRecDepth 100000 in
theorem cmp_Compare_int.calls (a0 : Int) (a1 : Int) (r : Int) (w : World) (h : cmp_Compare_int.f a0 a1 = some r) :
    Calls Try.prog 129 #[.int .i64 a0, .int .i64 a1] w fun e w' => e = .returned (.int .i64 r) ∧ Drawn0 w w' := by
  have H : ((cmp_isNaN_int.f a0).bind fun t134 => ((cmp_isNaN_int.f a1).bind fun t135 => (if t134 = true then (if t135 = true then (some 0) else (some (-1))) else (if t135 = true then (some 1) else (if a0 < a1 then (some (-1)) else (if a0 > a1 then (some 1) else (some 0))))))) = some r := h
  clear h
  replace H := Option.bind_eq_some_iff.mp H
  obtain ⟨t134, A30, H⟩ := H
  replace H : ((cmp_isNaN_int.f a1).bind fun t135 => (if t134 = true then (if t135 = true then (some 0) else (some (-1))) else (if t135 = true then (some 1) else (if a0 < a1 then (some (-1)) else (if a0 > a1 then (some 1) else (some 0)))))) = some r := H
  have A3 := Aside0.mk A30
  clear A30
  replace H := Option.bind_eq_some_iff.mp H
  obtain ⟨t135, A40, H⟩ := H
  replace H : (if t134 = true then (if t135 = true then (some 0) else (some (-1))) else (if t135 = true then (some 1) else (if a0 < a1 then (some (-1)) else (if a0 > a1 then (some 1) else (some 0))))) = some r := H
  have A4 := Aside0.mk A40
  clear A40
  by_cases c5 : t134 = true
  · subst c5
    have H1 : (if t135 = true then (some 0) else (some (-1))) = some r := by rw [if_pos rfl] at H; exact H
    clear H
    have H := H1
    clear H1
    by_cases c6 : t135 = true
    · subst c6
      have H1 : (some 0) = some r := by rw [if_pos rfl] at H; exact H
      clear H
      have H := H1
      clear H1
      obtain rfl := Option.some.inj H
      go_enter Try.func129, Try.ntmps129
      go_wp2_with (first | ((with_reducible refine gate_callee (f := 131) rfl ?_); refine goesL_ (some 8) rfl rfl Try.func131 (by kernel_rfl) rfl #[.int .i64 a0] rfl (by (try simp only [List.map_toArray, List.map_cons, List.map_nil]); first | done | rfl | (simp only [List.length_drop, List.length_take]; rfl)) ?_; (with_reducible refine (cmp_isNaN_int.calls a0 true _ A3.out).mono ?_); rintro e w' ⟨rfl, ⟨nd, rfl⟩⟩; refine ⟨_, rfl, ?_⟩) | ((with_reducible refine gate_callee (f := 131) rfl ?_); refine goesL_ (some 10) rfl rfl Try.func131 (by kernel_rfl) rfl #[.int .i64 a1] rfl (by (try simp only [List.map_toArray, List.map_cons, List.map_nil]); first | done | rfl | (simp only [List.length_drop, List.length_take]; rfl)) ?_; (with_reducible refine (cmp_isNaN_int.calls a1 true _ A4.out).mono ?_); rintro e w' ⟨rfl, ⟨nd, rfl⟩⟩; refine ⟨_, rfl, ?_⟩))
      go_ret
      exact ⟨by first | rfl | (simp; done) | (simp [*]; done), by repeat (first | exact Drawn0.refl _ | apply Drawn0.step)⟩
    · replace c6 := Bool.eq_false_iff.mpr c6
      subst c6
      have H1 : (some (-1)) = some r := by rw [if_neg (show ¬ (false = true) by decide)] at H; exact H
      clear H
      have H := H1
      clear H1
      obtain rfl := Option.some.inj H
      go_enter Try.func129, Try.ntmps129
      go_wp2_with (first | ((with_reducible refine gate_callee (f := 131) rfl ?_); refine goesL_ (some 8) rfl rfl Try.func131 (by kernel_rfl) rfl #[.int .i64 a0] rfl (by (try simp only [List.map_toArray, List.map_cons, List.map_nil]); first | done | rfl | (simp only [List.length_drop, List.length_take]; rfl)) ?_; (with_reducible refine (cmp_isNaN_int.calls a0 true _ A3.out).mono ?_); rintro e w' ⟨rfl, ⟨nd, rfl⟩⟩; refine ⟨_, rfl, ?_⟩) | ((with_reducible refine gate_callee (f := 131) rfl ?_); refine goesL_ (some 10) rfl rfl Try.func131 (by kernel_rfl) rfl #[.int .i64 a1] rfl (by (try simp only [List.map_toArray, List.map_cons, List.map_nil]); first | done | rfl | (simp only [List.length_drop, List.length_take]; rfl)) ?_; (with_reducible refine (cmp_isNaN_int.calls a1 false _ A4.out).mono ?_); rintro e w' ⟨rfl, ⟨nd, rfl⟩⟩; refine ⟨_, rfl, ?_⟩))
      go_ret
      exact ⟨by first | rfl | (simp; done) | (simp [*]; done), by repeat (first | exact Drawn0.refl _ | apply Drawn0.step)⟩
  · replace c5 := Bool.eq_false_iff.mpr c5
    subst c5
    have H1 : (if t135 = true then (some 1) else (if a0 < a1 then (some (-1)) else (if a0 > a1 then (some 1) else (some 0)))) = some r := by rw [if_neg (show ¬ (false = true) by decide)] at H; exact H
    clear H
    have H := H1
    clear H1
    by_cases c7 : t135 = true
    · subst c7
      have H1 : (some 1) = some r := by rw [if_pos rfl] at H; exact H
      clear H
      have H := H1
      clear H1
      obtain rfl := Option.some.inj H
      go_enter Try.func129, Try.ntmps129
      go_wp2_with (first | ((with_reducible refine gate_callee (f := 131) rfl ?_); refine goesL_ (some 8) rfl rfl Try.func131 (by kernel_rfl) rfl #[.int .i64 a0] rfl (by (try simp only [List.map_toArray, List.map_cons, List.map_nil]); first | done | rfl | (simp only [List.length_drop, List.length_take]; rfl)) ?_; (with_reducible refine (cmp_isNaN_int.calls a0 false _ A3.out).mono ?_); rintro e w' ⟨rfl, ⟨nd, rfl⟩⟩; refine ⟨_, rfl, ?_⟩) | ((with_reducible refine gate_callee (f := 131) rfl ?_); refine goesL_ (some 10) rfl rfl Try.func131 (by kernel_rfl) rfl #[.int .i64 a1] rfl (by (try simp only [List.map_toArray, List.map_cons, List.map_nil]); first | done | rfl | (simp only [List.length_drop, List.length_take]; rfl)) ?_; (with_reducible refine (cmp_isNaN_int.calls a1 true _ A4.out).mono ?_); rintro e w' ⟨rfl, ⟨nd, rfl⟩⟩; refine ⟨_, rfl, ?_⟩))
      go_ret
      exact ⟨by first | rfl | (simp; done) | (simp [*]; done), by repeat (first | exact Drawn0.refl _ | apply Drawn0.step)⟩
    · replace c7 := Bool.eq_false_iff.mpr c7
      subst c7
      have H1 : (if a0 < a1 then (some (-1)) else (if a0 > a1 then (some 1) else (some 0))) = some r := by rw [if_neg (show ¬ (false = true) by decide)] at H; exact H
      clear H
      have H := H1
      clear H1
      by_cases c8 : a0 < a1
      · rw [if_pos c8] at H
        have c8b0 : decide (a0 < a1) = true := decide_eq_true c8
        clear c8
        obtain rfl := Option.some.inj H
        go_enter Try.func129, Try.ntmps129
        go_wp2_with (first | ((with_reducible refine gate_callee (f := 131) rfl ?_); refine goesL_ (some 8) rfl rfl Try.func131 (by kernel_rfl) rfl #[.int .i64 a0] rfl (by (try simp only [List.map_toArray, List.map_cons, List.map_nil]); first | done | rfl | (simp only [List.length_drop, List.length_take]; rfl)) ?_; (with_reducible refine (cmp_isNaN_int.calls a0 false _ A3.out).mono ?_); rintro e w' ⟨rfl, ⟨nd, rfl⟩⟩; refine ⟨_, rfl, ?_⟩) | ((with_reducible refine gate_callee (f := 131) rfl ?_); refine goesL_ (some 10) rfl rfl Try.func131 (by kernel_rfl) rfl #[.int .i64 a1] rfl (by (try simp only [List.map_toArray, List.map_cons, List.map_nil]); first | done | rfl | (simp only [List.length_drop, List.length_take]; rfl)) ?_; (with_reducible refine (cmp_isNaN_int.calls a1 false _ A4.out).mono ?_); rintro e w' ⟨rfl, ⟨nd, rfl⟩⟩; refine ⟨_, rfl, ?_⟩))
        go_ret
        exact ⟨by first | rfl | (simp; done) | (simp [*]; done), by repeat (first | exact Drawn0.refl _ | apply Drawn0.step)⟩
      · rw [if_neg c8] at H
        have c8b0 : decide (a0 < a1) = false := decide_eq_false c8
        clear c8
        by_cases c9 : a0 > a1
        · rw [if_pos c9] at H
          have c9b0 : decide (a1 < a0) = true := decide_eq_true c9
          clear c9
          obtain rfl := Option.some.inj H
          go_enter Try.func129, Try.ntmps129
          go_wp2_with (first | ((with_reducible refine gate_callee (f := 131) rfl ?_); refine goesL_ (some 8) rfl rfl Try.func131 (by kernel_rfl) rfl #[.int .i64 a0] rfl (by (try simp only [List.map_toArray, List.map_cons, List.map_nil]); first | done | rfl | (simp only [List.length_drop, List.length_take]; rfl)) ?_; (with_reducible refine (cmp_isNaN_int.calls a0 false _ A3.out).mono ?_); rintro e w' ⟨rfl, ⟨nd, rfl⟩⟩; refine ⟨_, rfl, ?_⟩) | ((with_reducible refine gate_callee (f := 131) rfl ?_); refine goesL_ (some 10) rfl rfl Try.func131 (by kernel_rfl) rfl #[.int .i64 a1] rfl (by (try simp only [List.map_toArray, List.map_cons, List.map_nil]); first | done | rfl | (simp only [List.length_drop, List.length_take]; rfl)) ?_; (with_reducible refine (cmp_isNaN_int.calls a1 false _ A4.out).mono ?_); rintro e w' ⟨rfl, ⟨nd, rfl⟩⟩; refine ⟨_, rfl, ?_⟩))
          go_ret
          exact ⟨by first | rfl | (simp; done) | (simp [*]; done), by repeat (first | exact Drawn0.refl _ | apply Drawn0.step)⟩
        · rw [if_neg c9] at H
          have c9b0 : decide (a1 < a0) = false := decide_eq_false c9
          clear c9
          obtain rfl := Option.some.inj H
          go_enter Try.func129, Try.ntmps129
          go_wp2_with (first | ((with_reducible refine gate_callee (f := 131) rfl ?_); refine goesL_ (some 8) rfl rfl Try.func131 (by kernel_rfl) rfl #[.int .i64 a0] rfl (by (try simp only [List.map_toArray, List.map_cons, List.map_nil]); first | done | rfl | (simp only [List.length_drop, List.length_take]; rfl)) ?_; (with_reducible refine (cmp_isNaN_int.calls a0 false _ A3.out).mono ?_); rintro e w' ⟨rfl, ⟨nd, rfl⟩⟩; refine ⟨_, rfl, ?_⟩) | ((with_reducible refine gate_callee (f := 131) rfl ?_); refine goesL_ (some 10) rfl rfl Try.func131 (by kernel_rfl) rfl #[.int .i64 a1] rfl (by (try simp only [List.map_toArray, List.map_cons, List.map_nil]); first | done | rfl | (simp only [List.length_drop, List.length_take]; rfl)) ?_; (with_reducible refine (cmp_isNaN_int.calls a1 false _ A4.out).mono ?_); rintro e w' ⟨rfl, ⟨nd, rfl⟩⟩; refine ⟨_, rfl, ?_⟩))
          go_ret
          exact ⟨by first | rfl | (simp; done) | (simp [*]; done), by repeat (first | exact Drawn0.refl _ | apply Drawn0.step)⟩

/-! ### impl_find_1: function 128 -/
def impl_find_1.f (a0_0 : Int) (a0_1 : Int) (a0_2 : Int) (a1 : Int) : Option (Int) := if a1 ≥ a0_0 then (if a1 ≤ a0_1 then (some 0) else ((cmp_Compare_int.f a0_0 a1).bind fun t137 => (some t137))) else ((cmp_Compare_int.f a0_0 a1).bind fun t138 => (some t138))
set_option maxHeartbeats 8000000 in
set_option maxRecDepth 100000 in
theorem impl_find_1.calls (a0_0 : Int) (a0_1 : Int) (a0_2 : Int) (a1 : Int) (r : Int) (w : World) (h : impl_find_1.f a0_0 a0_1 a0_2 a1 = some r) :
    Calls Try.prog 128 #[.agg #[.int .i64 a0_0, .int .i64 a0_1, .int .i64 a0_2], .int .i64 a1] w fun e w' => e = .returned (.int .i64 r) ∧ Below w.heap.size w w' := by
  have hu121 := Try.underlying121
  have HB := Aside0.mk (Below.refl w.heap.size w)
  have H : (if a1 ≥ a0_0 then (if a1 ≤ a0_1 then (some 0) else ((cmp_Compare_int.f a0_0 a1).bind fun t137 => (some t137))) else ((cmp_Compare_int.f a0_0 a1).bind fun t138 => (some t138))) = some r := h
  clear h
  by_cases c3 : a1 ≥ a0_0
  · rw [if_pos c3] at H
    have c3b0 : decide (a0_0 ≤ a1) = true := decide_eq_true c3
    clear c3
    by_cases c4 : a1 ≤ a0_1
    · rw [if_pos c4] at H
      have c4b0 : decide (a1 ≤ a0_1) = true := decide_eq_true c4
      clear c4
      obtain rfl := Option.some.inj H
      go_enter Try.func128, Try.ntmps128
      go_wp2_with (first | ((with_reducible refine gate_dst (N := 2) rfl ?_); refine box_event ?hg (N := 2) ?hd (cs := #[.int .i64 a0_0, .int .i64 a0_1, .int .i64 a0_2]) (t := 121) ?hr ?_; (case hd => rfl); (case hg => rfl); (case hr => first | (go_simp; done) | (go_simp; rfl)); intro gb136 hg w5 hbox hb; have n0_ := Aside0.mk (below_step (by repeat (first | (with_reducible first | exact HB.out | apply below_alloc | apply pw_below_drewN | apply below_drew1) | exact HB.out)) hb); have n1_ := Aside0.mk (hbox); have n2_ := Aside0.mk ((by rw [hg]; exact (below_size (by repeat (first | (with_reducible first | exact HB.out | apply below_alloc | apply pw_below_drewN | apply below_drew1) | exact HB.out))) : w.heap.size ≤ gb136)); have n3_ := Aside0.mk ((by rw [hg]; exact (below_size (by repeat (first | (with_reducible first | exact HB.out | apply below_alloc | apply pw_below_drewN | apply below_drew1) | exact HB.out))) : w.heap.size ≤ gb136)); clear HB; have HB := n0_; have BK136 := n1_; have GW136 := n2_; have GE136 := n3_; clear n0_ n1_ n2_ n3_; clear hb hbox hg; have hcz6_0 : w5.cell? ⟨gb136, 0, none⟩ = some (.int .i64 a0_0) := (blk_cell BK136.out 0).trans rfl; have hcz6_1 : w5.cell? ⟨gb136, 1, none⟩ = some (.int .i64 a0_1) := (blk_cell BK136.out 1).trans rfl; have hcz6_2 : w5.cell? ⟨gb136, 2, none⟩ = some (.int .i64 a0_2) := (blk_cell BK136.out 2).trans rfl; have hfz6_0 := blk_frozen BK136.out 0; have hfz6_1 := blk_frozen BK136.out 1; have hfz6_2 := blk_frozen BK136.out 2))
      go_ret
      exact ⟨by first | rfl | (simp [errW_none, errW_some] <;> rfl) | (simp [*, errW_none, errW_some] <;> rfl), by repeat (first | (with_reducible first | exact HB.out | apply below_alloc | apply pw_below_drewN | apply below_drew1 | refine below_set ?_ GE136.out) | exact HB.out)⟩
    · rw [if_neg c4] at H
      have c4b0 : decide (a1 ≤ a0_1) = false := decide_eq_false c4
      clear c4
      replace H := Option.bind_eq_some_iff.mp H
      obtain ⟨t137, A70, H⟩ := H
      replace H : (some t137) = some r := H
      have A7 := Aside0.mk A70
      clear A70
      obtain rfl := Option.some.inj H
      go_enter Try.func128, Try.ntmps128
      go_wp2_with (first | ((with_reducible refine gate_dst (N := 2) rfl ?_); refine box_event ?hg (N := 2) ?hd (cs := #[.int .i64 a0_0, .int .i64 a0_1, .int .i64 a0_2]) (t := 121) ?hr ?_; (case hd => rfl); (case hg => rfl); (case hr => first | (go_simp; done) | (go_simp; rfl)); intro gb136 hg w8 hbox hb; have n0_ := Aside0.mk (below_step (by repeat (first | (with_reducible first | exact HB.out | apply below_alloc | apply pw_below_drewN | apply below_drew1) | exact HB.out)) hb); have n1_ := Aside0.mk (hbox); have n2_ := Aside0.mk ((by rw [hg]; exact (below_size (by repeat (first | (with_reducible first | exact HB.out | apply below_alloc | apply pw_below_drewN | apply below_drew1) | exact HB.out))) : w.heap.size ≤ gb136)); have n3_ := Aside0.mk ((by rw [hg]; exact (below_size (by repeat (first | (with_reducible first | exact HB.out | apply below_alloc | apply pw_below_drewN | apply below_drew1) | exact HB.out))) : w.heap.size ≤ gb136)); clear HB; have HB := n0_; have BK136 := n1_; have GW136 := n2_; have GE136 := n3_; clear n0_ n1_ n2_ n3_; clear hb hbox hg; have hcz9_0 : w8.cell? ⟨gb136, 0, none⟩ = some (.int .i64 a0_0) := (blk_cell BK136.out 0).trans rfl; have hcz9_1 : w8.cell? ⟨gb136, 1, none⟩ = some (.int .i64 a0_1) := (blk_cell BK136.out 1).trans rfl; have hcz9_2 : w8.cell? ⟨gb136, 2, none⟩ = some (.int .i64 a0_2) := (blk_cell BK136.out 2).trans rfl; have hfz9_0 := blk_frozen BK136.out 0; have hfz9_1 := blk_frozen BK136.out 1; have hfz9_2 := blk_frozen BK136.out 2) | ((with_reducible refine gate_callee (f := 129) rfl ?_); refine goesL_ (some 18) rfl rfl Try.func129 (by kernel_rfl) rfl #[.int .i64 a0_0, .int .i64 a1] rfl (by (try simp only [List.map_toArray, List.map_cons, List.map_nil]); first | done | rfl | (simp only [List.length_drop, List.length_take]; rfl)) ?_; (with_reducible refine (cmp_Compare_int.calls a0_0 a1 t137 _ A7.out).mono ?_); rintro e w' ⟨rfl, ⟨nd, rfl⟩⟩; refine ⟨_, rfl, ?_⟩))
      go_ret
      exact ⟨by first | rfl | (simp [errW_none, errW_some] <;> rfl) | (simp [*, errW_none, errW_some] <;> rfl), by repeat (first | (with_reducible first | exact HB.out | apply below_alloc | apply pw_below_drewN | apply below_drew1 | refine below_set ?_ GE136.out) | exact HB.out)⟩
  · rw [if_neg c3] at H
    have c3b0 : decide (a0_0 ≤ a1) = false := decide_eq_false c3
    clear c3
    replace H := Option.bind_eq_some_iff.mp H
    obtain ⟨t138, A100, H⟩ := H
    replace H : (some t138) = some r := H
    have A10 := Aside0.mk A100
    clear A100
    obtain rfl := Option.some.inj H
    go_enter Try.func128, Try.ntmps128
    go_wp2_with (first | ((with_reducible refine gate_dst (N := 2) rfl ?_); refine box_event ?hg (N := 2) ?hd (cs := #[.int .i64 a0_0, .int .i64 a0_1, .int .i64 a0_2]) (t := 121) ?hr ?_; (case hd => rfl); (case hg => rfl); (case hr => first | (go_simp; done) | (go_simp; rfl)); intro gb136 hg w11 hbox hb; have n0_ := Aside0.mk (below_step (by repeat (first | (with_reducible first | exact HB.out | apply below_alloc | apply pw_below_drewN | apply below_drew1) | exact HB.out)) hb); have n1_ := Aside0.mk (hbox); have n2_ := Aside0.mk ((by rw [hg]; exact (below_size (by repeat (first | (with_reducible first | exact HB.out | apply below_alloc | apply pw_below_drewN | apply below_drew1) | exact HB.out))) : w.heap.size ≤ gb136)); have n3_ := Aside0.mk ((by rw [hg]; exact (below_size (by repeat (first | (with_reducible first | exact HB.out | apply below_alloc | apply pw_below_drewN | apply below_drew1) | exact HB.out))) : w.heap.size ≤ gb136)); clear HB; have HB := n0_; have BK136 := n1_; have GW136 := n2_; have GE136 := n3_; clear n0_ n1_ n2_ n3_; clear hb hbox hg; have hcz12_0 : w11.cell? ⟨gb136, 0, none⟩ = some (.int .i64 a0_0) := (blk_cell BK136.out 0).trans rfl; have hcz12_1 : w11.cell? ⟨gb136, 1, none⟩ = some (.int .i64 a0_1) := (blk_cell BK136.out 1).trans rfl; have hcz12_2 : w11.cell? ⟨gb136, 2, none⟩ = some (.int .i64 a0_2) := (blk_cell BK136.out 2).trans rfl; have hfz12_0 := blk_frozen BK136.out 0; have hfz12_1 := blk_frozen BK136.out 1; have hfz12_2 := blk_frozen BK136.out 2) | ((with_reducible refine gate_callee (f := 129) rfl ?_); refine goesL_ (some 18) rfl rfl Try.func129 (by kernel_rfl) rfl #[.int .i64 a0_0, .int .i64 a1] rfl (by (try simp only [List.map_toArray, List.map_cons, List.map_nil]); first | done | rfl | (simp only [List.length_drop, List.length_take]; rfl)) ?_; (with_reducible refine (cmp_Compare_int.calls a0_0 a1 t138 _ A10.out).mono ?_); rintro e w' ⟨rfl, ⟨nd, rfl⟩⟩; refine ⟨_, rfl, ?_⟩))
    go_ret
    exact ⟨by first | rfl | (simp [errW_none, errW_some] <;> rfl) | (simp [*, errW_none, errW_some] <;> rfl), by repeat (first | (with_reducible first | exact HB.out | apply below_alloc | apply pw_below_drewN | apply below_drew1 | refine below_set ?_ GE136.out) | exact HB.out)⟩

def zR : S121 := z121
def cmpR (x : S121) (r : Int) : Int := if x.f0 ≤ r ∧ r ≤ x.f1 then 0 else if x.f0 < r then -1 else if x.f0 > r then 1 else 0
theorem find_1_cmp (x : S121) (r : Int) : impl_find_1.f x.f0 x.f1 x.f2 r = some (cmpR x r) := by
  unfold impl_find_1.f cmp_Compare_int.f cmp_isNaN_int.f cmpR
  by_cases h1 : r ≥ x.f0 <;> by_cases h2 : r ≤ x.f1 <;> by_cases h3 : x.f0 < r <;> by_cases h4 : x.f0 > r <;> simp [h1, h2, h3, h4] <;> omega
/-- ascending reaches, none empty -/
def ascR : List S121 → Bool
  | [] => true
  | [x] => decide (x.f0 ≤ x.f1)
  | x :: y :: r => decide (x.f0 ≤ x.f1) && decide (x.f1 < y.f0) && ascR (y :: r)
theorem ascR_one : ∀ (l : List S121), ascR l = true → ∀ i, i < l.length → (l.getD i z121).f0 ≤ (l.getD i z121).f1
  | [], _, i, h => absurd h (Nat.not_lt_zero _)
  | [x], h, i, hi => by
    have : i = 0 := by simp at hi; omega
    subst this
    simpa [ascR] using h
  | x :: y :: r, h, i, hi => by
    simp only [ascR, Bool.and_eq_true, decide_eq_true_eq] at h
    cases i with
    | zero => simpa using h.1.1
    | succ i => simpa using ascR_one (y :: r) h.2 i (by simpa using hi)
theorem ascR_two : ∀ (l : List S121), ascR l = true → ∀ i j, i < j → j < l.length → (l.getD i z121).f1 < (l.getD j z121).f0
  | [], _, _, _, _, h => absurd h (Nat.not_lt_zero _)
  | [x], h, i, j, hij, hj => by simp at hj; omega
  | x :: y :: r, h, i, j, hij, hj => by
    have h' := h
    simp only [ascR, Bool.and_eq_true, decide_eq_true_eq] at h
    cases j with
    | zero => omega
    | succ j =>
      cases i with
      | zero =>
        cases j with
        | zero => simpa using h.1.2
        | succ j =>
          have h1 := ascR_two (y :: r) h.2 0 (j + 1) (by omega) (by simpa using hj)
          have h2 := ascR_one (y :: r) h.2 0 (by simp)
          simp only [List.getD_cons_zero, List.getD_cons_succ] at h1 h2 ⊢
          omega
      | succ i => simpa using ascR_two (y :: r) h.2 i j (by omega) (by simpa using hj)
def hitR (x : S121) (r : Int) : Bool := decide (x.f0 ≤ r) && decide (r ≤ x.f1)
def lookR (l : List S121) (r other : Int) : Int := ((l.find? fun x => hitR x r).map (·.f2)).getD other
theorem lookR_hit : ∀ (l : List S121) (i : Nat) (r o : Int), i < l.length → hitR (l.getD i z121) r = true → (∀ k, k < i → hitR (l.getD k z121) r = false) → lookR l r o = (l.getD i z121).f2
  | [], _, _, _, h, _, _ => absurd h (Nat.not_lt_zero _)
  | x :: xs, 0, r, o, _, hh, _ => by
    have h1 : hitR x r = true := by simpa using hh
    simp [lookR, List.find?_cons, h1]
  | x :: xs, i + 1, r, o, h, hh, hm => by
    have h1 : hitR x r = false := by simpa using hm 0 (by omega)
    have := lookR_hit xs i r o (by simpa using h) (by simpa using hh) (fun k hk => by simpa using hm (k + 1) (by omega))
    simp only [lookR] at this ⊢
    simpa [List.find?_cons, h1] using this
theorem lookR_miss : ∀ (l : List S121) (r o : Int), (∀ k, k < l.length → hitR (l.getD k z121) r = false) → lookR l r o = o
  | [], _, _, _ => rfl
  | x :: xs, r, o, hm => by
    have h1 : hitR x r = false := by simpa using hm 0 (by simp)
    have := lookR_miss xs r o (fun k hk => by simpa using hm (k + 1) (by simpa using hk))
    simp only [lookR] at this ⊢
    simpa [List.find?_cons, h1] using this
def BsPost (l0 : List S121) (a1 : Int) (w : World) (e : Ending) (w' : World) : Prop :=
  ∃ (i : Nat) (b : Bool), e = .returned (.tuple #[.int .i64 i, .bool b]) ∧ (b = true → i < l0.length ∧ hitR (l0.getD i z121) a1 = true) ∧ (b = false → ∀ k, k < l0.length → hitR (l0.getD k z121) a1 = false) ∧ Below w.heap.size w w'
theorem cmpR_lt {x : S121} {r : Int} (h : x.f0 ≤ x.f1) : cmpR x r < 0 ↔ x.f1 < r := by
  unfold cmpR
  split
  · omega
  · split
    · omega
    · split <;> omega
theorem cmpR_eq {x : S121} {r : Int} (h : x.f0 ≤ x.f1) : cmpR x r = 0 ↔ hitR x r = true := by
  unfold cmpR hitR
  simp only [Bool.and_eq_true, decide_eq_true_eq]
  split
  · omega
  · split
    · omega
    · split <;> omega
theorem bs_none {l0 : List S121} {a1 : Int} {j : Nat} (ha : ascR l0 = true) (hl : ∀ k, k < j → (l0.getD k z121).f1 < a1) (hg : ∀ k, j ≤ k → k < l0.length → ¬ (l0.getD k z121).f1 < a1) (hj : hitR (l0.getD j z121) a1 = false) (k : Nat) (hk : k < l0.length) : hitR (l0.getD k z121) a1 = false := by
  by_cases h1 : k < j
  · have h2 := hl k h1
    unfold hitR
    simp only [Bool.and_eq_false_iff, decide_eq_false_iff_not]
    omega
  · by_cases h2 : k = j
    · subst h2; exact hj
    · have h3 := ascR_two l0 ha j k (by omega) hk
      have h4 := hg j (Nat.le_refl _) (by omega)
      unfold hitR
      simp only [Bool.and_eq_false_iff, decide_eq_false_iff_not]
      omega
set_option maxHeartbeats 4000000 in
set_option maxRecDepth 100000 in
theorem bs_calls (A0 : Option Addr) (c0 : Nat) (l0 : List S121) (a1 : Int) (w : World) (hr0 : Kd.C k121 w A0 l0.length l0) (hc0 : l0.length ≤ c0) (ha : ascR l0 = true) (hsz : l0.length ≤ 1000000) :
    Calls Try.prog 127 #[.slice A0 l0.length c0, .int .i64 a1, .func (.func 128) #[] #[]] w (BsPost l0 a1 w) := by
  have hu121 := Try.underlying121
  have HR0 := Aside0.mk hr0
  have HA := Aside0.mk ha
  clear hr0 ha
  go_enter Try.func127, Try.ntmps127
  go_wp2
  go_loopg [9, 10] l0.length (fun gg v9 v10 wr => ∃ i j : Nat, v9 = .int .i64 i ∧ v10 = .int .i64 j ∧ i ≤ j ∧ j ≤ l0.length ∧ j - i ≤ gg ∧ Aside0 (∀ k, k < i → (l0.getD k z121).f1 < a1) ∧ Aside0 (∀ k, j ≤ k → k < l0.length → ¬ (l0.getD k z121).f1 < a1) ∧ Aside0 (Below w.heap.size w wr))
  case atStart => exact ⟨0, l0.length, rfl, rfl, Nat.zero_le _, Nat.le_refl _, by omega, ⟨fun k hk => absurd hk (Nat.not_lt_zero _)⟩, ⟨fun k h1 h2 => absurd h2 (by omega)⟩, ⟨Below.refl _ _⟩⟩
  case round =>
    obtain ⟨i, j, rfl, rfl, hij, hj, hg, HL, HG, HB⟩ := hrel
    by_cases hlt : i < j
    · have hltz : (i : Int) < (j : Int) := by omega
      obtain ⟨m, hm⟩ : ∃ m : Nat, (m : Int) = ((i : Int) + (j : Int)) / 2 := ⟨(i + j) / 2, by omega⟩
      have hm1 : i ≤ m := by omega
      have hm2 : m < j := by omega
      have p0 : 0 ≤ ((i : Int) + (j : Int)) / 2 := by omega
      have q0 : ((i : Int) + (j : Int)) / 2 < (l0.length : Int) := by omega
      obtain ⟨ad, e0, hx0, hx1, hx2⟩ := at_T121 HR0.out (((i : Int) + (j : Int)) / 2) p0 q0
      have ht : (((i : Int) + (j : Int)) / 2).toNat = (i + j) / 2 := by omega
      rw [ht] at hx0 hx1 hx2
      clear ht
      cases e0
      replace hx0 := (HB.out.cell (World.block_lt_of_cell? w _ hx0)).trans hx0
      replace hx1 := (HB.out.cell (World.block_lt_of_cell? w _ hx1)).trans hx1
      replace hx2 := (HB.out.cell (World.block_lt_of_cell? w _ hx2)).trans hx2
      have hone := ascR_one l0 HA.out m (by omega)
      have Hrd : Aside0 (rd_T121 l0 (((i : Int) + (j : Int)) / 2) = l0.getD m z121) := ⟨by unfold rd_T121; rw [← hm, Int.toNat_natCast]⟩
      generalize hy : rd_T121 l0 (((i : Int) + (j : Int)) / 2) = y at hx0 hx1 hx2 Hrd
      have Hy := Aside0.mk (Hrd.out.symm)
      clear hy Hrd
      have hcall := fun W => impl_find_1.calls y.f0 y.f1 y.f2 a1 _ W (find_1_cmp y a1)
      by_cases hc : cmpR y a1 < 0
      · have hcB : decide (cmpR y a1 < 0) = true := decide_eq_true hc
        have Hup : Aside0 ((l0.getD m z121).f1 < a1) := ⟨by rw [Hy.out]; rw [Hy.out] at hone; exact (cmpR_lt hone).mp hc⟩
        have Hm := Aside0.mk hm
        clear hm hone hc
        have HCall := Aside0.mk hcall
        clear hcall
        go_wp2_with (go_at_call 128; refine (HCall.out _).mono ?_; rintro e w' ⟨rfl, hb⟩)
        go_roundg (gk - 1)
        case measure => omega
        case rel => exact ⟨m + 1, j, by rw [← Hm.out]; go_num, rfl, by omega, by omega, by omega, ⟨fun k hk => by
          by_cases e : k = m
          · subst e; exact Hup.out
          · have h1 := ascR_two l0 HA.out k m (by omega) (by omega)
            have h2 := ascR_one l0 HA.out m (by omega)
            have h3 := Hup.out
            omega⟩, HG, ⟨HB.out.trans (hb.mono HB.out.size)⟩⟩
      · have hcB : decide (cmpR y a1 < 0) = false := decide_eq_false hc
        have Hup : Aside0 (¬ (l0.getD m z121).f1 < a1) := ⟨by rw [Hy.out]; rw [Hy.out] at hone; exact fun h => hc ((cmpR_lt hone).mpr h)⟩
        have Hm := Aside0.mk hm
        clear hm hone hc
        have HCall := Aside0.mk hcall
        clear hcall
        go_wp2_with (go_at_call 128; refine (HCall.out _).mono ?_; rintro e w' ⟨rfl, hb⟩)
        go_roundg (gk - 1)
        case measure => omega
        case rel => exact ⟨i, m, rfl, by rw [← Hm.out], by omega, by omega, by omega, HL, ⟨fun k h1 h2 => by
          by_cases e : k = m
          · subst e; exact Hup.out
          · have h3 := ascR_two l0 HA.out m k (by omega) (by omega)
            have h4 := ascR_one l0 HA.out k (by omega)
            have h5 := Hup.out
            omega⟩, ⟨HB.out.trans (hb.mono HB.out.size)⟩⟩
    · have hltz : ¬ (i : Int) < (j : Int) := by omega
      have hji : j = i := by omega
      subst hji
      by_cases hn : j < l0.length
      · have hnz : (j : Int) < (l0.length : Int) := by omega
        obtain ⟨ad, e0, hx0, hx1, hx2⟩ := at_T121 HR0.out (j : Int) (by omega) (by omega)
        rw [Int.toNat_natCast] at hx0 hx1 hx2
        cases e0
        replace hx0 := (HB.out.cell (World.block_lt_of_cell? w _ hx0)).trans hx0
        replace hx1 := (HB.out.cell (World.block_lt_of_cell? w _ hx1)).trans hx1
        replace hx2 := (HB.out.cell (World.block_lt_of_cell? w _ hx2)).trans hx2
        have hone := ascR_one l0 HA.out j (by omega)
        have Hrd : Aside0 (rd_T121 l0 (j : Int) = l0.getD j z121) := ⟨by unfold rd_T121; rw [Int.toNat_natCast]⟩
        generalize hy : rd_T121 l0 (j : Int) = y at hx0 hx1 hx2 Hrd
        have Hy := Aside0.mk (Hrd.out.symm)
        clear hy Hrd
        have HCall := Aside0.mk (fun W => impl_find_1.calls y.f0 y.f1 y.f2 a1 _ W (find_1_cmp y a1))
        have Hone := Aside0.mk hone
        clear hone
        go_wp2_with (go_at_call 128; refine (HCall.out _).mono ?_; rintro e w' ⟨rfl, hb⟩)
        go_ret2
        refine ⟨j, (cmpR y a1 == 0), rfl, fun hb1 => ⟨hn, ?_⟩, fun hb1 k hk => ?_, HB.out.trans (hb.mono HB.out.size)⟩
        · rw [Hy.out]
          have h1 := Hone.out
          rw [Hy.out] at h1
          exact (cmpR_eq h1).mp (by simpa using hb1)
        · have h1 := Hone.out
          have h2 : ¬ cmpR y a1 = 0 := by simpa using hb1
          have h3 : ¬ hitR (l0.getD j z121) a1 = true := by rw [Hy.out]; rw [Hy.out] at h1; exact fun h => h2 ((cmpR_eq h1).mpr h)
          exact bs_none HA.out HL.out (fun k h4 h5 => by have := HG.out k h4 h5; omega) (by simpa using h3) k hk
      · have hnz : ¬ (j : Int) < (l0.length : Int) := by omega
        go_wp2
        go_ret2
        refine ⟨j, false, rfl, (fun hb1 => by cases hb1), fun _ k hk => ?_, HB.out⟩
        have h1 := HL.out k (by omega)
        unfold hitR
        simp only [Bool.and_eq_false_iff, decide_eq_false_iff_not]
        omega
def impl_find.f (l0 : List S121) (a1 : Int) (a2 : Int) : Option Int := if ascR l0 = true ∧ l0.length ≤ 1000000 then some (lookR l0 a1 a2) else none
theorem asc_hit {l0 : List S121} {a1 : Int} (ha : ascR l0 = true) {i k : Nat} (hi : i < l0.length) (hh : hitR (l0.getD i z121) a1 = true) (hk : k < i) : hitR (l0.getD k z121) a1 = false := by
  have h3 := ascR_two l0 ha k i hk hi
  unfold hitR at hh ⊢
  simp only [Bool.and_eq_true, decide_eq_true_eq] at hh
  simp only [Bool.and_eq_false_iff, decide_eq_false_iff_not]
  omega
set_option maxHeartbeats 4000000 in
set_option maxRecDepth 100000 in
theorem impl_find.calls (A0 : Option Addr) (c0 : Nat) (l0 : List S121) (a1 : Int) (a2 : Int) (r : Int) (w : World) (hr0 : Kd.C k121 w A0 l0.length l0) (hc0 : l0.length ≤ c0) (h : impl_find.f l0 a1 a2 = some r) :
    Calls Try.prog 119 #[.slice A0 l0.length c0, .int .i64 a1, .int .i64 a2] w fun e w' => e = .returned (.int .i64 r) ∧ Below w.heap.size w w' := by
  unfold impl_find.f at h
  split at h
  case isFalse => exact absurd h (by simp)
  case isTrue hs =>
  have H := Aside0.mk (Option.some.inj h)
  clear h
  obtain ⟨ha, hsz⟩ := hs
  have HC := Aside0.mk (fun W => bs_calls A0 c0 l0 a1 W)
  have HR0 := Aside0.mk hr0
  have HA := Aside0.mk ha
  have hu121 := Try.underlying121
  clear hr0 ha
  go_enter Try.func119, Try.ntmps119
  go_wp2_with (fail)
  refine (HC.out _ HR0.out hc0 HA.out hsz).mono ?_
  rintro e w' ⟨i, b, rfl, ht, hf, hb⟩
  have HT := Aside0.mk ht
  have HF := Aside0.mk hf
  clear ht hf
  cases b with
  | true =>
    obtain ⟨hi, hh⟩ := HT.out rfl
    have Hh := Aside0.mk hh
    obtain ⟨ad, e0, hx0, hx1, hx2⟩ := at_T121 HR0.out (i : Int) (by omega) (by omega)
    rw [Int.toNat_natCast] at hx0 hx1 hx2
    cases e0
    replace hx0 := (hb.cell (World.block_lt_of_cell? w _ hx0)).trans hx0
    replace hx1 := (hb.cell (World.block_lt_of_cell? w _ hx1)).trans hx1
    replace hx2 := (hb.cell (World.block_lt_of_cell? w _ hx2)).trans hx2
    have hiz : (i : Int) < (l0.length : Int) := by omega
    clear hh
    go_wp2
    go_ret
    refine ⟨?_, hb⟩
    rw [← H.out, lookR_hit l0 i a1 a2 hi Hh.out (fun k hk => asc_hit HA.out hi Hh.out hk)]
    simp [rd_T121]
  | false =>
    go_wp2
    go_ret
    refine ⟨?_, hb⟩
    rw [← H.out, lookR_miss l0 a1 a2 (HF.out (by trivial))]
    rfl


/-! ### impl_bidiReaches: function 120 -/
def impl_bidiReaches.f  : Option ((List (S121))) := some (([(⟨9, 9, 11⟩ : S121), (⟨32, 32, 12⟩ : S121), (⟨35, 37, 6⟩ : S121), (⟨43, 43, 5⟩ : S121), (⟨44, 44, 8⟩ : S121), (⟨45, 45, 5⟩ : S121), (⟨46, 47, 8⟩ : S121), (⟨48, 57, 4⟩ : S121), (⟨58, 58, 8⟩ : S121), (⟨65, 90, 1⟩ : S121), (⟨97, 122, 1⟩ : S121), (⟨173, 173, 10⟩ : S121), (⟨768, 879, 9⟩ : S121), (⟨1488, 1514, 2⟩ : S121), (⟨1569, 1610, 3⟩ : S121), (⟨1632, 1641, 7⟩ : S121), (⟨8203, 8203, 10⟩ : S121), (⟨8205, 8205, 10⟩ : S121), (⟨8234, 8234, 14⟩ : S121), (⟨8235, 8235, 15⟩ : S121), (⟨8236, 8236, 16⟩ : S121), (⟨8237, 8237, 17⟩ : S121), (⟨8238, 8238, 18⟩ : S121), (⟨8294, 8294, 19⟩ : S121), (⟨8295, 8295, 20⟩ : S121), (⟨8296, 8296, 21⟩ : S121), (⟨8297, 8297, 22⟩ : S121), (⟨19968, 40959, 1⟩ : S121)] : List (S121)))
set_option maxHeartbeats 8000000 in
set_option maxRecDepth 100000 in
theorem impl_bidiReaches.calls  (r : List (S121)) (w : World) (h : impl_bidiReaches.f  = some r) :
    Calls Try.prog 120 #[] w fun e w' => ∃ v0_ : Value, e = .returned (v0_) ∧ Kd.R k121 121 w' w.heap.size (fun _ => True) v0_ r ∧ Below w.heap.size w w' := by
  have hu121 := Try.underlying121
  have HB := Aside0.mk (Below.refl w.heap.size w)
  have H : (some (([(⟨9, 9, 11⟩ : S121), (⟨32, 32, 12⟩ : S121), (⟨35, 37, 6⟩ : S121), (⟨43, 43, 5⟩ : S121), (⟨44, 44, 8⟩ : S121), (⟨45, 45, 5⟩ : S121), (⟨46, 47, 8⟩ : S121), (⟨48, 57, 4⟩ : S121), (⟨58, 58, 8⟩ : S121), (⟨65, 90, 1⟩ : S121), (⟨97, 122, 1⟩ : S121), (⟨173, 173, 10⟩ : S121), (⟨768, 879, 9⟩ : S121), (⟨1488, 1514, 2⟩ : S121), (⟨1569, 1610, 3⟩ : S121), (⟨1632, 1641, 7⟩ : S121), (⟨8203, 8203, 10⟩ : S121), (⟨8205, 8205, 10⟩ : S121), (⟨8234, 8234, 14⟩ : S121), (⟨8235, 8235, 15⟩ : S121), (⟨8236, 8236, 16⟩ : S121), (⟨8237, 8237, 17⟩ : S121), (⟨8238, 8238, 18⟩ : S121), (⟨8294, 8294, 19⟩ : S121), (⟨8295, 8295, 20⟩ : S121), (⟨8296, 8296, 21⟩ : S121), (⟨8297, 8297, 22⟩ : S121), (⟨19968, 40959, 1⟩ : S121)] : List (S121)))) = some r := h
  clear h
  obtain ⟨y139, hy139⟩ : ∃ y_ : List (S121), y_ = (([(⟨9, 9, 11⟩ : S121), (⟨32, 32, 12⟩ : S121), (⟨35, 37, 6⟩ : S121), (⟨43, 43, 5⟩ : S121), (⟨44, 44, 8⟩ : S121), (⟨45, 45, 5⟩ : S121), (⟨46, 47, 8⟩ : S121), (⟨48, 57, 4⟩ : S121), (⟨58, 58, 8⟩ : S121), (⟨65, 90, 1⟩ : S121), (⟨97, 122, 1⟩ : S121), (⟨173, 173, 10⟩ : S121), (⟨768, 879, 9⟩ : S121), (⟨1488, 1514, 2⟩ : S121), (⟨1569, 1610, 3⟩ : S121), (⟨1632, 1641, 7⟩ : S121), (⟨8203, 8203, 10⟩ : S121), (⟨8205, 8205, 10⟩ : S121), (⟨8234, 8234, 14⟩ : S121), (⟨8235, 8235, 15⟩ : S121), (⟨8236, 8236, 16⟩ : S121), (⟨8237, 8237, 17⟩ : S121), (⟨8238, 8238, 18⟩ : S121), (⟨8294, 8294, 19⟩ : S121), (⟨8295, 8295, 20⟩ : S121), (⟨8296, 8296, 21⟩ : S121), (⟨8297, 8297, 22⟩ : S121), (⟨19968, 40959, 1⟩ : S121)] : List (S121))) := ⟨_, rfl⟩
  replace H : (some y139) = some r := by first | (rw [hy139]; with_reducible exact H) | (have H2_ := (Option.bind_some _ _).symm.trans H; rw [hy139]; with_reducible exact H2_) | (have H2_ := (Option.bind_some _ _).symm.trans H; with_reducible exact H2_) | with_reducible exact H | (rw [hy139]; exact H) | exact H
  have Ny139 := Aside0.mk hy139
  clear hy139
  obtain rfl := Option.some.inj H
  go_enter Try.func120, Try.ntmps120
  go_wp2_with (first | ((with_reducible refine gate_dst (N := 29) rfl ?_); refine Kd.R_lit k121 _ 121 ?hg (N := 29) ?hd (xs := ([(⟨9, 9, 11⟩ : S121), (⟨32, 32, 12⟩ : S121), (⟨35, 37, 6⟩ : S121), (⟨43, 43, 5⟩ : S121), (⟨44, 44, 8⟩ : S121), (⟨45, 45, 5⟩ : S121), (⟨46, 47, 8⟩ : S121), (⟨48, 57, 4⟩ : S121), (⟨58, 58, 8⟩ : S121), (⟨65, 90, 1⟩ : S121), (⟨97, 122, 1⟩ : S121), (⟨173, 173, 10⟩ : S121), (⟨768, 879, 9⟩ : S121), (⟨1488, 1514, 2⟩ : S121), (⟨1569, 1610, 3⟩ : S121), (⟨1632, 1641, 7⟩ : S121), (⟨8203, 8203, 10⟩ : S121), (⟨8205, 8205, 10⟩ : S121), (⟨8234, 8234, 14⟩ : S121), (⟨8235, 8235, 15⟩ : S121), (⟨8236, 8236, 16⟩ : S121), (⟨8237, 8237, 17⟩ : S121), (⟨8238, 8238, 18⟩ : S121), (⟨8294, 8294, 19⟩ : S121), (⟨8295, 8295, 20⟩ : S121), (⟨8296, 8296, 21⟩ : S121), (⟨8297, 8297, 22⟩ : S121), (⟨19968, 40959, 1⟩ : S121)] : List (S121))) (inner := [.int .i64 9, .int .i64 9, .int .i64 11, .int .i64 32, .int .i64 32, .int .i64 12, .int .i64 35, .int .i64 37, .int .i64 6, .int .i64 43, .int .i64 43, .int .i64 5, .int .i64 44, .int .i64 44, .int .i64 8, .int .i64 45, .int .i64 45, .int .i64 5, .int .i64 46, .int .i64 47, .int .i64 8, .int .i64 48, .int .i64 57, .int .i64 4, .int .i64 58, .int .i64 58, .int .i64 8, .int .i64 65, .int .i64 90, .int .i64 1, .int .i64 97, .int .i64 122, .int .i64 1, .int .i64 173, .int .i64 173, .int .i64 10, .int .i64 768, .int .i64 879, .int .i64 9, .int .i64 1488, .int .i64 1514, .int .i64 2, .int .i64 1569, .int .i64 1610, .int .i64 3, .int .i64 1632, .int .i64 1641, .int .i64 7, .int .i64 8203, .int .i64 8203, .int .i64 10, .int .i64 8205, .int .i64 8205, .int .i64 10, .int .i64 8234, .int .i64 8234, .int .i64 14, .int .i64 8235, .int .i64 8235, .int .i64 15, .int .i64 8236, .int .i64 8236, .int .i64 16, .int .i64 8237, .int .i64 8237, .int .i64 17, .int .i64 8238, .int .i64 8238, .int .i64 18, .int .i64 8294, .int .i64 8294, .int .i64 19, .int .i64 8295, .int .i64 8295, .int .i64 20, .int .i64 8296, .int .i64 8296, .int .i64 21, .int .i64 8297, .int .i64 8297, .int .i64 22, .int .i64 19968, .int .i64 40959, .int .i64 1]) (ok := fun _ => True) (okp := fun _ => True) ?hr ?hp (fun _ hk => hk) trivial (Below.refl _ _) (Nat.le_refl _) (by simp) ?_; (case hd => rfl); (case hg => rfl); (case hr => first | (go_simp; done) | (go_simp; rfl)); (case hp => exact (Reps.c3 (show Kd.M k121 _ _ _ (⟨9, 9, 11⟩ : S121) [.int .i64 9, .int .i64 9, .int .i64 11] from (k121_mkM _ _ _ (⟨9, 9, 11⟩ : S121) )) (Reps.c3 (show Kd.M k121 _ _ _ (⟨32, 32, 12⟩ : S121) [.int .i64 32, .int .i64 32, .int .i64 12] from (k121_mkM _ _ _ (⟨32, 32, 12⟩ : S121) )) (Reps.c3 (show Kd.M k121 _ _ _ (⟨35, 37, 6⟩ : S121) [.int .i64 35, .int .i64 37, .int .i64 6] from (k121_mkM _ _ _ (⟨35, 37, 6⟩ : S121) )) (Reps.c3 (show Kd.M k121 _ _ _ (⟨43, 43, 5⟩ : S121) [.int .i64 43, .int .i64 43, .int .i64 5] from (k121_mkM _ _ _ (⟨43, 43, 5⟩ : S121) )) (Reps.c3 (show Kd.M k121 _ _ _ (⟨44, 44, 8⟩ : S121) [.int .i64 44, .int .i64 44, .int .i64 8] from (k121_mkM _ _ _ (⟨44, 44, 8⟩ : S121) )) (Reps.c3 (show Kd.M k121 _ _ _ (⟨45, 45, 5⟩ : S121) [.int .i64 45, .int .i64 45, .int .i64 5] from (k121_mkM _ _ _ (⟨45, 45, 5⟩ : S121) )) (Reps.c3 (show Kd.M k121 _ _ _ (⟨46, 47, 8⟩ : S121) [.int .i64 46, .int .i64 47, .int .i64 8] from (k121_mkM _ _ _ (⟨46, 47, 8⟩ : S121) )) (Reps.c3 (show Kd.M k121 _ _ _ (⟨48, 57, 4⟩ : S121) [.int .i64 48, .int .i64 57, .int .i64 4] from (k121_mkM _ _ _ (⟨48, 57, 4⟩ : S121) )) (Reps.c3 (show Kd.M k121 _ _ _ (⟨58, 58, 8⟩ : S121) [.int .i64 58, .int .i64 58, .int .i64 8] from (k121_mkM _ _ _ (⟨58, 58, 8⟩ : S121) )) (Reps.c3 (show Kd.M k121 _ _ _ (⟨65, 90, 1⟩ : S121) [.int .i64 65, .int .i64 90, .int .i64 1] from (k121_mkM _ _ _ (⟨65, 90, 1⟩ : S121) )) (Reps.c3 (show Kd.M k121 _ _ _ (⟨97, 122, 1⟩ : S121) [.int .i64 97, .int .i64 122, .int .i64 1] from (k121_mkM _ _ _ (⟨97, 122, 1⟩ : S121) )) (Reps.c3 (show Kd.M k121 _ _ _ (⟨173, 173, 10⟩ : S121) [.int .i64 173, .int .i64 173, .int .i64 10] from (k121_mkM _ _ _ (⟨173, 173, 10⟩ : S121) )) (Reps.c3 (show Kd.M k121 _ _ _ (⟨768, 879, 9⟩ : S121) [.int .i64 768, .int .i64 879, .int .i64 9] from (k121_mkM _ _ _ (⟨768, 879, 9⟩ : S121) )) (Reps.c3 (show Kd.M k121 _ _ _ (⟨1488, 1514, 2⟩ : S121) [.int .i64 1488, .int .i64 1514, .int .i64 2] from (k121_mkM _ _ _ (⟨1488, 1514, 2⟩ : S121) )) (Reps.c3 (show Kd.M k121 _ _ _ (⟨1569, 1610, 3⟩ : S121) [.int .i64 1569, .int .i64 1610, .int .i64 3] from (k121_mkM _ _ _ (⟨1569, 1610, 3⟩ : S121) )) (Reps.c3 (show Kd.M k121 _ _ _ (⟨1632, 1641, 7⟩ : S121) [.int .i64 1632, .int .i64 1641, .int .i64 7] from (k121_mkM _ _ _ (⟨1632, 1641, 7⟩ : S121) )) (Reps.c3 (show Kd.M k121 _ _ _ (⟨8203, 8203, 10⟩ : S121) [.int .i64 8203, .int .i64 8203, .int .i64 10] from (k121_mkM _ _ _ (⟨8203, 8203, 10⟩ : S121) )) (Reps.c3 (show Kd.M k121 _ _ _ (⟨8205, 8205, 10⟩ : S121) [.int .i64 8205, .int .i64 8205, .int .i64 10] from (k121_mkM _ _ _ (⟨8205, 8205, 10⟩ : S121) )) (Reps.c3 (show Kd.M k121 _ _ _ (⟨8234, 8234, 14⟩ : S121) [.int .i64 8234, .int .i64 8234, .int .i64 14] from (k121_mkM _ _ _ (⟨8234, 8234, 14⟩ : S121) )) (Reps.c3 (show Kd.M k121 _ _ _ (⟨8235, 8235, 15⟩ : S121) [.int .i64 8235, .int .i64 8235, .int .i64 15] from (k121_mkM _ _ _ (⟨8235, 8235, 15⟩ : S121) )) (Reps.c3 (show Kd.M k121 _ _ _ (⟨8236, 8236, 16⟩ : S121) [.int .i64 8236, .int .i64 8236, .int .i64 16] from (k121_mkM _ _ _ (⟨8236, 8236, 16⟩ : S121) )) (Reps.c3 (show Kd.M k121 _ _ _ (⟨8237, 8237, 17⟩ : S121) [.int .i64 8237, .int .i64 8237, .int .i64 17] from (k121_mkM _ _ _ (⟨8237, 8237, 17⟩ : S121) )) (Reps.c3 (show Kd.M k121 _ _ _ (⟨8238, 8238, 18⟩ : S121) [.int .i64 8238, .int .i64 8238, .int .i64 18] from (k121_mkM _ _ _ (⟨8238, 8238, 18⟩ : S121) )) (Reps.c3 (show Kd.M k121 _ _ _ (⟨8294, 8294, 19⟩ : S121) [.int .i64 8294, .int .i64 8294, .int .i64 19] from (k121_mkM _ _ _ (⟨8294, 8294, 19⟩ : S121) )) (Reps.c3 (show Kd.M k121 _ _ _ (⟨8295, 8295, 20⟩ : S121) [.int .i64 8295, .int .i64 8295, .int .i64 20] from (k121_mkM _ _ _ (⟨8295, 8295, 20⟩ : S121) )) (Reps.c3 (show Kd.M k121 _ _ _ (⟨8296, 8296, 21⟩ : S121) [.int .i64 8296, .int .i64 8296, .int .i64 21] from (k121_mkM _ _ _ (⟨8296, 8296, 21⟩ : S121) )) (Reps.c3 (show Kd.M k121 _ _ _ (⟨8297, 8297, 22⟩ : S121) [.int .i64 8297, .int .i64 8297, .int .i64 22] from (k121_mkM _ _ _ (⟨8297, 8297, 22⟩ : S121) )) (Reps.c3 (show Kd.M k121 _ _ _ (⟨19968, 40959, 1⟩ : S121) [.int .i64 19968, .int .i64 40959, .int .i64 1] from (k121_mkM _ _ _ (⟨19968, 40959, 1⟩ : S121) )) (Reps.none _ _)))))))))))))))))))))))))))))); intro v140 w1 ho2 hb hg_ hnew_; clear hg_ hnew_; (first | rw [← Ny139.out] at ho2 | (simp only [Int.reduceToNat] at ho2; rw [← Ny139.out] at ho2)); have n0_ := Aside0.mk (Kd.R_lower ho2 (below_size (by repeat (first | (with_reducible first | exact HB.out | apply below_alloc | apply pw_below_drewN | apply below_drew1) | exact HB.out)))); have n1_ := Aside0.mk (below_step (by repeat (first | (with_reducible first | exact HB.out | apply below_alloc | apply pw_below_drewN | apply below_drew1) | exact HB.out)) hb); clear HB; have HO141 := n0_; have HB := n1_; clear n0_ n1_; clear hb ho2))
  go_ret
  exact ⟨_, by first | rfl | (simp [errW_none, errW_some] <;> rfl) | (simp [*, errW_none, errW_some] <;> rfl), by (with_reducible repeat (first | apply Kd.R_alloc | apply Kd.R_drewN | apply Kd.R_drew)); exact HO141.out, by repeat (first | (with_reducible first | exact HB.out | apply below_alloc | apply pw_below_drewN | apply below_drew1) | exact HB.out)⟩

/-! ### impl_RuneBidi: function 101 -/
def impl_RuneBidi.f (a0 : Int) : Option (Int) := (impl_bidiReaches.f).bind fun t142 => ((impl_find.f t142 a0 13).bind fun t145 => (some t145))
set_option maxHeartbeats 8000000 in
set_option maxRecDepth 100000 in
theorem impl_RuneBidi.calls (a0 : Int) (r : Int) (w : World) (h : impl_RuneBidi.f a0 = some r) :
    Calls Try.prog 101 #[.int .i64 a0] w fun e w' => e = .returned (.int .i64 r) ∧ Below w.heap.size w w' := by
  have HB := Aside0.mk (Below.refl w.heap.size w)
  have H : ((impl_bidiReaches.f).bind fun t142 => ((impl_find.f t142 a0 13).bind fun t145 => (some t145))) = some r := h
  clear h
  replace H := Option.bind_eq_some_iff.mp H
  obtain ⟨t142, A20, H⟩ := H
  replace H : ((impl_find.f t142 a0 13).bind fun t145 => (some t145)) = some r := H
  have A2 := Aside0.mk A20
  clear A20
  replace H := Option.bind_eq_some_iff.mp H
  obtain ⟨t145, A30, H⟩ := H
  replace H : (some t145) = some r := H
  have A3 := Aside0.mk A30
  clear A30
  obtain rfl := Option.some.inj H
  go_enter Try.func101, Try.ntmps101
  go_wp2_with (first | ((with_reducible refine gate_callee (f := 120) rfl ?_); refine goesL_ (some 3) rfl rfl Try.func120 (by kernel_rfl) rfl #[] rfl (by (try simp only [List.map_toArray, List.map_cons, List.map_nil]); first | done | rfl | (simp only [List.length_drop, List.length_take]; rfl)) ?_; (with_reducible refine (impl_bidiReaches.calls  t142 _ A2.out).mono ?_); rintro e w4 ⟨v143, rfl, ho0, hb⟩; refine ⟨_, rfl, ?_⟩; have n0_ := Aside0.mk (Kd.R_lower ho0 (below_size (by repeat (first | (with_reducible first | exact HB.out | apply below_alloc | apply pw_below_drewN | apply below_drew1) | exact HB.out)))); have n1_ := Aside0.mk (below_step (by repeat (first | (with_reducible first | exact HB.out | apply below_alloc | apply pw_below_drewN | apply below_drew1) | exact HB.out)) hb); clear HB; have HO144 := n0_; have HB := n1_; clear n0_ n1_; (try clear hb); (try clear hb2); (try clear hk); (try clear hi); (try clear ho0); obtain ⟨Ao5, co5, eo5⟩ := Kd.R_slice HO144.out; subst eo5) | ((with_reducible refine gate_callee (f := 119) rfl ?_); refine goesL_ (some 5) rfl rfl Try.func119 (by kernel_rfl) rfl #[.slice Ao5 t142.length co5, .int .i64 a0, .int .i64 13] rfl (by (try simp only [List.map_toArray, List.map_cons, List.map_nil]); first | done | rfl | (simp only [List.length_drop, List.length_take]; rfl)) ?_; (with_reducible refine (impl_find.calls _ _ t142 a0 13 t145 _ ?side1 ?side2 A3.out).mono ?_); (case side1 => repeat (first | exact (Kd.R_reads' HO144.out).2.2 | (with_reducible refine Kd.C_alloc ?_ _) | (with_reducible refine Kd.C_drewN ?_ _) | (with_reducible refine Kd.C_drew ?_))); (case side2 => exact (Kd.R_reads' HO144.out).2.1); rintro e w6 ⟨rfl, hb⟩; refine ⟨_, rfl, ?_⟩; have n0_ := Aside0.mk (Kd.R_below (by (with_reducible repeat (first | apply Kd.R_alloc | apply Kd.R_drewN | apply Kd.R_drew)); exact HO144.out) hb); have n1_ := Aside0.mk (below_step (by repeat (first | (with_reducible first | exact HB.out | apply below_alloc | apply pw_below_drewN | apply below_drew1) | exact HB.out)) hb); clear HO144; clear HB; have HO144 := n0_; have HB := n1_; clear n0_ n1_; (try clear hb); (try clear hb2); (try clear hk); (try clear hi)))
  go_ret
  exact ⟨by first | rfl | (simp [errW_none, errW_some] <;> rfl) | (simp [*, errW_none, errW_some] <;> rfl), by repeat (first | (with_reducible first | exact HB.out | apply below_alloc | apply pw_below_drewN | apply below_drew1) | exact HB.out)⟩

/-! ### impl_opens: function 102 -/
def impl_opens.f (a0 : Int) : Option (Bool) := if a0 = 19 then (some true) else (if a0 = 20 then (some true) else (some (a0 == 21)))
set_option maxHeartbeats 8000000 in
set_option maxRecDepth 100000 in
theorem impl_opens.calls (a0 : Int) (r : Bool) (w : World) (h : impl_opens.f a0 = some r) :
    Calls Try.prog 102 #[.int .i64 a0] w fun e w' => e = .returned (.bool r) ∧ Drawn0 w w' := by
  have H : (if a0 = 19 then (some true) else (if a0 = 20 then (some true) else (some (a0 == 21)))) = some r := h
  clear h
  by_cases c2 : a0 = 19
  · rw [if_pos c2] at H
    have c2b0 : (a0 == 19) = true := beq_iff_eq.mpr c2
    have c2b1 : (a0 != 19) = false := bne_eq_false_iff_eq.mpr c2
    clear c2
    obtain rfl := Option.some.inj H
    go_enter Try.func102, Try.ntmps102
    go_wp2
    go_ret
    exact ⟨by first | rfl | (simp; done) | (simp [*]; done), by repeat (first | exact Drawn0.refl _ | apply Drawn0.step)⟩
  · rw [if_neg c2] at H
    have c2b0 : (a0 == 19) = false := beq_eq_false_iff_ne.mpr c2
    have c2b1 : (a0 != 19) = true := bne_iff_ne.mpr c2
    by_cases c3 : a0 = 20
    · rw [if_pos c3] at H
      have c3b0 : (a0 == 20) = true := beq_iff_eq.mpr c3
      have c3b1 : (a0 != 20) = false := bne_eq_false_iff_eq.mpr c3
      clear c3
      obtain rfl := Option.some.inj H
      go_enter Try.func102, Try.ntmps102
      go_wp2
      go_ret
      exact ⟨by first | rfl | (simp; done) | (simp [*]; done), by repeat (first | exact Drawn0.refl _ | apply Drawn0.step)⟩
    · rw [if_neg c3] at H
      have c3b0 : (a0 == 20) = false := beq_eq_false_iff_ne.mpr c3
      have c3b1 : (a0 != 20) = true := bne_iff_ne.mpr c3
      obtain rfl := Option.some.inj H
      go_enter Try.func102, Try.ntmps102
      go_wp2
      go_ret
      exact ⟨by first | rfl | (simp; done) | (simp [*]; done), by repeat (first | exact Drawn0.refl _ | apply Drawn0.step)⟩

end Go.Proofs.Ytkapjhlcmicpnaa.PFnLevelBase
