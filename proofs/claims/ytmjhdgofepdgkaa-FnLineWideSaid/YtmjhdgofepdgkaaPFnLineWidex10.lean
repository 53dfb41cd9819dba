-- Written by a program of this session (wip/tools) out of the translation; its shape is that of the kit print.
import Derived.Test.YtmjhdgofepdgkaaPFnLineWidex0
import Derived.Test.YtmjhdgofepdgkaaPFnLineWidex1
import Derived.Test.YtmjhdgofepdgkaaPFnLineWidex3
import Derived.Test.YtmjhdgofepdgkaaPFnLineWidex7
import Derived.Test.YtmjhdgofepdgkaaPFnLineWidex9
namespace Go.Proofs.Ytmjhdgofepdgkaa.PFnLineWide
open Go.RowKit Go.Proofs.YtmjhdgofepdgkaaW.PrintWords Go.Proofs.YtmjhdgofepdgkaaW.PrintLast Go.Proofs.YtmjhdgofepdgkaaW.PrintMore
attribute [local go_sem] max2_int min2_int max_two min_two max_three min_three max_four min_four   -- for this text's walks alone
set_option linter.unusedVariables false
set_option linter.unusedSimpArgs false

def impl_lineWide.l0 : Nat → Int → List Int → Int → Int → Option (Int)
 | 0, _, _, _, _ => none
 | k + 1, x9, x18, x19, x20 => if x20 < x19 then (if 0 ≤ x20 then (if x20 < (x18.length : Int) then (impl_lineWide.l0 k (wrap64 (x9 + (rd x18 x20))) x18 x19 (wrap64 (x20 + 1))) else (none)) else (none)) else (some x9)
def impl_lineWide.f (k : Nat) (l0 : List Int) (l1 : List Int) (a2 : Int) (a3 : Int) : Option (Int) := (impl_body.f k l0 a2 a3).bind fun t167 => (if 0 ≤ a2 then (if a2 ≤ t167 then (if t167 ≤ (l1.length : Int) then (impl_lineWide.l0 k 0 ((l1.take (t167 : Int).toNat).drop (a2 : Int).toNat) (((l1.take (t167 : Int).toNat).drop (a2 : Int).toNat).length : Int) 0) else (none)) else (none)) else (none))
theorem impl_lineWide.mono_l : ∀ k, (∀ y0 y1 y2 y3, LeO (impl_lineWide.l0 k y0 y1 y2 y3) (impl_lineWide.l0 (k + 1) y0 y1 y2 y3))
 | 0 => fun _ _ _ _ r h => by simp [impl_lineWide.l0] at h
 | k + 1 => by
  have ih0 := impl_lineWide.mono_l k
  ·intro y0 y1 y2 y3
   unfold impl_lineWide.l0
   repeat' first
   | (with_reducible exact ih0 _ _ _ _)
   | (with_reducible exact LeO.refl _)
   | (with_reducible exact LeO.none _)
   | (with_reducible refine LeO.ite ?_ ?_)
theorem impl_lineWide.mono : ∀ a0 a1 a2 a3 k, LeO (impl_lineWide.f k a0 a1 a2 a3) (impl_lineWide.f (k + 1) a0 a1 a2 a3) := by
 intro a0 a1 a2 a3 k
 have ih0 := impl_lineWide.mono_l k
 unfold impl_lineWide.f
 repeat' first
   | (with_reducible exact ih0 _ _ _ _)
   | (with_reducible exact impl_body.mono _ _ _ _)
   | (with_reducible exact LeO.refl _)
   | (with_reducible exact LeO.none _)
   | (with_reducible refine LeO.ite ?_ ?_)
   | (with_reducible refine LeO.bind ?_ (fun _ => ?_))
set_option maxHeartbeats 8000000 in
set_option maxRecDepth 100000 in
theorem impl_lineWide.calls (k : Nat) (A0 : Option Addr) (c0 : Nat) (l0 : List Int) (A1 : Option Addr) (c1 : Nat) (l1 : List Int) (a2 : Int) (a3 : Int) (r : Int) (w : World) (hr0 : Kd.C (Kd.int .i64) w A0 l0.length l0) (hc0 : l0.length ≤ c0) (hr1 : Kd.C (Kd.int .i64) w A1 l1.length l1) (hc1 : l1.length ≤ c1) (h : impl_lineWide.f k l0 l1 a2 a3 = some r) :
  Calls Try.prog 72 #[.slice A0 l0.length c0, .slice A1 l1.length c1, .int .i64 a2, .int .i64 a3] w fun e w' => e = .returned (.int .i64 r) ∧ Below w.heap.size w w' := by
 have HR0 := Aside0.mk hr0
 have HC0 := Aside0.mk hc0
 clear hr0 hc0
 have HR1 := Aside0.mk hr1
 have HC1 := Aside0.mk hc1
 clear hr1 hc1
 unfold impl_lineWide.f at h
 obtain ⟨t167, A50, H⟩ := Option.bind_eq_some_iff.mp h
 clear h
 have A5 := Aside0.mk A50
 clear A50
 by_cases c6 : 0 ≤ a2
 ·rw [if_pos c6] at H
  by_cases c7 : a2 ≤ t167
  ·rw [if_pos c7] at H
   by_cases c8 : t167 ≤ (l1.length : Int)
   ·rw [if_pos c8] at H
    have H' := Aside0.mk H
    clear H
    go_enter Try.func72, Try.ntmps72
    go_wp2_with (go_at_call 109; refine (impl_body.calls k _ _ l0 a2 a3 t167 _ HR0.out HC0.out A5.out).mono ?_; rintro e w9 ⟨rfl, hb⟩; have HB := Aside0.mk hb; clear hb; obtain ⟨i010, hi010, _, hsz10, _⟩ := info_parts info3; obtain ⟨A10, hcut10, hA10, hC10⟩ := print_mid_of (P := Try.prog) (Value.int .i64) 0 22 3 .i64 .i64 Try.underlying22 hi010 hsz10 A1 c1 l1 a2 t167 c6 c7 c8 HC1.out; have HR168 := Aside0.mk (Kd.C_of_reads (h1 := fun _ => rfl) (hA10 _ (Kd.reads_of_C HR1.out))); clear hA10 hC10 hi010 hsz10)
    clear hcut10
    have hlen : ((l1.take (t167 : Int).toNat).drop (a2 : Int).toNat).length = t167.toNat - a2.toNat := by
     simp only [List.length_drop, List.length_take]
     omega
    have hbl : ((l1.take (t167 : Int).toNat).drop (a2 : Int).toNat).length ≤ 9223372036854775807 := HR168.out.2.1
    generalize (l1.take (t167 : Int).toNat).drop (a2 : Int).toNat = L at HR168 H' hlen hbl
    generalize t167.toNat - a2.toNat = n at hlen ⊢
    clear c6 c7 c8
    subst hlen
    go_loopg [9, 20] k (fun kq v9 v20 w' => ∃ (x9_1 : Int) (x20_1 : Int), v9 = .int .i64 x9_1 ∧ v20 = .int .i64 x20_1 ∧ Aside0 (impl_lineWide.l0 kq x9_1 L (L.length : Int) x20_1 = some r) ∧ Aside0 (Below w.heap.size w w'))
    case atStart => exact ⟨(0), (0), (by first | rfl | (simp; done)), (by first | rfl | (simp; done)), H', HB⟩
    case round =>
     clear H'
     obtain ⟨x9_1, x20_1, rfl, rfl, HA, HB⟩ := hrel
     cases gk with
     | zero => exact absurd HA.out (by simp [impl_lineWide.l0])
     | succ k1 =>
      have H := HA.out
      clear HA
      simp only [impl_lineWide.l0] at H
      by_cases c11 : x20_1 < (L.length : Int)
      ·rw [if_pos c11] at H
       have c11b0 : decide (x20_1 < (L.length : Int)) = true := decide_eq_true c11
       by_cases c12 : 0 ≤ x20_1
       ·rw [if_pos c12, if_pos c11] at H
        have H' := Aside0.mk H
        clear H
        obtain ⟨ad168, e168, hx168_0⟩ := Kd.at_int HR168.out x20_1 c12 c11
        cases e168
        replace hx168_0 := (HB.out.cell (World.block_lt_of_cell? w _ hx168_0)).trans hx168_0
        go_wp2
        go_roundg k1
        case measure => omega
        case rel => exact ⟨(wrap64 (x9_1 + (rd L x20_1))), (wrap64 (x20_1 + 1)), (by first | rfl | (congr 1; unfold wrap64; omega)), (by first | rfl | (congr 1; unfold wrap64; omega)), H', HB⟩
       ·rw [if_neg c12] at H
        exact absurd H (by simp)
      ·rw [if_neg c11] at H
       have c11b0 : decide (x20_1 < (L.length : Int)) = false := decide_eq_false c11
       obtain rfl := Option.some.inj H
       clear H
       go_wp2
       go_ret
       exact ⟨rfl, HB.out⟩
   ·rw [if_neg c8] at H
    exact absurd H (by simp)
  ·rw [if_neg c7] at H
   exact absurd H (by simp)
 ·rw [if_neg c6] at H
  exact absurd H (by simp)


/-- no width -/
def noW (x : Int) : Bool := decide (x < 0) || decide (20000 < x)
theorem impl_LineWide_1_eq (x : Int) : impl_LineWide_1.f x = some (noW x) := by
 unfold impl_LineWide_1.f impl_isWide.f noW
 by_cases h1 : x ≥ 0
 ·rw [if_pos h1, decide_eq_false (show ¬ x < 0 by omega)]
  by_cases h2 : x ≤ 20000
  ·rw [decide_eq_true h2, decide_eq_false (show ¬ 20000 < x by omega)]; rfl
  ·rw [decide_eq_false h2, decide_eq_true (show 20000 < x by omega)]; rfl
 ·rw [if_neg h1, decide_eq_true (show x < 0 by omega)]; rfl
set_option maxHeartbeats 2000000 in
theorem impl_LineWide_idx (p : Int → Bool) (hp : ∀ (x : Int) (W : World), Calls Try.prog 69 #[.int .i64 x] W fun e W' => e = .returned (.bool (p x)) ∧ Drawn0 W W')
  (A0 : Option Addr) (c0 : Nat) (l0 : List Int) (w : World) (hr0 : Kd.C (Kd.int .i64) w A0 l0.length l0) (hc0 : l0.length ≤ c0) :
  Calls Try.prog 108 #[.slice A0 l0.length c0, .func (.func 69) #[] #[]] w fun e w' => e = .returned (.int .i64 (fidx p l0 0)) ∧ Drawn0 w w' := by
 have hbig : l0.length ≤ 9223372036854775807 := hr0.2.1
 have HR0 := Aside0.mk hr0
 have HP := Aside0.mk hp
 clear hr0 hc0 hp
 go_enter Try.func108, Try.ntmps108
 go_wp2
 go_loopg [5, 8] l0.length (fun gg _ s8 wr => ∃ kk : Nat, kk ≤ l0.length ∧ l0.length - kk ≤ gg ∧ s8 = .int .i64 kk ∧ Drawn0 w wr ∧ Aside0 (∀ j, j < kk → p (l0.getD j 0) = false))
 case atStart => exact ⟨0, Nat.zero_le _, by omega, rfl, Drawn0.refl _, ⟨fun j hj => absurd hj (Nat.not_lt_zero _)⟩⟩
 case round =>
  obtain ⟨kk, hkk, hg, rfl, ⟨q, rfl⟩, A⟩ := hrel
  by_cases hlt : kk < l0.length
  ·have hltz : (kk : Int) < (l0.length : Int) := by omega
   obtain ⟨ad, e0, hcell⟩ := Kd.at_int HR0.out (kk : Int) (by omega) (by omega)
   rw [Int.toNat_natCast] at hcell
   subst e0
   generalize hy : rd l0 (kk : Int) = y at hcell
   have B : Aside0 (l0.getD kk 0 = y) := ⟨hy⟩
   clear hy
   have hcall := HP.out y
   cases hq : p y with
   | true =>
    rw [hq] at hcall
    go_wp2_with (go_at_call 69; refine (hcall _).mono ?_; rintro e w' ⟨rfl, ⟨q', rfl⟩⟩)
    go_ret
    refine ⟨?_, ⟨_, rfl⟩⟩
    rw [fidx_hit p l0 0 kk hlt (by rw [B.out]; exact hq) A.out]
    simp
   | false =>
    rw [hq] at hcall
    go_wp2_with (go_at_call 69; refine (hcall _).mono ?_; rintro e w' ⟨rfl, ⟨q', rfl⟩⟩)
    go_roundg (l0.length - (kk + 1))
    case measure => omega
    case rel =>
     refine ⟨kk + 1, by omega, by omega, by go_num, ⟨_, rfl⟩, ⟨fun j hj => ?_⟩⟩
     by_cases e : j = kk
     ·subst e
      rw [B.out]; exact hq
     ·exact A.out j (by omega)
  ·have hltz : ¬ (kk : Int) < (l0.length : Int) := by omega
   have hk : kk = l0.length := by omega
   subst hk
   go_wp2
   go_ret
   refine ⟨?_, ⟨q, rfl⟩⟩
   rw [fidx_miss p l0 0 A.out]
   rfl
set_option maxHeartbeats 1000000 in
theorem impl_LineWide_con (p : Int → Bool) (hp : ∀ (x : Int) (W : World), Calls Try.prog 69 #[.int .i64 x] W fun e W' => e = .returned (.bool (p x)) ∧ Drawn0 W W')
  (A0 : Option Addr) (c0 : Nat) (l0 : List Int) (w : World) (hr0 : Kd.C (Kd.int .i64) w A0 l0.length l0) (hc0 : l0.length ≤ c0) :
  Calls Try.prog 68 #[.slice A0 l0.length c0, .func (.func 69) #[] #[]] w fun e w' => e = .returned (.bool (l0.any p)) ∧ Drawn0 w w' := by
 rw [← fidx_nonneg p l0 0]
 have H := fun W => impl_LineWide_idx p hp A0 c0 l0 W
 have HR0 := Aside0.mk hr0
 clear hr0 hp
 have HH := Aside0.mk H
 clear H
 go_enter Try.func68, Try.ntmps68
 go_wp2_with (go_at_call 108; refine (HH.out _ HR0.out hc0).mono ?_; rintro e w' ⟨rfl, ⟨q, rfl⟩⟩)
 go_ret
 exact ⟨rfl, ⟨q, rfl⟩⟩
def impl_LineWide.f (k : Nat) (l0 : List Int) (l1 : List Int) (a2 : Int) (a3 : Int) : Option Int :=
 (impl_lettersOk.f l0).bind fun t => if t = true then (if l1.length = l0.length then (if (l1.any fun x => noW x) = true then some 0 else (impl_isLine.f (l0.length : Int) a2 a3).bind fun u => if u = true then impl_lineWide.f k l0 l1 a2 a3 else some 0) else some 0) else some 0
theorem impl_LineWide.mono : ∀ a0 a1 a2 a3 k, LeO (impl_LineWide.f k a0 a1 a2 a3) (impl_LineWide.f (k + 1) a0 a1 a2 a3) := by
 intro a0 a1 a2 a3 k
 unfold impl_LineWide.f
 repeat' first
   | (with_reducible exact impl_lineWide.mono _ _ _ _ _)
   | (with_reducible exact LeO.refl _)
   | (with_reducible refine LeO.ite ?_ ?_)
   | (with_reducible refine LeO.bind ?_ (fun _ => ?_))
set_option maxHeartbeats 2000000 in
set_option maxRecDepth 100000 in
theorem impl_LineWide.calls (k : Nat) (A0 : Option Addr) (c0 : Nat) (l0 : List Int) (A1 : Option Addr) (c1 : Nat) (l1 : List Int) (a2 : Int) (a3 : Int) (r : Int) (w : World) (hr0 : Kd.C (Kd.int .i64) w A0 l0.length l0) (hc0 : l0.length ≤ c0) (hr1 : Kd.C (Kd.int .i64) w A1 l1.length l1) (hc1 : l1.length ≤ c1) (h : impl_LineWide.f k l0 l1 a2 a3 = some r) :
  Calls Try.prog 30 #[.slice A0 l0.length c0, .slice A1 l1.length c1, .int .i64 a2, .int .i64 a3] w fun e w' => e = .returned (.int .i64 r) ∧ Below w.heap.size w w' := by
 have hbig0 : l0.length ≤ 9223372036854775807 := hr0.2.1
 have hbig1 : l1.length ≤ 9223372036854775807 := hr1.2.1
 have HR0 := Aside0.mk hr0
 have HC0 := Aside0.mk hc0
 have HR1 := Aside0.mk hr1
 have HC1 := Aside0.mk hc1
 clear hr0 hc0 hr1 hc1
 have HCON := Aside0.mk (fun W => impl_LineWide_con (fun x => noW x) (fun x W => impl_LineWide_1.calls x _ W (impl_LineWide_1_eq x)) A1 c1 l1 W)
 unfold impl_LineWide.f at h
 obtain ⟨t, ht, h'⟩ := Option.bind_eq_some_iff.mp h
 clear h
 have h := h'
 clear h'
 have HOK := Aside0.mk (fun n => impl_lettersOk.calls A0 c0 l0 t (w.drewN n) HR0.out HC0.out ht)
 clear ht
 generalize hq : (l1.any fun x => noW x) = q at h
 have Hq := Aside0.mk hq
 clear hq
 cases t with
 | false =>
  have H := Aside0.mk (Option.some.inj h)
  clear h
  go_enter Try.func30, Try.ntmps30
  go_wp2_with (first | (go_at_call 68; refine (HCON.out _ HR1.out HC1.out).mono ?_; rintro e w' ⟨rfl, ⟨q1, rfl⟩⟩; rw [Hq.out]) | (go_at_call 53; refine (HOK.out _).mono ?_; rintro e w' ⟨rfl, ⟨q2, rfl⟩⟩) | (go_at_call 71; refine (HIL.out _).mono ?_; rintro e w' ⟨rfl, ⟨q3, rfl⟩⟩) | (go_at_call 72; refine (HLW.out _).mono ?_; rintro e w' ⟨rfl, hb⟩))
  go_ret
  exact ⟨by rw [← H.out]; rfl, pw_below_drewN (Below.refl _ _) _⟩
 | true =>
  by_cases hl : l1.length = l0.length
  ·rw [if_pos rfl, if_pos hl] at h
   have hl1 : ((l1.length : Int) == (l0.length : Int)) = true := by rw [hl]; exact beq_self_eq_true _
   have hl2 : ((l1.length : Int) != (l0.length : Int)) = false := by rw [hl]; simp
   have HL := Aside0.mk hl
   clear hl
   cases q with
   | true =>
    have H := Aside0.mk (Option.some.inj h)
    clear h
    go_enter Try.func30, Try.ntmps30
    go_wp2_with (first | (go_at_call 68; refine (HCON.out _ HR1.out HC1.out).mono ?_; rintro e w' ⟨rfl, ⟨q1, rfl⟩⟩; rw [Hq.out]) | (go_at_call 53; refine (HOK.out _).mono ?_; rintro e w' ⟨rfl, ⟨q2, rfl⟩⟩) | (go_at_call 71; refine (HIL.out _).mono ?_; rintro e w' ⟨rfl, ⟨q3, rfl⟩⟩) | (go_at_call 72; refine (HLW.out _).mono ?_; rintro e w' ⟨rfl, hb⟩))
    go_ret
    exact ⟨by rw [← H.out]; rfl, pw_below_drewN (Below.refl _ _) _⟩
   | false =>
    rw [if_neg (by decide)] at h
    obtain ⟨u, hu, h'⟩ := Option.bind_eq_some_iff.mp h
    clear h
    have h := h'
    clear h'
    have HIL := Aside0.mk (fun W => impl_isLine.calls (l0.length : Int) a2 a3 u W hu)
    clear hu
    cases u with
    | false =>
     have H := Aside0.mk (Option.some.inj h)
     clear h
     go_enter Try.func30, Try.ntmps30
     go_wp2_with (first | (go_at_call 68; refine (HCON.out _ HR1.out HC1.out).mono ?_; rintro e w' ⟨rfl, ⟨q1, rfl⟩⟩; rw [Hq.out]) | (go_at_call 53; refine (HOK.out _).mono ?_; rintro e w' ⟨rfl, ⟨q2, rfl⟩⟩) | (go_at_call 71; refine (HIL.out _).mono ?_; rintro e w' ⟨rfl, ⟨q3, rfl⟩⟩) | (go_at_call 72; refine (HLW.out _).mono ?_; rintro e w' ⟨rfl, hb⟩))
     go_ret
     exact ⟨by rw [← H.out]; rfl, pw_below_drewN (Below.refl _ _) _⟩
    | true =>
     rw [if_pos rfl] at h
     have HLW := Aside0.mk (fun n => impl_lineWide.calls k A0 c0 l0 A1 c1 l1 a2 a3 r (w.drewN n) HR0.out HC0.out HR1.out HC1.out h)
     clear h
     go_enter Try.func30, Try.ntmps30
     go_wp2_with (first | (go_at_call 68; refine (HCON.out _ HR1.out HC1.out).mono ?_; rintro e w' ⟨rfl, ⟨q1, rfl⟩⟩; rw [Hq.out]) | (go_at_call 53; refine (HOK.out _).mono ?_; rintro e w' ⟨rfl, ⟨q2, rfl⟩⟩) | (go_at_call 71; refine (HIL.out _).mono ?_; rintro e w' ⟨rfl, ⟨q3, rfl⟩⟩) | (go_at_call 72; refine (HLW.out _).mono ?_; rintro e w' ⟨rfl, hb⟩))
     go_ret
     exact ⟨rfl, below_step (pw_below_drewN (Below.refl _ _) _) hb⟩
  ·rw [if_pos rfl, if_neg hl] at h
   have hl1 : ((l1.length : Int) == (l0.length : Int)) = false := beq_eq_false_iff_ne.mpr (by omega)
   have hl2 : ((l1.length : Int) != (l0.length : Int)) = true := bne_iff_ne.mpr (by omega)
   have HL := Aside0.mk hl
   clear hl
   have H := Aside0.mk (Option.some.inj h)
   clear h
   go_enter Try.func30, Try.ntmps30
   go_wp2_with (first | (go_at_call 68; refine (HCON.out _ HR1.out HC1.out).mono ?_; rintro e w' ⟨rfl, ⟨q1, rfl⟩⟩; rw [Hq.out]) | (go_at_call 53; refine (HOK.out _).mono ?_; rintro e w' ⟨rfl, ⟨q2, rfl⟩⟩) | (go_at_call 71; refine (HIL.out _).mono ?_; rintro e w' ⟨rfl, ⟨q3, rfl⟩⟩) | (go_at_call 72; refine (HLW.out _).mono ?_; rintro e w' ⟨rfl, hb⟩))
   go_ret
   exact ⟨by rw [← H.out]; rfl, pw_below_drewN (Below.refl _ _) _⟩


/-! ### spec_l1Size: function 94 -/
def spec_l1Size.f (a0 : Int) : Option (Int) := (spec_l1In.f a0 0 127).bind fun t319 => (if t319 = true then (some 1) else ((spec_l1In.f a0 128 2047).bind fun t320 => (if t320 = true then (some 2) else ((spec_l1In.f a0 55296 57343).bind fun t321 => (if t321 = true then (some 0) else ((spec_l1In.f a0 2048 65535).bind fun t322 => (if t322 = true then (some 3) else ((spec_l1In.f a0 65536 1114111).bind fun t323 => (if t323 = true then (some 4) else (some 0))))))))))
set_option maxHeartbeats 8000000 in
set_option maxRecDepth 100000 in
theorem spec_l1Size.calls (a0 : Int) (r : Int) (w : World) (h : spec_l1Size.f a0 = some r) :
  Calls Try.prog 94 #[.int .i64 a0] w fun e w' => e = .returned (.int .i64 r) ∧ Drawn0 w w' := by
 have H : ((spec_l1In.f a0 0 127).bind fun t319 => (if t319 = true then (some 1) else ((spec_l1In.f a0 128 2047).bind fun t320 => (if t320 = true then (some 2) else ((spec_l1In.f a0 55296 57343).bind fun t321 => (if t321 = true then (some 0) else ((spec_l1In.f a0 2048 65535).bind fun t322 => (if t322 = true then (some 3) else ((spec_l1In.f a0 65536 1114111).bind fun t323 => (if t323 = true then (some 4) else (some 0))))))))))) = some r := h
 clear h
 replace H := Option.bind_eq_some_iff.mp H
 obtain ⟨t319, A20, H⟩ := H
 replace H : (if t319 = true then (some 1) else ((spec_l1In.f a0 128 2047).bind fun t320 => (if t320 = true then (some 2) else ((spec_l1In.f a0 55296 57343).bind fun t321 => (if t321 = true then (some 0) else ((spec_l1In.f a0 2048 65535).bind fun t322 => (if t322 = true then (some 3) else ((spec_l1In.f a0 65536 1114111).bind fun t323 => (if t323 = true then (some 4) else (some 0)))))))))) = some r := H
 have A2 := Aside0.mk A20
 clear A20
 by_cases c3 : t319 = true
 ·subst c3
  have H1 : (some 1) = some r := by rw [if_pos rfl] at H; exact H
  clear H
  have H := H1
  clear H1
  obtain rfl := Option.some.inj H
  go_enter Try.func94, Try.ntmps94
  go_wp2_with (first | ((with_reducible refine gate_callee (f := 74) rfl ?_); refine goesL_ (some 5) rfl rfl Try.func74 (by kernel_rfl) rfl #[.int .i64 a0, .int .i64 0, .int .i64 127] rfl (by (try simp only [List.map_toArray, List.map_cons, List.map_nil]); first | done | rfl | (simp only [List.length_drop, List.length_take]; rfl)) ?_; (with_reducible refine (spec_l1In.calls a0 0 127 true _ A2.out).mono ?_); rintro e w' ⟨rfl, ⟨nd, rfl⟩⟩; refine ⟨_, rfl, ?_⟩))
  go_ret
  exact ⟨by first | rfl | (simp; done) | (simp [*]; done), by repeat (first | exact Drawn0.refl _ | apply Drawn0.step)⟩
 ·replace c3 := Bool.eq_false_iff.mpr c3
  subst c3
  have H1 : ((spec_l1In.f a0 128 2047).bind fun t320 => (if t320 = true then (some 2) else ((spec_l1In.f a0 55296 57343).bind fun t321 => (if t321 = true then (some 0) else ((spec_l1In.f a0 2048 65535).bind fun t322 => (if t322 = true then (some 3) else ((spec_l1In.f a0 65536 1114111).bind fun t323 => (if t323 = true then (some 4) else (some 0))))))))) = some r := by rw [if_neg (show ¬ (false = true) by decide)] at H; exact H
  clear H
  have H := H1
  clear H1
  replace H := Option.bind_eq_some_iff.mp H
  obtain ⟨t320, A40, H⟩ := H
  replace H : (if t320 = true then (some 2) else ((spec_l1In.f a0 55296 57343).bind fun t321 => (if t321 = true then (some 0) else ((spec_l1In.f a0 2048 65535).bind fun t322 => (if t322 = true then (some 3) else ((spec_l1In.f a0 65536 1114111).bind fun t323 => (if t323 = true then (some 4) else (some 0)))))))) = some r := H
  have A4 := Aside0.mk A40
  clear A40
  by_cases c5 : t320 = true
  ·subst c5
   have H1 : (some 2) = some r := by rw [if_pos rfl] at H; exact H
   clear H
   have H := H1
   clear H1
   obtain rfl := Option.some.inj H
   go_enter Try.func94, Try.ntmps94
   go_wp2_with (first | ((with_reducible refine gate_callee (f := 74) rfl ?_); refine goesL_ (some 5) rfl rfl Try.func74 (by kernel_rfl) rfl #[.int .i64 a0, .int .i64 0, .int .i64 127] rfl (by (try simp only [List.map_toArray, List.map_cons, List.map_nil]); first | done | rfl | (simp only [List.length_drop, List.length_take]; rfl)) ?_; (with_reducible refine (spec_l1In.calls a0 0 127 false _ A2.out).mono ?_); rintro e w' ⟨rfl, ⟨nd, rfl⟩⟩; refine ⟨_, rfl, ?_⟩) | ((with_reducible refine gate_callee (f := 74) rfl ?_); refine goesL_ (some 8) rfl rfl Try.func74 (by kernel_rfl) rfl #[.int .i64 a0, .int .i64 128, .int .i64 2047] rfl (by (try simp only [List.map_toArray, List.map_cons, List.map_nil]); first | done | rfl | (simp only [List.length_drop, List.length_take]; rfl)) ?_; (with_reducible refine (spec_l1In.calls a0 128 2047 true _ A4.out).mono ?_); rintro e w' ⟨rfl, ⟨nd, rfl⟩⟩; refine ⟨_, rfl, ?_⟩))
   go_ret
   exact ⟨by first | rfl | (simp; done) | (simp [*]; done), by repeat (first | exact Drawn0.refl _ | apply Drawn0.step)⟩
  ·replace c5 := Bool.eq_false_iff.mpr c5
   subst c5
   have H1 : ((spec_l1In.f a0 55296 57343).bind fun t321 => (if t321 = true then (some 0) else ((spec_l1In.f a0 2048 65535).bind fun t322 => (if t322 = true then (some 3) else ((spec_l1In.f a0 65536 1114111).bind fun t323 => (if t323 = true then (some 4) else (some 0))))))) = some r := by rw [if_neg (show ¬ (false = true) by decide)] at H; exact H
   clear H
   have H := H1
   clear H1
   replace H := Option.bind_eq_some_iff.mp H
   obtain ⟨t321, A60, H⟩ := H
   replace H : (if t321 = true then (some 0) else ((spec_l1In.f a0 2048 65535).bind fun t322 => (if t322 = true then (some 3) else ((spec_l1In.f a0 65536 1114111).bind fun t323 => (if t323 = true then (some 4) else (some 0)))))) = some r := H
   have A6 := Aside0.mk A60
   clear A60
   by_cases c7 : t321 = true
   ·subst c7
    have H1 : (some 0) = some r := by rw [if_pos rfl] at H; exact H
    clear H
    have H := H1
    clear H1
    obtain rfl := Option.some.inj H
    go_enter Try.func94, Try.ntmps94
    go_wp2_with (first | ((with_reducible refine gate_callee (f := 74) rfl ?_); refine goesL_ (some 5) rfl rfl Try.func74 (by kernel_rfl) rfl #[.int .i64 a0, .int .i64 0, .int .i64 127] rfl (by (try simp only [List.map_toArray, List.map_cons, List.map_nil]); first | done | rfl | (simp only [List.length_drop, List.length_take]; rfl)) ?_; (with_reducible refine (spec_l1In.calls a0 0 127 false _ A2.out).mono ?_); rintro e w' ⟨rfl, ⟨nd, rfl⟩⟩; refine ⟨_, rfl, ?_⟩) | ((with_reducible refine gate_callee (f := 74) rfl ?_); refine goesL_ (some 8) rfl rfl Try.func74 (by kernel_rfl) rfl #[.int .i64 a0, .int .i64 128, .int .i64 2047] rfl (by (try simp only [List.map_toArray, List.map_cons, List.map_nil]); first | done | rfl | (simp only [List.length_drop, List.length_take]; rfl)) ?_; (with_reducible refine (spec_l1In.calls a0 128 2047 false _ A4.out).mono ?_); rintro e w' ⟨rfl, ⟨nd, rfl⟩⟩; refine ⟨_, rfl, ?_⟩) | ((with_reducible refine gate_callee (f := 74) rfl ?_); refine goesL_ (some 11) rfl rfl Try.func74 (by kernel_rfl) rfl #[.int .i64 a0, .int .i64 55296, .int .i64 57343] rfl (by (try simp only [List.map_toArray, List.map_cons, List.map_nil]); first | done | rfl | (simp only [List.length_drop, List.length_take]; rfl)) ?_; (with_reducible refine (spec_l1In.calls a0 55296 57343 true _ A6.out).mono ?_); rintro e w' ⟨rfl, ⟨nd, rfl⟩⟩; refine ⟨_, rfl, ?_⟩))
    go_ret
    exact ⟨by first | rfl | (simp; done) | (simp [*]; done), by repeat (first | exact Drawn0.refl _ | apply Drawn0.step)⟩
   ·replace c7 := Bool.eq_false_iff.mpr c7
    subst c7
    have H1 : ((spec_l1In.f a0 2048 65535).bind fun t322 => (if t322 = true then (some 3) else ((spec_l1In.f a0 65536 1114111).bind fun t323 => (if t323 = true then (some 4) else (some 0))))) = some r := by rw [if_neg (show ¬ (false = true) by decide)] at H; exact H
    clear H
    have H := H1
    clear H1
    replace H := Option.bind_eq_some_iff.mp H
    obtain ⟨t322, A80, H⟩ := H
    replace H : (if t322 = true then (some 3) else ((spec_l1In.f a0 65536 1114111).bind fun t323 => (if t323 = true then (some 4) else (some 0)))) = some r := H
    have A8 := Aside0.mk A80
    clear A80
    by_cases c9 : t322 = true
    ·subst c9
     have H1 : (some 3) = some r := by rw [if_pos rfl] at H; exact H
     clear H
     have H := H1
     clear H1
     obtain rfl := Option.some.inj H
     go_enter Try.func94, Try.ntmps94
     go_wp2_with (first | ((with_reducible refine gate_callee (f := 74) rfl ?_); refine goesL_ (some 5) rfl rfl Try.func74 (by kernel_rfl) rfl #[.int .i64 a0, .int .i64 0, .int .i64 127] rfl (by (try simp only [List.map_toArray, List.map_cons, List.map_nil]); first | done | rfl | (simp only [List.length_drop, List.length_take]; rfl)) ?_; (with_reducible refine (spec_l1In.calls a0 0 127 false _ A2.out).mono ?_); rintro e w' ⟨rfl, ⟨nd, rfl⟩⟩; refine ⟨_, rfl, ?_⟩) | ((with_reducible refine gate_callee (f := 74) rfl ?_); refine goesL_ (some 8) rfl rfl Try.func74 (by kernel_rfl) rfl #[.int .i64 a0, .int .i64 128, .int .i64 2047] rfl (by (try simp only [List.map_toArray, List.map_cons, List.map_nil]); first | done | rfl | (simp only [List.length_drop, List.length_take]; rfl)) ?_; (with_reducible refine (spec_l1In.calls a0 128 2047 false _ A4.out).mono ?_); rintro e w' ⟨rfl, ⟨nd, rfl⟩⟩; refine ⟨_, rfl, ?_⟩) | ((with_reducible refine gate_callee (f := 74) rfl ?_); refine goesL_ (some 11) rfl rfl Try.func74 (by kernel_rfl) rfl #[.int .i64 a0, .int .i64 55296, .int .i64 57343] rfl (by (try simp only [List.map_toArray, List.map_cons, List.map_nil]); first | done | rfl | (simp only [List.length_drop, List.length_take]; rfl)) ?_; (with_reducible refine (spec_l1In.calls a0 55296 57343 false _ A6.out).mono ?_); rintro e w' ⟨rfl, ⟨nd, rfl⟩⟩; refine ⟨_, rfl, ?_⟩) | ((with_reducible refine gate_callee (f := 74) rfl ?_); refine goesL_ (some 14) rfl rfl Try.func74 (by kernel_rfl) rfl #[.int .i64 a0, .int .i64 2048, .int .i64 65535] rfl (by (try simp only [List.map_toArray, List.map_cons, List.map_nil]); first | done | rfl | (simp only [List.length_drop, List.length_take]; rfl)) ?_; (with_reducible refine (spec_l1In.calls a0 2048 65535 true _ A8.out).mono ?_); rintro e w' ⟨rfl, ⟨nd, rfl⟩⟩; refine ⟨_, rfl, ?_⟩))
     go_ret
     exact ⟨by first | rfl | (simp; done) | (simp [*]; done), by repeat (first | exact Drawn0.refl _ | apply Drawn0.step)⟩
    ·replace c9 := Bool.eq_false_iff.mpr c9
     subst c9
     have H1 : ((spec_l1In.f a0 65536 1114111).bind fun t323 => (if t323 = true then (some 4) else (some 0))) = some r := by rw [if_neg (show ¬ (false = true) by decide)] at H; exact H
     clear H
     have H := H1
     clear H1
     replace H := Option.bind_eq_some_iff.mp H
     obtain ⟨t323, A100, H⟩ := H
     replace H : (if t323 = true then (some 4) else (some 0)) = some r := H
     have A10 := Aside0.mk A100
     clear A100
     by_cases c11 : t323 = true
     ·subst c11
      have H1 : (some 4) = some r := by rw [if_pos rfl] at H; exact H
      clear H
      have H := H1
      clear H1
      obtain rfl := Option.some.inj H
      go_enter Try.func94, Try.ntmps94
      go_wp2_with (first | ((with_reducible refine gate_callee (f := 74) rfl ?_); refine goesL_ (some 5) rfl rfl Try.func74 (by kernel_rfl) rfl #[.int .i64 a0, .int .i64 0, .int .i64 127] rfl (by (try simp only [List.map_toArray, List.map_cons, List.map_nil]); first | done | rfl | (simp only [List.length_drop, List.length_take]; rfl)) ?_; (with_reducible refine (spec_l1In.calls a0 0 127 false _ A2.out).mono ?_); rintro e w' ⟨rfl, ⟨nd, rfl⟩⟩; refine ⟨_, rfl, ?_⟩) | ((with_reducible refine gate_callee (f := 74) rfl ?_); refine goesL_ (some 8) rfl rfl Try.func74 (by kernel_rfl) rfl #[.int .i64 a0, .int .i64 128, .int .i64 2047] rfl (by (try simp only [List.map_toArray, List.map_cons, List.map_nil]); first | done | rfl | (simp only [List.length_drop, List.length_take]; rfl)) ?_; (with_reducible refine (spec_l1In.calls a0 128 2047 false _ A4.out).mono ?_); rintro e w' ⟨rfl, ⟨nd, rfl⟩⟩; refine ⟨_, rfl, ?_⟩) | ((with_reducible refine gate_callee (f := 74) rfl ?_); refine goesL_ (some 11) rfl rfl Try.func74 (by kernel_rfl) rfl #[.int .i64 a0, .int .i64 55296, .int .i64 57343] rfl (by (try simp only [List.map_toArray, List.map_cons, List.map_nil]); first | done | rfl | (simp only [List.length_drop, List.length_take]; rfl)) ?_; (with_reducible refine (spec_l1In.calls a0 55296 57343 false _ A6.out).mono ?_); rintro e w' ⟨rfl, ⟨nd, rfl⟩⟩; refine ⟨_, rfl, ?_⟩) | ((with_reducible refine gate_callee (f := 74) rfl ?_); refine goesL_ (some 14) rfl rfl Try.func74 (by kernel_rfl) rfl #[.int .i64 a0, .int .i64 2048, .int .i64 65535] rfl (by (try simp only [List.map_toArray, List.map_cons, List.map_nil]); first | done | rfl | (simp only [List.length_drop, List.length_take]; rfl)) ?_; (with_reducible refine (spec_l1In.calls a0 2048 65535 false _ A8.out).mono ?_); rintro e w' ⟨rfl, ⟨nd, rfl⟩⟩; refine ⟨_, rfl, ?_⟩) | ((with_reducible refine gate_callee (f := 74) rfl ?_); refine goesL_ (some 17) rfl rfl Try.func74 (by kernel_rfl) rfl #[.int .i64 a0, .int .i64 65536, .int .i64 1114111] rfl (by (try simp only [List.map_toArray, List.map_cons, List.map_nil]); first | done | rfl | (simp only [List.length_drop, List.length_take]; rfl)) ?_; (with_reducible refine (spec_l1In.calls a0 65536 1114111 true _ A10.out).mono ?_); rintro e w' ⟨rfl, ⟨nd, rfl⟩⟩; refine ⟨_, rfl, ?_⟩))
      go_ret
      exact ⟨by first | rfl | (simp; done) | (simp [*]; done), by repeat (first | exact Drawn0.refl _ | apply Drawn0.step)⟩
     ·replace c11 := Bool.eq_false_iff.mpr c11
      subst c11
      have H1 : (some 0) = some r := by rw [if_neg (show ¬ (false = true) by decide)] at H; exact H
      clear H
      have H := H1
      clear H1
      obtain rfl := Option.some.inj H
      go_enter Try.func94, Try.ntmps94
      go_wp2_with (first | ((with_reducible refine gate_callee (f := 74) rfl ?_); refine goesL_ (some 5) rfl rfl Try.func74 (by kernel_rfl) rfl #[.int .i64 a0, .int .i64 0, .int .i64 127] rfl (by (try simp only [List.map_toArray, List.map_cons, List.map_nil]); first | done | rfl | (simp only [List.length_drop, List.length_take]; rfl)) ?_; (with_reducible refine (spec_l1In.calls a0 0 127 false _ A2.out).mono ?_); rintro e w' ⟨rfl, ⟨nd, rfl⟩⟩; refine ⟨_, rfl, ?_⟩) | ((with_reducible refine gate_callee (f := 74) rfl ?_); refine goesL_ (some 8) rfl rfl Try.func74 (by kernel_rfl) rfl #[.int .i64 a0, .int .i64 128, .int .i64 2047] rfl (by (try simp only [List.map_toArray, List.map_cons, List.map_nil]); first | done | rfl | (simp only [List.length_drop, List.length_take]; rfl)) ?_; (with_reducible refine (spec_l1In.calls a0 128 2047 false _ A4.out).mono ?_); rintro e w' ⟨rfl, ⟨nd, rfl⟩⟩; refine ⟨_, rfl, ?_⟩) | ((with_reducible refine gate_callee (f := 74) rfl ?_); refine goesL_ (some 11) rfl rfl Try.func74 (by kernel_rfl) rfl #[.int .i64 a0, .int .i64 55296, .int .i64 57343] rfl (by (try simp only [List.map_toArray, List.map_cons, List.map_nil]); first | done | rfl | (simp only [List.length_drop, List.length_take]; rfl)) ?_; (with_reducible refine (spec_l1In.calls a0 55296 57343 false _ A6.out).mono ?_); rintro e w' ⟨rfl, ⟨nd, rfl⟩⟩; refine ⟨_, rfl, ?_⟩) | ((with_reducible refine gate_callee (f := 74) rfl ?_); refine goesL_ (some 14) rfl rfl Try.func74 (by kernel_rfl) rfl #[.int .i64 a0, .int .i64 2048, .int .i64 65535] rfl (by (try simp only [List.map_toArray, List.map_cons, List.map_nil]); first | done | rfl | (simp only [List.length_drop, List.length_take]; rfl)) ?_; (with_reducible refine (spec_l1In.calls a0 2048 65535 false _ A8.out).mono ?_); rintro e w' ⟨rfl, ⟨nd, rfl⟩⟩; refine ⟨_, rfl, ?_⟩) | ((with_reducible refine gate_callee (f := 74) rfl ?_); refine goesL_ (some 17) rfl rfl Try.func74 (by kernel_rfl) rfl #[.int .i64 a0, .int .i64 65536, .int .i64 1114111] rfl (by (try simp only [List.map_toArray, List.map_cons, List.map_nil]); first | done | rfl | (simp only [List.length_drop, List.length_take]; rfl)) ?_; (with_reducible refine (spec_l1In.calls a0 65536 1114111 false _ A10.out).mono ?_); rintro e w' ⟨rfl, ⟨nd, rfl⟩⟩; refine ⟨_, rfl, ?_⟩))
      go_ret
      exact ⟨by first | rfl | (simp; done) | (simp [*]; done), by repeat (first | exact Drawn0.refl _ | apply Drawn0.step)⟩

/-! ### spec_l1Ok: function 49 -/
def spec_l1Ok.l0 : Nat → List Int → Int → Option (Bool)
 | 0, _, _ => none
 | k + 1, x0, x3 => if x3 < (x0.length : Int) then (if 0 ≤ x3 then ((spec_l1Size.f (rd x0 x3)).bind fun t325 => (if t325 = 0 then (some false) else (spec_l1Ok.l0 k x0 (wrap64 (x3 + 1))))) else (none)) else (some (decide ((x0.length : Int) ≤ 80)))
def spec_l1Ok.f (k : Nat) (l0 : List Int) : Option (Bool) := spec_l1Ok.l0 k l0 0
theorem spec_l1Ok.mono_l : ∀ k, (∀ y0 y1, LeO (spec_l1Ok.l0 k y0 y1) (spec_l1Ok.l0 (k + 1) y0 y1))
 | 0 => fun _ _ r h => by simp [spec_l1Ok.l0] at h
 | k + 1 => by
  have ih0 := spec_l1Ok.mono_l k
  ·intro y0 y1
   unfold spec_l1Ok.l0
   repeat' first
   | (with_reducible exact ih0 _ _)
   | (with_reducible exact LeO.refl _)
   | (with_reducible exact LeO.none _)
   | (with_reducible refine LeO.ite ?_ ?_)
   | (with_reducible refine LeO.bind ?_ (fun _ => ?_))
   | exact ih0 _ _
   | exact LeO.none _
   | refine LeO.ite ?_ ?_
   | refine LeO.bind ?_ (fun _ => ?_)
theorem spec_l1Ok.mono : ∀ a0 k, LeO (spec_l1Ok.f k a0) (spec_l1Ok.f (k + 1) a0) := by
 intro a0 k
 have ih0 := spec_l1Ok.mono_l k
 unfold spec_l1Ok.f
 repeat' first
   | (with_reducible exact ih0 _ _)
   | (with_reducible exact LeO.refl _)
   | (with_reducible exact LeO.none _)
   | (with_reducible refine LeO.ite ?_ ?_)
   | (with_reducible refine LeO.bind ?_ (fun _ => ?_))
   | exact ih0 _ _
   | exact LeO.none _
   | refine LeO.ite ?_ ?_
   | refine LeO.bind ?_ (fun _ => ?_)
set_option maxHeartbeats 8000000 in
set_option maxRecDepth 100000 in
theorem spec_l1Ok.calls (k : Nat) (A0 : Option Addr) (c0 : Nat) (l0 : List Int) (r : Bool) (w : World) (hr0 : Kd.C (Kd.int .i64) w A0 l0.length l0) (hc0 : l0.length ≤ c0) (h : spec_l1Ok.f k l0 = some r) :
  Calls Try.prog 49 #[.slice A0 l0.length c0] w fun e w' => e = .returned (.bool r) ∧ Drawn0 w w' := by
 have HR0 := Aside0.mk hr0
 have HC0 := Aside0.mk hc0
 clear hr0 hc0
 have H : (spec_l1Ok.l0 k l0 0) = some r := h
 clear h
 have H' := Aside0.mk H
 clear H
 go_enter Try.func49, Try.ntmps49
 go_wp2
 go_loopg [3] k (fun kq v3 w' => ∃ (x3_1 : Int), v3 = .int .i64 x3_1 ∧ Aside0 (spec_l1Ok.l0 kq l0 x3_1 = some r) ∧ Aside0 (kq ≤ k) ∧ Drawn0 w w')
 case atStart => exact ⟨(0), (by first | rfl | (simp; done) | (simp [*]; done)), H', ⟨Nat.le_refl _⟩, by repeat (first | exact Drawn0.refl _ | apply Drawn0.step)⟩
 case round =>
  clear H'
  obtain ⟨x3_1, rfl, HA, HK1, ⟨m1, rfl⟩⟩ := hrel
  cases gk with
  | zero => exact absurd HA.out (by simp [spec_l1Ok.l0])
  | succ k1 =>
   have H := HA.out
   clear HA
   simp only [spec_l1Ok.l0] at H
   by_cases c2 : x3_1 < (l0.length : Int)
   ·rw [if_pos c2] at H
    have c2b0 : decide (x3_1 < (l0.length : Int)) = true := decide_eq_true c2
    clear c2
    by_cases c3 : 0 ≤ x3_1
    ·rw [if_pos c3] at H
     have c3b0 : decide (0 ≤ x3_1) = true := decide_eq_true c3
     clear c3
     replace H := Option.bind_eq_some_iff.mp H
     obtain ⟨t325, A40, H⟩ := H
     replace H : (if t325 = 0 then (some false) else (spec_l1Ok.l0 k1 l0 (wrap64 (x3_1 + 1)))) = some r := H
     have A4 := Aside0.mk A40
     clear A40
     by_cases c5 : t325 = 0
     ·rw [if_pos c5] at H
      have c5b0 : (t325 == 0) = true := beq_iff_eq.mpr c5
      have c5b1 : (t325 != 0) = false := bne_eq_false_iff_eq.mpr c5
      clear c5
      obtain rfl := Option.some.inj H
      have p324 : 0 ≤ (x3_1 : Int) := of_decide_eq_true (by first | (with_reducible assumption) | assumption)
      have q324 : x3_1 < (l0.length : Int) := of_decide_eq_true (by first | (with_reducible assumption) | assumption)
      obtain ⟨ad324, e324, hx324_0⟩ := Kd.at_int HR0.out x3_1 p324 q324
      cases e324
      replace p324 := eq_true p324
      replace q324 := eq_true q324
      go_wp2_with (first | ((with_reducible refine gate_callee (f := 94) rfl ?_); refine goesL_ (some 14) rfl rfl Try.func94 (by kernel_rfl) rfl #[.int .i64 (rd l0 x3_1)] rfl (by (try simp only [List.map_toArray, List.map_cons, List.map_nil]); first | done | rfl | (simp only [List.length_drop, List.length_take]; rfl)) ?_; (with_reducible refine (spec_l1Size.calls (rd l0 x3_1) t325 _ A4.out).mono ?_); rintro e w' ⟨rfl, ⟨nd, rfl⟩⟩; refine ⟨_, rfl, ?_⟩))
      go_ret
      exact ⟨by first | rfl | (simp; done) | (simp [*]; done), by repeat (first | exact Drawn0.refl _ | apply Drawn0.step)⟩
     ·rw [if_neg c5] at H
      have c5b0 : (t325 == 0) = false := beq_eq_false_iff_ne.mpr c5
      have c5b1 : (t325 != 0) = true := bne_iff_ne.mpr c5
      have H' := Aside0.mk H
      clear H
      have p324 : 0 ≤ (x3_1 : Int) := of_decide_eq_true (by first | (with_reducible assumption) | assumption)
      have q324 : x3_1 < (l0.length : Int) := of_decide_eq_true (by first | (with_reducible assumption) | assumption)
      obtain ⟨ad324, e324, hx324_0⟩ := Kd.at_int HR0.out x3_1 p324 q324
      cases e324
      replace p324 := eq_true p324
      replace q324 := eq_true q324
      go_wp2_with (first | ((with_reducible refine gate_callee (f := 94) rfl ?_); refine goesL_ (some 14) rfl rfl Try.func94 (by kernel_rfl) rfl #[.int .i64 (rd l0 x3_1)] rfl (by (try simp only [List.map_toArray, List.map_cons, List.map_nil]); first | done | rfl | (simp only [List.length_drop, List.length_take]; rfl)) ?_; (with_reducible refine (spec_l1Size.calls (rd l0 x3_1) t325 _ A4.out).mono ?_); rintro e w' ⟨rfl, ⟨nd, rfl⟩⟩; refine ⟨_, rfl, ?_⟩))
      go_roundg k1
      case measure => have := HK1.out; omega
      case rel => exact ⟨(wrap64 (x3_1 + 1)), (by first | rfl | (simp; done) | (simp [*]; done)), H', ⟨by have := HK1.out; omega⟩, by repeat (first | exact Drawn0.refl _ | apply Drawn0.step)⟩
    ·rw [if_neg c3] at H
     exact absurd H (by simp)
   ·rw [if_neg c2] at H
    have c2b0 : decide (x3_1 < (l0.length : Int)) = false := decide_eq_false c2
    clear c2
    obtain rfl := Option.some.inj H
    go_wp2
    go_ret
    exact ⟨by first | rfl | (simp; done) | (simp [*]; done), by repeat (first | exact Drawn0.refl _ | apply Drawn0.step)⟩

/-! ### spec_l7Ok: function 73 -/
def spec_l7Ok.l0 : Nat → List Int → List Int → Int → Option (Bool)
 | 0, _, _, _ => none
 | k + 1, x0, x1, x5 => if x5 < (x1.length : Int) then (if 0 ≤ x5 then ((spec_l1In.f (rd x1 x5) 0 20000).bind fun t327 => (if t327 = true then (spec_l7Ok.l0 k x0 x1 (wrap64 (x5 + 1))) else (some false))) else (none)) else ((spec_l1Ok.f k x0).bind fun t328 => (if t328 = true then (some ((x1.length : Int) == (x0.length : Int))) else (some false)))
def spec_l7Ok.f (k : Nat) (l0 : List Int) (l1 : List Int) : Option (Bool) := spec_l7Ok.l0 k l0 l1 0
theorem spec_l7Ok.mono_l : ∀ k, (∀ y0 y1 y2, LeO (spec_l7Ok.l0 k y0 y1 y2) (spec_l7Ok.l0 (k + 1) y0 y1 y2))
 | 0 => fun _ _ _ r h => by simp [spec_l7Ok.l0] at h
 | k + 1 => by
  have ih0 := spec_l7Ok.mono_l k
  ·intro y0 y1 y2
   unfold spec_l7Ok.l0
   repeat' first
   | (with_reducible exact ih0 _ _ _)
   | (with_reducible exact spec_l1Ok.mono _ _)
   | (with_reducible exact LeO.refl _)
   | (with_reducible exact LeO.none _)
   | (with_reducible refine LeO.ite ?_ ?_)
   | (with_reducible refine LeO.bind ?_ (fun _ => ?_))
   | exact ih0 _ _ _
   | exact spec_l1Ok.mono _ _
   | exact LeO.none _
   | refine LeO.ite ?_ ?_
   | refine LeO.bind ?_ (fun _ => ?_)
theorem spec_l7Ok.mono : ∀ a0 a1 k, LeO (spec_l7Ok.f k a0 a1) (spec_l7Ok.f (k + 1) a0 a1) := by
 intro a0 a1 k
 have ih0 := spec_l7Ok.mono_l k
 unfold spec_l7Ok.f
 repeat' first
   | (with_reducible exact ih0 _ _ _)
   | (with_reducible exact spec_l1Ok.mono _ _)
   | (with_reducible exact LeO.refl _)
   | (with_reducible exact LeO.none _)
   | (with_reducible refine LeO.ite ?_ ?_)
   | (with_reducible refine LeO.bind ?_ (fun _ => ?_))
   | exact ih0 _ _ _
   | exact spec_l1Ok.mono _ _
   | exact LeO.none _
   | refine LeO.ite ?_ ?_
   | refine LeO.bind ?_ (fun _ => ?_)
set_option maxHeartbeats 8000000 in
set_option maxRecDepth 100000 in
theorem spec_l7Ok.calls (k : Nat) (A0 : Option Addr) (c0 : Nat) (l0 : List Int) (A1 : Option Addr) (c1 : Nat) (l1 : List Int) (r : Bool) (w : World) (hr0 : Kd.C (Kd.int .i64) w A0 l0.length l0) (hc0 : l0.length ≤ c0) (hr1 : Kd.C (Kd.int .i64) w A1 l1.length l1) (hc1 : l1.length ≤ c1) (h : spec_l7Ok.f k l0 l1 = some r) :
  Calls Try.prog 73 #[.slice A0 l0.length c0, .slice A1 l1.length c1] w fun e w' => e = .returned (.bool r) ∧ Drawn0 w w' := by
 have HR0 := Aside0.mk hr0
 have HC0 := Aside0.mk hc0
 clear hr0 hc0
 have HR1 := Aside0.mk hr1
 have HC1 := Aside0.mk hc1
 clear hr1 hc1
 have H : (spec_l7Ok.l0 k l0 l1 0) = some r := h
 clear h
 have H' := Aside0.mk H
 clear H
 go_enter Try.func73, Try.ntmps73
 go_wp2
 go_loopg [5] k (fun kq v5 w' => ∃ (x5_1 : Int), v5 = .int .i64 x5_1 ∧ Aside0 (spec_l7Ok.l0 kq l0 l1 x5_1 = some r) ∧ Aside0 (kq ≤ k) ∧ Drawn0 w w')
 case atStart => exact ⟨(0), (by first | rfl | (simp; done) | (simp [*]; done)), H', ⟨Nat.le_refl _⟩, by repeat (first | exact Drawn0.refl _ | apply Drawn0.step)⟩
 case round =>
  clear H'
  try clear c1
  try clear p2
  obtain ⟨x5_1, rfl, HA, HK1, ⟨m1, rfl⟩⟩ := hrel
  cases gk with
  | zero => exact absurd HA.out (by simp [spec_l7Ok.l0])
  | succ k1 =>
   have H := HA.out
   clear HA
   simp only [spec_l7Ok.l0] at H
   by_cases c3 : x5_1 < (l1.length : Int)
   ·rw [if_pos c3] at H
    have c3b0 : decide (x5_1 < (l1.length : Int)) = true := decide_eq_true c3
    clear c3
    by_cases c4 : 0 ≤ x5_1
    ·rw [if_pos c4] at H
     have c4b0 : decide (0 ≤ x5_1) = true := decide_eq_true c4
     clear c4
     replace H := Option.bind_eq_some_iff.mp H
     obtain ⟨t327, A50, H⟩ := H
     replace H : (if t327 = true then (spec_l7Ok.l0 k1 l0 l1 (wrap64 (x5_1 + 1))) else (some false)) = some r := H
     have A5 := Aside0.mk A50
     clear A50
     by_cases c6 : t327 = true
     ·subst c6
      have H1 : (spec_l7Ok.l0 k1 l0 l1 (wrap64 (x5_1 + 1))) = some r := by rw [if_pos rfl] at H; exact H
      clear H
      have H := H1
      clear H1
      have H' := Aside0.mk H
      clear H
      have p326 : 0 ≤ (x5_1 : Int) := of_decide_eq_true (by first | (with_reducible assumption) | assumption)
      have q326 : x5_1 < (l1.length : Int) := of_decide_eq_true (by first | (with_reducible assumption) | assumption)
      obtain ⟨ad326, e326, hx326_0⟩ := Kd.at_int HR1.out x5_1 p326 q326
      cases e326
      replace p326 := eq_true p326
      replace q326 := eq_true q326
      go_wp2_with (first | ((with_reducible refine gate_callee (f := 74) rfl ?_); refine goesL_ (some 16) rfl rfl Try.func74 (by kernel_rfl) rfl #[.int .i64 (rd l1 x5_1), .int .i64 0, .int .i64 20000] rfl (by (try simp only [List.map_toArray, List.map_cons, List.map_nil]); first | done | rfl | (simp only [List.length_drop, List.length_take]; rfl)) ?_; (with_reducible refine (spec_l1In.calls (rd l1 x5_1) 0 20000 true _ A5.out).mono ?_); rintro e w' ⟨rfl, ⟨nd, rfl⟩⟩; refine ⟨_, rfl, ?_⟩))
      go_roundg k1
      case measure => have := HK1.out; omega
      case rel => exact ⟨(wrap64 (x5_1 + 1)), (by first | rfl | (simp; done) | (simp [*]; done)), H', ⟨by have := HK1.out; omega⟩, by repeat (first | exact Drawn0.refl _ | apply Drawn0.step)⟩
     ·replace c6 := Bool.eq_false_iff.mpr c6
      subst c6
      have H1 : (some false) = some r := by rw [if_neg (show ¬ (false = true) by decide)] at H; exact H
      clear H
      have H := H1
      clear H1
      obtain rfl := Option.some.inj H
      have p326 : 0 ≤ (x5_1 : Int) := of_decide_eq_true (by first | (with_reducible assumption) | assumption)
      have q326 : x5_1 < (l1.length : Int) := of_decide_eq_true (by first | (with_reducible assumption) | assumption)
      obtain ⟨ad326, e326, hx326_0⟩ := Kd.at_int HR1.out x5_1 p326 q326
      cases e326
      replace p326 := eq_true p326
      replace q326 := eq_true q326
      go_wp2_with (first | ((with_reducible refine gate_callee (f := 74) rfl ?_); refine goesL_ (some 16) rfl rfl Try.func74 (by kernel_rfl) rfl #[.int .i64 (rd l1 x5_1), .int .i64 0, .int .i64 20000] rfl (by (try simp only [List.map_toArray, List.map_cons, List.map_nil]); first | done | rfl | (simp only [List.length_drop, List.length_take]; rfl)) ?_; (with_reducible refine (spec_l1In.calls (rd l1 x5_1) 0 20000 false _ A5.out).mono ?_); rintro e w' ⟨rfl, ⟨nd, rfl⟩⟩; refine ⟨_, rfl, ?_⟩))
      go_ret
      exact ⟨by first | rfl | (simp; done) | (simp [*]; done), by repeat (first | exact Drawn0.refl _ | apply Drawn0.step)⟩
    ·rw [if_neg c4] at H
     exact absurd H (by simp)
   ·rw [if_neg c3] at H
    have c3b0 : decide (x5_1 < (l1.length : Int)) = false := decide_eq_false c3
    clear c3
    replace H := Option.bind_eq_some_iff.mp H
    obtain ⟨t328, A70, H⟩ := H
    replace H : (if t328 = true then (some ((l1.length : Int) == (l0.length : Int))) else (some false)) = some r := H
    have A7 := Aside0.mk A70
    clear A70
    by_cases c8 : t328 = true
    ·subst c8
     have H1 : (some ((l1.length : Int) == (l0.length : Int))) = some r := by rw [if_pos rfl] at H; exact H
     clear H
     have H := H1
     clear H1
     obtain rfl := Option.some.inj H
     go_wp2_with (first | ((with_reducible refine gate_callee (f := 49) rfl ?_); refine goesL_ (some 19) rfl rfl Try.func49 (by kernel_rfl) rfl #[.slice A0 l0.length c0] rfl (by (try simp only [List.map_toArray, List.map_cons, List.map_nil]); first | done | rfl | (simp only [List.length_drop, List.length_take]; rfl)) ?_; (with_reducible refine (spec_l1Ok.calls k1 _ _ l0 true _ ?side1 ?side2 A7.out).mono ?_); (case side1 => repeat (first | exact HR0.out | (with_reducible refine Kd.C_alloc ?_ _) | (with_reducible refine Kd.C_drewN ?_ _) | (with_reducible refine Kd.C_drew ?_))); (case side2 => exact HC0.out); rintro e w' ⟨rfl, ⟨nd, rfl⟩⟩; refine ⟨_, rfl, ?_⟩))
     go_ret
     exact ⟨by first | rfl | (simp; done) | (simp [*]; done), by repeat (first | exact Drawn0.refl _ | apply Drawn0.step)⟩
    ·replace c8 := Bool.eq_false_iff.mpr c8
     subst c8
     have H1 : (some false) = some r := by rw [if_neg (show ¬ (false = true) by decide)] at H; exact H
     clear H
     have H := H1
     clear H1
     obtain rfl := Option.some.inj H
     go_wp2_with (first | ((with_reducible refine gate_callee (f := 49) rfl ?_); refine goesL_ (some 19) rfl rfl Try.func49 (by kernel_rfl) rfl #[.slice A0 l0.length c0] rfl (by (try simp only [List.map_toArray, List.map_cons, List.map_nil]); first | done | rfl | (simp only [List.length_drop, List.length_take]; rfl)) ?_; (with_reducible refine (spec_l1Ok.calls k1 _ _ l0 false _ ?side1 ?side2 A7.out).mono ?_); (case side1 => repeat (first | exact HR0.out | (with_reducible refine Kd.C_alloc ?_ _) | (with_reducible refine Kd.C_drewN ?_ _) | (with_reducible refine Kd.C_drew ?_))); (case side2 => exact HC0.out); rintro e w' ⟨rfl, ⟨nd, rfl⟩⟩; refine ⟨_, rfl, ?_⟩))
     go_ret
     exact ⟨by first | rfl | (simp; done) | (simp [*]; done), by repeat (first | exact Drawn0.refl _ | apply Drawn0.step)⟩

/-! ### spec_l7Empty: function 110 -/
def spec_l7Empty.f (k : Nat) (a0 : Int) : Option (Bool) := if a0 = 32 then (some true) else (if a0 = 10 then (some true) else ((spec_RuneWide.f k a0).bind fun t329 => (some (t329 == 0))))
theorem spec_l7Empty.mono : ∀ a0 k, LeO (spec_l7Empty.f k a0) (spec_l7Empty.f (k + 1) a0) := by
 intro a0 k
 unfold spec_l7Empty.f
 repeat' first
   | (with_reducible exact spec_RuneWide.mono _ _)
   | (with_reducible exact LeO.refl _)
   | (with_reducible exact LeO.none _)
   | (with_reducible refine LeO.ite ?_ ?_)
   | (with_reducible refine LeO.bind ?_ (fun _ => ?_))
   | exact spec_RuneWide.mono _ _
   | exact LeO.none _
   | refine LeO.ite ?_ ?_
   | refine LeO.bind ?_ (fun _ => ?_)
set_option maxHeartbeats 8000000 in
set_option maxRecDepth 100000 in
theorem spec_l7Empty.calls (k : Nat) (a0 : Int) (r : Bool) (w : World) (h : spec_l7Empty.f k a0 = some r) :
  Calls Try.prog 110 #[.int .i64 a0] w fun e w' => e = .returned (.bool r) ∧ Below w.heap.size w w' := by
 have HB := Aside0.mk (Below.refl w.heap.size w)
 have H : (if a0 = 32 then (some true) else (if a0 = 10 then (some true) else ((spec_RuneWide.f k a0).bind fun t329 => (some (t329 == 0))))) = some r := h
 clear h
 by_cases c2 : a0 = 32
 ·rw [if_pos c2] at H
  have c2b0 : (a0 == 32) = true := beq_iff_eq.mpr c2
  have c2b1 : (a0 != 32) = false := bne_eq_false_iff_eq.mpr c2
  clear c2
  obtain rfl := Option.some.inj H
  go_enter Try.func110, Try.ntmps110
  go_wp2
  go_ret
  exact ⟨by first | rfl | (simp [errW_none, errW_some] <;> rfl) | (simp [*, errW_none, errW_some] <;> rfl), by repeat (first | (with_reducible first | exact HB.out | apply below_alloc | apply pw_below_drewN | apply below_drew1) | exact HB.out)⟩
 ·rw [if_neg c2] at H
  have c2b0 : (a0 == 32) = false := beq_eq_false_iff_ne.mpr c2
  have c2b1 : (a0 != 32) = true := bne_iff_ne.mpr c2
  by_cases c3 : a0 = 10
  ·rw [if_pos c3] at H
   have c3b0 : (a0 == 10) = true := beq_iff_eq.mpr c3
   have c3b1 : (a0 != 10) = false := bne_eq_false_iff_eq.mpr c3
   clear c3
   obtain rfl := Option.some.inj H
   go_enter Try.func110, Try.ntmps110
   go_wp2
   go_ret
   exact ⟨by first | rfl | (simp [errW_none, errW_some] <;> rfl) | (simp [*, errW_none, errW_some] <;> rfl), by repeat (first | (with_reducible first | exact HB.out | apply below_alloc | apply pw_below_drewN | apply below_drew1) | exact HB.out)⟩
  ·rw [if_neg c3] at H
   have c3b0 : (a0 == 10) = false := beq_eq_false_iff_ne.mpr c3
   have c3b1 : (a0 != 10) = true := bne_iff_ne.mpr c3
   replace H := Option.bind_eq_some_iff.mp H
   obtain ⟨t329, A40, H⟩ := H
   replace H : (some (t329 == 0)) = some r := H
   have A4 := Aside0.mk A40
   clear A40
   obtain rfl := Option.some.inj H
   go_enter Try.func110, Try.ntmps110
   go_wp2_with (first | (go_at_call 125; (with_reducible refine (spec_RuneWide.calls k a0 t329 _ A4.out).mono ?_); rintro e w5 ⟨rfl, hb⟩; have n0_ := Aside0.mk (below_step (by repeat (first | (with_reducible first | exact HB.out | apply below_alloc | apply pw_below_drewN | apply below_drew1) | exact HB.out)) hb); clear HB; have HB := n0_; clear n0_; (try clear hb); (try clear hb2); (try clear hk); (try clear hi)))
   go_ret
   exact ⟨by first | rfl | (simp [errW_none, errW_some] <;> rfl) | (simp [*, errW_none, errW_some] <;> rfl), by repeat (first | (with_reducible first | exact HB.out | apply below_alloc | apply pw_below_drewN | apply below_drew1) | exact HB.out)⟩

end Go.Proofs.Ytmjhdgofepdgkaa.PFnLineWide
