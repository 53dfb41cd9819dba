-- Written by a program of this session (wip/tools) out of the translation; its shape is that of the kit print.
import Derived.Test.YtmjhdgofepdgkaaPFnExactFillCostx0
namespace Go.Proofs.Ytmjhdgofepdgkaa.PFnExactFillCost
open Go.RowKit Go.Proofs.YtmjhdgofepdgkaaW.PrintWords Go.Proofs.YtmjhdgofepdgkaaW.PrintLast Go.Proofs.YtmjhdgofepdgkaaW.PrintMore
attribute [local go_sem] zbb zcb zjb zkb zxa zya zdb zeb
set_option linter.unusedVariables false
set_option maxHeartbeats 8000000
set_option maxRecDepth 100000
set_option linter.unusedSimpArgs false
def fidx (p : Int → Bool) : List Int → Nat → Int
 | [], _ => -1
 | x :: xs, i => if p x = true then (i : Int) else fidx p xs (i + 1)
theorem fidx_nonneg (p : Int → Bool) : ∀ (l : List Int) (i : Nat), decide (0 ≤ fidx p l i) = l.any p
 | [], i => by simp [fidx]
 | x :: xs, i => by
  unfold fidx
  by_cases h : p x = true
  ·simp [h]
  ·rw [if_neg h, fidx_nonneg p xs (i + 1)]
   simp [h]
theorem fidx_hit (p : Int → Bool) : ∀ (l : List Int) (i k : Nat), k < l.length → p (l.getD k 0) = true → (∀ j, j < k → p (l.getD j 0) = false) → fidx p l i = ((i + k : Nat) : Int)
 | [], _, k, h, _, _ => absurd h (Nat.not_lt_zero _)
 | x :: xs, i, 0, _, hp, _ => by
  unfold fidx
  rw [if_pos (by simpa using hp)]
  rfl
 | x :: xs, i, k + 1, h, hp, hm => by
  unfold fidx
  rw [if_neg (by have := hm 0 (Nat.succ_pos _); simp at this; simp [this])]
  rw [fidx_hit p xs (i + 1) k (by simpa using h) (by simpa using hp) (fun j hj => by simpa using hm (j + 1) (by omega))]
  congr 1
  omega
theorem fidx_miss (p : Int → Bool) : ∀ (l : List Int) (i : Nat), (∀ j, j < l.length → p (l.getD j 0) = false) → fidx p l i = -1
 | [], _, _ => rfl
 | x :: xs, i, hm => by
  unfold fidx
  rw [if_neg (by have := hm 0 (by simp); simp at this; simp [this])]
  exact fidx_miss p xs (i + 1) (fun j hj => by simpa using hm (j + 1) (by simpa using hj))
-- NOT PRINTED: function 68 (slices_ContainsFunc_int_int)
def impl_isLetter.f (a0 : Int) : Option (Bool) := if a0 ≥ 0 then (if a0 ≤ 1114111 then (if a0 < 55296 then (some true) else (some (decide (a0 > 57343)))) else (some false)) else (some false)
theorem impl_isLetter.calls (a0 : Int) (r : Bool) (w : World) (h : impl_isLetter.f a0 = some r) :
  Calls Try.prog 100 #[.int .i64 a0] w fun e w' => e = .returned (.bool r) ∧ zm w w' := by
 have H : (if a0 ≥ 0 then (if a0 ≤ 1114111 then (if a0 < 55296 then (some true) else (some (decide (a0 > 57343)))) else (some false)) else (some false)) = some r := h
 clear h
 by_cases c2 : a0 ≥ 0
 ·rw [if_pos c2] at H
  have c2b0 : decide (0 ≤ a0) = true := decide_eq_true c2
  clear c2
  by_cases c3 : a0 ≤ 1114111
  ·rw [if_pos c3] at H
   have c3b0 : decide (a0 ≤ 1114111) = true := decide_eq_true c3
   clear c3
   by_cases c4 : a0 < 55296
   ·rw [if_pos c4] at H
    have c4b0 : decide (a0 < 55296) = true := decide_eq_true c4
    clear c4
    obtain rfl := Option.some.inj H
    go_enter Try.func100, Try.ntmps100
    go_wp2
    go_ret
    exact ⟨by first | rfl | (simp; done) | (simp [*]; done), by repeat (first | exact zm.refl _ | apply zm.step)⟩
   ·rw [if_neg c4] at H
    have c4b0 : decide (a0 < 55296) = false := decide_eq_false c4
    clear c4
    obtain rfl := Option.some.inj H
    go_enter Try.func100, Try.ntmps100
    go_wp2
    go_ret
    exact ⟨by first | rfl | (simp; done) | (simp [*]; done), by repeat (first | exact zm.refl _ | apply zm.step)⟩
  ·rw [if_neg c3] at H
   have c3b0 : decide (a0 ≤ 1114111) = false := decide_eq_false c3
   clear c3
   obtain rfl := Option.some.inj H
   go_enter Try.func100, Try.ntmps100
   go_wp2
   go_ret
   exact ⟨by first | rfl | (simp; done) | (simp [*]; done), by repeat (first | exact zm.refl _ | apply zm.step)⟩
 ·rw [if_neg c2] at H
  have c2b0 : decide (0 ≤ a0) = false := decide_eq_false c2
  clear c2
  obtain rfl := Option.some.inj H
  go_enter Try.func100, Try.ntmps100
  go_wp2
  go_ret
  exact ⟨by first | rfl | (simp; done) | (simp [*]; done), by repeat (first | exact zm.refl _ | apply zm.step)⟩
def impl_lettersOk_1.f (a0 : Int) : Option (Bool) := (impl_isLetter.f a0).bind fun t414 => (some (!t414))
theorem impl_lettersOk_1.calls (a0 : Int) (r : Bool) (w : World) (h : impl_lettersOk_1.f a0 = some r) :
  Calls Try.prog 99 #[.int .i64 a0] w fun e w' => e = .returned (.bool r) ∧ zm w w' := by
 have H : ((impl_isLetter.f a0).bind fun t414 => (some (!t414))) = some r := h
 clear h
 replace H := Option.bind_eq_some_iff.mp H
 obtain ⟨t414, A20, H⟩ := H
 replace H : (some (!t414)) = some r := H
 have A2 := za.mk A20
 clear A20
 obtain rfl := Option.some.inj H
 go_enter Try.func99, Try.ntmps99
 go_wp2_with (first | ((with_reducible refine zj (f := 100) rfl ?_); refine zgo (some 4) Try.func100 #[.int .i64 a0] rfl ?_; (with_reducible refine (impl_isLetter.calls a0 t414 _ A2.out).mono ?_); rintro e w' ⟨rfl, ⟨nd, rfl⟩⟩; refine ⟨_, rfl, ?_⟩))
 go_ret
 exact ⟨by first | rfl | (simp; done) | (simp [*]; done), by repeat (first | exact zm.refl _ | apply zm.step)⟩
def isL (x : Int) : Bool := decide (0 ≤ x) && decide (x ≤ 1114111) && (decide (x < 55296) || decide (57343 < x))
theorem isLetter_isL (x : Int) : impl_isLetter.f x = some (isL x) := by
 unfold impl_isLetter.f isL
 by_cases h1 : (0 : Int) ≤ x <;> by_cases h2 : x ≤ 1114111 <;> by_cases h3 : x < 55296 <;> by_cases h4 : 57343 < x <;> simp [h1, h2, h3, h4]
theorem impl_lettersOk_1_eq (x : Int) : impl_lettersOk_1.f x = some (!isL x) := by
 unfold impl_lettersOk_1.f
 rw [isLetter_isL]
 rfl
set_option maxHeartbeats 2000000 in
theorem impl_lettersOk_idx (p : Int → Bool) (hp : ∀ (x : Int) (W : World), Calls Try.prog 99 #[.int .i64 x] W fun e W' => e = .returned (.bool (p x)) ∧ zm W W')
  (A0 : Option Addr) (c0 : Nat) (l0 : List Int) (w : World) (hr0 : Kd.C (Kd.int .i64) w A0 l0.length l0) (hc0 : l0.length ≤ c0) :
  Calls Try.prog 108 #[.slice A0 l0.length c0, .func (.func 99) #[] #[]] w fun e w' => e = .returned (.int .i64 (fidx p l0 0)) ∧ zm w w' := by
 have hbig : l0.length ≤ 9223372036854775807 := hr0.2.1
 have HR0 := za.mk hr0
 have HP := za.mk hp
 clear hr0 hc0 hp
 go_enter Try.func108, Try.ntmps108
 go_wp2
 go_loopg [5, 8] l0.length (fun gg _ s8 wr => ∃ kk : Nat, kk ≤ l0.length ∧ l0.length - kk ≤ gg ∧ s8 = .int .i64 kk ∧ zm w wr ∧ za (∀ j, j < kk → p (l0.getD j 0) = false))
 case atStart => exact ⟨0, Nat.zero_le _, by omega, rfl, zm.refl _, ⟨fun j hj => absurd hj (Nat.not_lt_zero _)⟩⟩
 case round =>
  obtain ⟨kk, hkk, hg, rfl, ⟨q, rfl⟩, A⟩ := hrel
  by_cases hlt : kk < l0.length
  ·have hltz : (kk : Int) < (l0.length : Int) := by omega
   obtain ⟨ad, e0, hcell⟩ := Kd.zfa HR0.out (kk : Int) (by omega) (by omega)
   rw [Int.toNat_natCast] at hcell
   subst e0
   generalize hy : rd l0 (kk : Int) = y at hcell
   have B : za (l0.getD kk 0 = y) := ⟨hy⟩
   clear hy
   have hcall := HP.out y
   cases hq : p y with
   | true =>
    rw [hq] at hcall
    go_wp2_with (go_at_call 99; refine (hcall _).mono ?_; rintro e w' ⟨rfl, ⟨q', rfl⟩⟩)
    go_ret
    refine ⟨?_, ⟨_, rfl⟩⟩
    rw [fidx_hit p l0 0 kk hlt (by rw [B.out]; exact hq) A.out]
    simp
   | false =>
    rw [hq] at hcall
    go_wp2_with (go_at_call 99; refine (hcall _).mono ?_; rintro e w' ⟨rfl, ⟨q', rfl⟩⟩)
    go_roundg (l0.length - (kk + 1))
    case measure => omega
    case rel =>
     refine ⟨kk + 1, by omega, by omega, by go_num, ⟨_, rfl⟩, ⟨fun j hj => ?_⟩⟩
     by_cases e : j = kk
     ·subst e
      rw [B.out]; exact hq
     ·exact A.out j (by omega)
  ·have hltz : ¬ (kk : Int) < (l0.length : Int) := by omega
   have hk : kk = l0.length := by omega
   subst hk
   go_wp2
   go_ret
   refine ⟨?_, ⟨q, rfl⟩⟩
   rw [fidx_miss p l0 0 A.out]
   rfl
set_option maxHeartbeats 1000000 in
theorem impl_lettersOk_con (p : Int → Bool) (hp : ∀ (x : Int) (W : World), Calls Try.prog 99 #[.int .i64 x] W fun e W' => e = .returned (.bool (p x)) ∧ zm W W')
  (A0 : Option Addr) (c0 : Nat) (l0 : List Int) (w : World) (hr0 : Kd.C (Kd.int .i64) w A0 l0.length l0) (hc0 : l0.length ≤ c0) :
  Calls Try.prog 68 #[.slice A0 l0.length c0, .func (.func 99) #[] #[]] w fun e w' => e = .returned (.bool (l0.any p)) ∧ zm w w' := by
 rw [← fidx_nonneg p l0 0]
 have H := fun W => impl_lettersOk_idx p hp A0 c0 l0 W
 have HR0 := za.mk hr0
 clear hr0 hp
 have HH := za.mk H
 clear H
 go_enter Try.func68, Try.ntmps68
 go_wp2_with (go_at_call 108; refine (HH.out _ HR0.out hc0).mono ?_; rintro e w' ⟨rfl, ⟨q, rfl⟩⟩)
 go_ret
 exact ⟨rfl, ⟨q, rfl⟩⟩
def impl_lettersOk.f (l0 : List Int) : Option Bool := some (decide ((l0.length : Int) ≤ 80) && !(l0.any fun x => !isL x))
set_option maxHeartbeats 1000000 in
theorem impl_lettersOk.calls (A0 : Option Addr) (c0 : Nat) (l0 : List Int) (r : Bool) (w : World) (hr0 : Kd.C (Kd.int .i64) w A0 l0.length l0) (hc0 : l0.length ≤ c0) (h : impl_lettersOk.f l0 = some r) :
  Calls Try.prog 53 #[.slice A0 l0.length c0] w fun e w' => e = .returned (.bool r) ∧ zm w w' := by
 have H := Option.some.inj h
 clear h
 have hb := hr0.2.1
 have HC := fun W => impl_lettersOk_con (fun x => !isL x) (fun x W => impl_lettersOk_1.calls x _ W (impl_lettersOk_1_eq x)) A0 c0 l0 W
 have HR := za.mk hr0
 have HH := za.mk HC
 clear HC hr0
 generalize hq : (l0.any fun x => !isL x) = q at HH H
 have Hq := za.mk H
 clear H hq
 by_cases hl : (l0.length : Int) ≤ 80
 ·have hl1 : decide ((l0.length : Int) ≤ 80) = true := decide_eq_true hl
  have hl2 : decide (l0.length ≤ 80) = true := decide_eq_true (by omega)
  go_enter Try.func53, Try.ntmps53
  go_wp2_with (go_at_call 68; refine (HH.out _ HR.out hc0).mono ?_; rintro e w' ⟨rfl, ⟨q', rfl⟩⟩)
  go_ret
  exact ⟨by rw [← Hq.out, hl1]; rfl, ⟨_, rfl⟩⟩
 ·have hl1 : decide ((l0.length : Int) ≤ 80) = false := decide_eq_false hl
  have hl2 : decide (l0.length ≤ 80) = false := decide_eq_false (by omega)
  go_enter Try.func53, Try.ntmps53
  go_wp2
  go_ret
  exact ⟨by rw [← Hq.out, hl1]; rfl, zm.refl _⟩
def impl_spanOk.f (a0_0 : Int) (a0_1 : Int) (a0_2 : Int) (a0_3 : Int) (a1 : Int) : Option (Bool) := if a0_0 ≥ 0 then (if a0_0 < a1 then (if a0_1 > a0_0 then (if a0_1 ≤ a1 then (if a0_2 ≥ 1 then (if a0_2 ≤ 40 then (if a0_3 ≥ 0 then (some (decide (a0_3 ≤ 9))) else (some false)) else (some false)) else (some false)) else (some false)) else (some false)) else (some false)) else (some false)
theorem impl_spanOk.calls (a0_0 : Int) (a0_1 : Int) (a0_2 : Int) (a0_3 : Int) (a1 : Int) (r : Bool) (w : World) (h : impl_spanOk.f a0_0 a0_1 a0_2 a0_3 a1 = some r) :
  Calls Try.prog 101 #[.agg #[.int .i64 a0_0, .int .i64 a0_1, .int .i64 a0_2, .int .i64 a0_3], .int .i64 a1] w fun e w' => e = .returned (.bool r) ∧ Below w.heap.size w w' := by
 have hu40 := Try.underlying40
 have HB := za.mk (Below.refl w.heap.size w)
 have H : (if a0_0 ≥ 0 then (if a0_0 < a1 then (if a0_1 > a0_0 then (if a0_1 ≤ a1 then (if a0_2 ≥ 1 then (if a0_2 ≤ 40 then (if a0_3 ≥ 0 then (some (decide (a0_3 ≤ 9))) else (some false)) else (some false)) else (some false)) else (some false)) else (some false)) else (some false)) else (some false)) = some r := h
 clear h
 by_cases c3 : a0_0 ≥ 0
 ·rw [if_pos c3] at H
  have c3b0 : decide (0 ≤ a0_0) = true := decide_eq_true c3
  clear c3
  by_cases c4 : a0_0 < a1
  ·rw [if_pos c4] at H
   have c4b0 : decide (a0_0 < a1) = true := decide_eq_true c4
   clear c4
   by_cases c5 : a0_1 > a0_0
   ·rw [if_pos c5] at H
    have c5b0 : decide (a0_0 < a0_1) = true := decide_eq_true c5
    clear c5
    by_cases c6 : a0_1 ≤ a1
    ·rw [if_pos c6] at H
     have c6b0 : decide (a0_1 ≤ a1) = true := decide_eq_true c6
     clear c6
     by_cases c7 : a0_2 ≥ 1
     ·rw [if_pos c7] at H
      have c7b0 : decide (1 ≤ a0_2) = true := decide_eq_true c7
      clear c7
      by_cases c8 : a0_2 ≤ 40
      ·rw [if_pos c8] at H
       have c8b0 : decide (a0_2 ≤ 40) = true := decide_eq_true c8
       clear c8
       by_cases c9 : a0_3 ≥ 0
       ·rw [if_pos c9] at H
        have c9b0 : decide (0 ≤ a0_3) = true := decide_eq_true c9
        clear c9
        obtain rfl := Option.some.inj H
        go_enter Try.func101, Try.ntmps101
        go_wp2_with (first | ((with_reducible refine zw (N := 2) rfl ?_); refine zca ?hg (N := 2) ?hd (cs := #[.int .i64 a0_0, .int .i64 a0_1, .int .i64 a0_2, .int .i64 a0_3]) (t := 40) ?hr ?_; (case hd => rfl); (case hg => rfl); (case hr => first | (go_simp; done) | (go_simp; rfl)); intro gb415 hg w10 hbox hb; have n0_ := za.mk (zg (by repeat (first | (with_reducible first | exact HB.out | apply zc | apply zb | apply zd) | exact HB.out)) hb); have n1_ := za.mk (hbox); have n2_ := za.mk ((by rw [hg]; exact (zp (by repeat (first | (with_reducible first | exact HB.out | apply zc | apply zb | apply zd) | exact HB.out))) : w.heap.size ≤ gb415)); have n3_ := za.mk ((by rw [hg]; exact (zp (by repeat (first | (with_reducible first | exact HB.out | apply zc | apply zb | apply zd) | exact HB.out))) : w.heap.size ≤ gb415)); clear HB; have HB := n0_; have BK415 := n1_; have GW415 := n2_; have GE415 := n3_; clear n0_ n1_ n2_ n3_; clear hb hbox hg; have hcz11_0 : w10.cell? ⟨gb415, 0, none⟩ = some (.int .i64 a0_0) := (zf BK415.out 0).trans rfl; have hcz11_1 : w10.cell? ⟨gb415, 1, none⟩ = some (.int .i64 a0_1) := (zf BK415.out 1).trans rfl; have hcz11_2 : w10.cell? ⟨gb415, 2, none⟩ = some (.int .i64 a0_2) := (zf BK415.out 2).trans rfl; have hcz11_3 : w10.cell? ⟨gb415, 3, none⟩ = some (.int .i64 a0_3) := (zf BK415.out 3).trans rfl; have hfz11_0 := zl BK415.out 0; have hfz11_1 := zl BK415.out 1; have hfz11_2 := zl BK415.out 2; have hfz11_3 := zl BK415.out 3))
        go_ret
        exact ⟨by first | rfl | (simp [zh, zi] <;> rfl) | (simp [*, zh, zi] <;> rfl), by repeat (first | (with_reducible first | exact HB.out | apply zc | apply zb | apply zd | refine zu ?_ GE415.out) | exact HB.out)⟩
       ·rw [if_neg c9] at H
        have c9b0 : decide (0 ≤ a0_3) = false := decide_eq_false c9
        clear c9
        obtain rfl := Option.some.inj H
        go_enter Try.func101, Try.ntmps101
        go_wp2_with (first | ((with_reducible refine zw (N := 2) rfl ?_); refine zca ?hg (N := 2) ?hd (cs := #[.int .i64 a0_0, .int .i64 a0_1, .int .i64 a0_2, .int .i64 a0_3]) (t := 40) ?hr ?_; (case hd => rfl); (case hg => rfl); (case hr => first | (go_simp; done) | (go_simp; rfl)); intro gb415 hg w12 hbox hb; have n0_ := za.mk (zg (by repeat (first | (with_reducible first | exact HB.out | apply zc | apply zb | apply zd) | exact HB.out)) hb); have n1_ := za.mk (hbox); have n2_ := za.mk ((by rw [hg]; exact (zp (by repeat (first | (with_reducible first | exact HB.out | apply zc | apply zb | apply zd) | exact HB.out))) : w.heap.size ≤ gb415)); have n3_ := za.mk ((by rw [hg]; exact (zp (by repeat (first | (with_reducible first | exact HB.out | apply zc | apply zb | apply zd) | exact HB.out))) : w.heap.size ≤ gb415)); clear HB; have HB := n0_; have BK415 := n1_; have GW415 := n2_; have GE415 := n3_; clear n0_ n1_ n2_ n3_; clear hb hbox hg; have hcz13_0 : w12.cell? ⟨gb415, 0, none⟩ = some (.int .i64 a0_0) := (zf BK415.out 0).trans rfl; have hcz13_1 : w12.cell? ⟨gb415, 1, none⟩ = some (.int .i64 a0_1) := (zf BK415.out 1).trans rfl; have hcz13_2 : w12.cell? ⟨gb415, 2, none⟩ = some (.int .i64 a0_2) := (zf BK415.out 2).trans rfl; have hcz13_3 : w12.cell? ⟨gb415, 3, none⟩ = some (.int .i64 a0_3) := (zf BK415.out 3).trans rfl; have hfz13_0 := zl BK415.out 0; have hfz13_1 := zl BK415.out 1; have hfz13_2 := zl BK415.out 2; have hfz13_3 := zl BK415.out 3))
        go_ret
        exact ⟨by first | rfl | (simp [zh, zi] <;> rfl) | (simp [*, zh, zi] <;> rfl), by repeat (first | (with_reducible first | exact HB.out | apply zc | apply zb | apply zd | refine zu ?_ GE415.out) | exact HB.out)⟩
      ·rw [if_neg c8] at H
       have c8b0 : decide (a0_2 ≤ 40) = false := decide_eq_false c8
       clear c8
       obtain rfl := Option.some.inj H
       go_enter Try.func101, Try.ntmps101
       go_wp2_with (first | ((with_reducible refine zw (N := 2) rfl ?_); refine zca ?hg (N := 2) ?hd (cs := #[.int .i64 a0_0, .int .i64 a0_1, .int .i64 a0_2, .int .i64 a0_3]) (t := 40) ?hr ?_; (case hd => rfl); (case hg => rfl); (case hr => first | (go_simp; done) | (go_simp; rfl)); intro gb415 hg w14 hbox hb; have n0_ := za.mk (zg (by repeat (first | (with_reducible first | exact HB.out | apply zc | apply zb | apply zd) | exact HB.out)) hb); have n1_ := za.mk (hbox); have n2_ := za.mk ((by rw [hg]; exact (zp (by repeat (first | (with_reducible first | exact HB.out | apply zc | apply zb | apply zd) | exact HB.out))) : w.heap.size ≤ gb415)); have n3_ := za.mk ((by rw [hg]; exact (zp (by repeat (first | (with_reducible first | exact HB.out | apply zc | apply zb | apply zd) | exact HB.out))) : w.heap.size ≤ gb415)); clear HB; have HB := n0_; have BK415 := n1_; have GW415 := n2_; have GE415 := n3_; clear n0_ n1_ n2_ n3_; clear hb hbox hg; have hcz15_0 : w14.cell? ⟨gb415, 0, none⟩ = some (.int .i64 a0_0) := (zf BK415.out 0).trans rfl; have hcz15_1 : w14.cell? ⟨gb415, 1, none⟩ = some (.int .i64 a0_1) := (zf BK415.out 1).trans rfl; have hcz15_2 : w14.cell? ⟨gb415, 2, none⟩ = some (.int .i64 a0_2) := (zf BK415.out 2).trans rfl; have hcz15_3 : w14.cell? ⟨gb415, 3, none⟩ = some (.int .i64 a0_3) := (zf BK415.out 3).trans rfl; have hfz15_0 := zl BK415.out 0; have hfz15_1 := zl BK415.out 1; have hfz15_2 := zl BK415.out 2; have hfz15_3 := zl BK415.out 3))
       go_ret
       exact ⟨by first | rfl | (simp [zh, zi] <;> rfl) | (simp [*, zh, zi] <;> rfl), by repeat (first | (with_reducible first | exact HB.out | apply zc | apply zb | apply zd | refine zu ?_ GE415.out) | exact HB.out)⟩
     ·rw [if_neg c7] at H
      have c7b0 : decide (1 ≤ a0_2) = false := decide_eq_false c7
      clear c7
      obtain rfl := Option.some.inj H
      go_enter Try.func101, Try.ntmps101
      go_wp2_with (first | ((with_reducible refine zw (N := 2) rfl ?_); refine zca ?hg (N := 2) ?hd (cs := #[.int .i64 a0_0, .int .i64 a0_1, .int .i64 a0_2, .int .i64 a0_3]) (t := 40) ?hr ?_; (case hd => rfl); (case hg => rfl); (case hr => first | (go_simp; done) | (go_simp; rfl)); intro gb415 hg w16 hbox hb; have n0_ := za.mk (zg (by repeat (first | (with_reducible first | exact HB.out | apply zc | apply zb | apply zd) | exact HB.out)) hb); have n1_ := za.mk (hbox); have n2_ := za.mk ((by rw [hg]; exact (zp (by repeat (first | (with_reducible first | exact HB.out | apply zc | apply zb | apply zd) | exact HB.out))) : w.heap.size ≤ gb415)); have n3_ := za.mk ((by rw [hg]; exact (zp (by repeat (first | (with_reducible first | exact HB.out | apply zc | apply zb | apply zd) | exact HB.out))) : w.heap.size ≤ gb415)); clear HB; have HB := n0_; have BK415 := n1_; have GW415 := n2_; have GE415 := n3_; clear n0_ n1_ n2_ n3_; clear hb hbox hg; have hcz17_0 : w16.cell? ⟨gb415, 0, none⟩ = some (.int .i64 a0_0) := (zf BK415.out 0).trans rfl; have hcz17_1 : w16.cell? ⟨gb415, 1, none⟩ = some (.int .i64 a0_1) := (zf BK415.out 1).trans rfl; have hcz17_2 : w16.cell? ⟨gb415, 2, none⟩ = some (.int .i64 a0_2) := (zf BK415.out 2).trans rfl; have hcz17_3 : w16.cell? ⟨gb415, 3, none⟩ = some (.int .i64 a0_3) := (zf BK415.out 3).trans rfl; have hfz17_0 := zl BK415.out 0; have hfz17_1 := zl BK415.out 1; have hfz17_2 := zl BK415.out 2; have hfz17_3 := zl BK415.out 3))
      go_ret
      exact ⟨by first | rfl | (simp [zh, zi] <;> rfl) | (simp [*, zh, zi] <;> rfl), by repeat (first | (with_reducible first | exact HB.out | apply zc | apply zb | apply zd | refine zu ?_ GE415.out) | exact HB.out)⟩
    ·rw [if_neg c6] at H
     have c6b0 : decide (a0_1 ≤ a1) = false := decide_eq_false c6
     clear c6
     obtain rfl := Option.some.inj H
     go_enter Try.func101, Try.ntmps101
     go_wp2_with (first | ((with_reducible refine zw (N := 2) rfl ?_); refine zca ?hg (N := 2) ?hd (cs := #[.int .i64 a0_0, .int .i64 a0_1, .int .i64 a0_2, .int .i64 a0_3]) (t := 40) ?hr ?_; (case hd => rfl); (case hg => rfl); (case hr => first | (go_simp; done) | (go_simp; rfl)); intro gb415 hg w18 hbox hb; have n0_ := za.mk (zg (by repeat (first | (with_reducible first | exact HB.out | apply zc | apply zb | apply zd) | exact HB.out)) hb); have n1_ := za.mk (hbox); have n2_ := za.mk ((by rw [hg]; exact (zp (by repeat (first | (with_reducible first | exact HB.out | apply zc | apply zb | apply zd) | exact HB.out))) : w.heap.size ≤ gb415)); have n3_ := za.mk ((by rw [hg]; exact (zp (by repeat (first | (with_reducible first | exact HB.out | apply zc | apply zb | apply zd) | exact HB.out))) : w.heap.size ≤ gb415)); clear HB; have HB := n0_; have BK415 := n1_; have GW415 := n2_; have GE415 := n3_; clear n0_ n1_ n2_ n3_; clear hb hbox hg; have hcz19_0 : w18.cell? ⟨gb415, 0, none⟩ = some (.int .i64 a0_0) := (zf BK415.out 0).trans rfl; have hcz19_1 : w18.cell? ⟨gb415, 1, none⟩ = some (.int .i64 a0_1) := (zf BK415.out 1).trans rfl; have hcz19_2 : w18.cell? ⟨gb415, 2, none⟩ = some (.int .i64 a0_2) := (zf BK415.out 2).trans rfl; have hcz19_3 : w18.cell? ⟨gb415, 3, none⟩ = some (.int .i64 a0_3) := (zf BK415.out 3).trans rfl; have hfz19_0 := zl BK415.out 0; have hfz19_1 := zl BK415.out 1; have hfz19_2 := zl BK415.out 2; have hfz19_3 := zl BK415.out 3))
     go_ret
     exact ⟨by first | rfl | (simp [zh, zi] <;> rfl) | (simp [*, zh, zi] <;> rfl), by repeat (first | (with_reducible first | exact HB.out | apply zc | apply zb | apply zd | refine zu ?_ GE415.out) | exact HB.out)⟩
   ·rw [if_neg c5] at H
    have c5b0 : decide (a0_0 < a0_1) = false := decide_eq_false c5
    clear c5
    obtain rfl := Option.some.inj H
    go_enter Try.func101, Try.ntmps101
    go_wp2_with (first | ((with_reducible refine zw (N := 2) rfl ?_); refine zca ?hg (N := 2) ?hd (cs := #[.int .i64 a0_0, .int .i64 a0_1, .int .i64 a0_2, .int .i64 a0_3]) (t := 40) ?hr ?_; (case hd => rfl); (case hg => rfl); (case hr => first | (go_simp; done) | (go_simp; rfl)); intro gb415 hg w20 hbox hb; have n0_ := za.mk (zg (by repeat (first | (with_reducible first | exact HB.out | apply zc | apply zb | apply zd) | exact HB.out)) hb); have n1_ := za.mk (hbox); have n2_ := za.mk ((by rw [hg]; exact (zp (by repeat (first | (with_reducible first | exact HB.out | apply zc | apply zb | apply zd) | exact HB.out))) : w.heap.size ≤ gb415)); have n3_ := za.mk ((by rw [hg]; exact (zp (by repeat (first | (with_reducible first | exact HB.out | apply zc | apply zb | apply zd) | exact HB.out))) : w.heap.size ≤ gb415)); clear HB; have HB := n0_; have BK415 := n1_; have GW415 := n2_; have GE415 := n3_; clear n0_ n1_ n2_ n3_; clear hb hbox hg; have hcz21_0 : w20.cell? ⟨gb415, 0, none⟩ = some (.int .i64 a0_0) := (zf BK415.out 0).trans rfl; have hcz21_1 : w20.cell? ⟨gb415, 1, none⟩ = some (.int .i64 a0_1) := (zf BK415.out 1).trans rfl; have hcz21_2 : w20.cell? ⟨gb415, 2, none⟩ = some (.int .i64 a0_2) := (zf BK415.out 2).trans rfl; have hcz21_3 : w20.cell? ⟨gb415, 3, none⟩ = some (.int .i64 a0_3) := (zf BK415.out 3).trans rfl; have hfz21_0 := zl BK415.out 0; have hfz21_1 := zl BK415.out 1; have hfz21_2 := zl BK415.out 2; have hfz21_3 := zl BK415.out 3))
    go_ret
    exact ⟨by first | rfl | (simp [zh, zi] <;> rfl) | (simp [*, zh, zi] <;> rfl), by repeat (first | (with_reducible first | exact HB.out | apply zc | apply zb | apply zd | refine zu ?_ GE415.out) | exact HB.out)⟩
  ·rw [if_neg c4] at H
   have c4b0 : decide (a0_0 < a1) = false := decide_eq_false c4
   clear c4
   obtain rfl := Option.some.inj H
   go_enter Try.func101, Try.ntmps101
   go_wp2_with (first | ((with_reducible refine zw (N := 2) rfl ?_); refine zca ?hg (N := 2) ?hd (cs := #[.int .i64 a0_0, .int .i64 a0_1, .int .i64 a0_2, .int .i64 a0_3]) (t := 40) ?hr ?_; (case hd => rfl); (case hg => rfl); (case hr => first | (go_simp; done) | (go_simp; rfl)); intro gb415 hg w22 hbox hb; have n0_ := za.mk (zg (by repeat (first | (with_reducible first | exact HB.out | apply zc | apply zb | apply zd) | exact HB.out)) hb); have n1_ := za.mk (hbox); have n2_ := za.mk ((by rw [hg]; exact (zp (by repeat (first | (with_reducible first | exact HB.out | apply zc | apply zb | apply zd) | exact HB.out))) : w.heap.size ≤ gb415)); have n3_ := za.mk ((by rw [hg]; exact (zp (by repeat (first | (with_reducible first | exact HB.out | apply zc | apply zb | apply zd) | exact HB.out))) : w.heap.size ≤ gb415)); clear HB; have HB := n0_; have BK415 := n1_; have GW415 := n2_; have GE415 := n3_; clear n0_ n1_ n2_ n3_; clear hb hbox hg; have hcz23_0 : w22.cell? ⟨gb415, 0, none⟩ = some (.int .i64 a0_0) := (zf BK415.out 0).trans rfl; have hcz23_1 : w22.cell? ⟨gb415, 1, none⟩ = some (.int .i64 a0_1) := (zf BK415.out 1).trans rfl; have hcz23_2 : w22.cell? ⟨gb415, 2, none⟩ = some (.int .i64 a0_2) := (zf BK415.out 2).trans rfl; have hcz23_3 : w22.cell? ⟨gb415, 3, none⟩ = some (.int .i64 a0_3) := (zf BK415.out 3).trans rfl; have hfz23_0 := zl BK415.out 0; have hfz23_1 := zl BK415.out 1; have hfz23_2 := zl BK415.out 2; have hfz23_3 := zl BK415.out 3))
   go_ret
   exact ⟨by first | rfl | (simp [zh, zi] <;> rfl) | (simp [*, zh, zi] <;> rfl), by repeat (first | (with_reducible first | exact HB.out | apply zc | apply zb | apply zd | refine zu ?_ GE415.out) | exact HB.out)⟩
 ·rw [if_neg c3] at H
  have c3b0 : decide (0 ≤ a0_0) = false := decide_eq_false c3
  clear c3
  obtain rfl := Option.some.inj H
  go_enter Try.func101, Try.ntmps101
  go_wp2_with (first | ((with_reducible refine zw (N := 2) rfl ?_); refine zca ?hg (N := 2) ?hd (cs := #[.int .i64 a0_0, .int .i64 a0_1, .int .i64 a0_2, .int .i64 a0_3]) (t := 40) ?hr ?_; (case hd => rfl); (case hg => rfl); (case hr => first | (go_simp; done) | (go_simp; rfl)); intro gb415 hg w24 hbox hb; have n0_ := za.mk (zg (by repeat (first | (with_reducible first | exact HB.out | apply zc | apply zb | apply zd) | exact HB.out)) hb); have n1_ := za.mk (hbox); have n2_ := za.mk ((by rw [hg]; exact (zp (by repeat (first | (with_reducible first | exact HB.out | apply zc | apply zb | apply zd) | exact HB.out))) : w.heap.size ≤ gb415)); have n3_ := za.mk ((by rw [hg]; exact (zp (by repeat (first | (with_reducible first | exact HB.out | apply zc | apply zb | apply zd) | exact HB.out))) : w.heap.size ≤ gb415)); clear HB; have HB := n0_; have BK415 := n1_; have GW415 := n2_; have GE415 := n3_; clear n0_ n1_ n2_ n3_; clear hb hbox hg; have hcz25_0 : w24.cell? ⟨gb415, 0, none⟩ = some (.int .i64 a0_0) := (zf BK415.out 0).trans rfl; have hcz25_1 : w24.cell? ⟨gb415, 1, none⟩ = some (.int .i64 a0_1) := (zf BK415.out 1).trans rfl; have hcz25_2 : w24.cell? ⟨gb415, 2, none⟩ = some (.int .i64 a0_2) := (zf BK415.out 2).trans rfl; have hcz25_3 : w24.cell? ⟨gb415, 3, none⟩ = some (.int .i64 a0_3) := (zf BK415.out 3).trans rfl; have hfz25_0 := zl BK415.out 0; have hfz25_1 := zl BK415.out 1; have hfz25_2 := zl BK415.out 2; have hfz25_3 := zl BK415.out 3))
  go_ret
  exact ⟨by first | rfl | (simp [zh, zi] <;> rfl) | (simp [*, zh, zi] <;> rfl), by repeat (first | (with_reducible first | exact HB.out | apply zc | apply zb | apply zd | refine zu ?_ GE415.out) | exact HB.out)⟩
end Go.Proofs.Ytmjhdgofepdgkaa.PFnExactFillCost
