-- Written by a program of this session (wip/tools) out of the translation; its shape is that of the kit print.
import Derived.Test.YtmjhdgofepdgkaaPFnExactFillCostx0
import Derived.Test.YtmjhdgofepdgkaaPFnExactFillCostx13
namespace Go.Proofs.Ytmjhdgofepdgkaa.PFnExactFillCost
open Go.RowKit Go.Proofs.YtmjhdgofepdgkaaW.PrintWords Go.Proofs.YtmjhdgofepdgkaaW.PrintLast Go.Proofs.YtmjhdgofepdgkaaW.PrintMore
attribute [local go_sem] zbb zcb zjb zkb zxa zya zdb zeb
set_option linter.unusedVariables false
set_option maxHeartbeats 8000000
set_option maxRecDepth 100000
set_option linter.unusedSimpArgs false
def impl_find_1.f (a0_0 : Int) (a0_1 : Int) (a0_2 : Int) (a1 : Int) : Option (Int) := if a1 ≥ a0_0 then (if a1 ≤ a0_1 then (some 0) else ((cmp_Compare_int.f a0_0 a1).bind fun t297 => (some t297))) else ((cmp_Compare_int.f a0_0 a1).bind fun t298 => (some t298))
theorem impl_find_1.calls (a0_0 : Int) (a0_1 : Int) (a0_2 : Int) (a1 : Int) (r : Int) (w : World) (h : impl_find_1.f a0_0 a0_1 a0_2 a1 = some r) :
  Calls Try.prog 164 #[.agg #[.int .i64 a0_0, .int .i64 a0_1, .int .i64 a0_2], .int .i64 a1] w fun e w' => e = .returned (.int .i64 r) ∧ Below w.heap.size w w' := by
 have hu129 := Try.underlying129
 have HB := za.mk (Below.refl w.heap.size w)
 have H : (if a1 ≥ a0_0 then (if a1 ≤ a0_1 then (some 0) else ((cmp_Compare_int.f a0_0 a1).bind fun t297 => (some t297))) else ((cmp_Compare_int.f a0_0 a1).bind fun t298 => (some t298))) = some r := h
 clear h
 by_cases c3 : a1 ≥ a0_0
 ·rw [if_pos c3] at H
  have c3b0 : decide (a0_0 ≤ a1) = true := decide_eq_true c3
  clear c3
  by_cases c4 : a1 ≤ a0_1
  ·rw [if_pos c4] at H
   have c4b0 : decide (a1 ≤ a0_1) = true := decide_eq_true c4
   clear c4
   obtain rfl := Option.some.inj H
   go_enter Try.func164, Try.ntmps164
   go_wp2_with (first | ((with_reducible refine zw (N := 2) rfl ?_); refine zca ?hg (N := 2) ?hd (cs := #[.int .i64 a0_0, .int .i64 a0_1, .int .i64 a0_2]) (t := 129) ?hr ?_; (case hd => rfl); (case hg => rfl); (case hr => first | (go_simp; done) | (go_simp; rfl)); intro gb296 hg w5 hbox hb; have n0_ := za.mk (zg (by repeat (first | (with_reducible first | exact HB.out | apply zc | apply zb | apply zd) | exact HB.out)) hb); have n1_ := za.mk (hbox); have n2_ := za.mk ((by rw [hg]; exact (zp (by repeat (first | (with_reducible first | exact HB.out | apply zc | apply zb | apply zd) | exact HB.out))) : w.heap.size ≤ gb296)); have n3_ := za.mk ((by rw [hg]; exact (zp (by repeat (first | (with_reducible first | exact HB.out | apply zc | apply zb | apply zd) | exact HB.out))) : w.heap.size ≤ gb296)); clear HB; have HB := n0_; have BK296 := n1_; have GW296 := n2_; have GE296 := n3_; clear n0_ n1_ n2_ n3_; clear hb hbox hg; have hcz6_0 : w5.cell? ⟨gb296, 0, none⟩ = some (.int .i64 a0_0) := (zf BK296.out 0).trans rfl; have hcz6_1 : w5.cell? ⟨gb296, 1, none⟩ = some (.int .i64 a0_1) := (zf BK296.out 1).trans rfl; have hcz6_2 : w5.cell? ⟨gb296, 2, none⟩ = some (.int .i64 a0_2) := (zf BK296.out 2).trans rfl; have hfz6_0 := zl BK296.out 0; have hfz6_1 := zl BK296.out 1; have hfz6_2 := zl BK296.out 2))
   go_ret
   exact ⟨by first | rfl | (simp [zh, zi] <;> rfl) | (simp [*, zh, zi] <;> rfl), by repeat (first | (with_reducible first | exact HB.out | apply zc | apply zb | apply zd | refine zu ?_ GE296.out) | exact HB.out)⟩
  ·rw [if_neg c4] at H
   have c4b0 : decide (a1 ≤ a0_1) = false := decide_eq_false c4
   clear c4
   replace H := Option.bind_eq_some_iff.mp H
   obtain ⟨t297, A70, H⟩ := H
   replace H : (some t297) = some r := H
   have A7 := za.mk A70
   clear A70
   obtain rfl := Option.some.inj H
   go_enter Try.func164, Try.ntmps164
   go_wp2_with (first | ((with_reducible refine zw (N := 2) rfl ?_); refine zca ?hg (N := 2) ?hd (cs := #[.int .i64 a0_0, .int .i64 a0_1, .int .i64 a0_2]) (t := 129) ?hr ?_; (case hd => rfl); (case hg => rfl); (case hr => first | (go_simp; done) | (go_simp; rfl)); intro gb296 hg w8 hbox hb; have n0_ := za.mk (zg (by repeat (first | (with_reducible first | exact HB.out | apply zc | apply zb | apply zd) | exact HB.out)) hb); have n1_ := za.mk (hbox); have n2_ := za.mk ((by rw [hg]; exact (zp (by repeat (first | (with_reducible first | exact HB.out | apply zc | apply zb | apply zd) | exact HB.out))) : w.heap.size ≤ gb296)); have n3_ := za.mk ((by rw [hg]; exact (zp (by repeat (first | (with_reducible first | exact HB.out | apply zc | apply zb | apply zd) | exact HB.out))) : w.heap.size ≤ gb296)); clear HB; have HB := n0_; have BK296 := n1_; have GW296 := n2_; have GE296 := n3_; clear n0_ n1_ n2_ n3_; clear hb hbox hg; have hcz9_0 : w8.cell? ⟨gb296, 0, none⟩ = some (.int .i64 a0_0) := (zf BK296.out 0).trans rfl; have hcz9_1 : w8.cell? ⟨gb296, 1, none⟩ = some (.int .i64 a0_1) := (zf BK296.out 1).trans rfl; have hcz9_2 : w8.cell? ⟨gb296, 2, none⟩ = some (.int .i64 a0_2) := (zf BK296.out 2).trans rfl; have hfz9_0 := zl BK296.out 0; have hfz9_1 := zl BK296.out 1; have hfz9_2 := zl BK296.out 2) | ((with_reducible refine zj (f := 165) rfl ?_); refine zgo (some 18) Try.func165 #[.int .i64 a0_0, .int .i64 a1] rfl ?_; (with_reducible refine (cmp_Compare_int.calls a0_0 a1 t297 _ A7.out).mono ?_); rintro e w' ⟨rfl, ⟨nd, rfl⟩⟩; refine ⟨_, rfl, ?_⟩))
   go_ret
   exact ⟨by first | rfl | (simp [zh, zi] <;> rfl) | (simp [*, zh, zi] <;> rfl), by repeat (first | (with_reducible first | exact HB.out | apply zc | apply zb | apply zd | refine zu ?_ GE296.out) | exact HB.out)⟩
 ·rw [if_neg c3] at H
  have c3b0 : decide (a0_0 ≤ a1) = false := decide_eq_false c3
  clear c3
  replace H := Option.bind_eq_some_iff.mp H
  obtain ⟨t298, A100, H⟩ := H
  replace H : (some t298) = some r := H
  have A10 := za.mk A100
  clear A100
  obtain rfl := Option.some.inj H
  go_enter Try.func164, Try.ntmps164
  go_wp2_with (first | ((with_reducible refine zw (N := 2) rfl ?_); refine zca ?hg (N := 2) ?hd (cs := #[.int .i64 a0_0, .int .i64 a0_1, .int .i64 a0_2]) (t := 129) ?hr ?_; (case hd => rfl); (case hg => rfl); (case hr => first | (go_simp; done) | (go_simp; rfl)); intro gb296 hg w11 hbox hb; have n0_ := za.mk (zg (by repeat (first | (with_reducible first | exact HB.out | apply zc | apply zb | apply zd) | exact HB.out)) hb); have n1_ := za.mk (hbox); have n2_ := za.mk ((by rw [hg]; exact (zp (by repeat (first | (with_reducible first | exact HB.out | apply zc | apply zb | apply zd) | exact HB.out))) : w.heap.size ≤ gb296)); have n3_ := za.mk ((by rw [hg]; exact (zp (by repeat (first | (with_reducible first | exact HB.out | apply zc | apply zb | apply zd) | exact HB.out))) : w.heap.size ≤ gb296)); clear HB; have HB := n0_; have BK296 := n1_; have GW296 := n2_; have GE296 := n3_; clear n0_ n1_ n2_ n3_; clear hb hbox hg; have hcz12_0 : w11.cell? ⟨gb296, 0, none⟩ = some (.int .i64 a0_0) := (zf BK296.out 0).trans rfl; have hcz12_1 : w11.cell? ⟨gb296, 1, none⟩ = some (.int .i64 a0_1) := (zf BK296.out 1).trans rfl; have hcz12_2 : w11.cell? ⟨gb296, 2, none⟩ = some (.int .i64 a0_2) := (zf BK296.out 2).trans rfl; have hfz12_0 := zl BK296.out 0; have hfz12_1 := zl BK296.out 1; have hfz12_2 := zl BK296.out 2) | ((with_reducible refine zj (f := 165) rfl ?_); refine zgo (some 18) Try.func165 #[.int .i64 a0_0, .int .i64 a1] rfl ?_; (with_reducible refine (cmp_Compare_int.calls a0_0 a1 t298 _ A10.out).mono ?_); rintro e w' ⟨rfl, ⟨nd, rfl⟩⟩; refine ⟨_, rfl, ?_⟩))
  go_ret
  exact ⟨by first | rfl | (simp [zh, zi] <;> rfl) | (simp [*, zh, zi] <;> rfl), by repeat (first | (with_reducible first | exact HB.out | apply zc | apply zb | apply zd | refine zu ?_ GE296.out) | exact HB.out)⟩
def zR : S129 := z129
def cmpR (x : S129) (r : Int) : Int := if x.f0 ≤ r ∧ r ≤ x.f1 then 0 else if x.f0 < r then -1 else if x.f0 > r then 1 else 0
theorem find_1_cmp (x : S129) (r : Int) : impl_find_1.f x.f0 x.f1 x.f2 r = some (cmpR x r) := by
 unfold impl_find_1.f cmp_Compare_int.f cmp_isNaN_int.f cmpR
 by_cases h1 : r ≥ x.f0 <;> by_cases h2 : r ≤ x.f1 <;> by_cases h3 : x.f0 < r <;> by_cases h4 : x.f0 > r <;> simp [h1, h2, h3, h4] <;> omega
def ascR : List S129 → Bool
 | [] => true
 | [x] => decide (x.f0 ≤ x.f1)
 | x :: y :: r => decide (x.f0 ≤ x.f1) && decide (x.f1 < y.f0) && ascR (y :: r)
theorem ascR_one : ∀ (l : List S129), ascR l = true → ∀ i, i < l.length → (l.getD i z129).f0 ≤ (l.getD i z129).f1
 | [], _, i, h => absurd h (Nat.not_lt_zero _)
 | [x], h, i, hi => by
  have : i = 0 := by simp at hi; omega
  subst this
  simpa [ascR] using h
 | x :: y :: r, h, i, hi => by
  simp only [ascR, Bool.and_eq_true, decide_eq_true_eq] at h
  cases i with
  | zero => simpa using h.1.1
  | succ i => simpa using ascR_one (y :: r) h.2 i (by simpa using hi)
theorem ascR_two : ∀ (l : List S129), ascR l = true → ∀ i j, i < j → j < l.length → (l.getD i z129).f1 < (l.getD j z129).f0
 | [], _, _, _, _, h => absurd h (Nat.not_lt_zero _)
 | [x], h, i, j, hij, hj => by simp at hj; omega
 | x :: y :: r, h, i, j, hij, hj => by
  have h' := h
  simp only [ascR, Bool.and_eq_true, decide_eq_true_eq] at h
  cases j with
  | zero => omega
  | succ j =>
   cases i with
   | zero =>
    cases j with
    | zero => simpa using h.1.2
    | succ j =>
     have h1 := ascR_two (y :: r) h.2 0 (j + 1) (by omega) (by simpa using hj)
     have h2 := ascR_one (y :: r) h.2 0 (by simp)
     simp only [List.getD_cons_zero, List.getD_cons_succ] at h1 h2 ⊢
     omega
   | succ i => simpa using ascR_two (y :: r) h.2 i j (by omega) (by simpa using hj)
def hitR (x : S129) (r : Int) : Bool := decide (x.f0 ≤ r) && decide (r ≤ x.f1)
def lookR (l : List S129) (r other : Int) : Int := ((l.find? fun x => hitR x r).map (·.f2)).getD other
theorem lookR_hit : ∀ (l : List S129) (i : Nat) (r o : Int), i < l.length → hitR (l.getD i z129) r = true → (∀ k, k < i → hitR (l.getD k z129) r = false) → lookR l r o = (l.getD i z129).f2
 | [], _, _, _, h, _, _ => absurd h (Nat.not_lt_zero _)
 | x :: xs, 0, r, o, _, hh, _ => by
  have h1 : hitR x r = true := by simpa using hh
  simp [lookR, List.find?_cons, h1]
 | x :: xs, i + 1, r, o, h, hh, hm => by
  have h1 : hitR x r = false := by simpa using hm 0 (by omega)
  have := lookR_hit xs i r o (by simpa using h) (by simpa using hh) (fun k hk => by simpa using hm (k + 1) (by omega))
  simp only [lookR] at this ⊢
  simpa [List.find?_cons, h1] using this
theorem lookR_miss : ∀ (l : List S129) (r o : Int), (∀ k, k < l.length → hitR (l.getD k z129) r = false) → lookR l r o = o
 | [], _, _, _ => rfl
 | x :: xs, r, o, hm => by
  have h1 : hitR x r = false := by simpa using hm 0 (by simp)
  have := lookR_miss xs r o (fun k hk => by simpa using hm (k + 1) (by simpa using hk))
  simp only [lookR] at this ⊢
  simpa [List.find?_cons, h1] using this
def BsPost (l0 : List S129) (a1 : Int) (w : World) (e : Ending) (w' : World) : Prop :=
 ∃ (i : Nat) (b : Bool), e = .returned (.tuple #[.int .i64 i, .bool b]) ∧ (b = true → i < l0.length ∧ hitR (l0.getD i z129) a1 = true) ∧ (b = false → ∀ k, k < l0.length → hitR (l0.getD k z129) a1 = false) ∧ Below w.heap.size w w'
theorem cmpR_lt {x : S129} {r : Int} (h : x.f0 ≤ x.f1) : cmpR x r < 0 ↔ x.f1 < r := by
 unfold cmpR
 split
 ·omega
 ·split
  ·omega
  ·split <;> omega
theorem cmpR_eq {x : S129} {r : Int} (h : x.f0 ≤ x.f1) : cmpR x r = 0 ↔ hitR x r = true := by
 unfold cmpR hitR
 simp only [Bool.and_eq_true, decide_eq_true_eq]
 split
 ·omega
 ·split
  ·omega
  ·split <;> omega
theorem bs_none {l0 : List S129} {a1 : Int} {j : Nat} (ha : ascR l0 = true) (hl : ∀ k, k < j → (l0.getD k z129).f1 < a1) (hg : ∀ k, j ≤ k → k < l0.length → ¬ (l0.getD k z129).f1 < a1) (hj : hitR (l0.getD j z129) a1 = false) (k : Nat) (hk : k < l0.length) : hitR (l0.getD k z129) a1 = false := by
 by_cases h1 : k < j
 ·have h2 := hl k h1
  unfold hitR
  simp only [Bool.and_eq_false_iff, decide_eq_false_iff_not]
  omega
 ·by_cases h2 : k = j
  ·subst h2; exact hj
  ·have h3 := ascR_two l0 ha j k (by omega) hk
   have h4 := hg j (Nat.le_refl _) (by omega)
   unfold hitR
   simp only [Bool.and_eq_false_iff, decide_eq_false_iff_not]
   omega
set_option maxHeartbeats 4000000 in
set_option maxRecDepth 100000 in
theorem bs_calls (A0 : Option Addr) (c0 : Nat) (l0 : List S129) (a1 : Int) (w : World) (hr0 : Kd.C k129 w A0 l0.length l0) (hc0 : l0.length ≤ c0) (ha : ascR l0 = true) (hsz : l0.length ≤ 1000000) :
  Calls Try.prog 163 #[.slice A0 l0.length c0, .int .i64 a1, .func (.func 164) #[] #[]] w (BsPost l0 a1 w) := by
 have hu129 := Try.underlying129
 have HR0 := za.mk hr0
 have HA := za.mk ha
 clear hr0 ha
 go_enter Try.func163, Try.ntmps163
 go_wp2
 go_loopg [9, 10] l0.length (fun gg v9 v10 wr => ∃ i j : Nat, v9 = .int .i64 i ∧ v10 = .int .i64 j ∧ i ≤ j ∧ j ≤ l0.length ∧ j - i ≤ gg ∧ za (∀ k, k < i → (l0.getD k z129).f1 < a1) ∧ za (∀ k, j ≤ k → k < l0.length → ¬ (l0.getD k z129).f1 < a1) ∧ za (Below w.heap.size w wr))
 case atStart => exact ⟨0, l0.length, rfl, rfl, Nat.zero_le _, Nat.le_refl _, by omega, ⟨fun k hk => absurd hk (Nat.not_lt_zero _)⟩, ⟨fun k h1 h2 => absurd h2 (by omega)⟩, ⟨Below.refl _ _⟩⟩
 case round =>
  obtain ⟨i, j, rfl, rfl, hij, hj, hg, HL, HG, HB⟩ := hrel
  by_cases hlt : i < j
  ·have hltz : (i : Int) < (j : Int) := by omega
   obtain ⟨m, hm⟩ : ∃ m : Nat, (m : Int) = ((i : Int) + (j : Int)) / 2 := ⟨(i + j) / 2, by omega⟩
   have hm1 : i ≤ m := by omega
   have hm2 : m < j := by omega
   have p0 : 0 ≤ ((i : Int) + (j : Int)) / 2 := by omega
   have q0 : ((i : Int) + (j : Int)) / 2 < (l0.length : Int) := by omega
   obtain ⟨ad, e0, hx0, hx1, hx2⟩ := at_T129 HR0.out (((i : Int) + (j : Int)) / 2) p0 q0
   have ht : (((i : Int) + (j : Int)) / 2).toNat = (i + j) / 2 := by omega
   rw [ht] at hx0 hx1 hx2
   clear ht
   cases e0
   replace hx0 := (HB.out.cell (World.block_lt_of_cell? w _ hx0)).trans hx0
   replace hx1 := (HB.out.cell (World.block_lt_of_cell? w _ hx1)).trans hx1
   replace hx2 := (HB.out.cell (World.block_lt_of_cell? w _ hx2)).trans hx2
   have hone := ascR_one l0 HA.out m (by omega)
   have Hrd : za (rd_T129 l0 (((i : Int) + (j : Int)) / 2) = l0.getD m z129) := ⟨by unfold rd_T129; rw [← hm, Int.toNat_natCast]⟩
   generalize hy : rd_T129 l0 (((i : Int) + (j : Int)) / 2) = y at hx0 hx1 hx2 Hrd
   have Hy := za.mk (Hrd.out.symm)
   clear hy Hrd
   have hcall := fun W => impl_find_1.calls y.f0 y.f1 y.f2 a1 _ W (find_1_cmp y a1)
   by_cases hc : cmpR y a1 < 0
   ·have hcB : decide (cmpR y a1 < 0) = true := decide_eq_true hc
    have Hup : za ((l0.getD m z129).f1 < a1) := ⟨by rw [Hy.out]; rw [Hy.out] at hone; exact (cmpR_lt hone).mp hc⟩
    have Hm := za.mk hm
    clear hm hone hc
    have HCall := za.mk hcall
    clear hcall
    go_wp2_with (go_at_call 164; refine (HCall.out _).mono ?_; rintro e w' ⟨rfl, hb⟩)
    go_roundg (gk - 1)
    case measure => omega
    case rel => exact ⟨m + 1, j, by rw [← Hm.out]; go_num, rfl, by omega, by omega, by omega, ⟨fun k hk => by
     by_cases e : k = m
     ·subst e; exact Hup.out
     ·have h1 := ascR_two l0 HA.out k m (by omega) (by omega)
      have h2 := ascR_one l0 HA.out m (by omega)
      have h3 := Hup.out
      omega⟩, HG, ⟨HB.out.trans (hb.mono HB.out.size)⟩⟩
   ·have hcB : decide (cmpR y a1 < 0) = false := decide_eq_false hc
    have Hup : za (¬ (l0.getD m z129).f1 < a1) := ⟨by rw [Hy.out]; rw [Hy.out] at hone; exact fun h => hc ((cmpR_lt hone).mpr h)⟩
    have Hm := za.mk hm
    clear hm hone hc
    have HCall := za.mk hcall
    clear hcall
    go_wp2_with (go_at_call 164; refine (HCall.out _).mono ?_; rintro e w' ⟨rfl, hb⟩)
    go_roundg (gk - 1)
    case measure => omega
    case rel => exact ⟨i, m, rfl, by rw [← Hm.out], by omega, by omega, by omega, HL, ⟨fun k h1 h2 => by
     by_cases e : k = m
     ·subst e; exact Hup.out
     ·have h3 := ascR_two l0 HA.out m k (by omega) (by omega)
      have h4 := ascR_one l0 HA.out k (by omega)
      have h5 := Hup.out
      omega⟩, ⟨HB.out.trans (hb.mono HB.out.size)⟩⟩
  ·have hltz : ¬ (i : Int) < (j : Int) := by omega
   have hji : j = i := by omega
   subst hji
   by_cases hn : j < l0.length
   ·have hnz : (j : Int) < (l0.length : Int) := by omega
    obtain ⟨ad, e0, hx0, hx1, hx2⟩ := at_T129 HR0.out (j : Int) (by omega) (by omega)
    rw [Int.toNat_natCast] at hx0 hx1 hx2
    cases e0
    replace hx0 := (HB.out.cell (World.block_lt_of_cell? w _ hx0)).trans hx0
    replace hx1 := (HB.out.cell (World.block_lt_of_cell? w _ hx1)).trans hx1
    replace hx2 := (HB.out.cell (World.block_lt_of_cell? w _ hx2)).trans hx2
    have hone := ascR_one l0 HA.out j (by omega)
    have Hrd : za (rd_T129 l0 (j : Int) = l0.getD j z129) := ⟨by unfold rd_T129; rw [Int.toNat_natCast]⟩
    generalize hy : rd_T129 l0 (j : Int) = y at hx0 hx1 hx2 Hrd
    have Hy := za.mk (Hrd.out.symm)
    clear hy Hrd
    have HCall := za.mk (fun W => impl_find_1.calls y.f0 y.f1 y.f2 a1 _ W (find_1_cmp y a1))
    have Hone := za.mk hone
    clear hone
    go_wp2_with (go_at_call 164; refine (HCall.out _).mono ?_; rintro e w' ⟨rfl, hb⟩)
    go_ret2
    refine ⟨j, (cmpR y a1 == 0), rfl, fun hb1 => ⟨hn, ?_⟩, fun hb1 k hk => ?_, HB.out.trans (hb.mono HB.out.size)⟩
    ·rw [Hy.out]
     have h1 := Hone.out
     rw [Hy.out] at h1
     exact (cmpR_eq h1).mp (by simpa using hb1)
    ·have h1 := Hone.out
     have h2 : ¬ cmpR y a1 = 0 := by simpa using hb1
     have h3 : ¬ hitR (l0.getD j z129) a1 = true := by rw [Hy.out]; rw [Hy.out] at h1; exact fun h => h2 ((cmpR_eq h1).mpr h)
     exact bs_none HA.out HL.out (fun k h4 h5 => by have := HG.out k h4 h5; omega) (by simpa using h3) k hk
   ·have hnz : ¬ (j : Int) < (l0.length : Int) := by omega
    go_wp2
    go_ret2
    refine ⟨j, false, rfl, (fun hb1 => by cases hb1), fun _ k hk => ?_, HB.out⟩
    have h1 := HL.out k (by omega)
    unfold hitR
    simp only [Bool.and_eq_false_iff, decide_eq_false_iff_not]
    omega
def impl_find.f (l0 : List S129) (a1 : Int) (a2 : Int) : Option Int := if ascR l0 = true ∧ l0.length ≤ 1000000 then some (lookR l0 a1 a2) else none
theorem asc_hit {l0 : List S129} {a1 : Int} (ha : ascR l0 = true) {i k : Nat} (hi : i < l0.length) (hh : hitR (l0.getD i z129) a1 = true) (hk : k < i) : hitR (l0.getD k z129) a1 = false := by
 have h3 := ascR_two l0 ha k i hk hi
 unfold hitR at hh ⊢
 simp only [Bool.and_eq_true, decide_eq_true_eq] at hh
 simp only [Bool.and_eq_false_iff, decide_eq_false_iff_not]
 omega
set_option maxHeartbeats 4000000 in
set_option maxRecDepth 100000 in
theorem impl_find.calls (A0 : Option Addr) (c0 : Nat) (l0 : List S129) (a1 : Int) (a2 : Int) (r : Int) (w : World) (hr0 : Kd.C k129 w A0 l0.length l0) (hc0 : l0.length ≤ c0) (h : impl_find.f l0 a1 a2 = some r) :
  Calls Try.prog 146 #[.slice A0 l0.length c0, .int .i64 a1, .int .i64 a2] w fun e w' => e = .returned (.int .i64 r) ∧ Below w.heap.size w w' := by
 unfold impl_find.f at h
 split at h
 case isFalse => exact absurd h (by simp)
 case isTrue hs =>
 have H := za.mk (Option.some.inj h)
 clear h
 obtain ⟨ha, hsz⟩ := hs
 have HC := za.mk (fun W => bs_calls A0 c0 l0 a1 W)
 have HR0 := za.mk hr0
 have HA := za.mk ha
 have hu129 := Try.underlying129
 clear hr0 ha
 go_enter Try.func146, Try.ntmps146
 go_wp2_with (fail)
 refine (HC.out _ HR0.out hc0 HA.out hsz).mono ?_
 rintro e w' ⟨i, b, rfl, ht, hf, hb⟩
 have HT := za.mk ht
 have HF := za.mk hf
 clear ht hf
 cases b with
 | true =>
  obtain ⟨hi, hh⟩ := HT.out rfl
  have Hh := za.mk hh
  obtain ⟨ad, e0, hx0, hx1, hx2⟩ := at_T129 HR0.out (i : Int) (by omega) (by omega)
  rw [Int.toNat_natCast] at hx0 hx1 hx2
  cases e0
  replace hx0 := (hb.cell (World.block_lt_of_cell? w _ hx0)).trans hx0
  replace hx1 := (hb.cell (World.block_lt_of_cell? w _ hx1)).trans hx1
  replace hx2 := (hb.cell (World.block_lt_of_cell? w _ hx2)).trans hx2
  have hiz : (i : Int) < (l0.length : Int) := by omega
  clear hh
  go_wp2
  go_ret
  refine ⟨?_, hb⟩
  rw [← H.out, lookR_hit l0 i a1 a2 hi Hh.out (fun k hk => asc_hit HA.out hi Hh.out hk)]
  simp [rd_T129]
 | false =>
  go_wp2
  go_ret
  refine ⟨?_, hb⟩
  rw [← H.out, lookR_miss l0 a1 a2 (HF.out (by trivial))]
  rfl
def impl_bidiReaches.f  : Option ((List (S129))) := some (([(⟨9, 9, 11⟩ : S129), (⟨32, 32, 12⟩ : S129), (⟨35, 37, 6⟩ : S129), (⟨43, 43, 5⟩ : S129), (⟨44, 44, 8⟩ : S129), (⟨45, 45, 5⟩ : S129), (⟨46, 47, 8⟩ : S129), (⟨48, 57, 4⟩ : S129), (⟨58, 58, 8⟩ : S129), (⟨65, 90, 1⟩ : S129), (⟨97, 122, 1⟩ : S129), (⟨173, 173, 10⟩ : S129), (⟨768, 879, 9⟩ : S129), (⟨1488, 1514, 2⟩ : S129), (⟨1569, 1610, 3⟩ : S129), (⟨1632, 1641, 7⟩ : S129), (⟨8203, 8203, 10⟩ : S129), (⟨8205, 8205, 10⟩ : S129), (⟨8234, 8234, 14⟩ : S129), (⟨8235, 8235, 15⟩ : S129), (⟨8236, 8236, 16⟩ : S129), (⟨8237, 8237, 17⟩ : S129), (⟨8238, 8238, 18⟩ : S129), (⟨8294, 8294, 19⟩ : S129), (⟨8295, 8295, 20⟩ : S129), (⟨8296, 8296, 21⟩ : S129), (⟨8297, 8297, 22⟩ : S129), (⟨19968, 40959, 1⟩ : S129)] : List (S129)))
theorem impl_bidiReaches.calls  (r : List (S129)) (w : World) (h : impl_bidiReaches.f  = some r) :
  Calls Try.prog 161 #[] w fun e w' => ∃ v0_ : Value, e = .returned (v0_) ∧ Kd.R k129 129 w' w.heap.size (fun _ => True) v0_ r ∧ Below w.heap.size w w' := by
 have hu129 := Try.underlying129
 have HB := za.mk (Below.refl w.heap.size w)
 have H : (some (([(⟨9, 9, 11⟩ : S129), (⟨32, 32, 12⟩ : S129), (⟨35, 37, 6⟩ : S129), (⟨43, 43, 5⟩ : S129), (⟨44, 44, 8⟩ : S129), (⟨45, 45, 5⟩ : S129), (⟨46, 47, 8⟩ : S129), (⟨48, 57, 4⟩ : S129), (⟨58, 58, 8⟩ : S129), (⟨65, 90, 1⟩ : S129), (⟨97, 122, 1⟩ : S129), (⟨173, 173, 10⟩ : S129), (⟨768, 879, 9⟩ : S129), (⟨1488, 1514, 2⟩ : S129), (⟨1569, 1610, 3⟩ : S129), (⟨1632, 1641, 7⟩ : S129), (⟨8203, 8203, 10⟩ : S129), (⟨8205, 8205, 10⟩ : S129), (⟨8234, 8234, 14⟩ : S129), (⟨8235, 8235, 15⟩ : S129), (⟨8236, 8236, 16⟩ : S129), (⟨8237, 8237, 17⟩ : S129), (⟨8238, 8238, 18⟩ : S129), (⟨8294, 8294, 19⟩ : S129), (⟨8295, 8295, 20⟩ : S129), (⟨8296, 8296, 21⟩ : S129), (⟨8297, 8297, 22⟩ : S129), (⟨19968, 40959, 1⟩ : S129)] : List (S129)))) = some r := h
 clear h
 obtain ⟨y299, hy299⟩ : ∃ y_ : List (S129), y_ = (([(⟨9, 9, 11⟩ : S129), (⟨32, 32, 12⟩ : S129), (⟨35, 37, 6⟩ : S129), (⟨43, 43, 5⟩ : S129), (⟨44, 44, 8⟩ : S129), (⟨45, 45, 5⟩ : S129), (⟨46, 47, 8⟩ : S129), (⟨48, 57, 4⟩ : S129), (⟨58, 58, 8⟩ : S129), (⟨65, 90, 1⟩ : S129), (⟨97, 122, 1⟩ : S129), (⟨173, 173, 10⟩ : S129), (⟨768, 879, 9⟩ : S129), (⟨1488, 1514, 2⟩ : S129), (⟨1569, 1610, 3⟩ : S129), (⟨1632, 1641, 7⟩ : S129), (⟨8203, 8203, 10⟩ : S129), (⟨8205, 8205, 10⟩ : S129), (⟨8234, 8234, 14⟩ : S129), (⟨8235, 8235, 15⟩ : S129), (⟨8236, 8236, 16⟩ : S129), (⟨8237, 8237, 17⟩ : S129), (⟨8238, 8238, 18⟩ : S129), (⟨8294, 8294, 19⟩ : S129), (⟨8295, 8295, 20⟩ : S129), (⟨8296, 8296, 21⟩ : S129), (⟨8297, 8297, 22⟩ : S129), (⟨19968, 40959, 1⟩ : S129)] : List (S129))) := ⟨_, rfl⟩
 replace H : (some y299) = some r := by first | (rw [hy299]; with_reducible exact H) | (have H2_ := (Option.bind_some _ _).symm.trans H; rw [hy299]; with_reducible exact H2_) | (have H2_ := (Option.bind_some _ _).symm.trans H; with_reducible exact H2_) | with_reducible exact H | (rw [hy299]; exact H) | exact H
 have Ny299 := za.mk hy299
 clear hy299
 obtain rfl := Option.some.inj H
 go_enter Try.func161, Try.ntmps161
 go_wp2_with (first | ((with_reducible refine zw (N := 29) rfl ?_); refine Kd.zwa k129 _ 129 ?hg (N := 29) ?hd (xs := ([(⟨9, 9, 11⟩ : S129), (⟨32, 32, 12⟩ : S129), (⟨35, 37, 6⟩ : S129), (⟨43, 43, 5⟩ : S129), (⟨44, 44, 8⟩ : S129), (⟨45, 45, 5⟩ : S129), (⟨46, 47, 8⟩ : S129), (⟨48, 57, 4⟩ : S129), (⟨58, 58, 8⟩ : S129), (⟨65, 90, 1⟩ : S129), (⟨97, 122, 1⟩ : S129), (⟨173, 173, 10⟩ : S129), (⟨768, 879, 9⟩ : S129), (⟨1488, 1514, 2⟩ : S129), (⟨1569, 1610, 3⟩ : S129), (⟨1632, 1641, 7⟩ : S129), (⟨8203, 8203, 10⟩ : S129), (⟨8205, 8205, 10⟩ : S129), (⟨8234, 8234, 14⟩ : S129), (⟨8235, 8235, 15⟩ : S129), (⟨8236, 8236, 16⟩ : S129), (⟨8237, 8237, 17⟩ : S129), (⟨8238, 8238, 18⟩ : S129), (⟨8294, 8294, 19⟩ : S129), (⟨8295, 8295, 20⟩ : S129), (⟨8296, 8296, 21⟩ : S129), (⟨8297, 8297, 22⟩ : S129), (⟨19968, 40959, 1⟩ : S129)] : List (S129))) (inner := [.int .i64 9, .int .i64 9, .int .i64 11, .int .i64 32, .int .i64 32, .int .i64 12, .int .i64 35, .int .i64 37, .int .i64 6, .int .i64 43, .int .i64 43, .int .i64 5, .int .i64 44, .int .i64 44, .int .i64 8, .int .i64 45, .int .i64 45, .int .i64 5, .int .i64 46, .int .i64 47, .int .i64 8, .int .i64 48, .int .i64 57, .int .i64 4, .int .i64 58, .int .i64 58, .int .i64 8, .int .i64 65, .int .i64 90, .int .i64 1, .int .i64 97, .int .i64 122, .int .i64 1, .int .i64 173, .int .i64 173, .int .i64 10, .int .i64 768, .int .i64 879, .int .i64 9, .int .i64 1488, .int .i64 1514, .int .i64 2, .int .i64 1569, .int .i64 1610, .int .i64 3, .int .i64 1632, .int .i64 1641, .int .i64 7, .int .i64 8203, .int .i64 8203, .int .i64 10, .int .i64 8205, .int .i64 8205, .int .i64 10, .int .i64 8234, .int .i64 8234, .int .i64 14, .int .i64 8235, .int .i64 8235, .int .i64 15, .int .i64 8236, .int .i64 8236, .int .i64 16, .int .i64 8237, .int .i64 8237, .int .i64 17, .int .i64 8238, .int .i64 8238, .int .i64 18, .int .i64 8294, .int .i64 8294, .int .i64 19, .int .i64 8295, .int .i64 8295, .int .i64 20, .int .i64 8296, .int .i64 8296, .int .i64 21, .int .i64 8297, .int .i64 8297, .int .i64 22, .int .i64 19968, .int .i64 40959, .int .i64 1]) (ok := fun _ => True) (okp := fun _ => True) ?hr ?hp (fun _ hk => hk) trivial (Below.refl _ _) (Nat.le_refl _) (by simp) ?_; (case hd => rfl); (case hg => rfl); (case hr => first | (go_simp; done) | (go_simp; rfl)); (case hp => exact (Reps.c3 (show Kd.M k129 _ _ _ (⟨9, 9, 11⟩ : S129) [.int .i64 9, .int .i64 9, .int .i64 11] from (zna _ _ _ (⟨9, 9, 11⟩ : S129) )) (Reps.c3 (show Kd.M k129 _ _ _ (⟨32, 32, 12⟩ : S129) [.int .i64 32, .int .i64 32, .int .i64 12] from (zna _ _ _ (⟨32, 32, 12⟩ : S129) )) (Reps.c3 (show Kd.M k129 _ _ _ (⟨35, 37, 6⟩ : S129) [.int .i64 35, .int .i64 37, .int .i64 6] from (zna _ _ _ (⟨35, 37, 6⟩ : S129) )) (Reps.c3 (show Kd.M k129 _ _ _ (⟨43, 43, 5⟩ : S129) [.int .i64 43, .int .i64 43, .int .i64 5] from (zna _ _ _ (⟨43, 43, 5⟩ : S129) )) (Reps.c3 (show Kd.M k129 _ _ _ (⟨44, 44, 8⟩ : S129) [.int .i64 44, .int .i64 44, .int .i64 8] from (zna _ _ _ (⟨44, 44, 8⟩ : S129) )) (Reps.c3 (show Kd.M k129 _ _ _ (⟨45, 45, 5⟩ : S129) [.int .i64 45, .int .i64 45, .int .i64 5] from (zna _ _ _ (⟨45, 45, 5⟩ : S129) )) (Reps.c3 (show Kd.M k129 _ _ _ (⟨46, 47, 8⟩ : S129) [.int .i64 46, .int .i64 47, .int .i64 8] from (zna _ _ _ (⟨46, 47, 8⟩ : S129) )) (Reps.c3 (show Kd.M k129 _ _ _ (⟨48, 57, 4⟩ : S129) [.int .i64 48, .int .i64 57, .int .i64 4] from (zna _ _ _ (⟨48, 57, 4⟩ : S129) )) (Reps.c3 (show Kd.M k129 _ _ _ (⟨58, 58, 8⟩ : S129) [.int .i64 58, .int .i64 58, .int .i64 8] from (zna _ _ _ (⟨58, 58, 8⟩ : S129) )) (Reps.c3 (show Kd.M k129 _ _ _ (⟨65, 90, 1⟩ : S129) [.int .i64 65, .int .i64 90, .int .i64 1] from (zna _ _ _ (⟨65, 90, 1⟩ : S129) )) (Reps.c3 (show Kd.M k129 _ _ _ (⟨97, 122, 1⟩ : S129) [.int .i64 97, .int .i64 122, .int .i64 1] from (zna _ _ _ (⟨97, 122, 1⟩ : S129) )) (Reps.c3 (show Kd.M k129 _ _ _ (⟨173, 173, 10⟩ : S129) [.int .i64 173, .int .i64 173, .int .i64 10] from (zna _ _ _ (⟨173, 173, 10⟩ : S129) )) (Reps.c3 (show Kd.M k129 _ _ _ (⟨768, 879, 9⟩ : S129) [.int .i64 768, .int .i64 879, .int .i64 9] from (zna _ _ _ (⟨768, 879, 9⟩ : S129) )) (Reps.c3 (show Kd.M k129 _ _ _ (⟨1488, 1514, 2⟩ : S129) [.int .i64 1488, .int .i64 1514, .int .i64 2] from (zna _ _ _ (⟨1488, 1514, 2⟩ : S129) )) (Reps.c3 (show Kd.M k129 _ _ _ (⟨1569, 1610, 3⟩ : S129) [.int .i64 1569, .int .i64 1610, .int .i64 3] from (zna _ _ _ (⟨1569, 1610, 3⟩ : S129) )) (Reps.c3 (show Kd.M k129 _ _ _ (⟨1632, 1641, 7⟩ : S129) [.int .i64 1632, .int .i64 1641, .int .i64 7] from (zna _ _ _ (⟨1632, 1641, 7⟩ : S129) )) (Reps.c3 (show Kd.M k129 _ _ _ (⟨8203, 8203, 10⟩ : S129) [.int .i64 8203, .int .i64 8203, .int .i64 10] from (zna _ _ _ (⟨8203, 8203, 10⟩ : S129) )) (Reps.c3 (show Kd.M k129 _ _ _ (⟨8205, 8205, 10⟩ : S129) [.int .i64 8205, .int .i64 8205, .int .i64 10] from (zna _ _ _ (⟨8205, 8205, 10⟩ : S129) )) (Reps.c3 (show Kd.M k129 _ _ _ (⟨8234, 8234, 14⟩ : S129) [.int .i64 8234, .int .i64 8234, .int .i64 14] from (zna _ _ _ (⟨8234, 8234, 14⟩ : S129) )) (Reps.c3 (show Kd.M k129 _ _ _ (⟨8235, 8235, 15⟩ : S129) [.int .i64 8235, .int .i64 8235, .int .i64 15] from (zna _ _ _ (⟨8235, 8235, 15⟩ : S129) )) (Reps.c3 (show Kd.M k129 _ _ _ (⟨8236, 8236, 16⟩ : S129) [.int .i64 8236, .int .i64 8236, .int .i64 16] from (zna _ _ _ (⟨8236, 8236, 16⟩ : S129) )) (Reps.c3 (show Kd.M k129 _ _ _ (⟨8237, 8237, 17⟩ : S129) [.int .i64 8237, .int .i64 8237, .int .i64 17] from (zna _ _ _ (⟨8237, 8237, 17⟩ : S129) )) (Reps.c3 (show Kd.M k129 _ _ _ (⟨8238, 8238, 18⟩ : S129) [.int .i64 8238, .int .i64 8238, .int .i64 18] from (zna _ _ _ (⟨8238, 8238, 18⟩ : S129) )) (Reps.c3 (show Kd.M k129 _ _ _ (⟨8294, 8294, 19⟩ : S129) [.int .i64 8294, .int .i64 8294, .int .i64 19] from (zna _ _ _ (⟨8294, 8294, 19⟩ : S129) )) (Reps.c3 (show Kd.M k129 _ _ _ (⟨8295, 8295, 20⟩ : S129) [.int .i64 8295, .int .i64 8295, .int .i64 20] from (zna _ _ _ (⟨8295, 8295, 20⟩ : S129) )) (Reps.c3 (show Kd.M k129 _ _ _ (⟨8296, 8296, 21⟩ : S129) [.int .i64 8296, .int .i64 8296, .int .i64 21] from (zna _ _ _ (⟨8296, 8296, 21⟩ : S129) )) (Reps.c3 (show Kd.M k129 _ _ _ (⟨8297, 8297, 22⟩ : S129) [.int .i64 8297, .int .i64 8297, .int .i64 22] from (zna _ _ _ (⟨8297, 8297, 22⟩ : S129) )) (Reps.c3 (show Kd.M k129 _ _ _ (⟨19968, 40959, 1⟩ : S129) [.int .i64 19968, .int .i64 40959, .int .i64 1] from (zna _ _ _ (⟨19968, 40959, 1⟩ : S129) )) (Reps.none _ _)))))))))))))))))))))))))))))); intro v300 w1 ho2 hb hg_ hnew_; clear hg_ hnew_; (first | rw [← Ny299.out] at ho2 | (simp only [Int.reduceToNat] at ho2; rw [← Ny299.out] at ho2)); have n0_ := za.mk (Kd.zqa ho2 (zp (by repeat (first | (with_reducible first | exact HB.out | apply zc | apply zb | apply zd) | exact HB.out)))); have n1_ := za.mk (zg (by repeat (first | (with_reducible first | exact HB.out | apply zc | apply zb | apply zd) | exact HB.out)) hb); clear HB; have HO301 := n0_; have HB := n1_; clear n0_ n1_; clear hb ho2))
 go_ret
 exact ⟨_, by first | rfl | (simp [zh, zi] <;> rfl) | (simp [*, zh, zi] <;> rfl), by (with_reducible repeat (first | apply Kd.zn | apply Kd.zo | apply Kd.zq)); exact HO301.out, by repeat (first | (with_reducible first | exact HB.out | apply zc | apply zb | apply zd) | exact HB.out)⟩
def impl_RuneBidi.f (a0 : Int) : Option (Int) := (impl_bidiReaches.f).bind fun t302 => ((impl_find.f t302 a0 13).bind fun t305 => (some t305))
theorem impl_RuneBidi.calls (a0 : Int) (r : Int) (w : World) (h : impl_RuneBidi.f a0 = some r) :
  Calls Try.prog 128 #[.int .i64 a0] w fun e w' => e = .returned (.int .i64 r) ∧ Below w.heap.size w w' := by
 have HB := za.mk (Below.refl w.heap.size w)
 have H : ((impl_bidiReaches.f).bind fun t302 => ((impl_find.f t302 a0 13).bind fun t305 => (some t305))) = some r := h
 clear h
 replace H := Option.bind_eq_some_iff.mp H
 obtain ⟨t302, A20, H⟩ := H
 replace H : ((impl_find.f t302 a0 13).bind fun t305 => (some t305)) = some r := H
 have A2 := za.mk A20
 clear A20
 replace H := Option.bind_eq_some_iff.mp H
 obtain ⟨t305, A30, H⟩ := H
 replace H : (some t305) = some r := H
 have A3 := za.mk A30
 clear A30
 obtain rfl := Option.some.inj H
 go_enter Try.func128, Try.ntmps128
 go_wp2_with (first | ((with_reducible refine zj (f := 161) rfl ?_); refine zgo (some 3) Try.func161 #[] rfl ?_; (with_reducible refine (impl_bidiReaches.calls  t302 _ A2.out).mono ?_); rintro e w4 ⟨v303, rfl, ho0, hb⟩; refine ⟨_, rfl, ?_⟩; have n0_ := za.mk (Kd.zqa ho0 (zp (by repeat (first | (with_reducible first | exact HB.out | apply zc | apply zb | apply zd) | exact HB.out)))); have n1_ := za.mk (zg (by repeat (first | (with_reducible first | exact HB.out | apply zc | apply zb | apply zd) | exact HB.out)) hb); clear HB; have HO304 := n0_; have HB := n1_; clear n0_ n1_; (try clear hb); (try clear hb2); (try clear hk); (try clear hi); (try clear ho0); obtain ⟨Ao5, co5, eo5⟩ := Kd.zia HO304.out; subst eo5) | ((with_reducible refine zj (f := 146) rfl ?_); refine zgo (some 5) Try.func146 #[.slice Ao5 t302.length co5, .int .i64 a0, .int .i64 13] rfl ?_; (with_reducible refine (impl_find.calls _ _ t302 a0 13 t305 _ ?side1 ?side2 A3.out).mono ?_); (case side1 => repeat (first | exact (Kd.zt HO304.out).2.2 | (with_reducible refine Kd.zea ?_ _) | (with_reducible refine Kd.zga ?_ _) | (with_reducible refine Kd.zha ?_))); (case side2 => exact (Kd.zt HO304.out).2.1); rintro e w6 ⟨rfl, hb⟩; refine ⟨_, rfl, ?_⟩; have n0_ := za.mk (Kd.zba (by (with_reducible repeat (first | apply Kd.zn | apply Kd.zo | apply Kd.zq)); exact HO304.out) hb); have n1_ := za.mk (zg (by repeat (first | (with_reducible first | exact HB.out | apply zc | apply zb | apply zd) | exact HB.out)) hb); clear HO304; clear HB; have HO304 := n0_; have HB := n1_; clear n0_ n1_; (try clear hb); (try clear hb2); (try clear hk); (try clear hi)))
 go_ret
 exact ⟨by first | rfl | (simp [zh, zi] <;> rfl) | (simp [*, zh, zi] <;> rfl), by repeat (first | (with_reducible first | exact HB.out | apply zc | apply zb | apply zd) | exact HB.out)⟩
def impl_isRegional.f (a0 : Int) : Option (Bool) := if a0 ≥ 127462 then (some (decide (a0 ≤ 127487))) else (some false)
theorem impl_isRegional.calls (a0 : Int) (r : Bool) (w : World) (h : impl_isRegional.f a0 = some r) :
  Calls Try.prog 160 #[.int .i64 a0] w fun e w' => e = .returned (.bool r) ∧ zm w w' := by
 have H : (if a0 ≥ 127462 then (some (decide (a0 ≤ 127487))) else (some false)) = some r := h
 clear h
 by_cases c2 : a0 ≥ 127462
 ·rw [if_pos c2] at H
  have c2b0 : decide (127462 ≤ a0) = true := decide_eq_true c2
  clear c2
  obtain rfl := Option.some.inj H
  go_enter Try.func160, Try.ntmps160
  go_wp2
  go_ret
  exact ⟨by first | rfl | (simp; done) | (simp [*]; done), by repeat (first | exact zm.refl _ | apply zm.step)⟩
 ·rw [if_neg c2] at H
  have c2b0 : decide (127462 ≤ a0) = false := decide_eq_false c2
  clear c2
  obtain rfl := Option.some.inj H
  go_enter Try.func160, Try.ntmps160
  go_wp2
  go_ret
  exact ⟨by first | rfl | (simp; done) | (simp [*]; done), by repeat (first | exact zm.refl _ | apply zm.step)⟩
def impl_joining_joins.j0 : Nat → Int → Int → Bool → Option (Bool)
 | 0, _, _, _ => none
 | k + 1, x0, x1, x8 => if x8 = true then (if x0 = 1 then (some (x1 == 10)) else (some false)) else ((impl_RuneBidi.f x1).bind fun t306 => (if t306 = 9 then (some true) else (if x1 = 8205 then (some true) else ((impl_isRegional.f x1).bind fun t307 => (if t307 = true then (some (x0 == 3)) else (some false))))))
def impl_joining_joins.f (k : Nat) (a0 : Int) (a1 : Int) : Option (Bool) := if a0 = 0 then (some false) else (if a0 = 2 then (impl_joining_joins.j0 k a0 a1 true) else (impl_joining_joins.j0 k a0 a1 (a1 == 10)))
theorem impl_joining_joins.calls (k : Nat) (a0 : Int) (a1 : Int) (r : Bool) (w : World) (h : impl_joining_joins.f k a0 a1 = some r) :
  Calls Try.prog 126 #[.int .i64 a0, .int .i64 a1] w fun e w' => e = .returned (.bool r) ∧ Below w.heap.size w w' := by
 have HB := za.mk (Below.refl w.heap.size w)
 have H : (if a0 = 0 then (some false) else (if a0 = 2 then (impl_joining_joins.j0 k a0 a1 true) else (impl_joining_joins.j0 k a0 a1 (a1 == 10)))) = some r := h
 clear h
 by_cases c3 : a0 = 0
 ·rw [if_pos c3] at H
  have c3b0 : (a0 == 0) = true := beq_iff_eq.mpr c3
  have c3b1 : (a0 != 0) = false := bne_eq_false_iff_eq.mpr c3
  clear c3
  obtain rfl := Option.some.inj H
  go_enter Try.func126, Try.ntmps126
  go_wp2
  go_ret
  exact ⟨by first | rfl | (simp [zh, zi] <;> rfl) | (simp [*, zh, zi] <;> rfl), by repeat (first | (with_reducible first | exact HB.out | apply zc | apply zb | apply zd) | exact HB.out)⟩
 ·rw [if_neg c3] at H
  have c3b0 : (a0 == 0) = false := beq_eq_false_iff_ne.mpr c3
  have c3b1 : (a0 != 0) = true := bne_iff_ne.mpr c3
  have HC4 := za.mk H
  clear H
  go_enter Try.func126, Try.ntmps126
  go_upto_region 3 with (fail)
  go_cut [8] (fun v8 wc => ∃ (kq : Nat) (x8_3 : Bool), v8 = .bool x8_3 ∧ za (impl_joining_joins.j0 kq a0 a1 x8_3 = some r) ∧ za (kq ≤ k) ∧ za (Below w.heap.size w wc))
  case first =>
   have H := HC4.out
   clear HC4
   by_cases c5 : a0 = 2
   ·rw [if_pos c5] at H
    have c5b0 : (a0 == 2) = true := beq_iff_eq.mpr c5
    have c5b1 : (a0 != 2) = false := bne_eq_false_iff_eq.mpr c5
    clear c5
    (first | rw [c5b0] | (simp only [zr, zs]; rw [c5b0]) | skip)
    have H' := za.mk H
    clear H
    go_wp2
    go_meet
    case rel => exact ⟨_, (true), (by first | rfl | (simp; done) | (simp [*]; done)), H', ⟨by first | omega | exact Nat.le_refl _⟩, ⟨by repeat (first | (with_reducible first | exact HB.out | apply zc | apply zb | apply zd) | exact HB.out)⟩⟩
   ·rw [if_neg c5] at H
    have c5b0 : (a0 == 2) = false := beq_eq_false_iff_ne.mpr c5
    have c5b1 : (a0 != 2) = true := bne_iff_ne.mpr c5
    (first | rw [c5b0] | (simp only [zr, zs]; rw [c5b0]) | skip)
    have H' := za.mk H
    clear H
    go_wp2
    go_meet
    case rel => exact ⟨_, ((a1 == 10)), (by first | rfl | (simp; done) | (simp [*]; done)), H', ⟨by first | omega | exact Nat.le_refl _⟩, ⟨by repeat (first | (with_reducible first | exact HB.out | apply zc | apply zb | apply zd) | exact HB.out)⟩⟩
  case rest =>
   clear HC4
   try clear c1
   try clear p2
   try clear c3
   try clear c3b0
   try clear c3b1
   try clear c5
   try clear c5b0
   try clear c5b1
   obtain ⟨kq, x8_3, rfl, HA, HJ3, HB⟩ := hcut
   cases kq with
   | zero => exact absurd HA.out (by simp [impl_joining_joins.j0])
   | succ kj3 =>
    have H := HA.out
    clear HA
    simp only [impl_joining_joins.j0] at H
    by_cases c6 : x8_3 = true
    ·subst c6
     have H1 : (if a0 = 1 then (some (a1 == 10)) else (some false)) = some r := by rw [if_pos rfl] at H; exact H
     clear H
     have H := H1
     clear H1
     by_cases c7 : a0 = 1
     ·rw [if_pos c7] at H
      have c7b0 : (a0 == 1) = true := beq_iff_eq.mpr c7
      have c7b1 : (a0 != 1) = false := bne_eq_false_iff_eq.mpr c7
      clear c7
      obtain rfl := Option.some.inj H
      go_wp2
      go_ret
      exact ⟨by first | rfl | (simp [zh, zi] <;> rfl) | (simp [*, zh, zi] <;> rfl), by repeat (first | (with_reducible first | exact HB.out | apply zc | apply zb | apply zd) | exact HB.out)⟩
     ·rw [if_neg c7] at H
      have c7b0 : (a0 == 1) = false := beq_eq_false_iff_ne.mpr c7
      have c7b1 : (a0 != 1) = true := bne_iff_ne.mpr c7
      obtain rfl := Option.some.inj H
      go_wp2
      go_ret
      exact ⟨by first | rfl | (simp [zh, zi] <;> rfl) | (simp [*, zh, zi] <;> rfl), by repeat (first | (with_reducible first | exact HB.out | apply zc | apply zb | apply zd) | exact HB.out)⟩
    ·replace c6 := Bool.eq_false_iff.mpr c6
     subst c6
     have H1 : ((impl_RuneBidi.f a1).bind fun t306 => (if t306 = 9 then (some true) else (if a1 = 8205 then (some true) else ((impl_isRegional.f a1).bind fun t307 => (if t307 = true then (some (a0 == 3)) else (some false)))))) = some r := by rw [if_neg (show ¬ (false = true) by decide)] at H; exact H
     clear H
     have H := H1
     clear H1
     replace H := Option.bind_eq_some_iff.mp H
     obtain ⟨t306, A80, H⟩ := H
     replace H : (if t306 = 9 then (some true) else (if a1 = 8205 then (some true) else ((impl_isRegional.f a1).bind fun t307 => (if t307 = true then (some (a0 == 3)) else (some false))))) = some r := H
     have A8 := za.mk A80
     clear A80
     by_cases c9 : t306 = 9
     ·rw [if_pos c9] at H
      have c9b0 : (t306 == 9) = true := beq_iff_eq.mpr c9
      have c9b1 : (t306 != 9) = false := bne_eq_false_iff_eq.mpr c9
      clear c9
      obtain rfl := Option.some.inj H
      go_wp2_with (first | ((with_reducible refine zj (f := 128) rfl ?_); refine zgo (some 23) Try.func128 #[.int .i64 a1] rfl ?_; (with_reducible refine (impl_RuneBidi.calls a1 t306 _ A8.out).mono ?_); rintro e w10 ⟨rfl, hb⟩; refine ⟨_, rfl, ?_⟩; have n0_ := za.mk (zg (by repeat (first | (with_reducible first | exact HB.out | apply zc | apply zb | apply zd) | exact HB.out)) hb); clear HB; have HB := n0_; clear n0_; (try clear hb); (try clear hb2); (try clear hk); (try clear hi)))
      go_ret
      exact ⟨by first | rfl | (simp [zh, zi] <;> rfl) | (simp [*, zh, zi] <;> rfl), by repeat (first | (with_reducible first | exact HB.out | apply zc | apply zb | apply zd) | exact HB.out)⟩
     ·rw [if_neg c9] at H
      have c9b0 : (t306 == 9) = false := beq_eq_false_iff_ne.mpr c9
      have c9b1 : (t306 != 9) = true := bne_iff_ne.mpr c9
      by_cases c11 : a1 = 8205
      ·rw [if_pos c11] at H
       have c11b0 : (a1 == 8205) = true := beq_iff_eq.mpr c11
       have c11b1 : (a1 != 8205) = false := bne_eq_false_iff_eq.mpr c11
       clear c11
       obtain rfl := Option.some.inj H
       go_wp2_with (first | ((with_reducible refine zj (f := 128) rfl ?_); refine zgo (some 23) Try.func128 #[.int .i64 a1] rfl ?_; (with_reducible refine (impl_RuneBidi.calls a1 t306 _ A8.out).mono ?_); rintro e w12 ⟨rfl, hb⟩; refine ⟨_, rfl, ?_⟩; have n0_ := za.mk (zg (by repeat (first | (with_reducible first | exact HB.out | apply zc | apply zb | apply zd) | exact HB.out)) hb); clear HB; have HB := n0_; clear n0_; (try clear hb); (try clear hb2); (try clear hk); (try clear hi)))
       go_ret
       exact ⟨by first | rfl | (simp [zh, zi] <;> rfl) | (simp [*, zh, zi] <;> rfl), by repeat (first | (with_reducible first | exact HB.out | apply zc | apply zb | apply zd) | exact HB.out)⟩
      ·rw [if_neg c11] at H
       have c11b0 : (a1 == 8205) = false := beq_eq_false_iff_ne.mpr c11
       have c11b1 : (a1 != 8205) = true := bne_iff_ne.mpr c11
       replace H := Option.bind_eq_some_iff.mp H
       obtain ⟨t307, A130, H⟩ := H
       replace H : (if t307 = true then (some (a0 == 3)) else (some false)) = some r := H
       have A13 := za.mk A130
       clear A130
       by_cases c14 : t307 = true
       ·subst c14
        have H1 : (some (a0 == 3)) = some r := by rw [if_pos rfl] at H; exact H
        clear H
        have H := H1
        clear H1
        obtain rfl := Option.some.inj H
        go_wp2_with (first | ((with_reducible refine zj (f := 128) rfl ?_); refine zgo (some 23) Try.func128 #[.int .i64 a1] rfl ?_; (with_reducible refine (impl_RuneBidi.calls a1 t306 _ A8.out).mono ?_); rintro e w15 ⟨rfl, hb⟩; refine ⟨_, rfl, ?_⟩; have n0_ := za.mk (zg (by repeat (first | (with_reducible first | exact HB.out | apply zc | apply zb | apply zd) | exact HB.out)) hb); clear HB; have HB := n0_; clear n0_; (try clear hb); (try clear hb2); (try clear hk); (try clear hi)) | ((with_reducible refine zj (f := 160) rfl ?_); refine zgo (some 30) Try.func160 #[.int .i64 a1] rfl ?_; (with_reducible refine (impl_isRegional.calls a1 true _ A13.out).mono ?_); rintro e w' ⟨rfl, ⟨nd, rfl⟩⟩; refine ⟨_, rfl, ?_⟩))
        go_ret
        exact ⟨by first | rfl | (simp [zh, zi] <;> rfl) | (simp [*, zh, zi] <;> rfl), by repeat (first | (with_reducible first | exact HB.out | apply zc | apply zb | apply zd) | exact HB.out)⟩
       ·replace c14 := Bool.eq_false_iff.mpr c14
        subst c14
        have H1 : (some false) = some r := by rw [if_neg (show ¬ (false = true) by decide)] at H; exact H
        clear H
        have H := H1
        clear H1
        obtain rfl := Option.some.inj H
        go_wp2_with (first | ((with_reducible refine zj (f := 128) rfl ?_); refine zgo (some 23) Try.func128 #[.int .i64 a1] rfl ?_; (with_reducible refine (impl_RuneBidi.calls a1 t306 _ A8.out).mono ?_); rintro e w16 ⟨rfl, hb⟩; refine ⟨_, rfl, ?_⟩; have n0_ := za.mk (zg (by repeat (first | (with_reducible first | exact HB.out | apply zc | apply zb | apply zd) | exact HB.out)) hb); clear HB; have HB := n0_; clear n0_; (try clear hb); (try clear hb2); (try clear hk); (try clear hi)) | ((with_reducible refine zj (f := 160) rfl ?_); refine zgo (some 30) Try.func160 #[.int .i64 a1] rfl ?_; (with_reducible refine (impl_isRegional.calls a1 false _ A13.out).mono ?_); rintro e w' ⟨rfl, ⟨nd, rfl⟩⟩; refine ⟨_, rfl, ?_⟩))
        go_ret
        exact ⟨by first | rfl | (simp [zh, zi] <;> rfl) | (simp [*, zh, zi] <;> rfl), by repeat (first | (with_reducible first | exact HB.out | apply zc | apply zb | apply zd) | exact HB.out)⟩
def impl_joining_next.j0 : Nat → Int → Bool → Option (Int)
 | 0, _, _ => none
 | k + 1, x1, x11 => if x11 = true then (some 4) else ((impl_isRegional.f x1).bind fun t309 => (if t309 = true then (some 3) else (some 5)))
def impl_joining_next.f (k : Nat) (a0 : Int) (a1 : Int) : Option (Int) := if a1 = 13 then (some 1) else (if a1 = 10 then (some 2) else ((impl_isRegional.f a1).bind fun t308 => (if t308 = true then (impl_joining_next.j0 k a1 (a0 == 3)) else (impl_joining_next.j0 k a1 false))))
theorem impl_joining_next.calls (k : Nat) (a0 : Int) (a1 : Int) (r : Int) (w : World) (h : impl_joining_next.f k a0 a1 = some r) :
  Calls Try.prog 127 #[.int .i64 a0, .int .i64 a1] w fun e w' => e = .returned (.int .i64 r) ∧ zm w w' := by
 have H : (if a1 = 13 then (some 1) else (if a1 = 10 then (some 2) else ((impl_isRegional.f a1).bind fun t308 => (if t308 = true then (impl_joining_next.j0 k a1 (a0 == 3)) else (impl_joining_next.j0 k a1 false))))) = some r := h
 clear h
 by_cases c3 : a1 = 13
 ·rw [if_pos c3] at H
  have c3b0 : (a1 == 13) = true := beq_iff_eq.mpr c3
  have c3b1 : (a1 != 13) = false := bne_eq_false_iff_eq.mpr c3
  clear c3
  obtain rfl := Option.some.inj H
  go_enter Try.func127, Try.ntmps127
  go_wp2
  go_ret
  exact ⟨by first | rfl | (simp; done) | (simp [*]; done), by repeat (first | exact zm.refl _ | apply zm.step)⟩
 ·rw [if_neg c3] at H
  have c3b0 : (a1 == 13) = false := beq_eq_false_iff_ne.mpr c3
  have c3b1 : (a1 != 13) = true := bne_iff_ne.mpr c3
  by_cases c4 : a1 = 10
  ·rw [if_pos c4] at H
   have c4b0 : (a1 == 10) = true := beq_iff_eq.mpr c4
   have c4b1 : (a1 != 10) = false := bne_eq_false_iff_eq.mpr c4
   clear c4
   obtain rfl := Option.some.inj H
   go_enter Try.func127, Try.ntmps127
   go_wp2
   go_ret
   exact ⟨by first | rfl | (simp; done) | (simp [*]; done), by repeat (first | exact zm.refl _ | apply zm.step)⟩
  ·rw [if_neg c4] at H
   have c4b0 : (a1 == 10) = false := beq_eq_false_iff_ne.mpr c4
   have c4b1 : (a1 != 10) = true := bne_iff_ne.mpr c4
   have HC5 := za.mk H
   clear H
   go_enter Try.func127, Try.ntmps127
   go_upto_region 5 with (fail)
   go_cut [11] (fun v11 wc => ∃ (kq : Nat) (x11_4 : Bool), v11 = .bool x11_4 ∧ za (impl_joining_next.j0 kq a1 x11_4 = some r) ∧ za (kq ≤ k) ∧ zm w wc)
   case first =>
    have H := HC5.out
    clear HC5
    replace H := Option.bind_eq_some_iff.mp H
    obtain ⟨t308, A60, H⟩ := H
    replace H : (if t308 = true then (impl_joining_next.j0 k a1 (a0 == 3)) else (impl_joining_next.j0 k a1 false)) = some r := H
    have A6 := za.mk A60
    clear A60
    by_cases c7 : t308 = true
    ·subst c7
     have H1 : (impl_joining_next.j0 k a1 (a0 == 3)) = some r := by rw [if_pos rfl] at H; exact H
     clear H
     have H := H1
     clear H1
     have H' := za.mk H
     clear H
     go_wp2_with (first | ((with_reducible refine zj (f := 160) rfl ?_); refine zgo (some 13) Try.func160 #[.int .i64 a1] rfl ?_; (with_reducible refine (impl_isRegional.calls a1 true _ A6.out).mono ?_); rintro e w' ⟨rfl, ⟨nd, rfl⟩⟩; refine ⟨_, rfl, ?_⟩))
     go_meet
     case rel => exact ⟨_, ((a0 == 3)), (by first | rfl | (simp; done) | (simp [*]; done)), H', ⟨by first | omega | exact Nat.le_refl _⟩, by repeat (first | exact zm.refl _ | apply zm.step)⟩
    ·replace c7 := Bool.eq_false_iff.mpr c7
     subst c7
     have H1 : (impl_joining_next.j0 k a1 false) = some r := by rw [if_neg (show ¬ (false = true) by decide)] at H; exact H
     clear H
     have H := H1
     clear H1
     have H' := za.mk H
     clear H
     go_wp2_with (first | ((with_reducible refine zj (f := 160) rfl ?_); refine zgo (some 13) Try.func160 #[.int .i64 a1] rfl ?_; (with_reducible refine (impl_isRegional.calls a1 false _ A6.out).mono ?_); rintro e w' ⟨rfl, ⟨nd, rfl⟩⟩; refine ⟨_, rfl, ?_⟩))
     go_meet
     case rel => exact ⟨_, (false), (by first | rfl | (simp; done) | (simp [*]; done)), H', ⟨by first | omega | exact Nat.le_refl _⟩, by repeat (first | exact zm.refl _ | apply zm.step)⟩
   case rest =>
    clear HC5
    try clear c1
    try clear p2
    try clear c3
    try clear c3b0
    try clear c3b1
    try clear c4
    try clear c4b0
    try clear c4b1
    try clear c7
    obtain ⟨kq, x11_4, rfl, HA, HJ4, ⟨mc4, rfl⟩⟩ := hcut
    cases kq with
    | zero => exact absurd HA.out (by simp [impl_joining_next.j0])
    | succ kj4 =>
     have H := HA.out
     clear HA
     simp only [impl_joining_next.j0] at H
     by_cases c8 : x11_4 = true
     ·subst c8
      have H1 : (some 4) = some r := by rw [if_pos rfl] at H; exact H
      clear H
      have H := H1
      clear H1
      obtain rfl := Option.some.inj H
      go_wp2
      go_ret
      exact ⟨by first | rfl | (simp; done) | (simp [*]; done), by repeat (first | exact zm.refl _ | apply zm.step)⟩
     ·replace c8 := Bool.eq_false_iff.mpr c8
      subst c8
      have H1 : ((impl_isRegional.f a1).bind fun t309 => (if t309 = true then (some 3) else (some 5))) = some r := by rw [if_neg (show ¬ (false = true) by decide)] at H; exact H
      clear H
      have H := H1
      clear H1
      replace H := Option.bind_eq_some_iff.mp H
      obtain ⟨t309, A90, H⟩ := H
      replace H : (if t309 = true then (some 3) else (some 5)) = some r := H
      have A9 := za.mk A90
      clear A90
      by_cases c10 : t309 = true
      ·subst c10
       have H1 : (some 3) = some r := by rw [if_pos rfl] at H; exact H
       clear H
       have H := H1
       clear H1
       obtain rfl := Option.some.inj H
       go_wp2_with (first | ((with_reducible refine zj (f := 160) rfl ?_); refine zgo (some 20) Try.func160 #[.int .i64 a1] rfl ?_; (with_reducible refine (impl_isRegional.calls a1 true _ A9.out).mono ?_); rintro e w' ⟨rfl, ⟨nd, rfl⟩⟩; refine ⟨_, rfl, ?_⟩))
       go_ret
       exact ⟨by first | rfl | (simp; done) | (simp [*]; done), by repeat (first | exact zm.refl _ | apply zm.step)⟩
      ·replace c10 := Bool.eq_false_iff.mpr c10
       subst c10
       have H1 : (some 5) = some r := by rw [if_neg (show ¬ (false = true) by decide)] at H; exact H
       clear H
       have H := H1
       clear H1
       obtain rfl := Option.some.inj H
       go_wp2_with (first | ((with_reducible refine zj (f := 160) rfl ?_); refine zgo (some 20) Try.func160 #[.int .i64 a1] rfl ?_; (with_reducible refine (impl_isRegional.calls a1 false _ A9.out).mono ?_); rintro e w' ⟨rfl, ⟨nd, rfl⟩⟩; refine ⟨_, rfl, ?_⟩))
       go_ret
       exact ⟨by first | rfl | (simp; done) | (simp [*]; done), by repeat (first | exact zm.refl _ | apply zm.step)⟩
def impl_joined.l0 : Nat → List Bool → Int → List Int → Int → Int → Option (List Bool)
 | 0, _, _, _, _, _ => none
 | k + 1, x3, x4, x7, x8, x9 => if x9 < x8 then (if 0 ≤ x9 then (if x9 < (x7.length : Int) then ((impl_joining_joins.f k x4 (rd x7 x9)).bind fun t311 => (if x3.length < 140737488355328 then ((impl_joining_next.f k x4 (rd x7 x9)).bind fun t315 => (impl_joined.l0 k (x3 ++ [t311]) t315 x7 x8 (wrap64 (x9 + 1)))) else (none))) else (none)) else (none)) else (some x3)
def impl_joined.f (k : Nat) (l0 : List Int) : Option (List Bool) := impl_joined.l0 k ([] : List Bool) 0 l0 (l0.length : Int) 0
theorem impl_joined.calls (k : Nat) (A0 : Option Addr) (c0 : Nat) (l0 : List Int) (r : List Bool) (w : World) (hr0 : Kd.C (Kd.int .i64) w A0 l0.length l0) (hc0 : l0.length ≤ c0) (h : impl_joined.f k l0 = some r) :
  Calls Try.prog 105 #[.slice A0 l0.length c0] w fun e w' => ∃ v0_ : Value, e = .returned (v0_) ∧ Kd.R Kd.bool 4 w' w.heap.size (fun _ => True) v0_ r ∧ Below w.heap.size w w' := by
 have HR0 := za.mk hr0
 have HC0 := za.mk hc0
 clear hr0 hc0
 have HB := za.mk (Below.refl w.heap.size w)
 have H : (impl_joined.l0 k ([] : List Bool) 0 l0 (l0.length : Int) 0) = some r := h
 clear h
 have H' := za.mk H
 clear H
 go_enter Try.func105, Try.ntmps105
 go_wp2
 go_loopg [3, 4, 9] k (fun kq v3 v4 v9 w' => ∃ (x3_1 : List Bool) (x4_1 : Int) (x9_1 : Int), v4 = .int .i64 x4_1 ∧ v9 = .int .i64 x9_1 ∧ za (impl_joined.l0 kq x3_1 x4_1 l0 (l0.length : Int) x9_1 = some r) ∧ za (kq ≤ k) ∧ za (Kd.R Kd.bool 4 w' w.heap.size (fun _ => True) v3 x3_1) ∧ za (Below w.heap.size w w'))
 case atStart => exact ⟨(([] : List Bool)), (0), (0), (by first | rfl | (simp; done) | (simp [*]; done)), (by first | rfl | (simp; done) | (simp [*]; done)), H', ⟨Nat.le_refl _⟩, ⟨by first | exact Kd.R_nil _ _ _ _ _ | exact Kd.N_nil _ _ _ _ _ | exact Kd.V_nil _ _ _ _ _ | exact Kd.Q_nil _ _ _ _ _ | exact Kd.S_nil _ _ _ _ _⟩, ⟨by repeat (first | (with_reducible first | exact HB.out | apply zc | apply zb | apply zd) | exact HB.out)⟩⟩
 case round =>
  clear H'
  try clear c1
  obtain ⟨x3_1, x4_1, x9_1, rfl, rfl, HA, HK1, HO_3, HB⟩ := hrel
  cases gk with
  | zero => exact absurd HA.out (by simp [impl_joined.l0])
  | succ k1 =>
   have H := HA.out
   clear HA
   simp only [impl_joined.l0] at H
   by_cases c2 : x9_1 < (l0.length : Int)
   ·rw [if_pos c2] at H
    have c2b0 : decide (x9_1 < (l0.length : Int)) = true := decide_eq_true c2
    clear c2
    by_cases c3 : 0 ≤ x9_1
    ·rw [if_pos c3] at H
     have c3b0 : decide (0 ≤ x9_1) = true := decide_eq_true c3
     clear c3
     by_cases c4 : x9_1 < (l0.length : Int)
     ·rw [if_pos c4] at H
      have c4b0 : decide (x9_1 < (l0.length : Int)) = true := decide_eq_true c4
      clear c4
      replace H := Option.bind_eq_some_iff.mp H
      obtain ⟨t311, A50, H⟩ := H
      replace H : (if x3_1.length < 140737488355328 then ((impl_joining_next.f k1 x4_1 (rd l0 x9_1)).bind fun t315 => (impl_joined.l0 k1 (x3_1 ++ [t311]) t315 l0 (l0.length : Int) (wrap64 (x9_1 + 1)))) else (none)) = some r := H
      have A5 := za.mk A50
      clear A50
      by_cases c6 : x3_1.length < 140737488355328
      ·rw [if_pos c6] at H
       have LMc6 := za.mk c6
       clear c6
       obtain ⟨y312, hy312⟩ : ∃ y_ : List Bool, y_ = (x3_1 ++ [t311]) := ⟨_, rfl⟩
       replace H : ((impl_joining_next.f k1 x4_1 (rd l0 x9_1)).bind fun t315 => (impl_joined.l0 k1 y312 t315 l0 (l0.length : Int) (wrap64 (x9_1 + 1)))) = some r := by first | (rw [hy312]; with_reducible exact H) | (have H2_ := (Option.bind_some _ _).symm.trans H; rw [hy312]; with_reducible exact H2_) | (have H2_ := (Option.bind_some _ _).symm.trans H; with_reducible exact H2_) | with_reducible exact H | (rw [hy312]; exact H) | exact H
       have Ny312 := za.mk hy312
       clear hy312
       replace H := Option.bind_eq_some_iff.mp H
       obtain ⟨t315, A70, H⟩ := H
       replace H : (impl_joined.l0 k1 y312 t315 l0 (l0.length : Int) (wrap64 (x9_1 + 1))) = some r := H
       have A7 := za.mk A70
       clear A70
       have H' := za.mk H
       clear H
       have p310 : 0 ≤ (x9_1 : Int) := of_decide_eq_true (by assumption)
       have q310 : x9_1 < (l0.length : Int) := of_decide_eq_true (by assumption)
       obtain ⟨ad310, e310, hx310_0⟩ := Kd.zfa HR0.out x9_1 p310 q310
       cases e310
       replace hx310_0 := (HB.out.cell (World.block_lt_of_cell? w _ hx310_0)).trans hx310_0
       replace p310 := eq_true p310
       replace q310 := eq_true q310
       go_wp2_with (first | ((with_reducible refine zj (f := 126) rfl ?_); refine zgo (some 16) Try.func126 #[.int .i64 x4_1, .int .i64 (rd l0 x9_1)] rfl ?_; (with_reducible refine (impl_joining_joins.calls k1 x4_1 (rd l0 x9_1) t311 _ A5.out).mono ?_); rintro e w8 ⟨rfl, hb⟩; refine ⟨_, rfl, ?_⟩; have n0_ := za.mk (Kd.zba (by (with_reducible repeat (first | apply Kd.zn | apply Kd.zo | apply Kd.zq)); exact HO_3.out) hb); have n1_ := za.mk (zg (by repeat (first | (with_reducible first | exact HB.out | apply zc | apply zb | apply zd) | exact HB.out)) hb); clear HO_3; clear HB; have HO_3 := n0_; have HB := n1_; clear n0_ n1_; (try clear hb); (try clear hb2); (try clear hk); (try clear hi)) | ((with_reducible refine zra (b := .append) (xs := #[.tmp 13, .tmp 17]) rfl ?_); at_builtin; refine Kd.zza Kd.bool (w0 := w) w.heap.size rfl (.tmp 13) (.tmp 17) 88 4 (.bool false) 1 rfl Try.underlying88 info4 rfl (by decide) (by omega) u3 x3_1 t311 [.bool t311] (fun _ => True) (fun _ => False) rfl rfl ?aP (fun _ hk => hk.elim) ?aF ?aO ?aB ?aS ?aL ?_; (case aP => exact rfl); (case aB => exact (by repeat (first | (with_reducible first | exact HB.out | apply zc | apply zb | apply zd) | exact HB.out))); (case aF => exact (fun _ _ => trivial)); (case aO => exact (by (with_reducible repeat (first | apply Kd.zn | apply Kd.zo | apply Kd.zq)); exact HO_3.out)); (case aS => exact (zp (by repeat (first | (with_reducible first | exact HB.out | apply zc | apply zb | apply zd) | exact HB.out)))); (case aL => have := LMc6.out; omega); intro v313 w9 ho hb hg hat; rw [← Ny312.out] at ho; have n0_ := za.mk (hb); have n1_ := za.mk (ho); clear HB; clear HO_3; have HB := n0_; have HO314 := n1_; clear n0_ n1_; clear ho hb hg hat) | ((with_reducible refine zj (f := 127) rfl ?_); refine zgo (some 21) Try.func127 #[.int .i64 x4_1, .int .i64 (rd l0 x9_1)] rfl ?_; (with_reducible refine (impl_joining_next.calls k1 x4_1 (rd l0 x9_1) t315 _ A7.out).mono ?_); rintro e w' ⟨rfl, ⟨nd, rfl⟩⟩; refine ⟨_, rfl, ?_⟩))
       go_roundg k1
       case measure => have := HK1.out; omega
       case rel => exact ⟨(y312), (t315), (wrap64 (x9_1 + 1)), (by first | rfl | (simp; done) | (simp [*]; done)), (by first | rfl | (simp; done) | (simp [*]; done)), H', ⟨by have := HK1.out; omega⟩, ⟨by (with_reducible repeat (first | apply Kd.zn | apply Kd.zo | apply Kd.zq)); exact HO314.out⟩, ⟨by repeat (first | (with_reducible first | exact HB.out | apply zc | apply zb | apply zd) | exact HB.out)⟩⟩
      ·rw [if_neg c6] at H
       exact absurd H (by simp)
     ·rw [if_neg c4] at H
      exact absurd H (by simp)
    ·rw [if_neg c3] at H
     exact absurd H (by simp)
   ·rw [if_neg c2] at H
    have c2b0 : decide (x9_1 < (l0.length : Int)) = false := decide_eq_false c2
    clear c2
    obtain rfl := Option.some.inj H
    go_wp2
    go_ret
    exact ⟨_, by first | rfl | (simp [zh, zi] <;> rfl) | (simp [*, zh, zi] <;> rfl), by (with_reducible repeat (first | apply Kd.zn | apply Kd.zo | apply Kd.zq)); exact HO_3.out, by repeat (first | (with_reducible first | exact HB.out | apply zc | apply zb | apply zd) | exact HB.out)⟩
end Go.Proofs.Ytmjhdgofepdgkaa.PFnExactFillCost
