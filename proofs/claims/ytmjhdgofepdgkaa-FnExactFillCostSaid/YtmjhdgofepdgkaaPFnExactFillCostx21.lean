-- Written by a program of this session (wip/tools) out of the translation; its shape is that of the kit print.
import Derived.Test.YtmjhdgofepdgkaaPFnExactFillCostx0
import Derived.Test.YtmjhdgofepdgkaaPFnExactFillCostx1
import Derived.Test.YtmjhdgofepdgkaaPFnExactFillCostx2
import Derived.Test.YtmjhdgofepdgkaaPFnExactFillCostx13
import Derived.Test.YtmjhdgofepdgkaaPFnExactFillCostx16
import Derived.Test.YtmjhdgofepdgkaaPFnExactFillCostx18
import Derived.Test.YtmjhdgofepdgkaaPFnExactFillCostx19
import Derived.Test.YtmjhdgofepdgkaaPFnExactFillCostx20
namespace Go.Proofs.Ytmjhdgofepdgkaa.PFnExactFillCost
open Go.RowKit Go.Proofs.YtmjhdgofepdgkaaW.PrintWords Go.Proofs.YtmjhdgofepdgkaaW.PrintLast Go.Proofs.YtmjhdgofepdgkaaW.PrintMore
attribute [local go_sem] zbb zcb zjb zkb zxa zya zdb zeb
set_option linter.unusedVariables false
set_option maxHeartbeats 8000000
set_option maxRecDepth 100000
set_option linter.unusedSimpArgs false
def impl_isWide.f (a0 : Int) : Option (Bool) := if a0 ≥ 0 then (some (decide (a0 ≤ 20000))) else (some false)
theorem impl_isWide.calls (a0 : Int) (r : Bool) (w : World) (h : impl_isWide.f a0 = some r) :
  Calls Try.prog 70 #[.int .i64 a0] w fun e w' => e = .returned (.bool r) ∧ zm w w' := by
 have H : (if a0 ≥ 0 then (some (decide (a0 ≤ 20000))) else (some false)) = some r := h
 clear h
 by_cases c2 : a0 ≥ 0
 ·rw [if_pos c2] at H
  have c2b0 : decide (0 ≤ a0) = true := decide_eq_true c2
  clear c2
  obtain rfl := Option.some.inj H
  go_enter Try.func70, Try.ntmps70
  go_wp2
  go_ret
  exact ⟨by first | rfl | (simp; done) | (simp [*]; done), by repeat (first | exact zm.refl _ | apply zm.step)⟩
 ·rw [if_neg c2] at H
  have c2b0 : decide (0 ≤ a0) = false := decide_eq_false c2
  clear c2
  obtain rfl := Option.some.inj H
  go_enter Try.func70, Try.ntmps70
  go_wp2
  go_ret
  exact ⟨by first | rfl | (simp; done) | (simp [*]; done), by repeat (first | exact zm.refl _ | apply zm.step)⟩
def impl_fillable.f (k : Nat) (l0 : List Int) (l1 : List (S40)) (a2 : Int) : Option (Bool) := (impl_lettersOk.f l0).bind fun t420 => (if t420 = true then ((impl_SpansOk.f k l1 (l0.length : Int)).bind fun t421 => (if t421 = true then ((impl_isWide.f a2).bind fun t422 => (some t422)) else (some false))) else (some false))
theorem impl_fillable.calls (k : Nat) (A0 : Option Addr) (c0 : Nat) (l0 : List Int) (A1 : Option Addr) (c1 : Nat) (l1 : List (S40)) (a2 : Int) (r : Bool) (w : World) (hr0 : Kd.C (Kd.int .i64) w A0 l0.length l0) (hc0 : l0.length ≤ c0) (hr1 : Kd.C k40 w A1 l1.length l1) (hc1 : l1.length ≤ c1) (h : impl_fillable.f k l0 l1 a2 = some r) :
  Calls Try.prog 90 #[.slice A0 l0.length c0, .slice A1 l1.length c1, .int .i64 a2] w fun e w' => e = .returned (.bool r) ∧ Below w.heap.size w w' := by
 have HR0 := za.mk hr0
 have HC0 := za.mk hc0
 clear hr0 hc0
 have HR1 := za.mk hr1
 have HC1 := za.mk hc1
 clear hr1 hc1
 have HB := za.mk (Below.refl w.heap.size w)
 have H : ((impl_lettersOk.f l0).bind fun t420 => (if t420 = true then ((impl_SpansOk.f k l1 (l0.length : Int)).bind fun t421 => (if t421 = true then ((impl_isWide.f a2).bind fun t422 => (some t422)) else (some false))) else (some false))) = some r := h
 clear h
 replace H := Option.bind_eq_some_iff.mp H
 obtain ⟨t420, A40, H⟩ := H
 replace H : (if t420 = true then ((impl_SpansOk.f k l1 (l0.length : Int)).bind fun t421 => (if t421 = true then ((impl_isWide.f a2).bind fun t422 => (some t422)) else (some false))) else (some false)) = some r := H
 have A4 := za.mk A40
 clear A40
 by_cases c5 : t420 = true
 ·subst c5
  have H1 : ((impl_SpansOk.f k l1 (l0.length : Int)).bind fun t421 => (if t421 = true then ((impl_isWide.f a2).bind fun t422 => (some t422)) else (some false))) = some r := by rw [if_pos rfl] at H; exact H
  clear H
  have H := H1
  clear H1
  replace H := Option.bind_eq_some_iff.mp H
  obtain ⟨t421, A60, H⟩ := H
  replace H : (if t421 = true then ((impl_isWide.f a2).bind fun t422 => (some t422)) else (some false)) = some r := H
  have A6 := za.mk A60
  clear A60
  by_cases c7 : t421 = true
  ·subst c7
   have H1 : ((impl_isWide.f a2).bind fun t422 => (some t422)) = some r := by rw [if_pos rfl] at H; exact H
   clear H
   have H := H1
   clear H1
   replace H := Option.bind_eq_some_iff.mp H
   obtain ⟨t422, A80, H⟩ := H
   replace H : (some t422) = some r := H
   have A8 := za.mk A80
   clear A80
   obtain rfl := Option.some.inj H
   go_enter Try.func90, Try.ntmps90
   go_wp2_with (first | ((with_reducible refine zj (f := 53) rfl ?_); refine zgo (some 8) Try.func53 #[.slice A0 l0.length c0] rfl ?_; (with_reducible refine (impl_lettersOk.calls _ _ l0 true _ ?side1 ?side2 A4.out).mono ?_); (case side1 => repeat (first | exact HR0.out | (with_reducible refine Kd.zea ?_ _) | (with_reducible refine Kd.zga ?_ _) | (with_reducible refine Kd.zha ?_))); (case side2 => exact HC0.out); rintro e w' ⟨rfl, ⟨nd, rfl⟩⟩; refine ⟨_, rfl, ?_⟩) | (go_at_call 54; (with_reducible refine (impl_SpansOk.calls k _ _ l1 (l0.length : Int) true _ ?side1 ?side2 A6.out).mono ?_); (case side1 => repeat (first | exact HR1.out | (with_reducible refine Kd.zea ?_ _) | (with_reducible refine Kd.zga ?_ _) | (with_reducible refine Kd.zha ?_))); (case side2 => exact HC1.out); rintro e w9 ⟨rfl, hb⟩; have n0_ := za.mk (zg (by repeat (first | (with_reducible first | exact HB.out | apply zc | apply zb | apply zd) | exact HB.out)) hb); clear HB; have HB := n0_; clear n0_; (try clear hb); (try clear hb2); (try clear hk); (try clear hi)) | (go_at_call 70; (with_reducible refine (impl_isWide.calls a2 t422 _ A8.out).mono ?_); rintro e w' ⟨rfl, ⟨nd, rfl⟩⟩))
   go_ret
   exact ⟨by first | rfl | (simp [zh, zi] <;> rfl) | (simp [*, zh, zi] <;> rfl), by repeat (first | (with_reducible first | exact HB.out | apply zc | apply zb | apply zd) | exact HB.out)⟩
  ·replace c7 := Bool.eq_false_iff.mpr c7
   subst c7
   have H1 : (some false) = some r := by rw [if_neg (show ¬ (false = true) by decide)] at H; exact H
   clear H
   have H := H1
   clear H1
   obtain rfl := Option.some.inj H
   go_enter Try.func90, Try.ntmps90
   go_wp2_with (first | ((with_reducible refine zj (f := 53) rfl ?_); refine zgo (some 8) Try.func53 #[.slice A0 l0.length c0] rfl ?_; (with_reducible refine (impl_lettersOk.calls _ _ l0 true _ ?side1 ?side2 A4.out).mono ?_); (case side1 => repeat (first | exact HR0.out | (with_reducible refine Kd.zea ?_ _) | (with_reducible refine Kd.zga ?_ _) | (with_reducible refine Kd.zha ?_))); (case side2 => exact HC0.out); rintro e w' ⟨rfl, ⟨nd, rfl⟩⟩; refine ⟨_, rfl, ?_⟩) | (go_at_call 54; (with_reducible refine (impl_SpansOk.calls k _ _ l1 (l0.length : Int) false _ ?side1 ?side2 A6.out).mono ?_); (case side1 => repeat (first | exact HR1.out | (with_reducible refine Kd.zea ?_ _) | (with_reducible refine Kd.zga ?_ _) | (with_reducible refine Kd.zha ?_))); (case side2 => exact HC1.out); rintro e w10 ⟨rfl, hb⟩; have n0_ := za.mk (zg (by repeat (first | (with_reducible first | exact HB.out | apply zc | apply zb | apply zd) | exact HB.out)) hb); clear HB; have HB := n0_; clear n0_; (try clear hb); (try clear hb2); (try clear hk); (try clear hi)))
   go_ret
   exact ⟨by first | rfl | (simp [zh, zi] <;> rfl) | (simp [*, zh, zi] <;> rfl), by repeat (first | (with_reducible first | exact HB.out | apply zc | apply zb | apply zd) | exact HB.out)⟩
 ·replace c5 := Bool.eq_false_iff.mpr c5
  subst c5
  have H1 : (some false) = some r := by rw [if_neg (show ¬ (false = true) by decide)] at H; exact H
  clear H
  have H := H1
  clear H1
  obtain rfl := Option.some.inj H
  go_enter Try.func90, Try.ntmps90
  go_wp2_with (first | ((with_reducible refine zj (f := 53) rfl ?_); refine zgo (some 8) Try.func53 #[.slice A0 l0.length c0] rfl ?_; (with_reducible refine (impl_lettersOk.calls _ _ l0 false _ ?side1 ?side2 A4.out).mono ?_); (case side1 => repeat (first | exact HR0.out | (with_reducible refine Kd.zea ?_ _) | (with_reducible refine Kd.zga ?_ _) | (with_reducible refine Kd.zha ?_))); (case side2 => exact HC0.out); rintro e w' ⟨rfl, ⟨nd, rfl⟩⟩; refine ⟨_, rfl, ?_⟩))
  go_ret
  exact ⟨by first | rfl | (simp [zh, zi] <;> rfl) | (simp [*, zh, zi] <;> rfl), by repeat (first | (with_reducible first | exact HB.out | apply zc | apply zb | apply zd) | exact HB.out)⟩
def impl_endsOk.l0 : Nat → Int → Int → List Int → Int → Int → Option (Bool)
 | 0, _, _, _, _, _ => none
 | k + 1, x1, x5, x8, x9, x10 => if x10 < x9 then (if 0 ≤ x10 then (if x10 < (x8.length : Int) then (if (rd x8 x10) ≤ x5 then (some false) else (impl_endsOk.l0 k x1 (rd x8 x10) x8 x9 (wrap64 (x10 + 1)))) else (none)) else (none)) else (some (x5 == x1))
def impl_endsOk.f (k : Nat) (l0 : List Int) (a1 : Int) : Option (Bool) := impl_endsOk.l0 k a1 0 l0 (l0.length : Int) 0
theorem impl_endsOk.calls (k : Nat) (A0 : Option Addr) (c0 : Nat) (l0 : List Int) (a1 : Int) (r : Bool) (w : World) (hr0 : Kd.C (Kd.int .i64) w A0 l0.length l0) (hc0 : l0.length ≤ c0) (h : impl_endsOk.f k l0 a1 = some r) :
  Calls Try.prog 91 #[.slice A0 l0.length c0, .int .i64 a1] w fun e w' => e = .returned (.bool r) ∧ zm w w' := by
 have HR0 := za.mk hr0
 have HC0 := za.mk hc0
 clear hr0 hc0
 have H : (impl_endsOk.l0 k a1 0 l0 (l0.length : Int) 0) = some r := h
 clear h
 have H' := za.mk H
 clear H
 go_enter Try.func91, Try.ntmps91
 go_wp2
 go_loopg [5, 10] k (fun kq v5 v10 w' => ∃ (x5_1 : Int) (x10_1 : Int), v5 = .int .i64 x5_1 ∧ v10 = .int .i64 x10_1 ∧ za (impl_endsOk.l0 kq a1 x5_1 l0 (l0.length : Int) x10_1 = some r) ∧ za (kq ≤ k) ∧ zm w w')
 case atStart => exact ⟨(0), (0), (by first | rfl | (simp; done) | (simp [*]; done)), (by first | rfl | (simp; done) | (simp [*]; done)), H', ⟨Nat.le_refl _⟩, by repeat (first | exact zm.refl _ | apply zm.step)⟩
 case round =>
  clear H'
  try clear p2
  obtain ⟨x5_1, x10_1, rfl, rfl, HA, HK1, ⟨m1, rfl⟩⟩ := hrel
  cases gk with
  | zero => exact absurd HA.out (by simp [impl_endsOk.l0])
  | succ k1 =>
   have H := HA.out
   clear HA
   simp only [impl_endsOk.l0] at H
   by_cases c3 : x10_1 < (l0.length : Int)
   ·rw [if_pos c3] at H
    have c3b0 : decide (x10_1 < (l0.length : Int)) = true := decide_eq_true c3
    clear c3
    by_cases c4 : 0 ≤ x10_1
    ·rw [if_pos c4] at H
     have c4b0 : decide (0 ≤ x10_1) = true := decide_eq_true c4
     clear c4
     by_cases c5 : x10_1 < (l0.length : Int)
     ·rw [if_pos c5] at H
      have c5b0 : decide (x10_1 < (l0.length : Int)) = true := decide_eq_true c5
      clear c5
      by_cases c6 : (rd l0 x10_1) ≤ x5_1
      ·rw [if_pos c6] at H
       have c6b0 : decide ((rd l0 x10_1) ≤ x5_1) = true := decide_eq_true c6
       clear c6
       obtain rfl := Option.some.inj H
       have p423 : 0 ≤ (x10_1 : Int) := of_decide_eq_true (by assumption)
       have q423 : x10_1 < (l0.length : Int) := of_decide_eq_true (by assumption)
       obtain ⟨ad423, e423, hx423_0⟩ := Kd.zfa HR0.out x10_1 p423 q423
       cases e423
       replace p423 := eq_true p423
       replace q423 := eq_true q423
       go_wp2
       go_ret
       exact ⟨by first | rfl | (simp; done) | (simp [*]; done), by repeat (first | exact zm.refl _ | apply zm.step)⟩
      ·rw [if_neg c6] at H
       have c6b0 : decide ((rd l0 x10_1) ≤ x5_1) = false := decide_eq_false c6
       clear c6
       have H' := za.mk H
       clear H
       have p423 : 0 ≤ (x10_1 : Int) := of_decide_eq_true (by assumption)
       have q423 : x10_1 < (l0.length : Int) := of_decide_eq_true (by assumption)
       obtain ⟨ad423, e423, hx423_0⟩ := Kd.zfa HR0.out x10_1 p423 q423
       cases e423
       replace p423 := eq_true p423
       replace q423 := eq_true q423
       go_wp2
       go_roundg k1
       case measure => have := HK1.out; omega
       case rel => exact ⟨(rd l0 x10_1), (wrap64 (x10_1 + 1)), (by first | rfl | (simp; done) | (simp [*]; done)), (by first | rfl | (simp; done) | (simp [*]; done)), H', ⟨by have := HK1.out; omega⟩, by repeat (first | exact zm.refl _ | apply zm.step)⟩
     ·rw [if_neg c5] at H
      exact absurd H (by simp)
    ·rw [if_neg c4] at H
     exact absurd H (by simp)
   ·rw [if_neg c3] at H
    have c3b0 : decide (x10_1 < (l0.length : Int)) = false := decide_eq_false c3
    clear c3
    obtain rfl := Option.some.inj H
    go_wp2
    go_ret
    exact ⟨by first | rfl | (simp; done) | (simp [*]; done), by repeat (first | exact zm.refl _ | apply zm.step)⟩
def impl_FillCost.cost (k : Nat) (l0 lw lb : List Int) (wd a b : Int) : Option Int :=
 if 0 ≤ wrap64 (b - 1) ∧ wrap64 (b - 1) < (lb.length : Int) then
  (if rd lb (wrap64 (b - 1)) = 2 then some 0 else (impl_lineWide.f k l0 lw a b).bind fun t => some (wrap64 (wrap64 (wd - t) * wrap64 (wd - t))))
 else none
def impl_FillCost.go (k : Nat) (l0 lw lb : List Int) (wd : Int) : List Int → Int → Int → Option Int
 | [], n, _ => some n
 | e :: es, n, a => (impl_FillCost.cost k l0 lw lb wd a e).bind fun c => impl_FillCost.go k l0 lw lb wd es (wrap64 (n + c)) e
def impl_FillCost.f (k : Nat) (l0 : List Int) (l1 : List S40) (a2 : Int) (l3 : List Int) : Option (Int × Bool) :=
 (impl_fillable.f k l0 l1 a2).bind fun t => (if t = true then ((impl_endsOk.f k l3 (l0.length : Int)).bind fun u => (if u = true then ((impl_widesOf.f k l0 l1).bind fun lw => ((impl_breaks.f k l0).bind fun lb => (if l3.length < 17592186044416 then ((impl_FillCost.go k l0 lw lb a2 l3 0 0).bind fun n => some (n, true)) else none))) else some (0, false))) else some (0, false))
structure impl_FillCost.At (g : Nat) (A0 : Option Addr) (c0 : Nat) (l0 lw lb : List Int) (wd : Int) (W : World) : Prop where
 at_ : ∃ A1 c1 A2 c2, W.heap[g]? = some (.cells #[.slice A0 l0.length c0, .slice A1 lw.length c1, .slice A2 lb.length c2, .int .i64 wd] 107 (0, 0)) ∧ Kd.C (Kd.int .i64) W A1 lw.length lw ∧ lw.length ≤ c1 ∧ Kd.C (Kd.int .i64) W A2 lb.length lb ∧ lb.length ≤ c2
theorem impl_FillCost.At.below {g : Nat} {A0 : Option Addr} {c0 : Nat} {l0 lw lb : List Int} {wd : Int} {W W' : World} (h : impl_FillCost.At g A0 c0 l0 lw lb wd W) (hb : Below W.heap.size W W') : impl_FillCost.At g A0 c0 l0 lw lb wd W' := by
 obtain ⟨A1, c1, A2, c2, hg, h1, hc1, h2, hc2⟩ := h
 exact ⟨A1, c1, A2, c2, (hb.block g (zta hg)).trans hg, Kd.zka h1 hb, hc1, Kd.zka h2 hb, hc2⟩
theorem impl_FillCost.made (k : Nat) (A0 : Option Addr) (c0 : Nat) (l0 : List Int) (A1 : Option Addr) (c1 : Nat) (l1 : List S40) (a2 : Int) (lw lb : List Int) (w : World) (hr0 : Kd.C (Kd.int .i64) w A0 l0.length l0) (hc0 : l0.length ≤ c0) (hr1 : Kd.C k40 w A1 l1.length l1) (hc1 : l1.length ≤ c1) (hw : impl_widesOf.f k l0 l1 = some lw) (hb : impl_breaks.f k l0 = some lb) :
  Calls Try.prog 92 #[.slice A0 l0.length c0, .slice A1 l1.length c1, .int .i64 a2] w fun e w' => ∃ g, e = .returned (.pointer (some ⟨g, 0, none⟩)) ∧ impl_FillCost.At g A0 c0 l0 lw lb a2 w' ∧ Below w.heap.size w w' := by
 have hu := Try.underlying107
 have hu2 := Try.underlying81
 have HR0 := za.mk hr0
 have HC0 := za.mk hc0
 have HR1 := za.mk hr1
 have HC1 := za.mk hc1
 have HW := za.mk hw
 have HK := za.mk hb
 clear hr0 hc0 hr1 hc1 hw hb
 go_enter Try.func92, Try.ntmps92
 go_wp2_with (first
  | (go_at_call 55; refine (impl_widesOf.calls k A0 c0 l0 A1 c1 l1 lw _ HR0.out HC0.out HR1.out HC1.out HW.out).mono ?_; rintro e w1 ⟨v1, rfl, hr1, hb1⟩; obtain ⟨A5, c5, e5, hc5, hC5⟩ := Kd.R_reads hr1; subst e5; have HB1 := za.mk hb1; have HC5 := za.mk hc5; have HD5 := za.mk hC5; clear hr1 hb1 hc5 hC5)
  | (go_at_call 77; refine (impl_breaks.calls k A0 c0 l0 lb _ (Kd.zka HR0.out HB1.out) HC0.out HK.out).mono ?_; rintro e w2 ⟨v2, rfl, hr2, hb2⟩; obtain ⟨A6, c6, e6, hc6, hC6⟩ := Kd.R_reads hr2; subst e6; have HB2 := za.mk (zg HB1.out hb2); have HC6 := za.mk hc6; have HD6 := za.mk hC6; have HE5 := za.mk (Kd.zka HD5.out hb2); clear hr2 hb2 hc6 hC6))
 go_ret
 exact ⟨_, rfl, ⟨A5, c5, A6, c6, blk_new _ _, Kd.zea HE5.out _, HC5.out, Kd.zea HD6.out _, HC6.out⟩, HB2.out.alloc HB2.out.size _⟩
theorem impl_FillCost.costs (k : Nat) (g : Nat) (A0 : Option Addr) (c0 : Nat) (l0 lw lb : List Int) (wd a b r : Int) (w : World) (h : impl_FillCost.At g A0 c0 l0 lw lb wd w) (hr0 : Kd.C (Kd.int .i64) w A0 l0.length l0) (hc0 : l0.length ≤ c0) (hr : impl_FillCost.cost k l0 lw lb wd a b = some r) :
  Calls Try.prog 93 #[.pointer (some ⟨g, 0, none⟩), .int .i64 a, .int .i64 b] w fun e w' => e = .returned (.int .i64 r) ∧ Below w.heap.size w w' := by
 have hu := Try.underlying107
 have hu22 := Try.underlying22
 have hu2 := Try.underlying81
 unfold impl_FillCost.cost at hr
 by_cases hin : 0 ≤ wrap64 (b - 1) ∧ wrap64 (b - 1) < (lb.length : Int)
 ·rw [if_pos hin] at hr
  obtain ⟨p1, p2⟩ := hin
  obtain ⟨A1, c1, A2, c2, hg, h1, hc1, h2, hc2⟩ := h
  have x0 : w.cell? ⟨g, 0, none⟩ = some (Value.slice A0 l0.length c0) := (zf hg 0).trans rfl
  have x1 : w.cell? ⟨g, 1, none⟩ = some (Value.slice A1 lw.length c1) := (zf hg 1).trans rfl
  have x2 : w.cell? ⟨g, 2, none⟩ = some (Value.slice A2 lb.length c2) := (zf hg 2).trans rfl
  have x3 : w.cell? ⟨g, 3, none⟩ = some (Value.int .i64 wd) := (zf hg 3).trans rfl
  obtain ⟨ad, e1, hx⟩ := Kd.zfa h2 (wrap64 (b - 1)) p1 p2
  cases e1
  have HR0 := za.mk hr0
  have HC0 := za.mk hc0
  have HR1 := za.mk h1
  have HC1 := za.mk hc1
  have HG := za.mk hg
  have HH := za.mk hr
  clear hr0 hc0 h1 hc1 h2 hc2 hg hr
  by_cases h2 : rd lb (wrap64 (b - 1)) = 2
  ·have h2b : (rd lb (wrap64 (b - 1)) == 2) = true := beq_iff_eq.2 h2
   have hr := HH.out
   rw [if_pos h2] at hr
   cases hr
   clear HH h2
   go_enter Try.func93, Try.ntmps93
   go_wp2
   go_ret
   exact ⟨rfl, Below.refl _ _⟩
  ·have h2b : (rd lb (wrap64 (b - 1)) == 2) = false := beq_eq_false_iff_ne.2 h2
   have hr := HH.out
   rw [if_neg h2] at hr
   obtain ⟨t, ht, hr2⟩ := Option.bind_eq_some_iff.mp hr
   cases hr2
   have HT := za.mk ht
   clear HH h2 hr ht
   go_enter Try.func93, Try.ntmps93
   go_wp2
   go_region_with (first | (go_at_call 72; refine (impl_lineWide.calls k A0 c0 l0 A1 c1 lw a b t _ (Kd.zha HR0.out) HC0.out (Kd.zha HR1.out) HC1.out HT.out).mono ?_; rintro e w1 ⟨rfl, hb1⟩; have HB1 := za.mk (zg (below_drew (Below.refl _ _)) hb1); have x3' : w1.cell? ⟨g, 3, none⟩ = some (Value.int .i64 wd) := (zf ((hb1.block g (zta HG.out)).trans HG.out) 3).trans rfl; clear hb1))
   all_goals go_wp2
   all_goals go_ret
   all_goals exact ⟨rfl, HB1.out⟩
 ·rw [if_neg hin] at hr
  exact absurd hr (by simp)
theorem impl_FillCost.calls (k : Nat) (A0 : Option Addr) (c0 : Nat) (l0 : List Int) (A1 : Option Addr) (c1 : Nat) (l1 : List S40) (a2 : Int) (A3 : Option Addr) (c3 : Nat) (l3 : List Int) (r1 : Int) (r2 : Bool) (w : World) (hr0 : Kd.C (Kd.int .i64) w A0 l0.length l0) (hc0 : l0.length ≤ c0) (hr1 : Kd.C k40 w A1 l1.length l1) (hc1 : l1.length ≤ c1) (hr3 : Kd.C (Kd.int .i64) w A3 l3.length l3) (hc3 : l3.length ≤ c3) (h : impl_FillCost.f k l0 l1 a2 l3 = some (r1, r2)) :
  Calls Try.prog 48 #[.slice A0 l0.length c0, .slice A1 l1.length c1, .int .i64 a2, .slice A3 l3.length c3] w fun e w' => e = .returned (.tuple #[.int .i64 r1, .bool r2]) ∧ Below w.heap.size w w' := by
 have hu := Try.underlying107
 have hu22 := Try.underlying22
 have hu2 := Try.underlying81
 unfold impl_FillCost.f at h
 obtain ⟨t, ht, h'⟩ := Option.bind_eq_some_iff.mp h
 clear h
 have h := h'
 clear h'
 have HR0 := za.mk hr0
 have HC0 := za.mk hc0
 have HR1 := za.mk hr1
 have HC1 := za.mk hc1
 have HR3 := za.mk hr3
 have HC3 := za.mk hc3
 have HA := za.mk ht
 clear hr0 hc0 hr1 hc1 hr3 hc3 ht
 cases t with
 | false =>
  cases Option.some.inj h
  clear h
  go_enter Try.func48, Try.ntmps48
  go_wp2_with (go_at_call 90; refine (impl_fillable.calls k A0 c0 l0 A1 c1 l1 a2 false _ HR0.out HC0.out HR1.out HC1.out HA.out).mono ?_; rintro e w1 ⟨rfl, hb1⟩; have HB1 := za.mk hb1; clear hb1)
  go_ret2
  exact ⟨rfl, HB1.out⟩
 | true =>
  rw [if_pos rfl] at h
  obtain ⟨u, hu, h'⟩ := Option.bind_eq_some_iff.mp h
  clear h
  have h := h'
  clear h'
  have HE := za.mk hu
  clear hu
  cases u with
  | false =>
   cases Option.some.inj h
   clear h
   go_enter Try.func48, Try.ntmps48
   go_wp2_with (first
    | (go_at_call 90; refine (impl_fillable.calls k A0 c0 l0 A1 c1 l1 a2 true _ HR0.out HC0.out HR1.out HC1.out HA.out).mono ?_; rintro e w1 ⟨rfl, hb1⟩; have HB1 := za.mk hb1; clear hb1)
    | (go_at_call 91; refine (impl_endsOk.calls k A3 c3 l3 _ false _ (Kd.zka HR3.out HB1.out) HC3.out HE.out).mono ?_; rintro e w2 ⟨rfl, hd2⟩; have hb2 : Below w1.heap.size w1 w2 := (by obtain ⟨nd, e2⟩ := hd2; first | (rw [e2]; apply zb; exact Below.refl _ _) | exact hd2); have HB2 := za.mk (zg HB1.out hb2); clear hb2 hd2))
   go_ret2
   exact ⟨rfl, HB2.out⟩
  | true =>
   rw [if_pos rfl] at h
   obtain ⟨lw, hlw, h'⟩ := Option.bind_eq_some_iff.mp h
   clear h
   obtain ⟨lb, hlb, h⟩ := Option.bind_eq_some_iff.mp h'
   clear h'
   have hlen : l3.length < 17592186044416 := Classical.byContradiction fun hno => by rw [if_neg hno] at h; exact absurd h (by simp)
   rw [if_pos hlen] at h
   obtain ⟨n, hn, h'⟩ := Option.bind_eq_some_iff.mp h
   clear h
   have HLEN := za.mk hlen
   clear hlen
   cases Option.some.inj h'
   clear h'
   have HW := za.mk hlw
   have HK := za.mk hlb
   have HN := za.mk hn
   clear hlw hlb hn
   go_enter Try.func48, Try.ntmps48
   go_wp2_with (first
    | (go_at_call 90; refine (impl_fillable.calls k A0 c0 l0 A1 c1 l1 a2 true _ HR0.out HC0.out HR1.out HC1.out HA.out).mono ?_; rintro e w1 ⟨rfl, hb1⟩; have HB1 := za.mk hb1; clear hb1)
    | (go_at_call 91; refine (impl_endsOk.calls k A3 c3 l3 _ true _ (Kd.zka HR3.out HB1.out) HC3.out HE.out).mono ?_; rintro e w2 ⟨rfl, hd2⟩; have hb2 : Below w1.heap.size w1 w2 := (by obtain ⟨nd, e2⟩ := hd2; first | (rw [e2]; apply zb; exact Below.refl _ _) | exact hd2); have HB2 := za.mk (zg HB1.out hb2); clear hb2 hd2)
    | (go_at_call 92; refine (impl_FillCost.made k A0 c0 l0 A1 c1 l1 a2 lw lb _ (Kd.zka HR0.out HB2.out) HC0.out (Kd.zka HR1.out HB2.out) HC1.out HW.out HK.out).mono ?_; rintro e w3 ⟨g, rfl, hg3, hb3⟩; have HB3 := za.mk (zg HB2.out hb3); have HG3 := za.mk hg3; clear hb3 hg3))
   go_loopg [11, 12, 33] l3.length (fun kq v11 v12 v13 wr => ∃ (i : Nat) (m a : Int), v11 = .int .i64 m ∧ v12 = .int .i64 a ∧ v13 = .int .i64 (i : Int) ∧ za (kq + i = l3.length) ∧ za (impl_FillCost.At g A0 c0 l0 lw lb a2 wr) ∧ za (impl_FillCost.go k l0 lw lb a2 (l3.drop i) m a = some r1) ∧ za (Below w.heap.size w wr))
   case atStart => exact ⟨0, 0, 0, rfl, rfl, rfl, ⟨by omega⟩, HG3, HN, HB3⟩
   case round =>
    obtain ⟨i, m, a, rfl, rfl, rfl, HI, HG, HH, HB⟩ := hrel
    cases gk with
    | zero =>
     have hi : i = l3.length := by have := HI.out; omega
     subst hi
     have hdec : decide ((l3.length : Int) < (l3.length : Int)) = false := by simp
     have h1 := HH.out
     rw [List.drop_length] at h1
     cases Option.some.inj h1
     clear h1
     go_wp2
     go_ret2
     exact ⟨rfl, HB.out⟩
    | succ k1 =>
     have hi : i < l3.length := by have := HI.out; omega
     have hdec : decide ((i : Int) < (l3.length : Int)) = true := decide_eq_true (by omega)
     have p1 : (0 : Int) ≤ (i : Int) := by omega
     have p2 : (i : Int) < (l3.length : Int) := by omega
     obtain ⟨ad, e1, hx⟩ := Kd.zfa (Kd.zka HR3.out HB.out) (i : Int) p1 p2
     cases e1
     rw [Int.toNat_natCast] at hx
     have h1 := HH.out
     rw [List.drop_eq_getElem_cons hi] at h1
     rw [show rd l3 (i : Int) = l3[i] from by unfold rd; rw [Int.toNat_natCast, List.getD_eq_getElem?_getD, List.getElem?_eq_getElem hi]; rfl] at hx
     obtain ⟨c, hc, h2⟩ := Option.bind_eq_some_iff.mp h1
     generalize l3[i] = e at hx h1 hc h2
     have HC := za.mk hc
     have H2 := za.mk h2
     clear h1 hc h2 HH
     have hwr : wrap64 ((i : Int) + 1) = ((i + 1 : Nat) : Int) := by have := HLEN.out; unfold wrap64; omega
     have HWR := za.mk hwr
     clear hwr
     go_wp2_with (go_at_call 93; refine (impl_FillCost.costs k g A0 c0 l0 lw lb a2 a e c _ HG.out (Kd.zka HR0.out HB.out) HC0.out HC.out).mono ?_; rintro e_ w5 ⟨rfl, hb5⟩; have HB5 := za.mk (zg HB.out hb5); have HG5 := za.mk (HG.out.below hb5); have hx5 := ze hb5 hx; clear hb5)
     go_roundg k1
     case measure => omega
     case rel =>
      exact ⟨i + 1, _, _, rfl, rfl, by rw [← HWR.out], ⟨by have := HI.out; omega⟩, HG5, H2, HB5⟩
def laws_FnExactFillCost.j0 : Nat → List Int → List (S59) → List Int → List Int → List (S40) → List Int → Bool → Option (Bool)
 | 0, _, _, _, _, _, _, _ => none
 | k + 1, x0, x1, x3, x12, x13, x14, x60 => if x60 = true then (some false) else ((laws_toIntS.f k x0).bind fun t447 => ((laws_eqIntS.f k x12 t447).bind fun t450 => (if t450 = true then ((laws_toSpanS.f k x1).bind fun t451 => ((laws_eqSpanS.f k x13 t451).bind fun t454 => (if t454 = true then ((laws_toIntS.f k x3).bind fun t455 => ((laws_eqIntS.f k x14 t455).bind fun t458 => (if t458 = true then (some true) else (some false)))) else (some false)))) else (some false))))
def laws_FnExactFillCost.f (k : Nat) (l0 : List Int) (l1 : List (S59)) (a2 : Int) (l3 : List Int) : Option (Bool) := if (l0.length : Int) > 1048576 then (some true) else (if (l3.length : Int) > 1048576 then (some true) else ((laws_szSpanS.f l1 1048576).bind fun t424 => (if t424 < 0 then (some true) else ((laws_toIntS.f k l0).bind fun t425 => ((laws_toSpanS.f k l1).bind fun t428 => ((laws_toIntS.f k l3).bind fun t431 => ((spec_FillCost.f k t425 t428 a2 t431).bind fun bt434 => ((laws_toIntS.f k l0).bind fun t436 => ((laws_toSpanS.f k l1).bind fun t439 => ((laws_toIntS.f k l3).bind fun t442 => ((impl_FillCost.f k t436 t439 a2 t442).bind fun bt445 => (if bt445.1 = bt434.1 then (laws_FnExactFillCost.j0 k l0 l1 l3 t436 t439 t442 (bt445.2 != bt434.2)) else (laws_FnExactFillCost.j0 k l0 l1 l3 t436 t439 t442 true)))))))))))))
theorem laws_FnExactFillCost.calls (k : Nat) (A0 : Option Addr) (c0 : Nat) (l0 : List Int) (A1 : Option Addr) (c1 : Nat) (l1 : List (S59)) (a2 : Int) (A3 : Option Addr) (c3 : Nat) (l3 : List Int) (r : Bool) (w : World) (hr0 : Kd.C (Kd.int .i64) w A0 l0.length l0) (hc0 : l0.length ≤ c0) (hr1 : Kd.C k59 w A1 l1.length l1) (hc1 : l1.length ≤ c1) (hr3 : Kd.C (Kd.int .i64) w A3 l3.length l3) (hc3 : l3.length ≤ c3) (h : laws_FnExactFillCost.f k l0 l1 a2 l3 = some r) :
  Calls Try.prog 13 #[.slice A0 l0.length c0, .slice A1 l1.length c1, .int .i64 a2, .slice A3 l3.length c3] w fun e w' => e = .returned (.bool r) ∧ Below w.heap.size w w' := by
 have HR0 := za.mk hr0
 have HC0 := za.mk hc0
 clear hr0 hc0
 have HR1 := za.mk hr1
 have HC1 := za.mk hc1
 clear hr1 hc1
 have HR3 := za.mk hr3
 have HC3 := za.mk hc3
 clear hr3 hc3
 have HB := za.mk (Below.refl w.heap.size w)
 have H : (if (l0.length : Int) > 1048576 then (some true) else (if (l3.length : Int) > 1048576 then (some true) else ((laws_szSpanS.f l1 1048576).bind fun t424 => (if t424 < 0 then (some true) else ((laws_toIntS.f k l0).bind fun t425 => ((laws_toSpanS.f k l1).bind fun t428 => ((laws_toIntS.f k l3).bind fun t431 => ((spec_FillCost.f k t425 t428 a2 t431).bind fun bt434 => ((laws_toIntS.f k l0).bind fun t436 => ((laws_toSpanS.f k l1).bind fun t439 => ((laws_toIntS.f k l3).bind fun t442 => ((impl_FillCost.f k t436 t439 a2 t442).bind fun bt445 => (if bt445.1 = bt434.1 then (laws_FnExactFillCost.j0 k l0 l1 l3 t436 t439 t442 (bt445.2 != bt434.2)) else (laws_FnExactFillCost.j0 k l0 l1 l3 t436 t439 t442 true)))))))))))))) = some r := h
 clear h
 by_cases c5 : (l0.length : Int) > 1048576
 ·rw [if_pos c5] at H
  have c5b0 : decide (1048576 < (l0.length : Int)) = true := decide_eq_true c5
  have c5b1 : decide (1048576 < l0.length) = true := decide_eq_true (by omega)
  clear c5
  obtain rfl := Option.some.inj H
  go_enter Try.func13, Try.ntmps13
  go_wp2
  go_ret
  exact ⟨by first | rfl | (simp [zh, zi] <;> rfl) | (simp [*, zh, zi] <;> rfl), by repeat (first | (with_reducible first | exact HB.out | apply zc | apply zb | apply zd) | exact HB.out)⟩
 ·rw [if_neg c5] at H
  have c5b0 : decide (1048576 < (l0.length : Int)) = false := decide_eq_false c5
  have c5b1 : decide (1048576 < l0.length) = false := decide_eq_false (by omega)
  clear c5
  by_cases c6 : (l3.length : Int) > 1048576
  ·rw [if_pos c6] at H
   have c6b0 : decide (1048576 < (l3.length : Int)) = true := decide_eq_true c6
   have c6b1 : decide (1048576 < l3.length) = true := decide_eq_true (by omega)
   clear c6
   obtain rfl := Option.some.inj H
   go_enter Try.func13, Try.ntmps13
   go_wp2
   go_ret
   exact ⟨by first | rfl | (simp [zh, zi] <;> rfl) | (simp [*, zh, zi] <;> rfl), by repeat (first | (with_reducible first | exact HB.out | apply zc | apply zb | apply zd) | exact HB.out)⟩
  ·rw [if_neg c6] at H
   have c6b0 : decide (1048576 < (l3.length : Int)) = false := decide_eq_false c6
   have c6b1 : decide (1048576 < l3.length) = false := decide_eq_false (by omega)
   clear c6
   replace H := Option.bind_eq_some_iff.mp H
   obtain ⟨t424, A70, H⟩ := H
   replace H : (if t424 < 0 then (some true) else ((laws_toIntS.f k l0).bind fun t425 => ((laws_toSpanS.f k l1).bind fun t428 => ((laws_toIntS.f k l3).bind fun t431 => ((spec_FillCost.f k t425 t428 a2 t431).bind fun bt434 => ((laws_toIntS.f k l0).bind fun t436 => ((laws_toSpanS.f k l1).bind fun t439 => ((laws_toIntS.f k l3).bind fun t442 => ((impl_FillCost.f k t436 t439 a2 t442).bind fun bt445 => (if bt445.1 = bt434.1 then (laws_FnExactFillCost.j0 k l0 l1 l3 t436 t439 t442 (bt445.2 != bt434.2)) else (laws_FnExactFillCost.j0 k l0 l1 l3 t436 t439 t442 true))))))))))) = some r := H
   have A7 := za.mk A70
   clear A70
   by_cases c8 : t424 < 0
   ·rw [if_pos c8] at H
    have c8b0 : decide (t424 < 0) = true := decide_eq_true c8
    clear c8
    obtain rfl := Option.some.inj H
    go_enter Try.func13, Try.ntmps13
    go_wp2_with (first | ((with_reducible refine zj (f := 14) rfl ?_); refine zgo (some 25) Try.func14 #[.slice A1 l1.length c1, .int .i64 1048576] rfl ?_; (with_reducible refine (laws_szSpanS.calls _ _ l1 1048576 t424 _ ?side1 ?side2 A7.out).mono ?_); (case side1 => repeat (first | exact HR1.out | (with_reducible refine Kd.zea ?_ _) | (with_reducible refine Kd.zga ?_ _) | (with_reducible refine Kd.zha ?_))); (case side2 => exact HC1.out); rintro e w' ⟨rfl, ⟨nd, rfl⟩⟩; refine ⟨_, rfl, ?_⟩))
    go_ret
    exact ⟨by first | rfl | (simp [zh, zi] <;> rfl) | (simp [*, zh, zi] <;> rfl), by repeat (first | (with_reducible first | exact HB.out | apply zc | apply zb | apply zd) | exact HB.out)⟩
   ·rw [if_neg c8] at H
    have c8b0 : decide (t424 < 0) = false := decide_eq_false c8
    clear c8
    replace H := Option.bind_eq_some_iff.mp H
    obtain ⟨t425, A90, H⟩ := H
    replace H : ((laws_toSpanS.f k l1).bind fun t428 => ((laws_toIntS.f k l3).bind fun t431 => ((spec_FillCost.f k t425 t428 a2 t431).bind fun bt434 => ((laws_toIntS.f k l0).bind fun t436 => ((laws_toSpanS.f k l1).bind fun t439 => ((laws_toIntS.f k l3).bind fun t442 => ((impl_FillCost.f k t436 t439 a2 t442).bind fun bt445 => (if bt445.1 = bt434.1 then (laws_FnExactFillCost.j0 k l0 l1 l3 t436 t439 t442 (bt445.2 != bt434.2)) else (laws_FnExactFillCost.j0 k l0 l1 l3 t436 t439 t442 true))))))))) = some r := H
    have A9 := za.mk A90
    clear A90
    replace H := Option.bind_eq_some_iff.mp H
    obtain ⟨t428, A100, H⟩ := H
    replace H : ((laws_toIntS.f k l3).bind fun t431 => ((spec_FillCost.f k t425 t428 a2 t431).bind fun bt434 => ((laws_toIntS.f k l0).bind fun t436 => ((laws_toSpanS.f k l1).bind fun t439 => ((laws_toIntS.f k l3).bind fun t442 => ((impl_FillCost.f k t436 t439 a2 t442).bind fun bt445 => (if bt445.1 = bt434.1 then (laws_FnExactFillCost.j0 k l0 l1 l3 t436 t439 t442 (bt445.2 != bt434.2)) else (laws_FnExactFillCost.j0 k l0 l1 l3 t436 t439 t442 true)))))))) = some r := H
    have A10 := za.mk A100
    clear A100
    replace H := Option.bind_eq_some_iff.mp H
    obtain ⟨t431, A110, H⟩ := H
    replace H : ((spec_FillCost.f k t425 t428 a2 t431).bind fun bt434 => ((laws_toIntS.f k l0).bind fun t436 => ((laws_toSpanS.f k l1).bind fun t439 => ((laws_toIntS.f k l3).bind fun t442 => ((impl_FillCost.f k t436 t439 a2 t442).bind fun bt445 => (if bt445.1 = bt434.1 then (laws_FnExactFillCost.j0 k l0 l1 l3 t436 t439 t442 (bt445.2 != bt434.2)) else (laws_FnExactFillCost.j0 k l0 l1 l3 t436 t439 t442 true))))))) = some r := H
    have A11 := za.mk A110
    clear A110
    replace H := Option.bind_eq_some_iff.mp H
    obtain ⟨⟨t434, t435⟩, A120, H⟩ := H
    replace H : ((laws_toIntS.f k l0).bind fun t436 => ((laws_toSpanS.f k l1).bind fun t439 => ((laws_toIntS.f k l3).bind fun t442 => ((impl_FillCost.f k t436 t439 a2 t442).bind fun bt445 => (if bt445.1 = t434 then (laws_FnExactFillCost.j0 k l0 l1 l3 t436 t439 t442 (bt445.2 != t435)) else (laws_FnExactFillCost.j0 k l0 l1 l3 t436 t439 t442 true)))))) = some r := H
    have A12 := za.mk A120
    clear A120
    replace H := Option.bind_eq_some_iff.mp H
    obtain ⟨t436, A130, H⟩ := H
    replace H : ((laws_toSpanS.f k l1).bind fun t439 => ((laws_toIntS.f k l3).bind fun t442 => ((impl_FillCost.f k t436 t439 a2 t442).bind fun bt445 => (if bt445.1 = t434 then (laws_FnExactFillCost.j0 k l0 l1 l3 t436 t439 t442 (bt445.2 != t435)) else (laws_FnExactFillCost.j0 k l0 l1 l3 t436 t439 t442 true))))) = some r := H
    have A13 := za.mk A130
    clear A130
    replace H := Option.bind_eq_some_iff.mp H
    obtain ⟨t439, A140, H⟩ := H
    replace H : ((laws_toIntS.f k l3).bind fun t442 => ((impl_FillCost.f k t436 t439 a2 t442).bind fun bt445 => (if bt445.1 = t434 then (laws_FnExactFillCost.j0 k l0 l1 l3 t436 t439 t442 (bt445.2 != t435)) else (laws_FnExactFillCost.j0 k l0 l1 l3 t436 t439 t442 true)))) = some r := H
    have A14 := za.mk A140
    clear A140
    replace H := Option.bind_eq_some_iff.mp H
    obtain ⟨t442, A150, H⟩ := H
    replace H : ((impl_FillCost.f k t436 t439 a2 t442).bind fun bt445 => (if bt445.1 = t434 then (laws_FnExactFillCost.j0 k l0 l1 l3 t436 t439 t442 (bt445.2 != t435)) else (laws_FnExactFillCost.j0 k l0 l1 l3 t436 t439 t442 true))) = some r := H
    have A15 := za.mk A150
    clear A150
    replace H := Option.bind_eq_some_iff.mp H
    obtain ⟨⟨t445, t446⟩, A160, H⟩ := H
    replace H : (if t445 = t434 then (laws_FnExactFillCost.j0 k l0 l1 l3 t436 t439 t442 (t446 != t435)) else (laws_FnExactFillCost.j0 k l0 l1 l3 t436 t439 t442 true)) = some r := H
    have A16 := za.mk A160
    clear A160
    have HC17 := za.mk H
    clear H
    go_enter Try.func13, Try.ntmps13
    go_upto_region 14 with (first | ((with_reducible refine zj (f := 14) rfl ?_); refine zgo (some 25) Try.func14 #[.slice A1 l1.length c1, .int .i64 1048576] rfl ?_; (with_reducible refine (laws_szSpanS.calls _ _ l1 1048576 t424 _ ?side1 ?side2 A7.out).mono ?_); (case side1 => repeat (first | exact HR1.out | (with_reducible refine Kd.zea ?_ _) | (with_reducible refine Kd.zga ?_ _) | (with_reducible refine Kd.zha ?_))); (case side2 => exact HC1.out); rintro e w' ⟨rfl, ⟨nd, rfl⟩⟩; refine ⟨_, rfl, ?_⟩) | ((with_reducible refine zj (f := 16) rfl ?_); refine zgo (some 30) Try.func16 #[.slice A0 l0.length c0] rfl ?_; (with_reducible refine (laws_toIntS.calls k _ _ l0 t425 _ ?side1 ?side2 A9.out).mono ?_); (case side1 => repeat (first | exact HR0.out | (with_reducible refine Kd.zea ?_ _) | (with_reducible refine Kd.zga ?_ _) | (with_reducible refine Kd.zha ?_))); (case side2 => exact HC0.out); rintro e w18 ⟨v426, rfl, ho0, hb⟩; refine ⟨_, rfl, ?_⟩; have n0_ := za.mk (Kd.zqa ho0 (zp (by repeat (first | (with_reducible first | exact HB.out | apply zc | apply zb | apply zd) | exact HB.out)))); have n1_ := za.mk (zg (by repeat (first | (with_reducible first | exact HB.out | apply zc | apply zb | apply zd) | exact HB.out)) hb); clear HB; have HO427 := n0_; have HB := n1_; clear n0_ n1_; (try clear hb); (try clear hb2); (try clear hk); (try clear hi); (try clear ho0)) | ((with_reducible refine zj (f := 17) rfl ?_); refine zgo (some 32) Try.func17 #[.slice A1 l1.length c1] rfl ?_; (with_reducible refine (laws_toSpanS.calls k _ _ l1 t428 _ ?side1 ?side2 A10.out).mono ?_); (case side1 => repeat (first | exact (Kd.zka HR1.out HB.out) | (with_reducible refine Kd.zea ?_ _) | (with_reducible refine Kd.zga ?_ _) | (with_reducible refine Kd.zha ?_))); (case side2 => exact HC1.out); rintro e w19 ⟨v429, rfl, ho0, hb⟩; refine ⟨_, rfl, ?_⟩; have n0_ := za.mk (Kd.zba (by (with_reducible repeat (first | apply Kd.zn | apply Kd.zo | apply Kd.zq)); exact HO427.out) hb); have n1_ := za.mk (Kd.zqa ho0 (zp (by repeat (first | (with_reducible first | exact HB.out | apply zc | apply zb | apply zd) | exact HB.out)))); have n2_ := za.mk (zg (by repeat (first | (with_reducible first | exact HB.out | apply zc | apply zb | apply zd) | exact HB.out)) hb); clear HO427; clear HB; have HO427 := n0_; have HO430 := n1_; have HB := n2_; clear n0_ n1_ n2_; (try clear hb); (try clear hb2); (try clear hk); (try clear hi); (try clear ho0)) | ((with_reducible refine zj (f := 16) rfl ?_); refine zgo (some 35) Try.func16 #[.slice A3 l3.length c3] rfl ?_; (with_reducible refine (laws_toIntS.calls k _ _ l3 t431 _ ?side1 ?side2 A11.out).mono ?_); (case side1 => repeat (first | exact (Kd.zka HR3.out HB.out) | (with_reducible refine Kd.zea ?_ _) | (with_reducible refine Kd.zga ?_ _) | (with_reducible refine Kd.zha ?_))); (case side2 => exact HC3.out); rintro e w20 ⟨v432, rfl, ho0, hb⟩; refine ⟨_, rfl, ?_⟩; have n0_ := za.mk (Kd.zua (by (with_reducible repeat (first | apply Kd.zn | apply Kd.zo | apply Kd.zq)); exact HO427.out) (Kd.zgb ho0) hb); have n1_ := za.mk (Kd.zba (by (with_reducible repeat (first | apply Kd.zn | apply Kd.zo | apply Kd.zq)); exact HO430.out) hb); have n2_ := za.mk (Kd.zqa (Kd.zhb ho0 (Kd.R_lt (by (with_reducible repeat (first | apply Kd.zn | apply Kd.zo | apply Kd.zq)); exact HO427.out))) (zp (by repeat (first | (with_reducible first | exact HB.out | apply zc | apply zb | apply zd) | exact HB.out)))); have n3_ := za.mk (zg (by repeat (first | (with_reducible first | exact HB.out | apply zc | apply zb | apply zd) | exact HB.out)) hb); clear HO427; clear HO430; clear HB; have HO427 := n0_; have HO430 := n1_; have HO433 := n2_; have HB := n3_; clear n0_ n1_ n2_ n3_; (try clear hb); (try clear hb2); (try clear hk); (try clear hi); (try clear ho0); obtain ⟨Ao21, co21, eo21⟩ := Kd.zia HO427.out; subst eo21; obtain ⟨Ao22, co22, eo22⟩ := Kd.zia HO430.out; subst eo22; obtain ⟨Ao23, co23, eo23⟩ := Kd.zia HO433.out; subst eo23) | ((with_reducible refine zj (f := 47) rfl ?_); refine zgo (some 36) Try.func47 #[.slice Ao21 t425.length co21, .slice Ao22 t428.length co22, .int .i64 a2, .slice Ao23 t431.length co23] rfl ?_; (with_reducible refine (spec_FillCost.calls k _ _ t425 _ _ t428 a2 _ _ t431 t434 t435 _ ?side1 ?side2 ?side3 ?side4 ?side5 ?side6 A12.out).mono ?_); (case side1 => repeat (first | exact (Kd.zt HO427.out).2.2 | (with_reducible refine Kd.zea ?_ _) | (with_reducible refine Kd.zga ?_ _) | (with_reducible refine Kd.zha ?_))); (case side2 => exact (Kd.zt HO427.out).2.1); (case side3 => repeat (first | exact (Kd.zt HO430.out).2.2 | (with_reducible refine Kd.zea ?_ _) | (with_reducible refine Kd.zga ?_ _) | (with_reducible refine Kd.zha ?_))); (case side4 => exact (Kd.zt HO430.out).2.1); (case side5 => repeat (first | exact (Kd.zt HO433.out).2.2 | (with_reducible refine Kd.zea ?_ _) | (with_reducible refine Kd.zga ?_ _) | (with_reducible refine Kd.zha ?_))); (case side6 => exact (Kd.zt HO433.out).2.1); rintro e w24 ⟨rfl, hb⟩; refine ⟨_, rfl, ?_⟩; have n0_ := za.mk (Kd.zba (by (with_reducible repeat (first | apply Kd.zn | apply Kd.zo | apply Kd.zq)); exact HO427.out) hb); have n1_ := za.mk (Kd.zba (by (with_reducible repeat (first | apply Kd.zn | apply Kd.zo | apply Kd.zq)); exact HO430.out) hb); have n2_ := za.mk (Kd.zba (by (with_reducible repeat (first | apply Kd.zn | apply Kd.zo | apply Kd.zq)); exact HO433.out) hb); have n3_ := za.mk (zg (by repeat (first | (with_reducible first | exact HB.out | apply zc | apply zb | apply zd) | exact HB.out)) hb); clear HO427; clear HO430; clear HO433; clear HB; have HO427 := n0_; have HO430 := n1_; have HO433 := n2_; have HB := n3_; clear n0_ n1_ n2_ n3_; (try clear hb); (try clear hb2); (try clear hk); (try clear hi)) | ((with_reducible refine zj (f := 16) rfl ?_); refine zgo (some 40) Try.func16 #[.slice A0 l0.length c0] rfl ?_; (with_reducible refine (laws_toIntS.calls k _ _ l0 t436 _ ?side1 ?side2 A13.out).mono ?_); (case side1 => repeat (first | exact (Kd.zka HR0.out HB.out) | (with_reducible refine Kd.zea ?_ _) | (with_reducible refine Kd.zga ?_ _) | (with_reducible refine Kd.zha ?_))); (case side2 => exact HC0.out); rintro e w25 ⟨v437, rfl, ho0, hb⟩; refine ⟨_, rfl, ?_⟩; have n0_ := za.mk (Kd.zua (by (with_reducible repeat (first | apply Kd.zn | apply Kd.zo | apply Kd.zq)); exact HO427.out) (Kd.zgb ho0) hb); have n1_ := za.mk (Kd.zba (by (with_reducible repeat (first | apply Kd.zn | apply Kd.zo | apply Kd.zq)); exact HO430.out) hb); have n2_ := za.mk (Kd.zua (by (with_reducible repeat (first | apply Kd.zn | apply Kd.zo | apply Kd.zq)); exact HO433.out) (Kd.zgb ho0) hb); have n3_ := za.mk (Kd.zqa (Kd.zhb (Kd.zhb ho0 (Kd.R_lt (by (with_reducible repeat (first | apply Kd.zn | apply Kd.zo | apply Kd.zq)); exact HO427.out))) (Kd.R_lt (by (with_reducible repeat (first | apply Kd.zn | apply Kd.zo | apply Kd.zq)); exact HO433.out))) (zp (by repeat (first | (with_reducible first | exact HB.out | apply zc | apply zb | apply zd) | exact HB.out)))); have n4_ := za.mk (zg (by repeat (first | (with_reducible first | exact HB.out | apply zc | apply zb | apply zd) | exact HB.out)) hb); clear HO427; clear HO430; clear HO433; clear HB; have HO427 := n0_; have HO430 := n1_; have HO433 := n2_; have HO438 := n3_; have HB := n4_; clear n0_ n1_ n2_ n3_ n4_; (try clear hb); (try clear hb2); (try clear hk); (try clear hi); (try clear ho0)) | ((with_reducible refine zj (f := 17) rfl ?_); refine zgo (some 42) Try.func17 #[.slice A1 l1.length c1] rfl ?_; (with_reducible refine (laws_toSpanS.calls k _ _ l1 t439 _ ?side1 ?side2 A14.out).mono ?_); (case side1 => repeat (first | exact (Kd.zka HR1.out HB.out) | (with_reducible refine Kd.zea ?_ _) | (with_reducible refine Kd.zga ?_ _) | (with_reducible refine Kd.zha ?_))); (case side2 => exact HC1.out); rintro e w26 ⟨v440, rfl, ho0, hb⟩; refine ⟨_, rfl, ?_⟩; have n0_ := za.mk (Kd.zba (by (with_reducible repeat (first | apply Kd.zn | apply Kd.zo | apply Kd.zq)); exact HO427.out) hb); have n1_ := za.mk (Kd.zua (by (with_reducible repeat (first | apply Kd.zn | apply Kd.zo | apply Kd.zq)); exact HO430.out) (Kd.zgb ho0) hb); have n2_ := za.mk (Kd.zba (by (with_reducible repeat (first | apply Kd.zn | apply Kd.zo | apply Kd.zq)); exact HO433.out) hb); have n3_ := za.mk (Kd.zba (by (with_reducible repeat (first | apply Kd.zn | apply Kd.zo | apply Kd.zq)); exact HO438.out) hb); have n4_ := za.mk (Kd.zqa (Kd.zhb ho0 (Kd.R_lt (by (with_reducible repeat (first | apply Kd.zn | apply Kd.zo | apply Kd.zq)); exact HO430.out))) (zp (by repeat (first | (with_reducible first | exact HB.out | apply zc | apply zb | apply zd) | exact HB.out)))); have n5_ := za.mk (zg (by repeat (first | (with_reducible first | exact HB.out | apply zc | apply zb | apply zd) | exact HB.out)) hb); clear HO427; clear HO430; clear HO433; clear HO438; clear HB; have HO427 := n0_; have HO430 := n1_; have HO433 := n2_; have HO438 := n3_; have HO441 := n4_; have HB := n5_; clear n0_ n1_ n2_ n3_ n4_ n5_; (try clear hb); (try clear hb2); (try clear hk); (try clear hi); (try clear ho0)) | ((with_reducible refine zj (f := 16) rfl ?_); refine zgo (some 44) Try.func16 #[.slice A3 l3.length c3] rfl ?_; (with_reducible refine (laws_toIntS.calls k _ _ l3 t442 _ ?side1 ?side2 A15.out).mono ?_); (case side1 => repeat (first | exact (Kd.zka HR3.out HB.out) | (with_reducible refine Kd.zea ?_ _) | (with_reducible refine Kd.zga ?_ _) | (with_reducible refine Kd.zha ?_))); (case side2 => exact HC3.out); rintro e w27 ⟨v443, rfl, ho0, hb⟩; refine ⟨_, rfl, ?_⟩; have n0_ := za.mk (Kd.zua (by (with_reducible repeat (first | apply Kd.zn | apply Kd.zo | apply Kd.zq)); exact HO427.out) (Kd.zgb ho0) hb); have n1_ := za.mk (Kd.zba (by (with_reducible repeat (first | apply Kd.zn | apply Kd.zo | apply Kd.zq)); exact HO430.out) hb); have n2_ := za.mk (Kd.zua (by (with_reducible repeat (first | apply Kd.zn | apply Kd.zo | apply Kd.zq)); exact HO433.out) (Kd.zgb ho0) hb); have n3_ := za.mk (Kd.zua (by (with_reducible repeat (first | apply Kd.zn | apply Kd.zo | apply Kd.zq)); exact HO438.out) (Kd.zgb ho0) hb); have n4_ := za.mk (Kd.zba (by (with_reducible repeat (first | apply Kd.zn | apply Kd.zo | apply Kd.zq)); exact HO441.out) hb); have n5_ := za.mk (Kd.zqa (Kd.zhb (Kd.zhb (Kd.zhb ho0 (Kd.R_lt (by (with_reducible repeat (first | apply Kd.zn | apply Kd.zo | apply Kd.zq)); exact HO427.out))) (Kd.R_lt (by (with_reducible repeat (first | apply Kd.zn | apply Kd.zo | apply Kd.zq)); exact HO433.out))) (Kd.R_lt (by (with_reducible repeat (first | apply Kd.zn | apply Kd.zo | apply Kd.zq)); exact HO438.out))) (zp (by repeat (first | (with_reducible first | exact HB.out | apply zc | apply zb | apply zd) | exact HB.out)))); have n6_ := za.mk (zg (by repeat (first | (with_reducible first | exact HB.out | apply zc | apply zb | apply zd) | exact HB.out)) hb); clear HO427; clear HO430; clear HO433; clear HO438; clear HO441; clear HB; have HO427 := n0_; have HO430 := n1_; have HO433 := n2_; have HO438 := n3_; have HO441 := n4_; have HO444 := n5_; have HB := n6_; clear n0_ n1_ n2_ n3_ n4_ n5_ n6_; (try clear hb); (try clear hb2); (try clear hk); (try clear hi); (try clear ho0); obtain ⟨Ao28, co28, eo28⟩ := Kd.zia HO438.out; subst eo28; obtain ⟨Ao29, co29, eo29⟩ := Kd.zia HO441.out; subst eo29; obtain ⟨Ao30, co30, eo30⟩ := Kd.zia HO444.out; subst eo30) | ((with_reducible refine zj (f := 48) rfl ?_); refine zgo (some 50) Try.func48 #[.slice Ao28 t436.length co28, .slice Ao29 t439.length co29, .int .i64 a2, .slice Ao30 t442.length co30] rfl ?_; (with_reducible refine (impl_FillCost.calls k _ _ t436 _ _ t439 a2 _ _ t442 t445 t446 _ ?side1 ?side2 ?side3 ?side4 ?side5 ?side6 A16.out).mono ?_); (case side1 => repeat (first | exact (Kd.zt HO438.out).2.2 | (with_reducible refine Kd.zea ?_ _) | (with_reducible refine Kd.zga ?_ _) | (with_reducible refine Kd.zha ?_))); (case side2 => exact (Kd.zt HO438.out).2.1); (case side3 => repeat (first | exact (Kd.zt HO441.out).2.2 | (with_reducible refine Kd.zea ?_ _) | (with_reducible refine Kd.zga ?_ _) | (with_reducible refine Kd.zha ?_))); (case side4 => exact (Kd.zt HO441.out).2.1); (case side5 => repeat (first | exact (Kd.zt HO444.out).2.2 | (with_reducible refine Kd.zea ?_ _) | (with_reducible refine Kd.zga ?_ _) | (with_reducible refine Kd.zha ?_))); (case side6 => exact (Kd.zt HO444.out).2.1); rintro e w31 ⟨rfl, hb⟩; refine ⟨_, rfl, ?_⟩; have n0_ := za.mk (Kd.zba (by (with_reducible repeat (first | apply Kd.zn | apply Kd.zo | apply Kd.zq)); exact HO427.out) hb); have n1_ := za.mk (Kd.zba (by (with_reducible repeat (first | apply Kd.zn | apply Kd.zo | apply Kd.zq)); exact HO430.out) hb); have n2_ := za.mk (Kd.zba (by (with_reducible repeat (first | apply Kd.zn | apply Kd.zo | apply Kd.zq)); exact HO433.out) hb); have n3_ := za.mk (Kd.zba (by (with_reducible repeat (first | apply Kd.zn | apply Kd.zo | apply Kd.zq)); exact HO438.out) hb); have n4_ := za.mk (Kd.zba (by (with_reducible repeat (first | apply Kd.zn | apply Kd.zo | apply Kd.zq)); exact HO441.out) hb); have n5_ := za.mk (Kd.zba (by (with_reducible repeat (first | apply Kd.zn | apply Kd.zo | apply Kd.zq)); exact HO444.out) hb); have n6_ := za.mk (zg (by repeat (first | (with_reducible first | exact HB.out | apply zc | apply zb | apply zd) | exact HB.out)) hb); clear HO427; clear HO430; clear HO433; clear HO438; clear HO441; clear HO444; clear HB; have HO427 := n0_; have HO430 := n1_; have HO433 := n2_; have HO438 := n3_; have HO441 := n4_; have HO444 := n5_; have HB := n6_; clear n0_ n1_ n2_ n3_ n4_ n5_ n6_; (try clear hb); (try clear hb2); (try clear hk); (try clear hi)))
    (try simp only [Act.put, List.setIfInBounds_toArray, List.set_cons_zero, List.set_cons_succ])
    go_cut [60] (fun v60 wc => ∃ (kq : Nat) (x60_16 : Bool), v60 = .bool x60_16 ∧ za (laws_FnExactFillCost.j0 kq l0 l1 l3 t436 t439 t442 x60_16 = some r) ∧ za (kq ≤ k) ∧ za (Kd.R (Kd.int .i64) 3 wc w.heap.size (fun k_ => some k_ ≠ ((.slice Ao30 t442.length co30) : Value).ownBlock) (.slice Ao28 t436.length co28) t436) ∧ za (Kd.R k40 40 wc w.heap.size (fun _ => True) (.slice Ao29 t439.length co29) t439) ∧ za (Kd.R (Kd.int .i64) 3 wc w.heap.size (fun k_ => some k_ ≠ ((.slice Ao28 t436.length co28) : Value).ownBlock) (.slice Ao30 t442.length co30) t442) ∧ za (Below w.heap.size w wc))
    case first =>
     have H := HC17.out
     clear HC17
     by_cases c32 : t445 = t434
     ·rw [if_pos c32] at H
      have c32b0 : (t445 == t434) = true := beq_iff_eq.mpr c32
      have c32b1 : (t445 != t434) = false := bne_eq_false_iff_eq.mpr c32
      clear c32
      (first | rw [c32b0] | (simp only [zr, zs]; rw [c32b0]) | skip)
      have H' := za.mk H
      clear H
      go_wp2
      go_meet
      case rel => exact ⟨_, ((t446 != t435)), (by first | rfl | (simp; done) | (simp [*]; done)), H', ⟨by first | omega | exact Nat.le_refl _⟩, ⟨by (with_reducible repeat (first | apply Kd.zn | apply Kd.zo | apply Kd.zq)); exact Kd.zib HO438.out (fun _ hk => hk.2)⟩, ⟨by (with_reducible repeat (first | apply Kd.zn | apply Kd.zo | apply Kd.zq)); exact Kd.zib HO441.out (fun _ hk => trivial)⟩, ⟨by (with_reducible repeat (first | apply Kd.zn | apply Kd.zo | apply Kd.zq)); exact Kd.zib HO444.out (fun _ hk => hk.2)⟩, ⟨by repeat (first | (with_reducible first | exact HB.out | apply zc | apply zb | apply zd) | exact HB.out)⟩⟩
     ·rw [if_neg c32] at H
      have c32b0 : (t445 == t434) = false := beq_eq_false_iff_ne.mpr c32
      have c32b1 : (t445 != t434) = true := bne_iff_ne.mpr c32
      (first | rw [c32b0] | (simp only [zr, zs]; rw [c32b0]) | skip)
      have H' := za.mk H
      clear H
      go_wp2
      go_meet
      case rel => exact ⟨_, (true), (by first | rfl | (simp; done) | (simp [*]; done)), H', ⟨by first | omega | exact Nat.le_refl _⟩, ⟨by (with_reducible repeat (first | apply Kd.zn | apply Kd.zo | apply Kd.zq)); exact Kd.zib HO438.out (fun _ hk => hk.2)⟩, ⟨by (with_reducible repeat (first | apply Kd.zn | apply Kd.zo | apply Kd.zq)); exact Kd.zib HO441.out (fun _ hk => trivial)⟩, ⟨by (with_reducible repeat (first | apply Kd.zn | apply Kd.zo | apply Kd.zq)); exact Kd.zib HO444.out (fun _ hk => hk.2)⟩, ⟨by repeat (first | (with_reducible first | exact HB.out | apply zc | apply zb | apply zd) | exact HB.out)⟩⟩
    case rest =>
     clear HC17
     try clear c1
     try clear p2
     try clear c3
     try clear c4
     try clear c5
     try clear c5b0
     try clear c5b1
     try clear c6
     try clear c6b0
     try clear c6b1
     try clear c8
     try clear c8b0
     try clear c13
     try clear c14
     try clear c16
     try clear c17
     try clear c32
     try clear c32b0
     try clear c32b1
     obtain ⟨kq, x60_16, rfl, HA, HJ16, HO_12, HO_13, HO_14, HB⟩ := hcut
     cases kq with
     | zero => exact absurd HA.out (by simp [laws_FnExactFillCost.j0])
     | succ kj16 =>
      have H := HA.out
      clear HA
      simp only [laws_FnExactFillCost.j0] at H
      by_cases c33 : x60_16 = true
      ·subst c33
       have H1 : (some false) = some r := by rw [if_pos rfl] at H; exact H
       clear H
       have H := H1
       clear H1
       obtain rfl := Option.some.inj H
       go_wp2
       go_ret
       exact ⟨by first | rfl | (simp [zh, zi] <;> rfl) | (simp [*, zh, zi] <;> rfl), by repeat (first | (with_reducible first | exact HB.out | apply zc | apply zb | apply zd) | exact HB.out)⟩
      ·replace c33 := Bool.eq_false_iff.mpr c33
       subst c33
       have H1 : ((laws_toIntS.f kj16 l0).bind fun t447 => ((laws_eqIntS.f kj16 t436 t447).bind fun t450 => (if t450 = true then ((laws_toSpanS.f kj16 l1).bind fun t451 => ((laws_eqSpanS.f kj16 t439 t451).bind fun t454 => (if t454 = true then ((laws_toIntS.f kj16 l3).bind fun t455 => ((laws_eqIntS.f kj16 t442 t455).bind fun t458 => (if t458 = true then (some true) else (some false)))) else (some false)))) else (some false)))) = some r := by rw [if_neg (show ¬ (false = true) by decide)] at H; exact H
       clear H
       have H := H1
       clear H1
       replace H := Option.bind_eq_some_iff.mp H
       obtain ⟨t447, A340, H⟩ := H
       replace H : ((laws_eqIntS.f kj16 t436 t447).bind fun t450 => (if t450 = true then ((laws_toSpanS.f kj16 l1).bind fun t451 => ((laws_eqSpanS.f kj16 t439 t451).bind fun t454 => (if t454 = true then ((laws_toIntS.f kj16 l3).bind fun t455 => ((laws_eqIntS.f kj16 t442 t455).bind fun t458 => (if t458 = true then (some true) else (some false)))) else (some false)))) else (some false))) = some r := H
       have A34 := za.mk A340
       clear A340
       replace H := Option.bind_eq_some_iff.mp H
       obtain ⟨t450, A350, H⟩ := H
       replace H : (if t450 = true then ((laws_toSpanS.f kj16 l1).bind fun t451 => ((laws_eqSpanS.f kj16 t439 t451).bind fun t454 => (if t454 = true then ((laws_toIntS.f kj16 l3).bind fun t455 => ((laws_eqIntS.f kj16 t442 t455).bind fun t458 => (if t458 = true then (some true) else (some false)))) else (some false)))) else (some false)) = some r := H
       have A35 := za.mk A350
       clear A350
       by_cases c36 : t450 = true
       ·subst c36
        have H1 : ((laws_toSpanS.f kj16 l1).bind fun t451 => ((laws_eqSpanS.f kj16 t439 t451).bind fun t454 => (if t454 = true then ((laws_toIntS.f kj16 l3).bind fun t455 => ((laws_eqIntS.f kj16 t442 t455).bind fun t458 => (if t458 = true then (some true) else (some false)))) else (some false)))) = some r := by rw [if_pos rfl] at H; exact H
        clear H
        have H := H1
        clear H1
        replace H := Option.bind_eq_some_iff.mp H
        obtain ⟨t451, A370, H⟩ := H
        replace H : ((laws_eqSpanS.f kj16 t439 t451).bind fun t454 => (if t454 = true then ((laws_toIntS.f kj16 l3).bind fun t455 => ((laws_eqIntS.f kj16 t442 t455).bind fun t458 => (if t458 = true then (some true) else (some false)))) else (some false))) = some r := H
        have A37 := za.mk A370
        clear A370
        replace H := Option.bind_eq_some_iff.mp H
        obtain ⟨t454, A380, H⟩ := H
        replace H : (if t454 = true then ((laws_toIntS.f kj16 l3).bind fun t455 => ((laws_eqIntS.f kj16 t442 t455).bind fun t458 => (if t458 = true then (some true) else (some false)))) else (some false)) = some r := H
        have A38 := za.mk A380
        clear A380
        by_cases c39 : t454 = true
        ·subst c39
         have H1 : ((laws_toIntS.f kj16 l3).bind fun t455 => ((laws_eqIntS.f kj16 t442 t455).bind fun t458 => (if t458 = true then (some true) else (some false)))) = some r := by rw [if_pos rfl] at H; exact H
         clear H
         have H := H1
         clear H1
         replace H := Option.bind_eq_some_iff.mp H
         obtain ⟨t455, A400, H⟩ := H
         replace H : ((laws_eqIntS.f kj16 t442 t455).bind fun t458 => (if t458 = true then (some true) else (some false))) = some r := H
         have A40 := za.mk A400
         clear A400
         replace H := Option.bind_eq_some_iff.mp H
         obtain ⟨t458, A410, H⟩ := H
         replace H : (if t458 = true then (some true) else (some false)) = some r := H
         have A41 := za.mk A410
         clear A410
         by_cases c42 : t458 = true
         ·subst c42
          have H1 : (some true) = some r := by rw [if_pos rfl] at H; exact H
          clear H
          have H := H1
          clear H1
          obtain rfl := Option.some.inj H
          go_wp2_with (first | ((with_reducible refine zj (f := 16) rfl ?_); refine zgo (some 63) Try.func16 #[.slice A0 l0.length c0] rfl ?_; (with_reducible refine (laws_toIntS.calls kj16 _ _ l0 t447 _ ?side1 ?side2 A34.out).mono ?_); (case side1 => repeat (first | exact (Kd.zka HR0.out HB.out) | (with_reducible refine Kd.zea ?_ _) | (with_reducible refine Kd.zga ?_ _) | (with_reducible refine Kd.zha ?_))); (case side2 => exact HC0.out); rintro e w43 ⟨v448, rfl, ho0, hb⟩; refine ⟨_, rfl, ?_⟩; have n0_ := za.mk (Kd.zua (by (with_reducible repeat (first | apply Kd.zn | apply Kd.zo | apply Kd.zq)); exact HO_12.out) (Kd.zgb ho0) hb); have n1_ := za.mk (Kd.zba (by (with_reducible repeat (first | apply Kd.zn | apply Kd.zo | apply Kd.zq)); exact HO_13.out) hb); have n2_ := za.mk (Kd.zua (by (with_reducible repeat (first | apply Kd.zn | apply Kd.zo | apply Kd.zq)); exact HO_14.out) (Kd.zgb ho0) hb); have n3_ := za.mk (Kd.zqa (Kd.zhb (Kd.zhb ho0 (Kd.R_lt (by (with_reducible repeat (first | apply Kd.zn | apply Kd.zo | apply Kd.zq)); exact HO_12.out))) (Kd.R_lt (by (with_reducible repeat (first | apply Kd.zn | apply Kd.zo | apply Kd.zq)); exact HO_14.out))) (zp (by repeat (first | (with_reducible first | exact HB.out | apply zc | apply zb | apply zd) | exact HB.out)))); have n4_ := za.mk (zg (by repeat (first | (with_reducible first | exact HB.out | apply zc | apply zb | apply zd) | exact HB.out)) hb); clear HO_12; clear HO_13; clear HO_14; clear HB; have HO_12 := n0_; have HO_13 := n1_; have HO_14 := n2_; have HO449 := n3_; have HB := n4_; clear n0_ n1_ n2_ n3_ n4_; (try clear hb); (try clear hb2); (try clear hk); (try clear hi); (try clear ho0); obtain ⟨Ao44, co44, eo44⟩ := Kd.zia HO449.out; subst eo44) | ((with_reducible refine zj (f := 19) rfl ?_); refine zgo (some 64) Try.func19 #[.slice Ao28 t436.length co28, .slice Ao44 t447.length co44] rfl ?_; (with_reducible refine (laws_eqIntS.calls kj16 _ _ t436 _ _ t447 true _ ?side1 ?side2 ?side3 ?side4 A35.out).mono ?_); (case side1 => repeat (first | exact (Kd.zt HO_12.out).2.2 | (with_reducible refine Kd.zea ?_ _) | (with_reducible refine Kd.zga ?_ _) | (with_reducible refine Kd.zha ?_))); (case side2 => exact (Kd.zt HO_12.out).2.1); (case side3 => repeat (first | exact (Kd.zt HO449.out).2.2 | (with_reducible refine Kd.zea ?_ _) | (with_reducible refine Kd.zga ?_ _) | (with_reducible refine Kd.zha ?_))); (case side4 => exact (Kd.zt HO449.out).2.1); rintro e w' ⟨rfl, ⟨nd, rfl⟩⟩; refine ⟨_, rfl, ?_⟩) | ((with_reducible refine zj (f := 17) rfl ?_); refine zgo (some 68) Try.func17 #[.slice A1 l1.length c1] rfl ?_; (with_reducible refine (laws_toSpanS.calls kj16 _ _ l1 t451 _ ?side1 ?side2 A37.out).mono ?_); (case side1 => repeat (first | exact (Kd.zka HR1.out (by repeat (first | (with_reducible first | exact HB.out | apply zc | apply zb | apply zd) | exact HB.out))) | (with_reducible refine Kd.zea ?_ _) | (with_reducible refine Kd.zga ?_ _) | (with_reducible refine Kd.zha ?_))); (case side2 => exact HC1.out); rintro e w45 ⟨v452, rfl, ho0, hb⟩; refine ⟨_, rfl, ?_⟩; have n0_ := za.mk (Kd.zba (by (with_reducible repeat (first | apply Kd.zn | apply Kd.zo | apply Kd.zq)); exact HO_12.out) hb); have n1_ := za.mk (Kd.zua (by (with_reducible repeat (first | apply Kd.zn | apply Kd.zo | apply Kd.zq)); exact HO_13.out) (Kd.zgb ho0) hb); have n2_ := za.mk (Kd.zba (by (with_reducible repeat (first | apply Kd.zn | apply Kd.zo | apply Kd.zq)); exact HO_14.out) hb); have n3_ := za.mk (Kd.zba (by (with_reducible repeat (first | apply Kd.zn | apply Kd.zo | apply Kd.zq)); exact HO449.out) hb); have n4_ := za.mk (Kd.zqa (Kd.zhb ho0 (Kd.R_lt (by (with_reducible repeat (first | apply Kd.zn | apply Kd.zo | apply Kd.zq)); exact HO_13.out))) (zp (by repeat (first | (with_reducible first | exact HB.out | apply zc | apply zb | apply zd) | exact HB.out)))); have n5_ := za.mk (zg (by repeat (first | (with_reducible first | exact HB.out | apply zc | apply zb | apply zd) | exact HB.out)) hb); clear HO_12; clear HO_13; clear HO_14; clear HO449; clear HB; have HO_12 := n0_; have HO_13 := n1_; have HO_14 := n2_; have HO449 := n3_; have HO453 := n4_; have HB := n5_; clear n0_ n1_ n2_ n3_ n4_ n5_; (try clear hb); (try clear hb2); (try clear hk); (try clear hi); (try clear ho0); obtain ⟨Ao46, co46, eo46⟩ := Kd.zia HO453.out; subst eo46) | ((with_reducible refine zj (f := 20) rfl ?_); refine zgo (some 69) Try.func20 #[.slice Ao29 t439.length co29, .slice Ao46 t451.length co46] rfl ?_; (with_reducible refine (laws_eqSpanS.calls kj16 _ _ t439 _ _ t451 true _ ?side1 ?side2 ?side3 ?side4 A38.out).mono ?_); (case side1 => repeat (first | exact (Kd.zt HO_13.out).2.2 | (with_reducible refine Kd.zea ?_ _) | (with_reducible refine Kd.zga ?_ _) | (with_reducible refine Kd.zha ?_))); (case side2 => exact (Kd.zt HO_13.out).2.1); (case side3 => repeat (first | exact (Kd.zt HO453.out).2.2 | (with_reducible refine Kd.zea ?_ _) | (with_reducible refine Kd.zga ?_ _) | (with_reducible refine Kd.zha ?_))); (case side4 => exact (Kd.zt HO453.out).2.1); rintro e w47 ⟨rfl, hb⟩; refine ⟨_, rfl, ?_⟩; have n0_ := za.mk (Kd.zba (by (with_reducible repeat (first | apply Kd.zn | apply Kd.zo | apply Kd.zq)); exact HO_12.out) hb); have n1_ := za.mk (Kd.zba (by (with_reducible repeat (first | apply Kd.zn | apply Kd.zo | apply Kd.zq)); exact HO_13.out) hb); have n2_ := za.mk (Kd.zba (by (with_reducible repeat (first | apply Kd.zn | apply Kd.zo | apply Kd.zq)); exact HO_14.out) hb); have n3_ := za.mk (Kd.zba (by (with_reducible repeat (first | apply Kd.zn | apply Kd.zo | apply Kd.zq)); exact HO449.out) hb); have n4_ := za.mk (Kd.zba (by (with_reducible repeat (first | apply Kd.zn | apply Kd.zo | apply Kd.zq)); exact HO453.out) hb); have n5_ := za.mk (zg (by repeat (first | (with_reducible first | exact HB.out | apply zc | apply zb | apply zd) | exact HB.out)) hb); clear HO_12; clear HO_13; clear HO_14; clear HO449; clear HO453; clear HB; have HO_12 := n0_; have HO_13 := n1_; have HO_14 := n2_; have HO449 := n3_; have HO453 := n4_; have HB := n5_; clear n0_ n1_ n2_ n3_ n4_ n5_; (try clear hb); (try clear hb2); (try clear hk); (try clear hi)) | ((with_reducible refine zj (f := 16) rfl ?_); refine zgo (some 73) Try.func16 #[.slice A3 l3.length c3] rfl ?_; (with_reducible refine (laws_toIntS.calls kj16 _ _ l3 t455 _ ?side1 ?side2 A40.out).mono ?_); (case side1 => repeat (first | exact (Kd.zka HR3.out HB.out) | (with_reducible refine Kd.zea ?_ _) | (with_reducible refine Kd.zga ?_ _) | (with_reducible refine Kd.zha ?_))); (case side2 => exact HC3.out); rintro e w48 ⟨v456, rfl, ho0, hb⟩; refine ⟨_, rfl, ?_⟩; have n0_ := za.mk (Kd.zua (by (with_reducible repeat (first | apply Kd.zn | apply Kd.zo | apply Kd.zq)); exact HO_12.out) (Kd.zgb ho0) hb); have n1_ := za.mk (Kd.zba (by (with_reducible repeat (first | apply Kd.zn | apply Kd.zo | apply Kd.zq)); exact HO_13.out) hb); have n2_ := za.mk (Kd.zua (by (with_reducible repeat (first | apply Kd.zn | apply Kd.zo | apply Kd.zq)); exact HO_14.out) (Kd.zgb ho0) hb); have n3_ := za.mk (Kd.zua (by (with_reducible repeat (first | apply Kd.zn | apply Kd.zo | apply Kd.zq)); exact HO449.out) (Kd.zgb ho0) hb); have n4_ := za.mk (Kd.zba (by (with_reducible repeat (first | apply Kd.zn | apply Kd.zo | apply Kd.zq)); exact HO453.out) hb); have n5_ := za.mk (Kd.zqa (Kd.zhb (Kd.zhb (Kd.zhb ho0 (Kd.R_lt (by (with_reducible repeat (first | apply Kd.zn | apply Kd.zo | apply Kd.zq)); exact HO_12.out))) (Kd.R_lt (by (with_reducible repeat (first | apply Kd.zn | apply Kd.zo | apply Kd.zq)); exact HO_14.out))) (Kd.R_lt (by (with_reducible repeat (first | apply Kd.zn | apply Kd.zo | apply Kd.zq)); exact HO449.out))) (zp (by repeat (first | (with_reducible first | exact HB.out | apply zc | apply zb | apply zd) | exact HB.out)))); have n6_ := za.mk (zg (by repeat (first | (with_reducible first | exact HB.out | apply zc | apply zb | apply zd) | exact HB.out)) hb); clear HO_12; clear HO_13; clear HO_14; clear HO449; clear HO453; clear HB; have HO_12 := n0_; have HO_13 := n1_; have HO_14 := n2_; have HO449 := n3_; have HO453 := n4_; have HO457 := n5_; have HB := n6_; clear n0_ n1_ n2_ n3_ n4_ n5_ n6_; (try clear hb); (try clear hb2); (try clear hk); (try clear hi); (try clear ho0); obtain ⟨Ao49, co49, eo49⟩ := Kd.zia HO457.out; subst eo49) | ((with_reducible refine zj (f := 19) rfl ?_); refine zgo (some 74) Try.func19 #[.slice Ao30 t442.length co30, .slice Ao49 t455.length co49] rfl ?_; (with_reducible refine (laws_eqIntS.calls kj16 _ _ t442 _ _ t455 true _ ?side1 ?side2 ?side3 ?side4 A41.out).mono ?_); (case side1 => repeat (first | exact (Kd.zt HO_14.out).2.2 | (with_reducible refine Kd.zea ?_ _) | (with_reducible refine Kd.zga ?_ _) | (with_reducible refine Kd.zha ?_))); (case side2 => exact (Kd.zt HO_14.out).2.1); (case side3 => repeat (first | exact (Kd.zt HO457.out).2.2 | (with_reducible refine Kd.zea ?_ _) | (with_reducible refine Kd.zga ?_ _) | (with_reducible refine Kd.zha ?_))); (case side4 => exact (Kd.zt HO457.out).2.1); rintro e w' ⟨rfl, ⟨nd, rfl⟩⟩; refine ⟨_, rfl, ?_⟩))
          go_ret
          exact ⟨by first | rfl | (simp [zh, zi] <;> rfl) | (simp [*, zh, zi] <;> rfl), by repeat (first | (with_reducible first | exact HB.out | apply zc | apply zb | apply zd) | exact HB.out)⟩
         ·replace c42 := Bool.eq_false_iff.mpr c42
          subst c42
          have H1 : (some false) = some r := by rw [if_neg (show ¬ (false = true) by decide)] at H; exact H
          clear H
          have H := H1
          clear H1
          obtain rfl := Option.some.inj H
          go_wp2_with (first | ((with_reducible refine zj (f := 16) rfl ?_); refine zgo (some 63) Try.func16 #[.slice A0 l0.length c0] rfl ?_; (with_reducible refine (laws_toIntS.calls kj16 _ _ l0 t447 _ ?side1 ?side2 A34.out).mono ?_); (case side1 => repeat (first | exact (Kd.zka HR0.out HB.out) | (with_reducible refine Kd.zea ?_ _) | (with_reducible refine Kd.zga ?_ _) | (with_reducible refine Kd.zha ?_))); (case side2 => exact HC0.out); rintro e w50 ⟨v448, rfl, ho0, hb⟩; refine ⟨_, rfl, ?_⟩; have n0_ := za.mk (Kd.zua (by (with_reducible repeat (first | apply Kd.zn | apply Kd.zo | apply Kd.zq)); exact HO_12.out) (Kd.zgb ho0) hb); have n1_ := za.mk (Kd.zba (by (with_reducible repeat (first | apply Kd.zn | apply Kd.zo | apply Kd.zq)); exact HO_13.out) hb); have n2_ := za.mk (Kd.zua (by (with_reducible repeat (first | apply Kd.zn | apply Kd.zo | apply Kd.zq)); exact HO_14.out) (Kd.zgb ho0) hb); have n3_ := za.mk (Kd.zqa (Kd.zhb (Kd.zhb ho0 (Kd.R_lt (by (with_reducible repeat (first | apply Kd.zn | apply Kd.zo | apply Kd.zq)); exact HO_12.out))) (Kd.R_lt (by (with_reducible repeat (first | apply Kd.zn | apply Kd.zo | apply Kd.zq)); exact HO_14.out))) (zp (by repeat (first | (with_reducible first | exact HB.out | apply zc | apply zb | apply zd) | exact HB.out)))); have n4_ := za.mk (zg (by repeat (first | (with_reducible first | exact HB.out | apply zc | apply zb | apply zd) | exact HB.out)) hb); clear HO_12; clear HO_13; clear HO_14; clear HB; have HO_12 := n0_; have HO_13 := n1_; have HO_14 := n2_; have HO449 := n3_; have HB := n4_; clear n0_ n1_ n2_ n3_ n4_; (try clear hb); (try clear hb2); (try clear hk); (try clear hi); (try clear ho0); obtain ⟨Ao51, co51, eo51⟩ := Kd.zia HO449.out; subst eo51) | ((with_reducible refine zj (f := 19) rfl ?_); refine zgo (some 64) Try.func19 #[.slice Ao28 t436.length co28, .slice Ao51 t447.length co51] rfl ?_; (with_reducible refine (laws_eqIntS.calls kj16 _ _ t436 _ _ t447 true _ ?side1 ?side2 ?side3 ?side4 A35.out).mono ?_); (case side1 => repeat (first | exact (Kd.zt HO_12.out).2.2 | (with_reducible refine Kd.zea ?_ _) | (with_reducible refine Kd.zga ?_ _) | (with_reducible refine Kd.zha ?_))); (case side2 => exact (Kd.zt HO_12.out).2.1); (case side3 => repeat (first | exact (Kd.zt HO449.out).2.2 | (with_reducible refine Kd.zea ?_ _) | (with_reducible refine Kd.zga ?_ _) | (with_reducible refine Kd.zha ?_))); (case side4 => exact (Kd.zt HO449.out).2.1); rintro e w' ⟨rfl, ⟨nd, rfl⟩⟩; refine ⟨_, rfl, ?_⟩) | ((with_reducible refine zj (f := 17) rfl ?_); refine zgo (some 68) Try.func17 #[.slice A1 l1.length c1] rfl ?_; (with_reducible refine (laws_toSpanS.calls kj16 _ _ l1 t451 _ ?side1 ?side2 A37.out).mono ?_); (case side1 => repeat (first | exact (Kd.zka HR1.out (by repeat (first | (with_reducible first | exact HB.out | apply zc | apply zb | apply zd) | exact HB.out))) | (with_reducible refine Kd.zea ?_ _) | (with_reducible refine Kd.zga ?_ _) | (with_reducible refine Kd.zha ?_))); (case side2 => exact HC1.out); rintro e w52 ⟨v452, rfl, ho0, hb⟩; refine ⟨_, rfl, ?_⟩; have n0_ := za.mk (Kd.zba (by (with_reducible repeat (first | apply Kd.zn | apply Kd.zo | apply Kd.zq)); exact HO_12.out) hb); have n1_ := za.mk (Kd.zua (by (with_reducible repeat (first | apply Kd.zn | apply Kd.zo | apply Kd.zq)); exact HO_13.out) (Kd.zgb ho0) hb); have n2_ := za.mk (Kd.zba (by (with_reducible repeat (first | apply Kd.zn | apply Kd.zo | apply Kd.zq)); exact HO_14.out) hb); have n3_ := za.mk (Kd.zba (by (with_reducible repeat (first | apply Kd.zn | apply Kd.zo | apply Kd.zq)); exact HO449.out) hb); have n4_ := za.mk (Kd.zqa (Kd.zhb ho0 (Kd.R_lt (by (with_reducible repeat (first | apply Kd.zn | apply Kd.zo | apply Kd.zq)); exact HO_13.out))) (zp (by repeat (first | (with_reducible first | exact HB.out | apply zc | apply zb | apply zd) | exact HB.out)))); have n5_ := za.mk (zg (by repeat (first | (with_reducible first | exact HB.out | apply zc | apply zb | apply zd) | exact HB.out)) hb); clear HO_12; clear HO_13; clear HO_14; clear HO449; clear HB; have HO_12 := n0_; have HO_13 := n1_; have HO_14 := n2_; have HO449 := n3_; have HO453 := n4_; have HB := n5_; clear n0_ n1_ n2_ n3_ n4_ n5_; (try clear hb); (try clear hb2); (try clear hk); (try clear hi); (try clear ho0); obtain ⟨Ao53, co53, eo53⟩ := Kd.zia HO453.out; subst eo53) | ((with_reducible refine zj (f := 20) rfl ?_); refine zgo (some 69) Try.func20 #[.slice Ao29 t439.length co29, .slice Ao53 t451.length co53] rfl ?_; (with_reducible refine (laws_eqSpanS.calls kj16 _ _ t439 _ _ t451 true _ ?side1 ?side2 ?side3 ?side4 A38.out).mono ?_); (case side1 => repeat (first | exact (Kd.zt HO_13.out).2.2 | (with_reducible refine Kd.zea ?_ _) | (with_reducible refine Kd.zga ?_ _) | (with_reducible refine Kd.zha ?_))); (case side2 => exact (Kd.zt HO_13.out).2.1); (case side3 => repeat (first | exact (Kd.zt HO453.out).2.2 | (with_reducible refine Kd.zea ?_ _) | (with_reducible refine Kd.zga ?_ _) | (with_reducible refine Kd.zha ?_))); (case side4 => exact (Kd.zt HO453.out).2.1); rintro e w54 ⟨rfl, hb⟩; refine ⟨_, rfl, ?_⟩; have n0_ := za.mk (Kd.zba (by (with_reducible repeat (first | apply Kd.zn | apply Kd.zo | apply Kd.zq)); exact HO_12.out) hb); have n1_ := za.mk (Kd.zba (by (with_reducible repeat (first | apply Kd.zn | apply Kd.zo | apply Kd.zq)); exact HO_13.out) hb); have n2_ := za.mk (Kd.zba (by (with_reducible repeat (first | apply Kd.zn | apply Kd.zo | apply Kd.zq)); exact HO_14.out) hb); have n3_ := za.mk (Kd.zba (by (with_reducible repeat (first | apply Kd.zn | apply Kd.zo | apply Kd.zq)); exact HO449.out) hb); have n4_ := za.mk (Kd.zba (by (with_reducible repeat (first | apply Kd.zn | apply Kd.zo | apply Kd.zq)); exact HO453.out) hb); have n5_ := za.mk (zg (by repeat (first | (with_reducible first | exact HB.out | apply zc | apply zb | apply zd) | exact HB.out)) hb); clear HO_12; clear HO_13; clear HO_14; clear HO449; clear HO453; clear HB; have HO_12 := n0_; have HO_13 := n1_; have HO_14 := n2_; have HO449 := n3_; have HO453 := n4_; have HB := n5_; clear n0_ n1_ n2_ n3_ n4_ n5_; (try clear hb); (try clear hb2); (try clear hk); (try clear hi)) | ((with_reducible refine zj (f := 16) rfl ?_); refine zgo (some 73) Try.func16 #[.slice A3 l3.length c3] rfl ?_; (with_reducible refine (laws_toIntS.calls kj16 _ _ l3 t455 _ ?side1 ?side2 A40.out).mono ?_); (case side1 => repeat (first | exact (Kd.zka HR3.out HB.out) | (with_reducible refine Kd.zea ?_ _) | (with_reducible refine Kd.zga ?_ _) | (with_reducible refine Kd.zha ?_))); (case side2 => exact HC3.out); rintro e w55 ⟨v456, rfl, ho0, hb⟩; refine ⟨_, rfl, ?_⟩; have n0_ := za.mk (Kd.zua (by (with_reducible repeat (first | apply Kd.zn | apply Kd.zo | apply Kd.zq)); exact HO_12.out) (Kd.zgb ho0) hb); have n1_ := za.mk (Kd.zba (by (with_reducible repeat (first | apply Kd.zn | apply Kd.zo | apply Kd.zq)); exact HO_13.out) hb); have n2_ := za.mk (Kd.zua (by (with_reducible repeat (first | apply Kd.zn | apply Kd.zo | apply Kd.zq)); exact HO_14.out) (Kd.zgb ho0) hb); have n3_ := za.mk (Kd.zua (by (with_reducible repeat (first | apply Kd.zn | apply Kd.zo | apply Kd.zq)); exact HO449.out) (Kd.zgb ho0) hb); have n4_ := za.mk (Kd.zba (by (with_reducible repeat (first | apply Kd.zn | apply Kd.zo | apply Kd.zq)); exact HO453.out) hb); have n5_ := za.mk (Kd.zqa (Kd.zhb (Kd.zhb (Kd.zhb ho0 (Kd.R_lt (by (with_reducible repeat (first | apply Kd.zn | apply Kd.zo | apply Kd.zq)); exact HO_12.out))) (Kd.R_lt (by (with_reducible repeat (first | apply Kd.zn | apply Kd.zo | apply Kd.zq)); exact HO_14.out))) (Kd.R_lt (by (with_reducible repeat (first | apply Kd.zn | apply Kd.zo | apply Kd.zq)); exact HO449.out))) (zp (by repeat (first | (with_reducible first | exact HB.out | apply zc | apply zb | apply zd) | exact HB.out)))); have n6_ := za.mk (zg (by repeat (first | (with_reducible first | exact HB.out | apply zc | apply zb | apply zd) | exact HB.out)) hb); clear HO_12; clear HO_13; clear HO_14; clear HO449; clear HO453; clear HB; have HO_12 := n0_; have HO_13 := n1_; have HO_14 := n2_; have HO449 := n3_; have HO453 := n4_; have HO457 := n5_; have HB := n6_; clear n0_ n1_ n2_ n3_ n4_ n5_ n6_; (try clear hb); (try clear hb2); (try clear hk); (try clear hi); (try clear ho0); obtain ⟨Ao56, co56, eo56⟩ := Kd.zia HO457.out; subst eo56) | ((with_reducible refine zj (f := 19) rfl ?_); refine zgo (some 74) Try.func19 #[.slice Ao30 t442.length co30, .slice Ao56 t455.length co56] rfl ?_; (with_reducible refine (laws_eqIntS.calls kj16 _ _ t442 _ _ t455 false _ ?side1 ?side2 ?side3 ?side4 A41.out).mono ?_); (case side1 => repeat (first | exact (Kd.zt HO_14.out).2.2 | (with_reducible refine Kd.zea ?_ _) | (with_reducible refine Kd.zga ?_ _) | (with_reducible refine Kd.zha ?_))); (case side2 => exact (Kd.zt HO_14.out).2.1); (case side3 => repeat (first | exact (Kd.zt HO457.out).2.2 | (with_reducible refine Kd.zea ?_ _) | (with_reducible refine Kd.zga ?_ _) | (with_reducible refine Kd.zha ?_))); (case side4 => exact (Kd.zt HO457.out).2.1); rintro e w' ⟨rfl, ⟨nd, rfl⟩⟩; refine ⟨_, rfl, ?_⟩))
          go_ret
          exact ⟨by first | rfl | (simp [zh, zi] <;> rfl) | (simp [*, zh, zi] <;> rfl), by repeat (first | (with_reducible first | exact HB.out | apply zc | apply zb | apply zd) | exact HB.out)⟩
        ·replace c39 := Bool.eq_false_iff.mpr c39
         subst c39
         have H1 : (some false) = some r := by rw [if_neg (show ¬ (false = true) by decide)] at H; exact H
         clear H
         have H := H1
         clear H1
         obtain rfl := Option.some.inj H
         go_wp2_with (first | ((with_reducible refine zj (f := 16) rfl ?_); refine zgo (some 63) Try.func16 #[.slice A0 l0.length c0] rfl ?_; (with_reducible refine (laws_toIntS.calls kj16 _ _ l0 t447 _ ?side1 ?side2 A34.out).mono ?_); (case side1 => repeat (first | exact (Kd.zka HR0.out HB.out) | (with_reducible refine Kd.zea ?_ _) | (with_reducible refine Kd.zga ?_ _) | (with_reducible refine Kd.zha ?_))); (case side2 => exact HC0.out); rintro e w57 ⟨v448, rfl, ho0, hb⟩; refine ⟨_, rfl, ?_⟩; have n0_ := za.mk (Kd.zua (by (with_reducible repeat (first | apply Kd.zn | apply Kd.zo | apply Kd.zq)); exact HO_12.out) (Kd.zgb ho0) hb); have n1_ := za.mk (Kd.zba (by (with_reducible repeat (first | apply Kd.zn | apply Kd.zo | apply Kd.zq)); exact HO_13.out) hb); have n2_ := za.mk (Kd.zua (by (with_reducible repeat (first | apply Kd.zn | apply Kd.zo | apply Kd.zq)); exact HO_14.out) (Kd.zgb ho0) hb); have n3_ := za.mk (Kd.zqa (Kd.zhb (Kd.zhb ho0 (Kd.R_lt (by (with_reducible repeat (first | apply Kd.zn | apply Kd.zo | apply Kd.zq)); exact HO_12.out))) (Kd.R_lt (by (with_reducible repeat (first | apply Kd.zn | apply Kd.zo | apply Kd.zq)); exact HO_14.out))) (zp (by repeat (first | (with_reducible first | exact HB.out | apply zc | apply zb | apply zd) | exact HB.out)))); have n4_ := za.mk (zg (by repeat (first | (with_reducible first | exact HB.out | apply zc | apply zb | apply zd) | exact HB.out)) hb); clear HO_12; clear HO_13; clear HO_14; clear HB; have HO_12 := n0_; have HO_13 := n1_; have HO_14 := n2_; have HO449 := n3_; have HB := n4_; clear n0_ n1_ n2_ n3_ n4_; (try clear hb); (try clear hb2); (try clear hk); (try clear hi); (try clear ho0); obtain ⟨Ao58, co58, eo58⟩ := Kd.zia HO449.out; subst eo58) | ((with_reducible refine zj (f := 19) rfl ?_); refine zgo (some 64) Try.func19 #[.slice Ao28 t436.length co28, .slice Ao58 t447.length co58] rfl ?_; (with_reducible refine (laws_eqIntS.calls kj16 _ _ t436 _ _ t447 true _ ?side1 ?side2 ?side3 ?side4 A35.out).mono ?_); (case side1 => repeat (first | exact (Kd.zt HO_12.out).2.2 | (with_reducible refine Kd.zea ?_ _) | (with_reducible refine Kd.zga ?_ _) | (with_reducible refine Kd.zha ?_))); (case side2 => exact (Kd.zt HO_12.out).2.1); (case side3 => repeat (first | exact (Kd.zt HO449.out).2.2 | (with_reducible refine Kd.zea ?_ _) | (with_reducible refine Kd.zga ?_ _) | (with_reducible refine Kd.zha ?_))); (case side4 => exact (Kd.zt HO449.out).2.1); rintro e w' ⟨rfl, ⟨nd, rfl⟩⟩; refine ⟨_, rfl, ?_⟩) | ((with_reducible refine zj (f := 17) rfl ?_); refine zgo (some 68) Try.func17 #[.slice A1 l1.length c1] rfl ?_; (with_reducible refine (laws_toSpanS.calls kj16 _ _ l1 t451 _ ?side1 ?side2 A37.out).mono ?_); (case side1 => repeat (first | exact (Kd.zka HR1.out (by repeat (first | (with_reducible first | exact HB.out | apply zc | apply zb | apply zd) | exact HB.out))) | (with_reducible refine Kd.zea ?_ _) | (with_reducible refine Kd.zga ?_ _) | (with_reducible refine Kd.zha ?_))); (case side2 => exact HC1.out); rintro e w59 ⟨v452, rfl, ho0, hb⟩; refine ⟨_, rfl, ?_⟩; have n0_ := za.mk (Kd.zba (by (with_reducible repeat (first | apply Kd.zn | apply Kd.zo | apply Kd.zq)); exact HO_12.out) hb); have n1_ := za.mk (Kd.zua (by (with_reducible repeat (first | apply Kd.zn | apply Kd.zo | apply Kd.zq)); exact HO_13.out) (Kd.zgb ho0) hb); have n2_ := za.mk (Kd.zba (by (with_reducible repeat (first | apply Kd.zn | apply Kd.zo | apply Kd.zq)); exact HO_14.out) hb); have n3_ := za.mk (Kd.zba (by (with_reducible repeat (first | apply Kd.zn | apply Kd.zo | apply Kd.zq)); exact HO449.out) hb); have n4_ := za.mk (Kd.zqa (Kd.zhb ho0 (Kd.R_lt (by (with_reducible repeat (first | apply Kd.zn | apply Kd.zo | apply Kd.zq)); exact HO_13.out))) (zp (by repeat (first | (with_reducible first | exact HB.out | apply zc | apply zb | apply zd) | exact HB.out)))); have n5_ := za.mk (zg (by repeat (first | (with_reducible first | exact HB.out | apply zc | apply zb | apply zd) | exact HB.out)) hb); clear HO_12; clear HO_13; clear HO_14; clear HO449; clear HB; have HO_12 := n0_; have HO_13 := n1_; have HO_14 := n2_; have HO449 := n3_; have HO453 := n4_; have HB := n5_; clear n0_ n1_ n2_ n3_ n4_ n5_; (try clear hb); (try clear hb2); (try clear hk); (try clear hi); (try clear ho0); obtain ⟨Ao60, co60, eo60⟩ := Kd.zia HO453.out; subst eo60) | ((with_reducible refine zj (f := 20) rfl ?_); refine zgo (some 69) Try.func20 #[.slice Ao29 t439.length co29, .slice Ao60 t451.length co60] rfl ?_; (with_reducible refine (laws_eqSpanS.calls kj16 _ _ t439 _ _ t451 false _ ?side1 ?side2 ?side3 ?side4 A38.out).mono ?_); (case side1 => repeat (first | exact (Kd.zt HO_13.out).2.2 | (with_reducible refine Kd.zea ?_ _) | (with_reducible refine Kd.zga ?_ _) | (with_reducible refine Kd.zha ?_))); (case side2 => exact (Kd.zt HO_13.out).2.1); (case side3 => repeat (first | exact (Kd.zt HO453.out).2.2 | (with_reducible refine Kd.zea ?_ _) | (with_reducible refine Kd.zga ?_ _) | (with_reducible refine Kd.zha ?_))); (case side4 => exact (Kd.zt HO453.out).2.1); rintro e w61 ⟨rfl, hb⟩; refine ⟨_, rfl, ?_⟩; have n0_ := za.mk (Kd.zba (by (with_reducible repeat (first | apply Kd.zn | apply Kd.zo | apply Kd.zq)); exact HO_12.out) hb); have n1_ := za.mk (Kd.zba (by (with_reducible repeat (first | apply Kd.zn | apply Kd.zo | apply Kd.zq)); exact HO_13.out) hb); have n2_ := za.mk (Kd.zba (by (with_reducible repeat (first | apply Kd.zn | apply Kd.zo | apply Kd.zq)); exact HO_14.out) hb); have n3_ := za.mk (Kd.zba (by (with_reducible repeat (first | apply Kd.zn | apply Kd.zo | apply Kd.zq)); exact HO449.out) hb); have n4_ := za.mk (Kd.zba (by (with_reducible repeat (first | apply Kd.zn | apply Kd.zo | apply Kd.zq)); exact HO453.out) hb); have n5_ := za.mk (zg (by repeat (first | (with_reducible first | exact HB.out | apply zc | apply zb | apply zd) | exact HB.out)) hb); clear HO_12; clear HO_13; clear HO_14; clear HO449; clear HO453; clear HB; have HO_12 := n0_; have HO_13 := n1_; have HO_14 := n2_; have HO449 := n3_; have HO453 := n4_; have HB := n5_; clear n0_ n1_ n2_ n3_ n4_ n5_; (try clear hb); (try clear hb2); (try clear hk); (try clear hi)))
         go_ret
         exact ⟨by first | rfl | (simp [zh, zi] <;> rfl) | (simp [*, zh, zi] <;> rfl), by repeat (first | (with_reducible first | exact HB.out | apply zc | apply zb | apply zd) | exact HB.out)⟩
       ·replace c36 := Bool.eq_false_iff.mpr c36
        subst c36
        have H1 : (some false) = some r := by rw [if_neg (show ¬ (false = true) by decide)] at H; exact H
        clear H
        have H := H1
        clear H1
        obtain rfl := Option.some.inj H
        go_wp2_with (first | ((with_reducible refine zj (f := 16) rfl ?_); refine zgo (some 63) Try.func16 #[.slice A0 l0.length c0] rfl ?_; (with_reducible refine (laws_toIntS.calls kj16 _ _ l0 t447 _ ?side1 ?side2 A34.out).mono ?_); (case side1 => repeat (first | exact (Kd.zka HR0.out HB.out) | (with_reducible refine Kd.zea ?_ _) | (with_reducible refine Kd.zga ?_ _) | (with_reducible refine Kd.zha ?_))); (case side2 => exact HC0.out); rintro e w62 ⟨v448, rfl, ho0, hb⟩; refine ⟨_, rfl, ?_⟩; have n0_ := za.mk (Kd.zua (by (with_reducible repeat (first | apply Kd.zn | apply Kd.zo | apply Kd.zq)); exact HO_12.out) (Kd.zgb ho0) hb); have n1_ := za.mk (Kd.zba (by (with_reducible repeat (first | apply Kd.zn | apply Kd.zo | apply Kd.zq)); exact HO_13.out) hb); have n2_ := za.mk (Kd.zua (by (with_reducible repeat (first | apply Kd.zn | apply Kd.zo | apply Kd.zq)); exact HO_14.out) (Kd.zgb ho0) hb); have n3_ := za.mk (Kd.zqa (Kd.zhb (Kd.zhb ho0 (Kd.R_lt (by (with_reducible repeat (first | apply Kd.zn | apply Kd.zo | apply Kd.zq)); exact HO_12.out))) (Kd.R_lt (by (with_reducible repeat (first | apply Kd.zn | apply Kd.zo | apply Kd.zq)); exact HO_14.out))) (zp (by repeat (first | (with_reducible first | exact HB.out | apply zc | apply zb | apply zd) | exact HB.out)))); have n4_ := za.mk (zg (by repeat (first | (with_reducible first | exact HB.out | apply zc | apply zb | apply zd) | exact HB.out)) hb); clear HO_12; clear HO_13; clear HO_14; clear HB; have HO_12 := n0_; have HO_13 := n1_; have HO_14 := n2_; have HO449 := n3_; have HB := n4_; clear n0_ n1_ n2_ n3_ n4_; (try clear hb); (try clear hb2); (try clear hk); (try clear hi); (try clear ho0); obtain ⟨Ao63, co63, eo63⟩ := Kd.zia HO449.out; subst eo63) | ((with_reducible refine zj (f := 19) rfl ?_); refine zgo (some 64) Try.func19 #[.slice Ao28 t436.length co28, .slice Ao63 t447.length co63] rfl ?_; (with_reducible refine (laws_eqIntS.calls kj16 _ _ t436 _ _ t447 false _ ?side1 ?side2 ?side3 ?side4 A35.out).mono ?_); (case side1 => repeat (first | exact (Kd.zt HO_12.out).2.2 | (with_reducible refine Kd.zea ?_ _) | (with_reducible refine Kd.zga ?_ _) | (with_reducible refine Kd.zha ?_))); (case side2 => exact (Kd.zt HO_12.out).2.1); (case side3 => repeat (first | exact (Kd.zt HO449.out).2.2 | (with_reducible refine Kd.zea ?_ _) | (with_reducible refine Kd.zga ?_ _) | (with_reducible refine Kd.zha ?_))); (case side4 => exact (Kd.zt HO449.out).2.1); rintro e w' ⟨rfl, ⟨nd, rfl⟩⟩; refine ⟨_, rfl, ?_⟩))
        go_ret
        exact ⟨by first | rfl | (simp [zh, zi] <;> rfl) | (simp [*, zh, zi] <;> rfl), by repeat (first | (with_reducible first | exact HB.out | apply zc | apply zb | apply zd) | exact HB.out)⟩
def laws_FnExactFillCost.Pure : Prop := ∀ (l0 : List Int) (l1 : List (S59)) (a2 : Int) (l3 : List Int), l0.length ≤ maxLen → l0.length * 8 ≤ 140737488351232 → (∀ x ∈ l0, (Lit.int .i64 x).wf = true) → l1.length ≤ maxLen → l1.length * 32 ≤ 140737488351232 → (∀ x ∈ l1, (Lit.int .i64 x.f0).wf = true ∧ (Lit.int .i64 x.f1).wf = true ∧ (Lit.int .i64 x.f2).wf = true ∧ (Lit.int .i64 x.f3).wf = true) → (Lit.int .i64 a2).wf = true → l3.length ≤ maxLen → l3.length * 8 ≤ 140737488351232 → (∀ x ∈ l3, (Lit.int .i64 x).wf = true) → ∃ k, laws_FnExactFillCost.f k l0 l1 a2 l3 = some true
theorem laws_FnExactFillCost.walk (P : laws_FnExactFillCost.Pure) (A0 : Option Addr) (c0 : Nat) (l0 : List Int) (A1 : Option Addr) (c1 : Nat) (l1 : List S59) (a2 : Int) (A3 : Option Addr) (c3 : Nat) (l3 : List Int) (w : World) (hr0 : Kd.C (Kd.int .i64) w A0 l0.length l0) (hc0 : l0.length ≤ c0) (m0 : l0.length ≤ maxLen) (y0 : l0.length * 8 ≤ 140737488351232) (wf0 : ∀ x ∈ l0, (Lit.int .i64 x).wf = true) (hr1 : Kd.C k59 w A1 l1.length l1) (hc1 : l1.length ≤ c1) (m1 : l1.length ≤ maxLen) (y1 : l1.length * 32 ≤ 140737488351232) (wf1 : ∀ x ∈ l1, (Lit.int .i64 x.f0).wf = true ∧ (Lit.int .i64 x.f1).wf = true ∧ (Lit.int .i64 x.f2).wf = true ∧ (Lit.int .i64 x.f3).wf = true) (w2 : (Lit.int .i64 a2).wf = true) (hr3 : Kd.C (Kd.int .i64) w A3 l3.length l3) (hc3 : l3.length ≤ c3) (m3 : l3.length ≤ maxLen) (y3 : l3.length * 8 ≤ 140737488351232) (wf3 : ∀ x ∈ l3, (Lit.int .i64 x).wf = true) :
  Calls Try.prog 13 #[.slice A0 l0.length c0, .slice A1 l1.length c1, .int .i64 a2, .slice A3 l3.length c3] w fun e w' => e = .returned (.bool true) ∧ Below w.heap.size w w' := by
 obtain ⟨k, h⟩ := P l0 l1 a2 l3 m0 y0 wf0 m1 y1 wf1 w2 m3 y3 wf3
 refine (laws_FnExactFillCost.calls k A0 c0 l0 A1 c1 l1 a2 A3 c3 l3 true w hr0 hc0 hr1 hc1 hr3 hc3 h).mono ?_
 rintro e w' ⟨rfl, hd⟩
 exact ⟨rfl, hd⟩
end Go.Proofs.Ytmjhdgofepdgkaa.PFnExactFillCost
