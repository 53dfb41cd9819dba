-- Written by a program of this session (wip/tools) out of the translation; its shape is that of the kit print.
import Derived.Test.YtmjhdgofepdgkaaPFnExactFillCostx0
import Derived.Test.YtmjhdgofepdgkaaPFnExactFillCostx19
namespace Go.Proofs.Ytmjhdgofepdgkaa.PFnExactFillCost
open Go.RowKit Go.Proofs.YtmjhdgofepdgkaaW.PrintWords Go.Proofs.YtmjhdgofepdgkaaW.PrintLast Go.Proofs.YtmjhdgofepdgkaaW.PrintMore
attribute [local go_sem] zbb zcb zjb zkb zxa zya zdb zeb
set_option linter.unusedVariables false
set_option maxHeartbeats 8000000
set_option maxRecDepth 100000
set_option linter.unusedSimpArgs false
def impl_SpansOk.l0 : Nat → List (S40) → Int → List (S40) → Int → Int → Option (Bool)
 | 0, _, _, _, _, _ => none
 | k + 1, x0, x1, x7, x8, x9 => if x9 < x8 then (if 0 ≤ x9 then (if x9 < (x7.length : Int) then ((impl_spanOk.f ((zk x7 x9).f0) ((zk x7 x9).f1) ((zk x7 x9).f2) ((zk x7 x9).f3) x1).bind fun t418 => (if t418 = true then (if x9 > 0 then (if 0 ≤ (wrap64 (x9 - 1)) then (if (wrap64 (x9 - 1)) < (x0.length : Int) then (if ((zk x0 (wrap64 (x9 - 1))).f1) > ((zk x7 x9).f0) then (some false) else (impl_SpansOk.l0 k x0 x1 x7 x8 (wrap64 (x9 + 1)))) else (none)) else (none)) else (impl_SpansOk.l0 k x0 x1 x7 x8 (wrap64 (x9 + 1)))) else (some false))) else (none)) else (none)) else (if x1 ≥ 0 then (if x1 ≤ 80 then (some (decide ((x0.length : Int) ≤ 12))) else (some false)) else (some false))
def impl_SpansOk.f (k : Nat) (l0 : List (S40)) (a1 : Int) : Option (Bool) := impl_SpansOk.l0 k l0 a1 l0 (l0.length : Int) 0
def impl_SpansOk.T4 : Bool × List (List Nat × List Nat) := (true, [([], []), ([], []), ([0, 1], [0, 1]), ([2], [2]), ([3, 2], [3]), ([4], [4]), ([5, 4], [4, 5]), ([6, 4, 4], [4, 6]), ([7], [7]), ([7], [7]), ([9, 7], [7, 9]), ([8, 10, 7], [7, 8, 10]), ([11, 7], [7, 11]), ([12, 7], [7, 12]), ([7], [7]), ([14, 7], [7, 14]), ([13, 15, 7], [7, 13, 15]), ([7, 16, 4], [4, 7, 16]), ([4, 17], [4, 17])])
def impl_SpansOk.B4 : List Nat := [0, 0, 3, 7, 15, 31, 63, 127, 255, 255, 767, 2047, 4095, 8191, 255, 16639, 65535, 131071, 262143]
theorem impl_SpansOk.tab4 : rtab .any (opsOf Try.f54 4) = impl_SpansOk.T4 := by kernel_rfl
theorem impl_SpansOk.bits4 : waitsOk impl_SpansOk.T4.2 impl_SpansOk.B4 = true := by kernel_rfl
theorem impl_SpansOk.calls (k : Nat) (A0 : Option Addr) (c0 : Nat) (l0 : List (S40)) (a1 : Int) (r : Bool) (w : World) (hr0 : Kd.C k40 w A0 l0.length l0) (hc0 : l0.length ≤ c0) (h : impl_SpansOk.f k l0 a1 = some r) :
  Calls Try.prog 54 #[.slice A0 l0.length c0, .int .i64 a1] w fun e w' => e = .returned (.bool r) ∧ Below w.heap.size w w' := by
 have hu40 := Try.underlying40
 have HR0 := za.mk hr0
 have HC0 := za.mk hc0
 clear hr0 hc0
 have HB := za.mk (Below.refl w.heap.size w)
 have H : (impl_SpansOk.l0 k l0 a1 l0 (l0.length : Int) 0) = some r := h
 clear h
 have H' := za.mk H
 clear H
 go_enter Try.func54, Try.ntmps54
 go_wp2
 go_loopg [9] k (fun kq v9 w' => ∃ (x9_1 : Int), v9 = .int .i64 x9_1 ∧ za (impl_SpansOk.l0 kq l0 a1 l0 (l0.length : Int) x9_1 = some r) ∧ za (kq ≤ k) ∧ za (Below w.heap.size w w'))
 case atStart => exact ⟨(0), (by first | rfl | (simp; done) | (simp [*]; done)), H', ⟨Nat.le_refl _⟩, ⟨by repeat (first | (with_reducible first | exact HB.out | apply zc | apply zb | apply zd) | exact HB.out)⟩⟩
 case round =>
  clear H'
  try clear p2
  obtain ⟨x9_1, rfl, HA, HK1, HB⟩ := hrel
  cases gk with
  | zero => exact absurd HA.out (by simp [impl_SpansOk.l0])
  | succ k1 =>
   have H := HA.out
   clear HA
   simp only [impl_SpansOk.l0] at H
   by_cases c3 : x9_1 < (l0.length : Int)
   ·rw [if_pos c3] at H
    have c3b0 : decide (x9_1 < (l0.length : Int)) = true := decide_eq_true c3
    clear c3
    by_cases c4 : 0 ≤ x9_1
    ·rw [if_pos c4] at H
     have c4b0 : decide (0 ≤ x9_1) = true := decide_eq_true c4
     clear c4
     by_cases c5 : x9_1 < (l0.length : Int)
     ·rw [if_pos c5] at H
      have c5b0 : decide (x9_1 < (l0.length : Int)) = true := decide_eq_true c5
      clear c5
      replace H := Option.bind_eq_some_iff.mp H
      obtain ⟨t418, A60, H⟩ := H
      replace H : (if t418 = true then (if x9_1 > 0 then (if 0 ≤ (wrap64 (x9_1 - 1)) then (if (wrap64 (x9_1 - 1)) < (l0.length : Int) then (if ((zk l0 (wrap64 (x9_1 - 1))).f1) > ((zk l0 x9_1).f0) then (some false) else (impl_SpansOk.l0 k1 l0 a1 l0 (l0.length : Int) (wrap64 (x9_1 + 1)))) else (none)) else (none)) else (impl_SpansOk.l0 k1 l0 a1 l0 (l0.length : Int) (wrap64 (x9_1 + 1)))) else (some false)) = some r := H
      have A6 := za.mk A60
      clear A60
      by_cases c7 : t418 = true
      ·subst c7
       have H1 : (if x9_1 > 0 then (if 0 ≤ (wrap64 (x9_1 - 1)) then (if (wrap64 (x9_1 - 1)) < (l0.length : Int) then (if ((zk l0 (wrap64 (x9_1 - 1))).f1) > ((zk l0 x9_1).f0) then (some false) else (impl_SpansOk.l0 k1 l0 a1 l0 (l0.length : Int) (wrap64 (x9_1 + 1)))) else (none)) else (none)) else (impl_SpansOk.l0 k1 l0 a1 l0 (l0.length : Int) (wrap64 (x9_1 + 1)))) = some r := by rw [if_pos rfl] at H; exact H
       clear H
       have H := H1
       clear H1
       by_cases c8 : x9_1 > 0
       ·rw [if_pos c8] at H
        have c8b0 : decide (0 < x9_1) = true := decide_eq_true c8
        clear c8
        obtain ⟨ji9, hji9⟩ : ∃ j_ : Int, (wrap64 (x9_1 - 1)) = j_ := ⟨_, rfl⟩
        replace H : (if 0 ≤ (ji9) then (if (ji9) < (l0.length : Int) then (if ((zk l0 (ji9)).f1) > ((zk l0 x9_1).f0) then (some false) else (impl_SpansOk.l0 k1 l0 a1 l0 (l0.length : Int) (wrap64 (x9_1 + 1)))) else (none)) else (none)) = some r := by first | (rw [hji9] at H; exact H) | (simp only [hji9] at H ⊢; exact H)
        (try rw [hji9] at A6)
        have hji9w : (IntKind.i64.wrap (x9_1 - 1)) = ji9 := (zr _).trans hji9
        by_cases c10 : 0 ≤ (ji9)
        ·rw [if_pos c10] at H
         have c10b0 : decide (0 ≤ (ji9)) = true := decide_eq_true c10
         clear c10
         by_cases c11 : (ji9) < (l0.length : Int)
         ·rw [if_pos c11] at H
          have c11b0 : decide ((ji9) < (l0.length : Int)) = true := decide_eq_true c11
          clear c11
          by_cases c12 : ((zk l0 (ji9)).f1) > ((zk l0 x9_1).f0)
          ·rw [if_pos c12] at H
           have c12b0 : decide (((zk l0 x9_1).f0) < ((zk l0 (ji9)).f1)) = true := decide_eq_true c12
           clear c12
           obtain rfl := Option.some.inj H
           have p416 : 0 ≤ (x9_1 : Int) := of_decide_eq_true (by assumption)
           have q416 : x9_1 < (l0.length : Int) := of_decide_eq_true (by assumption)
           obtain ⟨ad416, e416, hx416_0, hx416_1, hx416_2, hx416_3⟩ := zlb HR0.out x9_1 p416 q416
           cases e416
           replace hx416_0 := (HB.out.cell (World.block_lt_of_cell? w _ hx416_0)).trans hx416_0
           replace hx416_1 := (HB.out.cell (World.block_lt_of_cell? w _ hx416_1)).trans hx416_1
           replace hx416_2 := (HB.out.cell (World.block_lt_of_cell? w _ hx416_2)).trans hx416_2
           replace hx416_3 := (HB.out.cell (World.block_lt_of_cell? w _ hx416_3)).trans hx416_3
           replace p416 := eq_true p416
           replace q416 := eq_true q416
           try go_wp2_with (first | ((with_reducible refine zw (N := 6) rfl ?_); (try (refine zla (by rfl) ?_; dsimp only)); refine zca ?hg (N := 6) ?hd (cs := #[.int .i64 0, .int .i64 0, .int .i64 0, .int .i64 0]) (t := 40) ?hr ?_; (case hd => rfl); (case hg => rfl); (case hr => first | (go_simp; done) | (go_simp; rfl)); intro gb417 hg w13 hbox hb; have n0_ := za.mk (zg (by repeat (first | (with_reducible first | exact HB.out | apply zc | apply zb | apply zd) | exact HB.out)) hb); have n1_ := za.mk (hbox); have n2_ := za.mk ((by rw [hg]; exact (zp (by repeat (first | (with_reducible first | exact HB.out | apply zc | apply zb | apply zd) | exact HB.out))) : w.heap.size ≤ gb417)); have n3_ := za.mk ((by rw [hg]; exact (zp (by repeat (first | (with_reducible first | exact HB.out | apply zc | apply zb | apply zd) | exact HB.out))) : w.heap.size ≤ gb417)); clear HB; have HB := n0_; have BK417 := n1_; have GW417 := n2_; have GE417 := n3_; clear n0_ n1_ n2_ n3_; clear hb hbox hg; have hcz14_0 : w13.cell? ⟨gb417, 0, none⟩ = some (.int .i64 0) := (zf BK417.out 0).trans rfl; have hcz14_1 : w13.cell? ⟨gb417, 1, none⟩ = some (.int .i64 0) := (zf BK417.out 1).trans rfl; have hcz14_2 : w13.cell? ⟨gb417, 2, none⟩ = some (.int .i64 0) := (zf BK417.out 2).trans rfl; have hcz14_3 : w13.cell? ⟨gb417, 3, none⟩ = some (.int .i64 0) := (zf BK417.out 3).trans rfl; have hfz14_0 := zl BK417.out 0; have hfz14_1 := zl BK417.out 1; have hfz14_2 := zl BK417.out 2; have hfz14_3 := zl BK417.out 3))
           have n0_ : za (((((w13.setCell ⟨gb417, 0, none⟩ (.int .i64 ((zk l0 x9_1).f0))).setCell ⟨gb417, 1, none⟩ (.int .i64 ((zk l0 x9_1).f1))).setCell ⟨gb417, 2, none⟩ (.int .i64 ((zk l0 x9_1).f2))).setCell ⟨gb417, 3, none⟩ (.int .i64 ((zk l0 x9_1).f3))).heap[gb417]? = some (.cells #[.int .i64 ((zk l0 x9_1).f0), .int .i64 ((zk l0 x9_1).f1), .int .i64 ((zk l0 x9_1).f2), .int .i64 ((zk l0 x9_1).f3)] 40 (0, 0))) := ⟨by (with_reducible repeat (first | refine zy ?_ _ | refine zaa ?_ | refine zx ?_ _)); refine zfb (cs := #[.int .i64 ((zk l0 x9_1).f0), .int .i64 ((zk l0 x9_1).f1), .int .i64 ((zk l0 x9_1).f2), .int .i64 0]) ?_ 3 _ rfl; (with_reducible repeat (first | refine zy ?_ _ | refine zaa ?_ | refine zx ?_ _)); refine zfb (cs := #[.int .i64 ((zk l0 x9_1).f0), .int .i64 ((zk l0 x9_1).f1), .int .i64 0, .int .i64 0]) ?_ 2 _ rfl; (with_reducible repeat (first | refine zy ?_ _ | refine zaa ?_ | refine zx ?_ _)); refine zfb (cs := #[.int .i64 ((zk l0 x9_1).f0), .int .i64 0, .int .i64 0, .int .i64 0]) ?_ 1 _ rfl; (with_reducible repeat (first | refine zy ?_ _ | refine zaa ?_ | refine zx ?_ _)); refine zfb (cs := #[.int .i64 0, .int .i64 0, .int .i64 0, .int .i64 0]) ?_ 0 _ rfl; (with_reducible repeat (first | refine zy ?_ _ | refine zaa ?_ | refine zx ?_ _)); exact BK417.out⟩
           have n1_ : za (Below w.heap.size w ((((w13.setCell ⟨gb417, 0, none⟩ (.int .i64 ((zk l0 x9_1).f0))).setCell ⟨gb417, 1, none⟩ (.int .i64 ((zk l0 x9_1).f1))).setCell ⟨gb417, 2, none⟩ (.int .i64 ((zk l0 x9_1).f2))).setCell ⟨gb417, 3, none⟩ (.int .i64 ((zk l0 x9_1).f3)))) := ⟨by repeat (first | (with_reducible first | exact HB.out | apply zc | apply zb | apply zd | refine zu ?_ GE417.out) | exact HB.out)⟩
           (try clear BK417)
           (try clear HB)
           generalize ((((w13.setCell ⟨gb417, 0, none⟩ (.int .i64 ((zk l0 x9_1).f0))).setCell ⟨gb417, 1, none⟩ (.int .i64 ((zk l0 x9_1).f1))).setCell ⟨gb417, 2, none⟩ (.int .i64 ((zk l0 x9_1).f2))).setCell ⟨gb417, 3, none⟩ (.int .i64 ((zk l0 x9_1).f3))) = w15 at n0_ n1_ ⊢
           have BK417 := n0_
           have HB := n1_
           clear n0_ n1_
           have n0_ := za.mk (zaa BK417.out)
           have n1_ := za.mk (zd HB.out)
           clear BK417
           clear HB
           have BK417 := n0_
           have HB := n1_
           clear n0_ n1_
           have p419 : 0 ≤ ((ji9) : Int) := of_decide_eq_true (by assumption)
           have q419 : (ji9) < (l0.length : Int) := of_decide_eq_true (by assumption)
           obtain ⟨ad419, e419, hx419_0, hx419_1, hx419_2, hx419_3⟩ := zlb HR0.out (ji9) p419 q419
           have hw419_3 := hx419_3
           have hw419_2 := hx419_2
           have hw419_1 := hx419_1
           have hw419_0 := hx419_0
           obtain rfl : ad416 = ad419 := (by injection e419)
           replace hx419_0 := (HB.out.cell (World.block_lt_of_cell? w _ hx419_0)).trans hx419_0
           replace hx419_1 := (HB.out.cell (World.block_lt_of_cell? w _ hx419_1)).trans hx419_1
           replace hx419_2 := (HB.out.cell (World.block_lt_of_cell? w _ hx419_2)).trans hx419_2
           replace hx419_3 := (HB.out.cell (World.block_lt_of_cell? w _ hx419_3)).trans hx419_3
           replace p419 := eq_true p419
           replace q419 := eq_true q419
           refine start_ (n := 19) (S := fun w' => w'.cell? ⟨gb417, 0, none⟩ = some (.int .i64 ((zk l0 x9_1).f0)) ∧ w'.cell? ⟨gb417, 1, none⟩ = some (.int .i64 ((zk l0 x9_1).f1)) ∧ w'.cell? ⟨gb417, 2, none⟩ = some (.int .i64 ((zk l0 x9_1).f2)) ∧ w'.cell? ⟨gb417, 3, none⟩ = some (.int .i64 ((zk l0 x9_1).f3)) ∧ w'.cell? (ad416.add (((ji9)).toNat * 4)) = some (.int .i64 ((zk l0 (ji9)).f0)) ∧ w'.cell? ⟨(ad416.add (((ji9)).toNat * 4)).block, (ad416.add (((ji9)).toNat * 4)).off + 1, none⟩ = some (.int .i64 ((zk l0 (ji9)).f1)) ∧ w'.cell? ⟨(ad416.add (((ji9)).toNat * 4)).block, (ad416.add (((ji9)).toNat * 4)).off + 2, none⟩ = some (.int .i64 ((zk l0 (ji9)).f2)) ∧ w'.cell? ⟨(ad416.add (((ji9)).toNat * 4)).block, (ad416.add (((ji9)).toNat * 4)).off + 3, none⟩ = some (.int .i64 ((zk l0 (ji9)).f3))) (ds := []) #[F_,F_,F_,F_,F_,F_,F_,F_,F_,F_,F_,F_,F_,F_,F_,F_,F_,F_,F_] (by kernel_rfl) rfl rfl ⟨(zf BK417.out 0).trans rfl, (zf BK417.out 1).trans rfl, (zf BK417.out 2).trans rfl, (zf BK417.out 3).trans rfl, ((HB.out.cell (World.block_lt_of_cell? w _ hw419_0)).trans hw419_0), ((HB.out.cell (World.block_lt_of_cell? w _ hw419_1)).trans hw419_1), ((HB.out.cell (World.block_lt_of_cell? w _ hw419_2)).trans hw419_2), ((HB.out.cell (World.block_lt_of_cell? w _ hw419_3)).trans hw419_3)⟩ (fun hHeld => ?_); refine zwb impl_SpansOk.tab4 impl_SpansOk.bits4 (fun HT_ HW_ => ?_)
           generalize w15.drew = w16 at BK417 HB hx419_0 hx419_1 hx419_2 hx419_3 hHeld ⊢
           refine zz (i := 1) (N := some 15) (v := ?_) (a' := ?_) #[F_,T_,F_,F_,F_,F_,F_,F_,F_,F_,F_,F_,F_,F_,F_,F_,F_,F_,F_] rfl rfl (zv HT_.out (by kernel_rfl)) (fun _ _ _ h => h) (Or.inl ⟨by rfl, ?_⟩) ?_ ?_
           rotate_left
           ·intro w'
            go_simp
            with_reducible rfl
           rotate_left
           ·simp only [zpa,zpb,zpc,zpd,zpe,zr,zs]
            rfl
           refine zob (i := 0) (N := some 14) (v := ?_) (a' := ?_) #[T_,T_,F_,F_,F_,F_,F_,F_,F_,F_,F_,F_,F_,F_,F_,F_,F_,F_,F_] rfl rfl (zab HT_.out HW_.out (by kernel_rfl)) (fun _ _ _ h => h) (Or.inl ⟨by rfl, ?_⟩) hHeld ?_ ?_
           rotate_left
           ·rintro w' ⟨s0, s1, s2, s3, s4, s5, s6, s7⟩
            go_simp
            with_reducible rfl
           rotate_left
           ·simp only [zpa,zpb,zpc,zpd,zpe,zr,zs]
            rfl
           refine one_ (i := 2) (N := some 16) #[T_,T_,T_,F_,F_,F_,F_,F_,F_,F_,F_,F_,F_,F_,F_,F_,F_,F_,F_] rfl rfl (zzb HT_.out (by kernel_rfl)) (by decide) (fun K hK => ?_)
           refine goes_ Try.func101 (by kernel_rfl) rfl #[.agg #[.int .i64 ((zk l0 x9_1).f0), .int .i64 ((zk l0 x9_1).f1), .int .i64 ((zk l0 x9_1).f2), .int .i64 ((zk l0 x9_1).f3)], .int .i64 a1] (by rfl) rfl rfl (by (try simp only [zma,zmb,zmc]); first | done | rfl) ?_
           with_reducible refine (impl_spanOk.calls ((zk l0 x9_1).f0) ((zk l0 x9_1).f1) ((zk l0 x9_1).f2) ((zk l0 x9_1).f3) a1 true _ A6.out).mono ?_
           rintro e w17 ⟨rfl, hb⟩
           refine ⟨_, rfl, ?_⟩
           have n0_ := za.mk (zsa (g := gb417) (o := .cells #[.int .i64 ((zk l0 x9_1).f0), .int .i64 ((zk l0 x9_1).f1), .int .i64 ((zk l0 x9_1).f2), .int .i64 ((zk l0 x9_1).f3)] 40 (0, 0)) (by (with_reducible repeat (first | refine zy ?_ _ | refine zaa ?_ | refine zx ?_ _)); exact BK417.out) hb)
           have n1_ := za.mk (zg (by repeat (first | (with_reducible first | exact HB.out | apply zc | apply zb | apply zd | refine zu ?_ GE417.out) | exact HB.out)) hb)
           clear BK417
           clear HB
           have BK417 := n0_
           have HB := n1_
           clear n0_ n1_
           (try clear hb)
           (try clear hb2)
           (try clear hk)
           (try clear hi)
           refine hK.out _ _ ⟨(zf BK417.out 0).trans rfl, (zf BK417.out 1).trans rfl, (zf BK417.out 2).trans rfl, (zf BK417.out 3).trans rfl, ((HB.out.cell (World.block_lt_of_cell? w _ hw419_0)).trans hw419_0), ((HB.out.cell (World.block_lt_of_cell? w _ hw419_1)).trans hw419_1), ((HB.out.cell (World.block_lt_of_cell? w _ hw419_2)).trans hw419_2), ((HB.out.cell (World.block_lt_of_cell? w _ hw419_3)).trans hw419_3)⟩ (fun hHeld => ?_)
           clear hK K
           refine norm_ (a' := ?_) ?_ ?_
           rotate_left
           ·show Act.put _ (some 16) _ = _
            simp only [zpa,zpb,zpc,zpd,zpe,zr,zs]
            rfl
           refine zz (i := 3) (N := some 17) (v := ?_) (a' := ?_) #[T_,T_,T_,T_,F_,F_,F_,F_,F_,F_,F_,F_,F_,F_,F_,F_,F_,F_,F_] rfl rfl (zv HT_.out (by kernel_rfl)) (fun _ _ _ h => h) (Or.inl ⟨by rfl, ?_⟩) ?_ ?_
           rotate_left
           ·intro w'
            go_simp
            with_reducible rfl
           rotate_left
           ·simp only [zpa,zpb,zpc,zpd,zpe,zr,zs]
            rfl
           refine zz (i := 4) (N := some 18) (v := ?_) (a' := ?_) #[T_,T_,T_,T_,T_,F_,F_,F_,F_,F_,F_,F_,F_,F_,F_,F_,F_,F_,F_] rfl rfl (zv HT_.out (by kernel_rfl)) (fun _ _ _ h => h) (Or.inl ⟨by rfl, ?_⟩) ?_ ?_
           rotate_left
           ·intro w'
            go_simp
            with_reducible rfl
           rotate_left
           ·simp only [zpa,zpb,zpc,zpd,zpe,zr,zs]
            rfl
           refine zz (i := 5) (N := some 19) (v := ?_) (a' := ?_) #[T_,T_,T_,T_,T_,T_,F_,F_,F_,F_,F_,F_,F_,F_,F_,F_,F_,F_,F_] rfl rfl (zv HT_.out (by kernel_rfl)) (fun _ _ _ h => h) (Or.inl ⟨by rfl, ?_⟩) ?_ ?_
           rotate_left
           ·intro w'
            go_simp
            with_reducible rfl
           rotate_left
           ·simp only [zpa,zpb,zpc,zpd,zpe,zr,zs]
            rfl
           refine zz (i := 6) (N := some 20) (v := ?_) (a' := ?_) #[T_,T_,T_,T_,T_,T_,T_,F_,F_,F_,F_,F_,F_,F_,F_,F_,F_,F_,F_] rfl rfl (zv HT_.out (by kernel_rfl)) (fun _ _ _ h => h) (Or.inl ⟨by rfl, ?_⟩) ?_ ?_
           rotate_left
           ·intro w'
            go_simp
            with_reducible rfl
           rotate_left
           ·simp only [zpa,zpb,zpc,zpd,zpe,zr,zs]
            rfl
           refine zz (i := 7) (N := some 21) (v := ?_) (a' := ?_) #[T_,T_,T_,T_,T_,T_,T_,T_,F_,F_,F_,F_,F_,F_,F_,F_,F_,F_,F_] rfl rfl (zv HT_.out (by kernel_rfl)) (fun _ _ _ h => h) (Or.inl ⟨by rfl, ?_⟩) ?_ ?_
           rotate_left
           ·intro w'
            go_simp
            with_reducible rfl
           rotate_left
           ·simp only [zpa,zpb,zpc,zpd,zpe,zr,zs]
            rfl
           refine zz (i := 8) (N := some 22) (v := ?_) (a' := ?_) #[T_,T_,T_,T_,T_,T_,T_,T_,T_,F_,F_,F_,F_,F_,F_,F_,F_,F_,F_] rfl rfl (zv HT_.out (by kernel_rfl)) (fun _ _ _ h => h) (Or.inl ⟨by rfl, ?_⟩) ?_ ?_
           rotate_left
           ·intro w'
            go_simp
            with_reducible rfl
           rotate_left
           ·simp only [zpa,zpb,zpc,zpd,zpe,zr,zs]
            rfl
           refine zz (i := 9) (N := some 23) (v := ?_) (a' := ?_) #[T_,T_,T_,T_,T_,T_,T_,T_,T_,T_,F_,F_,F_,F_,F_,F_,F_,F_,F_] rfl rfl (zv HT_.out (by kernel_rfl)) (fun _ _ _ h => h) (Or.inl ⟨by rfl, ?_⟩) ?_ ?_
           rotate_left
           ·intro w'
            go_simp
            with_reducible rfl
           rotate_left
           ·simp only [zpa,zpb,zpc,zpd,zpe,zr,zs]
            rfl
           refine zz (i := 10) (N := some 24) (v := ?_) (a' := ?_) #[T_,T_,T_,T_,T_,T_,T_,T_,T_,T_,T_,F_,F_,F_,F_,F_,F_,F_,F_] rfl rfl (zv HT_.out (by kernel_rfl)) (fun _ _ _ h => h) (Or.inl ⟨by rfl, ?_⟩) ?_ ?_
           rotate_left
           ·intro w'
            go_simp
            with_reducible rfl
           rotate_left
           ·simp only [zpa,zpb,zpc,zpd,zpe,zr,zs]
            rfl
           refine zz (i := 11) (N := some 25) (v := ?_) (a' := ?_) #[T_,T_,T_,T_,T_,T_,T_,T_,T_,T_,T_,T_,F_,F_,F_,F_,F_,F_,F_] rfl rfl (zv HT_.out (by kernel_rfl)) (fun _ _ _ h => h) (Or.inl ⟨by rfl, ?_⟩) ?_ ?_
           rotate_left
           ·intro w'
            go_simp
            with_reducible rfl
           rotate_left
           ·simp only [zpa,zpb,zpc,zpd,zpe,zr,zs]
            rfl
           refine zz (i := 12) (N := some 26) (v := ?_) (a' := ?_) #[T_,T_,T_,T_,T_,T_,T_,T_,T_,T_,T_,T_,T_,F_,F_,F_,F_,F_,F_] rfl rfl (zv HT_.out (by kernel_rfl)) (fun _ _ _ h => h) (Or.inl ⟨by rfl, ?_⟩) ?_ ?_
           rotate_left
           ·intro w'
            go_simp
            with_reducible rfl
           rotate_left
           ·simp only [zpa,zpb,zpc,zpd,zpe,zr,zs]
            rfl
           refine zz (i := 14) (N := some 28) (v := ?_) (a' := ?_) #[T_,T_,T_,T_,T_,T_,T_,T_,T_,T_,T_,T_,T_,F_,T_,F_,F_,F_,F_] rfl rfl (zv HT_.out (by kernel_rfl)) (fun _ _ _ h => h) (Or.inl ⟨by rfl, ?_⟩) ?_ ?_
           rotate_left
           ·intro w'
            go_simp
            with_reducible rfl
           rotate_left
           ·simp only [zpa,zpb,zpc,zpd,zpe,zr,zs]
            rfl
           refine zob (i := 13) (N := some 27) (v := ?_) (a' := ?_) #[T_,T_,T_,T_,T_,T_,T_,T_,T_,T_,T_,T_,T_,T_,T_,F_,F_,F_,F_] rfl rfl (zab HT_.out HW_.out (by kernel_rfl)) (fun _ _ _ h => h) (Or.inl ⟨by rfl, ?_⟩) hHeld ?_ ?_
           rotate_left
           ·rintro w' ⟨s0, s1, s2, s3, s4, s5, s6, s7⟩
            go_simp
            with_reducible rfl
           rotate_left
           ·simp only [zpa,zpb,zpc,zpd,zpe,zr,zs]
            rfl
           refine zob (i := 15) (N := some 29) (v := ?_) (a' := ?_) #[T_,T_,T_,T_,T_,T_,T_,T_,T_,T_,T_,T_,T_,T_,T_,T_,F_,F_,F_] rfl rfl (zab HT_.out HW_.out (by kernel_rfl)) (fun _ _ _ h => h) (Or.inl ⟨by rfl, ?_⟩) hHeld ?_ ?_
           rotate_left
           ·rintro w' ⟨s0, s1, s2, s3, s4, s5, s6, s7⟩
            go_simp
            with_reducible rfl
           rotate_left
           ·simp only [zpa,zpb,zpc,zpd,zpe,zr,zs]
            rfl
           refine zz (i := 16) (N := some 30) (v := ?_) (a' := ?_) #[T_,T_,T_,T_,T_,T_,T_,T_,T_,T_,T_,T_,T_,T_,T_,T_,T_,F_,F_] rfl rfl (zv HT_.out (by kernel_rfl)) (fun _ _ _ h => h) (Or.inl ⟨by rfl, ?_⟩) ?_ ?_
           rotate_left
           ·intro w'
            go_simp
            with_reducible rfl
           rotate_left
           ·simp only [zpa,zpb,zpc,zpd,zpe,zr,zs]
            rfl
           refine zz (i := 17) (N := some 31) (v := ?_) (a' := ?_) #[T_,T_,T_,T_,T_,T_,T_,T_,T_,T_,T_,T_,T_,T_,T_,T_,T_,T_,F_] rfl rfl (zv HT_.out (by kernel_rfl)) (fun _ _ _ h => h) (Or.inl ⟨by rfl, ?_⟩) ?_ ?_
           rotate_left
           ·intro w'
            go_simp
            with_reducible rfl
           rotate_left
           ·simp only [zpa,zpb,zpc,zpd,zpe,zr,zs]
            rfl
           refine zz (i := 18) (N := some 32) (v := ?_) (a' := ?_) #[T_,T_,T_,T_,T_,T_,T_,T_,T_,T_,T_,T_,T_,T_,T_,T_,T_,T_,T_] rfl rfl (zv HT_.out (by kernel_rfl)) (fun _ _ _ h => h) (Or.inl ⟨by rfl, ?_⟩) ?_ ?_
           rotate_left
           ·intro w'
            go_simp
            with_reducible rfl
           rotate_left
           ·simp only [zpa,zpb,zpc,zpd,zpe,zr,zs]
            rfl
           refine done_ (zbc HT_.out (by kernel_rfl)) ?_
           try go_wp2
           go_ret
           exact ⟨by first | rfl | (simp [zh, zi] <;> rfl) | (simp only [← hji9]; first | rfl | (simp [zh, zi] <;> rfl)) | (simp [*, zh, zi] <;> rfl), by repeat (first | (with_reducible first | exact HB.out | apply zc | apply zb | apply zd | refine zu ?_ GE417.out) | exact HB.out)⟩
          ·rw [if_neg c12] at H
           have c12b0 : decide (((zk l0 x9_1).f0) < ((zk l0 (ji9)).f1)) = false := decide_eq_false c12
           clear c12
           have H' := za.mk H
           clear H
           have p416 : 0 ≤ (x9_1 : Int) := of_decide_eq_true (by assumption)
           have q416 : x9_1 < (l0.length : Int) := of_decide_eq_true (by assumption)
           obtain ⟨ad416, e416, hx416_0, hx416_1, hx416_2, hx416_3⟩ := zlb HR0.out x9_1 p416 q416
           cases e416
           replace hx416_0 := (HB.out.cell (World.block_lt_of_cell? w _ hx416_0)).trans hx416_0
           replace hx416_1 := (HB.out.cell (World.block_lt_of_cell? w _ hx416_1)).trans hx416_1
           replace hx416_2 := (HB.out.cell (World.block_lt_of_cell? w _ hx416_2)).trans hx416_2
           replace hx416_3 := (HB.out.cell (World.block_lt_of_cell? w _ hx416_3)).trans hx416_3
           replace p416 := eq_true p416
           replace q416 := eq_true q416
           try go_wp2_with (first | ((with_reducible refine zw (N := 6) rfl ?_); (try (refine zla (by rfl) ?_; dsimp only)); refine zca ?hg (N := 6) ?hd (cs := #[.int .i64 0, .int .i64 0, .int .i64 0, .int .i64 0]) (t := 40) ?hr ?_; (case hd => rfl); (case hg => rfl); (case hr => first | (go_simp; done) | (go_simp; rfl)); intro gb417 hg w18 hbox hb; have n0_ := za.mk (zg (by repeat (first | (with_reducible first | exact HB.out | apply zc | apply zb | apply zd) | exact HB.out)) hb); have n1_ := za.mk (hbox); have n2_ := za.mk ((by rw [hg]; exact (zp (by repeat (first | (with_reducible first | exact HB.out | apply zc | apply zb | apply zd) | exact HB.out))) : w.heap.size ≤ gb417)); have n3_ := za.mk ((by rw [hg]; exact (zp (by repeat (first | (with_reducible first | exact HB.out | apply zc | apply zb | apply zd) | exact HB.out))) : w.heap.size ≤ gb417)); clear HB; have HB := n0_; have BK417 := n1_; have GW417 := n2_; have GE417 := n3_; clear n0_ n1_ n2_ n3_; clear hb hbox hg; have hcz19_0 : w18.cell? ⟨gb417, 0, none⟩ = some (.int .i64 0) := (zf BK417.out 0).trans rfl; have hcz19_1 : w18.cell? ⟨gb417, 1, none⟩ = some (.int .i64 0) := (zf BK417.out 1).trans rfl; have hcz19_2 : w18.cell? ⟨gb417, 2, none⟩ = some (.int .i64 0) := (zf BK417.out 2).trans rfl; have hcz19_3 : w18.cell? ⟨gb417, 3, none⟩ = some (.int .i64 0) := (zf BK417.out 3).trans rfl; have hfz19_0 := zl BK417.out 0; have hfz19_1 := zl BK417.out 1; have hfz19_2 := zl BK417.out 2; have hfz19_3 := zl BK417.out 3))
           have n0_ : za (((((w18.setCell ⟨gb417, 0, none⟩ (.int .i64 ((zk l0 x9_1).f0))).setCell ⟨gb417, 1, none⟩ (.int .i64 ((zk l0 x9_1).f1))).setCell ⟨gb417, 2, none⟩ (.int .i64 ((zk l0 x9_1).f2))).setCell ⟨gb417, 3, none⟩ (.int .i64 ((zk l0 x9_1).f3))).heap[gb417]? = some (.cells #[.int .i64 ((zk l0 x9_1).f0), .int .i64 ((zk l0 x9_1).f1), .int .i64 ((zk l0 x9_1).f2), .int .i64 ((zk l0 x9_1).f3)] 40 (0, 0))) := ⟨by (with_reducible repeat (first | refine zy ?_ _ | refine zaa ?_ | refine zx ?_ _)); refine zfb (cs := #[.int .i64 ((zk l0 x9_1).f0), .int .i64 ((zk l0 x9_1).f1), .int .i64 ((zk l0 x9_1).f2), .int .i64 0]) ?_ 3 _ rfl; (with_reducible repeat (first | refine zy ?_ _ | refine zaa ?_ | refine zx ?_ _)); refine zfb (cs := #[.int .i64 ((zk l0 x9_1).f0), .int .i64 ((zk l0 x9_1).f1), .int .i64 0, .int .i64 0]) ?_ 2 _ rfl; (with_reducible repeat (first | refine zy ?_ _ | refine zaa ?_ | refine zx ?_ _)); refine zfb (cs := #[.int .i64 ((zk l0 x9_1).f0), .int .i64 0, .int .i64 0, .int .i64 0]) ?_ 1 _ rfl; (with_reducible repeat (first | refine zy ?_ _ | refine zaa ?_ | refine zx ?_ _)); refine zfb (cs := #[.int .i64 0, .int .i64 0, .int .i64 0, .int .i64 0]) ?_ 0 _ rfl; (with_reducible repeat (first | refine zy ?_ _ | refine zaa ?_ | refine zx ?_ _)); exact BK417.out⟩
           have n1_ : za (Below w.heap.size w ((((w18.setCell ⟨gb417, 0, none⟩ (.int .i64 ((zk l0 x9_1).f0))).setCell ⟨gb417, 1, none⟩ (.int .i64 ((zk l0 x9_1).f1))).setCell ⟨gb417, 2, none⟩ (.int .i64 ((zk l0 x9_1).f2))).setCell ⟨gb417, 3, none⟩ (.int .i64 ((zk l0 x9_1).f3)))) := ⟨by repeat (first | (with_reducible first | exact HB.out | apply zc | apply zb | apply zd | refine zu ?_ GE417.out) | exact HB.out)⟩
           (try clear BK417)
           (try clear HB)
           generalize ((((w18.setCell ⟨gb417, 0, none⟩ (.int .i64 ((zk l0 x9_1).f0))).setCell ⟨gb417, 1, none⟩ (.int .i64 ((zk l0 x9_1).f1))).setCell ⟨gb417, 2, none⟩ (.int .i64 ((zk l0 x9_1).f2))).setCell ⟨gb417, 3, none⟩ (.int .i64 ((zk l0 x9_1).f3))) = w20 at n0_ n1_ ⊢
           have BK417 := n0_
           have HB := n1_
           clear n0_ n1_
           have n0_ := za.mk (zaa BK417.out)
           have n1_ := za.mk (zd HB.out)
           clear BK417
           clear HB
           have BK417 := n0_
           have HB := n1_
           clear n0_ n1_
           have p419 : 0 ≤ ((ji9) : Int) := of_decide_eq_true (by assumption)
           have q419 : (ji9) < (l0.length : Int) := of_decide_eq_true (by assumption)
           obtain ⟨ad419, e419, hx419_0, hx419_1, hx419_2, hx419_3⟩ := zlb HR0.out (ji9) p419 q419
           have hw419_3 := hx419_3
           have hw419_2 := hx419_2
           have hw419_1 := hx419_1
           have hw419_0 := hx419_0
           obtain rfl : ad416 = ad419 := (by injection e419)
           replace hx419_0 := (HB.out.cell (World.block_lt_of_cell? w _ hx419_0)).trans hx419_0
           replace hx419_1 := (HB.out.cell (World.block_lt_of_cell? w _ hx419_1)).trans hx419_1
           replace hx419_2 := (HB.out.cell (World.block_lt_of_cell? w _ hx419_2)).trans hx419_2
           replace hx419_3 := (HB.out.cell (World.block_lt_of_cell? w _ hx419_3)).trans hx419_3
           replace p419 := eq_true p419
           replace q419 := eq_true q419
           refine start_ (n := 19) (S := fun w' => w'.cell? ⟨gb417, 0, none⟩ = some (.int .i64 ((zk l0 x9_1).f0)) ∧ w'.cell? ⟨gb417, 1, none⟩ = some (.int .i64 ((zk l0 x9_1).f1)) ∧ w'.cell? ⟨gb417, 2, none⟩ = some (.int .i64 ((zk l0 x9_1).f2)) ∧ w'.cell? ⟨gb417, 3, none⟩ = some (.int .i64 ((zk l0 x9_1).f3)) ∧ w'.cell? (ad416.add (((ji9)).toNat * 4)) = some (.int .i64 ((zk l0 (ji9)).f0)) ∧ w'.cell? ⟨(ad416.add (((ji9)).toNat * 4)).block, (ad416.add (((ji9)).toNat * 4)).off + 1, none⟩ = some (.int .i64 ((zk l0 (ji9)).f1)) ∧ w'.cell? ⟨(ad416.add (((ji9)).toNat * 4)).block, (ad416.add (((ji9)).toNat * 4)).off + 2, none⟩ = some (.int .i64 ((zk l0 (ji9)).f2)) ∧ w'.cell? ⟨(ad416.add (((ji9)).toNat * 4)).block, (ad416.add (((ji9)).toNat * 4)).off + 3, none⟩ = some (.int .i64 ((zk l0 (ji9)).f3))) (ds := []) #[F_,F_,F_,F_,F_,F_,F_,F_,F_,F_,F_,F_,F_,F_,F_,F_,F_,F_,F_] (by kernel_rfl) rfl rfl ⟨(zf BK417.out 0).trans rfl, (zf BK417.out 1).trans rfl, (zf BK417.out 2).trans rfl, (zf BK417.out 3).trans rfl, ((HB.out.cell (World.block_lt_of_cell? w _ hw419_0)).trans hw419_0), ((HB.out.cell (World.block_lt_of_cell? w _ hw419_1)).trans hw419_1), ((HB.out.cell (World.block_lt_of_cell? w _ hw419_2)).trans hw419_2), ((HB.out.cell (World.block_lt_of_cell? w _ hw419_3)).trans hw419_3)⟩ (fun hHeld => ?_); refine zwb impl_SpansOk.tab4 impl_SpansOk.bits4 (fun HT_ HW_ => ?_)
           generalize w20.drew = w21 at BK417 HB hx419_0 hx419_1 hx419_2 hx419_3 hHeld ⊢
           refine zz (i := 1) (N := some 15) (v := ?_) (a' := ?_) #[F_,T_,F_,F_,F_,F_,F_,F_,F_,F_,F_,F_,F_,F_,F_,F_,F_,F_,F_] rfl rfl (zv HT_.out (by kernel_rfl)) (fun _ _ _ h => h) (Or.inl ⟨by rfl, ?_⟩) ?_ ?_
           rotate_left
           ·intro w'
            go_simp
            with_reducible rfl
           rotate_left
           ·simp only [zpa,zpb,zpc,zpd,zpe,zr,zs]
            rfl
           refine zob (i := 0) (N := some 14) (v := ?_) (a' := ?_) #[T_,T_,F_,F_,F_,F_,F_,F_,F_,F_,F_,F_,F_,F_,F_,F_,F_,F_,F_] rfl rfl (zab HT_.out HW_.out (by kernel_rfl)) (fun _ _ _ h => h) (Or.inl ⟨by rfl, ?_⟩) hHeld ?_ ?_
           rotate_left
           ·rintro w' ⟨s0, s1, s2, s3, s4, s5, s6, s7⟩
            go_simp
            with_reducible rfl
           rotate_left
           ·simp only [zpa,zpb,zpc,zpd,zpe,zr,zs]
            rfl
           refine one_ (i := 2) (N := some 16) #[T_,T_,T_,F_,F_,F_,F_,F_,F_,F_,F_,F_,F_,F_,F_,F_,F_,F_,F_] rfl rfl (zzb HT_.out (by kernel_rfl)) (by decide) (fun K hK => ?_)
           refine goes_ Try.func101 (by kernel_rfl) rfl #[.agg #[.int .i64 ((zk l0 x9_1).f0), .int .i64 ((zk l0 x9_1).f1), .int .i64 ((zk l0 x9_1).f2), .int .i64 ((zk l0 x9_1).f3)], .int .i64 a1] (by rfl) rfl rfl (by (try simp only [zma,zmb,zmc]); first | done | rfl) ?_
           with_reducible refine (impl_spanOk.calls ((zk l0 x9_1).f0) ((zk l0 x9_1).f1) ((zk l0 x9_1).f2) ((zk l0 x9_1).f3) a1 true _ A6.out).mono ?_
           rintro e w22 ⟨rfl, hb⟩
           refine ⟨_, rfl, ?_⟩
           have n0_ := za.mk (zsa (g := gb417) (o := .cells #[.int .i64 ((zk l0 x9_1).f0), .int .i64 ((zk l0 x9_1).f1), .int .i64 ((zk l0 x9_1).f2), .int .i64 ((zk l0 x9_1).f3)] 40 (0, 0)) (by (with_reducible repeat (first | refine zy ?_ _ | refine zaa ?_ | refine zx ?_ _)); exact BK417.out) hb)
           have n1_ := za.mk (zg (by repeat (first | (with_reducible first | exact HB.out | apply zc | apply zb | apply zd | refine zu ?_ GE417.out) | exact HB.out)) hb)
           clear BK417
           clear HB
           have BK417 := n0_
           have HB := n1_
           clear n0_ n1_
           (try clear hb)
           (try clear hb2)
           (try clear hk)
           (try clear hi)
           refine hK.out _ _ ⟨(zf BK417.out 0).trans rfl, (zf BK417.out 1).trans rfl, (zf BK417.out 2).trans rfl, (zf BK417.out 3).trans rfl, ((HB.out.cell (World.block_lt_of_cell? w _ hw419_0)).trans hw419_0), ((HB.out.cell (World.block_lt_of_cell? w _ hw419_1)).trans hw419_1), ((HB.out.cell (World.block_lt_of_cell? w _ hw419_2)).trans hw419_2), ((HB.out.cell (World.block_lt_of_cell? w _ hw419_3)).trans hw419_3)⟩ (fun hHeld => ?_)
           clear hK K
           refine norm_ (a' := ?_) ?_ ?_
           rotate_left
           ·show Act.put _ (some 16) _ = _
            simp only [zpa,zpb,zpc,zpd,zpe,zr,zs]
            rfl
           refine zz (i := 3) (N := some 17) (v := ?_) (a' := ?_) #[T_,T_,T_,T_,F_,F_,F_,F_,F_,F_,F_,F_,F_,F_,F_,F_,F_,F_,F_] rfl rfl (zv HT_.out (by kernel_rfl)) (fun _ _ _ h => h) (Or.inl ⟨by rfl, ?_⟩) ?_ ?_
           rotate_left
           ·intro w'
            go_simp
            with_reducible rfl
           rotate_left
           ·simp only [zpa,zpb,zpc,zpd,zpe,zr,zs]
            rfl
           refine zz (i := 4) (N := some 18) (v := ?_) (a' := ?_) #[T_,T_,T_,T_,T_,F_,F_,F_,F_,F_,F_,F_,F_,F_,F_,F_,F_,F_,F_] rfl rfl (zv HT_.out (by kernel_rfl)) (fun _ _ _ h => h) (Or.inl ⟨by rfl, ?_⟩) ?_ ?_
           rotate_left
           ·intro w'
            go_simp
            with_reducible rfl
           rotate_left
           ·simp only [zpa,zpb,zpc,zpd,zpe,zr,zs]
            rfl
           refine zz (i := 5) (N := some 19) (v := ?_) (a' := ?_) #[T_,T_,T_,T_,T_,T_,F_,F_,F_,F_,F_,F_,F_,F_,F_,F_,F_,F_,F_] rfl rfl (zv HT_.out (by kernel_rfl)) (fun _ _ _ h => h) (Or.inl ⟨by rfl, ?_⟩) ?_ ?_
           rotate_left
           ·intro w'
            go_simp
            with_reducible rfl
           rotate_left
           ·simp only [zpa,zpb,zpc,zpd,zpe,zr,zs]
            rfl
           refine zz (i := 6) (N := some 20) (v := ?_) (a' := ?_) #[T_,T_,T_,T_,T_,T_,T_,F_,F_,F_,F_,F_,F_,F_,F_,F_,F_,F_,F_] rfl rfl (zv HT_.out (by kernel_rfl)) (fun _ _ _ h => h) (Or.inl ⟨by rfl, ?_⟩) ?_ ?_
           rotate_left
           ·intro w'
            go_simp
            with_reducible rfl
           rotate_left
           ·simp only [zpa,zpb,zpc,zpd,zpe,zr,zs]
            rfl
           refine zz (i := 7) (N := some 21) (v := ?_) (a' := ?_) #[T_,T_,T_,T_,T_,T_,T_,T_,F_,F_,F_,F_,F_,F_,F_,F_,F_,F_,F_] rfl rfl (zv HT_.out (by kernel_rfl)) (fun _ _ _ h => h) (Or.inl ⟨by rfl, ?_⟩) ?_ ?_
           rotate_left
           ·intro w'
            go_simp
            with_reducible rfl
           rotate_left
           ·simp only [zpa,zpb,zpc,zpd,zpe,zr,zs]
            rfl
           refine zz (i := 8) (N := some 22) (v := ?_) (a' := ?_) #[T_,T_,T_,T_,T_,T_,T_,T_,T_,F_,F_,F_,F_,F_,F_,F_,F_,F_,F_] rfl rfl (zv HT_.out (by kernel_rfl)) (fun _ _ _ h => h) (Or.inl ⟨by rfl, ?_⟩) ?_ ?_
           rotate_left
           ·intro w'
            go_simp
            with_reducible rfl
           rotate_left
           ·simp only [zpa,zpb,zpc,zpd,zpe,zr,zs]
            rfl
           refine zz (i := 9) (N := some 23) (v := ?_) (a' := ?_) #[T_,T_,T_,T_,T_,T_,T_,T_,T_,T_,F_,F_,F_,F_,F_,F_,F_,F_,F_] rfl rfl (zv HT_.out (by kernel_rfl)) (fun _ _ _ h => h) (Or.inl ⟨by rfl, ?_⟩) ?_ ?_
           rotate_left
           ·intro w'
            go_simp
            with_reducible rfl
           rotate_left
           ·simp only [zpa,zpb,zpc,zpd,zpe,zr,zs]
            rfl
           refine zz (i := 10) (N := some 24) (v := ?_) (a' := ?_) #[T_,T_,T_,T_,T_,T_,T_,T_,T_,T_,T_,F_,F_,F_,F_,F_,F_,F_,F_] rfl rfl (zv HT_.out (by kernel_rfl)) (fun _ _ _ h => h) (Or.inl ⟨by rfl, ?_⟩) ?_ ?_
           rotate_left
           ·intro w'
            go_simp
            with_reducible rfl
           rotate_left
           ·simp only [zpa,zpb,zpc,zpd,zpe,zr,zs]
            rfl
           refine zz (i := 11) (N := some 25) (v := ?_) (a' := ?_) #[T_,T_,T_,T_,T_,T_,T_,T_,T_,T_,T_,T_,F_,F_,F_,F_,F_,F_,F_] rfl rfl (zv HT_.out (by kernel_rfl)) (fun _ _ _ h => h) (Or.inl ⟨by rfl, ?_⟩) ?_ ?_
           rotate_left
           ·intro w'
            go_simp
            with_reducible rfl
           rotate_left
           ·simp only [zpa,zpb,zpc,zpd,zpe,zr,zs]
            rfl
           refine zz (i := 12) (N := some 26) (v := ?_) (a' := ?_) #[T_,T_,T_,T_,T_,T_,T_,T_,T_,T_,T_,T_,T_,F_,F_,F_,F_,F_,F_] rfl rfl (zv HT_.out (by kernel_rfl)) (fun _ _ _ h => h) (Or.inl ⟨by rfl, ?_⟩) ?_ ?_
           rotate_left
           ·intro w'
            go_simp
            with_reducible rfl
           rotate_left
           ·simp only [zpa,zpb,zpc,zpd,zpe,zr,zs]
            rfl
           refine zz (i := 14) (N := some 28) (v := ?_) (a' := ?_) #[T_,T_,T_,T_,T_,T_,T_,T_,T_,T_,T_,T_,T_,F_,T_,F_,F_,F_,F_] rfl rfl (zv HT_.out (by kernel_rfl)) (fun _ _ _ h => h) (Or.inl ⟨by rfl, ?_⟩) ?_ ?_
           rotate_left
           ·intro w'
            go_simp
            with_reducible rfl
           rotate_left
           ·simp only [zpa,zpb,zpc,zpd,zpe,zr,zs]
            rfl
           refine zob (i := 13) (N := some 27) (v := ?_) (a' := ?_) #[T_,T_,T_,T_,T_,T_,T_,T_,T_,T_,T_,T_,T_,T_,T_,F_,F_,F_,F_] rfl rfl (zab HT_.out HW_.out (by kernel_rfl)) (fun _ _ _ h => h) (Or.inl ⟨by rfl, ?_⟩) hHeld ?_ ?_
           rotate_left
           ·rintro w' ⟨s0, s1, s2, s3, s4, s5, s6, s7⟩
            go_simp
            with_reducible rfl
           rotate_left
           ·simp only [zpa,zpb,zpc,zpd,zpe,zr,zs]
            rfl
           refine zob (i := 15) (N := some 29) (v := ?_) (a' := ?_) #[T_,T_,T_,T_,T_,T_,T_,T_,T_,T_,T_,T_,T_,T_,T_,T_,F_,F_,F_] rfl rfl (zab HT_.out HW_.out (by kernel_rfl)) (fun _ _ _ h => h) (Or.inl ⟨by rfl, ?_⟩) hHeld ?_ ?_
           rotate_left
           ·rintro w' ⟨s0, s1, s2, s3, s4, s5, s6, s7⟩
            go_simp
            with_reducible rfl
           rotate_left
           ·simp only [zpa,zpb,zpc,zpd,zpe,zr,zs]
            rfl
           refine zz (i := 16) (N := some 30) (v := ?_) (a' := ?_) #[T_,T_,T_,T_,T_,T_,T_,T_,T_,T_,T_,T_,T_,T_,T_,T_,T_,F_,F_] rfl rfl (zv HT_.out (by kernel_rfl)) (fun _ _ _ h => h) (Or.inl ⟨by rfl, ?_⟩) ?_ ?_
           rotate_left
           ·intro w'
            go_simp
            with_reducible rfl
           rotate_left
           ·simp only [zpa,zpb,zpc,zpd,zpe,zr,zs]
            rfl
           refine zz (i := 17) (N := some 31) (v := ?_) (a' := ?_) #[T_,T_,T_,T_,T_,T_,T_,T_,T_,T_,T_,T_,T_,T_,T_,T_,T_,T_,F_] rfl rfl (zv HT_.out (by kernel_rfl)) (fun _ _ _ h => h) (Or.inl ⟨by rfl, ?_⟩) ?_ ?_
           rotate_left
           ·intro w'
            go_simp
            with_reducible rfl
           rotate_left
           ·simp only [zpa,zpb,zpc,zpd,zpe,zr,zs]
            rfl
           refine zz (i := 18) (N := some 32) (v := ?_) (a' := ?_) #[T_,T_,T_,T_,T_,T_,T_,T_,T_,T_,T_,T_,T_,T_,T_,T_,T_,T_,T_] rfl rfl (zv HT_.out (by kernel_rfl)) (fun _ _ _ h => h) (Or.inl ⟨by rfl, ?_⟩) ?_ ?_
           rotate_left
           ·intro w'
            go_simp
            with_reducible rfl
           rotate_left
           ·simp only [zpa,zpb,zpc,zpd,zpe,zr,zs]
            rfl
           refine done_ (zbc HT_.out (by kernel_rfl)) ?_
           try go_wp2
           go_roundg k1
           case measure => have := HK1.out; omega
           case rel => exact ⟨(wrap64 (x9_1 + 1)), (by first | rfl | (simp; done) | (simp [*]; done)), (by first | exact H' | (simp only [hji9]; exact H') | (simp only [hji9]; exact H')), ⟨by have := HK1.out; omega⟩, ⟨by repeat (first | (with_reducible first | exact HB.out | apply zc | apply zb | apply zd | refine zu ?_ GE417.out) | exact HB.out)⟩⟩
         ·rw [if_neg c11] at H
          exact absurd H (by simp)
        ·rw [if_neg c10] at H
         exact absurd H (by simp)
       ·rw [if_neg c8] at H
        have c8b0 : decide (0 < x9_1) = false := decide_eq_false c8
        clear c8
        have H' := za.mk H
        clear H
        have p416 : 0 ≤ (x9_1 : Int) := of_decide_eq_true (by assumption)
        have q416 : x9_1 < (l0.length : Int) := of_decide_eq_true (by assumption)
        obtain ⟨ad416, e416, hx416_0, hx416_1, hx416_2, hx416_3⟩ := zlb HR0.out x9_1 p416 q416
        cases e416
        replace hx416_0 := (HB.out.cell (World.block_lt_of_cell? w _ hx416_0)).trans hx416_0
        replace hx416_1 := (HB.out.cell (World.block_lt_of_cell? w _ hx416_1)).trans hx416_1
        replace hx416_2 := (HB.out.cell (World.block_lt_of_cell? w _ hx416_2)).trans hx416_2
        replace hx416_3 := (HB.out.cell (World.block_lt_of_cell? w _ hx416_3)).trans hx416_3
        replace p416 := eq_true p416
        replace q416 := eq_true q416
        try go_wp2_with (first | ((with_reducible refine zw (N := 6) rfl ?_); (try (refine zla (by rfl) ?_; dsimp only)); refine zca ?hg (N := 6) ?hd (cs := #[.int .i64 0, .int .i64 0, .int .i64 0, .int .i64 0]) (t := 40) ?hr ?_; (case hd => rfl); (case hg => rfl); (case hr => first | (go_simp; done) | (go_simp; rfl)); intro gb417 hg w23 hbox hb; have n0_ := za.mk (zg (by repeat (first | (with_reducible first | exact HB.out | apply zc | apply zb | apply zd) | exact HB.out)) hb); have n1_ := za.mk (hbox); have n2_ := za.mk ((by rw [hg]; exact (zp (by repeat (first | (with_reducible first | exact HB.out | apply zc | apply zb | apply zd) | exact HB.out))) : w.heap.size ≤ gb417)); have n3_ := za.mk ((by rw [hg]; exact (zp (by repeat (first | (with_reducible first | exact HB.out | apply zc | apply zb | apply zd) | exact HB.out))) : w.heap.size ≤ gb417)); clear HB; have HB := n0_; have BK417 := n1_; have GW417 := n2_; have GE417 := n3_; clear n0_ n1_ n2_ n3_; clear hb hbox hg; have hcz24_0 : w23.cell? ⟨gb417, 0, none⟩ = some (.int .i64 0) := (zf BK417.out 0).trans rfl; have hcz24_1 : w23.cell? ⟨gb417, 1, none⟩ = some (.int .i64 0) := (zf BK417.out 1).trans rfl; have hcz24_2 : w23.cell? ⟨gb417, 2, none⟩ = some (.int .i64 0) := (zf BK417.out 2).trans rfl; have hcz24_3 : w23.cell? ⟨gb417, 3, none⟩ = some (.int .i64 0) := (zf BK417.out 3).trans rfl; have hfz24_0 := zl BK417.out 0; have hfz24_1 := zl BK417.out 1; have hfz24_2 := zl BK417.out 2; have hfz24_3 := zl BK417.out 3))
        have n0_ : za (((((w23.setCell ⟨gb417, 0, none⟩ (.int .i64 ((zk l0 x9_1).f0))).setCell ⟨gb417, 1, none⟩ (.int .i64 ((zk l0 x9_1).f1))).setCell ⟨gb417, 2, none⟩ (.int .i64 ((zk l0 x9_1).f2))).setCell ⟨gb417, 3, none⟩ (.int .i64 ((zk l0 x9_1).f3))).heap[gb417]? = some (.cells #[.int .i64 ((zk l0 x9_1).f0), .int .i64 ((zk l0 x9_1).f1), .int .i64 ((zk l0 x9_1).f2), .int .i64 ((zk l0 x9_1).f3)] 40 (0, 0))) := ⟨by (with_reducible repeat (first | refine zy ?_ _ | refine zaa ?_ | refine zx ?_ _)); refine zfb (cs := #[.int .i64 ((zk l0 x9_1).f0), .int .i64 ((zk l0 x9_1).f1), .int .i64 ((zk l0 x9_1).f2), .int .i64 0]) ?_ 3 _ rfl; (with_reducible repeat (first | refine zy ?_ _ | refine zaa ?_ | refine zx ?_ _)); refine zfb (cs := #[.int .i64 ((zk l0 x9_1).f0), .int .i64 ((zk l0 x9_1).f1), .int .i64 0, .int .i64 0]) ?_ 2 _ rfl; (with_reducible repeat (first | refine zy ?_ _ | refine zaa ?_ | refine zx ?_ _)); refine zfb (cs := #[.int .i64 ((zk l0 x9_1).f0), .int .i64 0, .int .i64 0, .int .i64 0]) ?_ 1 _ rfl; (with_reducible repeat (first | refine zy ?_ _ | refine zaa ?_ | refine zx ?_ _)); refine zfb (cs := #[.int .i64 0, .int .i64 0, .int .i64 0, .int .i64 0]) ?_ 0 _ rfl; (with_reducible repeat (first | refine zy ?_ _ | refine zaa ?_ | refine zx ?_ _)); exact BK417.out⟩
        have n1_ : za (Below w.heap.size w ((((w23.setCell ⟨gb417, 0, none⟩ (.int .i64 ((zk l0 x9_1).f0))).setCell ⟨gb417, 1, none⟩ (.int .i64 ((zk l0 x9_1).f1))).setCell ⟨gb417, 2, none⟩ (.int .i64 ((zk l0 x9_1).f2))).setCell ⟨gb417, 3, none⟩ (.int .i64 ((zk l0 x9_1).f3)))) := ⟨by repeat (first | (with_reducible first | exact HB.out | apply zc | apply zb | apply zd | refine zu ?_ GE417.out) | exact HB.out)⟩
        (try clear BK417)
        (try clear HB)
        generalize ((((w23.setCell ⟨gb417, 0, none⟩ (.int .i64 ((zk l0 x9_1).f0))).setCell ⟨gb417, 1, none⟩ (.int .i64 ((zk l0 x9_1).f1))).setCell ⟨gb417, 2, none⟩ (.int .i64 ((zk l0 x9_1).f2))).setCell ⟨gb417, 3, none⟩ (.int .i64 ((zk l0 x9_1).f3))) = w25 at n0_ n1_ ⊢
        have BK417 := n0_
        have HB := n1_
        clear n0_ n1_
        have n0_ := za.mk (zaa BK417.out)
        have n1_ := za.mk (zd HB.out)
        clear BK417
        clear HB
        have BK417 := n0_
        have HB := n1_
        clear n0_ n1_
        refine start_ (n := 19) (S := fun w' => w'.cell? ⟨gb417, 0, none⟩ = some (.int .i64 ((zk l0 x9_1).f0)) ∧ w'.cell? ⟨gb417, 1, none⟩ = some (.int .i64 ((zk l0 x9_1).f1)) ∧ w'.cell? ⟨gb417, 2, none⟩ = some (.int .i64 ((zk l0 x9_1).f2)) ∧ w'.cell? ⟨gb417, 3, none⟩ = some (.int .i64 ((zk l0 x9_1).f3))) (ds := []) #[F_,F_,F_,F_,F_,F_,F_,F_,F_,F_,F_,F_,F_,F_,F_,F_,F_,F_,F_] (by kernel_rfl) rfl rfl ⟨(zf BK417.out 0).trans rfl, (zf BK417.out 1).trans rfl, (zf BK417.out 2).trans rfl, (zf BK417.out 3).trans rfl⟩ (fun hHeld => ?_); refine zwb impl_SpansOk.tab4 impl_SpansOk.bits4 (fun HT_ HW_ => ?_)
        generalize w25.drew = w26 at BK417 HB hHeld ⊢
        refine zz (i := 1) (N := some 15) (v := ?_) (a' := ?_) #[F_,T_,F_,F_,F_,F_,F_,F_,F_,F_,F_,F_,F_,F_,F_,F_,F_,F_,F_] rfl rfl (zv HT_.out (by kernel_rfl)) (fun _ _ _ h => h) (Or.inl ⟨by rfl, ?_⟩) ?_ ?_
        rotate_left
        ·intro w'
         go_simp
         with_reducible rfl
        rotate_left
        ·simp only [zpa,zpb,zpc,zpd,zpe,zr,zs]
         rfl
        refine zob (i := 0) (N := some 14) (v := ?_) (a' := ?_) #[T_,T_,F_,F_,F_,F_,F_,F_,F_,F_,F_,F_,F_,F_,F_,F_,F_,F_,F_] rfl rfl (zab HT_.out HW_.out (by kernel_rfl)) (fun _ _ _ h => h) (Or.inl ⟨by rfl, ?_⟩) hHeld ?_ ?_
        rotate_left
        ·rintro w' ⟨s0, s1, s2, s3⟩
         go_simp
         with_reducible rfl
        rotate_left
        ·simp only [zpa,zpb,zpc,zpd,zpe,zr,zs]
         rfl
        refine one_ (i := 2) (N := some 16) #[T_,T_,T_,F_,F_,F_,F_,F_,F_,F_,F_,F_,F_,F_,F_,F_,F_,F_,F_] rfl rfl (zzb HT_.out (by kernel_rfl)) (by decide) (fun K hK => ?_)
        refine goes_ Try.func101 (by kernel_rfl) rfl #[.agg #[.int .i64 ((zk l0 x9_1).f0), .int .i64 ((zk l0 x9_1).f1), .int .i64 ((zk l0 x9_1).f2), .int .i64 ((zk l0 x9_1).f3)], .int .i64 a1] (by rfl) rfl rfl (by (try simp only [zma,zmb,zmc]); first | done | rfl) ?_
        with_reducible refine (impl_spanOk.calls ((zk l0 x9_1).f0) ((zk l0 x9_1).f1) ((zk l0 x9_1).f2) ((zk l0 x9_1).f3) a1 true _ A6.out).mono ?_
        rintro e w27 ⟨rfl, hb⟩
        refine ⟨_, rfl, ?_⟩
        have n0_ := za.mk (zsa (g := gb417) (o := .cells #[.int .i64 ((zk l0 x9_1).f0), .int .i64 ((zk l0 x9_1).f1), .int .i64 ((zk l0 x9_1).f2), .int .i64 ((zk l0 x9_1).f3)] 40 (0, 0)) (by (with_reducible repeat (first | refine zy ?_ _ | refine zaa ?_ | refine zx ?_ _)); exact BK417.out) hb)
        have n1_ := za.mk (zg (by repeat (first | (with_reducible first | exact HB.out | apply zc | apply zb | apply zd | refine zu ?_ GE417.out) | exact HB.out)) hb)
        clear BK417
        clear HB
        have BK417 := n0_
        have HB := n1_
        clear n0_ n1_
        (try clear hb)
        (try clear hb2)
        (try clear hk)
        (try clear hi)
        refine hK.out _ _ ⟨(zf BK417.out 0).trans rfl, (zf BK417.out 1).trans rfl, (zf BK417.out 2).trans rfl, (zf BK417.out 3).trans rfl⟩ (fun hHeld => ?_)
        clear hK K
        refine norm_ (a' := ?_) ?_ ?_
        rotate_left
        ·show Act.put _ (some 16) _ = _
         simp only [zpa,zpb,zpc,zpd,zpe,zr,zs]
         rfl
        refine zz (i := 3) (N := some 17) (v := ?_) (a' := ?_) #[T_,T_,T_,T_,F_,F_,F_,F_,F_,F_,F_,F_,F_,F_,F_,F_,F_,F_,F_] rfl rfl (zv HT_.out (by kernel_rfl)) (fun _ _ _ h => h) (Or.inl ⟨by rfl, ?_⟩) ?_ ?_
        rotate_left
        ·intro w'
         go_simp
         with_reducible rfl
        rotate_left
        ·simp only [zpa,zpb,zpc,zpd,zpe,zr,zs]
         rfl
        refine zz (i := 4) (N := some 18) (v := ?_) (a' := ?_) #[T_,T_,T_,T_,T_,F_,F_,F_,F_,F_,F_,F_,F_,F_,F_,F_,F_,F_,F_] rfl rfl (zv HT_.out (by kernel_rfl)) (fun _ _ _ h => h) (Or.inl ⟨by rfl, ?_⟩) ?_ ?_
        rotate_left
        ·intro w'
         go_simp
         with_reducible rfl
        rotate_left
        ·simp only [zpa,zpb,zpc,zpd,zpe,zr,zs]
         rfl
        refine zz (i := 5) (N := some 19) (v := ?_) (a' := ?_) #[T_,T_,T_,T_,T_,T_,F_,F_,F_,F_,F_,F_,F_,F_,F_,F_,F_,F_,F_] rfl rfl (zv HT_.out (by kernel_rfl)) (fun _ _ _ h => h) (Or.inl ⟨by rfl, ?_⟩) ?_ ?_
        rotate_left
        ·intro w'
         go_simp
         with_reducible rfl
        rotate_left
        ·simp only [zpa,zpb,zpc,zpd,zpe,zr,zs]
         rfl
        refine zz (i := 6) (N := some 20) (v := ?_) (a' := ?_) #[T_,T_,T_,T_,T_,T_,T_,F_,F_,F_,F_,F_,F_,F_,F_,F_,F_,F_,F_] rfl rfl (zv HT_.out (by kernel_rfl)) (fun _ _ _ h => h) (Or.inl ⟨by rfl, ?_⟩) ?_ ?_
        rotate_left
        ·intro w'
         go_simp
         with_reducible rfl
        rotate_left
        ·simp only [zpa,zpb,zpc,zpd,zpe,zr,zs]
         rfl
        refine zz (i := 7) (N := some 21) (v := ?_) (a' := ?_) #[T_,T_,T_,T_,T_,T_,T_,T_,F_,F_,F_,F_,F_,F_,F_,F_,F_,F_,F_] rfl rfl (zv HT_.out (by kernel_rfl)) (fun _ _ _ h => h) (Or.inl ⟨by rfl, ?_⟩) ?_ ?_
        rotate_left
        ·intro w'
         go_simp
         with_reducible rfl
        rotate_left
        ·simp only [zpa,zpb,zpc,zpd,zpe,zr,zs]
         rfl
        refine zz (i := 8) (N := some 22) (v := undef) (a' := ?_) #[T_,T_,T_,T_,T_,T_,T_,T_,T_,F_,F_,F_,F_,F_,F_,F_,F_,F_,F_] rfl rfl (zv HT_.out (by kernel_rfl)) (fun _ _ _ h => h) (Or.inr ⟨by rfl, rfl⟩) ?_ ?_
        rotate_left
        ·simp only [zpa,zpb,zpc,zpd,zpe,zr,zs]
         rfl
        refine zz (i := 9) (N := some 23) (v := undef) (a' := ?_) #[T_,T_,T_,T_,T_,T_,T_,T_,T_,T_,F_,F_,F_,F_,F_,F_,F_,F_,F_] rfl rfl (zv HT_.out (by kernel_rfl)) (fun _ _ _ h => h) (Or.inr ⟨by rfl, rfl⟩) ?_ ?_
        rotate_left
        ·simp only [zpa,zpb,zpc,zpd,zpe,zr,zs]
         rfl
        refine zz (i := 10) (N := some 24) (v := undef) (a' := ?_) #[T_,T_,T_,T_,T_,T_,T_,T_,T_,T_,T_,F_,F_,F_,F_,F_,F_,F_,F_] rfl rfl (zv HT_.out (by kernel_rfl)) (fun _ _ _ h => h) (Or.inr ⟨by rfl, rfl⟩) ?_ ?_
        rotate_left
        ·simp only [zpa,zpb,zpc,zpd,zpe,zr,zs]
         rfl
        refine zz (i := 11) (N := some 25) (v := undef) (a' := ?_) #[T_,T_,T_,T_,T_,T_,T_,T_,T_,T_,T_,T_,F_,F_,F_,F_,F_,F_,F_] rfl rfl (zv HT_.out (by kernel_rfl)) (fun _ _ _ h => h) (Or.inr ⟨by rfl, rfl⟩) ?_ ?_
        rotate_left
        ·simp only [zpa,zpb,zpc,zpd,zpe,zr,zs]
         rfl
        refine zz (i := 12) (N := some 26) (v := undef) (a' := ?_) #[T_,T_,T_,T_,T_,T_,T_,T_,T_,T_,T_,T_,T_,F_,F_,F_,F_,F_,F_] rfl rfl (zv HT_.out (by kernel_rfl)) (fun _ _ _ h => h) (Or.inr ⟨by rfl, rfl⟩) ?_ ?_
        rotate_left
        ·simp only [zpa,zpb,zpc,zpd,zpe,zr,zs]
         rfl
        refine zz (i := 13) (N := some 27) (v := undef) (a' := ?_) #[T_,T_,T_,T_,T_,T_,T_,T_,T_,T_,T_,T_,T_,T_,F_,F_,F_,F_,F_] rfl rfl (zv HT_.out (by kernel_rfl)) (fun _ _ _ h => h) (Or.inr ⟨by rfl, rfl⟩) ?_ ?_
        rotate_left
        ·simp only [zpa,zpb,zpc,zpd,zpe,zr,zs]
         rfl
        refine zz (i := 14) (N := some 28) (v := undef) (a' := ?_) #[T_,T_,T_,T_,T_,T_,T_,T_,T_,T_,T_,T_,T_,T_,T_,F_,F_,F_,F_] rfl rfl (zv HT_.out (by kernel_rfl)) (fun _ _ _ h => h) (Or.inr ⟨by rfl, rfl⟩) ?_ ?_
        rotate_left
        ·simp only [zpa,zpb,zpc,zpd,zpe,zr,zs]
         rfl
        refine zz (i := 15) (N := some 29) (v := undef) (a' := ?_) #[T_,T_,T_,T_,T_,T_,T_,T_,T_,T_,T_,T_,T_,T_,T_,T_,F_,F_,F_] rfl rfl (zv HT_.out (by kernel_rfl)) (fun _ _ _ h => h) (Or.inr ⟨by rfl, rfl⟩) ?_ ?_
        rotate_left
        ·simp only [zpa,zpb,zpc,zpd,zpe,zr,zs]
         rfl
        refine zz (i := 16) (N := some 30) (v := undef) (a' := ?_) #[T_,T_,T_,T_,T_,T_,T_,T_,T_,T_,T_,T_,T_,T_,T_,T_,T_,F_,F_] rfl rfl (zv HT_.out (by kernel_rfl)) (fun _ _ _ h => h) (Or.inr ⟨by rfl, rfl⟩) ?_ ?_
        rotate_left
        ·simp only [zpa,zpb,zpc,zpd,zpe,zr,zs]
         rfl
        refine zz (i := 17) (N := some 31) (v := ?_) (a' := ?_) #[T_,T_,T_,T_,T_,T_,T_,T_,T_,T_,T_,T_,T_,T_,T_,T_,T_,T_,F_] rfl rfl (zv HT_.out (by kernel_rfl)) (fun _ _ _ h => h) (Or.inl ⟨by rfl, ?_⟩) ?_ ?_
        rotate_left
        ·intro w'
         go_simp
         with_reducible rfl
        rotate_left
        ·simp only [zpa,zpb,zpc,zpd,zpe,zr,zs]
         rfl
        refine zz (i := 18) (N := some 32) (v := ?_) (a' := ?_) #[T_,T_,T_,T_,T_,T_,T_,T_,T_,T_,T_,T_,T_,T_,T_,T_,T_,T_,T_] rfl rfl (zv HT_.out (by kernel_rfl)) (fun _ _ _ h => h) (Or.inl ⟨by rfl, ?_⟩) ?_ ?_
        rotate_left
        ·intro w'
         go_simp
         with_reducible rfl
        rotate_left
        ·simp only [zpa,zpb,zpc,zpd,zpe,zr,zs]
         rfl
        refine done_ (zbc HT_.out (by kernel_rfl)) ?_
        try go_wp2
        go_roundg k1
        case measure => have := HK1.out; omega
        case rel => exact ⟨(wrap64 (x9_1 + 1)), (by first | rfl | (simp; done) | (simp [*]; done)), (by first | exact H' | (simp only [hji9]; exact H') | (simp only [hji9]; exact H')), ⟨by have := HK1.out; omega⟩, ⟨by repeat (first | (with_reducible first | exact HB.out | apply zc | apply zb | apply zd | refine zu ?_ GE417.out) | exact HB.out)⟩⟩
      ·replace c7 := Bool.eq_false_iff.mpr c7
       subst c7
       have H1 : (some false) = some r := by rw [if_neg (show ¬ (false = true) by decide)] at H; exact H
       clear H
       have H := H1
       clear H1
       obtain rfl := Option.some.inj H
       have p416 : 0 ≤ (x9_1 : Int) := of_decide_eq_true (by assumption)
       have q416 : x9_1 < (l0.length : Int) := of_decide_eq_true (by assumption)
       obtain ⟨ad416, e416, hx416_0, hx416_1, hx416_2, hx416_3⟩ := zlb HR0.out x9_1 p416 q416
       cases e416
       replace hx416_0 := (HB.out.cell (World.block_lt_of_cell? w _ hx416_0)).trans hx416_0
       replace hx416_1 := (HB.out.cell (World.block_lt_of_cell? w _ hx416_1)).trans hx416_1
       replace hx416_2 := (HB.out.cell (World.block_lt_of_cell? w _ hx416_2)).trans hx416_2
       replace hx416_3 := (HB.out.cell (World.block_lt_of_cell? w _ hx416_3)).trans hx416_3
       replace p416 := eq_true p416
       replace q416 := eq_true q416
       try go_wp2_with (first | ((with_reducible refine zw (N := 6) rfl ?_); (try (refine zla (by rfl) ?_; dsimp only)); refine zca ?hg (N := 6) ?hd (cs := #[.int .i64 0, .int .i64 0, .int .i64 0, .int .i64 0]) (t := 40) ?hr ?_; (case hd => rfl); (case hg => rfl); (case hr => first | (go_simp; done) | (go_simp; rfl)); intro gb417 hg w28 hbox hb; have n0_ := za.mk (zg (by repeat (first | (with_reducible first | exact HB.out | apply zc | apply zb | apply zd) | exact HB.out)) hb); have n1_ := za.mk (hbox); have n2_ := za.mk ((by rw [hg]; exact (zp (by repeat (first | (with_reducible first | exact HB.out | apply zc | apply zb | apply zd) | exact HB.out))) : w.heap.size ≤ gb417)); have n3_ := za.mk ((by rw [hg]; exact (zp (by repeat (first | (with_reducible first | exact HB.out | apply zc | apply zb | apply zd) | exact HB.out))) : w.heap.size ≤ gb417)); clear HB; have HB := n0_; have BK417 := n1_; have GW417 := n2_; have GE417 := n3_; clear n0_ n1_ n2_ n3_; clear hb hbox hg; have hcz29_0 : w28.cell? ⟨gb417, 0, none⟩ = some (.int .i64 0) := (zf BK417.out 0).trans rfl; have hcz29_1 : w28.cell? ⟨gb417, 1, none⟩ = some (.int .i64 0) := (zf BK417.out 1).trans rfl; have hcz29_2 : w28.cell? ⟨gb417, 2, none⟩ = some (.int .i64 0) := (zf BK417.out 2).trans rfl; have hcz29_3 : w28.cell? ⟨gb417, 3, none⟩ = some (.int .i64 0) := (zf BK417.out 3).trans rfl; have hfz29_0 := zl BK417.out 0; have hfz29_1 := zl BK417.out 1; have hfz29_2 := zl BK417.out 2; have hfz29_3 := zl BK417.out 3))
       have n0_ : za (((((w28.setCell ⟨gb417, 0, none⟩ (.int .i64 ((zk l0 x9_1).f0))).setCell ⟨gb417, 1, none⟩ (.int .i64 ((zk l0 x9_1).f1))).setCell ⟨gb417, 2, none⟩ (.int .i64 ((zk l0 x9_1).f2))).setCell ⟨gb417, 3, none⟩ (.int .i64 ((zk l0 x9_1).f3))).heap[gb417]? = some (.cells #[.int .i64 ((zk l0 x9_1).f0), .int .i64 ((zk l0 x9_1).f1), .int .i64 ((zk l0 x9_1).f2), .int .i64 ((zk l0 x9_1).f3)] 40 (0, 0))) := ⟨by (with_reducible repeat (first | refine zy ?_ _ | refine zaa ?_ | refine zx ?_ _)); refine zfb (cs := #[.int .i64 ((zk l0 x9_1).f0), .int .i64 ((zk l0 x9_1).f1), .int .i64 ((zk l0 x9_1).f2), .int .i64 0]) ?_ 3 _ rfl; (with_reducible repeat (first | refine zy ?_ _ | refine zaa ?_ | refine zx ?_ _)); refine zfb (cs := #[.int .i64 ((zk l0 x9_1).f0), .int .i64 ((zk l0 x9_1).f1), .int .i64 0, .int .i64 0]) ?_ 2 _ rfl; (with_reducible repeat (first | refine zy ?_ _ | refine zaa ?_ | refine zx ?_ _)); refine zfb (cs := #[.int .i64 ((zk l0 x9_1).f0), .int .i64 0, .int .i64 0, .int .i64 0]) ?_ 1 _ rfl; (with_reducible repeat (first | refine zy ?_ _ | refine zaa ?_ | refine zx ?_ _)); refine zfb (cs := #[.int .i64 0, .int .i64 0, .int .i64 0, .int .i64 0]) ?_ 0 _ rfl; (with_reducible repeat (first | refine zy ?_ _ | refine zaa ?_ | refine zx ?_ _)); exact BK417.out⟩
       have n1_ : za (Below w.heap.size w ((((w28.setCell ⟨gb417, 0, none⟩ (.int .i64 ((zk l0 x9_1).f0))).setCell ⟨gb417, 1, none⟩ (.int .i64 ((zk l0 x9_1).f1))).setCell ⟨gb417, 2, none⟩ (.int .i64 ((zk l0 x9_1).f2))).setCell ⟨gb417, 3, none⟩ (.int .i64 ((zk l0 x9_1).f3)))) := ⟨by repeat (first | (with_reducible first | exact HB.out | apply zc | apply zb | apply zd | refine zu ?_ GE417.out) | exact HB.out)⟩
       (try clear BK417)
       (try clear HB)
       generalize ((((w28.setCell ⟨gb417, 0, none⟩ (.int .i64 ((zk l0 x9_1).f0))).setCell ⟨gb417, 1, none⟩ (.int .i64 ((zk l0 x9_1).f1))).setCell ⟨gb417, 2, none⟩ (.int .i64 ((zk l0 x9_1).f2))).setCell ⟨gb417, 3, none⟩ (.int .i64 ((zk l0 x9_1).f3))) = w30 at n0_ n1_ ⊢
       have BK417 := n0_
       have HB := n1_
       clear n0_ n1_
       have n0_ := za.mk (zaa BK417.out)
       have n1_ := za.mk (zd HB.out)
       clear BK417
       clear HB
       have BK417 := n0_
       have HB := n1_
       clear n0_ n1_
       refine start_ (n := 19) (S := fun w' => w'.cell? ⟨gb417, 0, none⟩ = some (.int .i64 ((zk l0 x9_1).f0)) ∧ w'.cell? ⟨gb417, 1, none⟩ = some (.int .i64 ((zk l0 x9_1).f1)) ∧ w'.cell? ⟨gb417, 2, none⟩ = some (.int .i64 ((zk l0 x9_1).f2)) ∧ w'.cell? ⟨gb417, 3, none⟩ = some (.int .i64 ((zk l0 x9_1).f3))) (ds := []) #[F_,F_,F_,F_,F_,F_,F_,F_,F_,F_,F_,F_,F_,F_,F_,F_,F_,F_,F_] (by kernel_rfl) rfl rfl ⟨(zf BK417.out 0).trans rfl, (zf BK417.out 1).trans rfl, (zf BK417.out 2).trans rfl, (zf BK417.out 3).trans rfl⟩ (fun hHeld => ?_); refine zwb impl_SpansOk.tab4 impl_SpansOk.bits4 (fun HT_ HW_ => ?_)
       generalize w30.drew = w31 at BK417 HB hHeld ⊢
       refine zz (i := 1) (N := some 15) (v := ?_) (a' := ?_) #[F_,T_,F_,F_,F_,F_,F_,F_,F_,F_,F_,F_,F_,F_,F_,F_,F_,F_,F_] rfl rfl (zv HT_.out (by kernel_rfl)) (fun _ _ _ h => h) (Or.inl ⟨by rfl, ?_⟩) ?_ ?_
       rotate_left
       ·intro w'
        go_simp
        with_reducible rfl
       rotate_left
       ·simp only [zpa,zpb,zpc,zpd,zpe,zr,zs]
        rfl
       refine zob (i := 0) (N := some 14) (v := ?_) (a' := ?_) #[T_,T_,F_,F_,F_,F_,F_,F_,F_,F_,F_,F_,F_,F_,F_,F_,F_,F_,F_] rfl rfl (zab HT_.out HW_.out (by kernel_rfl)) (fun _ _ _ h => h) (Or.inl ⟨by rfl, ?_⟩) hHeld ?_ ?_
       rotate_left
       ·rintro w' ⟨s0, s1, s2, s3⟩
        go_simp
        with_reducible rfl
       rotate_left
       ·simp only [zpa,zpb,zpc,zpd,zpe,zr,zs]
        rfl
       refine one_ (i := 2) (N := some 16) #[T_,T_,T_,F_,F_,F_,F_,F_,F_,F_,F_,F_,F_,F_,F_,F_,F_,F_,F_] rfl rfl (zzb HT_.out (by kernel_rfl)) (by decide) (fun K hK => ?_)
       refine goes_ Try.func101 (by kernel_rfl) rfl #[.agg #[.int .i64 ((zk l0 x9_1).f0), .int .i64 ((zk l0 x9_1).f1), .int .i64 ((zk l0 x9_1).f2), .int .i64 ((zk l0 x9_1).f3)], .int .i64 a1] (by rfl) rfl rfl (by (try simp only [zma,zmb,zmc]); first | done | rfl) ?_
       with_reducible refine (impl_spanOk.calls ((zk l0 x9_1).f0) ((zk l0 x9_1).f1) ((zk l0 x9_1).f2) ((zk l0 x9_1).f3) a1 false _ A6.out).mono ?_
       rintro e w32 ⟨rfl, hb⟩
       refine ⟨_, rfl, ?_⟩
       have n0_ := za.mk (zsa (g := gb417) (o := .cells #[.int .i64 ((zk l0 x9_1).f0), .int .i64 ((zk l0 x9_1).f1), .int .i64 ((zk l0 x9_1).f2), .int .i64 ((zk l0 x9_1).f3)] 40 (0, 0)) (by (with_reducible repeat (first | refine zy ?_ _ | refine zaa ?_ | refine zx ?_ _)); exact BK417.out) hb)
       have n1_ := za.mk (zg (by repeat (first | (with_reducible first | exact HB.out | apply zc | apply zb | apply zd | refine zu ?_ GE417.out) | exact HB.out)) hb)
       clear BK417
       clear HB
       have BK417 := n0_
       have HB := n1_
       clear n0_ n1_
       (try clear hb)
       (try clear hb2)
       (try clear hk)
       (try clear hi)
       refine hK.out _ _ ⟨(zf BK417.out 0).trans rfl, (zf BK417.out 1).trans rfl, (zf BK417.out 2).trans rfl, (zf BK417.out 3).trans rfl⟩ (fun hHeld => ?_)
       clear hK K
       refine norm_ (a' := ?_) ?_ ?_
       rotate_left
       ·show Act.put _ (some 16) _ = _
        simp only [zpa,zpb,zpc,zpd,zpe,zr,zs]
        rfl
       refine zz (i := 3) (N := some 17) (v := ?_) (a' := ?_) #[T_,T_,T_,T_,F_,F_,F_,F_,F_,F_,F_,F_,F_,F_,F_,F_,F_,F_,F_] rfl rfl (zv HT_.out (by kernel_rfl)) (fun _ _ _ h => h) (Or.inl ⟨by rfl, ?_⟩) ?_ ?_
       rotate_left
       ·intro w'
        go_simp
        with_reducible rfl
       rotate_left
       ·simp only [zpa,zpb,zpc,zpd,zpe,zr,zs]
        rfl
       refine zz (i := 4) (N := some 18) (v := ?_) (a' := ?_) #[T_,T_,T_,T_,T_,F_,F_,F_,F_,F_,F_,F_,F_,F_,F_,F_,F_,F_,F_] rfl rfl (zv HT_.out (by kernel_rfl)) (fun _ _ _ h => h) (Or.inl ⟨by rfl, ?_⟩) ?_ ?_
       rotate_left
       ·intro w'
        go_simp
        with_reducible rfl
       rotate_left
       ·simp only [zpa,zpb,zpc,zpd,zpe,zr,zs]
        rfl
       refine zz (i := 5) (N := some 19) (v := undef) (a' := ?_) #[T_,T_,T_,T_,T_,T_,F_,F_,F_,F_,F_,F_,F_,F_,F_,F_,F_,F_,F_] rfl rfl (zv HT_.out (by kernel_rfl)) (fun _ _ _ h => h) (Or.inr ⟨by rfl, rfl⟩) ?_ ?_
       rotate_left
       ·simp only [zpa,zpb,zpc,zpd,zpe,zr,zs]
        rfl
       refine zz (i := 6) (N := some 20) (v := undef) (a' := ?_) #[T_,T_,T_,T_,T_,T_,T_,F_,F_,F_,F_,F_,F_,F_,F_,F_,F_,F_,F_] rfl rfl (zv HT_.out (by kernel_rfl)) (fun _ _ _ h => h) (Or.inr ⟨by rfl, rfl⟩) ?_ ?_
       rotate_left
       ·simp only [zpa,zpb,zpc,zpd,zpe,zr,zs]
        rfl
       refine zz (i := 7) (N := some 21) (v := undef) (a' := ?_) #[T_,T_,T_,T_,T_,T_,T_,T_,F_,F_,F_,F_,F_,F_,F_,F_,F_,F_,F_] rfl rfl (zv HT_.out (by kernel_rfl)) (fun _ _ _ h => h) (Or.inr ⟨by rfl, rfl⟩) ?_ ?_
       rotate_left
       ·simp only [zpa,zpb,zpc,zpd,zpe,zr,zs]
        rfl
       refine zz (i := 8) (N := some 22) (v := undef) (a' := ?_) #[T_,T_,T_,T_,T_,T_,T_,T_,T_,F_,F_,F_,F_,F_,F_,F_,F_,F_,F_] rfl rfl (zv HT_.out (by kernel_rfl)) (fun _ _ _ h => h) (Or.inr ⟨by rfl, rfl⟩) ?_ ?_
       rotate_left
       ·simp only [zpa,zpb,zpc,zpd,zpe,zr,zs]
        rfl
       refine zz (i := 9) (N := some 23) (v := undef) (a' := ?_) #[T_,T_,T_,T_,T_,T_,T_,T_,T_,T_,F_,F_,F_,F_,F_,F_,F_,F_,F_] rfl rfl (zv HT_.out (by kernel_rfl)) (fun _ _ _ h => h) (Or.inr ⟨by rfl, rfl⟩) ?_ ?_
       rotate_left
       ·simp only [zpa,zpb,zpc,zpd,zpe,zr,zs]
        rfl
       refine zz (i := 10) (N := some 24) (v := undef) (a' := ?_) #[T_,T_,T_,T_,T_,T_,T_,T_,T_,T_,T_,F_,F_,F_,F_,F_,F_,F_,F_] rfl rfl (zv HT_.out (by kernel_rfl)) (fun _ _ _ h => h) (Or.inr ⟨by rfl, rfl⟩) ?_ ?_
       rotate_left
       ·simp only [zpa,zpb,zpc,zpd,zpe,zr,zs]
        rfl
       refine zz (i := 11) (N := some 25) (v := undef) (a' := ?_) #[T_,T_,T_,T_,T_,T_,T_,T_,T_,T_,T_,T_,F_,F_,F_,F_,F_,F_,F_] rfl rfl (zv HT_.out (by kernel_rfl)) (fun _ _ _ h => h) (Or.inr ⟨by rfl, rfl⟩) ?_ ?_
       rotate_left
       ·simp only [zpa,zpb,zpc,zpd,zpe,zr,zs]
        rfl
       refine zz (i := 12) (N := some 26) (v := undef) (a' := ?_) #[T_,T_,T_,T_,T_,T_,T_,T_,T_,T_,T_,T_,T_,F_,F_,F_,F_,F_,F_] rfl rfl (zv HT_.out (by kernel_rfl)) (fun _ _ _ h => h) (Or.inr ⟨by rfl, rfl⟩) ?_ ?_
       rotate_left
       ·simp only [zpa,zpb,zpc,zpd,zpe,zr,zs]
        rfl
       refine zz (i := 13) (N := some 27) (v := undef) (a' := ?_) #[T_,T_,T_,T_,T_,T_,T_,T_,T_,T_,T_,T_,T_,T_,F_,F_,F_,F_,F_] rfl rfl (zv HT_.out (by kernel_rfl)) (fun _ _ _ h => h) (Or.inr ⟨by rfl, rfl⟩) ?_ ?_
       rotate_left
       ·simp only [zpa,zpb,zpc,zpd,zpe,zr,zs]
        rfl
       refine zz (i := 14) (N := some 28) (v := undef) (a' := ?_) #[T_,T_,T_,T_,T_,T_,T_,T_,T_,T_,T_,T_,T_,T_,T_,F_,F_,F_,F_] rfl rfl (zv HT_.out (by kernel_rfl)) (fun _ _ _ h => h) (Or.inr ⟨by rfl, rfl⟩) ?_ ?_
       rotate_left
       ·simp only [zpa,zpb,zpc,zpd,zpe,zr,zs]
        rfl
       refine zz (i := 15) (N := some 29) (v := undef) (a' := ?_) #[T_,T_,T_,T_,T_,T_,T_,T_,T_,T_,T_,T_,T_,T_,T_,T_,F_,F_,F_] rfl rfl (zv HT_.out (by kernel_rfl)) (fun _ _ _ h => h) (Or.inr ⟨by rfl, rfl⟩) ?_ ?_
       rotate_left
       ·simp only [zpa,zpb,zpc,zpd,zpe,zr,zs]
        rfl
       refine zz (i := 16) (N := some 30) (v := undef) (a' := ?_) #[T_,T_,T_,T_,T_,T_,T_,T_,T_,T_,T_,T_,T_,T_,T_,T_,T_,F_,F_] rfl rfl (zv HT_.out (by kernel_rfl)) (fun _ _ _ h => h) (Or.inr ⟨by rfl, rfl⟩) ?_ ?_
       rotate_left
       ·simp only [zpa,zpb,zpc,zpd,zpe,zr,zs]
        rfl
       refine zz (i := 17) (N := some 31) (v := undef) (a' := ?_) #[T_,T_,T_,T_,T_,T_,T_,T_,T_,T_,T_,T_,T_,T_,T_,T_,T_,T_,F_] rfl rfl (zv HT_.out (by kernel_rfl)) (fun _ _ _ h => h) (Or.inr ⟨by rfl, rfl⟩) ?_ ?_
       rotate_left
       ·simp only [zpa,zpb,zpc,zpd,zpe,zr,zs]
        rfl
       refine zz (i := 18) (N := some 32) (v := ?_) (a' := ?_) #[T_,T_,T_,T_,T_,T_,T_,T_,T_,T_,T_,T_,T_,T_,T_,T_,T_,T_,T_] rfl rfl (zv HT_.out (by kernel_rfl)) (fun _ _ _ h => h) (Or.inl ⟨by rfl, ?_⟩) ?_ ?_
       rotate_left
       ·intro w'
        go_simp
        with_reducible rfl
       rotate_left
       ·simp only [zpa,zpb,zpc,zpd,zpe,zr,zs]
        rfl
       refine done_ (zbc HT_.out (by kernel_rfl)) ?_
       try go_wp2
       go_ret
       exact ⟨by first | rfl | (simp [zh, zi] <;> rfl) | (simp [*, zh, zi] <;> rfl), by repeat (first | (with_reducible first | exact HB.out | apply zc | apply zb | apply zd | refine zu ?_ GE417.out) | exact HB.out)⟩
     ·rw [if_neg c5] at H
      exact absurd H (by simp)
    ·rw [if_neg c4] at H
     exact absurd H (by simp)
   ·rw [if_neg c3] at H
    have c3b0 : decide (x9_1 < (l0.length : Int)) = false := decide_eq_false c3
    clear c3
    by_cases c33 : a1 ≥ 0
    ·rw [if_pos c33] at H
     have c33b0 : decide (0 ≤ a1) = true := decide_eq_true c33
     clear c33
     by_cases c34 : a1 ≤ 80
     ·rw [if_pos c34] at H
      have c34b0 : decide (a1 ≤ 80) = true := decide_eq_true c34
      clear c34
      obtain rfl := Option.some.inj H
      go_wp2
      go_ret
      exact ⟨by first | rfl | (simp [zh, zi] <;> rfl) | (simp [*, zh, zi] <;> rfl), by repeat (first | (with_reducible first | exact HB.out | apply zc | apply zb | apply zd) | exact HB.out)⟩
     ·rw [if_neg c34] at H
      have c34b0 : decide (a1 ≤ 80) = false := decide_eq_false c34
      clear c34
      obtain rfl := Option.some.inj H
      go_wp2
      go_ret
      exact ⟨by first | rfl | (simp [zh, zi] <;> rfl) | (simp [*, zh, zi] <;> rfl), by repeat (first | (with_reducible first | exact HB.out | apply zc | apply zb | apply zd) | exact HB.out)⟩
    ·rw [if_neg c33] at H
     have c33b0 : decide (0 ≤ a1) = false := decide_eq_false c33
     clear c33
     obtain rfl := Option.some.inj H
     go_wp2
     go_ret
     exact ⟨by first | rfl | (simp [zh, zi] <;> rfl) | (simp [*, zh, zi] <;> rfl), by repeat (first | (with_reducible first | exact HB.out | apply zc | apply zb | apply zd) | exact HB.out)⟩
end Go.Proofs.Ytmjhdgofepdgkaa.PFnExactFillCost
