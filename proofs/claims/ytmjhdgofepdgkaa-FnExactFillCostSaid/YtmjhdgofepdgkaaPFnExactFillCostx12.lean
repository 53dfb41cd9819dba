-- Written by a program of this session (wip/tools) out of the translation; its shape is that of the kit print.
import Derived.Test.YtmjhdgofepdgkaaPFnExactFillCostx0
import Derived.Test.YtmjhdgofepdgkaaPFnExactFillCostx2
import Derived.Test.YtmjhdgofepdgkaaPFnExactFillCostx11
namespace Go.Proofs.Ytmjhdgofepdgkaa.PFnExactFillCost
open Go.RowKit Go.Proofs.YtmjhdgofepdgkaaW.PrintWords Go.Proofs.YtmjhdgofepdgkaaW.PrintLast Go.Proofs.YtmjhdgofepdgkaaW.PrintMore
attribute [local go_sem] zbb zcb zjb zkb zxa zya zdb zeb
set_option linter.unusedVariables false
set_option maxHeartbeats 8000000
set_option maxRecDepth 100000
set_option linter.unusedSimpArgs false
def spec_SpansOk.l0 : Nat → List (S40) → Int → Int → Option (Bool)
 | 0, _, _, _ => none
 | k + 1, x0, x1, x5 => if x5 < (x0.length : Int) then (if 0 ≤ x5 then ((spec_l6Ok.f ((zk x0 x5).f0) ((zk x0 x5).f1) ((zk x0 x5).f2) ((zk x0 x5).f3) x1).bind fun t274 => (if t274 = true then (if x5 > 0 then (if 0 ≤ (wrap64 (x5 - 1)) then (if (wrap64 (x5 - 1)) < (x0.length : Int) then (if ((zk x0 (wrap64 (x5 - 1))).f1) > ((zk x0 x5).f0) then (some false) else (spec_SpansOk.l0 k x0 x1 (wrap64 (x5 + 1)))) else (none)) else (none)) else (spec_SpansOk.l0 k x0 x1 (wrap64 (x5 + 1)))) else (some false))) else (none)) else (if (x0.length : Int) ≤ 12 then ((spec_l1In.f x1 0 80).bind fun t277 => (some t277)) else (some false))
def spec_SpansOk.f (k : Nat) (l0 : List (S40)) (a1 : Int) : Option (Bool) := spec_SpansOk.l0 k l0 a1 0
def spec_SpansOk.T4 : Bool × List (List Nat × List Nat) := (true, [([], []), ([], []), ([0, 1], [0, 1]), ([2], [2]), ([], []), ([3, 4], [3, 4]), ([5], [5]), ([6, 5], [6]), ([7], [7]), ([8, 7], [7, 8]), ([9, 7, 7], [7, 9]), ([10], [10]), ([10], [10]), ([12, 10], [10, 12]), ([11, 13, 10], [10, 11, 13]), ([14, 10], [10, 14]), ([15, 10], [10, 15]), ([10], [10]), ([10], [10]), ([17, 18, 10], [10, 17, 18]), ([19, 10], [10, 19]), ([20, 10], [10, 20]), ([16, 21, 10], [10, 16, 21]), ([10, 22, 7], [7, 10, 22]), ([7, 23], [7, 23])])
def spec_SpansOk.B4 : List Nat := [0, 0, 3, 7, 0, 31, 63, 127, 255, 511, 1023, 2047, 2047, 6143, 16383, 32767, 65535, 2047, 2047, 395263, 919551, 1968127, 4194303, 8388607, 16777215]
theorem spec_SpansOk.tab4 : rtab .any (opsOf Try.f50 4) = spec_SpansOk.T4 := by kernel_rfl
theorem spec_SpansOk.bits4 : waitsOk spec_SpansOk.T4.2 spec_SpansOk.B4 = true := by kernel_rfl
theorem spec_SpansOk.calls (k : Nat) (A0 : Option Addr) (c0 : Nat) (l0 : List (S40)) (a1 : Int) (r : Bool) (w : World) (hr0 : Kd.C k40 w A0 l0.length l0) (hc0 : l0.length ≤ c0) (h : spec_SpansOk.f k l0 a1 = some r) :
  Calls Try.prog 50 #[.slice A0 l0.length c0, .int .i64 a1] w fun e w' => e = .returned (.bool r) ∧ Below w.heap.size w w' := by
 have hu40 := Try.underlying40
 have HR0 := za.mk hr0
 have HC0 := za.mk hc0
 clear hr0 hc0
 have HB := za.mk (Below.refl w.heap.size w)
 have H : (spec_SpansOk.l0 k l0 a1 0) = some r := h
 clear h
 have H' := za.mk H
 clear H
 go_enter Try.func50, Try.ntmps50
 go_wp2
 go_loopg [5] k (fun kq v5 w' => ∃ (x5_1 : Int), v5 = .int .i64 x5_1 ∧ za (spec_SpansOk.l0 kq l0 a1 x5_1 = some r) ∧ za (kq ≤ k) ∧ za (Below w.heap.size w w'))
 case atStart => exact ⟨(0), (by first | rfl | (simp; done) | (simp [*]; done)), H', ⟨Nat.le_refl _⟩, ⟨by repeat (first | (with_reducible first | exact HB.out | apply zc | apply zb | apply zd) | exact HB.out)⟩⟩
 case round =>
  clear H'
  try clear p2
  obtain ⟨x5_1, rfl, HA, HK1, HB⟩ := hrel
  cases gk with
  | zero => exact absurd HA.out (by simp [spec_SpansOk.l0])
  | succ k1 =>
   have H := HA.out
   clear HA
   simp only [spec_SpansOk.l0] at H
   by_cases c3 : x5_1 < (l0.length : Int)
   ·rw [if_pos c3] at H
    have c3b0 : decide (x5_1 < (l0.length : Int)) = true := decide_eq_true c3
    clear c3
    by_cases c4 : 0 ≤ x5_1
    ·rw [if_pos c4] at H
     have c4b0 : decide (0 ≤ x5_1) = true := decide_eq_true c4
     clear c4
     replace H := Option.bind_eq_some_iff.mp H
     obtain ⟨t274, A50, H⟩ := H
     replace H : (if t274 = true then (if x5_1 > 0 then (if 0 ≤ (wrap64 (x5_1 - 1)) then (if (wrap64 (x5_1 - 1)) < (l0.length : Int) then (if ((zk l0 (wrap64 (x5_1 - 1))).f1) > ((zk l0 x5_1).f0) then (some false) else (spec_SpansOk.l0 k1 l0 a1 (wrap64 (x5_1 + 1)))) else (none)) else (none)) else (spec_SpansOk.l0 k1 l0 a1 (wrap64 (x5_1 + 1)))) else (some false)) = some r := H
     have A5 := za.mk A50
     clear A50
     by_cases c6 : t274 = true
     ·subst c6
      have H1 : (if x5_1 > 0 then (if 0 ≤ (wrap64 (x5_1 - 1)) then (if (wrap64 (x5_1 - 1)) < (l0.length : Int) then (if ((zk l0 (wrap64 (x5_1 - 1))).f1) > ((zk l0 x5_1).f0) then (some false) else (spec_SpansOk.l0 k1 l0 a1 (wrap64 (x5_1 + 1)))) else (none)) else (none)) else (spec_SpansOk.l0 k1 l0 a1 (wrap64 (x5_1 + 1)))) = some r := by rw [if_pos rfl] at H; exact H
      clear H
      have H := H1
      clear H1
      by_cases c7 : x5_1 > 0
      ·rw [if_pos c7] at H
       have c7b0 : decide (0 < x5_1) = true := decide_eq_true c7
       clear c7
       obtain ⟨ji8, hji8⟩ : ∃ j_ : Int, (wrap64 (x5_1 - 1)) = j_ := ⟨_, rfl⟩
       replace H : (if 0 ≤ (ji8) then (if (ji8) < (l0.length : Int) then (if ((zk l0 (ji8)).f1) > ((zk l0 x5_1).f0) then (some false) else (spec_SpansOk.l0 k1 l0 a1 (wrap64 (x5_1 + 1)))) else (none)) else (none)) = some r := by first | (rw [hji8] at H; exact H) | (simp only [hji8] at H ⊢; exact H)
       (try rw [hji8] at A5)
       have hji8w : (IntKind.i64.wrap (x5_1 - 1)) = ji8 := (zr _).trans hji8
       by_cases c9 : 0 ≤ (ji8)
       ·rw [if_pos c9] at H
        have c9b0 : decide (0 ≤ (ji8)) = true := decide_eq_true c9
        clear c9
        by_cases c10 : (ji8) < (l0.length : Int)
        ·rw [if_pos c10] at H
         have c10b0 : decide ((ji8) < (l0.length : Int)) = true := decide_eq_true c10
         clear c10
         by_cases c11 : ((zk l0 (ji8)).f1) > ((zk l0 x5_1).f0)
         ·rw [if_pos c11] at H
          have c11b0 : decide (((zk l0 x5_1).f0) < ((zk l0 (ji8)).f1)) = true := decide_eq_true c11
          clear c11
          obtain rfl := Option.some.inj H
          try go_wp2
          have n0_ := za.mk (zd HB.out)
          clear HB
          have HB := n0_
          clear n0_
          have p273 : 0 ≤ (x5_1 : Int) := of_decide_eq_true (by assumption)
          have q273 : x5_1 < (l0.length : Int) := of_decide_eq_true (by assumption)
          obtain ⟨ad273, e273, hx273_0, hx273_1, hx273_2, hx273_3⟩ := zlb HR0.out x5_1 p273 q273
          have hw273_3 := hx273_3
          have hw273_2 := hx273_2
          have hw273_1 := hx273_1
          have hw273_0 := hx273_0
          cases e273
          replace hx273_0 := (HB.out.cell (World.block_lt_of_cell? w _ hx273_0)).trans hx273_0
          replace hx273_1 := (HB.out.cell (World.block_lt_of_cell? w _ hx273_1)).trans hx273_1
          replace hx273_2 := (HB.out.cell (World.block_lt_of_cell? w _ hx273_2)).trans hx273_2
          replace hx273_3 := (HB.out.cell (World.block_lt_of_cell? w _ hx273_3)).trans hx273_3
          replace p273 := eq_true p273
          replace q273 := eq_true q273
          have p275 : 0 ≤ ((ji8) : Int) := of_decide_eq_true (by assumption)
          have q275 : (ji8) < (l0.length : Int) := of_decide_eq_true (by assumption)
          obtain ⟨ad275, e275, hx275_0, hx275_1, hx275_2, hx275_3⟩ := zlb HR0.out (ji8) p275 q275
          have hw275_3 := hx275_3
          have hw275_2 := hx275_2
          have hw275_1 := hx275_1
          have hw275_0 := hx275_0
          obtain rfl : ad273 = ad275 := (by injection e275)
          replace hx275_0 := (HB.out.cell (World.block_lt_of_cell? w _ hx275_0)).trans hx275_0
          replace hx275_1 := (HB.out.cell (World.block_lt_of_cell? w _ hx275_1)).trans hx275_1
          replace hx275_2 := (HB.out.cell (World.block_lt_of_cell? w _ hx275_2)).trans hx275_2
          replace hx275_3 := (HB.out.cell (World.block_lt_of_cell? w _ hx275_3)).trans hx275_3
          replace p275 := eq_true p275
          replace q275 := eq_true q275
          have p276 : 0 ≤ (x5_1 : Int) := of_decide_eq_true (by assumption)
          have q276 : x5_1 < (l0.length : Int) := of_decide_eq_true (by assumption)
          obtain ⟨ad276, e276, hx276_0, hx276_1, hx276_2, hx276_3⟩ := zlb HR0.out x5_1 p276 q276
          have hw276_3 := hx276_3
          have hw276_2 := hx276_2
          have hw276_1 := hx276_1
          have hw276_0 := hx276_0
          obtain rfl : ad273 = ad276 := (by injection e276)
          replace hx276_0 := (HB.out.cell (World.block_lt_of_cell? w _ hx276_0)).trans hx276_0
          replace hx276_1 := (HB.out.cell (World.block_lt_of_cell? w _ hx276_1)).trans hx276_1
          replace hx276_2 := (HB.out.cell (World.block_lt_of_cell? w _ hx276_2)).trans hx276_2
          replace hx276_3 := (HB.out.cell (World.block_lt_of_cell? w _ hx276_3)).trans hx276_3
          replace p276 := eq_true p276
          replace q276 := eq_true q276
          refine start_ (n := 25) (S := fun w' => w'.cell? (ad273.add ((x5_1).toNat * 4)) = some (.int .i64 ((zk l0 x5_1).f0)) ∧ w'.cell? ⟨(ad273.add ((x5_1).toNat * 4)).block, (ad273.add ((x5_1).toNat * 4)).off + 1, none⟩ = some (.int .i64 ((zk l0 x5_1).f1)) ∧ w'.cell? ⟨(ad273.add ((x5_1).toNat * 4)).block, (ad273.add ((x5_1).toNat * 4)).off + 2, none⟩ = some (.int .i64 ((zk l0 x5_1).f2)) ∧ w'.cell? ⟨(ad273.add ((x5_1).toNat * 4)).block, (ad273.add ((x5_1).toNat * 4)).off + 3, none⟩ = some (.int .i64 ((zk l0 x5_1).f3)) ∧ w'.cell? (ad273.add (((ji8)).toNat * 4)) = some (.int .i64 ((zk l0 (ji8)).f0)) ∧ w'.cell? ⟨(ad273.add (((ji8)).toNat * 4)).block, (ad273.add (((ji8)).toNat * 4)).off + 1, none⟩ = some (.int .i64 ((zk l0 (ji8)).f1)) ∧ w'.cell? ⟨(ad273.add (((ji8)).toNat * 4)).block, (ad273.add (((ji8)).toNat * 4)).off + 2, none⟩ = some (.int .i64 ((zk l0 (ji8)).f2)) ∧ w'.cell? ⟨(ad273.add (((ji8)).toNat * 4)).block, (ad273.add (((ji8)).toNat * 4)).off + 3, none⟩ = some (.int .i64 ((zk l0 (ji8)).f3)) ∧ w'.cell? (ad273.add ((x5_1).toNat * 4)) = some (.int .i64 ((zk l0 x5_1).f0)) ∧ w'.cell? ⟨(ad273.add ((x5_1).toNat * 4)).block, (ad273.add ((x5_1).toNat * 4)).off + 1, none⟩ = some (.int .i64 ((zk l0 x5_1).f1)) ∧ w'.cell? ⟨(ad273.add ((x5_1).toNat * 4)).block, (ad273.add ((x5_1).toNat * 4)).off + 2, none⟩ = some (.int .i64 ((zk l0 x5_1).f2)) ∧ w'.cell? ⟨(ad273.add ((x5_1).toNat * 4)).block, (ad273.add ((x5_1).toNat * 4)).off + 3, none⟩ = some (.int .i64 ((zk l0 x5_1).f3))) (ds := []) #[F_,F_,F_,F_,F_,F_,F_,F_,F_,F_,F_,F_,F_,F_,F_,F_,F_,F_,F_,F_,F_,F_,F_,F_,F_] (by kernel_rfl) rfl rfl ⟨((HB.out.cell (World.block_lt_of_cell? w _ hw273_0)).trans hw273_0), ((HB.out.cell (World.block_lt_of_cell? w _ hw273_1)).trans hw273_1), ((HB.out.cell (World.block_lt_of_cell? w _ hw273_2)).trans hw273_2), ((HB.out.cell (World.block_lt_of_cell? w _ hw273_3)).trans hw273_3), ((HB.out.cell (World.block_lt_of_cell? w _ hw275_0)).trans hw275_0), ((HB.out.cell (World.block_lt_of_cell? w _ hw275_1)).trans hw275_1), ((HB.out.cell (World.block_lt_of_cell? w _ hw275_2)).trans hw275_2), ((HB.out.cell (World.block_lt_of_cell? w _ hw275_3)).trans hw275_3), ((HB.out.cell (World.block_lt_of_cell? w _ hw276_0)).trans hw276_0), ((HB.out.cell (World.block_lt_of_cell? w _ hw276_1)).trans hw276_1), ((HB.out.cell (World.block_lt_of_cell? w _ hw276_2)).trans hw276_2), ((HB.out.cell (World.block_lt_of_cell? w _ hw276_3)).trans hw276_3)⟩ (fun hHeld => ?_); refine zwb spec_SpansOk.tab4 spec_SpansOk.bits4 (fun HT_ HW_ => ?_)
          generalize wr.drew = w12 at HB hx273_0 hx273_1 hx273_2 hx273_3 hx275_0 hx275_1 hx275_2 hx275_3 hx276_0 hx276_1 hx276_2 hx276_3 hHeld ⊢
          refine zz (i := 0) (N := some 12) (v := ?_) (a' := ?_) #[T_,F_,F_,F_,F_,F_,F_,F_,F_,F_,F_,F_,F_,F_,F_,F_,F_,F_,F_,F_,F_,F_,F_,F_,F_] rfl rfl (zv HT_.out (by kernel_rfl)) (fun _ _ _ h => h) (Or.inl ⟨by rfl, ?_⟩) ?_ ?_
          rotate_left
          ·intro w'
           go_simp
           with_reducible rfl
          rotate_left
          ·simp only [zpa,zpb,zpc,zpd,zpe,zr,zs]
           rfl
          refine zz (i := 1) (N := some 13) (v := ?_) (a' := ?_) #[T_,T_,F_,F_,F_,F_,F_,F_,F_,F_,F_,F_,F_,F_,F_,F_,F_,F_,F_,F_,F_,F_,F_,F_,F_] rfl rfl (zv HT_.out (by kernel_rfl)) (fun _ _ _ h => h) (Or.inl ⟨by rfl, ?_⟩) ?_ ?_
          rotate_left
          ·intro w'
           go_simp
           with_reducible rfl
          rotate_left
          ·simp only [zpa,zpb,zpc,zpd,zpe,zr,zs]
           rfl
          refine zz (i := 2) (N := some 14) (v := ?_) (a' := ?_) #[T_,T_,T_,F_,F_,F_,F_,F_,F_,F_,F_,F_,F_,F_,F_,F_,F_,F_,F_,F_,F_,F_,F_,F_,F_] rfl rfl (zv HT_.out (by kernel_rfl)) (fun _ _ _ h => h) (Or.inl ⟨by rfl, ?_⟩) ?_ ?_
          rotate_left
          ·intro w'
           go_simp
           with_reducible rfl
          rotate_left
          ·simp only [zpa,zpb,zpc,zpd,zpe,zr,zs]
           rfl
          refine zz (i := 4) (N := some 16) (v := ?_) (a' := ?_) #[T_,T_,T_,F_,T_,F_,F_,F_,F_,F_,F_,F_,F_,F_,F_,F_,F_,F_,F_,F_,F_,F_,F_,F_,F_] rfl rfl (zv HT_.out (by kernel_rfl)) (fun _ _ _ h => h) (Or.inl ⟨by rfl, ?_⟩) ?_ ?_
          rotate_left
          ·intro w'
           go_simp
           with_reducible rfl
          rotate_left
          ·simp only [zpa,zpb,zpc,zpd,zpe,zr,zs]
           rfl
          refine zob (i := 3) (N := some 15) (v := ?_) (a' := ?_) #[T_,T_,T_,T_,T_,F_,F_,F_,F_,F_,F_,F_,F_,F_,F_,F_,F_,F_,F_,F_,F_,F_,F_,F_,F_] rfl rfl (zab HT_.out HW_.out (by kernel_rfl)) (fun _ _ _ h => h) (Or.inl ⟨by rfl, ?_⟩) hHeld ?_ ?_
          rotate_left
          ·rintro w' ⟨s0, s1, s2, s3, s4, s5, s6, s7, s8, s9, s10, s11⟩
           go_simp
           with_reducible rfl
          rotate_left
          ·simp only [zpa,zpb,zpc,zpd,zpe,zr,zs]
           rfl
          refine one_ (i := 5) (N := some 17) #[T_,T_,T_,T_,T_,T_,F_,F_,F_,F_,F_,F_,F_,F_,F_,F_,F_,F_,F_,F_,F_,F_,F_,F_,F_] rfl rfl (zzb HT_.out (by kernel_rfl)) (by decide) (fun K hK => ?_)
          refine goes_ Try.func95 (by kernel_rfl) rfl #[.agg #[.int .i64 ((zk l0 x5_1).f0), .int .i64 ((zk l0 x5_1).f1), .int .i64 ((zk l0 x5_1).f2), .int .i64 ((zk l0 x5_1).f3)], .int .i64 a1] (by rfl) rfl rfl (by (try simp only [zma,zmb,zmc]); first | done | rfl) ?_
          with_reducible refine (spec_l6Ok.calls ((zk l0 x5_1).f0) ((zk l0 x5_1).f1) ((zk l0 x5_1).f2) ((zk l0 x5_1).f3) a1 true _ A5.out).mono ?_
          rintro e w13 ⟨rfl, hb⟩
          refine ⟨_, rfl, ?_⟩
          have n0_ := za.mk (zg (by repeat (first | (with_reducible first | exact HB.out | apply zc | apply zb | apply zd) | exact HB.out)) hb)
          clear HB
          have HB := n0_
          clear n0_
          (try clear hb)
          (try clear hb2)
          (try clear hk)
          (try clear hi)
          refine hK.out _ _ ⟨((HB.out.cell (World.block_lt_of_cell? w _ hw273_0)).trans hw273_0), ((HB.out.cell (World.block_lt_of_cell? w _ hw273_1)).trans hw273_1), ((HB.out.cell (World.block_lt_of_cell? w _ hw273_2)).trans hw273_2), ((HB.out.cell (World.block_lt_of_cell? w _ hw273_3)).trans hw273_3), ((HB.out.cell (World.block_lt_of_cell? w _ hw275_0)).trans hw275_0), ((HB.out.cell (World.block_lt_of_cell? w _ hw275_1)).trans hw275_1), ((HB.out.cell (World.block_lt_of_cell? w _ hw275_2)).trans hw275_2), ((HB.out.cell (World.block_lt_of_cell? w _ hw275_3)).trans hw275_3), ((HB.out.cell (World.block_lt_of_cell? w _ hw276_0)).trans hw276_0), ((HB.out.cell (World.block_lt_of_cell? w _ hw276_1)).trans hw276_1), ((HB.out.cell (World.block_lt_of_cell? w _ hw276_2)).trans hw276_2), ((HB.out.cell (World.block_lt_of_cell? w _ hw276_3)).trans hw276_3)⟩ (fun hHeld => ?_)
          clear hK K
          refine norm_ (a' := ?_) ?_ ?_
          rotate_left
          ·show Act.put _ (some 17) _ = _
           simp only [zpa,zpb,zpc,zpd,zpe,zr,zs]
           rfl
          refine zz (i := 6) (N := some 18) (v := ?_) (a' := ?_) #[T_,T_,T_,T_,T_,T_,T_,F_,F_,F_,F_,F_,F_,F_,F_,F_,F_,F_,F_,F_,F_,F_,F_,F_,F_] rfl rfl (zv HT_.out (by kernel_rfl)) (fun _ _ _ h => h) (Or.inl ⟨by rfl, ?_⟩) ?_ ?_
          rotate_left
          ·intro w'
           go_simp
           with_reducible rfl
          rotate_left
          ·simp only [zpa,zpb,zpc,zpd,zpe,zr,zs]
           rfl
          refine zz (i := 7) (N := some 19) (v := ?_) (a' := ?_) #[T_,T_,T_,T_,T_,T_,T_,T_,F_,F_,F_,F_,F_,F_,F_,F_,F_,F_,F_,F_,F_,F_,F_,F_,F_] rfl rfl (zv HT_.out (by kernel_rfl)) (fun _ _ _ h => h) (Or.inl ⟨by rfl, ?_⟩) ?_ ?_
          rotate_left
          ·intro w'
           go_simp
           with_reducible rfl
          rotate_left
          ·simp only [zpa,zpb,zpc,zpd,zpe,zr,zs]
           rfl
          refine zz (i := 8) (N := some 20) (v := ?_) (a' := ?_) #[T_,T_,T_,T_,T_,T_,T_,T_,T_,F_,F_,F_,F_,F_,F_,F_,F_,F_,F_,F_,F_,F_,F_,F_,F_] rfl rfl (zv HT_.out (by kernel_rfl)) (fun _ _ _ h => h) (Or.inl ⟨by rfl, ?_⟩) ?_ ?_
          rotate_left
          ·intro w'
           go_simp
           with_reducible rfl
          rotate_left
          ·simp only [zpa,zpb,zpc,zpd,zpe,zr,zs]
           rfl
          refine zz (i := 9) (N := some 21) (v := ?_) (a' := ?_) #[T_,T_,T_,T_,T_,T_,T_,T_,T_,T_,F_,F_,F_,F_,F_,F_,F_,F_,F_,F_,F_,F_,F_,F_,F_] rfl rfl (zv HT_.out (by kernel_rfl)) (fun _ _ _ h => h) (Or.inl ⟨by rfl, ?_⟩) ?_ ?_
          rotate_left
          ·intro w'
           go_simp
           with_reducible rfl
          rotate_left
          ·simp only [zpa,zpb,zpc,zpd,zpe,zr,zs]
           rfl
          refine zz (i := 10) (N := some 22) (v := ?_) (a' := ?_) #[T_,T_,T_,T_,T_,T_,T_,T_,T_,T_,T_,F_,F_,F_,F_,F_,F_,F_,F_,F_,F_,F_,F_,F_,F_] rfl rfl (zv HT_.out (by kernel_rfl)) (fun _ _ _ h => h) (Or.inl ⟨by rfl, ?_⟩) ?_ ?_
          rotate_left
          ·intro w'
           go_simp
           with_reducible rfl
          rotate_left
          ·simp only [zpa,zpb,zpc,zpd,zpe,zr,zs]
           rfl
          refine zz (i := 11) (N := some 23) (v := ?_) (a' := ?_) #[T_,T_,T_,T_,T_,T_,T_,T_,T_,T_,T_,T_,F_,F_,F_,F_,F_,F_,F_,F_,F_,F_,F_,F_,F_] rfl rfl (zv HT_.out (by kernel_rfl)) (fun _ _ _ h => h) (Or.inl ⟨by rfl, ?_⟩) ?_ ?_
          rotate_left
          ·intro w'
           go_simp
           with_reducible rfl
          rotate_left
          ·simp only [zpa,zpb,zpc,zpd,zpe,zr,zs]
           rfl
          refine zz (i := 12) (N := some 24) (v := ?_) (a' := ?_) #[T_,T_,T_,T_,T_,T_,T_,T_,T_,T_,T_,T_,T_,F_,F_,F_,F_,F_,F_,F_,F_,F_,F_,F_,F_] rfl rfl (zv HT_.out (by kernel_rfl)) (fun _ _ _ h => h) (Or.inl ⟨by rfl, ?_⟩) ?_ ?_
          rotate_left
          ·intro w'
           go_simp
           with_reducible rfl
          rotate_left
          ·simp only [zpa,zpb,zpc,zpd,zpe,zr,zs]
           rfl
          refine zz (i := 13) (N := some 25) (v := ?_) (a' := ?_) #[T_,T_,T_,T_,T_,T_,T_,T_,T_,T_,T_,T_,T_,T_,F_,F_,F_,F_,F_,F_,F_,F_,F_,F_,F_] rfl rfl (zv HT_.out (by kernel_rfl)) (fun _ _ _ h => h) (Or.inl ⟨by rfl, ?_⟩) ?_ ?_
          rotate_left
          ·intro w'
           go_simp
           with_reducible rfl
          rotate_left
          ·simp only [zpa,zpb,zpc,zpd,zpe,zr,zs]
           rfl
          refine zz (i := 14) (N := some 26) (v := ?_) (a' := ?_) #[T_,T_,T_,T_,T_,T_,T_,T_,T_,T_,T_,T_,T_,T_,T_,F_,F_,F_,F_,F_,F_,F_,F_,F_,F_] rfl rfl (zv HT_.out (by kernel_rfl)) (fun _ _ _ h => h) (Or.inl ⟨by rfl, ?_⟩) ?_ ?_
          rotate_left
          ·intro w'
           go_simp
           with_reducible rfl
          rotate_left
          ·simp only [zpa,zpb,zpc,zpd,zpe,zr,zs]
           rfl
          refine zz (i := 15) (N := some 27) (v := ?_) (a' := ?_) #[T_,T_,T_,T_,T_,T_,T_,T_,T_,T_,T_,T_,T_,T_,T_,T_,F_,F_,F_,F_,F_,F_,F_,F_,F_] rfl rfl (zv HT_.out (by kernel_rfl)) (fun _ _ _ h => h) (Or.inl ⟨by rfl, ?_⟩) ?_ ?_
          rotate_left
          ·intro w'
           go_simp
           with_reducible rfl
          rotate_left
          ·simp only [zpa,zpb,zpc,zpd,zpe,zr,zs]
           rfl
          refine zz (i := 17) (N := some 29) (v := ?_) (a' := ?_) #[T_,T_,T_,T_,T_,T_,T_,T_,T_,T_,T_,T_,T_,T_,T_,T_,F_,T_,F_,F_,F_,F_,F_,F_,F_] rfl rfl (zv HT_.out (by kernel_rfl)) (fun _ _ _ h => h) (Or.inl ⟨by rfl, ?_⟩) ?_ ?_
          rotate_left
          ·intro w'
           go_simp
           with_reducible rfl
          rotate_left
          ·simp only [zpa,zpb,zpc,zpd,zpe,zr,zs]
           rfl
          refine zz (i := 18) (N := some 30) (v := ?_) (a' := ?_) #[T_,T_,T_,T_,T_,T_,T_,T_,T_,T_,T_,T_,T_,T_,T_,T_,F_,T_,T_,F_,F_,F_,F_,F_,F_] rfl rfl (zv HT_.out (by kernel_rfl)) (fun _ _ _ h => h) (Or.inl ⟨by rfl, ?_⟩) ?_ ?_
          rotate_left
          ·intro w'
           go_simp
           with_reducible rfl
          rotate_left
          ·simp only [zpa,zpb,zpc,zpd,zpe,zr,zs]
           rfl
          refine zz (i := 19) (N := some 31) (v := ?_) (a' := ?_) #[T_,T_,T_,T_,T_,T_,T_,T_,T_,T_,T_,T_,T_,T_,T_,T_,F_,T_,T_,T_,F_,F_,F_,F_,F_] rfl rfl (zv HT_.out (by kernel_rfl)) (fun _ _ _ h => h) (Or.inl ⟨by rfl, ?_⟩) ?_ ?_
          rotate_left
          ·intro w'
           go_simp
           with_reducible rfl
          rotate_left
          ·simp only [zpa,zpb,zpc,zpd,zpe,zr,zs]
           rfl
          refine zz (i := 20) (N := some 32) (v := ?_) (a' := ?_) #[T_,T_,T_,T_,T_,T_,T_,T_,T_,T_,T_,T_,T_,T_,T_,T_,F_,T_,T_,T_,T_,F_,F_,F_,F_] rfl rfl (zv HT_.out (by kernel_rfl)) (fun _ _ _ h => h) (Or.inl ⟨by rfl, ?_⟩) ?_ ?_
          rotate_left
          ·intro w'
           go_simp
           with_reducible rfl
          rotate_left
          ·simp only [zpa,zpb,zpc,zpd,zpe,zr,zs]
           rfl
          refine zob (i := 16) (N := some 28) (v := ?_) (a' := ?_) #[T_,T_,T_,T_,T_,T_,T_,T_,T_,T_,T_,T_,T_,T_,T_,T_,T_,T_,T_,T_,T_,F_,F_,F_,F_] rfl rfl (zab HT_.out HW_.out (by kernel_rfl)) (fun _ _ _ h => h) (Or.inl ⟨by rfl, ?_⟩) hHeld ?_ ?_
          rotate_left
          ·rintro w' ⟨s0, s1, s2, s3, s4, s5, s6, s7, s8, s9, s10, s11⟩
           go_simp
           with_reducible rfl
          rotate_left
          ·simp only [zpa,zpb,zpc,zpd,zpe,zr,zs]
           rfl
          refine zob (i := 21) (N := some 33) (v := ?_) (a' := ?_) #[T_,T_,T_,T_,T_,T_,T_,T_,T_,T_,T_,T_,T_,T_,T_,T_,T_,T_,T_,T_,T_,T_,F_,F_,F_] rfl rfl (zab HT_.out HW_.out (by kernel_rfl)) (fun _ _ _ h => h) (Or.inl ⟨by rfl, ?_⟩) hHeld ?_ ?_
          rotate_left
          ·rintro w' ⟨s0, s1, s2, s3, s4, s5, s6, s7, s8, s9, s10, s11⟩
           go_simp
           with_reducible rfl
          rotate_left
          ·simp only [zpa,zpb,zpc,zpd,zpe,zr,zs]
           rfl
          refine zz (i := 22) (N := some 34) (v := ?_) (a' := ?_) #[T_,T_,T_,T_,T_,T_,T_,T_,T_,T_,T_,T_,T_,T_,T_,T_,T_,T_,T_,T_,T_,T_,T_,F_,F_] rfl rfl (zv HT_.out (by kernel_rfl)) (fun _ _ _ h => h) (Or.inl ⟨by rfl, ?_⟩) ?_ ?_
          rotate_left
          ·intro w'
           go_simp
           with_reducible rfl
          rotate_left
          ·simp only [zpa,zpb,zpc,zpd,zpe,zr,zs]
           rfl
          refine zz (i := 23) (N := some 35) (v := ?_) (a' := ?_) #[T_,T_,T_,T_,T_,T_,T_,T_,T_,T_,T_,T_,T_,T_,T_,T_,T_,T_,T_,T_,T_,T_,T_,T_,F_] rfl rfl (zv HT_.out (by kernel_rfl)) (fun _ _ _ h => h) (Or.inl ⟨by rfl, ?_⟩) ?_ ?_
          rotate_left
          ·intro w'
           go_simp
           with_reducible rfl
          rotate_left
          ·simp only [zpa,zpb,zpc,zpd,zpe,zr,zs]
           rfl
          refine zz (i := 24) (N := some 36) (v := ?_) (a' := ?_) #[T_,T_,T_,T_,T_,T_,T_,T_,T_,T_,T_,T_,T_,T_,T_,T_,T_,T_,T_,T_,T_,T_,T_,T_,T_] rfl rfl (zv HT_.out (by kernel_rfl)) (fun _ _ _ h => h) (Or.inl ⟨by rfl, ?_⟩) ?_ ?_
          rotate_left
          ·intro w'
           go_simp
           with_reducible rfl
          rotate_left
          ·simp only [zpa,zpb,zpc,zpd,zpe,zr,zs]
           rfl
          refine done_ (zbc HT_.out (by kernel_rfl)) ?_
          try go_wp2
          go_ret
          exact ⟨by first | rfl | (simp [zh, zi] <;> rfl) | (simp only [← hji8]; first | rfl | (simp [zh, zi] <;> rfl)) | (simp [*, zh, zi] <;> rfl), by repeat (first | (with_reducible first | exact HB.out | apply zc | apply zb | apply zd) | exact HB.out)⟩
         ·rw [if_neg c11] at H
          have c11b0 : decide (((zk l0 x5_1).f0) < ((zk l0 (ji8)).f1)) = false := decide_eq_false c11
          clear c11
          have H' := za.mk H
          clear H
          try go_wp2
          have n0_ := za.mk (zd HB.out)
          clear HB
          have HB := n0_
          clear n0_
          have p273 : 0 ≤ (x5_1 : Int) := of_decide_eq_true (by assumption)
          have q273 : x5_1 < (l0.length : Int) := of_decide_eq_true (by assumption)
          obtain ⟨ad273, e273, hx273_0, hx273_1, hx273_2, hx273_3⟩ := zlb HR0.out x5_1 p273 q273
          have hw273_3 := hx273_3
          have hw273_2 := hx273_2
          have hw273_1 := hx273_1
          have hw273_0 := hx273_0
          cases e273
          replace hx273_0 := (HB.out.cell (World.block_lt_of_cell? w _ hx273_0)).trans hx273_0
          replace hx273_1 := (HB.out.cell (World.block_lt_of_cell? w _ hx273_1)).trans hx273_1
          replace hx273_2 := (HB.out.cell (World.block_lt_of_cell? w _ hx273_2)).trans hx273_2
          replace hx273_3 := (HB.out.cell (World.block_lt_of_cell? w _ hx273_3)).trans hx273_3
          replace p273 := eq_true p273
          replace q273 := eq_true q273
          have p275 : 0 ≤ ((ji8) : Int) := of_decide_eq_true (by assumption)
          have q275 : (ji8) < (l0.length : Int) := of_decide_eq_true (by assumption)
          obtain ⟨ad275, e275, hx275_0, hx275_1, hx275_2, hx275_3⟩ := zlb HR0.out (ji8) p275 q275
          have hw275_3 := hx275_3
          have hw275_2 := hx275_2
          have hw275_1 := hx275_1
          have hw275_0 := hx275_0
          obtain rfl : ad273 = ad275 := (by injection e275)
          replace hx275_0 := (HB.out.cell (World.block_lt_of_cell? w _ hx275_0)).trans hx275_0
          replace hx275_1 := (HB.out.cell (World.block_lt_of_cell? w _ hx275_1)).trans hx275_1
          replace hx275_2 := (HB.out.cell (World.block_lt_of_cell? w _ hx275_2)).trans hx275_2
          replace hx275_3 := (HB.out.cell (World.block_lt_of_cell? w _ hx275_3)).trans hx275_3
          replace p275 := eq_true p275
          replace q275 := eq_true q275
          have p276 : 0 ≤ (x5_1 : Int) := of_decide_eq_true (by assumption)
          have q276 : x5_1 < (l0.length : Int) := of_decide_eq_true (by assumption)
          obtain ⟨ad276, e276, hx276_0, hx276_1, hx276_2, hx276_3⟩ := zlb HR0.out x5_1 p276 q276
          have hw276_3 := hx276_3
          have hw276_2 := hx276_2
          have hw276_1 := hx276_1
          have hw276_0 := hx276_0
          obtain rfl : ad273 = ad276 := (by injection e276)
          replace hx276_0 := (HB.out.cell (World.block_lt_of_cell? w _ hx276_0)).trans hx276_0
          replace hx276_1 := (HB.out.cell (World.block_lt_of_cell? w _ hx276_1)).trans hx276_1
          replace hx276_2 := (HB.out.cell (World.block_lt_of_cell? w _ hx276_2)).trans hx276_2
          replace hx276_3 := (HB.out.cell (World.block_lt_of_cell? w _ hx276_3)).trans hx276_3
          replace p276 := eq_true p276
          replace q276 := eq_true q276
          refine start_ (n := 25) (S := fun w' => w'.cell? (ad273.add ((x5_1).toNat * 4)) = some (.int .i64 ((zk l0 x5_1).f0)) ∧ w'.cell? ⟨(ad273.add ((x5_1).toNat * 4)).block, (ad273.add ((x5_1).toNat * 4)).off + 1, none⟩ = some (.int .i64 ((zk l0 x5_1).f1)) ∧ w'.cell? ⟨(ad273.add ((x5_1).toNat * 4)).block, (ad273.add ((x5_1).toNat * 4)).off + 2, none⟩ = some (.int .i64 ((zk l0 x5_1).f2)) ∧ w'.cell? ⟨(ad273.add ((x5_1).toNat * 4)).block, (ad273.add ((x5_1).toNat * 4)).off + 3, none⟩ = some (.int .i64 ((zk l0 x5_1).f3)) ∧ w'.cell? (ad273.add (((ji8)).toNat * 4)) = some (.int .i64 ((zk l0 (ji8)).f0)) ∧ w'.cell? ⟨(ad273.add (((ji8)).toNat * 4)).block, (ad273.add (((ji8)).toNat * 4)).off + 1, none⟩ = some (.int .i64 ((zk l0 (ji8)).f1)) ∧ w'.cell? ⟨(ad273.add (((ji8)).toNat * 4)).block, (ad273.add (((ji8)).toNat * 4)).off + 2, none⟩ = some (.int .i64 ((zk l0 (ji8)).f2)) ∧ w'.cell? ⟨(ad273.add (((ji8)).toNat * 4)).block, (ad273.add (((ji8)).toNat * 4)).off + 3, none⟩ = some (.int .i64 ((zk l0 (ji8)).f3)) ∧ w'.cell? (ad273.add ((x5_1).toNat * 4)) = some (.int .i64 ((zk l0 x5_1).f0)) ∧ w'.cell? ⟨(ad273.add ((x5_1).toNat * 4)).block, (ad273.add ((x5_1).toNat * 4)).off + 1, none⟩ = some (.int .i64 ((zk l0 x5_1).f1)) ∧ w'.cell? ⟨(ad273.add ((x5_1).toNat * 4)).block, (ad273.add ((x5_1).toNat * 4)).off + 2, none⟩ = some (.int .i64 ((zk l0 x5_1).f2)) ∧ w'.cell? ⟨(ad273.add ((x5_1).toNat * 4)).block, (ad273.add ((x5_1).toNat * 4)).off + 3, none⟩ = some (.int .i64 ((zk l0 x5_1).f3))) (ds := []) #[F_,F_,F_,F_,F_,F_,F_,F_,F_,F_,F_,F_,F_,F_,F_,F_,F_,F_,F_,F_,F_,F_,F_,F_,F_] (by kernel_rfl) rfl rfl ⟨((HB.out.cell (World.block_lt_of_cell? w _ hw273_0)).trans hw273_0), ((HB.out.cell (World.block_lt_of_cell? w _ hw273_1)).trans hw273_1), ((HB.out.cell (World.block_lt_of_cell? w _ hw273_2)).trans hw273_2), ((HB.out.cell (World.block_lt_of_cell? w _ hw273_3)).trans hw273_3), ((HB.out.cell (World.block_lt_of_cell? w _ hw275_0)).trans hw275_0), ((HB.out.cell (World.block_lt_of_cell? w _ hw275_1)).trans hw275_1), ((HB.out.cell (World.block_lt_of_cell? w _ hw275_2)).trans hw275_2), ((HB.out.cell (World.block_lt_of_cell? w _ hw275_3)).trans hw275_3), ((HB.out.cell (World.block_lt_of_cell? w _ hw276_0)).trans hw276_0), ((HB.out.cell (World.block_lt_of_cell? w _ hw276_1)).trans hw276_1), ((HB.out.cell (World.block_lt_of_cell? w _ hw276_2)).trans hw276_2), ((HB.out.cell (World.block_lt_of_cell? w _ hw276_3)).trans hw276_3)⟩ (fun hHeld => ?_); refine zwb spec_SpansOk.tab4 spec_SpansOk.bits4 (fun HT_ HW_ => ?_)
          generalize wr.drew = w14 at HB hx273_0 hx273_1 hx273_2 hx273_3 hx275_0 hx275_1 hx275_2 hx275_3 hx276_0 hx276_1 hx276_2 hx276_3 hHeld ⊢
          refine zz (i := 0) (N := some 12) (v := ?_) (a' := ?_) #[T_,F_,F_,F_,F_,F_,F_,F_,F_,F_,F_,F_,F_,F_,F_,F_,F_,F_,F_,F_,F_,F_,F_,F_,F_] rfl rfl (zv HT_.out (by kernel_rfl)) (fun _ _ _ h => h) (Or.inl ⟨by rfl, ?_⟩) ?_ ?_
          rotate_left
          ·intro w'
           go_simp
           with_reducible rfl
          rotate_left
          ·simp only [zpa,zpb,zpc,zpd,zpe,zr,zs]
           rfl
          refine zz (i := 1) (N := some 13) (v := ?_) (a' := ?_) #[T_,T_,F_,F_,F_,F_,F_,F_,F_,F_,F_,F_,F_,F_,F_,F_,F_,F_,F_,F_,F_,F_,F_,F_,F_] rfl rfl (zv HT_.out (by kernel_rfl)) (fun _ _ _ h => h) (Or.inl ⟨by rfl, ?_⟩) ?_ ?_
          rotate_left
          ·intro w'
           go_simp
           with_reducible rfl
          rotate_left
          ·simp only [zpa,zpb,zpc,zpd,zpe,zr,zs]
           rfl
          refine zz (i := 2) (N := some 14) (v := ?_) (a' := ?_) #[T_,T_,T_,F_,F_,F_,F_,F_,F_,F_,F_,F_,F_,F_,F_,F_,F_,F_,F_,F_,F_,F_,F_,F_,F_] rfl rfl (zv HT_.out (by kernel_rfl)) (fun _ _ _ h => h) (Or.inl ⟨by rfl, ?_⟩) ?_ ?_
          rotate_left
          ·intro w'
           go_simp
           with_reducible rfl
          rotate_left
          ·simp only [zpa,zpb,zpc,zpd,zpe,zr,zs]
           rfl
          refine zz (i := 4) (N := some 16) (v := ?_) (a' := ?_) #[T_,T_,T_,F_,T_,F_,F_,F_,F_,F_,F_,F_,F_,F_,F_,F_,F_,F_,F_,F_,F_,F_,F_,F_,F_] rfl rfl (zv HT_.out (by kernel_rfl)) (fun _ _ _ h => h) (Or.inl ⟨by rfl, ?_⟩) ?_ ?_
          rotate_left
          ·intro w'
           go_simp
           with_reducible rfl
          rotate_left
          ·simp only [zpa,zpb,zpc,zpd,zpe,zr,zs]
           rfl
          refine zob (i := 3) (N := some 15) (v := ?_) (a' := ?_) #[T_,T_,T_,T_,T_,F_,F_,F_,F_,F_,F_,F_,F_,F_,F_,F_,F_,F_,F_,F_,F_,F_,F_,F_,F_] rfl rfl (zab HT_.out HW_.out (by kernel_rfl)) (fun _ _ _ h => h) (Or.inl ⟨by rfl, ?_⟩) hHeld ?_ ?_
          rotate_left
          ·rintro w' ⟨s0, s1, s2, s3, s4, s5, s6, s7, s8, s9, s10, s11⟩
           go_simp
           with_reducible rfl
          rotate_left
          ·simp only [zpa,zpb,zpc,zpd,zpe,zr,zs]
           rfl
          refine one_ (i := 5) (N := some 17) #[T_,T_,T_,T_,T_,T_,F_,F_,F_,F_,F_,F_,F_,F_,F_,F_,F_,F_,F_,F_,F_,F_,F_,F_,F_] rfl rfl (zzb HT_.out (by kernel_rfl)) (by decide) (fun K hK => ?_)
          refine goes_ Try.func95 (by kernel_rfl) rfl #[.agg #[.int .i64 ((zk l0 x5_1).f0), .int .i64 ((zk l0 x5_1).f1), .int .i64 ((zk l0 x5_1).f2), .int .i64 ((zk l0 x5_1).f3)], .int .i64 a1] (by rfl) rfl rfl (by (try simp only [zma,zmb,zmc]); first | done | rfl) ?_
          with_reducible refine (spec_l6Ok.calls ((zk l0 x5_1).f0) ((zk l0 x5_1).f1) ((zk l0 x5_1).f2) ((zk l0 x5_1).f3) a1 true _ A5.out).mono ?_
          rintro e w15 ⟨rfl, hb⟩
          refine ⟨_, rfl, ?_⟩
          have n0_ := za.mk (zg (by repeat (first | (with_reducible first | exact HB.out | apply zc | apply zb | apply zd) | exact HB.out)) hb)
          clear HB
          have HB := n0_
          clear n0_
          (try clear hb)
          (try clear hb2)
          (try clear hk)
          (try clear hi)
          refine hK.out _ _ ⟨((HB.out.cell (World.block_lt_of_cell? w _ hw273_0)).trans hw273_0), ((HB.out.cell (World.block_lt_of_cell? w _ hw273_1)).trans hw273_1), ((HB.out.cell (World.block_lt_of_cell? w _ hw273_2)).trans hw273_2), ((HB.out.cell (World.block_lt_of_cell? w _ hw273_3)).trans hw273_3), ((HB.out.cell (World.block_lt_of_cell? w _ hw275_0)).trans hw275_0), ((HB.out.cell (World.block_lt_of_cell? w _ hw275_1)).trans hw275_1), ((HB.out.cell (World.block_lt_of_cell? w _ hw275_2)).trans hw275_2), ((HB.out.cell (World.block_lt_of_cell? w _ hw275_3)).trans hw275_3), ((HB.out.cell (World.block_lt_of_cell? w _ hw276_0)).trans hw276_0), ((HB.out.cell (World.block_lt_of_cell? w _ hw276_1)).trans hw276_1), ((HB.out.cell (World.block_lt_of_cell? w _ hw276_2)).trans hw276_2), ((HB.out.cell (World.block_lt_of_cell? w _ hw276_3)).trans hw276_3)⟩ (fun hHeld => ?_)
          clear hK K
          refine norm_ (a' := ?_) ?_ ?_
          rotate_left
          ·show Act.put _ (some 17) _ = _
           simp only [zpa,zpb,zpc,zpd,zpe,zr,zs]
           rfl
          refine zz (i := 6) (N := some 18) (v := ?_) (a' := ?_) #[T_,T_,T_,T_,T_,T_,T_,F_,F_,F_,F_,F_,F_,F_,F_,F_,F_,F_,F_,F_,F_,F_,F_,F_,F_] rfl rfl (zv HT_.out (by kernel_rfl)) (fun _ _ _ h => h) (Or.inl ⟨by rfl, ?_⟩) ?_ ?_
          rotate_left
          ·intro w'
           go_simp
           with_reducible rfl
          rotate_left
          ·simp only [zpa,zpb,zpc,zpd,zpe,zr,zs]
           rfl
          refine zz (i := 7) (N := some 19) (v := ?_) (a' := ?_) #[T_,T_,T_,T_,T_,T_,T_,T_,F_,F_,F_,F_,F_,F_,F_,F_,F_,F_,F_,F_,F_,F_,F_,F_,F_] rfl rfl (zv HT_.out (by kernel_rfl)) (fun _ _ _ h => h) (Or.inl ⟨by rfl, ?_⟩) ?_ ?_
          rotate_left
          ·intro w'
           go_simp
           with_reducible rfl
          rotate_left
          ·simp only [zpa,zpb,zpc,zpd,zpe,zr,zs]
           rfl
          refine zz (i := 8) (N := some 20) (v := ?_) (a' := ?_) #[T_,T_,T_,T_,T_,T_,T_,T_,T_,F_,F_,F_,F_,F_,F_,F_,F_,F_,F_,F_,F_,F_,F_,F_,F_] rfl rfl (zv HT_.out (by kernel_rfl)) (fun _ _ _ h => h) (Or.inl ⟨by rfl, ?_⟩) ?_ ?_
          rotate_left
          ·intro w'
           go_simp
           with_reducible rfl
          rotate_left
          ·simp only [zpa,zpb,zpc,zpd,zpe,zr,zs]
           rfl
          refine zz (i := 9) (N := some 21) (v := ?_) (a' := ?_) #[T_,T_,T_,T_,T_,T_,T_,T_,T_,T_,F_,F_,F_,F_,F_,F_,F_,F_,F_,F_,F_,F_,F_,F_,F_] rfl rfl (zv HT_.out (by kernel_rfl)) (fun _ _ _ h => h) (Or.inl ⟨by rfl, ?_⟩) ?_ ?_
          rotate_left
          ·intro w'
           go_simp
           with_reducible rfl
          rotate_left
          ·simp only [zpa,zpb,zpc,zpd,zpe,zr,zs]
           rfl
          refine zz (i := 10) (N := some 22) (v := ?_) (a' := ?_) #[T_,T_,T_,T_,T_,T_,T_,T_,T_,T_,T_,F_,F_,F_,F_,F_,F_,F_,F_,F_,F_,F_,F_,F_,F_] rfl rfl (zv HT_.out (by kernel_rfl)) (fun _ _ _ h => h) (Or.inl ⟨by rfl, ?_⟩) ?_ ?_
          rotate_left
          ·intro w'
           go_simp
           with_reducible rfl
          rotate_left
          ·simp only [zpa,zpb,zpc,zpd,zpe,zr,zs]
           rfl
          refine zz (i := 11) (N := some 23) (v := ?_) (a' := ?_) #[T_,T_,T_,T_,T_,T_,T_,T_,T_,T_,T_,T_,F_,F_,F_,F_,F_,F_,F_,F_,F_,F_,F_,F_,F_] rfl rfl (zv HT_.out (by kernel_rfl)) (fun _ _ _ h => h) (Or.inl ⟨by rfl, ?_⟩) ?_ ?_
          rotate_left
          ·intro w'
           go_simp
           with_reducible rfl
          rotate_left
          ·simp only [zpa,zpb,zpc,zpd,zpe,zr,zs]
           rfl
          refine zz (i := 12) (N := some 24) (v := ?_) (a' := ?_) #[T_,T_,T_,T_,T_,T_,T_,T_,T_,T_,T_,T_,T_,F_,F_,F_,F_,F_,F_,F_,F_,F_,F_,F_,F_] rfl rfl (zv HT_.out (by kernel_rfl)) (fun _ _ _ h => h) (Or.inl ⟨by rfl, ?_⟩) ?_ ?_
          rotate_left
          ·intro w'
           go_simp
           with_reducible rfl
          rotate_left
          ·simp only [zpa,zpb,zpc,zpd,zpe,zr,zs]
           rfl
          refine zz (i := 13) (N := some 25) (v := ?_) (a' := ?_) #[T_,T_,T_,T_,T_,T_,T_,T_,T_,T_,T_,T_,T_,T_,F_,F_,F_,F_,F_,F_,F_,F_,F_,F_,F_] rfl rfl (zv HT_.out (by kernel_rfl)) (fun _ _ _ h => h) (Or.inl ⟨by rfl, ?_⟩) ?_ ?_
          rotate_left
          ·intro w'
           go_simp
           with_reducible rfl
          rotate_left
          ·simp only [zpa,zpb,zpc,zpd,zpe,zr,zs]
           rfl
          refine zz (i := 14) (N := some 26) (v := ?_) (a' := ?_) #[T_,T_,T_,T_,T_,T_,T_,T_,T_,T_,T_,T_,T_,T_,T_,F_,F_,F_,F_,F_,F_,F_,F_,F_,F_] rfl rfl (zv HT_.out (by kernel_rfl)) (fun _ _ _ h => h) (Or.inl ⟨by rfl, ?_⟩) ?_ ?_
          rotate_left
          ·intro w'
           go_simp
           with_reducible rfl
          rotate_left
          ·simp only [zpa,zpb,zpc,zpd,zpe,zr,zs]
           rfl
          refine zz (i := 15) (N := some 27) (v := ?_) (a' := ?_) #[T_,T_,T_,T_,T_,T_,T_,T_,T_,T_,T_,T_,T_,T_,T_,T_,F_,F_,F_,F_,F_,F_,F_,F_,F_] rfl rfl (zv HT_.out (by kernel_rfl)) (fun _ _ _ h => h) (Or.inl ⟨by rfl, ?_⟩) ?_ ?_
          rotate_left
          ·intro w'
           go_simp
           with_reducible rfl
          rotate_left
          ·simp only [zpa,zpb,zpc,zpd,zpe,zr,zs]
           rfl
          refine zz (i := 17) (N := some 29) (v := ?_) (a' := ?_) #[T_,T_,T_,T_,T_,T_,T_,T_,T_,T_,T_,T_,T_,T_,T_,T_,F_,T_,F_,F_,F_,F_,F_,F_,F_] rfl rfl (zv HT_.out (by kernel_rfl)) (fun _ _ _ h => h) (Or.inl ⟨by rfl, ?_⟩) ?_ ?_
          rotate_left
          ·intro w'
           go_simp
           with_reducible rfl
          rotate_left
          ·simp only [zpa,zpb,zpc,zpd,zpe,zr,zs]
           rfl
          refine zz (i := 18) (N := some 30) (v := ?_) (a' := ?_) #[T_,T_,T_,T_,T_,T_,T_,T_,T_,T_,T_,T_,T_,T_,T_,T_,F_,T_,T_,F_,F_,F_,F_,F_,F_] rfl rfl (zv HT_.out (by kernel_rfl)) (fun _ _ _ h => h) (Or.inl ⟨by rfl, ?_⟩) ?_ ?_
          rotate_left
          ·intro w'
           go_simp
           with_reducible rfl
          rotate_left
          ·simp only [zpa,zpb,zpc,zpd,zpe,zr,zs]
           rfl
          refine zz (i := 19) (N := some 31) (v := ?_) (a' := ?_) #[T_,T_,T_,T_,T_,T_,T_,T_,T_,T_,T_,T_,T_,T_,T_,T_,F_,T_,T_,T_,F_,F_,F_,F_,F_] rfl rfl (zv HT_.out (by kernel_rfl)) (fun _ _ _ h => h) (Or.inl ⟨by rfl, ?_⟩) ?_ ?_
          rotate_left
          ·intro w'
           go_simp
           with_reducible rfl
          rotate_left
          ·simp only [zpa,zpb,zpc,zpd,zpe,zr,zs]
           rfl
          refine zz (i := 20) (N := some 32) (v := ?_) (a' := ?_) #[T_,T_,T_,T_,T_,T_,T_,T_,T_,T_,T_,T_,T_,T_,T_,T_,F_,T_,T_,T_,T_,F_,F_,F_,F_] rfl rfl (zv HT_.out (by kernel_rfl)) (fun _ _ _ h => h) (Or.inl ⟨by rfl, ?_⟩) ?_ ?_
          rotate_left
          ·intro w'
           go_simp
           with_reducible rfl
          rotate_left
          ·simp only [zpa,zpb,zpc,zpd,zpe,zr,zs]
           rfl
          refine zob (i := 16) (N := some 28) (v := ?_) (a' := ?_) #[T_,T_,T_,T_,T_,T_,T_,T_,T_,T_,T_,T_,T_,T_,T_,T_,T_,T_,T_,T_,T_,F_,F_,F_,F_] rfl rfl (zab HT_.out HW_.out (by kernel_rfl)) (fun _ _ _ h => h) (Or.inl ⟨by rfl, ?_⟩) hHeld ?_ ?_
          rotate_left
          ·rintro w' ⟨s0, s1, s2, s3, s4, s5, s6, s7, s8, s9, s10, s11⟩
           go_simp
           with_reducible rfl
          rotate_left
          ·simp only [zpa,zpb,zpc,zpd,zpe,zr,zs]
           rfl
          refine zob (i := 21) (N := some 33) (v := ?_) (a' := ?_) #[T_,T_,T_,T_,T_,T_,T_,T_,T_,T_,T_,T_,T_,T_,T_,T_,T_,T_,T_,T_,T_,T_,F_,F_,F_] rfl rfl (zab HT_.out HW_.out (by kernel_rfl)) (fun _ _ _ h => h) (Or.inl ⟨by rfl, ?_⟩) hHeld ?_ ?_
          rotate_left
          ·rintro w' ⟨s0, s1, s2, s3, s4, s5, s6, s7, s8, s9, s10, s11⟩
           go_simp
           with_reducible rfl
          rotate_left
          ·simp only [zpa,zpb,zpc,zpd,zpe,zr,zs]
           rfl
          refine zz (i := 22) (N := some 34) (v := ?_) (a' := ?_) #[T_,T_,T_,T_,T_,T_,T_,T_,T_,T_,T_,T_,T_,T_,T_,T_,T_,T_,T_,T_,T_,T_,T_,F_,F_] rfl rfl (zv HT_.out (by kernel_rfl)) (fun _ _ _ h => h) (Or.inl ⟨by rfl, ?_⟩) ?_ ?_
          rotate_left
          ·intro w'
           go_simp
           with_reducible rfl
          rotate_left
          ·simp only [zpa,zpb,zpc,zpd,zpe,zr,zs]
           rfl
          refine zz (i := 23) (N := some 35) (v := ?_) (a' := ?_) #[T_,T_,T_,T_,T_,T_,T_,T_,T_,T_,T_,T_,T_,T_,T_,T_,T_,T_,T_,T_,T_,T_,T_,T_,F_] rfl rfl (zv HT_.out (by kernel_rfl)) (fun _ _ _ h => h) (Or.inl ⟨by rfl, ?_⟩) ?_ ?_
          rotate_left
          ·intro w'
           go_simp
           with_reducible rfl
          rotate_left
          ·simp only [zpa,zpb,zpc,zpd,zpe,zr,zs]
           rfl
          refine zz (i := 24) (N := some 36) (v := ?_) (a' := ?_) #[T_,T_,T_,T_,T_,T_,T_,T_,T_,T_,T_,T_,T_,T_,T_,T_,T_,T_,T_,T_,T_,T_,T_,T_,T_] rfl rfl (zv HT_.out (by kernel_rfl)) (fun _ _ _ h => h) (Or.inl ⟨by rfl, ?_⟩) ?_ ?_
          rotate_left
          ·intro w'
           go_simp
           with_reducible rfl
          rotate_left
          ·simp only [zpa,zpb,zpc,zpd,zpe,zr,zs]
           rfl
          refine done_ (zbc HT_.out (by kernel_rfl)) ?_
          try go_wp2
          go_roundg k1
          case measure => have := HK1.out; omega
          case rel => exact ⟨(wrap64 (x5_1 + 1)), (by first | rfl | (simp; done) | (simp [*]; done)), (by first | exact H' | (simp only [hji8]; exact H') | (simp only [hji8]; exact H')), ⟨by have := HK1.out; omega⟩, ⟨by repeat (first | (with_reducible first | exact HB.out | apply zc | apply zb | apply zd) | exact HB.out)⟩⟩
        ·rw [if_neg c10] at H
         exact absurd H (by simp)
       ·rw [if_neg c9] at H
        exact absurd H (by simp)
      ·rw [if_neg c7] at H
       have c7b0 : decide (0 < x5_1) = false := decide_eq_false c7
       clear c7
       have H' := za.mk H
       clear H
       try go_wp2
       have n0_ := za.mk (zd HB.out)
       clear HB
       have HB := n0_
       clear n0_
       have p273 : 0 ≤ (x5_1 : Int) := of_decide_eq_true (by assumption)
       have q273 : x5_1 < (l0.length : Int) := of_decide_eq_true (by assumption)
       obtain ⟨ad273, e273, hx273_0, hx273_1, hx273_2, hx273_3⟩ := zlb HR0.out x5_1 p273 q273
       have hw273_3 := hx273_3
       have hw273_2 := hx273_2
       have hw273_1 := hx273_1
       have hw273_0 := hx273_0
       cases e273
       replace hx273_0 := (HB.out.cell (World.block_lt_of_cell? w _ hx273_0)).trans hx273_0
       replace hx273_1 := (HB.out.cell (World.block_lt_of_cell? w _ hx273_1)).trans hx273_1
       replace hx273_2 := (HB.out.cell (World.block_lt_of_cell? w _ hx273_2)).trans hx273_2
       replace hx273_3 := (HB.out.cell (World.block_lt_of_cell? w _ hx273_3)).trans hx273_3
       replace p273 := eq_true p273
       replace q273 := eq_true q273
       refine start_ (n := 25) (S := fun w' => w'.cell? (ad273.add ((x5_1).toNat * 4)) = some (.int .i64 ((zk l0 x5_1).f0)) ∧ w'.cell? ⟨(ad273.add ((x5_1).toNat * 4)).block, (ad273.add ((x5_1).toNat * 4)).off + 1, none⟩ = some (.int .i64 ((zk l0 x5_1).f1)) ∧ w'.cell? ⟨(ad273.add ((x5_1).toNat * 4)).block, (ad273.add ((x5_1).toNat * 4)).off + 2, none⟩ = some (.int .i64 ((zk l0 x5_1).f2)) ∧ w'.cell? ⟨(ad273.add ((x5_1).toNat * 4)).block, (ad273.add ((x5_1).toNat * 4)).off + 3, none⟩ = some (.int .i64 ((zk l0 x5_1).f3))) (ds := []) #[F_,F_,F_,F_,F_,F_,F_,F_,F_,F_,F_,F_,F_,F_,F_,F_,F_,F_,F_,F_,F_,F_,F_,F_,F_] (by kernel_rfl) rfl rfl ⟨((HB.out.cell (World.block_lt_of_cell? w _ hw273_0)).trans hw273_0), ((HB.out.cell (World.block_lt_of_cell? w _ hw273_1)).trans hw273_1), ((HB.out.cell (World.block_lt_of_cell? w _ hw273_2)).trans hw273_2), ((HB.out.cell (World.block_lt_of_cell? w _ hw273_3)).trans hw273_3)⟩ (fun hHeld => ?_); refine zwb spec_SpansOk.tab4 spec_SpansOk.bits4 (fun HT_ HW_ => ?_)
       generalize wr.drew = w16 at HB hx273_0 hx273_1 hx273_2 hx273_3 hHeld ⊢
       refine zz (i := 0) (N := some 12) (v := ?_) (a' := ?_) #[T_,F_,F_,F_,F_,F_,F_,F_,F_,F_,F_,F_,F_,F_,F_,F_,F_,F_,F_,F_,F_,F_,F_,F_,F_] rfl rfl (zv HT_.out (by kernel_rfl)) (fun _ _ _ h => h) (Or.inl ⟨by rfl, ?_⟩) ?_ ?_
       rotate_left
       ·intro w'
        go_simp
        with_reducible rfl
       rotate_left
       ·simp only [zpa,zpb,zpc,zpd,zpe,zr,zs]
        rfl
       refine zz (i := 1) (N := some 13) (v := ?_) (a' := ?_) #[T_,T_,F_,F_,F_,F_,F_,F_,F_,F_,F_,F_,F_,F_,F_,F_,F_,F_,F_,F_,F_,F_,F_,F_,F_] rfl rfl (zv HT_.out (by kernel_rfl)) (fun _ _ _ h => h) (Or.inl ⟨by rfl, ?_⟩) ?_ ?_
       rotate_left
       ·intro w'
        go_simp
        with_reducible rfl
       rotate_left
       ·simp only [zpa,zpb,zpc,zpd,zpe,zr,zs]
        rfl
       refine zz (i := 2) (N := some 14) (v := ?_) (a' := ?_) #[T_,T_,T_,F_,F_,F_,F_,F_,F_,F_,F_,F_,F_,F_,F_,F_,F_,F_,F_,F_,F_,F_,F_,F_,F_] rfl rfl (zv HT_.out (by kernel_rfl)) (fun _ _ _ h => h) (Or.inl ⟨by rfl, ?_⟩) ?_ ?_
       rotate_left
       ·intro w'
        go_simp
        with_reducible rfl
       rotate_left
       ·simp only [zpa,zpb,zpc,zpd,zpe,zr,zs]
        rfl
       refine zz (i := 4) (N := some 16) (v := ?_) (a' := ?_) #[T_,T_,T_,F_,T_,F_,F_,F_,F_,F_,F_,F_,F_,F_,F_,F_,F_,F_,F_,F_,F_,F_,F_,F_,F_] rfl rfl (zv HT_.out (by kernel_rfl)) (fun _ _ _ h => h) (Or.inl ⟨by rfl, ?_⟩) ?_ ?_
       rotate_left
       ·intro w'
        go_simp
        with_reducible rfl
       rotate_left
       ·simp only [zpa,zpb,zpc,zpd,zpe,zr,zs]
        rfl
       refine zob (i := 3) (N := some 15) (v := ?_) (a' := ?_) #[T_,T_,T_,T_,T_,F_,F_,F_,F_,F_,F_,F_,F_,F_,F_,F_,F_,F_,F_,F_,F_,F_,F_,F_,F_] rfl rfl (zab HT_.out HW_.out (by kernel_rfl)) (fun _ _ _ h => h) (Or.inl ⟨by rfl, ?_⟩) hHeld ?_ ?_
       rotate_left
       ·rintro w' ⟨s0, s1, s2, s3⟩
        go_simp
        with_reducible rfl
       rotate_left
       ·simp only [zpa,zpb,zpc,zpd,zpe,zr,zs]
        rfl
       refine one_ (i := 5) (N := some 17) #[T_,T_,T_,T_,T_,T_,F_,F_,F_,F_,F_,F_,F_,F_,F_,F_,F_,F_,F_,F_,F_,F_,F_,F_,F_] rfl rfl (zzb HT_.out (by kernel_rfl)) (by decide) (fun K hK => ?_)
       refine goes_ Try.func95 (by kernel_rfl) rfl #[.agg #[.int .i64 ((zk l0 x5_1).f0), .int .i64 ((zk l0 x5_1).f1), .int .i64 ((zk l0 x5_1).f2), .int .i64 ((zk l0 x5_1).f3)], .int .i64 a1] (by rfl) rfl rfl (by (try simp only [zma,zmb,zmc]); first | done | rfl) ?_
       with_reducible refine (spec_l6Ok.calls ((zk l0 x5_1).f0) ((zk l0 x5_1).f1) ((zk l0 x5_1).f2) ((zk l0 x5_1).f3) a1 true _ A5.out).mono ?_
       rintro e w17 ⟨rfl, hb⟩
       refine ⟨_, rfl, ?_⟩
       have n0_ := za.mk (zg (by repeat (first | (with_reducible first | exact HB.out | apply zc | apply zb | apply zd) | exact HB.out)) hb)
       clear HB
       have HB := n0_
       clear n0_
       (try clear hb)
       (try clear hb2)
       (try clear hk)
       (try clear hi)
       refine hK.out _ _ ⟨((HB.out.cell (World.block_lt_of_cell? w _ hw273_0)).trans hw273_0), ((HB.out.cell (World.block_lt_of_cell? w _ hw273_1)).trans hw273_1), ((HB.out.cell (World.block_lt_of_cell? w _ hw273_2)).trans hw273_2), ((HB.out.cell (World.block_lt_of_cell? w _ hw273_3)).trans hw273_3)⟩ (fun hHeld => ?_)
       clear hK K
       refine norm_ (a' := ?_) ?_ ?_
       rotate_left
       ·show Act.put _ (some 17) _ = _
        simp only [zpa,zpb,zpc,zpd,zpe,zr,zs]
        rfl
       refine zz (i := 6) (N := some 18) (v := ?_) (a' := ?_) #[T_,T_,T_,T_,T_,T_,T_,F_,F_,F_,F_,F_,F_,F_,F_,F_,F_,F_,F_,F_,F_,F_,F_,F_,F_] rfl rfl (zv HT_.out (by kernel_rfl)) (fun _ _ _ h => h) (Or.inl ⟨by rfl, ?_⟩) ?_ ?_
       rotate_left
       ·intro w'
        go_simp
        with_reducible rfl
       rotate_left
       ·simp only [zpa,zpb,zpc,zpd,zpe,zr,zs]
        rfl
       refine zz (i := 7) (N := some 19) (v := ?_) (a' := ?_) #[T_,T_,T_,T_,T_,T_,T_,T_,F_,F_,F_,F_,F_,F_,F_,F_,F_,F_,F_,F_,F_,F_,F_,F_,F_] rfl rfl (zv HT_.out (by kernel_rfl)) (fun _ _ _ h => h) (Or.inl ⟨by rfl, ?_⟩) ?_ ?_
       rotate_left
       ·intro w'
        go_simp
        with_reducible rfl
       rotate_left
       ·simp only [zpa,zpb,zpc,zpd,zpe,zr,zs]
        rfl
       refine zz (i := 8) (N := some 20) (v := ?_) (a' := ?_) #[T_,T_,T_,T_,T_,T_,T_,T_,T_,F_,F_,F_,F_,F_,F_,F_,F_,F_,F_,F_,F_,F_,F_,F_,F_] rfl rfl (zv HT_.out (by kernel_rfl)) (fun _ _ _ h => h) (Or.inl ⟨by rfl, ?_⟩) ?_ ?_
       rotate_left
       ·intro w'
        go_simp
        with_reducible rfl
       rotate_left
       ·simp only [zpa,zpb,zpc,zpd,zpe,zr,zs]
        rfl
       refine zz (i := 9) (N := some 21) (v := ?_) (a' := ?_) #[T_,T_,T_,T_,T_,T_,T_,T_,T_,T_,F_,F_,F_,F_,F_,F_,F_,F_,F_,F_,F_,F_,F_,F_,F_] rfl rfl (zv HT_.out (by kernel_rfl)) (fun _ _ _ h => h) (Or.inl ⟨by rfl, ?_⟩) ?_ ?_
       rotate_left
       ·intro w'
        go_simp
        with_reducible rfl
       rotate_left
       ·simp only [zpa,zpb,zpc,zpd,zpe,zr,zs]
        rfl
       refine zz (i := 10) (N := some 22) (v := ?_) (a' := ?_) #[T_,T_,T_,T_,T_,T_,T_,T_,T_,T_,T_,F_,F_,F_,F_,F_,F_,F_,F_,F_,F_,F_,F_,F_,F_] rfl rfl (zv HT_.out (by kernel_rfl)) (fun _ _ _ h => h) (Or.inl ⟨by rfl, ?_⟩) ?_ ?_
       rotate_left
       ·intro w'
        go_simp
        with_reducible rfl
       rotate_left
       ·simp only [zpa,zpb,zpc,zpd,zpe,zr,zs]
        rfl
       refine zz (i := 11) (N := some 23) (v := undef) (a' := ?_) #[T_,T_,T_,T_,T_,T_,T_,T_,T_,T_,T_,T_,F_,F_,F_,F_,F_,F_,F_,F_,F_,F_,F_,F_,F_] rfl rfl (zv HT_.out (by kernel_rfl)) (fun _ _ _ h => h) (Or.inr ⟨by rfl, rfl⟩) ?_ ?_
       rotate_left
       ·simp only [zpa,zpb,zpc,zpd,zpe,zr,zs]
        rfl
       refine zz (i := 12) (N := some 24) (v := undef) (a' := ?_) #[T_,T_,T_,T_,T_,T_,T_,T_,T_,T_,T_,T_,T_,F_,F_,F_,F_,F_,F_,F_,F_,F_,F_,F_,F_] rfl rfl (zv HT_.out (by kernel_rfl)) (fun _ _ _ h => h) (Or.inr ⟨by rfl, rfl⟩) ?_ ?_
       rotate_left
       ·simp only [zpa,zpb,zpc,zpd,zpe,zr,zs]
        rfl
       refine zz (i := 13) (N := some 25) (v := undef) (a' := ?_) #[T_,T_,T_,T_,T_,T_,T_,T_,T_,T_,T_,T_,T_,T_,F_,F_,F_,F_,F_,F_,F_,F_,F_,F_,F_] rfl rfl (zv HT_.out (by kernel_rfl)) (fun _ _ _ h => h) (Or.inr ⟨by rfl, rfl⟩) ?_ ?_
       rotate_left
       ·simp only [zpa,zpb,zpc,zpd,zpe,zr,zs]
        rfl
       refine zz (i := 14) (N := some 26) (v := undef) (a' := ?_) #[T_,T_,T_,T_,T_,T_,T_,T_,T_,T_,T_,T_,T_,T_,T_,F_,F_,F_,F_,F_,F_,F_,F_,F_,F_] rfl rfl (zv HT_.out (by kernel_rfl)) (fun _ _ _ h => h) (Or.inr ⟨by rfl, rfl⟩) ?_ ?_
       rotate_left
       ·simp only [zpa,zpb,zpc,zpd,zpe,zr,zs]
        rfl
       refine zz (i := 15) (N := some 27) (v := undef) (a' := ?_) #[T_,T_,T_,T_,T_,T_,T_,T_,T_,T_,T_,T_,T_,T_,T_,T_,F_,F_,F_,F_,F_,F_,F_,F_,F_] rfl rfl (zv HT_.out (by kernel_rfl)) (fun _ _ _ h => h) (Or.inr ⟨by rfl, rfl⟩) ?_ ?_
       rotate_left
       ·simp only [zpa,zpb,zpc,zpd,zpe,zr,zs]
        rfl
       refine zz (i := 16) (N := some 28) (v := undef) (a' := ?_) #[T_,T_,T_,T_,T_,T_,T_,T_,T_,T_,T_,T_,T_,T_,T_,T_,T_,F_,F_,F_,F_,F_,F_,F_,F_] rfl rfl (zv HT_.out (by kernel_rfl)) (fun _ _ _ h => h) (Or.inr ⟨by rfl, rfl⟩) ?_ ?_
       rotate_left
       ·simp only [zpa,zpb,zpc,zpd,zpe,zr,zs]
        rfl
       refine zz (i := 17) (N := some 29) (v := undef) (a' := ?_) #[T_,T_,T_,T_,T_,T_,T_,T_,T_,T_,T_,T_,T_,T_,T_,T_,T_,T_,F_,F_,F_,F_,F_,F_,F_] rfl rfl (zv HT_.out (by kernel_rfl)) (fun _ _ _ h => h) (Or.inr ⟨by rfl, rfl⟩) ?_ ?_
       rotate_left
       ·simp only [zpa,zpb,zpc,zpd,zpe,zr,zs]
        rfl
       refine zz (i := 18) (N := some 30) (v := undef) (a' := ?_) #[T_,T_,T_,T_,T_,T_,T_,T_,T_,T_,T_,T_,T_,T_,T_,T_,T_,T_,T_,F_,F_,F_,F_,F_,F_] rfl rfl (zv HT_.out (by kernel_rfl)) (fun _ _ _ h => h) (Or.inr ⟨by rfl, rfl⟩) ?_ ?_
       rotate_left
       ·simp only [zpa,zpb,zpc,zpd,zpe,zr,zs]
        rfl
       refine zz (i := 19) (N := some 31) (v := undef) (a' := ?_) #[T_,T_,T_,T_,T_,T_,T_,T_,T_,T_,T_,T_,T_,T_,T_,T_,T_,T_,T_,T_,F_,F_,F_,F_,F_] rfl rfl (zv HT_.out (by kernel_rfl)) (fun _ _ _ h => h) (Or.inr ⟨by rfl, rfl⟩) ?_ ?_
       rotate_left
       ·simp only [zpa,zpb,zpc,zpd,zpe,zr,zs]
        rfl
       refine zz (i := 20) (N := some 32) (v := undef) (a' := ?_) #[T_,T_,T_,T_,T_,T_,T_,T_,T_,T_,T_,T_,T_,T_,T_,T_,T_,T_,T_,T_,T_,F_,F_,F_,F_] rfl rfl (zv HT_.out (by kernel_rfl)) (fun _ _ _ h => h) (Or.inr ⟨by rfl, rfl⟩) ?_ ?_
       rotate_left
       ·simp only [zpa,zpb,zpc,zpd,zpe,zr,zs]
        rfl
       refine zz (i := 21) (N := some 33) (v := undef) (a' := ?_) #[T_,T_,T_,T_,T_,T_,T_,T_,T_,T_,T_,T_,T_,T_,T_,T_,T_,T_,T_,T_,T_,T_,F_,F_,F_] rfl rfl (zv HT_.out (by kernel_rfl)) (fun _ _ _ h => h) (Or.inr ⟨by rfl, rfl⟩) ?_ ?_
       rotate_left
       ·simp only [zpa,zpb,zpc,zpd,zpe,zr,zs]
        rfl
       refine zz (i := 22) (N := some 34) (v := undef) (a' := ?_) #[T_,T_,T_,T_,T_,T_,T_,T_,T_,T_,T_,T_,T_,T_,T_,T_,T_,T_,T_,T_,T_,T_,T_,F_,F_] rfl rfl (zv HT_.out (by kernel_rfl)) (fun _ _ _ h => h) (Or.inr ⟨by rfl, rfl⟩) ?_ ?_
       rotate_left
       ·simp only [zpa,zpb,zpc,zpd,zpe,zr,zs]
        rfl
       refine zz (i := 23) (N := some 35) (v := ?_) (a' := ?_) #[T_,T_,T_,T_,T_,T_,T_,T_,T_,T_,T_,T_,T_,T_,T_,T_,T_,T_,T_,T_,T_,T_,T_,T_,F_] rfl rfl (zv HT_.out (by kernel_rfl)) (fun _ _ _ h => h) (Or.inl ⟨by rfl, ?_⟩) ?_ ?_
       rotate_left
       ·intro w'
        go_simp
        with_reducible rfl
       rotate_left
       ·simp only [zpa,zpb,zpc,zpd,zpe,zr,zs]
        rfl
       refine zz (i := 24) (N := some 36) (v := ?_) (a' := ?_) #[T_,T_,T_,T_,T_,T_,T_,T_,T_,T_,T_,T_,T_,T_,T_,T_,T_,T_,T_,T_,T_,T_,T_,T_,T_] rfl rfl (zv HT_.out (by kernel_rfl)) (fun _ _ _ h => h) (Or.inl ⟨by rfl, ?_⟩) ?_ ?_
       rotate_left
       ·intro w'
        go_simp
        with_reducible rfl
       rotate_left
       ·simp only [zpa,zpb,zpc,zpd,zpe,zr,zs]
        rfl
       refine done_ (zbc HT_.out (by kernel_rfl)) ?_
       try go_wp2
       go_roundg k1
       case measure => have := HK1.out; omega
       case rel => exact ⟨(wrap64 (x5_1 + 1)), (by first | rfl | (simp; done) | (simp [*]; done)), (by first | exact H' | (simp only [hji8]; exact H') | (simp only [hji8]; exact H')), ⟨by have := HK1.out; omega⟩, ⟨by repeat (first | (with_reducible first | exact HB.out | apply zc | apply zb | apply zd) | exact HB.out)⟩⟩
     ·replace c6 := Bool.eq_false_iff.mpr c6
      subst c6
      have H1 : (some false) = some r := by rw [if_neg (show ¬ (false = true) by decide)] at H; exact H
      clear H
      have H := H1
      clear H1
      obtain rfl := Option.some.inj H
      try go_wp2
      have n0_ := za.mk (zd HB.out)
      clear HB
      have HB := n0_
      clear n0_
      have p273 : 0 ≤ (x5_1 : Int) := of_decide_eq_true (by assumption)
      have q273 : x5_1 < (l0.length : Int) := of_decide_eq_true (by assumption)
      obtain ⟨ad273, e273, hx273_0, hx273_1, hx273_2, hx273_3⟩ := zlb HR0.out x5_1 p273 q273
      have hw273_3 := hx273_3
      have hw273_2 := hx273_2
      have hw273_1 := hx273_1
      have hw273_0 := hx273_0
      cases e273
      replace hx273_0 := (HB.out.cell (World.block_lt_of_cell? w _ hx273_0)).trans hx273_0
      replace hx273_1 := (HB.out.cell (World.block_lt_of_cell? w _ hx273_1)).trans hx273_1
      replace hx273_2 := (HB.out.cell (World.block_lt_of_cell? w _ hx273_2)).trans hx273_2
      replace hx273_3 := (HB.out.cell (World.block_lt_of_cell? w _ hx273_3)).trans hx273_3
      replace p273 := eq_true p273
      replace q273 := eq_true q273
      refine start_ (n := 25) (S := fun w' => w'.cell? (ad273.add ((x5_1).toNat * 4)) = some (.int .i64 ((zk l0 x5_1).f0)) ∧ w'.cell? ⟨(ad273.add ((x5_1).toNat * 4)).block, (ad273.add ((x5_1).toNat * 4)).off + 1, none⟩ = some (.int .i64 ((zk l0 x5_1).f1)) ∧ w'.cell? ⟨(ad273.add ((x5_1).toNat * 4)).block, (ad273.add ((x5_1).toNat * 4)).off + 2, none⟩ = some (.int .i64 ((zk l0 x5_1).f2)) ∧ w'.cell? ⟨(ad273.add ((x5_1).toNat * 4)).block, (ad273.add ((x5_1).toNat * 4)).off + 3, none⟩ = some (.int .i64 ((zk l0 x5_1).f3))) (ds := []) #[F_,F_,F_,F_,F_,F_,F_,F_,F_,F_,F_,F_,F_,F_,F_,F_,F_,F_,F_,F_,F_,F_,F_,F_,F_] (by kernel_rfl) rfl rfl ⟨((HB.out.cell (World.block_lt_of_cell? w _ hw273_0)).trans hw273_0), ((HB.out.cell (World.block_lt_of_cell? w _ hw273_1)).trans hw273_1), ((HB.out.cell (World.block_lt_of_cell? w _ hw273_2)).trans hw273_2), ((HB.out.cell (World.block_lt_of_cell? w _ hw273_3)).trans hw273_3)⟩ (fun hHeld => ?_); refine zwb spec_SpansOk.tab4 spec_SpansOk.bits4 (fun HT_ HW_ => ?_)
      generalize wr.drew = w18 at HB hx273_0 hx273_1 hx273_2 hx273_3 hHeld ⊢
      refine zz (i := 0) (N := some 12) (v := ?_) (a' := ?_) #[T_,F_,F_,F_,F_,F_,F_,F_,F_,F_,F_,F_,F_,F_,F_,F_,F_,F_,F_,F_,F_,F_,F_,F_,F_] rfl rfl (zv HT_.out (by kernel_rfl)) (fun _ _ _ h => h) (Or.inl ⟨by rfl, ?_⟩) ?_ ?_
      rotate_left
      ·intro w'
       go_simp
       with_reducible rfl
      rotate_left
      ·simp only [zpa,zpb,zpc,zpd,zpe,zr,zs]
       rfl
      refine zz (i := 1) (N := some 13) (v := ?_) (a' := ?_) #[T_,T_,F_,F_,F_,F_,F_,F_,F_,F_,F_,F_,F_,F_,F_,F_,F_,F_,F_,F_,F_,F_,F_,F_,F_] rfl rfl (zv HT_.out (by kernel_rfl)) (fun _ _ _ h => h) (Or.inl ⟨by rfl, ?_⟩) ?_ ?_
      rotate_left
      ·intro w'
       go_simp
       with_reducible rfl
      rotate_left
      ·simp only [zpa,zpb,zpc,zpd,zpe,zr,zs]
       rfl
      refine zz (i := 2) (N := some 14) (v := ?_) (a' := ?_) #[T_,T_,T_,F_,F_,F_,F_,F_,F_,F_,F_,F_,F_,F_,F_,F_,F_,F_,F_,F_,F_,F_,F_,F_,F_] rfl rfl (zv HT_.out (by kernel_rfl)) (fun _ _ _ h => h) (Or.inl ⟨by rfl, ?_⟩) ?_ ?_
      rotate_left
      ·intro w'
       go_simp
       with_reducible rfl
      rotate_left
      ·simp only [zpa,zpb,zpc,zpd,zpe,zr,zs]
       rfl
      refine zz (i := 4) (N := some 16) (v := ?_) (a' := ?_) #[T_,T_,T_,F_,T_,F_,F_,F_,F_,F_,F_,F_,F_,F_,F_,F_,F_,F_,F_,F_,F_,F_,F_,F_,F_] rfl rfl (zv HT_.out (by kernel_rfl)) (fun _ _ _ h => h) (Or.inl ⟨by rfl, ?_⟩) ?_ ?_
      rotate_left
      ·intro w'
       go_simp
       with_reducible rfl
      rotate_left
      ·simp only [zpa,zpb,zpc,zpd,zpe,zr,zs]
       rfl
      refine zob (i := 3) (N := some 15) (v := ?_) (a' := ?_) #[T_,T_,T_,T_,T_,F_,F_,F_,F_,F_,F_,F_,F_,F_,F_,F_,F_,F_,F_,F_,F_,F_,F_,F_,F_] rfl rfl (zab HT_.out HW_.out (by kernel_rfl)) (fun _ _ _ h => h) (Or.inl ⟨by rfl, ?_⟩) hHeld ?_ ?_
      rotate_left
      ·rintro w' ⟨s0, s1, s2, s3⟩
       go_simp
       with_reducible rfl
      rotate_left
      ·simp only [zpa,zpb,zpc,zpd,zpe,zr,zs]
       rfl
      refine one_ (i := 5) (N := some 17) #[T_,T_,T_,T_,T_,T_,F_,F_,F_,F_,F_,F_,F_,F_,F_,F_,F_,F_,F_,F_,F_,F_,F_,F_,F_] rfl rfl (zzb HT_.out (by kernel_rfl)) (by decide) (fun K hK => ?_)
      refine goes_ Try.func95 (by kernel_rfl) rfl #[.agg #[.int .i64 ((zk l0 x5_1).f0), .int .i64 ((zk l0 x5_1).f1), .int .i64 ((zk l0 x5_1).f2), .int .i64 ((zk l0 x5_1).f3)], .int .i64 a1] (by rfl) rfl rfl (by (try simp only [zma,zmb,zmc]); first | done | rfl) ?_
      with_reducible refine (spec_l6Ok.calls ((zk l0 x5_1).f0) ((zk l0 x5_1).f1) ((zk l0 x5_1).f2) ((zk l0 x5_1).f3) a1 false _ A5.out).mono ?_
      rintro e w19 ⟨rfl, hb⟩
      refine ⟨_, rfl, ?_⟩
      have n0_ := za.mk (zg (by repeat (first | (with_reducible first | exact HB.out | apply zc | apply zb | apply zd) | exact HB.out)) hb)
      clear HB
      have HB := n0_
      clear n0_
      (try clear hb)
      (try clear hb2)
      (try clear hk)
      (try clear hi)
      refine hK.out _ _ ⟨((HB.out.cell (World.block_lt_of_cell? w _ hw273_0)).trans hw273_0), ((HB.out.cell (World.block_lt_of_cell? w _ hw273_1)).trans hw273_1), ((HB.out.cell (World.block_lt_of_cell? w _ hw273_2)).trans hw273_2), ((HB.out.cell (World.block_lt_of_cell? w _ hw273_3)).trans hw273_3)⟩ (fun hHeld => ?_)
      clear hK K
      refine norm_ (a' := ?_) ?_ ?_
      rotate_left
      ·show Act.put _ (some 17) _ = _
       simp only [zpa,zpb,zpc,zpd,zpe,zr,zs]
       rfl
      refine zz (i := 6) (N := some 18) (v := ?_) (a' := ?_) #[T_,T_,T_,T_,T_,T_,T_,F_,F_,F_,F_,F_,F_,F_,F_,F_,F_,F_,F_,F_,F_,F_,F_,F_,F_] rfl rfl (zv HT_.out (by kernel_rfl)) (fun _ _ _ h => h) (Or.inl ⟨by rfl, ?_⟩) ?_ ?_
      rotate_left
      ·intro w'
       go_simp
       with_reducible rfl
      rotate_left
      ·simp only [zpa,zpb,zpc,zpd,zpe,zr,zs]
       rfl
      refine zz (i := 7) (N := some 19) (v := ?_) (a' := ?_) #[T_,T_,T_,T_,T_,T_,T_,T_,F_,F_,F_,F_,F_,F_,F_,F_,F_,F_,F_,F_,F_,F_,F_,F_,F_] rfl rfl (zv HT_.out (by kernel_rfl)) (fun _ _ _ h => h) (Or.inl ⟨by rfl, ?_⟩) ?_ ?_
      rotate_left
      ·intro w'
       go_simp
       with_reducible rfl
      rotate_left
      ·simp only [zpa,zpb,zpc,zpd,zpe,zr,zs]
       rfl
      refine zz (i := 8) (N := some 20) (v := undef) (a' := ?_) #[T_,T_,T_,T_,T_,T_,T_,T_,T_,F_,F_,F_,F_,F_,F_,F_,F_,F_,F_,F_,F_,F_,F_,F_,F_] rfl rfl (zv HT_.out (by kernel_rfl)) (fun _ _ _ h => h) (Or.inr ⟨by rfl, rfl⟩) ?_ ?_
      rotate_left
      ·simp only [zpa,zpb,zpc,zpd,zpe,zr,zs]
       rfl
      refine zz (i := 9) (N := some 21) (v := undef) (a' := ?_) #[T_,T_,T_,T_,T_,T_,T_,T_,T_,T_,F_,F_,F_,F_,F_,F_,F_,F_,F_,F_,F_,F_,F_,F_,F_] rfl rfl (zv HT_.out (by kernel_rfl)) (fun _ _ _ h => h) (Or.inr ⟨by rfl, rfl⟩) ?_ ?_
      rotate_left
      ·simp only [zpa,zpb,zpc,zpd,zpe,zr,zs]
       rfl
      refine zz (i := 10) (N := some 22) (v := undef) (a' := ?_) #[T_,T_,T_,T_,T_,T_,T_,T_,T_,T_,T_,F_,F_,F_,F_,F_,F_,F_,F_,F_,F_,F_,F_,F_,F_] rfl rfl (zv HT_.out (by kernel_rfl)) (fun _ _ _ h => h) (Or.inr ⟨by rfl, rfl⟩) ?_ ?_
      rotate_left
      ·simp only [zpa,zpb,zpc,zpd,zpe,zr,zs]
       rfl
      refine zz (i := 11) (N := some 23) (v := undef) (a' := ?_) #[T_,T_,T_,T_,T_,T_,T_,T_,T_,T_,T_,T_,F_,F_,F_,F_,F_,F_,F_,F_,F_,F_,F_,F_,F_] rfl rfl (zv HT_.out (by kernel_rfl)) (fun _ _ _ h => h) (Or.inr ⟨by rfl, rfl⟩) ?_ ?_
      rotate_left
      ·simp only [zpa,zpb,zpc,zpd,zpe,zr,zs]
       rfl
      refine zz (i := 12) (N := some 24) (v := undef) (a' := ?_) #[T_,T_,T_,T_,T_,T_,T_,T_,T_,T_,T_,T_,T_,F_,F_,F_,F_,F_,F_,F_,F_,F_,F_,F_,F_] rfl rfl (zv HT_.out (by kernel_rfl)) (fun _ _ _ h => h) (Or.inr ⟨by rfl, rfl⟩) ?_ ?_
      rotate_left
      ·simp only [zpa,zpb,zpc,zpd,zpe,zr,zs]
       rfl
      refine zz (i := 13) (N := some 25) (v := undef) (a' := ?_) #[T_,T_,T_,T_,T_,T_,T_,T_,T_,T_,T_,T_,T_,T_,F_,F_,F_,F_,F_,F_,F_,F_,F_,F_,F_] rfl rfl (zv HT_.out (by kernel_rfl)) (fun _ _ _ h => h) (Or.inr ⟨by rfl, rfl⟩) ?_ ?_
      rotate_left
      ·simp only [zpa,zpb,zpc,zpd,zpe,zr,zs]
       rfl
      refine zz (i := 14) (N := some 26) (v := undef) (a' := ?_) #[T_,T_,T_,T_,T_,T_,T_,T_,T_,T_,T_,T_,T_,T_,T_,F_,F_,F_,F_,F_,F_,F_,F_,F_,F_] rfl rfl (zv HT_.out (by kernel_rfl)) (fun _ _ _ h => h) (Or.inr ⟨by rfl, rfl⟩) ?_ ?_
      rotate_left
      ·simp only [zpa,zpb,zpc,zpd,zpe,zr,zs]
       rfl
      refine zz (i := 15) (N := some 27) (v := undef) (a' := ?_) #[T_,T_,T_,T_,T_,T_,T_,T_,T_,T_,T_,T_,T_,T_,T_,T_,F_,F_,F_,F_,F_,F_,F_,F_,F_] rfl rfl (zv HT_.out (by kernel_rfl)) (fun _ _ _ h => h) (Or.inr ⟨by rfl, rfl⟩) ?_ ?_
      rotate_left
      ·simp only [zpa,zpb,zpc,zpd,zpe,zr,zs]
       rfl
      refine zz (i := 16) (N := some 28) (v := undef) (a' := ?_) #[T_,T_,T_,T_,T_,T_,T_,T_,T_,T_,T_,T_,T_,T_,T_,T_,T_,F_,F_,F_,F_,F_,F_,F_,F_] rfl rfl (zv HT_.out (by kernel_rfl)) (fun _ _ _ h => h) (Or.inr ⟨by rfl, rfl⟩) ?_ ?_
      rotate_left
      ·simp only [zpa,zpb,zpc,zpd,zpe,zr,zs]
       rfl
      refine zz (i := 17) (N := some 29) (v := undef) (a' := ?_) #[T_,T_,T_,T_,T_,T_,T_,T_,T_,T_,T_,T_,T_,T_,T_,T_,T_,T_,F_,F_,F_,F_,F_,F_,F_] rfl rfl (zv HT_.out (by kernel_rfl)) (fun _ _ _ h => h) (Or.inr ⟨by rfl, rfl⟩) ?_ ?_
      rotate_left
      ·simp only [zpa,zpb,zpc,zpd,zpe,zr,zs]
       rfl
      refine zz (i := 18) (N := some 30) (v := undef) (a' := ?_) #[T_,T_,T_,T_,T_,T_,T_,T_,T_,T_,T_,T_,T_,T_,T_,T_,T_,T_,T_,F_,F_,F_,F_,F_,F_] rfl rfl (zv HT_.out (by kernel_rfl)) (fun _ _ _ h => h) (Or.inr ⟨by rfl, rfl⟩) ?_ ?_
      rotate_left
      ·simp only [zpa,zpb,zpc,zpd,zpe,zr,zs]
       rfl
      refine zz (i := 19) (N := some 31) (v := undef) (a' := ?_) #[T_,T_,T_,T_,T_,T_,T_,T_,T_,T_,T_,T_,T_,T_,T_,T_,T_,T_,T_,T_,F_,F_,F_,F_,F_] rfl rfl (zv HT_.out (by kernel_rfl)) (fun _ _ _ h => h) (Or.inr ⟨by rfl, rfl⟩) ?_ ?_
      rotate_left
      ·simp only [zpa,zpb,zpc,zpd,zpe,zr,zs]
       rfl
      refine zz (i := 20) (N := some 32) (v := undef) (a' := ?_) #[T_,T_,T_,T_,T_,T_,T_,T_,T_,T_,T_,T_,T_,T_,T_,T_,T_,T_,T_,T_,T_,F_,F_,F_,F_] rfl rfl (zv HT_.out (by kernel_rfl)) (fun _ _ _ h => h) (Or.inr ⟨by rfl, rfl⟩) ?_ ?_
      rotate_left
      ·simp only [zpa,zpb,zpc,zpd,zpe,zr,zs]
       rfl
      refine zz (i := 21) (N := some 33) (v := undef) (a' := ?_) #[T_,T_,T_,T_,T_,T_,T_,T_,T_,T_,T_,T_,T_,T_,T_,T_,T_,T_,T_,T_,T_,T_,F_,F_,F_] rfl rfl (zv HT_.out (by kernel_rfl)) (fun _ _ _ h => h) (Or.inr ⟨by rfl, rfl⟩) ?_ ?_
      rotate_left
      ·simp only [zpa,zpb,zpc,zpd,zpe,zr,zs]
       rfl
      refine zz (i := 22) (N := some 34) (v := undef) (a' := ?_) #[T_,T_,T_,T_,T_,T_,T_,T_,T_,T_,T_,T_,T_,T_,T_,T_,T_,T_,T_,T_,T_,T_,T_,F_,F_] rfl rfl (zv HT_.out (by kernel_rfl)) (fun _ _ _ h => h) (Or.inr ⟨by rfl, rfl⟩) ?_ ?_
      rotate_left
      ·simp only [zpa,zpb,zpc,zpd,zpe,zr,zs]
       rfl
      refine zz (i := 23) (N := some 35) (v := undef) (a' := ?_) #[T_,T_,T_,T_,T_,T_,T_,T_,T_,T_,T_,T_,T_,T_,T_,T_,T_,T_,T_,T_,T_,T_,T_,T_,F_] rfl rfl (zv HT_.out (by kernel_rfl)) (fun _ _ _ h => h) (Or.inr ⟨by rfl, rfl⟩) ?_ ?_
      rotate_left
      ·simp only [zpa,zpb,zpc,zpd,zpe,zr,zs]
       rfl
      refine zz (i := 24) (N := some 36) (v := ?_) (a' := ?_) #[T_,T_,T_,T_,T_,T_,T_,T_,T_,T_,T_,T_,T_,T_,T_,T_,T_,T_,T_,T_,T_,T_,T_,T_,T_] rfl rfl (zv HT_.out (by kernel_rfl)) (fun _ _ _ h => h) (Or.inl ⟨by rfl, ?_⟩) ?_ ?_
      rotate_left
      ·intro w'
       go_simp
       with_reducible rfl
      rotate_left
      ·simp only [zpa,zpb,zpc,zpd,zpe,zr,zs]
       rfl
      refine done_ (zbc HT_.out (by kernel_rfl)) ?_
      try go_wp2
      go_ret
      exact ⟨by first | rfl | (simp [zh, zi] <;> rfl) | (simp [*, zh, zi] <;> rfl), by repeat (first | (with_reducible first | exact HB.out | apply zc | apply zb | apply zd) | exact HB.out)⟩
    ·rw [if_neg c4] at H
     exact absurd H (by simp)
   ·rw [if_neg c3] at H
    have c3b0 : decide (x5_1 < (l0.length : Int)) = false := decide_eq_false c3
    clear c3
    by_cases c20 : (l0.length : Int) ≤ 12
    ·rw [if_pos c20] at H
     have c20b0 : decide ((l0.length : Int) ≤ 12) = true := decide_eq_true c20
     have c20b1 : decide (l0.length ≤ 12) = true := decide_eq_true (by omega)
     clear c20
     replace H := Option.bind_eq_some_iff.mp H
     obtain ⟨t277, A210, H⟩ := H
     replace H : (some t277) = some r := H
     have A21 := za.mk A210
     clear A210
     obtain rfl := Option.some.inj H
     go_wp2_with (first | (go_at_call 74; (with_reducible refine (spec_l1In.calls a1 0 80 t277 _ A21.out).mono ?_); rintro e w' ⟨rfl, ⟨nd, rfl⟩⟩))
     go_ret
     exact ⟨by first | rfl | (simp [zh, zi] <;> rfl) | (simp [*, zh, zi] <;> rfl), by repeat (first | (with_reducible first | exact HB.out | apply zc | apply zb | apply zd) | exact HB.out)⟩
    ·rw [if_neg c20] at H
     have c20b0 : decide ((l0.length : Int) ≤ 12) = false := decide_eq_false c20
     have c20b1 : decide (l0.length ≤ 12) = false := decide_eq_false (by omega)
     clear c20
     obtain rfl := Option.some.inj H
     go_wp2
     go_ret
     exact ⟨by first | rfl | (simp [zh, zi] <;> rfl) | (simp [*, zh, zi] <;> rfl), by repeat (first | (with_reducible first | exact HB.out | apply zc | apply zb | apply zd) | exact HB.out)⟩
end Go.Proofs.Ytmjhdgofepdgkaa.PFnExactFillCost
