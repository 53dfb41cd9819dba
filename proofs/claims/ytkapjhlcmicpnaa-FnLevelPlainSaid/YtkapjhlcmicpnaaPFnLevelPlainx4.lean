-- Written by a program of this session (wip/tools) out of the translation; its shape is that of the kit print.
import Derived.Test.YtkapjhlcmicpnaaPFnLevelPlainx0
import Derived.Test.YtkapjhlcmicpnaaPFnLevelPlainx3
namespace Go.Proofs.Ytkapjhlcmicpnaa.PFnLevelPlain
open Go.RowKit Go.Proofs.YtkapjhlcmicpnaaW.PrintWords Go.Proofs.YtkapjhlcmicpnaaW.PrintLast Go.Proofs.YtkapjhlcmicpnaaW.PrintMore
attribute [local go_sem] max2_int min2_int max_two min_two max_three min_three max_four min_four   -- for this text's walks alone
set_option linter.unusedVariables false
set_option linter.unusedSimpArgs false

/-- a piece of a list becomes one number -/
def fillSeg (xs : List Int) (a m : Nat) (n : Int) : List Int := xs.take a ++ (List.replicate m n ++ xs.drop (a + m))
theorem fillSeg_zero (xs : List Int) (a : Nat) (n : Int) : fillSeg xs a 0 n = xs := by
  unfold fillSeg
  rw [List.replicate_zero, List.nil_append, Nat.add_zero, List.take_append_drop]
theorem fillSeg_step (xs : List Int) (a i : Nat) (n : Int) (h : a + i < xs.length) : (fillSeg xs a i n).set (a + i) n = fillSeg xs a (i + 1) n := by
  have e : xs.drop (a + i) = xs.getD (a + i) 0 :: xs.drop (a + (i + 1)) := by
    rw [List.drop_eq_getElem_cons h, List.getD_eq_getElem?_getD, List.getElem?_eq_getElem h]
    rfl
  unfold fillSeg
  rw [e]
  have e1 : (xs.take a ++ (List.replicate i n ++ xs.getD (a + i) 0 :: xs.drop (a + (i + 1)))) = (xs.take a ++ List.replicate i n) ++ xs.getD (a + i) 0 :: xs.drop (a + (i + 1)) := by rw [List.append_assoc]
  have e2 : (xs.take a ++ List.replicate i n).length = a + i := by simp; omega
  rw [e1, List.set_append_right _ _ (by omega), e2, Nat.sub_self, List.set_cons_zero, List.append_assoc, List.replicate_succ', List.append_assoc]
  rfl
set_option maxHeartbeats 2000000 in
set_option maxRecDepth 100000 in
theorem fill_calls (base g N cap a m c : Nat) (n : Int) (xs : List Int) (w : World) (hm : m ≤ 1000000) (ham : a + m ≤ N)
    (ho : w.ownsRow base 3 1 (.slice (some ⟨g, 0, none⟩) N cap) N (nums .i64 xs)) :
    Calls Try.prog 58 #[.slice (some ⟨g, a, none⟩) m c, .int .i64 n] w fun e w' => e = .returned (.tuple #[]) ∧ w'.ownsRow base 3 1 (.slice (some ⟨g, 0, none⟩) N cap) N (nums .i64 (fillSeg xs a m n)) ∧ w.grownBy w' (some g) := by
  have hN : xs.length = N := by have := ho.1; simp [nums] at this; exact this
  have HO := Aside0.mk ho
  have HN := Aside0.mk hN
  clear ho hN
  go_enter Try.func58, Try.ntmps58
  go_wp2
  go_loopg [7] m (fun gg v2 wr => ∃ (i : Nat), v2 = .int .i64 i ∧ m - i ≤ gg ∧ i ≤ m ∧ Aside0 (wr.ownsRow base 3 1 (.slice (some ⟨g, 0, none⟩) N cap) N (nums .i64 (fillSeg xs a i n))) ∧ Aside0 (w.grownBy wr (some g)))
  case atStart => exact ⟨0, rfl, by omega, by omega, ⟨by rw [fillSeg_zero]; exact HO.out⟩, ⟨World.grownBy.refl _ _⟩⟩
  case round =>
    obtain ⟨i, rfl, hg, hi, HY, HG⟩ := hrel
    by_cases hlt : i < m
    · have hltz : (i : Int) < (m : Int) := by omega
      obtain ⟨ci, fi⟩ := own_at HY.out ((a + i : Nat) : Int) (by omega) (by omega)
      have s1 := own_store HY.out ((a + i : Nat) : Int) n
      rw [Int.toNat_natCast] at ci fi s1
      have S1 := Aside0.mk s1
      clear s1
      go_wp2
      go_roundg (gk - 1)
      case measure => omega
      case rel =>
        refine ⟨i + 1, by go_num, by omega, by omega, ⟨?_⟩, ⟨?_⟩⟩
        · have h1 := S1.out.1
          rw [fillSeg_step xs a i n (by have := HN.out; omega)] at h1
          exact h1
        · exact HG.out.trans S1.out.2
    · have hltz : ¬ (i : Int) < (m : Int) := by omega
      obtain rfl : i = m := by omega
      go_wp2
      go_end0
      exact ⟨rfl, HY.out, HG.out⟩
/-- a class as a side, 0 if it is none -/
def leanL (x : Int) : Int := if x = 1 then 1 else if x = 2 then 2 else if x = 4 then 2 else if x = 7 then 2 else 0
/-- the side of a level -/
def ownL (x : Int) : Int := if Int.tmod x 2 = 0 then 1 else 2
theorem leaning_eq (x : Int) : impl_leaning.f x = some (leanL x) := by
  unfold impl_leaning.f leanL
  repeat' split
  all_goals first | rfl | contradiction
theorem sideOf_eq (x : Int) : impl_sideOf.f x = some (ownL x) := by
  unfold impl_sideOf.f ownL
  split <;> rfl
def sideBy (b a lv ah bh : Int) : Int := if (if ah = 0 then b else leanL ah) = (if bh = 0 then a else leanL bh) ∧ (if ah = 0 then b else leanL ah) ≠ 0 then (if ah = 0 then b else leanL ah) else ownL lv
theorem drewN_grown0 {w w1 : World} {row : Option Nat} {q : Nat} (h : (w.drewN q).grownBy w1 row) : w.grownBy w1 row := ⟨h.os, h.tape, h.output, h.size, h.block⟩
set_option maxHeartbeats 4000000 in
set_option maxRecDepth 100000 in
theorem lp1_calls (b1 b2 b3 base g N cap a m c : Nat) (b af lv ah bh : Int) (xs : List Int) (w : World) (hm : m ≤ 1000000) (ham : a + m ≤ N)
    (h1 : w.cell? ⟨b1, 0, none⟩ = some (.int .i64 b)) (h2 : w.cell? ⟨b2, 0, none⟩ = some (.int .i64 af)) (h3 : w.cell? ⟨b3, 0, none⟩ = some (.int .i64 lv))
    (ho : w.ownsRow base 3 1 (.slice (some ⟨g, 0, none⟩) N cap) N (nums .i64 xs)) :
    Calls Try.prog 55 #[.slice (some ⟨g, a, none⟩) m c, .int .i64 ah, .int .i64 bh, .pointer (some ⟨b1, 0, none⟩), .pointer (some ⟨b2, 0, none⟩), .pointer (some ⟨b3, 0, none⟩)] w fun e w' => e = .returned (.tuple #[]) ∧ w'.ownsRow base 3 1 (.slice (some ⟨g, 0, none⟩) N cap) N (nums .i64 (fillSeg xs a m (sideBy b af lv ah bh))) ∧ w.grownBy w' (some g) := by
  have HL := Aside0.mk (fun (x : Int) (W : World) => impl_leaning.calls x _ W (leaning_eq x))
  have HS := Aside0.mk (fun (W : World) => impl_sideOf.calls lv _ W (sideOf_eq lv))
  have HF := Aside0.mk (fun (n : Int) (q : Nat) => fill_calls base g N cap a m c n xs (w.drewN q) hm ham ho)
  clear ho
  by_cases ha : ah = 0
  · have ha1 : (ah == 0) = true := by simp [ha]
    have HA := Aside0.mk ha
    clear ha
    by_cases hb : bh = 0
    · have hb1 : (bh == 0) = true := by simp [hb]
      have HB := Aside0.mk hb
      clear hb
      have HE : Aside0 (sideBy b af lv ah bh = if b = af ∧ b ≠ 0 then b else ownL lv) := ⟨by unfold sideBy; rw [if_pos HA.out, if_pos HB.out]⟩
      by_cases e1 : b = af
      · have e1b : (b == af) = true := by simp [e1]
        have e1c : (b != af) = false := by simp [e1]
        by_cases e2 : b = 0
        · have e2b : (b == 0) = true := by simp [e2]
          have HV : Aside0 (sideBy b af lv ah bh = ownL lv) := ⟨by rw [HE.out, if_neg (fun h => h.2 e2)]⟩
          clear e1 e2 HE
          go_enter Try.func55, Try.ntmps55
          go_wp2_with (first | (go_at_call 56; refine (HL.out _ _).mono ?_; rintro e w' ⟨rfl, ⟨q', rfl⟩⟩) | (go_at_call 57; refine (HS.out _).mono ?_; rintro e w' ⟨rfl, ⟨q', rfl⟩⟩) | (go_at_call 58; refine (HF.out _ _).mono ?_; rintro e w' ⟨rfl, hr, hg⟩; have Hr := Aside0.mk hr; have Hg := Aside0.mk hg; clear hr hg))
          go_end0
          exact ⟨rfl, by rw [HV.out]; exact Hr.out, drewN_grown0 Hg.out⟩
        · have e2b : (b == 0) = false := by simp [e2]
          have HV : Aside0 (sideBy b af lv ah bh = b) := ⟨by rw [HE.out, if_pos ⟨e1, e2⟩]⟩
          clear e1 e2 HE
          go_enter Try.func55, Try.ntmps55
          go_wp2_with (first | (go_at_call 56; refine (HL.out _ _).mono ?_; rintro e w' ⟨rfl, ⟨q', rfl⟩⟩) | (go_at_call 57; refine (HS.out _).mono ?_; rintro e w' ⟨rfl, ⟨q', rfl⟩⟩) | (go_at_call 58; refine (HF.out _ _).mono ?_; rintro e w' ⟨rfl, hr, hg⟩; have Hr := Aside0.mk hr; have Hg := Aside0.mk hg; clear hr hg))
          go_end0
          exact ⟨rfl, by rw [HV.out]; exact Hr.out, drewN_grown0 Hg.out⟩
      · have e1b : (b == af) = false := by simp [e1]
        have e1c : (b != af) = true := by simp [e1]
        have HV : Aside0 (sideBy b af lv ah bh = ownL lv) := ⟨by rw [HE.out, if_neg (fun h => e1 h.1)]⟩
        clear e1 HE
        go_enter Try.func55, Try.ntmps55
        go_wp2_with (first | (go_at_call 56; refine (HL.out _ _).mono ?_; rintro e w' ⟨rfl, ⟨q', rfl⟩⟩) | (go_at_call 57; refine (HS.out _).mono ?_; rintro e w' ⟨rfl, ⟨q', rfl⟩⟩) | (go_at_call 58; refine (HF.out _ _).mono ?_; rintro e w' ⟨rfl, hr, hg⟩; have Hr := Aside0.mk hr; have Hg := Aside0.mk hg; clear hr hg))
        go_end0
        exact ⟨rfl, by rw [HV.out]; exact Hr.out, drewN_grown0 Hg.out⟩
    · have hb1 : (bh == 0) = false := by simp [hb]
      have HB := Aside0.mk hb
      clear hb
      have HE : Aside0 (sideBy b af lv ah bh = if b = leanL bh ∧ b ≠ 0 then b else ownL lv) := ⟨by unfold sideBy; rw [if_pos HA.out, if_neg HB.out]⟩
      by_cases e1 : b = leanL bh
      · have e1b : (b == leanL bh) = true := by simp [e1]
        have e1c : (b != leanL bh) = false := by simp [e1]
        by_cases e2 : b = 0
        · have e2b : (b == 0) = true := by simp [e2]
          have HV : Aside0 (sideBy b af lv ah bh = ownL lv) := ⟨by rw [HE.out, if_neg (fun h => h.2 e2)]⟩
          clear e1 e2 HE
          go_enter Try.func55, Try.ntmps55
          go_wp2_with (first | (go_at_call 56; refine (HL.out _ _).mono ?_; rintro e w' ⟨rfl, ⟨q', rfl⟩⟩) | (go_at_call 57; refine (HS.out _).mono ?_; rintro e w' ⟨rfl, ⟨q', rfl⟩⟩) | (go_at_call 58; refine (HF.out _ _).mono ?_; rintro e w' ⟨rfl, hr, hg⟩; have Hr := Aside0.mk hr; have Hg := Aside0.mk hg; clear hr hg))
          go_end0
          exact ⟨rfl, by rw [HV.out]; exact Hr.out, drewN_grown0 Hg.out⟩
        · have e2b : (b == 0) = false := by simp [e2]
          have HV : Aside0 (sideBy b af lv ah bh = b) := ⟨by rw [HE.out, if_pos ⟨e1, e2⟩]⟩
          clear e1 e2 HE
          go_enter Try.func55, Try.ntmps55
          go_wp2_with (first | (go_at_call 56; refine (HL.out _ _).mono ?_; rintro e w' ⟨rfl, ⟨q', rfl⟩⟩) | (go_at_call 57; refine (HS.out _).mono ?_; rintro e w' ⟨rfl, ⟨q', rfl⟩⟩) | (go_at_call 58; refine (HF.out _ _).mono ?_; rintro e w' ⟨rfl, hr, hg⟩; have Hr := Aside0.mk hr; have Hg := Aside0.mk hg; clear hr hg))
          go_end0
          exact ⟨rfl, by rw [HV.out]; exact Hr.out, drewN_grown0 Hg.out⟩
      · have e1b : (b == leanL bh) = false := by simp [e1]
        have e1c : (b != leanL bh) = true := by simp [e1]
        have HV : Aside0 (sideBy b af lv ah bh = ownL lv) := ⟨by rw [HE.out, if_neg (fun h => e1 h.1)]⟩
        clear e1 HE
        go_enter Try.func55, Try.ntmps55
        go_wp2_with (first | (go_at_call 56; refine (HL.out _ _).mono ?_; rintro e w' ⟨rfl, ⟨q', rfl⟩⟩) | (go_at_call 57; refine (HS.out _).mono ?_; rintro e w' ⟨rfl, ⟨q', rfl⟩⟩) | (go_at_call 58; refine (HF.out _ _).mono ?_; rintro e w' ⟨rfl, hr, hg⟩; have Hr := Aside0.mk hr; have Hg := Aside0.mk hg; clear hr hg))
        go_end0
        exact ⟨rfl, by rw [HV.out]; exact Hr.out, drewN_grown0 Hg.out⟩
  · have ha1 : (ah == 0) = false := by simp [ha]
    have HA := Aside0.mk ha
    clear ha
    by_cases hb : bh = 0
    · have hb1 : (bh == 0) = true := by simp [hb]
      have HB := Aside0.mk hb
      clear hb
      have HE : Aside0 (sideBy b af lv ah bh = if leanL ah = af ∧ leanL ah ≠ 0 then leanL ah else ownL lv) := ⟨by unfold sideBy; rw [if_neg HA.out, if_pos HB.out]⟩
      by_cases e1 : leanL ah = af
      · have e1b : (leanL ah == af) = true := by simp [e1]
        have e1c : (leanL ah != af) = false := by simp [e1]
        by_cases e2 : leanL ah = 0
        · have e2b : (leanL ah == 0) = true := by simp [e2]
          have HV : Aside0 (sideBy b af lv ah bh = ownL lv) := ⟨by rw [HE.out, if_neg (fun h => h.2 e2)]⟩
          clear e1 e2 HE
          go_enter Try.func55, Try.ntmps55
          go_wp2_with (first | (go_at_call 56; refine (HL.out _ _).mono ?_; rintro e w' ⟨rfl, ⟨q', rfl⟩⟩) | (go_at_call 57; refine (HS.out _).mono ?_; rintro e w' ⟨rfl, ⟨q', rfl⟩⟩) | (go_at_call 58; refine (HF.out _ _).mono ?_; rintro e w' ⟨rfl, hr, hg⟩; have Hr := Aside0.mk hr; have Hg := Aside0.mk hg; clear hr hg))
          go_end0
          exact ⟨rfl, by rw [HV.out]; exact Hr.out, drewN_grown0 Hg.out⟩
        · have e2b : (leanL ah == 0) = false := by simp [e2]
          have HV : Aside0 (sideBy b af lv ah bh = leanL ah) := ⟨by rw [HE.out, if_pos ⟨e1, e2⟩]⟩
          clear e1 e2 HE
          go_enter Try.func55, Try.ntmps55
          go_wp2_with (first | (go_at_call 56; refine (HL.out _ _).mono ?_; rintro e w' ⟨rfl, ⟨q', rfl⟩⟩) | (go_at_call 57; refine (HS.out _).mono ?_; rintro e w' ⟨rfl, ⟨q', rfl⟩⟩) | (go_at_call 58; refine (HF.out _ _).mono ?_; rintro e w' ⟨rfl, hr, hg⟩; have Hr := Aside0.mk hr; have Hg := Aside0.mk hg; clear hr hg))
          go_end0
          exact ⟨rfl, by rw [HV.out]; exact Hr.out, drewN_grown0 Hg.out⟩
      · have e1b : (leanL ah == af) = false := by simp [e1]
        have e1c : (leanL ah != af) = true := by simp [e1]
        have HV : Aside0 (sideBy b af lv ah bh = ownL lv) := ⟨by rw [HE.out, if_neg (fun h => e1 h.1)]⟩
        clear e1 HE
        go_enter Try.func55, Try.ntmps55
        go_wp2_with (first | (go_at_call 56; refine (HL.out _ _).mono ?_; rintro e w' ⟨rfl, ⟨q', rfl⟩⟩) | (go_at_call 57; refine (HS.out _).mono ?_; rintro e w' ⟨rfl, ⟨q', rfl⟩⟩) | (go_at_call 58; refine (HF.out _ _).mono ?_; rintro e w' ⟨rfl, hr, hg⟩; have Hr := Aside0.mk hr; have Hg := Aside0.mk hg; clear hr hg))
        go_end0
        exact ⟨rfl, by rw [HV.out]; exact Hr.out, drewN_grown0 Hg.out⟩
    · have hb1 : (bh == 0) = false := by simp [hb]
      have HB := Aside0.mk hb
      clear hb
      have HE : Aside0 (sideBy b af lv ah bh = if leanL ah = leanL bh ∧ leanL ah ≠ 0 then leanL ah else ownL lv) := ⟨by unfold sideBy; rw [if_neg HA.out, if_neg HB.out]⟩
      by_cases e1 : leanL ah = leanL bh
      · have e1b : (leanL ah == leanL bh) = true := by simp [e1]
        have e1c : (leanL ah != leanL bh) = false := by simp [e1]
        by_cases e2 : leanL ah = 0
        · have e2b : (leanL ah == 0) = true := by simp [e2]
          have HV : Aside0 (sideBy b af lv ah bh = ownL lv) := ⟨by rw [HE.out, if_neg (fun h => h.2 e2)]⟩
          clear e1 e2 HE
          go_enter Try.func55, Try.ntmps55
          go_wp2_with (first | (go_at_call 56; refine (HL.out _ _).mono ?_; rintro e w' ⟨rfl, ⟨q', rfl⟩⟩) | (go_at_call 57; refine (HS.out _).mono ?_; rintro e w' ⟨rfl, ⟨q', rfl⟩⟩) | (go_at_call 58; refine (HF.out _ _).mono ?_; rintro e w' ⟨rfl, hr, hg⟩; have Hr := Aside0.mk hr; have Hg := Aside0.mk hg; clear hr hg))
          go_end0
          exact ⟨rfl, by rw [HV.out]; exact Hr.out, drewN_grown0 Hg.out⟩
        · have e2b : (leanL ah == 0) = false := by simp [e2]
          have HV : Aside0 (sideBy b af lv ah bh = leanL ah) := ⟨by rw [HE.out, if_pos ⟨e1, e2⟩]⟩
          clear e1 e2 HE
          go_enter Try.func55, Try.ntmps55
          go_wp2_with (first | (go_at_call 56; refine (HL.out _ _).mono ?_; rintro e w' ⟨rfl, ⟨q', rfl⟩⟩) | (go_at_call 57; refine (HS.out _).mono ?_; rintro e w' ⟨rfl, ⟨q', rfl⟩⟩) | (go_at_call 58; refine (HF.out _ _).mono ?_; rintro e w' ⟨rfl, hr, hg⟩; have Hr := Aside0.mk hr; have Hg := Aside0.mk hg; clear hr hg))
          go_end0
          exact ⟨rfl, by rw [HV.out]; exact Hr.out, drewN_grown0 Hg.out⟩
      · have e1b : (leanL ah == leanL bh) = false := by simp [e1]
        have e1c : (leanL ah != leanL bh) = true := by simp [e1]
        have HV : Aside0 (sideBy b af lv ah bh = ownL lv) := ⟨by rw [HE.out, if_neg (fun h => e1 h.1)]⟩
        clear e1 HE
        go_enter Try.func55, Try.ntmps55
        go_wp2_with (first | (go_at_call 56; refine (HL.out _ _).mono ?_; rintro e w' ⟨rfl, ⟨q', rfl⟩⟩) | (go_at_call 57; refine (HS.out _).mono ?_; rintro e w' ⟨rfl, ⟨q', rfl⟩⟩) | (go_at_call 58; refine (HF.out _ _).mono ?_; rintro e w' ⟨rfl, hr, hg⟩; have Hr := Aside0.mk hr; have Hg := Aside0.mk hg; clear hr hg))
        go_end0
        exact ⟨rfl, by rw [HV.out]; exact Hr.out, drewN_grown0 Hg.out⟩
/-- has no side of its own -/
def plainL (x : Int) : Bool := decide (x = 11 ∨ x = 12 ∨ x = 13 ∨ 19 ≤ x)
theorem isPlain_eq (x : Int) : impl_isPlain.f x = some (plainL x) := by
  unfold impl_isPlain.f plainL
  by_cases h1 : x = 11
  · simp [h1]
  by_cases h2 : x = 12
  · simp [h2]
  by_cases h3 : x = 13
  · simp [h3]
  simp [h1, h2, h3]
/-- what stands side by side and has p becomes what f says of both sides -/
def besR (p : Int → Bool) (f : Int → Int → Int) (ah : Int) : Nat → List Int → List Int
  | n, [] => List.replicate n (f ah 0)
  | n, x :: xs => if p x = true then besR p f ah (n + 1) xs else List.replicate n (f ah x) ++ x :: besR p f x 0 xs
/-- the last of a list, 0 if there is none -/
def lastL (l : List Int) : Int := l.getLast?.getD 0
theorem lastL_snoc (l : List Int) (x : Int) : lastL (l ++ [x]) = x := by simp [lastL]
theorem besR_run (p : Int → Bool) (f : Int → Int → Int) (ah : Int) : ∀ (run rest : List Int) (n : Nat), (∀ x ∈ run, p x = true) → besR p f ah n (run ++ rest) = besR p f ah (n + run.length) rest
  | [], _, _, _ => rfl
  | x :: run, rest, n, h => by
    have h1 := h x List.mem_cons_self
    have h2 := besR_run p f ah run rest (n + 1) (fun y hy => h y (List.mem_cons_of_mem _ hy))
    rw [List.cons_append, besR, if_pos h1, h2, List.length_cons]
    congr 1
    omega
theorem besR_stop (p : Int → Bool) (f : Int → Int → Int) (ah ah' x : Int) (n : Nat) (xs : List Int) (h : p x = false) : besR p f ah n (x :: xs) = List.replicate n (f ah x) ++ besR p f ah' 0 (x :: xs) := by
  simp [besR, h]
theorem fillSeg_mid (don run rest : List Int) (n : Int) : fillSeg (don ++ (run ++ rest)) don.length run.length n = don ++ (List.replicate run.length n ++ rest) := by
  unfold fillSeg
  rw [List.take_left, ← List.append_assoc don run rest, ← List.length_append, List.drop_left]
theorem getD_mid0 (pre : List Int) (x : Int) (suf : List Int) : rd (pre ++ x :: suf) (pre.length : Int) = x := by
  unfold rd
  rw [Int.toNat_natCast, List.getD_eq_getElem?_getD]
  simp
theorem bes_next (p : Int → Bool) (f : Int → Int → Int) (L don run rest' : List Int) (h : L = don ++ besR p f (lastL don) 0 (run ++ rest')) (hr : ∀ x ∈ run, p x = true) (hs : rest' = [] ∨ ∃ y r, rest' = y :: r ∧ p y = false) :
    L = (don ++ List.replicate run.length (f (lastL don) (rest'.headD 0))) ++ besR p f (lastL (don ++ List.replicate run.length (f (lastL don) (rest'.headD 0)))) 0 rest' := by
  rw [h, besR_run p f _ run rest' 0 hr, Nat.zero_add]
  rcases hs with rfl | ⟨y, r, rfl, hy⟩
  · simp [besR]
  · rw [besR_stop p f (lastL don) (lastL (don ++ List.replicate run.length (f (lastL don) ((y :: r).headD 0)))) y _ r hy, List.append_assoc]
    rfl
theorem lastL_rd (don rest : List Int) (d : Nat) (h : don.length = d + 1) : rd (don ++ rest) (d : Int) = lastL don := by
  unfold rd lastL
  rw [Int.toNat_natCast, List.getD_eq_getElem?_getD, List.getElem?_append_left (by omega), List.getLast?_eq_getElem?, h]
  rfl
theorem grown_drewN0 {w w1 : World} {row : Option Nat} (h : w.grownBy w1 row) (n : Nat) : w.grownBy (w1.drewN n) row := ⟨h.os, h.tape, h.output, h.size, h.block⟩
set_option maxHeartbeats 8000000 in
set_option maxRecDepth 100000 in
theorem beside_calls (f : Int → Int → Int) (v1 v2 v3 : Value) (base g N cap : Nat) (xs : List Int) (w : World) (hN : N ≤ 1000000) (hcap : N ≤ cap)
    (hdo : ∀ (W' : World) (a m c : Nat) (ah bh : Int) (ys : List Int), w.grownBy W' (some g) → a + m ≤ N → W'.ownsRow base 3 1 (.slice (some ⟨g, 0, none⟩) N cap) N (nums .i64 ys) → Calls Try.prog 55 #[.slice (some ⟨g, a, none⟩) m c, .int .i64 ah, .int .i64 bh, v1, v2, v3] W' fun e W'' => e = .returned (.tuple #[]) ∧ W''.ownsRow base 3 1 (.slice (some ⟨g, 0, none⟩) N cap) N (nums .i64 (fillSeg ys a m (f ah bh))) ∧ W'.grownBy W'' (some g))
    (ho : w.ownsRow base 3 1 (.slice (some ⟨g, 0, none⟩) N cap) N (nums .i64 xs)) :
    Calls Try.prog 53 #[.slice (some ⟨g, 0, none⟩) N cap, .func (.func 54) #[] #[], .func (.func 55) #[] #[v1, v2, v3]] w fun e w' => e = .returned (.tuple #[]) ∧ w'.ownsRow base 3 1 (.slice (some ⟨g, 0, none⟩) N cap) N (nums .i64 (besR plainL f 0 0 xs)) ∧ w.grownBy w' (some g) := by
  have hlen : xs.length = N := by have := ho.1; simp [nums] at this; exact this
  have HO := Aside0.mk ho
  have HDO := Aside0.mk hdo
  have HL := Aside0.mk hlen
  have HP := Aside0.mk (fun (x : Int) (W : World) => impl_isPlain.calls x _ W (isPlain_eq x))
  clear ho hdo hlen
  go_enter Try.func53, Try.ntmps53
  go_wp2
  go_loopg [6] N (fun gg v6 wr => ∃ don rest : List Int, v6 = .int .i64 (don.length : Int) ∧ Aside0 (rest.length ≤ gg ∧ don.length + rest.length = N) ∧ Aside0 (wr.ownsRow base 3 1 (.slice (some ⟨g, 0, none⟩) N cap) N (nums .i64 (don ++ rest))) ∧ Aside0 (w.grownBy wr (some g)) ∧ Aside0 (besR plainL f 0 0 xs = don ++ besR plainL f (lastL don) 0 rest))
  case atStart => exact ⟨[], xs, by simp, ⟨by have := HL.out; omega, by have := HL.out; simp; omega⟩, HO, ⟨World.grownBy.refl _ _⟩, ⟨rfl⟩⟩
  case round =>
    obtain ⟨don, rest, rfl, HS, HR, HG, HT⟩ := hrel
    generalize hd : don.length = d
    have Hd := Aside0.mk hd
    clear hd
    by_cases hlt : d < N
    · have hltz : (d : Int) < (N : Int) := by omega
      go_wp2
      obtain ⟨wo, rfl⟩ : ∃ wo : World, wo = wr := ⟨_, rfl⟩
      obtain ⟨go, rfl⟩ : ∃ go : Nat, go = gk := ⟨_, rfl⟩
      go_loopg [7] rest.length (fun gg v7 wq => ∃ (run rest' : List Int) (q : Nat), v7 = .int .i64 ((d + run.length : Nat) : Int) ∧ Aside0 (rest = run ++ rest') ∧ Aside0 (rest'.length ≤ gg) ∧ Aside0 (∀ x ∈ run, plainL x = true) ∧ wq = wo.drewN q)
      case atStart => exact ⟨[], rest, 0, by simp, ⟨rfl⟩, ⟨Nat.le_refl _⟩, ⟨fun x hx => by cases hx⟩, rfl⟩
      case round =>
        obtain ⟨run, rest', q, rfl, HE, HK, HRUN, rfl⟩ := hrel
        generalize hto : d + run.length = te
        have Hto := Aside0.mk hto
        clear hto
        have hteN : te ≤ N := by
          have h1 := HS.out.2
          have h2 := congrArg List.length HE.out
          have h3 := Hd.out
          have h4 := Hto.out
          simp only [List.length_append] at h2
          omega
        have hde : d ≤ te := by have := Hto.out; omega
        have hec : te ≤ cap := by omega
        have hdc : ¬ cap = d := by omega
        have HFILL : ∀ (ah bh : Int) (n : Nat), Aside0 (Calls Try.prog 55 #[.slice (some ⟨g, d, none⟩) (te - d) (cap - d), .int .i64 ah, .int .i64 bh, v1, v2, v3] (wo.drewN n) fun e W'' => e = .returned (.tuple #[]) ∧ W''.ownsRow base 3 1 (.slice (some ⟨g, 0, none⟩) N cap) N (nums .i64 (fillSeg (don ++ rest) d (te - d) (f ah bh))) ∧ (wo.drewN n).grownBy W'' (some g)) :=
          fun ah bh n => ⟨HDO.out (wo.drewN n) d (te - d) (cap - d) ah bh (don ++ rest) (grown_drewN0 HG.out n) (by omega) HR.out⟩
        by_cases hin : te < N
        · have hinz : (te : Int) < (N : Int) := by omega
          cases rest' with
          | nil =>
            exfalso
            have h1 := HE.out
            have h2 := HS.out.2
            have h3 := Hd.out
            have h4 := Hto.out
            rw [h1] at h2
            simp at h2
            omega
          | cons y rest'' =>
            obtain ⟨cy, fy⟩ := own_at HR.out (te : Int) (by omega) (by omega)
            rw [Int.toNat_natCast] at cy fy
            have hy : rd (don ++ rest) (te : Int) = y := by
              have h1 := HE.out
              have h2 : te = (don ++ run).length := by rw [List.length_append, Hd.out, Hto.out]
              rw [h1, ← List.append_assoc, h2]
              exact getD_mid0 (don ++ run) y rest''
            rw [hy] at cy
            clear hy
            cases hpy : plainL y with
            | true =>
              have HPy := Aside0.mk hpy
              clear hpy HFILL
              go_wp2_with (go_at_call 54; refine (HP.out y _).mono ?_; rintro e w' ⟨rfl, ⟨q', rfl⟩⟩; rw [HPy.out])
              go_roundg (gk - 1)
              case measure =>
                have h1 := HK.out
                simp at h1
                omega
              case rel =>
                refine ⟨run ++ [y], rest'', q + q', ?_, ⟨?_⟩, ⟨?_⟩, ⟨?_⟩, rfl⟩
                · have h1 := Hto.out
                  simp only [List.length_append, List.length_singleton]
                  congr 1
                  omega
                · rw [HE.out]; simp
                · have h1 := HK.out
                  simp at h1
                  omega
                · intro x hx
                  rcases List.mem_append.1 hx with h1 | h1
                  · exact HRUN.out x h1
                  · simp at h1
                    rw [h1]
                    exact HPy.out
            | false =>
              have HPy := Aside0.mk hpy
              clear hpy
              by_cases hcase : te = d
              · have hcb : ((te : Int) == (d : Int)) = true := by rw [hcase]; exact beq_self_eq_true _
                have Hcase := Aside0.mk hcase
                clear hcase HFILL
                go_wp2_with (go_at_call 54; refine (HP.out y _).mono ?_; rintro e w' ⟨rfl, ⟨q', rfl⟩⟩; rw [HPy.out])
                go_roundg (go - 1)
                case measure => have := HS.out; have := Hd.out; omega
                case rel =>
                  have hrun0 : run = [] := List.eq_nil_of_length_eq_zero (by have := Hto.out; have := Hcase.out; omega)
                  subst hrun0
                  refine ⟨don ++ [y], rest'', ?_, ⟨?_⟩, ⟨?_⟩, ⟨?_⟩, ⟨?_⟩⟩
                  · have h2 := Hd.out
                    simp only [List.length_append, List.length_singleton]
                    congr 1
                    omega
                  · have h1 := HS.out
                    have h2 := HE.out
                    have h4 := Hd.out
                    have h5 := congrArg List.length h2
                    simp only [List.length_append, List.length_singleton, List.length_cons, List.length_nil] at h1 h5 ⊢
                    omega
                  · have h1 := HR.out
                    rw [HE.out] at h1
                    simp only [List.nil_append] at h1
                    rw [List.append_assoc]
                    exact h1
                  · exact grown_drewN0 HG.out _
                  · rw [HT.out, HE.out, lastL_snoc]
                    simp [besR, HPy.out]
              · have hclt : d < te := by omega
                clear hcase
                cases d with
                | zero =>
                  have HLA : Aside0 ((0 : Int) = lastL don) := ⟨by rw [List.eq_nil_of_length_eq_zero Hd.out]; rfl⟩
                  have hne1 : ((te : Int) == ((0 : Nat) : Int)) = false := beq_eq_false_iff_ne.mpr (by omega)
                  go_wp2_with (first | (go_at_call 54; refine (HP.out y _).mono ?_; rintro e w' ⟨rfl, ⟨q', rfl⟩⟩; rw [HPy.out]) | (go_at_call 55; refine ((HFILL _ _ _).out).mono ?_; rintro e w' ⟨rfl, hrow, hgr⟩; have Hrow := Aside0.mk hrow; have Hgr := Aside0.mk hgr; clear hrow hgr))
                  go_roundg (go - 1)
                  case measure => have := HS.out; have := Hd.out; omega
                  case rel =>
                    have hrl : run.length = te - 0 := by have := Hto.out; omega
                    refine ⟨don ++ List.replicate run.length (f (lastL don) y), (y :: rest''), ?_, ⟨?_⟩, ⟨?_⟩, ⟨?_⟩, ⟨?_⟩⟩
                    · have h1 := Hto.out
                      have h2 := Hd.out
                      simp only [List.length_append, List.length_replicate]
                      congr 1
                      omega
                    · have h1 := HS.out
                      have h3 := Hto.out
                      have h4 := Hd.out
                      have h5 := congrArg List.length HE.out
                      simp only [List.length_append, List.length_replicate, List.length_cons, List.length_nil] at h1 h5 ⊢
                      omega
                    · have h1 := Hrow.out
                      have e : ∀ v : Int, fillSeg (don ++ rest) 0 (te - 0) v = don ++ (List.replicate run.length v ++ (y :: rest'')) := by
                        intro v
                        have h6 := fillSeg_mid don run (y :: rest'') v
                        rw [Hd.out] at h6
                        rw [← hrl, HE.out]
                        exact h6
                      have ev : f 0 y = f (lastL don) y := congrArg (fun z => f z y) HLA.out
                      rw [e, ev] at h1
                      rw [List.append_assoc]
                      exact h1
                    · exact (grown_drewN0 HG.out _).trans Hgr.out
                    · have h1 := HT.out
                      rw [HE.out] at h1
                      exact bes_next plainL f _ don run (y :: rest'') h1 HRUN.out (.inr ⟨y, rest'', rfl, HPy.out⟩)
                | succ d =>
                  obtain ⟨ca, fa⟩ := own_at HR.out (d : Int) (by omega) (by omega)
                  rw [Int.toNat_natCast] at ca fa
                  rw [lastL_rd don rest d Hd.out] at ca
                  generalize hla : lastL don = la at ca
                  have HLA : Aside0 (la = lastL don) := ⟨hla.symm⟩
                  clear hla
                  have hne1 : ((te : Int) == (((d + 1) : Nat) : Int)) = false := beq_eq_false_iff_ne.mpr (by omega)
                  go_wp2_with (first | (go_at_call 54; refine (HP.out y _).mono ?_; rintro e w' ⟨rfl, ⟨q', rfl⟩⟩; rw [HPy.out]) | (go_at_call 55; refine ((HFILL _ _ _).out).mono ?_; rintro e w' ⟨rfl, hrow, hgr⟩; have Hrow := Aside0.mk hrow; have Hgr := Aside0.mk hgr; clear hrow hgr))
                  go_roundg (go - 1)
                  case measure => have := HS.out; have := Hd.out; omega
                  case rel =>
                    have hrl : run.length = te - (d + 1) := by have := Hto.out; omega
                    refine ⟨don ++ List.replicate run.length (f (lastL don) y), (y :: rest''), ?_, ⟨?_⟩, ⟨?_⟩, ⟨?_⟩, ⟨?_⟩⟩
                    · have h1 := Hto.out
                      have h2 := Hd.out
                      simp only [List.length_append, List.length_replicate]
                      congr 1
                      omega
                    · have h1 := HS.out
                      have h3 := Hto.out
                      have h4 := Hd.out
                      have h5 := congrArg List.length HE.out
                      simp only [List.length_append, List.length_replicate, List.length_cons, List.length_nil] at h1 h5 ⊢
                      omega
                    · have h1 := Hrow.out
                      have e : ∀ v : Int, fillSeg (don ++ rest) (d + 1) (te - (d + 1)) v = don ++ (List.replicate run.length v ++ (y :: rest'')) := by
                        intro v
                        have h6 := fillSeg_mid don run (y :: rest'') v
                        rw [Hd.out] at h6
                        rw [← hrl, HE.out]
                        exact h6
                      have ev : f la y = f (lastL don) y := congrArg (fun z => f z y) HLA.out
                      rw [e, ev] at h1
                      rw [List.append_assoc]
                      exact h1
                    · exact (grown_drewN0 HG.out _).trans Hgr.out
                    · have h1 := HT.out
                      rw [HE.out] at h1
                      exact bes_next plainL f _ don run (y :: rest'') h1 HRUN.out (.inr ⟨y, rest'', rfl, HPy.out⟩)
        · have hinz : ¬ (te : Int) < (N : Int) := by omega
          have hclt : d < te := by omega
          have hr0 : rest' = [] := by
            have h1 := HE.out
            have h2 := HS.out.2
            have h3 := Hd.out
            have h4 := Hto.out
            rw [h1] at h2
            simp at h2
            exact List.eq_nil_of_length_eq_zero (by omega)
          subst hr0
          cases d with
          | zero =>
            have HLA : Aside0 ((0 : Int) = lastL don) := ⟨by rw [List.eq_nil_of_length_eq_zero Hd.out]; rfl⟩
            have hne1 : ((te : Int) == ((0 : Nat) : Int)) = false := beq_eq_false_iff_ne.mpr (by omega)
            go_wp2_with (go_at_call 55; refine ((HFILL _ _ _).out).mono ?_; rintro e w' ⟨rfl, hrow, hgr⟩; have Hrow := Aside0.mk hrow; have Hgr := Aside0.mk hgr; clear hrow hgr)
            go_roundg (go - 1)
            case measure => have := HS.out; have := Hd.out; omega
            case rel =>
              have hrl : run.length = te - 0 := by have := Hto.out; omega
              refine ⟨don ++ List.replicate run.length (f (lastL don) 0), ([] : List Int), ?_, ⟨?_⟩, ⟨?_⟩, ⟨?_⟩, ⟨?_⟩⟩
              · have h1 := Hto.out
                have h2 := Hd.out
                simp only [List.length_append, List.length_replicate]
                congr 1
                omega
              · have h1 := HS.out
                have h3 := Hto.out
                have h4 := Hd.out
                have h5 := congrArg List.length HE.out
                simp only [List.length_append, List.length_replicate, List.length_cons, List.length_nil] at h1 h5 ⊢
                omega
              · have h1 := Hrow.out
                have e : ∀ v : Int, fillSeg (don ++ rest) 0 (te - 0) v = don ++ (List.replicate run.length v ++ ([] : List Int)) := by
                  intro v
                  have h6 := fillSeg_mid don run ([] : List Int) v
                  rw [Hd.out] at h6
                  rw [← hrl, HE.out]
                  exact h6
                have ev : f 0 0 = f (lastL don) 0 := congrArg (fun z => f z 0) HLA.out
                rw [e, ev] at h1
                rw [List.append_assoc]
                exact h1
              · exact (grown_drewN0 HG.out _).trans Hgr.out
              · have h1 := HT.out
                rw [HE.out] at h1
                exact bes_next plainL f _ don run ([] : List Int) h1 HRUN.out (.inl rfl)
          | succ d =>
            obtain ⟨ca, fa⟩ := own_at HR.out (d : Int) (by omega) (by omega)
            rw [Int.toNat_natCast] at ca fa
            rw [lastL_rd don rest d Hd.out] at ca
            generalize hla : lastL don = la at ca
            have HLA : Aside0 (la = lastL don) := ⟨hla.symm⟩
            clear hla
            have hne1 : ((te : Int) == (((d + 1) : Nat) : Int)) = false := beq_eq_false_iff_ne.mpr (by omega)
            go_wp2_with (go_at_call 55; refine ((HFILL _ _ _).out).mono ?_; rintro e w' ⟨rfl, hrow, hgr⟩; have Hrow := Aside0.mk hrow; have Hgr := Aside0.mk hgr; clear hrow hgr)
            go_roundg (go - 1)
            case measure => have := HS.out; have := Hd.out; omega
            case rel =>
              have hrl : run.length = te - (d + 1) := by have := Hto.out; omega
              refine ⟨don ++ List.replicate run.length (f (lastL don) 0), ([] : List Int), ?_, ⟨?_⟩, ⟨?_⟩, ⟨?_⟩, ⟨?_⟩⟩
              · have h1 := Hto.out
                have h2 := Hd.out
                simp only [List.length_append, List.length_replicate]
                congr 1
                omega
              · have h1 := HS.out
                have h3 := Hto.out
                have h4 := Hd.out
                have h5 := congrArg List.length HE.out
                simp only [List.length_append, List.length_replicate, List.length_cons, List.length_nil] at h1 h5 ⊢
                omega
              · have h1 := Hrow.out
                have e : ∀ v : Int, fillSeg (don ++ rest) (d + 1) (te - (d + 1)) v = don ++ (List.replicate run.length v ++ ([] : List Int)) := by
                  intro v
                  have h6 := fillSeg_mid don run ([] : List Int) v
                  rw [Hd.out] at h6
                  rw [← hrl, HE.out]
                  exact h6
                have ev : f la 0 = f (lastL don) 0 := congrArg (fun z => f z 0) HLA.out
                rw [e, ev] at h1
                rw [List.append_assoc]
                exact h1
              · exact (grown_drewN0 HG.out _).trans Hgr.out
              · have h1 := HT.out
                rw [HE.out] at h1
                exact bes_next plainL f _ don run ([] : List Int) h1 HRUN.out (.inl rfl)
    · have hltz : ¬ (d : Int) < (N : Int) := by omega
      go_wp2
      go_end0
      have h0 : rest = [] := by
        have h1 := HS.out.2
        have h2 := Hd.out
        exact List.eq_nil_of_length_eq_zero (by omega)
      subst h0
      have h1 := HT.out
      have h2 := HR.out
      simp [besR] at h1 h2
      rw [h1]
      exact ⟨rfl, h2, HG.out⟩
set_option maxHeartbeats 2000000 in
set_option maxRecDepth 100000 in
theorem clone_calls (A0 : Option Addr) (c0 : Nat) (l0 : List Int) (w : World) (hr0 : Kd.C (Kd.int .i64) w A0 l0.length l0) (hc0 : l0.length ≤ c0) (hlen : l0.length ≤ 100000) :
    Calls Try.prog 52 #[.slice A0 l0.length c0] w fun e w' => ∃ v, e = .returned v ∧ w'.ownsRow w.heap.size 3 1 v l0.length (nums .i64 l0) ∧ Below w.heap.size w w' := by
  cases A0 with
  | none =>
    have h0 : l0 = [] := by
      cases l0 with
      | nil => rfl
      | cons x r =>
        obtain ⟨ad, e0, hx⟩ := Kd.at_int hr0 0 (by omega) (by simp)
        cases e0
    subst h0
    have heq : ∀ W : World, Sem.run Try.prog (binOp .eql 22 (.slice none 0 c0) (.slice none 0 0)) W = .ok (.bool true) W := fun _ => by kernel_rfl
    go_enter Try.func52, Try.ntmps52
    go_wp2
    go_ret
    exact ⟨_, rfl, own_nil _ _ _ _, Below.refl _ _⟩
  | some ad =>
    have heq : ∀ W : World, Sem.run Try.prog (binOp .eql 22 (.slice (some ad) l0.length c0) (.slice none 0 0)) W = .ok (.bool false) W := fun _ => by kernel_rfl
    have HR0 := Aside0.mk hr0
    have HB := Aside0.mk (Below.refl w.heap.size w)
    clear hr0
    obtain ⟨y104, hy104⟩ : ∃ y_ : List Int, y_ = ([] : List Int) := ⟨_, rfl⟩
    have Ny104 := Aside0.mk hy104
    clear hy104
    have LMc5 : Aside0 (y104.length + l0.length < 17592186044416) := ⟨by rw [Ny104.out]; simp; omega⟩
    obtain ⟨y107, hy107⟩ : ∃ y_ : List Int, y_ = (y104 ++ l0) := ⟨_, rfl⟩
    have Ny107 := Aside0.mk hy107
    clear hy107
    go_enter Try.func52, Try.ntmps52
    go_wp2_with (first | ((with_reducible refine gate_dst (N := 5) rfl ?_); refine Kd.R_lit (Kd.int .i64) _ 3 ?hg (N := 5) ?hd (xs := ([] : List Int)) (inner := []) (ok := fun _ => True) (okp := fun _ => True) ?hr ?hp (fun _ hk => hk) trivial (Below.refl _ _) (Nat.le_refl _) (by simp) ?_; (case hd => rfl); (case hg => rfl); (case hr => first | (go_simp; done) | (go_simp; rfl)); (case hp => exact (Reps.none _ _)); intro v105 w6 ho7 hb hg_ hnew_; clear hg_ hnew_; rw [← Ny104.out] at ho7; have n0_ := Aside0.mk (Kd.R_lower ho7 (below_size (by repeat (first | (with_reducible first | exact HB.out | apply below_alloc | apply pw_below_drewN | apply below_drew1) | exact HB.out)))); have n1_ := Aside0.mk (below_step (by repeat (first | (with_reducible first | exact HB.out | apply below_alloc | apply pw_below_drewN | apply below_drew1) | exact HB.out)) hb); clear HB; have HO106 := n0_; have HB := n1_; clear n0_ n1_; clear hb ho7) | ((with_reducible refine gate_builtin (b := .append) (xs := #[.tmp 5, .tmp 6]) rfl ?_); at_builtin; refine Kd.R_append_rows (Kd.int .i64) (w0 := w) w.heap.size rfl (.tmp 5) (.tmp 6) 22 3 (.int .i64 0) 8 rfl Try.underlying22 info3 rfl (by decide) (by omega) v105 y104 l0 _ _ _ (fun _ => True) (fun _ => False) rfl rfl ?aO ?aR (fun _ _ h => h) (fun _ h => h.elim) ?aF ?aB ?aS ?aL ?_; (case aR => repeat (first | exact (Kd.C_below HR0.out HB.out) | (with_reducible refine Kd.C_alloc ?_ _) | (with_reducible refine Kd.C_drewN ?_ _) | (with_reducible refine Kd.C_drew ?_))); (case aB => exact (by repeat (first | (with_reducible first | exact HB.out | apply below_alloc | apply pw_below_drewN | apply below_drew1) | exact HB.out))); (case aF => exact (fun _ _ => trivial)); (case aO => exact (by (with_reducible repeat (first | apply Kd.R_alloc | apply Kd.R_drewN | apply Kd.R_drew)); exact HO106.out)); (case aS => exact (below_size (by repeat (first | (with_reducible first | exact HB.out | apply below_alloc | apply pw_below_drewN | apply below_drew1) | exact HB.out)))); (case aL => have := LMc5.out; omega); intro v108 w8 ho hb hg hat; rw [← Ny107.out] at ho; have n0_ := Aside0.mk (hb); have n1_ := Aside0.mk (ho); clear HB; clear HO106; have HB := n0_; have HO109 := n1_; clear n0_ n1_; clear ho hb hg hat))
    go_ret
    refine ⟨_, rfl, ?_, HB.out⟩
    have h1 := Kd.own_of_R HO109.out
    have h2 : y107 = l0 := by rw [Ny107.out, Ny104.out]; rfl
    rw [h2] at h1
    exact h1
set_option maxHeartbeats 2000000 in
set_option maxRecDepth 100000 in
theorem beside_nil (u1 u2 : Value) (w : World) :
    Calls Try.prog 53 #[.slice none 0 0, u1, u2] w fun e w' => e = .returned (.tuple #[]) ∧ w' = w := by
  go_enter Try.func53, Try.ntmps53
  go_wp2
  go_loopg [6] 0 (fun gg v6 wr => v6 = .int .i64 0 ∧ wr = w)
  case atStart => exact ⟨rfl, rfl⟩
  case round =>
    obtain ⟨rfl, rfl⟩ := hrel
    go_wp2
    go_end0
    exact ⟨rfl, rfl⟩
theorem blk_grown0 {w w1 : World} {row : Option Nat} (h : w.grownBy w1 row) {b : Nat} {o : Obj} (hb : w.heap[b]? = some o) (hne : some b ≠ row) : w1.heap[b]? = some o :=
  (h.block b (Array.getElem?_eq_some_iff.1 hb).1 hne).trans hb
theorem blk_below0 {B : Nat} {w w1 : World} (h : Below B w w1) {b : Nat} {o : Obj} (hb : w.heap[b]? = some o) (hlt : b < B) : w1.heap[b]? = some o :=
  (h.block b hlt).trans hb
set_option maxHeartbeats 2000000 in
theorem beside_any (b1 b2 b3 base N cap : Nat) (A : Option Addr) (b af lv : Int) (xs : List Int) (w : World) (hN : N ≤ 1000000)
    (h1 : w.heap[b1]? = some (.cells #[.int .i64 b] 3 (0, 0))) (h2 : w.heap[b2]? = some (.cells #[.int .i64 af] 3 (0, 0))) (h3 : w.heap[b3]? = some (.cells #[.int .i64 lv] 3 (0, 0)))
    (l1 : b1 < base) (l2 : b2 < base) (l3 : b3 < base) (ho : w.ownsRow base 3 1 (.slice A N cap) N (nums .i64 xs)) :
    Calls Try.prog 53 #[.slice A N cap, .func (.func 54) #[] #[], .func (.func 55) #[] #[.pointer (some ⟨b1, 0, none⟩), .pointer (some ⟨b2, 0, none⟩), .pointer (some ⟨b3, 0, none⟩)]] w fun e w' => e = .returned (.tuple #[]) ∧ w'.ownsRow base 3 1 (.slice A N cap) N (nums .i64 (besR plainL (sideBy b af lv) 0 0 xs)) ∧ Below base w w' := by
  have hx : xs.length = N := by have := ho.1; simp [nums] at this; exact this
  rcases ho.2 with ⟨hv, h0⟩ | ⟨g, c, cur, hv, hbg, hcell, hle, hmx, hsz, htk⟩
  · injection hv with e1 e2 e3
    subst e1 e2 e3
    obtain rfl : xs = [] := List.eq_nil_of_length_eq_zero hx
    refine (beside_nil _ _ w).mono ?_
    rintro e w' ⟨rfl, rfl⟩
    exact ⟨rfl, ho, Below.refl _ _⟩
  · injection hv with e1 e2 e3
    subst e1 e3
    have hglt : g < w.heap.size := (Array.getElem?_eq_some_iff.1 hcell).1
    refine (beside_calls (sideBy b af lv) _ _ _ base g N cap xs w hN hle ?_ ho).mono ?_
    · intro W' a m c ah bh ys hW ham hrow
      have k1 := blk_grown0 hW h1 (fun e => by injection e with e; omega)
      have k2 := blk_grown0 hW h2 (fun e => by injection e with e; omega)
      have k3 := blk_grown0 hW h3 (fun e => by injection e with e; omega)
      exact lp1_calls b1 b2 b3 base g N cap a m c b af lv ah bh ys W' (by omega) ham ((blk_cell k1 0).trans rfl) ((blk_cell k2 0).trans rfl) ((blk_cell k3 0).trans rfl) hrow
    · rintro e w' ⟨rfl, hrow, hgr⟩
      exact ⟨rfl, hrow, (Below.refl base w).grown hgr (by omega) (fun k e => by injection e with e; omega)⟩
theorem besR_len (p : Int → Bool) (f : Int → Int → Int) : ∀ (xs : List Int) (ah : Int) (n : Nat), (besR p f ah n xs).length = n + xs.length
  | [], ah, n => by simp [besR]
  | x :: xs, ah, n => by
    unfold besR
    split
    · rw [besR_len p f xs ah (n + 1), List.length_cons]; omega
    · simp only [List.length_append, List.length_replicate, List.length_cons, besR_len p f xs x 0]; omega
def isSd (x : Int) : Bool := decide (x = 1 ∨ x = 2)
theorem isSide_eq (x : Int) : impl_isSide.f x = some (isSd x) := by
  unfold impl_isSide.f isSd
  by_cases h1 : x = 1 <;> by_cases h2 : x = 2 <;> simp [h1, h2]
def okC (l : List Int) : Bool := decide ((l.length : Int) ≤ 80) && !(l.any fun x => noCl x)
def impl_LevelPlain.f (l0 : List Int) (a1 : Int) (a2 : Int) (a3 : Int) : Option (List Int) :=
  if okC l0 = true ∧ isSd a1 = true ∧ isSd a2 = true ∧ 0 ≤ a3 ∧ a3 ≤ 22 then some (besR plainL (sideBy a1 a2 a3) 0 0 l0) else some []
set_option maxHeartbeats 8000000 in
set_option maxRecDepth 100000 in
theorem impl_LevelPlain.calls (A0 : Option Addr) (c0 : Nat) (l0 : List Int) (a1 : Int) (a2 : Int) (a3 : Int) (r : List Int) (w : World) (hr0 : Kd.C (Kd.int .i64) w A0 l0.length l0) (hc0 : l0.length ≤ c0) (h : impl_LevelPlain.f l0 a1 a2 a3 = some r) :
    Calls Try.prog 15 #[.slice A0 l0.length c0, .int .i64 a1, .int .i64 a2, .int .i64 a3] w fun e w' => ∃ v0_ : Value, e = .returned (v0_) ∧ Kd.R (Kd.int .i64) 3 w' w.heap.size (fun _ => True) v0_ r ∧ Below w.heap.size w w' := by
  have HR0 := Aside0.mk hr0
  have HC0 := Aside0.mk hc0
  have HSd := Aside0.mk (fun (x : Int) (W : World) => impl_isSide.calls x _ W (isSide_eq x))
  have HF := Aside0.mk h
  clear hr0 hc0 h
  generalize hok : okC l0 = k0
  generalize hs1 : isSd a1 = k1
  generalize hs2 : isSd a2 = k2
  have HOK : Aside0 (impl_classesOk.f l0 = some k0) := ⟨by rw [← hok]; rfl⟩
  have Hs1 := Aside0.mk hs1
  have Hs2 := Aside0.mk hs2
  have Hok := Aside0.mk hok
  clear hok hs1 hs2
  cases k0 with
  | false =>
    have HE : Aside0 (r = []) := ⟨by have := HF.out; unfold impl_LevelPlain.f at this; rw [if_neg (fun g => by rw [Hok.out] at g; cases g.1)] at this; exact (Option.some.inj this).symm⟩
    go_enter Try.func15, Try.ntmps15
    go_wp2_with (first | ((with_reducible refine gate_dst (N := 5) rfl ?_); refine box_event ?hg (N := 5) ?hd (cs := #[.int .i64 a1]) (t := 3) ?hr ?_; (case hd => rfl); (case hg => rfl); (case hr => first | (go_simp; done) | (go_simp; rfl)); intro b1 hb1 w1 hbox1 hbel1; clear hb1; have HBW := Aside0.mk hbel1; have HX1 := Aside0.mk hbox1; clear hbox1 hbel1) | ((with_reducible refine gate_dst (N := 6) rfl ?_); refine box_event ?hg (N := 6) ?hd (cs := #[.int .i64 a2]) (t := 3) ?hr ?_; (case hd => rfl); (case hg => rfl); (case hr => first | (go_simp; done) | (go_simp; rfl)); intro b2 hb2 w2 hbox2 hbel2; clear hb2; have hbox1_2 := blk_below0 hbel2 HX1.out (blk_lt HX1.out); clear HX1; have HX1 := Aside0.mk hbox1_2; clear hbox1_2; have hbw := below_step HBW.out hbel2; clear HBW; have HBW := Aside0.mk hbw; clear hbw; have HX2 := Aside0.mk hbox2; clear hbox2 hbel2) | ((with_reducible refine gate_dst (N := 7) rfl ?_); refine box_event ?hg (N := 7) ?hd (cs := #[.int .i64 a3]) (t := 3) ?hr ?_; (case hd => rfl); (case hg => rfl); (case hr => first | (go_simp; done) | (go_simp; rfl)); intro b3 hb3 w3 hbox3 hbel3; clear hb3; have hbox1_3 := blk_below0 hbel3 HX1.out (blk_lt HX1.out); clear HX1; have HX1 := Aside0.mk hbox1_3; clear hbox1_3; have hbox2_3 := blk_below0 hbel3 HX2.out (blk_lt HX2.out); clear HX2; have HX2 := Aside0.mk hbox2_3; clear hbox2_3; have hbw := below_step HBW.out hbel3; clear HBW; have HBW := Aside0.mk hbw; clear hbw; have HX3 := Aside0.mk hbox3; have c1 : w3.cell? ⟨b1, 0, none⟩ = some (.int .i64 a1) := (blk_cell HX1.out 0).trans rfl; have c2 : w3.cell? ⟨b2, 0, none⟩ = some (.int .i64 a2) := (blk_cell HX2.out 0).trans rfl; have c3 : w3.cell? ⟨b3, 0, none⟩ = some (.int .i64 a3) := (blk_cell HX3.out 0).trans rfl; clear hbox3 hbel3) | (go_at_call 50; refine (impl_classesOk.calls A0 c0 l0 _ _ (by repeat (first | exact (Kd.C_below HR0.out HBW.out) | (with_reducible refine Kd.C_drewN ?_ _) | (with_reducible refine Kd.C_drew ?_))) HC0.out HOK.out).mono ?_; rintro e w' ⟨rfl, ⟨q1, rfl⟩⟩) | (go_at_call 51; refine (HSd.out _ _).mono ?_; rintro e w' ⟨rfl, ⟨q2, rfl⟩⟩; first | rw [Hs1.out] | rw [Hs2.out]))
    go_ret
    exact ⟨_, rfl, by rw [HE.out]; exact Kd.R_nil _ _ _ _ _, pw_below_drewN HBW.out _⟩
  | true =>
    cases k1 with
    | false =>
      have HE : Aside0 (r = []) := ⟨by have := HF.out; unfold impl_LevelPlain.f at this; rw [if_neg (fun g => by rw [Hs1.out] at g; cases g.2.1)] at this; exact (Option.some.inj this).symm⟩
      go_enter Try.func15, Try.ntmps15
      go_wp2_with (first | ((with_reducible refine gate_dst (N := 5) rfl ?_); refine box_event ?hg (N := 5) ?hd (cs := #[.int .i64 a1]) (t := 3) ?hr ?_; (case hd => rfl); (case hg => rfl); (case hr => first | (go_simp; done) | (go_simp; rfl)); intro b1 hb1 w1 hbox1 hbel1; clear hb1; have HBW := Aside0.mk hbel1; have HX1 := Aside0.mk hbox1; clear hbox1 hbel1) | ((with_reducible refine gate_dst (N := 6) rfl ?_); refine box_event ?hg (N := 6) ?hd (cs := #[.int .i64 a2]) (t := 3) ?hr ?_; (case hd => rfl); (case hg => rfl); (case hr => first | (go_simp; done) | (go_simp; rfl)); intro b2 hb2 w2 hbox2 hbel2; clear hb2; have hbox1_2 := blk_below0 hbel2 HX1.out (blk_lt HX1.out); clear HX1; have HX1 := Aside0.mk hbox1_2; clear hbox1_2; have hbw := below_step HBW.out hbel2; clear HBW; have HBW := Aside0.mk hbw; clear hbw; have HX2 := Aside0.mk hbox2; clear hbox2 hbel2) | ((with_reducible refine gate_dst (N := 7) rfl ?_); refine box_event ?hg (N := 7) ?hd (cs := #[.int .i64 a3]) (t := 3) ?hr ?_; (case hd => rfl); (case hg => rfl); (case hr => first | (go_simp; done) | (go_simp; rfl)); intro b3 hb3 w3 hbox3 hbel3; clear hb3; have hbox1_3 := blk_below0 hbel3 HX1.out (blk_lt HX1.out); clear HX1; have HX1 := Aside0.mk hbox1_3; clear hbox1_3; have hbox2_3 := blk_below0 hbel3 HX2.out (blk_lt HX2.out); clear HX2; have HX2 := Aside0.mk hbox2_3; clear hbox2_3; have hbw := below_step HBW.out hbel3; clear HBW; have HBW := Aside0.mk hbw; clear hbw; have HX3 := Aside0.mk hbox3; have c1 : w3.cell? ⟨b1, 0, none⟩ = some (.int .i64 a1) := (blk_cell HX1.out 0).trans rfl; have c2 : w3.cell? ⟨b2, 0, none⟩ = some (.int .i64 a2) := (blk_cell HX2.out 0).trans rfl; have c3 : w3.cell? ⟨b3, 0, none⟩ = some (.int .i64 a3) := (blk_cell HX3.out 0).trans rfl; clear hbox3 hbel3) | (go_at_call 50; refine (impl_classesOk.calls A0 c0 l0 _ _ (by repeat (first | exact (Kd.C_below HR0.out HBW.out) | (with_reducible refine Kd.C_drewN ?_ _) | (with_reducible refine Kd.C_drew ?_))) HC0.out HOK.out).mono ?_; rintro e w' ⟨rfl, ⟨q1, rfl⟩⟩) | (go_at_call 51; refine (HSd.out _ _).mono ?_; rintro e w' ⟨rfl, ⟨q2, rfl⟩⟩; first | rw [Hs1.out] | rw [Hs2.out]))
      go_ret
      exact ⟨_, rfl, by rw [HE.out]; exact Kd.R_nil _ _ _ _ _, pw_below_drewN HBW.out _⟩
    | true =>
      cases k2 with
      | false =>
        have HE : Aside0 (r = []) := ⟨by have := HF.out; unfold impl_LevelPlain.f at this; rw [if_neg (fun g => by rw [Hs2.out] at g; cases g.2.2.1)] at this; exact (Option.some.inj this).symm⟩
        go_enter Try.func15, Try.ntmps15
        go_wp2_with (first | ((with_reducible refine gate_dst (N := 5) rfl ?_); refine box_event ?hg (N := 5) ?hd (cs := #[.int .i64 a1]) (t := 3) ?hr ?_; (case hd => rfl); (case hg => rfl); (case hr => first | (go_simp; done) | (go_simp; rfl)); intro b1 hb1 w1 hbox1 hbel1; clear hb1; have HBW := Aside0.mk hbel1; have HX1 := Aside0.mk hbox1; clear hbox1 hbel1) | ((with_reducible refine gate_dst (N := 6) rfl ?_); refine box_event ?hg (N := 6) ?hd (cs := #[.int .i64 a2]) (t := 3) ?hr ?_; (case hd => rfl); (case hg => rfl); (case hr => first | (go_simp; done) | (go_simp; rfl)); intro b2 hb2 w2 hbox2 hbel2; clear hb2; have hbox1_2 := blk_below0 hbel2 HX1.out (blk_lt HX1.out); clear HX1; have HX1 := Aside0.mk hbox1_2; clear hbox1_2; have hbw := below_step HBW.out hbel2; clear HBW; have HBW := Aside0.mk hbw; clear hbw; have HX2 := Aside0.mk hbox2; clear hbox2 hbel2) | ((with_reducible refine gate_dst (N := 7) rfl ?_); refine box_event ?hg (N := 7) ?hd (cs := #[.int .i64 a3]) (t := 3) ?hr ?_; (case hd => rfl); (case hg => rfl); (case hr => first | (go_simp; done) | (go_simp; rfl)); intro b3 hb3 w3 hbox3 hbel3; clear hb3; have hbox1_3 := blk_below0 hbel3 HX1.out (blk_lt HX1.out); clear HX1; have HX1 := Aside0.mk hbox1_3; clear hbox1_3; have hbox2_3 := blk_below0 hbel3 HX2.out (blk_lt HX2.out); clear HX2; have HX2 := Aside0.mk hbox2_3; clear hbox2_3; have hbw := below_step HBW.out hbel3; clear HBW; have HBW := Aside0.mk hbw; clear hbw; have HX3 := Aside0.mk hbox3; have c1 : w3.cell? ⟨b1, 0, none⟩ = some (.int .i64 a1) := (blk_cell HX1.out 0).trans rfl; have c2 : w3.cell? ⟨b2, 0, none⟩ = some (.int .i64 a2) := (blk_cell HX2.out 0).trans rfl; have c3 : w3.cell? ⟨b3, 0, none⟩ = some (.int .i64 a3) := (blk_cell HX3.out 0).trans rfl; clear hbox3 hbel3) | (go_at_call 50; refine (impl_classesOk.calls A0 c0 l0 _ _ (by repeat (first | exact (Kd.C_below HR0.out HBW.out) | (with_reducible refine Kd.C_drewN ?_ _) | (with_reducible refine Kd.C_drew ?_))) HC0.out HOK.out).mono ?_; rintro e w' ⟨rfl, ⟨q1, rfl⟩⟩) | (go_at_call 51; refine (HSd.out _ _).mono ?_; rintro e w' ⟨rfl, ⟨q2, rfl⟩⟩; first | rw [Hs1.out] | rw [Hs2.out]))
        go_ret
        exact ⟨_, rfl, by rw [HE.out]; exact Kd.R_nil _ _ _ _ _, pw_below_drewN HBW.out _⟩
      | true =>
        by_cases g3 : a3 < 0
        · have g3b : decide (a3 < 0) = true := decide_eq_true g3
          have G3 := Aside0.mk g3
          clear g3
          have HE : Aside0 (r = []) := ⟨by have := HF.out; unfold impl_LevelPlain.f at this; rw [if_neg (fun g => by have := g.2.2.2.1; have := G3.out; omega)] at this; exact (Option.some.inj this).symm⟩
          go_enter Try.func15, Try.ntmps15
          go_wp2_with (first | ((with_reducible refine gate_dst (N := 5) rfl ?_); refine box_event ?hg (N := 5) ?hd (cs := #[.int .i64 a1]) (t := 3) ?hr ?_; (case hd => rfl); (case hg => rfl); (case hr => first | (go_simp; done) | (go_simp; rfl)); intro b1 hb1 w1 hbox1 hbel1; clear hb1; have HBW := Aside0.mk hbel1; have HX1 := Aside0.mk hbox1; clear hbox1 hbel1) | ((with_reducible refine gate_dst (N := 6) rfl ?_); refine box_event ?hg (N := 6) ?hd (cs := #[.int .i64 a2]) (t := 3) ?hr ?_; (case hd => rfl); (case hg => rfl); (case hr => first | (go_simp; done) | (go_simp; rfl)); intro b2 hb2 w2 hbox2 hbel2; clear hb2; have hbox1_2 := blk_below0 hbel2 HX1.out (blk_lt HX1.out); clear HX1; have HX1 := Aside0.mk hbox1_2; clear hbox1_2; have hbw := below_step HBW.out hbel2; clear HBW; have HBW := Aside0.mk hbw; clear hbw; have HX2 := Aside0.mk hbox2; clear hbox2 hbel2) | ((with_reducible refine gate_dst (N := 7) rfl ?_); refine box_event ?hg (N := 7) ?hd (cs := #[.int .i64 a3]) (t := 3) ?hr ?_; (case hd => rfl); (case hg => rfl); (case hr => first | (go_simp; done) | (go_simp; rfl)); intro b3 hb3 w3 hbox3 hbel3; clear hb3; have hbox1_3 := blk_below0 hbel3 HX1.out (blk_lt HX1.out); clear HX1; have HX1 := Aside0.mk hbox1_3; clear hbox1_3; have hbox2_3 := blk_below0 hbel3 HX2.out (blk_lt HX2.out); clear HX2; have HX2 := Aside0.mk hbox2_3; clear hbox2_3; have hbw := below_step HBW.out hbel3; clear HBW; have HBW := Aside0.mk hbw; clear hbw; have HX3 := Aside0.mk hbox3; have c1 : w3.cell? ⟨b1, 0, none⟩ = some (.int .i64 a1) := (blk_cell HX1.out 0).trans rfl; have c2 : w3.cell? ⟨b2, 0, none⟩ = some (.int .i64 a2) := (blk_cell HX2.out 0).trans rfl; have c3 : w3.cell? ⟨b3, 0, none⟩ = some (.int .i64 a3) := (blk_cell HX3.out 0).trans rfl; clear hbox3 hbel3) | (go_at_call 50; refine (impl_classesOk.calls A0 c0 l0 _ _ (by repeat (first | exact (Kd.C_below HR0.out HBW.out) | (with_reducible refine Kd.C_drewN ?_ _) | (with_reducible refine Kd.C_drew ?_))) HC0.out HOK.out).mono ?_; rintro e w' ⟨rfl, ⟨q1, rfl⟩⟩) | (go_at_call 51; refine (HSd.out _ _).mono ?_; rintro e w' ⟨rfl, ⟨q2, rfl⟩⟩; first | rw [Hs1.out] | rw [Hs2.out]))
          go_ret
          exact ⟨_, rfl, by rw [HE.out]; exact Kd.R_nil _ _ _ _ _, pw_below_drewN HBW.out _⟩
        · have g3b : decide (a3 < 0) = false := decide_eq_false g3
          by_cases g4 : 22 < a3
          · have g4b : decide (22 < a3) = true := decide_eq_true g4
            have G4 := Aside0.mk g4
            clear g4
            have HE : Aside0 (r = []) := ⟨by have := HF.out; unfold impl_LevelPlain.f at this; rw [if_neg (fun g => by have := g.2.2.2.2; have := G4.out; omega)] at this; exact (Option.some.inj this).symm⟩
            go_enter Try.func15, Try.ntmps15
            go_wp2_with (first | ((with_reducible refine gate_dst (N := 5) rfl ?_); refine box_event ?hg (N := 5) ?hd (cs := #[.int .i64 a1]) (t := 3) ?hr ?_; (case hd => rfl); (case hg => rfl); (case hr => first | (go_simp; done) | (go_simp; rfl)); intro b1 hb1 w1 hbox1 hbel1; clear hb1; have HBW := Aside0.mk hbel1; have HX1 := Aside0.mk hbox1; clear hbox1 hbel1) | ((with_reducible refine gate_dst (N := 6) rfl ?_); refine box_event ?hg (N := 6) ?hd (cs := #[.int .i64 a2]) (t := 3) ?hr ?_; (case hd => rfl); (case hg => rfl); (case hr => first | (go_simp; done) | (go_simp; rfl)); intro b2 hb2 w2 hbox2 hbel2; clear hb2; have hbox1_2 := blk_below0 hbel2 HX1.out (blk_lt HX1.out); clear HX1; have HX1 := Aside0.mk hbox1_2; clear hbox1_2; have hbw := below_step HBW.out hbel2; clear HBW; have HBW := Aside0.mk hbw; clear hbw; have HX2 := Aside0.mk hbox2; clear hbox2 hbel2) | ((with_reducible refine gate_dst (N := 7) rfl ?_); refine box_event ?hg (N := 7) ?hd (cs := #[.int .i64 a3]) (t := 3) ?hr ?_; (case hd => rfl); (case hg => rfl); (case hr => first | (go_simp; done) | (go_simp; rfl)); intro b3 hb3 w3 hbox3 hbel3; clear hb3; have hbox1_3 := blk_below0 hbel3 HX1.out (blk_lt HX1.out); clear HX1; have HX1 := Aside0.mk hbox1_3; clear hbox1_3; have hbox2_3 := blk_below0 hbel3 HX2.out (blk_lt HX2.out); clear HX2; have HX2 := Aside0.mk hbox2_3; clear hbox2_3; have hbw := below_step HBW.out hbel3; clear HBW; have HBW := Aside0.mk hbw; clear hbw; have HX3 := Aside0.mk hbox3; have c1 : w3.cell? ⟨b1, 0, none⟩ = some (.int .i64 a1) := (blk_cell HX1.out 0).trans rfl; have c2 : w3.cell? ⟨b2, 0, none⟩ = some (.int .i64 a2) := (blk_cell HX2.out 0).trans rfl; have c3 : w3.cell? ⟨b3, 0, none⟩ = some (.int .i64 a3) := (blk_cell HX3.out 0).trans rfl; clear hbox3 hbel3) | (go_at_call 50; refine (impl_classesOk.calls A0 c0 l0 _ _ (by repeat (first | exact (Kd.C_below HR0.out HBW.out) | (with_reducible refine Kd.C_drewN ?_ _) | (with_reducible refine Kd.C_drew ?_))) HC0.out HOK.out).mono ?_; rintro e w' ⟨rfl, ⟨q1, rfl⟩⟩) | (go_at_call 51; refine (HSd.out _ _).mono ?_; rintro e w' ⟨rfl, ⟨q2, rfl⟩⟩; first | rw [Hs1.out] | rw [Hs2.out]))
            go_ret
            exact ⟨_, rfl, by rw [HE.out]; exact Kd.R_nil _ _ _ _ _, pw_below_drewN HBW.out _⟩
          · have g4b : decide (22 < a3) = false := decide_eq_false g4
            have HE : Aside0 (r = besR plainL (sideBy a1 a2 a3) 0 0 l0) := ⟨by have := HF.out; unfold impl_LevelPlain.f at this; rw [if_pos ⟨Hok.out, Hs1.out, Hs2.out, by omega, by omega⟩] at this; exact (Option.some.inj this).symm⟩
            have HLN : Aside0 (l0.length ≤ 100000) := ⟨by have := Hok.out; unfold okC at this; rw [Bool.and_eq_true, decide_eq_true_eq] at this; omega⟩
            have HLN2 : Aside0 (l0.length ≤ 1000000) := ⟨by have := HLN.out; omega⟩
            clear g3 g4
            go_enter Try.func15, Try.ntmps15
            go_wp2_with (first | ((with_reducible refine gate_dst (N := 5) rfl ?_); refine box_event ?hg (N := 5) ?hd (cs := #[.int .i64 a1]) (t := 3) ?hr ?_; (case hd => rfl); (case hg => rfl); (case hr => first | (go_simp; done) | (go_simp; rfl)); intro b1 hb1 w1 hbox1 hbel1; clear hb1; have HBW := Aside0.mk hbel1; have HX1 := Aside0.mk hbox1; clear hbox1 hbel1) | ((with_reducible refine gate_dst (N := 6) rfl ?_); refine box_event ?hg (N := 6) ?hd (cs := #[.int .i64 a2]) (t := 3) ?hr ?_; (case hd => rfl); (case hg => rfl); (case hr => first | (go_simp; done) | (go_simp; rfl)); intro b2 hb2 w2 hbox2 hbel2; clear hb2; have hbox1_2 := blk_below0 hbel2 HX1.out (blk_lt HX1.out); clear HX1; have HX1 := Aside0.mk hbox1_2; clear hbox1_2; have hbw := below_step HBW.out hbel2; clear HBW; have HBW := Aside0.mk hbw; clear hbw; have HX2 := Aside0.mk hbox2; clear hbox2 hbel2) | ((with_reducible refine gate_dst (N := 7) rfl ?_); refine box_event ?hg (N := 7) ?hd (cs := #[.int .i64 a3]) (t := 3) ?hr ?_; (case hd => rfl); (case hg => rfl); (case hr => first | (go_simp; done) | (go_simp; rfl)); intro b3 hb3 w3 hbox3 hbel3; clear hb3; have hbox1_3 := blk_below0 hbel3 HX1.out (blk_lt HX1.out); clear HX1; have HX1 := Aside0.mk hbox1_3; clear hbox1_3; have hbox2_3 := blk_below0 hbel3 HX2.out (blk_lt HX2.out); clear HX2; have HX2 := Aside0.mk hbox2_3; clear hbox2_3; have hbw := below_step HBW.out hbel3; clear HBW; have HBW := Aside0.mk hbw; clear hbw; have HX3 := Aside0.mk hbox3; have c1 : w3.cell? ⟨b1, 0, none⟩ = some (.int .i64 a1) := (blk_cell HX1.out 0).trans rfl; have c2 : w3.cell? ⟨b2, 0, none⟩ = some (.int .i64 a2) := (blk_cell HX2.out 0).trans rfl; have c3 : w3.cell? ⟨b3, 0, none⟩ = some (.int .i64 a3) := (blk_cell HX3.out 0).trans rfl; clear hbox3 hbel3) | (go_at_call 50; refine (impl_classesOk.calls A0 c0 l0 _ _ (by repeat (first | exact (Kd.C_below HR0.out HBW.out) | (with_reducible refine Kd.C_drewN ?_ _) | (with_reducible refine Kd.C_drew ?_))) HC0.out HOK.out).mono ?_; rintro e w' ⟨rfl, ⟨q1, rfl⟩⟩) | (go_at_call 51; refine (HSd.out _ _).mono ?_; rintro e w' ⟨rfl, ⟨q2, rfl⟩⟩; first | rw [Hs1.out] | rw [Hs2.out]) | (go_at_call 52; refine (clone_calls A0 c0 l0 _ (by repeat (first | exact (Kd.C_below HR0.out HBW.out) | (with_reducible refine Kd.C_drewN ?_ _) | (with_reducible refine Kd.C_drew ?_))) HC0.out HLN.out).mono ?_; rintro e w' ⟨v, rfl, hown, hbc⟩; obtain ⟨A9, c9, rfl⟩ := own_slice hown; have HOWN := Aside0.mk hown; have HBC := Aside0.mk hbc; clear hown hbc) | (go_at_call 53; refine (beside_any b1 b2 b3 _ _ _ _ a1 a2 a3 l0 _ HLN2.out (blk_below0 HBC.out HX1.out (blk_lt HX1.out)) (blk_below0 HBC.out HX2.out (blk_lt HX2.out)) (blk_below0 HBC.out HX3.out (blk_lt HX3.out)) (blk_lt HX1.out) (blk_lt HX2.out) (blk_lt HX3.out) HOWN.out).mono ?_; rintro e w' ⟨rfl, hown, hbb⟩; have HOWN2 := Aside0.mk hown; have HBB := Aside0.mk hbb; clear hown hbb))
            go_ret
            refine ⟨_, rfl, ?_, ?_⟩
            · rw [HE.out]
              have h1 := own_less HOWN2.out HBW.out.size
              refine Kd.R_of_own ?_ (fun _ _ => trivial)
              rw [besR_len, Nat.zero_add]
              exact h1
            · exact below_weaken (below_step (pw_below_drewN HBW.out _) HBC.out) HBW.out.size HBB.out


/-- A state of type 95 at block g of W; what its slices lead to came in by w0. -/
def IsS95 (w0 W : World) (g : Nat) (f0 : List Int) (f1 : Int) : Prop := ∃ A0 c0, W.heap[g]? = some (.cells #[.slice A0 f0.length c0, .int .i64 f1] 95 (0, 0)) ∧ w0.heap.size ≤ g ∧ Kd.C (Kd.int .u8) w0 A0 f0.length f0
theorem IsS95.grown {w0 W : World} {g : Nat} {f0 : List Int} {f1 : Int} {W1 : World} {row : Option Nat} (h : IsS95 w0 W g f0 f1) (hw : W.grownBy W1 row) (hne : some g ≠ row) : IsS95 w0 W1 g f0 f1 := by
  obtain ⟨A0, c0, hb, hg, hr0⟩ := h
  exact ⟨A0, c0, blk_grown hb hw hne, hg, hr0⟩
theorem IsS95.own_neN {w0 W : World} {g : Nat} {f0 : List Int} {f1 : Int} {α : Type} {d : Kd α} {e : Nat} {base : Nat} {ok : Nat → Prop} {v : Value} {xs : List α} (h : IsS95 w0 W g f0 f1) (ho : Kd.N d e W base ok v xs) (ht : e ≠ 95) : some g ≠ v.ownBlock := by
  obtain ⟨A0, c0, hb, hg, hr0⟩ := h
  exact Kd.N_ne ho hb ht
theorem IsS95.fresh {w0 W : World} {g : Nat} {f0 : List Int} {f1 : Int} (h : IsS95 w0 W g f0 f1) : ∀ k, W.heap.size ≤ k → k ≠ g := by
  obtain ⟨A0, c0, hb, hg, hr0⟩ := h
  exact Kd.freshB hb
theorem IsS95.kept {w0 W : World} {g : Nat} {f0 : List Int} {f1 : Int} {W1 : World} {S : Nat → Prop} (h : IsS95 w0 W g f0 f1) (hk : Kept W W1 S) (hne : ¬ S g) : IsS95 w0 W1 g f0 f1 := by
  obtain ⟨A0, c0, hb, hg, hr0⟩ := h
  exact ⟨A0, c0, blk_kept hb hk hne, hg, hr0⟩
theorem IsS95.below {w0 W : World} {g : Nat} {f0 : List Int} {f1 : Int} {W1 : World} (h : IsS95 w0 W g f0 f1) (hw : Below W.heap.size W W1) : IsS95 w0 W1 g f0 f1 := h.grown (grown_of_below hw none) (by simp)
theorem IsS95.alloc {w0 W : World} {g : Nat} {f0 : List Int} {f1 : Int} (h : IsS95 w0 W g f0 f1) (o : Obj) : IsS95 w0 (W.alloc o) g f0 f1 := h.below (below_alloc (Below.refl _ _) o)
theorem IsS95.drewN {w0 W : World} {g : Nat} {f0 : List Int} {f1 : Int} (h : IsS95 w0 W g f0 f1) (m : Nat) : IsS95 w0 (W.drewN m) g f0 f1 := h
theorem IsS95.drew {w0 W : World} {g : Nat} {f0 : List Int} {f1 : Int} (h : IsS95 w0 W g f0 f1) : IsS95 w0 W.drew g f0 f1 := h
theorem IsS95.at_ {w0 W : World} {g : Nat} {f0 : List Int} {f1 : Int} {w' : World} {m : Nat} (hq : W.drewN m = w') (h : IsS95 w0 W g f0 f1) : IsS95 w0 w' g f0 f1 := by subst hq; exact IsS95.drewN h m
theorem IsS95.apart {w0 W : World} {g : Nat} {f0 : List Int} {f1 : Int} {α : Type} {d : Kd α} {e : Nat} {base : Nat} {ok : Nat → Prop} {v : Value} {xs : List α} (h : IsS95 w0 W g f0 f1) (ho : d.R e W base ok v xs) (ht : ∀ q, q ∈ e :: d.E → q ≠ 95) : d.R e W base (fun k => ok k ∧ k ≠ g) v xs := by
  obtain ⟨A0, c0, hb, hg, hr0⟩ := h
  exact Kd.R_types ho hb ht
theorem IsS95.own_ne {w0 W : World} {g : Nat} {f0 : List Int} {f1 : Int} {α : Type} {d : Kd α} {e : Nat} {base : Nat} {ok : Nat → Prop} {v : Value} {xs : List α} (h : IsS95 w0 W g f0 f1) (ho : d.R e W base ok v xs) (ht : e ≠ 95) : some g ≠ v.ownBlock := by
  obtain ⟨A0, c0, hb, hg, hr0⟩ := h
  exact Kd.R_ne ho hb ht
theorem IsS95.apartQ {w0 W : World} {g : Nat} {f0 : List Int} {f1 : Int} {α : Type} {d : Kd α} {e : Nat} {base : Nat} {ok : Nat → Prop} {v : Value} {xs : List α} (h : IsS95 w0 W g f0 f1) (ho : d.Q e W base ok v xs) (ht : ∀ q, q ∈ e :: d.E → q ≠ 95) : d.Q e W base (fun k => ok k ∧ k ≠ g) v xs := by
  obtain ⟨A0, c0, hb, hg, hr0⟩ := h
  exact Kd.Q_types ho hb ht
theorem IsS95.own_neQ {w0 W : World} {g : Nat} {f0 : List Int} {f1 : Int} {α : Type} {d : Kd α} {e : Nat} {base : Nat} {ok : Nat → Prop} {v : Value} {xs : List α} (h : IsS95 w0 W g f0 f1) (ho : d.Q e W base ok v xs) (ht : e ≠ 95) : some g ≠ v.ownBlock := by
  obtain ⟨A0, c0, hb, hg, hr0⟩ := h
  exact Kd.Q_ne ho hb ht
theorem IsS95.apartS {w0 W : World} {g : Nat} {f0 : List Int} {f1 : Int} {α : Type} {d : Kd α} {e : Nat} {base : Nat} {ok : Nat → Prop} {v : Value} {xs : List α} (h : IsS95 w0 W g f0 f1) (ho : d.S e W base ok v xs) (ht : ∀ q, q ∈ e :: d.E → q ≠ 95) : d.S e W base (fun k => ok k ∧ k ≠ g) v xs := by
  obtain ⟨A0, c0, hb, hg, hr0⟩ := h
  exact Kd.S_types ho hb ht
theorem IsS95.own_neS {w0 W : World} {g : Nat} {f0 : List Int} {f1 : Int} {α : Type} {d : Kd α} {e : Nat} {base : Nat} {ok : Nat → Prop} {v : Value} {xs : List α} (h : IsS95 w0 W g f0 f1) (ho : d.S e W base ok v xs) (ht : e ≠ 95) : some g ≠ v.ownBlock := by
  obtain ⟨A0, c0, hb, hg, hr0⟩ := h
  exact Kd.S_ne ho hb ht
theorem IsS95.lt {w0 W : World} {g : Nat} {f0 : List Int} {f1 : Int} (h : IsS95 w0 W g f0 f1) : g < W.heap.size := by
  obtain ⟨A0, c0, hb, hg, hr0⟩ := h
  exact blk_lt hb
theorem IsS95.ge {w0 W : World} {g : Nat} {f0 : List Int} {f1 : Int} (h : IsS95 w0 W g f0 f1) : w0.heap.size ≤ g := by
  obtain ⟨A0, c0, hb, hg, hr0⟩ := h
  exact hg
theorem IsS95.ne_blk {w0 W : World} {g : Nat} {f0 : List Int} {f1 : Int} {a : Nat} {cs : Array Value} {t : TypeId} {fr : Nat × Nat} (h : IsS95 w0 W g f0 f1) (hb2 : W.heap[a]? = some (.cells cs t fr)) (ht : t ≠ 95) : g ≠ a := by
  obtain ⟨A0, c0, hb, hg, hr0⟩ := h
  rintro rfl
  rw [hb] at hb2
  injection hb2 with hb2
  injection hb2 with _ ht2
  exact ht ht2.symm
theorem IsS95.far {w0 W : World} {g : Nat} {f0 : List Int} {f1 : Int} {p : Addr} (h : IsS95 w0 W g f0 f1) (hne : g ≠ p.block) (u : Value) : IsS95 w0 (W.setCell p u) g f0 f1 := by
  obtain ⟨A0, c0, hb, hg, hr0⟩ := h
  exact ⟨A0, c0, blk_far hb hne u, hg, hr0⟩
theorem cellS95_0 {W : World} {g : Nat} {A0 : Option Addr} {c0 : Nat} {f0 : List Int} {f1 : Int} (h : W.heap[g]? = some (.cells #[.slice A0 f0.length c0, .int .i64 f1] 95 (0, 0))) : W.cell? ⟨g, 0, none⟩ = some (.slice A0 f0.length c0) := (blk_cell h 0).trans rfl
theorem cellS95_1 {W : World} {g : Nat} {A0 : Option Addr} {c0 : Nat} {f0 : List Int} {f1 : Int} (h : W.heap[g]? = some (.cells #[.slice A0 f0.length c0, .int .i64 f1] 95 (0, 0))) : W.cell? ⟨g, 1, none⟩ = some (.int .i64 f1) := (blk_cell h 1).trans rfl
theorem IsS95.set_1 {w0 W : World} {g : Nat} {f0 : List Int} {f1 : Int} (h : IsS95 w0 W g f0 f1) (x : Int) : IsS95 w0 (W.setCell ⟨g, 1, none⟩ (.int .i64 x)) g f0 x := by
  obtain ⟨A0, c0, hb, hg, hr0⟩ := h
  exact ⟨A0, c0, by simpa using blk_set hb 1 (.int .i64 x), hg, hr0⟩
theorem IsS95.new (w0 W : World) (A0 : Option Addr) (c0 : Nat) (f0 : List Int) (f1 : Int) (hB : Below w0.heap.size w0 W) (hr0 : Kd.C (Kd.int .u8) w0 A0 f0.length f0) : IsS95 w0 (W.alloc (.cells #[.slice A0 f0.length c0, .int .i64 f1] 95)) W.heap.size f0 f1 := ⟨A0, c0, by simpa using heap_alloc_new W _, hB.size, hr0⟩

/-! ### spec_l1Open: function 59 -/
def spec_l1Open.f (l0 : List Int) : Option (List Int × Int) := if (l0.length : Int) > 2000 then (if 2000 ≤ (l0.length : Int) then (some (l0.take 2000, 0)) else (none)) else (some (l0, 0))
set_option maxHeartbeats 8000000 in
set_option maxRecDepth 100000 in
theorem spec_l1Open.calls (A0 : Option Addr) (c0 : Nat) (l0 : List Int) (r1 : List Int) (r2 : Int) (w0 w : World) (hB : Below w0.heap.size w0 w) (hr0 : Kd.C (Kd.int .u8) w0 A0 l0.length l0) (hc0 : l0.length ≤ c0) (h : spec_l1Open.f l0 = some (r1, r2)) :
    Calls Try.prog 59 #[.slice A0 l0.length c0] w fun e w' => ∃ g_ : Nat, e = .returned (.pointer (some ⟨g_, 0, none⟩)) ∧ IsS95 w0 w' g_ r1 r2 ∧ Below w0.heap.size w0 w' ∧ Below w.heap.size w w' := by
  have hu95 := Try.underlying95
  have HR0 := Aside0.mk hr0
  have HC0 := Aside0.mk hc0
  clear hr0 hc0
  have HBW := Aside0.mk (Below.refl w.heap.size w)
  have HW0 := Aside0.mk hB.size
  have HB := Aside0.mk hB
  clear hB
  have H : (if (l0.length : Int) > 2000 then (if 2000 ≤ (l0.length : Int) then (some (l0.take 2000, 0)) else (none)) else (some (l0, 0))) = some (r1, r2) := h
  clear h
  by_cases c2 : (l0.length : Int) > 2000
  · rw [if_pos c2] at H
    have c2b0 : decide (2000 < (l0.length : Int)) = true := decide_eq_true c2
    have c2b1 : decide (2000 < l0.length) = true := decide_eq_true (by omega)
    clear c2
    by_cases c3 : 2000 ≤ (l0.length : Int)
    · rw [if_pos c3] at H
      have c3b0 := eq_true c3
      have c3b1 : decide (2000 ≤ (l0.length : Int)) = true := decide_eq_true c3
      clear c3
      simp only [Option.some.injEq, Prod.mk.injEq] at H
      obtain ⟨rfl, rfl⟩ := H
      obtain ⟨i04, hi04, _, hsz4, _⟩ := info_parts info5
      obtain ⟨hcut4, hA4, hC4⟩ := print_take_of (P := Try.prog) (Value.int .u8) 0 28 5 .i64 Try.underlying28 hi04 hsz4 A0 c0 l0 2000 (by omega) (of_decide_eq_true (by first | (with_reducible assumption) | assumption)) HC0.out
      have HR138 := Aside0.mk (Kd.C_of_reads (h1 := fun _ => rfl) (hA4 _ (Kd.reads_of_C HR0.out)))
      have HC138 := Aside0.mk hC4
      clear hA4 hC4 hi04 hsz4
      go_enter Try.func59, Try.ntmps59
      go_wp2_with (first | ((with_reducible refine gate_dst (N := 10) rfl ?_); refine box_event ?hg (N := 10) ?hd (cs := #[.slice A0 (l0.take 2000).length c0, .int .i64 0]) (t := 95) ?hr ?_; (case hd => rfl); (case hg => rfl); (case hr => first | (go_simp; done) | (go_simp; rfl)); intro gb139 hg w5 hbox hb; have n0_ := Aside0.mk (below_step HBW.out hb); have n1_ := Aside0.mk (below_step (by repeat (first | (with_reducible first | exact HB.out | apply below_alloc | apply pw_below_drewN | apply below_drew1) | exact HB.out)) hb); have n2_ := Aside0.mk (hbox); have n3_ := Aside0.mk ((by rw [hg]; exact (below_size (by repeat (first | (with_reducible first | exact HBW.out | apply below_alloc | apply pw_below_drewN | apply below_drew1) | exact HBW.out))) : w.heap.size ≤ gb139)); have n4_ := Aside0.mk ((Nat.le_trans HW0.out (by rw [hg]; exact (below_size (by repeat (first | (with_reducible first | exact HBW.out | apply below_alloc | apply pw_below_drewN | apply below_drew1) | exact HBW.out))) : w.heap.size ≤ gb139) : w0.heap.size ≤ gb139)); clear HBW; clear HB; have HBW := n0_; have HB := n1_; have BK139 := n2_; have GW139 := n3_; have GE139 := n4_; clear n0_ n1_ n2_ n3_ n4_; clear hb hbox hg))
      go_ret
      exact ⟨_, rfl, (show IsS95 w0 _ gb139 (l0.take 2000) 0 from ⟨_, _, by (with_reducible repeat (first | refine blk_drewN ?_ _ | refine blk_drew ?_ | refine blk_alloc ?_ _)); exact BK139.out, GE139.out, HR138.out⟩), by repeat (first | (with_reducible first | exact HB.out | apply below_alloc | apply pw_below_drewN | apply below_drew1 | refine below_set ?_ GE139.out) | exact HB.out), by repeat (first | (with_reducible first | exact HBW.out | apply below_alloc | apply pw_below_drewN | apply below_drew1 | refine below_set ?_ GW139.out) | exact HBW.out)⟩
    · rw [if_neg c3] at H
      exact absurd H (by simp)
  · rw [if_neg c2] at H
    have c2b0 : decide (2000 < (l0.length : Int)) = false := decide_eq_false c2
    have c2b1 : decide (2000 < l0.length) = false := decide_eq_false (by omega)
    clear c2
    simp only [Option.some.injEq, Prod.mk.injEq] at H
    obtain ⟨rfl, rfl⟩ := H
    go_enter Try.func59, Try.ntmps59
    go_wp2_with (first | ((with_reducible refine gate_dst (N := 10) rfl ?_); refine box_event ?hg (N := 10) ?hd (cs := #[.slice A0 l0.length c0, .int .i64 0]) (t := 95) ?hr ?_; (case hd => rfl); (case hg => rfl); (case hr => first | (go_simp; done) | (go_simp; rfl)); intro gb140 hg w6 hbox hb; have n0_ := Aside0.mk (below_step HBW.out hb); have n1_ := Aside0.mk (below_step (by repeat (first | (with_reducible first | exact HB.out | apply below_alloc | apply pw_below_drewN | apply below_drew1) | exact HB.out)) hb); have n2_ := Aside0.mk (hbox); have n3_ := Aside0.mk ((by rw [hg]; exact (below_size (by repeat (first | (with_reducible first | exact HBW.out | apply below_alloc | apply pw_below_drewN | apply below_drew1) | exact HBW.out))) : w.heap.size ≤ gb140)); have n4_ := Aside0.mk ((Nat.le_trans HW0.out (by rw [hg]; exact (below_size (by repeat (first | (with_reducible first | exact HBW.out | apply below_alloc | apply pw_below_drewN | apply below_drew1) | exact HBW.out))) : w.heap.size ≤ gb140) : w0.heap.size ≤ gb140)); clear HBW; clear HB; have HBW := n0_; have HB := n1_; have BK140 := n2_; have GW140 := n3_; have GE140 := n4_; clear n0_ n1_ n2_ n3_ n4_; clear hb hbox hg))
    go_ret
    exact ⟨_, rfl, (show IsS95 w0 _ gb140 l0 0 from ⟨_, _, by (with_reducible repeat (first | refine blk_drewN ?_ _ | refine blk_drew ?_ | refine blk_alloc ?_ _)); exact BK140.out, GE140.out, HR0.out⟩), by repeat (first | (with_reducible first | exact HB.out | apply below_alloc | apply pw_below_drewN | apply below_drew1 | refine below_set ?_ GE140.out) | exact HB.out), by repeat (first | (with_reducible first | exact HBW.out | apply below_alloc | apply pw_below_drewN | apply below_drew1 | refine below_set ?_ GW140.out) | exact HBW.out)⟩

end Go.Proofs.Ytkapjhlcmicpnaa.PFnLevelPlain
