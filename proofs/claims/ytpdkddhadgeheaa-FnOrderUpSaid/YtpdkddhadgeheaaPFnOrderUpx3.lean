-- Written by a program of this session (wip/tools) out of the translation; its shape is that of the kit print.
import Derived.Test.YtpdkddhadgeheaaPFnOrderUpx0
import Derived.Test.YtpdkddhadgeheaaPFnOrderUpx2
namespace Go.Proofs.Ytpdkddhadgeheaa.PFnOrderUp
open Go.RowKit Go.Proofs.YtpdkddhadgeheaaW.PrintWords Go.Proofs.YtpdkddhadgeheaaW.PrintLast Go.Proofs.YtpdkddhadgeheaaW.PrintMore
attribute [local go_sem] max2_int min2_int max_two min_two max_three min_three max_four min_four   -- for this text's walks alone
set_option linter.unusedVariables false
set_option linter.unusedSimpArgs false

set_option maxHeartbeats 1000000 in
theorem order1_calls (b1 b2 : Nat) (A0 : Option Addr) (c0 : Nat) (l0 : List Int) (lev x : Int) (W : World) (hr : Kd.C (Kd.int .i64) W A0 l0.length l0)
    (h1 : W.cell? ⟨b1, 0, none⟩ = some (.slice A0 l0.length c0)) (h2 : W.cell? ⟨b2, 0, none⟩ = some (.int .i64 lev)) (hx0 : 0 ≤ x) (hx1 : x < (l0.length : Int)) :
    Calls Try.prog 122 #[.int .i64 x, .pointer (some ⟨b1, 0, none⟩), .pointer (some ⟨b2, 0, none⟩)] W fun e W' => e = .returned (.bool (decide (lev ≤ rd l0 x))) ∧ Drawn0 W W' := by
  obtain ⟨ad, e0, hx⟩ := Kd.at_int hr x hx0 hx1
  cases e0
  clear hr
  go_enter Try.func122, Try.ntmps122
  go_wp2
  go_quiet (fail)
  go_wp2
  go_ret
  exact ⟨rfl, ⟨_, rfl⟩⟩
def RevAt (xs ys : List Int) (a m i : Nat) : Prop :=
  ys.length = xs.length ∧ ∀ t, t < xs.length → ys.getD t 0 = if a ≤ t ∧ t < a + m ∧ (t - a < i ∨ m - 1 - i < t - a) then xs.getD (a + (m - 1 - (t - a))) 0 else xs.getD t 0
theorem getD_set_eq (xs : List Int) (i : Nat) (v : Int) (h : i < xs.length) (t : Nat) : (xs.set i v).getD t 0 = if t = i then v else xs.getD t 0 := by
  simp only [List.getD_eq_getElem?_getD, List.getElem?_set]
  by_cases e : i = t
  · subst e
    simp [h]
  · rw [if_neg e, if_neg (fun e' => e e'.symm)]
theorem rev_zero (xs : List Int) (a m : Nat) (h : a + m ≤ xs.length) : RevAt xs xs a m 0 := by
  refine ⟨rfl, fun t ht => ?_⟩
  rw [if_neg (by omega)]
theorem rev_step {xs ys : List Int} {a m i j : Nat} (h : a + m ≤ xs.length) (hr : RevAt xs ys a m i) (hj : i + j + 1 = m) (hij : i < j) :
    RevAt xs ((ys.set (a + i) (ys.getD (a + j) 0)).set (a + j) (ys.getD (a + i) 0)) a m (i + 1) := by
  obtain ⟨hl, hg⟩ := hr
  refine ⟨by simp [hl], fun t ht => ?_⟩
  rw [getD_set_eq _ _ _ (by simp; omega), getD_set_eq _ _ _ (by omega)]
  by_cases e1 : t = a + j
  · subst e1
    rw [if_pos rfl, if_pos (by omega), hg (a + i) (by omega), if_neg (by omega)]
    congr 1
    omega
  · rw [if_neg e1]
    by_cases e2 : t = a + i
    · subst e2
      rw [if_pos rfl, if_pos (by omega), hg (a + j) (by omega), if_neg (by omega)]
      congr 1
      omega
    · rw [if_neg e2, hg t ht]
      by_cases e3 : a ≤ t ∧ t < a + m ∧ (t - a < i ∨ m - 1 - i < t - a)
      · rw [if_pos e3, if_pos (by omega)]
      · rw [if_neg e3, if_neg (by omega)]
def revSeg (xs : List Int) (a m : Nat) : List Int := xs.take a ++ ((xs.drop a).take m).reverse ++ xs.drop (a + m)
theorem rev_done {xs ys : List Int} {a m i : Nat} (h : a + m ≤ xs.length) (hr : RevAt xs ys a m i) (hi : m ≤ 2 * i + 1) : ys = revSeg xs a m := by
  obtain ⟨hl, hg⟩ := hr
  have hlr : (revSeg xs a m).length = xs.length := by
    simp only [revSeg, List.length_append, List.length_take, List.length_reverse, List.length_drop]
    omega
  apply List.ext_getElem?
  intro t
  by_cases ht : t < xs.length
  · have e1 : ys[t]? = some (ys.getD t 0) := by rw [List.getD_eq_getElem?_getD, List.getElem?_eq_getElem (by omega)]; rfl
    have e2 : (revSeg xs a m)[t]? = some ((revSeg xs a m).getD t 0) := by rw [List.getD_eq_getElem?_getD, List.getElem?_eq_getElem (by omega)]; rfl
    rw [e1, e2, hg t ht]
    congr 1
    simp only [revSeg, List.getD_eq_getElem?_getD]
    by_cases c1 : t < a
    · rw [if_neg (by omega), List.getElem?_append_left (by simp; omega), List.getElem?_append_left (by simp; omega), List.getElem?_take, if_pos c1]
    · by_cases c2 : t < a + m
      · have e3 : (xs.take a).length = a := by simp; omega
        have e4 : ((xs.drop a).take m).length = m := by simp; omega
        have key : (xs.take a ++ ((xs.drop a).take m).reverse ++ xs.drop (a + m))[t]? = xs[a + (m - 1 - (t - a))]? := by
          rw [List.getElem?_append_left (by rw [List.length_append, List.length_reverse, e3, e4]; exact c2), List.getElem?_append_right (by omega), e3, List.getElem?_reverse (by omega), e4, List.getElem?_take_of_lt (by omega), List.getElem?_drop]
        rw [key]
        by_cases c3 : t - a < i ∨ m - 1 - i < t - a
        · rw [if_pos ⟨by omega, c2, c3⟩]
        · rw [if_neg (by omega)]
          congr 2
          omega
      · rw [if_neg (by omega), List.getElem?_append_right (by simp; omega), List.getElem?_drop]
        congr 2
        simp
        omega
  · rw [List.getElem?_eq_none (by omega), List.getElem?_eq_none (by omega)]
theorem grown_drew {w w1 : World} {row : Option Nat} (h : w.grownBy w1 row) : w.grownBy w1.drew row := ⟨h.os, h.tape, h.output, h.size, h.block⟩
theorem grown_drewN {w w1 : World} {row : Option Nat} (h : w.grownBy w1 row) (n : Nat) : w.grownBy (w1.drewN n) row := ⟨h.os, h.tape, h.output, h.size, h.block⟩
set_option maxHeartbeats 4000000 in
set_option maxRecDepth 100000 in
theorem rev_calls (base g N cap a m c : Nat) (xs : List Int) (w : World) (hm : m ≤ 1000000) (ham : a + m ≤ N)
    (ho : w.ownsRow base 3 1 (.slice (some ⟨g, 0, none⟩) N cap) N (nums .i64 xs)) :
    Calls Try.prog 170 #[.slice (some ⟨g, a, none⟩) m c] w fun e w' => e = .returned (.tuple #[]) ∧ w'.ownsRow base 3 1 (.slice (some ⟨g, 0, none⟩) N cap) N (nums .i64 (revSeg xs a m)) ∧ w.grownBy w' (some g) := by
  have hN : xs.length = N := by have := ho.1; simp [nums] at this; exact this
  have HO := Aside0.mk ho
  have HN := Aside0.mk hN
  clear ho hN
  go_enter Try.func170, Try.ntmps170
  go_wp2
  go_loopg [2, 3] m (fun gg v2 v3 wr => ∃ (i : Nat) (ys : List Int), v2 = .int .i64 i ∧ v3 = .int .i64 ((m : Int) - 1 - i) ∧ m - i ≤ gg ∧ 2 * i ≤ m + 1 ∧ Aside0 (wr.ownsRow base 3 1 (.slice (some ⟨g, 0, none⟩) N cap) N (nums .i64 ys)) ∧ Aside0 (w.grownBy wr (some g)) ∧ Aside0 (RevAt xs ys a m i))
  case atStart => exact ⟨0, xs, rfl, by simp, by omega, by omega, HO, ⟨World.grownBy.refl _ _⟩, ⟨rev_zero xs a m (by have := HN.out; omega)⟩⟩
  case round =>
    obtain ⟨i, ys, rfl, rfl, hg, hi, HY, HG, HR⟩ := hrel
    by_cases hlt : (i : Int) < (m : Int) - 1 - i
    · obtain ⟨j, hj⟩ : ∃ j : Nat, (m : Int) - 1 - i = j := ⟨m - 1 - i, by omega⟩
      have hij : i + j + 1 = m := by omega
      rw [hj] at hlt
      simp only [hj]
      clear hj
      have hltn : i < j := by omega
      have him : i < m := by omega
      have hjm : j < m := by omega
      obtain ⟨ci, fi⟩ := own_at HY.out ((a + i : Nat) : Int) (by omega) (by omega)
      obtain ⟨cj, fj⟩ := own_at HY.out ((a + j : Nat) : Int) (by omega) (by omega)
      have s1 := own_store HY.out ((a + i : Nat) : Int) (rd ys ((a + j : Nat) : Int))
      have s2 := own_store s1.1 ((a + j : Nat) : Int) (rd ys ((a + i : Nat) : Int))
      rw [Int.toNat_natCast] at ci fi cj fj
      simp only [Int.toNat_natCast] at s1 s2
      have S2 := Aside0.mk s2
      have S1 := Aside0.mk s1
      have Hij := Aside0.mk hij
      clear s1 s2 hij
      have E1 := Aside0.mk (rfl : rd ys ((a + j : Nat) : Int) = rd ys ((a + j : Nat) : Int))
      generalize hyj : rd ys ((a + j : Nat) : Int) = yj at cj S1 S2
      generalize hyi : rd ys ((a + i : Nat) : Int) = yi at ci S2
      have Hyj := Aside0.mk hyj
      have Hyi := Aside0.mk hyi
      clear hyj hyi E1
      go_wp2
      go_region
      all_goals
        go_wp2
        go_roundg (gk - 1)
        case measure => have := Hij.out; omega
        case rel =>
          refine ⟨i + 1, (ys.set (a + i) yj).set (a + j) yi, by go_num, ?_, by have := Hij.out; omega, by have := Hij.out; omega, ⟨S2.out.1⟩, ⟨?_⟩, ⟨?_⟩⟩
          · have := Hij.out
            congr 1
            omega
          · exact grown_drew ((HG.out.trans (S1.out.2)).trans S2.out.2)
          · have h1 := rev_step (by have := HN.out; omega) HR.out Hij.out hltn
            have e1 : ys.getD (a + j) 0 = yj := by rw [← Hyj.out]; unfold rd; rw [Int.toNat_natCast]
            have e2 : ys.getD (a + i) 0 = yi := by rw [← Hyi.out]; unfold rd; rw [Int.toNat_natCast]
            rw [e1, e2] at h1
            exact h1
    · have hge : ¬ (i : Int) < (m : Int) - 1 - i := hlt
      go_wp2
      go_end0
      refine ⟨rfl, ?_, HG.out⟩
      rw [← rev_done (by have := HN.out; omega) HR.out (by omega)]
      exact HY.out
/-- what stands side by side and has p is turned round -/
def turnGo (p : Int → Bool) : List Int → List Int → List Int
  | acc, [] => acc
  | acc, x :: xs => if p x = true then turnGo p (x :: acc) xs else acc ++ x :: turnGo p [] xs
def turnL (p : Int → Bool) (xs : List Int) : List Int := turnGo p [] xs
theorem turnGo_run (p : Int → Bool) : ∀ (run rest acc : List Int), (∀ x ∈ run, p x = true) → turnGo p acc (run ++ rest) = turnGo p (run.reverse ++ acc) rest
  | [], _, _, _ => rfl
  | x :: run, rest, acc, h => by
    have h1 := h x List.mem_cons_self
    have h2 := turnGo_run p run rest (x :: acc) (fun y hy => h y (List.mem_cons_of_mem _ hy))
    simp only [List.cons_append, turnGo, h1, if_true, h2, List.reverse_cons, List.append_assoc, List.nil_append]
theorem turnL_run (p : Int → Bool) (run rest : List Int) (h : ∀ x ∈ run, p x = true) (hs : rest = [] ∨ ∃ y r, rest = y :: r ∧ p y = false) : turnL p (run ++ rest) = run.reverse ++ turnL p rest := by
  unfold turnL
  rw [turnGo_run p run rest [] h]
  rcases hs with rfl | ⟨y, r, rfl, hy⟩
  · simp [turnGo]
  · simp [turnGo, hy]
theorem turnL_one (p : Int → Bool) (y : Int) (r : List Int) (h : p y = false) : turnL p (y :: r) = y :: turnL p r := by
  unfold turnL
  simp [turnGo, h]
theorem turnL_length (p : Int → Bool) : ∀ (xs acc : List Int), (turnGo p acc xs).length = acc.length + xs.length
  | [], acc => by simp [turnGo]
  | x :: xs, acc => by
    unfold turnGo
    split
    · rw [turnL_length p xs (x :: acc)]; simp; omega
    · simp [turnL_length p xs []]
theorem revSeg_mid (don run rest : List Int) : revSeg (don ++ (run ++ rest)) don.length run.length = don ++ (run.reverse ++ rest) := by
  unfold revSeg
  rw [List.take_left, List.drop_left, List.take_left, ← List.append_assoc don run rest, ← List.length_append, List.drop_left, List.append_assoc]
theorem getD_mid' (pre : List Int) (x : Int) (suf : List Int) : rd (pre ++ x :: suf) (pre.length : Int) = x := by
  unfold rd
  rw [Int.toNat_natCast, List.getD_eq_getElem?_getD]
  simp
theorem drewN_grown {w w1 : World} {row : Option Nat} (h : w.grownBy w1 row) (n : Nat) : w.grownBy (w1.drewN n) row := ⟨h.os, h.tape, h.output, h.size, h.block⟩
set_option maxHeartbeats 8000000 in
set_option maxRecDepth 100000 in
theorem turn_calls (p : Int → Bool) (v1 v2 : Value) (base g N cap : Nat) (xs : List Int) (w : World) (hN : N ≤ 1000000) (hcap : N ≤ cap)
    (hp : ∀ W', w.grownBy W' (some g) → ∀ x ∈ xs, Calls Try.prog 122 #[.int .i64 x, v1, v2] W' fun e W'' => e = .returned (.bool (p x)) ∧ Drawn0 W' W'')
    (ho : w.ownsRow base 3 1 (.slice (some ⟨g, 0, none⟩) N cap) N (nums .i64 xs)) :
    Calls Try.prog 121 #[.slice (some ⟨g, 0, none⟩) N cap, .func (.func 122) #[] #[v1, v2]] w fun e w' => e = .returned (.tuple #[]) ∧ w'.ownsRow base 3 1 (.slice (some ⟨g, 0, none⟩) N cap) N (nums .i64 (turnL p xs)) ∧ w.grownBy w' (some g) := by
  have hlen : xs.length = N := by have := ho.1; simp [nums] at this; exact this
  have HO := Aside0.mk ho
  have HP := Aside0.mk hp
  have HL := Aside0.mk hlen
  clear ho hp hlen
  go_enter Try.func121, Try.ntmps121
  go_wp2
  go_loopg [4] N (fun gg v4 wr => ∃ don rest : List Int, v4 = .int .i64 (don.length : Int) ∧ Aside0 (rest.length ≤ gg ∧ don.length + rest.length = N) ∧ Aside0 (wr.ownsRow base 3 1 (.slice (some ⟨g, 0, none⟩) N cap) N (nums .i64 (don ++ rest))) ∧ Aside0 (w.grownBy wr (some g)) ∧ Aside0 (turnL p xs = don ++ turnL p rest) ∧ Aside0 (∀ x ∈ rest, x ∈ xs))
  case atStart => exact ⟨[], xs, by simp, ⟨by have := HL.out; omega, by have := HL.out; simp; omega⟩, HO, ⟨World.grownBy.refl _ _⟩, ⟨by simp⟩, ⟨fun x hx => hx⟩⟩
  case round =>
    obtain ⟨don, rest, rfl, HS, HR, HG, HT, HM⟩ := hrel
    generalize hd : don.length = d
    have Hd := Aside0.mk hd
    clear hd
    by_cases hlt : d < N
    · have hltz : (d : Int) < (N : Int) := by omega
      go_wp2
      obtain ⟨wo, rfl⟩ : ∃ wo : World, wo = wr := ⟨_, rfl⟩
      obtain ⟨go, rfl⟩ : ∃ go : Nat, go = gk := ⟨_, rfl⟩
      go_loopg [5] rest.length (fun gg v5 wq => ∃ (run rest' : List Int) (q : Nat), v5 = .int .i64 ((d + run.length : Nat) : Int) ∧ Aside0 (rest = run ++ rest') ∧ Aside0 (rest'.length ≤ gg) ∧ Aside0 (∀ x ∈ run, p x = true) ∧ wq = wo.drewN q)
      case atStart => exact ⟨[], rest, 0, by simp, ⟨rfl⟩, ⟨Nat.le_refl _⟩, ⟨fun x hx => by cases hx⟩, rfl⟩
      case round =>
        obtain ⟨run, rest', q, rfl, HE, HK, HRUN, rfl⟩ := hrel
        generalize hto : d + run.length = te
        have Hto := Aside0.mk hto
        clear hto
        have hteN : te ≤ N := by
          have h1 := HS.out.2
          have h2 := congrArg List.length HE.out
          have h3 := Hd.out
          have h4 := Hto.out
          simp only [List.length_append] at h2
          omega
        by_cases hin : te < N
        · have hinz : (te : Int) < (N : Int) := by omega
          cases rest' with
          | nil =>
            exfalso
            have h1 := HE.out
            have h2 := HS.out.2
            have h3 := Hd.out
            have h4 := Hto.out
            rw [h1] at h2
            simp at h2
            omega
          | cons y rest'' =>
            obtain ⟨cy, fy⟩ := own_at HR.out (te : Int) (by omega) (by omega)
            rw [Int.toNat_natCast] at cy fy
            have hy : rd (don ++ rest) (te : Int) = y := by
              have h1 := HE.out
              have h2 : te = (don ++ run).length := by rw [List.length_append, Hd.out, Hto.out]
              rw [h1, ← List.append_assoc, h2]
              exact getD_mid' (don ++ run) y rest''
            rw [hy] at cy
            clear hy
            have hmem : y ∈ xs := HM.out y (by rw [HE.out]; simp)
            have HMem := Aside0.mk hmem
            clear hmem
            cases hpy : p y with
            | true =>
              have HPy := Aside0.mk hpy
              clear hpy
              go_wp2_with (go_at_call 122; refine (HP.out _ (drewN_grown HG.out _) y HMem.out).mono ?_; rintro e w' ⟨rfl, ⟨q', rfl⟩⟩; rw [HPy.out])
              go_roundg (gk - 1)
              case measure =>
                have h1 := HK.out
                simp at h1
                omega
              case rel =>
                refine ⟨run ++ [y], rest'', q + q', ?_, ⟨?_⟩, ⟨?_⟩, ⟨?_⟩, rfl⟩
                · have h1 := Hto.out
                  simp only [List.length_append, List.length_singleton]
                  congr 1
                  omega
                · rw [HE.out]; simp
                · have h1 := HK.out
                  simp at h1
                  omega
                · intro x hx
                  rcases List.mem_append.1 hx with h1 | h1
                  · exact HRUN.out x h1
                  · simp at h1
                    rw [h1]
                    exact HPy.out
            | false =>
              have HPy := Aside0.mk hpy
              clear hpy
              have HSTOP : Aside0 (y :: rest'' = [] ∨ ∃ z r, y :: rest'' = z :: r ∧ p z = false) := ⟨.inr ⟨y, rest'', rfl, HPy.out⟩⟩
              have hde : d ≤ te := by have := Hto.out; omega
              have hec : te ≤ cap := by omega
              have hdc : ¬ cap = d := by omega
              have HREV := Aside0.mk (fun n => rev_calls base g N cap d (te - d) (cap - d) (don ++ rest) (wo.drewN n) (by omega) (by omega) HR.out)
              by_cases hcase : te = d
              · have hne : (te : Int) < (d : Int) + 1 := by omega
                have Hcase := Aside0.mk hcase
                clear hcase
                go_wp2_with (first | (go_at_call 122; refine (HP.out _ (drewN_grown HG.out _) y HMem.out).mono ?_; rintro e w' ⟨rfl, ⟨q', rfl⟩⟩; rw [HPy.out]) | (go_at_call 170; refine (HREV.out _).mono ?_; rintro e w' ⟨rfl, hrow, hgr⟩))
                go_roundg (go - 1)
                case measure => have := HS.out; have := Hd.out; omega
                case rel =>
                  have hrun0 : run = [] := List.eq_nil_of_length_eq_zero (by have := Hto.out; have := Hcase.out; omega)
                  subst hrun0
                  refine ⟨don ++ [y], rest'', ?_, ⟨?_⟩, ⟨?_⟩, ⟨?_⟩, ⟨?_⟩, ⟨?_⟩⟩
                  · have h2 := Hd.out
                    simp only [List.length_append, List.length_singleton]
                    congr 1
                    omega
                  · have h1 := HS.out
                    have h2 := HE.out
                    have h4 := Hd.out
                    have h5 := congrArg List.length h2
                    simp only [List.length_append, List.length_singleton, List.length_cons, List.length_nil] at h1 h5 ⊢
                    omega
                  · have h1 : te - d = 0 := by have := Hto.out; simp at this; omega
                    have h3 : revSeg (don ++ rest) d (te - d) = (don ++ [y]) ++ rest'' := by
                      have h6 := revSeg_mid don [] rest
                      rw [Hd.out] at h6
                      rw [h1]
                      simp only [List.length_nil, List.nil_append, List.reverse_nil] at h6
                      rw [h6, HE.out]
                      simp
                    rw [← h3]
                    exact hrow
                  · exact (drewN_grown HG.out _).trans hgr
                  · rw [HT.out, HE.out, List.nil_append, turnL_one p y _ HPy.out]
                    simp
                  · intro x hx
                    exact HM.out x (by rw [HE.out]; simp [hx])
              · have hne : ¬ (te : Int) < (d : Int) + 1 := by omega
                go_wp2_with (first | (go_at_call 122; refine (HP.out _ (drewN_grown HG.out _) y HMem.out).mono ?_; rintro e w' ⟨rfl, ⟨q', rfl⟩⟩; rw [HPy.out]) | (go_at_call 170; refine (HREV.out _).mono ?_; rintro e w' ⟨rfl, hrow, hgr⟩))
                go_roundg (go - 1)
                case measure => have := HS.out; have := Hd.out; omega
                case rel =>
                  refine ⟨don ++ run.reverse, (y :: rest''), ?_, ⟨?_⟩, ⟨?_⟩, ⟨?_⟩, ⟨?_⟩, ⟨?_⟩⟩
                  · have h1 := Hto.out
                    have h2 := Hd.out
                    simp only [List.length_append, List.length_reverse]
                    congr 1
                    omega
                  · have h1 := HS.out
                    have h2 := HE.out
                    have h3 := Hto.out
                    have h4 := Hd.out
                    have h5 := congrArg List.length h2
                    simp only [List.length_append, List.length_reverse, List.length_cons, List.length_nil] at h1 h5 ⊢
                    omega
                  · have h1 : te - d = run.length := by have := Hto.out; omega
                    have h3 : revSeg (don ++ rest) d (te - d) = (don ++ run.reverse) ++ (y :: rest'') := by
                      rw [h1, HE.out, ← Hd.out, revSeg_mid, List.append_assoc]
                    rw [← h3]
                    exact hrow
                  · exact (drewN_grown HG.out _).trans hgr
                  · rw [HT.out, HE.out, turnL_run p run _ HRUN.out HSTOP.out, List.append_assoc]
                  · intro x hx
                    exact HM.out x (by rw [HE.out]; exact List.mem_append_right _ hx)
        · have hinz : ¬ (te : Int) < (N : Int) := by omega
          have hr0 : rest' = [] := by
            have h1 := HE.out
            have h2 := HS.out.2
            have h3 := Hd.out
            have h4 := Hto.out
            rw [h1] at h2
            simp at h2
            exact List.eq_nil_of_length_eq_zero (by omega)
          subst hr0
          have HSTOP : Aside0 (([] : List Int) = [] ∨ ∃ z r, ([] : List Int) = z :: r ∧ p z = false) := ⟨.inl rfl⟩
          have hde : d ≤ te := by have := Hto.out; omega
          have hec : te ≤ cap := by omega
          have hdc : ¬ cap = d := by omega
          have HREV := Aside0.mk (fun n => rev_calls base g N cap d (te - d) (cap - d) (don ++ rest) (wo.drewN n) (by omega) (by omega) HR.out)
          have hne : ¬ (te : Int) < (d : Int) + 1 := by omega
          go_wp2_with (go_at_call 170; refine (HREV.out _).mono ?_; rintro e w' ⟨rfl, hrow, hgr⟩)
          go_roundg (go - 1)
          case measure => have := HS.out; have := Hd.out; omega
          case rel =>
            refine ⟨don ++ run.reverse, ([] : List Int), ?_, ⟨?_⟩, ⟨?_⟩, ⟨?_⟩, ⟨?_⟩, ⟨?_⟩⟩
            · have h1 := Hto.out
              have h2 := Hd.out
              simp only [List.length_append, List.length_reverse]
              congr 1
              omega
            · have h1 := HS.out
              have h2 := HE.out
              have h3 := Hto.out
              have h4 := Hd.out
              have h5 := congrArg List.length h2
              simp only [List.length_append, List.length_reverse, List.length_cons, List.length_nil] at h1 h5 ⊢
              omega
            · have h1 : te - d = run.length := by have := Hto.out; omega
              have h3 : revSeg (don ++ rest) d (te - d) = (don ++ run.reverse) ++ ([] : List Int) := by
                rw [h1, HE.out, ← Hd.out, revSeg_mid, List.append_assoc]
              rw [← h3]
              exact hrow
            · exact (drewN_grown HG.out _).trans hgr
            · rw [HT.out, HE.out, turnL_run p run _ HRUN.out (.inl rfl), List.append_assoc]
            · intro x hx
              exact HM.out x (by rw [HE.out]; exact List.mem_append_right _ hx)
    · have hltz : ¬ (d : Int) < (N : Int) := by omega
      go_wp2
      go_end0
      have h0 : rest = [] := by
        have h1 := HS.out.2
        have h2 := Hd.out
        exact List.eq_nil_of_length_eq_zero (by omega)
      subst h0
      have h1 := HT.out
      have h2 := HR.out
      simp [turnL, turnGo] at h1 h2
      rw [show turnL p xs = don from h1]
      exact ⟨rfl, h2, HG.out⟩
/-- the places that have a level -/
def vis : List Int → Int → List Int
  | [], _ => []
  | x :: xs, i => if x = -1 then vis xs (i + 1) else i :: vis xs (i + 1)
/-- the greatest level -/
def most : Int → List Int → Int
  | m, [] => m
  | m, x :: xs => most (if x = -1 then m else if m < x then x else m) xs
def orderGo (l : List Int) : Nat → List Int → List Int
  | 0, xs => xs
  | n + 1, xs => orderGo l n (turnL (fun at_ => decide (((n : Int) + 1) ≤ rd l at_)) xs)
def orderL (l : List Int) : List Int := orderGo l (most 0 l).toNat (vis l 0)
def impl_order.f (l0 : List Int) : Option (List Int) := if l0.length ≤ 100000 ∧ (l0.all fun x => decide (x ≤ 1000)) = true then some (orderL l0) else none
theorem most_le : ∀ (xs : List Int) (m : Int), m ≤ most m xs
  | [], m => Int.le_refl m
  | x :: xs, m => by
    unfold most
    have h1 := most_le xs (if x = -1 then m else if m < x then x else m)
    refine Int.le_trans ?_ h1
    repeat' split
    all_goals omega
theorem most_bd (b : Int) : ∀ (xs : List Int) (m : Int), m ≤ b → (∀ x ∈ xs, x ≤ b) → most m xs ≤ b
  | [], m, h, _ => h
  | x :: xs, m, h, hx => by
    unfold most
    refine most_bd b xs _ ?_ (fun y hy => hx y (List.mem_cons_of_mem _ hy))
    have := hx x List.mem_cons_self
    repeat' split
    all_goals omega
theorem vis_mem : ∀ (l : List Int) (i : Int), ∀ x ∈ vis l i, i ≤ x ∧ x < i + l.length
  | [], _, x, hx => by simp [vis] at hx
  | y :: ys, i, x, hx => by
    unfold vis at hx
    have ih := vis_mem ys (i + 1) x
    split at hx
    · have := ih hx
      simp only [List.length_cons]
      omega
    · rcases List.mem_cons.1 hx with rfl | hx
      · simp only [List.length_cons]
        omega
      · have := ih hx
        simp only [List.length_cons]
        omega
theorem turnGo_mem (p : Int → Bool) : ∀ (xs acc : List Int), ∀ x ∈ turnGo p acc xs, x ∈ acc ∨ x ∈ xs
  | [], acc, x, hx => .inl (by simpa [turnGo] using hx)
  | y :: ys, acc, x, hx => by
    unfold turnGo at hx
    split at hx
    · rcases turnGo_mem p ys (y :: acc) x hx with h | h
      · rcases List.mem_cons.1 h with rfl | h
        · exact .inr List.mem_cons_self
        · exact .inl h
      · exact .inr (List.mem_cons_of_mem _ h)
    · rcases List.mem_append.1 hx with h | h
      · exact .inl h
      · rcases List.mem_cons.1 h with rfl | h
        · exact .inr List.mem_cons_self
        · rcases turnGo_mem p ys [] x h with h | h
          · cases h
          · exact .inr (List.mem_cons_of_mem _ h)
theorem turnL_mem (p : Int → Bool) (xs : List Int) (x : Int) (h : x ∈ turnL p xs) : x ∈ xs := (turnGo_mem p xs [] x h).elim (fun h => by cases h) id
theorem wn (n : Nat) (h : n ≤ 1000) : Go.RowKit.wrap64 (n : Int) = n := by unfold Go.RowKit.wrap64; omega
theorem grown_set (w : World) (b j : Nat) (u : Value) : w.grownBy (w.setCell ⟨b, j, none⟩ u) (some b) :=
  have hB := (Below.refl 0 w).setCell (p := ⟨b, j, none⟩) (Nat.zero_le _) u
  ⟨hB.os, hB.tape, hB.output, by simp, fun i _ hi => Below.heap_setCell w ⟨b, j, none⟩ u i (fun e => hi (by rw [e]))⟩
theorem blk_of_grown {w w1 : World} {row : Option Nat} (h : w.grownBy w1 row) {b : Nat} {o : Obj} (hb : w.heap[b]? = some o) (hne : some b ≠ row) : w1.heap[b]? = some o :=
  (h.block b (Array.getElem?_eq_some_iff.1 hb).1 hne).trans hb
set_option maxHeartbeats 8000000 in
set_option maxRecDepth 100000 in
theorem impl_order.calls (A0 : Option Addr) (c0 : Nat) (l0 : List Int) (r : List Int) (w : World) (hr0 : Kd.C (Kd.int .i64) w A0 l0.length l0) (hc0 : l0.length ≤ c0) (h : impl_order.f l0 = some r) :
    Calls Try.prog 72 #[.slice A0 l0.length c0] w fun e w' => ∃ v0_ : Value, e = .returned (v0_) ∧ Kd.R (Kd.int .i64) 3 w' w.heap.size (fun _ => True) v0_ r ∧ Below w.heap.size w w' := by
  unfold impl_order.f at h
  split at h
  case isFalse => exact absurd h (by simp)
  case isTrue hs =>
  obtain ⟨hlen, hall⟩ := hs
  have HRES := Aside0.mk (Option.some.inj h)
  have HALL := Aside0.mk hall
  have HR0 := Aside0.mk hr0
  have hmaxlen : l0.length ≤ 9223372036854775807 := by omega
  clear h hall hr0
  go_enter Try.func72, Try.ntmps72
  go_wp2_with (first | ((with_reducible refine gate_dst (N := 1) rfl ?_); refine box_event ?hg (N := 1) ?hd (cs := #[.slice A0 l0.length c0]) (t := 22) ?hr ?_; (case hd => rfl); (case hg => rfl); (case hr => first | (go_simp; done) | (go_simp; rfl)); intro b1 hb1 w1 hbox hbel; have HBOX := Aside0.mk hbox; have HBEL := Aside0.mk hbel; have HB1 := Aside0.mk hb1; have c1 : w1.cell? ⟨b1, 0, none⟩ = some (.slice A0 l0.length c0) := (blk_cell HBOX.out 0).trans rfl; clear hb1 hbox hbel))
  go_loopg [3, 4, 10] l0.length (fun gg v3 v4 v10 wr => ∃ (pre suf out : List Int) (m : Int), v10 = .int .i64 (pre.length : Int) ∧ v4 = .int .i64 m ∧ Aside0 (l0 = pre ++ suf) ∧ Aside0 (suf.length ≤ gg) ∧ Aside0 (Kd.R (Kd.int .i64) 3 wr w1.heap.size (fun _ => True) v3 out) ∧ Aside0 (Below w1.heap.size w1 wr) ∧ Aside0 (out ++ vis suf pre.length = vis l0 0) ∧ Aside0 (most m suf = most 0 l0) ∧ Aside0 (0 ≤ m ∧ (1 ≤ m → out ≠ []) ∧ out.length ≤ pre.length))
  case atStart => exact ⟨[], l0, [], 0, by simp, rfl, ⟨rfl⟩, ⟨Nat.le_refl _⟩, ⟨Kd.R_nil _ _ _ _ _⟩, ⟨Below.refl _ _⟩, ⟨rfl⟩, ⟨rfl⟩, ⟨by omega, by omega, by simp⟩⟩
  case round =>
    obtain ⟨pre, suf, out, m, rfl, rfl, HE, HK, HO, HB, HV, HM, HX⟩ := hrel
    generalize hp : pre.length = p
    have Hp := Aside0.mk hp
    clear hp
    by_cases hlt : p < l0.length
    · have hltz : (p : Int) < (l0.length : Int) := by omega
      obtain ⟨x, suf', rfl⟩ : ∃ x s, suf = x :: s := by
        cases suf with
        | nil => exfalso; have h1 := congrArg List.length HE.out; have h2 := Hp.out; simp at h1; omega
        | cons x s => exact ⟨x, s, rfl⟩
      have hbw : Below w.heap.size w wr := HBEL.out.trans (HB.out.mono HBEL.out.size)
      obtain ⟨ad, e0, hx⟩ := Kd.at_int (Kd.C_below HR0.out hbw) (p : Int) (by omega) (by omega)
      cases e0
      rw [Int.toNat_natCast] at hx
      have hxx : rd l0 (p : Int) = x := by rw [HE.out, ← Hp.out]; exact getD_mid' pre x suf'
      rw [hxx] at hx
      have Hbw := Aside0.mk hbw
      clear hxx hbw
      by_cases hm1 : x = -1
      · have e1 : (x == -1) = true := by simp [hm1]
        have e2 : (x != -1) = false := by simp [hm1]
        have Hm1 := Aside0.mk hm1
        clear hm1
        go_wp2
        go_roundg (gk - 1)
        case measure => have := HK.out; simp at this; omega
        case rel =>
          refine ⟨pre ++ [x], suf', out, m, ?_, rfl, ⟨by rw [HE.out]; simp⟩, ⟨by have := HK.out; simp at this; omega⟩, HO, HB, ⟨?_⟩, ⟨?_⟩, ⟨HX.out.1, HX.out.2.1, by have := HX.out.2.2; simp; omega⟩⟩
          · simp only [List.length_append, List.length_singleton]
            rw [Hp.out]
            rfl
          · rw [← HV.out]
            simp only [vis, Hm1.out, if_true, List.length_append, List.length_singleton]
            rfl
          · rw [← HM.out]
            simp only [most, Hm1.out, if_true]
      · have e1 : (x == -1) = false := by simp [hm1]
        have e2 : (x != -1) = true := by simp [hm1]
        have Hm1 := Aside0.mk hm1
        clear hm1
        have hmx0 : 0 ≤ m := HX.out.1
        by_cases hmx : m < x
        · have hmxb : decide (m < x) = true := decide_eq_true hmx
          have Hmx := Aside0.mk hmx
          have hro := HO.out
          go_wp2_with (first | ((with_reducible refine gate_builtin (b := .append) (xs := #[.tmp 17, .tmp 19]) rfl ?_); at_builtin; refine Kd.R_append (Kd.int .i64) (w0 := w1) w1.heap.size rfl (.tmp 17) (.tmp 19) 22 3 (.int .i64 0) 8 rfl Try.underlying22 info3 rfl (by decide) (by omega) u3 out (p : Int) [.int .i64 (p : Int)] (fun _ => True) (fun _ => False) rfl rfl ?aP (fun _ hk => hk.elim) ?aF ?aO ?aB ?aS ?aL ?_; (case aP => exact rfl); (case aB => exact HB.out); (case aF => exact (fun _ _ => trivial)); (case aO => exact HO.out); (case aS => exact HB.out.size); (case aL => have := HX.out.2.2; have := Hp.out; omega); intro v117 w17 ho hb hg hat; have n0_ := Aside0.mk (hb); have n1_ := Aside0.mk (ho); clear HB HO; have HB := n0_; have HO := n1_; clear n0_ n1_; clear ho hb hg hat))
          go_roundg (gk - 1)
          case measure => have := HK.out; simp at this; omega
          case rel =>
            refine ⟨pre ++ [x], suf', out ++ [(p : Int)], x, ?_, rfl, ⟨by rw [HE.out]; simp⟩, ⟨by have := HK.out; simp at this; omega⟩, HO, HB, ⟨?_⟩, ⟨?_⟩, ⟨⟨by have := HX.out.1; omega, by simp, by have := HX.out.2.2; simp; omega⟩⟩⟩
            · simp only [List.length_append, List.length_singleton]
              rw [Hp.out]
              rfl
            · rw [← HV.out]
              simp only [vis, Hm1.out, if_false, List.length_append, List.length_singleton, List.append_assoc, Hp.out]
              rfl
            · rw [← HM.out]
              simp only [most, Hm1.out, if_false, if_true]
              rw [if_pos (by have := Hmx.out; omega)]
        · have hmxb : decide (m < x) = false := decide_eq_false hmx
          have Hmx := Aside0.mk hmx
          have hro := HO.out
          go_wp2_with (first | ((with_reducible refine gate_builtin (b := .append) (xs := #[.tmp 17, .tmp 19]) rfl ?_); at_builtin; refine Kd.R_append (Kd.int .i64) (w0 := w1) w1.heap.size rfl (.tmp 17) (.tmp 19) 22 3 (.int .i64 0) 8 rfl Try.underlying22 info3 rfl (by decide) (by omega) u3 out (p : Int) [.int .i64 (p : Int)] (fun _ => True) (fun _ => False) rfl rfl ?aP (fun _ hk => hk.elim) ?aF ?aO ?aB ?aS ?aL ?_; (case aP => exact rfl); (case aB => exact HB.out); (case aF => exact (fun _ _ => trivial)); (case aO => exact HO.out); (case aS => exact HB.out.size); (case aL => have := HX.out.2.2; have := Hp.out; omega); intro v117 w17 ho hb hg hat; have n0_ := Aside0.mk (hb); have n1_ := Aside0.mk (ho); clear HB HO; have HB := n0_; have HO := n1_; clear n0_ n1_; clear ho hb hg hat))
          go_roundg (gk - 1)
          case measure => have := HK.out; simp at this; omega
          case rel =>
            refine ⟨pre ++ [x], suf', out ++ [(p : Int)], m, ?_, rfl, ⟨by rw [HE.out]; simp⟩, ⟨by have := HK.out; simp at this; omega⟩, HO, HB, ⟨?_⟩, ⟨?_⟩, ⟨⟨by have := HX.out.1; omega, by simp, by have := HX.out.2.2; simp; omega⟩⟩⟩
            · simp only [List.length_append, List.length_singleton]
              rw [Hp.out]
              rfl
            · rw [← HV.out]
              simp only [vis, Hm1.out, if_false, List.length_append, List.length_singleton, List.append_assoc, Hp.out]
              rfl
            · rw [← HM.out]
              simp only [most, Hm1.out, if_false, if_true]
              rw [if_neg (by have := Hmx.out; omega)]
    · have hltz : ¬ (p : Int) < (l0.length : Int) := by omega
      have hs0 : suf = [] := by
        have h1 := congrArg List.length HE.out
        have h2 := Hp.out
        simp only [List.length_append] at h1
        exact List.eq_nil_of_length_eq_zero (by omega)
      subst hs0
      have hmm : m = most 0 l0 := by have := HM.out; simpa [most] using this
      have hov : out = vis l0 0 := by have := HV.out; simpa [vis] using this
      have Hmm := Aside0.mk hmm
      have Hov := Aside0.mk hov
      clear hmm hov
      go_wp2_with (first | ((with_reducible refine gate_dst (N := 7) rfl ?_); refine box_event ?hg (N := 7) ?hd (cs := #[.int .i64 0]) (t := 3) ?hr ?_; (case hd => rfl); (case hg => rfl); (case hr => first | (go_simp; done) | (go_simp; rfl)); intro b2 hb2 w2 hbox2 hbel2; have HBOX2 := Aside0.mk hbox2; have HBEL2 := Aside0.mk hbel2; have HB2 := Aside0.mk hb2; have c2 : w2.cell? ⟨b2, 0, none⟩ = some (.int .i64 0) := (blk_cell HBOX2.out 0).trans rfl; have f2 := blk_frozen HBOX2.out 0; clear hb2 hbox2 hbel2))
      have hol0 : out.length ≤ 1000000 := by
        have h1 := congrArg List.length HE.out
        have h2 := Hp.out
        have h3 := HX.out.2.2
        simp only [List.length_append, List.length_nil] at h1
        omega
      have HOL := Aside0.mk hol0
      clear hol0
      have hown0 : w2.ownsRow w1.heap.size 3 1 u3 out.length (nums .i64 out) := pw_own_below (Kd.own_of_R HO.out) HBEL2.out
      have HOWN := Aside0.mk hown0
      have HLT := Aside0.mk (fun k hk => own_lt (Kd.own_of_R HO.out) k hk)
      clear hown0
      have hm0 : 0 ≤ m := HX.out.1
      have hm1 : m ≤ 1000 := by
        rw [Hmm.out]
        exact most_bd 1000 l0 0 (by omega) (fun x hx => by have := List.all_eq_true.1 HALL.out x hx; simpa using this)
      go_loopg [7] m.toNat (fun gg v7 wq => ∃ (bk lev : Nat) (xs : List Int), v7 = .pointer (some ⟨bk, 0, none⟩) ∧ Aside0 (lev ≤ gg ∧ lev ≤ 1000 ∧ xs.length = out.length ∧ (1 ≤ lev → out ≠ []) ∧ ∀ x ∈ xs, 0 ≤ x ∧ x < (l0.length : Int)) ∧ Aside0 (wq.heap[bk]? = some (.cells #[.int .i64 (lev : Int)] 3 (0, 0))) ∧ Aside0 (wq.ownsRow w1.heap.size 3 1 u3 out.length (nums .i64 xs)) ∧ Aside0 (∀ k, u3.ownBlock = some k → k < bk) ∧ Aside0 (w1.heap.size ≤ bk ∧ Below w1.heap.size w1 wq) ∧ Aside0 (orderGo l0 lev xs = orderL l0))
      case atStart =>
        refine ⟨b2, m.toNat, out, rfl, ⟨Nat.le_refl _, by omega, rfl, fun h => HX.out.2.1 (by omega), ?_⟩, ⟨?_⟩, ⟨?_⟩, ⟨?_⟩, ⟨?_⟩, ⟨?_⟩⟩
        · intro x hx
          rw [Hov.out] at hx
          have := vis_mem l0 0 x hx
          omega
        · have e : ((m.toNat : Nat) : Int) = m := by omega
          rw [e]
          simpa using blk_set HBOX2.out 0 (.int .i64 m)
        · exact HOWN.out.kept (grown_set w2 b2 0 _) (by
            cases ho : u3.ownBlock with
            | none => exact .inl rfl
            | some k => exact .inr (fun e => by
                injection e with e
                have h1 := HLT.out k ho
                have h2 := HB2.out
                omega))
        · intro k hk
          have := HLT.out k hk
          have := HB2.out
          omega
        · exact ⟨by have := HB2.out; have := HB.out.size; omega, below_set (HB.out.trans (HBEL2.out.mono HB.out.size)) (by have := HB2.out; have := HB.out.size; omega)⟩
        · unfold orderL
          rw [Hmm.out, Hov.out]
      case round =>
        obtain ⟨bk, lev, xs, rfl, HQ, HBK, HOW, HKB, HBL, HGO⟩ := hrel
        have cb := blk_cell HBK.out 0
        have fb := blk_frozen HBK.out 0
        simp only [List.getElem?_toArray, List.getElem?_cons_zero] at cb
        by_cases hlev : 1 ≤ lev
        · obtain ⟨n, rfl⟩ : ∃ n, lev = n + 1 := ⟨lev - 1, by omega⟩
          have hne : out ≠ [] := HQ.out.2.2.2.1 (by omega)
          obtain ⟨go8, co8, eo8, gb8, gl8⟩ := HOW.out.form (List.length_pos_iff.2 hne)
          subst eo8
          have hg8 : go8 < bk := HKB.out go8 rfl
          have hcap : out.length ≤ co8 := by
            rcases HOW.out.2 with ⟨h1, _⟩ | ⟨g', c', cur, h1, _, _, h2, _⟩
            · cases h1
            · injection h1 with h3 h4 h5
              omega
          have hbw : Below w.heap.size w wr := HBEL.out.trans (HBL.out.2.mono HBEL.out.size)
          have hw1 : w.heap.size < w1.heap.size := by
            have := (Array.getElem?_eq_some_iff.1 HBOX.out).1
            have := HB1.out
            omega
          have hb1g : b1 < go8 := by
            have := HB1.out
            have := (Array.getElem?_eq_some_iff.1 HBOX.out).1
            omega
          have hbox1 : wr.heap[b1]? = some (.cells #[.slice A0 l0.length c0] 22 (0, 0)) := (HBL.out.2.block b1 (Array.getElem?_eq_some_iff.1 HBOX.out).1).trans HBOX.out
          have HT := Aside0.mk (turn_calls (fun at_ => decide (((n : Int) + 1) ≤ rd l0 at_)) (.pointer (some ⟨b1, 0, none⟩)) (.pointer (some ⟨bk, 0, none⟩)) w1.heap.size go8 out.length co8 xs wr HOL.out hcap
            (fun W' hg' x hx => by
              have hbW : Below w.heap.size w W' := hbw.grown hg' hbw.size (fun k e => by cases e; omega)
              exact order1_calls b1 bk A0 c0 l0 ((n : Int) + 1) x W' (Kd.C_below HR0.out hbW)
                ((blk_cell (blk_of_grown hg' hbox1 (by intro e; injection e with e; omega)) 0).trans rfl)
                ((blk_cell (blk_of_grown hg' HBK.out (by intro e; injection e with e; omega)) 0).trans (by simp))
                (HQ.out.2.2.2.2 x hx).1 (HQ.out.2.2.2.2 x hx).2)
            HOW.out)
          have hlevz : (1 : Int) ≤ ((n + 1 : Nat) : Int) := by omega
          have Hbw := Aside0.mk hbw
          have Hbox1 := Aside0.mk hbox1
          have Hne := Aside0.mk hne
          clear hbw hbox1 hne
          go_wp2_with (fail)
          refine HT.out.mono ?_
          rintro e w4 ⟨rfl, hrow, hgr⟩
          have HROW := Aside0.mk hrow
          have HGR := Aside0.mk hgr
          clear hrow hgr
          have hbk4 : w4.heap[bk]? = some (.cells #[.int .i64 ((n + 1 : Nat) : Int)] 3 (0, 0)) := blk_of_grown HGR.out HBK.out (by intro e; injection e with e; omega)
          have cb4 := blk_cell hbk4 0
          have fb4 := blk_frozen hbk4 0
          simp only [List.getElem?_toArray, List.getElem?_cons_zero] at cb4
          have HBK4 := Aside0.mk hbk4
          clear hbk4
          go_wp2
          go_roundg (gk - 1)
          case measure => exact Nat.lt_of_lt_of_le (Nat.sub_lt (Nat.lt_of_lt_of_le (Nat.succ_pos n) HQ.out.1) Nat.one_pos) (Nat.le_refl _)
          case rel =>
            have hq1 := HQ.out.1
            have hq2 := HQ.out.2.1
            have hwn := wn n (Nat.le_of_succ_le hq2)
            rw [hwn]
            clear hwn
            refine ⟨w4.heap.size, n, turnL (fun at_ => decide (((n : Int) + 1) ≤ rd l0 at_)) xs, rfl, ⟨Nat.le_sub_one_of_lt hq1, Nat.le_of_succ_le hq2, ?_, fun _ => Hne.out, ?_⟩, ⟨?_⟩, ⟨?_⟩, ⟨?_⟩, ⟨?_⟩, ⟨HGO.out⟩⟩
            · rw [← HQ.out.2.2.1]
              exact (turnL_length (fun at_ => decide (((n : Int) + 1) ≤ rd l0 at_)) xs []).trans (Nat.zero_add _)
            · exact fun x hx => HQ.out.2.2.2.2 x (turnL_mem _ xs x hx)
            · exact heap_alloc_new w4 _
            · exact HROW.out.alloc _
            · intro k hk
              have := HROW.out.form (List.length_pos_iff.2 Hne.out)
              have := HGR.out.size
              have := (Array.getElem?_eq_some_iff.1 HBK.out).1
              have := HKB.out k hk
              omega
            · have hb4 : Below w1.heap.size w1 w4 := HBL.out.2.grown HGR.out HBL.out.2.size (fun k e => by cases e; omega)
              have := hb4.size
              exact ⟨by omega, hb4.alloc (by omega) _⟩
        · obtain rfl : lev = 0 := by omega
          go_wp2
          go_ret
          refine ⟨_, rfl, ?_, HBEL.out.trans (HBL.out.2.mono HBEL.out.size)⟩
          have h1 : xs = r := by rw [← HRES.out, ← HGO.out]; rfl
          subst h1
          refine Kd.R_of_own ?_ (fun _ _ => trivial)
          have h2 : out.length = xs.length := HQ.out.2.2.1.symm
          have h3 := own_weaken HOW.out (base' := w.heap.size) HBEL.out.size
          rw [h2] at h3
          exact h3


/-! ### impl_OrderOf: function 29 -/
def impl_OrderOf.f (l0 : List Int) : Option (List Int) := (impl_levelsOk.f l0).bind fun t153 => (if t153 = true then ((impl_order.f l0).bind fun t154 => (some t154)) else (some ([] : List Int)))
set_option maxHeartbeats 8000000 in
set_option maxRecDepth 100000 in
theorem impl_OrderOf.calls (A0 : Option Addr) (c0 : Nat) (l0 : List Int) (r : List Int) (w : World) (hr0 : Kd.C (Kd.int .i64) w A0 l0.length l0) (hc0 : l0.length ≤ c0) (h : impl_OrderOf.f l0 = some r) :
    Calls Try.prog 29 #[.slice A0 l0.length c0] w fun e w' => ∃ v0_ : Value, e = .returned (v0_) ∧ Kd.R (Kd.int .i64) 3 w' w.heap.size (fun _ => True) v0_ r ∧ Below w.heap.size w w' := by
  have HR0 := Aside0.mk hr0
  have HC0 := Aside0.mk hc0
  clear hr0 hc0
  have HB := Aside0.mk (Below.refl w.heap.size w)
  have H : ((impl_levelsOk.f l0).bind fun t153 => (if t153 = true then ((impl_order.f l0).bind fun t154 => (some t154)) else (some ([] : List Int)))) = some r := h
  clear h
  replace H := Option.bind_eq_some_iff.mp H
  obtain ⟨t153, A20, H⟩ := H
  replace H : (if t153 = true then ((impl_order.f l0).bind fun t154 => (some t154)) else (some ([] : List Int))) = some r := H
  have A2 := Aside0.mk A20
  clear A20
  by_cases c3 : t153 = true
  · subst c3
    have H1 : ((impl_order.f l0).bind fun t154 => (some t154)) = some r := by rw [if_pos rfl] at H; exact H
    clear H
    have H := H1
    clear H1
    replace H := Option.bind_eq_some_iff.mp H
    obtain ⟨t154, A40, H⟩ := H
    replace H : (some t154) = some r := H
    have A4 := Aside0.mk A40
    clear A40
    obtain rfl := Option.some.inj H
    go_enter Try.func29, Try.ntmps29
    go_wp2_with (first | ((with_reducible refine gate_callee (f := 71) rfl ?_); refine goesL_ (some 4) rfl rfl Try.func71 (by kernel_rfl) rfl #[.slice A0 l0.length c0] rfl (by (try simp only [List.map_toArray, List.map_cons, List.map_nil]); first | done | rfl | (simp only [List.length_drop, List.length_take]; rfl)) ?_; (with_reducible refine (impl_levelsOk.calls _ _ l0 true _ ?side1 ?side2 A2.out).mono ?_); (case side1 => repeat (first | exact HR0.out | (with_reducible refine Kd.C_alloc ?_ _) | (with_reducible refine Kd.C_drewN ?_ _) | (with_reducible refine Kd.C_drew ?_))); (case side2 => exact HC0.out); rintro e w' ⟨rfl, ⟨nd, rfl⟩⟩; refine ⟨_, rfl, ?_⟩) | ((with_reducible refine gate_callee (f := 72) rfl ?_); refine goesL_ (some 7) rfl rfl Try.func72 (by kernel_rfl) rfl #[.slice A0 l0.length c0] rfl (by (try simp only [List.map_toArray, List.map_cons, List.map_nil]); first | done | rfl | (simp only [List.length_drop, List.length_take]; rfl)) ?_; (with_reducible refine (impl_order.calls _ _ l0 t154 _ ?side1 ?side2 A4.out).mono ?_); (case side1 => repeat (first | exact HR0.out | (with_reducible refine Kd.C_alloc ?_ _) | (with_reducible refine Kd.C_drewN ?_ _) | (with_reducible refine Kd.C_drew ?_))); (case side2 => exact HC0.out); rintro e w5 ⟨v155, rfl, ho0, hb⟩; refine ⟨_, rfl, ?_⟩; have n0_ := Aside0.mk (Kd.R_lower ho0 (below_size (by repeat (first | (with_reducible first | exact HB.out | apply below_alloc | apply pw_below_drewN | apply below_drew1) | exact HB.out)))); have n1_ := Aside0.mk (below_step (by repeat (first | (with_reducible first | exact HB.out | apply below_alloc | apply pw_below_drewN | apply below_drew1) | exact HB.out)) hb); clear HB; have HO156 := n0_; have HB := n1_; clear n0_ n1_; (try clear hb); (try clear hb2); (try clear hk); (try clear hi); (try clear ho0)))
    go_ret
    exact ⟨_, by first | rfl | (simp [errW_none, errW_some] <;> rfl) | (simp [*, errW_none, errW_some] <;> rfl), by (with_reducible repeat (first | apply Kd.R_alloc | apply Kd.R_drewN | apply Kd.R_drew)); exact HO156.out, by repeat (first | (with_reducible first | exact HB.out | apply below_alloc | apply pw_below_drewN | apply below_drew1) | exact HB.out)⟩
  · replace c3 := Bool.eq_false_iff.mpr c3
    subst c3
    have H1 : (some ([] : List Int)) = some r := by rw [if_neg (show ¬ (false = true) by decide)] at H; exact H
    clear H
    have H := H1
    clear H1
    obtain rfl := Option.some.inj H
    go_enter Try.func29, Try.ntmps29
    go_wp2_with (first | ((with_reducible refine gate_callee (f := 71) rfl ?_); refine goesL_ (some 4) rfl rfl Try.func71 (by kernel_rfl) rfl #[.slice A0 l0.length c0] rfl (by (try simp only [List.map_toArray, List.map_cons, List.map_nil]); first | done | rfl | (simp only [List.length_drop, List.length_take]; rfl)) ?_; (with_reducible refine (impl_levelsOk.calls _ _ l0 false _ ?side1 ?side2 A2.out).mono ?_); (case side1 => repeat (first | exact HR0.out | (with_reducible refine Kd.C_alloc ?_ _) | (with_reducible refine Kd.C_drewN ?_ _) | (with_reducible refine Kd.C_drew ?_))); (case side2 => exact HC0.out); rintro e w' ⟨rfl, ⟨nd, rfl⟩⟩; refine ⟨_, rfl, ?_⟩))
    go_ret
    exact ⟨_, by first | rfl | (simp [errW_none, errW_some] <;> rfl) | (simp [*, errW_none, errW_some] <;> rfl), by first | exact Kd.R_nil _ _ _ _ _ | exact Kd.N_nil _ _ _ _ _ | exact Kd.V_nil _ _ _ _ _ | exact Kd.Q_nil _ _ _ _ _ | exact Kd.S_nil _ _ _ _ _, by repeat (first | (with_reducible first | exact HB.out | apply below_alloc | apply pw_below_drewN | apply below_drew1) | exact HB.out)⟩

/-! ### spec_l1In: function 78 -/
def spec_l1In.f (a0 : Int) (a1 : Int) (a2 : Int) : Option (Bool) := if a0 ≥ a1 then (some (decide (a0 ≤ a2))) else (some false)
set_option maxHeartbeats 8000000 in
set_option maxRecDepth 100000 in
theorem spec_l1In.calls (a0 : Int) (a1 : Int) (a2 : Int) (r : Bool) (w : World) (h : spec_l1In.f a0 a1 a2 = some r) :
    Calls Try.prog 78 #[.int .i64 a0, .int .i64 a1, .int .i64 a2] w fun e w' => e = .returned (.bool r) ∧ Drawn0 w w' := by
  have H : (if a0 ≥ a1 then (some (decide (a0 ≤ a2))) else (some false)) = some r := h
  clear h
  by_cases c4 : a0 ≥ a1
  · rw [if_pos c4] at H
    have c4b0 : decide (a1 ≤ a0) = true := decide_eq_true c4
    clear c4
    obtain rfl := Option.some.inj H
    go_enter Try.func78, Try.ntmps78
    go_wp2
    go_ret
    exact ⟨by first | rfl | (simp; done) | (simp [*]; done), by repeat (first | exact Drawn0.refl _ | apply Drawn0.step)⟩
  · rw [if_neg c4] at H
    have c4b0 : decide (a1 ≤ a0) = false := decide_eq_false c4
    clear c4
    obtain rfl := Option.some.inj H
    go_enter Try.func78, Try.ntmps78
    go_wp2
    go_ret
    exact ⟨by first | rfl | (simp; done) | (simp [*]; done), by repeat (first | exact Drawn0.refl _ | apply Drawn0.step)⟩

/-! ### spec_l4Ok: function 73 -/
def spec_l4Ok.l0 : Nat → List Int → Int → Option (Bool)
  | 0, _, _ => none
  | k + 1, x0, x3 => if x3 < (x0.length : Int) then (if 0 ≤ x3 then ((spec_l1In.f (rd x0 x3) (-1) 22).bind fun t158 => (if t158 = true then (spec_l4Ok.l0 k x0 (wrap64 (x3 + 1))) else (some false))) else (none)) else (some (decide ((x0.length : Int) ≤ 80)))
def spec_l4Ok.f (k : Nat) (l0 : List Int) : Option (Bool) := spec_l4Ok.l0 k l0 0
theorem spec_l4Ok.mono_l : ∀ k, (∀ y0 y1, LeO (spec_l4Ok.l0 k y0 y1) (spec_l4Ok.l0 (k + 1) y0 y1))
  | 0 => fun _ _ r h => by simp [spec_l4Ok.l0] at h
  | k + 1 => by
    have ih0 := spec_l4Ok.mono_l k
    · intro y0 y1
      unfold spec_l4Ok.l0
      repeat' first
      | (with_reducible exact ih0 _ _)
      | (with_reducible exact LeO.refl _)
      | (with_reducible exact LeO.none _)
      | (with_reducible refine LeO.ite ?_ ?_)
      | (with_reducible refine LeO.bind ?_ (fun _ => ?_))
      | exact ih0 _ _
      | exact LeO.none _
      | refine LeO.ite ?_ ?_
      | refine LeO.bind ?_ (fun _ => ?_)
theorem spec_l4Ok.mono : ∀ a0 k, LeO (spec_l4Ok.f k a0) (spec_l4Ok.f (k + 1) a0) := by
  intro a0 k
  have ih0 := spec_l4Ok.mono_l k
  unfold spec_l4Ok.f
  repeat' first
      | (with_reducible exact ih0 _ _)
      | (with_reducible exact LeO.refl _)
      | (with_reducible exact LeO.none _)
      | (with_reducible refine LeO.ite ?_ ?_)
      | (with_reducible refine LeO.bind ?_ (fun _ => ?_))
      | exact ih0 _ _
      | exact LeO.none _
      | refine LeO.ite ?_ ?_
      | refine LeO.bind ?_ (fun _ => ?_)
set_option maxHeartbeats 8000000 in
set_option maxRecDepth 100000 in
theorem spec_l4Ok.calls (k : Nat) (A0 : Option Addr) (c0 : Nat) (l0 : List Int) (r : Bool) (w : World) (hr0 : Kd.C (Kd.int .i64) w A0 l0.length l0) (hc0 : l0.length ≤ c0) (h : spec_l4Ok.f k l0 = some r) :
    Calls Try.prog 73 #[.slice A0 l0.length c0] w fun e w' => e = .returned (.bool r) ∧ Drawn0 w w' := by
  have HR0 := Aside0.mk hr0
  have HC0 := Aside0.mk hc0
  clear hr0 hc0
  have H : (spec_l4Ok.l0 k l0 0) = some r := h
  clear h
  have H' := Aside0.mk H
  clear H
  go_enter Try.func73, Try.ntmps73
  go_wp2
  go_loopg [3] k (fun kq v3 w' => ∃ (x3_1 : Int), v3 = .int .i64 x3_1 ∧ Aside0 (spec_l4Ok.l0 kq l0 x3_1 = some r) ∧ Aside0 (kq ≤ k) ∧ Drawn0 w w')
  case atStart => exact ⟨(0), (by first | rfl | (simp; done) | (simp [*]; done)), H', ⟨Nat.le_refl _⟩, by repeat (first | exact Drawn0.refl _ | apply Drawn0.step)⟩
  case round =>
    clear H'
    obtain ⟨x3_1, rfl, HA, HK1, ⟨m1, rfl⟩⟩ := hrel
    cases gk with
    | zero => exact absurd HA.out (by simp [spec_l4Ok.l0])
    | succ k1 =>
      have H := HA.out
      clear HA
      simp only [spec_l4Ok.l0] at H
      by_cases c2 : x3_1 < (l0.length : Int)
      · rw [if_pos c2] at H
        have c2b0 : decide (x3_1 < (l0.length : Int)) = true := decide_eq_true c2
        clear c2
        by_cases c3 : 0 ≤ x3_1
        · rw [if_pos c3] at H
          have c3b0 : decide (0 ≤ x3_1) = true := decide_eq_true c3
          clear c3
          replace H := Option.bind_eq_some_iff.mp H
          obtain ⟨t158, A40, H⟩ := H
          replace H : (if t158 = true then (spec_l4Ok.l0 k1 l0 (wrap64 (x3_1 + 1))) else (some false)) = some r := H
          have A4 := Aside0.mk A40
          clear A40
          by_cases c5 : t158 = true
          · subst c5
            have H1 : (spec_l4Ok.l0 k1 l0 (wrap64 (x3_1 + 1))) = some r := by rw [if_pos rfl] at H; exact H
            clear H
            have H := H1
            clear H1
            have H' := Aside0.mk H
            clear H
            have p157 : 0 ≤ (x3_1 : Int) := of_decide_eq_true (by first | (with_reducible assumption) | assumption)
            have q157 : x3_1 < (l0.length : Int) := of_decide_eq_true (by first | (with_reducible assumption) | assumption)
            obtain ⟨ad157, e157, hx157_0⟩ := Kd.at_int HR0.out x3_1 p157 q157
            cases e157
            replace p157 := eq_true p157
            replace q157 := eq_true q157
            go_wp2_with (first | ((with_reducible refine gate_callee (f := 78) rfl ?_); refine goesL_ (some 14) rfl rfl Try.func78 (by kernel_rfl) rfl #[.int .i64 (rd l0 x3_1), .int .i64 (-1), .int .i64 22] rfl (by (try simp only [List.map_toArray, List.map_cons, List.map_nil]); first | done | rfl | (simp only [List.length_drop, List.length_take]; rfl)) ?_; (with_reducible refine (spec_l1In.calls (rd l0 x3_1) (-1) 22 true _ A4.out).mono ?_); rintro e w' ⟨rfl, ⟨nd, rfl⟩⟩; refine ⟨_, rfl, ?_⟩))
            go_roundg k1
            case measure => have := HK1.out; omega
            case rel => exact ⟨(wrap64 (x3_1 + 1)), (by first | rfl | (simp; done) | (simp [*]; done)), H', ⟨by have := HK1.out; omega⟩, by repeat (first | exact Drawn0.refl _ | apply Drawn0.step)⟩
          · replace c5 := Bool.eq_false_iff.mpr c5
            subst c5
            have H1 : (some false) = some r := by rw [if_neg (show ¬ (false = true) by decide)] at H; exact H
            clear H
            have H := H1
            clear H1
            obtain rfl := Option.some.inj H
            have p157 : 0 ≤ (x3_1 : Int) := of_decide_eq_true (by first | (with_reducible assumption) | assumption)
            have q157 : x3_1 < (l0.length : Int) := of_decide_eq_true (by first | (with_reducible assumption) | assumption)
            obtain ⟨ad157, e157, hx157_0⟩ := Kd.at_int HR0.out x3_1 p157 q157
            cases e157
            replace p157 := eq_true p157
            replace q157 := eq_true q157
            go_wp2_with (first | ((with_reducible refine gate_callee (f := 78) rfl ?_); refine goesL_ (some 14) rfl rfl Try.func78 (by kernel_rfl) rfl #[.int .i64 (rd l0 x3_1), .int .i64 (-1), .int .i64 22] rfl (by (try simp only [List.map_toArray, List.map_cons, List.map_nil]); first | done | rfl | (simp only [List.length_drop, List.length_take]; rfl)) ?_; (with_reducible refine (spec_l1In.calls (rd l0 x3_1) (-1) 22 false _ A4.out).mono ?_); rintro e w' ⟨rfl, ⟨nd, rfl⟩⟩; refine ⟨_, rfl, ?_⟩))
            go_ret
            exact ⟨by first | rfl | (simp; done) | (simp [*]; done), by repeat (first | exact Drawn0.refl _ | apply Drawn0.step)⟩
        · rw [if_neg c3] at H
          exact absurd H (by simp)
      · rw [if_neg c2] at H
        have c2b0 : decide (x3_1 < (l0.length : Int)) = false := decide_eq_false c2
        clear c2
        obtain rfl := Option.some.inj H
        go_wp2
        go_ret
        exact ⟨by first | rfl | (simp; done) | (simp [*]; done), by repeat (first | exact Drawn0.refl _ | apply Drawn0.step)⟩

end Go.Proofs.Ytpdkddhadgeheaa.PFnOrderUp
