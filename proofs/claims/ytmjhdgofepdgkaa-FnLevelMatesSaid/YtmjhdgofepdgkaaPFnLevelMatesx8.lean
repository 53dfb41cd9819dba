-- Written by a program of this session (wip/tools) out of the translation; its shape is that of the kit print.
import Derived.Test.YtmjhdgofepdgkaaPFnLevelMatesx0
import Derived.Test.YtmjhdgofepdgkaaPFnLevelMatesx3
import Derived.Test.YtmjhdgofepdgkaaPFnLevelMatesx5
import Derived.Test.YtmjhdgofepdgkaaPFnLevelMatesx6
import Derived.Test.YtmjhdgofepdgkaaPFnLevelMatesx7
namespace Go.Proofs.Ytmjhdgofepdgkaa.PFnLevelMates
open Go.RowKit Go.Proofs.YtmjhdgofepdgkaaW.PrintWords Go.Proofs.YtmjhdgofepdgkaaW.PrintLast Go.Proofs.YtmjhdgofepdgkaaW.PrintMore
attribute [local go_sem] max2_int min2_int max_two min_two max_three min_three max_four min_four   -- for this text's walks alone
set_option linter.unusedVariables false
set_option linter.unusedSimpArgs false

/-- a pair as a row -/
def prR (p : Nat × Nat) : List Int := [(p.1 : Int), (p.2 : Int)]
theorem rowcell {W : World} {base g n cap : Nat} {ok : Nat → Prop} {S : List (Nat × Nat)} (hS : Kd.S (Kd.slice 3 (Kd.int .i64)) 22 W base ok (.slice (some ⟨g, 0, none⟩) n cap) (S.map prR)) (j : Nat) (hj : j < S.length) :
    ∃ b c, W.cell? ⟨g, j, none⟩ = some (.slice (some ⟨b, 0, none⟩) 2 c) ∧ W.cell? ⟨b, 0, none⟩ = some (.int .i64 (S[j].1 : Int)) ∧ W.cell? ⟨b, 1, none⟩ = some (.int .i64 (S[j].2 : Int)) := by
  have hn := (Kd.S_reads' hS).1
  rw [List.length_map] at hn
  obtain ⟨oki, cc, hcl, hM, hcc, _, _⟩ := Kd.S_lend hS [] (j : Int) (by omega) (by omega)
  obtain ⟨u, rfl, hR⟩ := hM
  have e : (S.map prR).getD (j : Int).toNat [] = prR S[j] := by
    rw [Int.toNat_natCast, List.getD_eq_getElem?_getD, List.getElem?_map, List.getElem?_eq_getElem hj]
    rfl
  rw [e] at hR
  obtain ⟨b, c, rfl, _⟩ := Kd.R_form hR (by simp [prR])
  have hC := (Kd.R_reads' hR).2.2
  have h0 := hcc 0 _ rfl
  rw [show (j : Int).toNat * (Kd.slice 3 (Kd.int .i64)).sz + 0 = j from by show (j : Int).toNat * 1 + 0 = j; omega] at h0
  refine ⟨b, c, h0, ?_, ?_⟩
  · obtain ⟨a0, e0, h⟩ := Kd.at_int hC 0 (by omega) (by simp [prR])
    cases e0
    exact h
  · obtain ⟨a0, e0, h⟩ := Kd.at_int hC 1 (by omega) (by simp [prR])
    cases e0
    exact h
/-- what the law's own functions answer, and what is so of the rows -/
structure laws_FnLevelMates.Facts (k : Nat) (l0 v u : List Int) (S : List (Nat × Nat)) (R : List (List Int)) : Prop where
  dr : spec_DrawLevelMates.f k l0 = some (v, u)
  im : impl_LevelMates.f k v u = some R
  sp : spec_LevelMates.f k v u = some R
  wc : laws_wcRows.f k R R = some true
  row : R = S.map prR
  len : S.length ≤ 1000
  vl : v.length ≤ 1000
  p : ∀ p ∈ S, p.1 < p.2 ∧ p.2 < v.length ∧ impl_RuneMate.f (rd v (p.1 : Int)) = some (rd v (p.2 : Int))
  s : S.Pairwise fun a b => a.1 < b.1
  x : S.Pairwise fun c p => c.2 ≠ p.2 ∧ ¬ (c.1 < p.1 ∧ p.1 < c.2 ∧ c.2 < p.2)
theorem go_next {m i n : Nat} (h : m + 1 + i = n) : m + (i + 1) = n := by omega
def laws_FnLevelMates.T12 : Bool × List (List Nat × List Nat) := (true, [([], []), ([], []), ([0, 1], [0, 1]), ([2], [2]), ([3], [3]), ([3], [3]), ([4, 5, 3], [3, 4, 5]), ([6, 3], [3, 6]), ([7, 3, 3], [3, 7]), ([3], [3]), ([3], [3]), ([9, 10, 3], [3, 9, 10]), ([11, 3], [3, 11]), ([8, 12, 3], [3, 8, 12]), ([3, 13], [3, 13]), ([14, 8], [14]), ([15], [15]), ([16, 15], [15, 16]), ([17, 15, 15], [15, 17]), ([18], [18]), ([18], [18]), ([20, 18], [18, 20]), ([19, 21, 18], [18, 19, 21]), ([22, 18], [18, 22]), ([23, 18], [18, 23]), ([24, 18], [18, 24]), ([18], [18]), ([25, 26, 18], [18, 25, 26]), ([18, 27, 15], [15, 18, 27]), ([15, 28], [15, 28])])
def laws_FnLevelMates.B12 : List Nat := [0, 0, 3, 7, 15, 15, 63, 127, 255, 15, 15, 1551, 3599, 8191, 16383, 32767, 65535, 131071, 262143, 524287, 524287, 1572863, 4194303, 8388607, 16777215, 33554431, 524287, 134217727, 268435455, 536870911]
theorem laws_FnLevelMates.tab12 : rtab .any (opsOf Try.f12 12) = laws_FnLevelMates.T12 := by kernel_rfl
theorem laws_FnLevelMates.bits12 : waitsOk laws_FnLevelMates.T12.2 laws_FnLevelMates.B12 = true := by kernel_rfl
set_option maxHeartbeats 16000000 in
set_option maxRecDepth 100000 in
theorem laws_FnLevelMates.path (k : Nat) (A0 : Option Addr) (c0 : Nat) (l0 v u : List Int) (S : List (Nat × Nat)) (R : List (List Int)) (w : World) (hr0 : Kd.C (Kd.int .u8) w A0 l0.length l0) (hc0 : l0.length ≤ c0) (b0 : (l0.length : Int) ≤ 1048576) (h : laws_FnLevelMates.Facts k l0 v u S R) :
    Calls Try.prog 12 #[.slice A0 l0.length c0] w fun e w' => e = .returned (.bool true) ∧ Below w.heap.size w w' := by
  have x0 : decide (1048576 < (l0.length : Int)) = false := decide_eq_false (by omega)
  have hRl : R.length = S.length := by rw [h.row, List.length_map]
  have C0 := Aside0.mk hr0
  have D0 := Aside0.mk hc0
  have F := Aside0.mk h
  have RL := Aside0.mk hRl
  have HB := Aside0.mk (Below.refl w.heap.size w)
  have T1 := Aside0.mk True.intro
  have T2 := Aside0.mk True.intro
  have T3 := Aside0.mk True.intro
  have T4 := Aside0.mk True.intro
  clear hr0 hc0 b0 h hRl
  go_enter Try.func12, Try.ntmps12
  go_wp2_with (first
    | (go_at_call 44; have tk_ := T1.out; refine (spec_DrawLevelMates.calls k A0 c0 l0 v u _ (Kd.C_below C0.out HB.out) D0.out F.out.dr).mono ?_; clear tk_ T1; rintro e_ w1 ⟨va_, vb_, rfl, hra, hrb, hb⟩; have HBn := Aside0.mk (below_step HB.out hb); clear HB; have HB := HBn; clear HBn; obtain ⟨B1, d1, e1, g1, _⟩ := Kd.R_reads hra; obtain ⟨B2, d2, e2, g2, _⟩ := Kd.R_reads hrb; subst e1; subst e2; have H1 := Aside0.mk (Kd.R_reads' hra).2.2; have H2 := Aside0.mk (Kd.R_reads' hrb).2.2; have G1 := Aside0.mk g1; have G2 := Aside0.mk g2; clear hra hrb hb g1 g2)
    | (go_at_call 40; have tk_ := T2.out; refine (impl_LevelMates.calls k _ _ v _ _ u R _ H1.out G1.out H2.out G2.out F.out.im).mono ?_; clear tk_ T2; rintro e_ w2 ⟨v_, rfl, hr, hb⟩; have HBn := Aside0.mk (below_step HB.out hb); have H1n := Aside0.mk (Kd.C_below H1.out hb); have H2n := Aside0.mk (Kd.C_below H2.out hb); clear HB H1 H2; have HB := HBn; have H1 := H1n; have H2 := H2n; clear HBn H1n H2n; obtain ⟨B6, d6, e6, g6, _⟩ := Kd.S_reads hr; subst e6; have S6 := Aside0.mk (Kd.S_mono (ok' := (fun k => w1.heap.size ≤ k ∧ k < w2.heap.size)) (Kd.S_bound hr) (fun k hk => ⟨hk.2.1, hk.2.2.1⟩)); have G6 := Aside0.mk g6; clear hr hb g6)
    | (go_at_call 39; have tk_ := T3.out; refine (spec_LevelMates.calls k _ _ v _ _ u R _ H1.out G1.out H2.out G2.out F.out.sp).mono ?_; clear tk_ T3; rintro e_ w3 ⟨v_, rfl, hr, hb⟩; have HBn := Aside0.mk (below_step HB.out hb); have H1n := Aside0.mk (Kd.C_below H1.out hb); have S6n := Aside0.mk (Kd.S_below S6.out hb); clear HB H1 H2 S6; have HB := HBn; have H1 := H1n; have S6 := S6n; clear HBn H1n S6n; obtain ⟨B3, d3, e3, g3, _⟩ := id (Kd.N_V (base' := 0) hr); subst e3; have V3 := Aside0.mk (Kd.V_mono (ok' := (fun k => w2.heap.size ≤ k ∧ k < w3.heap.size)) (Kd.V_bound (Kd.N_V (base' := 0) hr)) (fun k hk => hk)); have G3 := Aside0.mk g3; clear hr hb g3)
    | (go_at_call 45; have tk_ := T4.out; refine (laws_wcRows.calls k _ _ R _ _ R true _ (Kd.S_reads' S6.out).2.2 G6.out (Kd.V_reads' V3.out).2.2 G3.out F.out.wc).mono ?_; clear tk_ T4; rintro e_ w4 ⟨rfl, hd⟩; have hb := hd.below; clear hd; have HBn := Aside0.mk (below_step HB.out hb); have H1n := Aside0.mk (Kd.C_below H1.out hb); have S6n := Aside0.mk (Kd.S_below S6.out hb); clear HB H1 S6 V3; have HB := HBn; have H1 := H1n; have S6 := S6n; clear HBn H1n S6n; clear hb))
  go_loopg [6] S.length (fun kq v6 wr => ∃ i : Nat, kq + i = S.length ∧ v6 = .int .i64 (i : Int) ∧ Aside0 (Kd.C (Kd.int .i64) wr B1 v.length v) ∧ Aside0 (Kd.S (Kd.slice 3 (Kd.int .i64)) 22 wr w1.heap.size (fun k => w1.heap.size ≤ k ∧ k < w2.heap.size) (.slice B6 R.length d6) R) ∧ Aside0 (Below w.heap.size w wr))
  case atStart => exact ⟨0, by omega, rfl, H1, S6, HB⟩
  case round =>
    clear H1 S6 HB
    obtain ⟨i, hki, rfl, HV, HS, HB⟩ := hrel
    by_cases hi : i < S.length
    · obtain ⟨m6, rfl⟩ : ∃ m, gk = m + 1 := ⟨gk - 1, by omega⟩
      have KI := Aside0.mk True.intro
      have KI2 := Aside0.mk hki
      clear hki
      have hdec : decide ((i : Int) < (R.length : Int)) = true := decide_eq_true (by rw [RL.out]; omega)
      have hdec2 : decide (i < R.length) = true := decide_eq_true (by rw [RL.out]; omega)
      obtain ⟨g, cap, e1, _⟩ := Kd.S_form HS.out (by rw [RL.out]; omega)
      injection e1 with e1 e2 e3
      subst e1
      clear e2 e3
      have hS2 := HS.out
      have hrow := F.out.row
      rw [hrow, List.length_map] at hS2
      obtain ⟨b, c, r0, r1, r2⟩ := rowcell hS2 i hi
      obtain ⟨p1, p2, p3⟩ := F.out.p S[i] (List.getElem_mem hi)
      have hvl := F.out.vl
      generalize hpa : ((S[i].1 : Nat) : Int) = pa at r1 p3
      generalize hpb : ((S[i].2 : Nat) : Int) = pb at r2 p3
      have a0 : 0 ≤ pa := by omega
      have a1 : pa < (v.length : Int) := by omega
      have b0 : 0 ≤ pb := by omega
      have b1 : pb < (v.length : Int) := by omega
      have ab : decide (pb ≤ pa) = false := decide_eq_false (by omega)
      obtain ⟨ad, e1, va⟩ := Kd.at_int HV.out pa a0 a1
      subst e1
      obtain ⟨ad', e1, vb⟩ := Kd.at_int HV.out pb b0 b1
      cases e1
      have P := Aside0.mk p3
      have PA := Aside0.mk hpa
      have PB := Aside0.mk hpb
      have X1 := Aside0.mk p1
      have X2 := Aside0.mk p2
      have IL := Aside0.mk hi
      have q1 : (2 : Nat) = 2 := rfl
      have hiR : i < R.length := by rw [RL.out]; omega
      clear hS2 hrow p1 p2 p3 hpa hpb hvl q1
      generalize hla : rd v pa = la at P
      generalize hlb : rd v pb = lb at P
      have LA := Aside0.mk hla
      have LB := Aside0.mk hlb
      clear hla hlb
      have hne : (lb != lb) = false := by simp
      go_upto_region 12 with (fail)
      go_cut [76] (fun v76 wc => v76 = .bool false ∧ Aside0 (Kd.C (Kd.int .i64) wc (some ad) v.length v) ∧ Aside0 (Kd.S (Kd.slice 3 (Kd.int .i64)) 22 wc w1.heap.size (fun k => w1.heap.size ≤ k ∧ k < w2.heap.size) (.slice (some ⟨g, 0, none⟩) R.length d6) R) ∧ Aside0 (Below w.heap.size w wc))
      case first =>
        clear r0 r1 r2 va vb
        by_cases hi0 : i = 0
        · skip
          try go_wp2
          have n0_ := Aside0.mk (Kd.C_drew HV.out)
          have n1_ := Aside0.mk (Kd.S_drew HS.out)
          have n2_ := Aside0.mk (below_drew1 HB.out)
          clear HV HS HB
          have HV := n0_
          have HS := n1_
          have HB := n2_
          clear n0_ n1_ n2_
          obtain ⟨ad2, e1, va⟩ := Kd.at_int HV.out pa a0 a1
          cases e1
          obtain ⟨ad3, e1, vb⟩ := Kd.at_int HV.out pb b0 b1
          cases e1
          rw [LA.out] at va
          rw [LB.out] at vb
          replace a0 := eq_true a0
          replace a1 := eq_true a1
          replace b0 := eq_true b0
          replace b1 := eq_true b1
          have hz : decide (0 < i) = false := decide_eq_false (by omega)
          have hz2 : decide (0 < (i : Int)) = false := decide_eq_false (by omega)
          clear hi0
          refine start_ (n := 30) (S := fun w' => w'.cell? (ad.add pa.toNat) = some (.int .i64 la) ∧ w'.cell? (ad.add pb.toNat) = some (.int .i64 lb)) (ds := []) #[false, false, false, false, false, false, false, false, false, false, false, false, false, false, false, false, false, false, false, false, false, false, false, false, false, false, false, false, false, false] (by kernel_rfl) rfl rfl ⟨va, vb⟩ (fun hHeld => ?_); refine with_tabW laws_FnLevelMates.tab12 laws_FnLevelMates.bits12 (fun HT_ HW_ => ?_)
          generalize wr.drew = w33 at HV HS HB va vb hHeld ⊢
          refine pure_ (i := 0) (N := some 47) (v := ?_) (a' := ?_) #[true, false, false, false, false, false, false, false, false, false, false, false, false, false, false, false, false, false, false, false, false, false, false, false, false, false, false, false, false, false] rfl rfl (any_of HT_.out (by kernel_rfl)) (fun _ _ _ h => h) (Or.inl ⟨by rfl, ?_⟩) ?_ ?_
          rotate_left
          · intro w'
            go_simp
            with_reducible rfl
          rotate_left
          · simp only [Act.put, List.setIfInBounds_toArray, List.set_cons_zero, List.set_cons_succ, i64_w, i32_w]
            rfl
          refine pure_ (i := 1) (N := some 48) (v := ?_) (a' := ?_) #[true, true, false, false, false, false, false, false, false, false, false, false, false, false, false, false, false, false, false, false, false, false, false, false, false, false, false, false, false, false] rfl rfl (any_of HT_.out (by kernel_rfl)) (fun _ _ _ h => h) (Or.inl ⟨by rfl, ?_⟩) ?_ ?_
          rotate_left
          · intro w'
            go_simp
            with_reducible rfl
          rotate_left
          · simp only [Act.put, List.setIfInBounds_toArray, List.set_cons_zero, List.set_cons_succ, i64_w, i32_w]
            rfl
          refine pure_ (i := 2) (N := some 49) (v := ?_) (a' := ?_) #[true, true, true, false, false, false, false, false, false, false, false, false, false, false, false, false, false, false, false, false, false, false, false, false, false, false, false, false, false, false] rfl rfl (any_of HT_.out (by kernel_rfl)) (fun _ _ _ h => h) (Or.inl ⟨by rfl, ?_⟩) ?_ ?_
          rotate_left
          · intro w'
            go_simp
            with_reducible rfl
          rotate_left
          · simp only [Act.put, List.setIfInBounds_toArray, List.set_cons_zero, List.set_cons_succ, i64_w, i32_w]
            rfl
          refine pure_ (i := 3) (N := some 50) (v := ?_) (a' := ?_) #[true, true, true, true, false, false, false, false, false, false, false, false, false, false, false, false, false, false, false, false, false, false, false, false, false, false, false, false, false, false] rfl rfl (any_of HT_.out (by kernel_rfl)) (fun _ _ _ h => h) (Or.inl ⟨by rfl, ?_⟩) ?_ ?_
          rotate_left
          · intro w'
            go_simp
            with_reducible rfl
          rotate_left
          · simp only [Act.put, List.setIfInBounds_toArray, List.set_cons_zero, List.set_cons_succ, i64_w, i32_w]
            rfl
          refine pure_ (i := 4) (N := some 51) (v := ?_) (a' := ?_) #[true, true, true, true, true, false, false, false, false, false, false, false, false, false, false, false, false, false, false, false, false, false, false, false, false, false, false, false, false, false] rfl rfl (any_of HT_.out (by kernel_rfl)) (fun _ _ _ h => h) (Or.inl ⟨by rfl, ?_⟩) ?_ ?_
          rotate_left
          · intro w'
            go_simp
            with_reducible rfl
          rotate_left
          · simp only [Act.put, List.setIfInBounds_toArray, List.set_cons_zero, List.set_cons_succ, i64_w, i32_w]
            rfl
          refine pure_ (i := 5) (N := some 52) (v := ?_) (a' := ?_) #[true, true, true, true, true, true, false, false, false, false, false, false, false, false, false, false, false, false, false, false, false, false, false, false, false, false, false, false, false, false] rfl rfl (any_of HT_.out (by kernel_rfl)) (fun _ _ _ h => h) (Or.inl ⟨by rfl, ?_⟩) ?_ ?_
          rotate_left
          · intro w'
            go_simp
            with_reducible rfl
          rotate_left
          · simp only [Act.put, List.setIfInBounds_toArray, List.set_cons_zero, List.set_cons_succ, i64_w, i32_w]
            rfl
          refine pure_ (i := 6) (N := some 53) (v := ?_) (a' := ?_) #[true, true, true, true, true, true, true, false, false, false, false, false, false, false, false, false, false, false, false, false, false, false, false, false, false, false, false, false, false, false] rfl rfl (any_of HT_.out (by kernel_rfl)) (fun _ _ _ h => h) (Or.inl ⟨by rfl, ?_⟩) ?_ ?_
          rotate_left
          · intro w'
            go_simp
            with_reducible rfl
          rotate_left
          · simp only [Act.put, List.setIfInBounds_toArray, List.set_cons_zero, List.set_cons_succ, i64_w, i32_w]
            rfl
          refine pure_ (i := 9) (N := some 56) (v := ?_) (a' := ?_) #[true, true, true, true, true, true, true, false, false, true, false, false, false, false, false, false, false, false, false, false, false, false, false, false, false, false, false, false, false, false] rfl rfl (any_of HT_.out (by kernel_rfl)) (fun _ _ _ h => h) (Or.inl ⟨by rfl, ?_⟩) ?_ ?_
          rotate_left
          · intro w'
            go_simp
            with_reducible rfl
          rotate_left
          · simp only [Act.put, List.setIfInBounds_toArray, List.set_cons_zero, List.set_cons_succ, i64_w, i32_w]
            rfl
          refine pure_ (i := 10) (N := some 57) (v := ?_) (a' := ?_) #[true, true, true, true, true, true, true, false, false, true, true, false, false, false, false, false, false, false, false, false, false, false, false, false, false, false, false, false, false, false] rfl rfl (any_of HT_.out (by kernel_rfl)) (fun _ _ _ h => h) (Or.inl ⟨by rfl, ?_⟩) ?_ ?_
          rotate_left
          · intro w'
            go_simp
            with_reducible rfl
          rotate_left
          · simp only [Act.put, List.setIfInBounds_toArray, List.set_cons_zero, List.set_cons_succ, i64_w, i32_w]
            rfl
          refine pure_ (i := 11) (N := some 58) (v := ?_) (a' := ?_) #[true, true, true, true, true, true, true, false, false, true, true, true, false, false, false, false, false, false, false, false, false, false, false, false, false, false, false, false, false, false] rfl rfl (any_of HT_.out (by kernel_rfl)) (fun _ _ _ h => h) (Or.inl ⟨by rfl, ?_⟩) ?_ ?_
          rotate_left
          · intro w'
            go_simp
            with_reducible rfl
          rotate_left
          · simp only [Act.put, List.setIfInBounds_toArray, List.set_cons_zero, List.set_cons_succ, i64_w, i32_w]
            rfl
          refine take_ (i := 7) (N := some 54) (v := ?_) (a' := ?_) #[true, true, true, true, true, true, true, true, false, true, true, true, false, false, false, false, false, false, false, false, false, false, false, false, false, false, false, false, false, false] rfl rfl (take_ofW HT_.out HW_.out (by kernel_rfl)) (fun _ _ _ h => h) (Or.inl ⟨by rfl, ?_⟩) hHeld ?_ ?_
          rotate_left
          · rintro w' ⟨s0, s1⟩
            go_simp
            with_reducible rfl
          rotate_left
          · simp only [Act.put, List.setIfInBounds_toArray, List.set_cons_zero, List.set_cons_succ, i64_w, i32_w]
            rfl
          refine take_ (i := 12) (N := some 59) (v := ?_) (a' := ?_) #[true, true, true, true, true, true, true, true, false, true, true, true, true, false, false, false, false, false, false, false, false, false, false, false, false, false, false, false, false, false] rfl rfl (take_ofW HT_.out HW_.out (by kernel_rfl)) (fun _ _ _ h => h) (Or.inl ⟨by rfl, ?_⟩) hHeld ?_ ?_
          rotate_left
          · rintro w' ⟨s0, s1⟩
            go_simp
            with_reducible rfl
          rotate_left
          · simp only [Act.put, List.setIfInBounds_toArray, List.set_cons_zero, List.set_cons_succ, i64_w, i32_w]
            rfl
          refine one_ (i := 8) (N := some 55) #[true, true, true, true, true, true, true, true, true, true, true, true, true, false, false, false, false, false, false, false, false, false, false, false, false, false, false, false, false, false] rfl rfl (one_of HT_.out (by kernel_rfl)) (by decide) (fun K hK => ?_)
          refine goes_ Try.func46 (by kernel_rfl) rfl #[.int .i64 la] (by rfl) rfl rfl (by (try simp only [List.map_toArray, List.map_cons, List.map_nil]); first | done | rfl | (simp only [List.length_drop, List.length_take]; rfl)) ?_
          with_reducible refine (impl_RuneMate.calls la lb _ P.out).mono ?_
          rintro e w36 ⟨rfl, hb⟩
          have HS0_ := (hb.cell (World.block_lt_of_cell? _ _ (hHeld.1))).trans (hHeld.1)
          have HS1_ := (hb.cell (World.block_lt_of_cell? _ _ (hHeld.2))).trans (hHeld.2)
          refine ⟨_, rfl, ?_⟩
          have n0_ := Aside0.mk (Kd.C_below HV.out hb)
          have n1_ := Aside0.mk (Kd.S_below HS.out hb)
          have n2_ := Aside0.mk (below_step HB.out hb)
          clear HV HS HB va vb
          have HV := n0_
          have HS := n1_
          have HB := n2_
          clear n0_ n1_ n2_
          clear hb
          refine hK.out _ _ ⟨HS0_, HS1_⟩ (fun hHeld => ?_)
          clear hK K
          refine norm_ (a' := ?_) ?_ ?_
          rotate_left
          · show Act.put _ (some 55) _ = _
            simp only [Act.put, List.setIfInBounds_toArray, List.set_cons_zero, List.set_cons_succ, i64_w, i32_w]
            rfl
          refine pure_ (i := 13) (N := some 60) (v := ?_) (a' := ?_) #[true, true, true, true, true, true, true, true, true, true, true, true, true, true, false, false, false, false, false, false, false, false, false, false, false, false, false, false, false, false] rfl rfl (any_of HT_.out (by kernel_rfl)) (fun _ _ _ h => h) (Or.inl ⟨by rfl, ?_⟩) ?_ ?_
          rotate_left
          · intro w'
            go_simp
            with_reducible rfl
          rotate_left
          · simp only [Act.put, List.setIfInBounds_toArray, List.set_cons_zero, List.set_cons_succ, i64_w, i32_w]
            rfl
          refine pure_ (i := 14) (N := some 61) (v := ?_) (a' := ?_) #[true, true, true, true, true, true, true, true, true, true, true, true, true, true, true, false, false, false, false, false, false, false, false, false, false, false, false, false, false, false] rfl rfl (any_of HT_.out (by kernel_rfl)) (fun _ _ _ h => h) (Or.inl ⟨by rfl, ?_⟩) ?_ ?_
          rotate_left
          · intro w'
            go_simp
            with_reducible rfl
          rotate_left
          · simp only [Act.put, List.setIfInBounds_toArray, List.set_cons_zero, List.set_cons_succ, i64_w, i32_w]
            rfl
          refine pure_ (i := 15) (N := some 62) (v := ?_) (a' := ?_) #[true, true, true, true, true, true, true, true, true, true, true, true, true, true, true, true, false, false, false, false, false, false, false, false, false, false, false, false, false, false] rfl rfl (any_of HT_.out (by kernel_rfl)) (fun _ _ _ h => h) (Or.inl ⟨by rfl, ?_⟩) ?_ ?_
          rotate_left
          · intro w'
            go_simp
            with_reducible rfl
          rotate_left
          · simp only [Act.put, List.setIfInBounds_toArray, List.set_cons_zero, List.set_cons_succ, i64_w, i32_w]
            rfl
          refine pure_ (i := 16) (N := some 63) (v := ?_) (a' := ?_) #[true, true, true, true, true, true, true, true, true, true, true, true, true, true, true, true, true, false, false, false, false, false, false, false, false, false, false, false, false, false] rfl rfl (any_of HT_.out (by kernel_rfl)) (fun _ _ _ h => h) (Or.inl ⟨by rfl, ?_⟩) ?_ ?_
          rotate_left
          · intro w'
            go_simp
            with_reducible rfl
          rotate_left
          · simp only [Act.put, List.setIfInBounds_toArray, List.set_cons_zero, List.set_cons_succ, i64_w, i32_w]
            rfl
          refine pure_ (i := 17) (N := some 64) (v := ?_) (a' := ?_) #[true, true, true, true, true, true, true, true, true, true, true, true, true, true, true, true, true, true, false, false, false, false, false, false, false, false, false, false, false, false] rfl rfl (any_of HT_.out (by kernel_rfl)) (fun _ _ _ h => h) (Or.inl ⟨by rfl, ?_⟩) ?_ ?_
          rotate_left
          · intro w'
            go_simp
            with_reducible rfl
          rotate_left
          · simp only [Act.put, List.setIfInBounds_toArray, List.set_cons_zero, List.set_cons_succ, i64_w, i32_w]
            rfl
          refine pure_ (i := 18) (N := some 65) (v := ?_) (a' := ?_) #[true, true, true, true, true, true, true, true, true, true, true, true, true, true, true, true, true, true, true, false, false, false, false, false, false, false, false, false, false, false] rfl rfl (any_of HT_.out (by kernel_rfl)) (fun _ _ _ h => h) (Or.inl ⟨by rfl, ?_⟩) ?_ ?_
          rotate_left
          · intro w'
            go_simp
            with_reducible rfl
          rotate_left
          · simp only [Act.put, List.setIfInBounds_toArray, List.set_cons_zero, List.set_cons_succ, i64_w, i32_w]
            rfl
          refine pure_ (i := 19) (N := some 66) (v := undef) (a' := ?_) #[true, true, true, true, true, true, true, true, true, true, true, true, true, true, true, true, true, true, true, true, false, false, false, false, false, false, false, false, false, false] rfl rfl (any_of HT_.out (by kernel_rfl)) (fun _ _ _ h => h) (Or.inr ⟨by rfl, rfl⟩) ?_ ?_
          rotate_left
          · simp only [Act.put, List.setIfInBounds_toArray, List.set_cons_zero, List.set_cons_succ, i64_w, i32_w]
            rfl
          refine pure_ (i := 20) (N := some 67) (v := undef) (a' := ?_) #[true, true, true, true, true, true, true, true, true, true, true, true, true, true, true, true, true, true, true, true, true, false, false, false, false, false, false, false, false, false] rfl rfl (any_of HT_.out (by kernel_rfl)) (fun _ _ _ h => h) (Or.inr ⟨by rfl, rfl⟩) ?_ ?_
          rotate_left
          · simp only [Act.put, List.setIfInBounds_toArray, List.set_cons_zero, List.set_cons_succ, i64_w, i32_w]
            rfl
          refine pure_ (i := 21) (N := some 68) (v := undef) (a' := ?_) #[true, true, true, true, true, true, true, true, true, true, true, true, true, true, true, true, true, true, true, true, true, true, false, false, false, false, false, false, false, false] rfl rfl (any_of HT_.out (by kernel_rfl)) (fun _ _ _ h => h) (Or.inr ⟨by rfl, rfl⟩) ?_ ?_
          rotate_left
          · simp only [Act.put, List.setIfInBounds_toArray, List.set_cons_zero, List.set_cons_succ, i64_w, i32_w]
            rfl
          refine pure_ (i := 22) (N := some 69) (v := undef) (a' := ?_) #[true, true, true, true, true, true, true, true, true, true, true, true, true, true, true, true, true, true, true, true, true, true, true, false, false, false, false, false, false, false] rfl rfl (any_of HT_.out (by kernel_rfl)) (fun _ _ _ h => h) (Or.inr ⟨by rfl, rfl⟩) ?_ ?_
          rotate_left
          · simp only [Act.put, List.setIfInBounds_toArray, List.set_cons_zero, List.set_cons_succ, i64_w, i32_w]
            rfl
          refine pure_ (i := 23) (N := some 70) (v := undef) (a' := ?_) #[true, true, true, true, true, true, true, true, true, true, true, true, true, true, true, true, true, true, true, true, true, true, true, true, false, false, false, false, false, false] rfl rfl (any_of HT_.out (by kernel_rfl)) (fun _ _ _ h => h) (Or.inr ⟨by rfl, rfl⟩) ?_ ?_
          rotate_left
          · simp only [Act.put, List.setIfInBounds_toArray, List.set_cons_zero, List.set_cons_succ, i64_w, i32_w]
            rfl
          refine pure_ (i := 24) (N := some 71) (v := undef) (a' := ?_) #[true, true, true, true, true, true, true, true, true, true, true, true, true, true, true, true, true, true, true, true, true, true, true, true, true, false, false, false, false, false] rfl rfl (any_of HT_.out (by kernel_rfl)) (fun _ _ _ h => h) (Or.inr ⟨by rfl, rfl⟩) ?_ ?_
          rotate_left
          · simp only [Act.put, List.setIfInBounds_toArray, List.set_cons_zero, List.set_cons_succ, i64_w, i32_w]
            rfl
          refine pure_ (i := 25) (N := some 72) (v := undef) (a' := ?_) #[true, true, true, true, true, true, true, true, true, true, true, true, true, true, true, true, true, true, true, true, true, true, true, true, true, true, false, false, false, false] rfl rfl (any_of HT_.out (by kernel_rfl)) (fun _ _ _ h => h) (Or.inr ⟨by rfl, rfl⟩) ?_ ?_
          rotate_left
          · simp only [Act.put, List.setIfInBounds_toArray, List.set_cons_zero, List.set_cons_succ, i64_w, i32_w]
            rfl
          refine pure_ (i := 26) (N := some 73) (v := undef) (a' := ?_) #[true, true, true, true, true, true, true, true, true, true, true, true, true, true, true, true, true, true, true, true, true, true, true, true, true, true, true, false, false, false] rfl rfl (any_of HT_.out (by kernel_rfl)) (fun _ _ _ h => h) (Or.inr ⟨by rfl, rfl⟩) ?_ ?_
          rotate_left
          · simp only [Act.put, List.setIfInBounds_toArray, List.set_cons_zero, List.set_cons_succ, i64_w, i32_w]
            rfl
          refine pure_ (i := 27) (N := some 74) (v := undef) (a' := ?_) #[true, true, true, true, true, true, true, true, true, true, true, true, true, true, true, true, true, true, true, true, true, true, true, true, true, true, true, true, false, false] rfl rfl (any_of HT_.out (by kernel_rfl)) (fun _ _ _ h => h) (Or.inr ⟨by rfl, rfl⟩) ?_ ?_
          rotate_left
          · simp only [Act.put, List.setIfInBounds_toArray, List.set_cons_zero, List.set_cons_succ, i64_w, i32_w]
            rfl
          refine pure_ (i := 28) (N := some 75) (v := ?_) (a' := ?_) #[true, true, true, true, true, true, true, true, true, true, true, true, true, true, true, true, true, true, true, true, true, true, true, true, true, true, true, true, true, false] rfl rfl (any_of HT_.out (by kernel_rfl)) (fun _ _ _ h => h) (Or.inl ⟨by rfl, ?_⟩) ?_ ?_
          rotate_left
          · intro w'
            go_simp
            with_reducible rfl
          rotate_left
          · simp only [Act.put, List.setIfInBounds_toArray, List.set_cons_zero, List.set_cons_succ, i64_w, i32_w]
            rfl
          refine pure_ (i := 29) (N := some 76) (v := ?_) (a' := ?_) #[true, true, true, true, true, true, true, true, true, true, true, true, true, true, true, true, true, true, true, true, true, true, true, true, true, true, true, true, true, true] rfl rfl (any_of HT_.out (by kernel_rfl)) (fun _ _ _ h => h) (Or.inl ⟨by rfl, ?_⟩) ?_ ?_
          rotate_left
          · intro w'
            go_simp
            with_reducible rfl
          rotate_left
          · simp only [Act.put, List.setIfInBounds_toArray, List.set_cons_zero, List.set_cons_succ, i64_w, i32_w]
            rfl
          refine done_ (done_of HT_.out (by kernel_rfl)) ?_
          try go_wp2
          go_meet
          case rel => exact ⟨rfl, ⟨by repeat (first | (with_reducible exact HV.out) | (with_reducible refine Kd.C_alloc ?_ _) | (with_reducible refine Kd.C_drewN ?_ _) | (with_reducible refine Kd.C_drew ?_) | exact HV.out)⟩, ⟨by repeat (first | (with_reducible exact HS.out) | (with_reducible apply Kd.S_drewN) | (with_reducible apply Kd.S_drew) | exact HS.out)⟩, ⟨by repeat (first | (with_reducible first | exact HB.out | apply below_alloc | apply pw_below_drewN | apply below_drew1) | exact HB.out)⟩⟩
        · skip
          try go_wp2
          have n0_ := Aside0.mk (Kd.C_drew HV.out)
          have n1_ := Aside0.mk (Kd.S_drew HS.out)
          have n2_ := Aside0.mk (below_drew1 HB.out)
          clear HV HS HB
          have HV := n0_
          have HS := n1_
          have HB := n2_
          clear n0_ n1_ n2_
          obtain ⟨ad2, e1, va⟩ := Kd.at_int HV.out pa a0 a1
          cases e1
          obtain ⟨ad3, e1, vb⟩ := Kd.at_int HV.out pb b0 b1
          cases e1
          rw [LA.out] at va
          rw [LB.out] at vb
          replace a0 := eq_true a0
          replace a1 := eq_true a1
          replace b0 := eq_true b0
          replace b1 := eq_true b1
          obtain ⟨j, hj⟩ : ∃ j, j + 1 = i := ⟨i - 1, by omega⟩
          have hS2 := HS.out
          have hrow := F.out.row
          rw [hrow, List.length_map] at hS2
          obtain ⟨b', c', s0, s1, s2⟩ := rowcell hS2 j (by have := IL.out; omega)
          have hlen := F.out.len
          have hlt := List.pairwise_iff_getElem.mp F.out.s j i (by have := IL.out; omega) IL.out (by omega)
          have hw1 : wrap64 ((i : Int) - 1) = (j : Int) := by unfold wrap64; omega
          have hw2 : IntKind.i64.wrap ((i : Int) - 1) = (j : Int) := (i64_w _).trans hw1
          have hjR : j < R.length := by rw [RL.out]; have := IL.out; omega
          have hjR2 : decide (j < R.length) = true := decide_eq_true hjR
          generalize hc1 : ((S[j].1 : Nat) : Int) = c1 at s1
          have hge : decide (pa ≤ c1) = false := decide_eq_false (by have := PA.out; omega)
          have hz : decide (0 < i) = true := decide_eq_true (by omega)
          have hz2 : decide (0 < (i : Int)) = true := decide_eq_true (by omega)
          clear s2 hS2 hrow hlen hlt hc1 hj hi0
          refine start_ (n := 30) (S := fun w' => w'.cell? (ad.add pa.toNat) = some (.int .i64 la) ∧ w'.cell? (ad.add pb.toNat) = some (.int .i64 lb) ∧ w'.cell? ⟨g, j, none⟩ = some (.slice (some ⟨b', 0, none⟩) 2 c') ∧ w'.cell? ⟨b', 0, none⟩ = some (.int .i64 c1)) (ds := []) #[false, false, false, false, false, false, false, false, false, false, false, false, false, false, false, false, false, false, false, false, false, false, false, false, false, false, false, false, false, false] (by kernel_rfl) rfl rfl ⟨va, vb, s0, s1⟩ (fun hHeld => ?_); refine with_tabW laws_FnLevelMates.tab12 laws_FnLevelMates.bits12 (fun HT_ HW_ => ?_)
          generalize wr.drew = w33 at HV HS HB va vb s0 s1 hHeld ⊢
          refine pure_ (i := 0) (N := some 47) (v := ?_) (a' := ?_) #[true, false, false, false, false, false, false, false, false, false, false, false, false, false, false, false, false, false, false, false, false, false, false, false, false, false, false, false, false, false] rfl rfl (any_of HT_.out (by kernel_rfl)) (fun _ _ _ h => h) (Or.inl ⟨by rfl, ?_⟩) ?_ ?_
          rotate_left
          · intro w'
            go_simp
            with_reducible rfl
          rotate_left
          · simp only [Act.put, List.setIfInBounds_toArray, List.set_cons_zero, List.set_cons_succ, i64_w, i32_w]
            rfl
          refine pure_ (i := 1) (N := some 48) (v := ?_) (a' := ?_) #[true, true, false, false, false, false, false, false, false, false, false, false, false, false, false, false, false, false, false, false, false, false, false, false, false, false, false, false, false, false] rfl rfl (any_of HT_.out (by kernel_rfl)) (fun _ _ _ h => h) (Or.inl ⟨by rfl, ?_⟩) ?_ ?_
          rotate_left
          · intro w'
            go_simp
            with_reducible rfl
          rotate_left
          · simp only [Act.put, List.setIfInBounds_toArray, List.set_cons_zero, List.set_cons_succ, i64_w, i32_w]
            rfl
          refine pure_ (i := 2) (N := some 49) (v := ?_) (a' := ?_) #[true, true, true, false, false, false, false, false, false, false, false, false, false, false, false, false, false, false, false, false, false, false, false, false, false, false, false, false, false, false] rfl rfl (any_of HT_.out (by kernel_rfl)) (fun _ _ _ h => h) (Or.inl ⟨by rfl, ?_⟩) ?_ ?_
          rotate_left
          · intro w'
            go_simp
            with_reducible rfl
          rotate_left
          · simp only [Act.put, List.setIfInBounds_toArray, List.set_cons_zero, List.set_cons_succ, i64_w, i32_w]
            rfl
          refine pure_ (i := 3) (N := some 50) (v := ?_) (a' := ?_) #[true, true, true, true, false, false, false, false, false, false, false, false, false, false, false, false, false, false, false, false, false, false, false, false, false, false, false, false, false, false] rfl rfl (any_of HT_.out (by kernel_rfl)) (fun _ _ _ h => h) (Or.inl ⟨by rfl, ?_⟩) ?_ ?_
          rotate_left
          · intro w'
            go_simp
            with_reducible rfl
          rotate_left
          · simp only [Act.put, List.setIfInBounds_toArray, List.set_cons_zero, List.set_cons_succ, i64_w, i32_w]
            rfl
          refine pure_ (i := 4) (N := some 51) (v := ?_) (a' := ?_) #[true, true, true, true, true, false, false, false, false, false, false, false, false, false, false, false, false, false, false, false, false, false, false, false, false, false, false, false, false, false] rfl rfl (any_of HT_.out (by kernel_rfl)) (fun _ _ _ h => h) (Or.inl ⟨by rfl, ?_⟩) ?_ ?_
          rotate_left
          · intro w'
            go_simp
            with_reducible rfl
          rotate_left
          · simp only [Act.put, List.setIfInBounds_toArray, List.set_cons_zero, List.set_cons_succ, i64_w, i32_w]
            rfl
          refine pure_ (i := 5) (N := some 52) (v := ?_) (a' := ?_) #[true, true, true, true, true, true, false, false, false, false, false, false, false, false, false, false, false, false, false, false, false, false, false, false, false, false, false, false, false, false] rfl rfl (any_of HT_.out (by kernel_rfl)) (fun _ _ _ h => h) (Or.inl ⟨by rfl, ?_⟩) ?_ ?_
          rotate_left
          · intro w'
            go_simp
            with_reducible rfl
          rotate_left
          · simp only [Act.put, List.setIfInBounds_toArray, List.set_cons_zero, List.set_cons_succ, i64_w, i32_w]
            rfl
          refine pure_ (i := 6) (N := some 53) (v := ?_) (a' := ?_) #[true, true, true, true, true, true, true, false, false, false, false, false, false, false, false, false, false, false, false, false, false, false, false, false, false, false, false, false, false, false] rfl rfl (any_of HT_.out (by kernel_rfl)) (fun _ _ _ h => h) (Or.inl ⟨by rfl, ?_⟩) ?_ ?_
          rotate_left
          · intro w'
            go_simp
            with_reducible rfl
          rotate_left
          · simp only [Act.put, List.setIfInBounds_toArray, List.set_cons_zero, List.set_cons_succ, i64_w, i32_w]
            rfl
          refine pure_ (i := 9) (N := some 56) (v := ?_) (a' := ?_) #[true, true, true, true, true, true, true, false, false, true, false, false, false, false, false, false, false, false, false, false, false, false, false, false, false, false, false, false, false, false] rfl rfl (any_of HT_.out (by kernel_rfl)) (fun _ _ _ h => h) (Or.inl ⟨by rfl, ?_⟩) ?_ ?_
          rotate_left
          · intro w'
            go_simp
            with_reducible rfl
          rotate_left
          · simp only [Act.put, List.setIfInBounds_toArray, List.set_cons_zero, List.set_cons_succ, i64_w, i32_w]
            rfl
          refine pure_ (i := 10) (N := some 57) (v := ?_) (a' := ?_) #[true, true, true, true, true, true, true, false, false, true, true, false, false, false, false, false, false, false, false, false, false, false, false, false, false, false, false, false, false, false] rfl rfl (any_of HT_.out (by kernel_rfl)) (fun _ _ _ h => h) (Or.inl ⟨by rfl, ?_⟩) ?_ ?_
          rotate_left
          · intro w'
            go_simp
            with_reducible rfl
          rotate_left
          · simp only [Act.put, List.setIfInBounds_toArray, List.set_cons_zero, List.set_cons_succ, i64_w, i32_w]
            rfl
          refine pure_ (i := 11) (N := some 58) (v := ?_) (a' := ?_) #[true, true, true, true, true, true, true, false, false, true, true, true, false, false, false, false, false, false, false, false, false, false, false, false, false, false, false, false, false, false] rfl rfl (any_of HT_.out (by kernel_rfl)) (fun _ _ _ h => h) (Or.inl ⟨by rfl, ?_⟩) ?_ ?_
          rotate_left
          · intro w'
            go_simp
            with_reducible rfl
          rotate_left
          · simp only [Act.put, List.setIfInBounds_toArray, List.set_cons_zero, List.set_cons_succ, i64_w, i32_w]
            rfl
          refine take_ (i := 7) (N := some 54) (v := ?_) (a' := ?_) #[true, true, true, true, true, true, true, true, false, true, true, true, false, false, false, false, false, false, false, false, false, false, false, false, false, false, false, false, false, false] rfl rfl (take_ofW HT_.out HW_.out (by kernel_rfl)) (fun _ _ _ h => h) (Or.inl ⟨by rfl, ?_⟩) hHeld ?_ ?_
          rotate_left
          · rintro w' ⟨s0, s1, s2, s3⟩
            go_simp
            with_reducible rfl
          rotate_left
          · simp only [Act.put, List.setIfInBounds_toArray, List.set_cons_zero, List.set_cons_succ, i64_w, i32_w]
            rfl
          refine take_ (i := 12) (N := some 59) (v := ?_) (a' := ?_) #[true, true, true, true, true, true, true, true, false, true, true, true, true, false, false, false, false, false, false, false, false, false, false, false, false, false, false, false, false, false] rfl rfl (take_ofW HT_.out HW_.out (by kernel_rfl)) (fun _ _ _ h => h) (Or.inl ⟨by rfl, ?_⟩) hHeld ?_ ?_
          rotate_left
          · rintro w' ⟨s0, s1, s2, s3⟩
            go_simp
            with_reducible rfl
          rotate_left
          · simp only [Act.put, List.setIfInBounds_toArray, List.set_cons_zero, List.set_cons_succ, i64_w, i32_w]
            rfl
          refine one_ (i := 8) (N := some 55) #[true, true, true, true, true, true, true, true, true, true, true, true, true, false, false, false, false, false, false, false, false, false, false, false, false, false, false, false, false, false] rfl rfl (one_of HT_.out (by kernel_rfl)) (by decide) (fun K hK => ?_)
          refine goes_ Try.func46 (by kernel_rfl) rfl #[.int .i64 la] (by rfl) rfl rfl (by (try simp only [List.map_toArray, List.map_cons, List.map_nil]); first | done | rfl | (simp only [List.length_drop, List.length_take]; rfl)) ?_
          with_reducible refine (impl_RuneMate.calls la lb _ P.out).mono ?_
          rintro e w34 ⟨rfl, hb⟩
          have HS0_ := (hb.cell (World.block_lt_of_cell? _ _ (hHeld.1))).trans (hHeld.1)
          have HS1_ := (hb.cell (World.block_lt_of_cell? _ _ (hHeld.2.1))).trans (hHeld.2.1)
          have HS2_ := (hb.cell (World.block_lt_of_cell? _ _ (hHeld.2.2.1))).trans (hHeld.2.2.1)
          have HS3_ := (hb.cell (World.block_lt_of_cell? _ _ (hHeld.2.2.2))).trans (hHeld.2.2.2)
          refine ⟨_, rfl, ?_⟩
          have n0_ := Aside0.mk (Kd.C_below HV.out hb)
          have n1_ := Aside0.mk (Kd.S_below HS.out hb)
          have n2_ := Aside0.mk (below_step HB.out hb)
          clear HV HS HB va vb s0 s1
          have HV := n0_
          have HS := n1_
          have HB := n2_
          clear n0_ n1_ n2_
          clear hb
          refine hK.out _ _ ⟨HS0_, HS1_, HS2_, HS3_⟩ (fun hHeld => ?_)
          clear hK K
          refine norm_ (a' := ?_) ?_ ?_
          rotate_left
          · show Act.put _ (some 55) _ = _
            simp only [Act.put, List.setIfInBounds_toArray, List.set_cons_zero, List.set_cons_succ, i64_w, i32_w]
            rfl
          refine pure_ (i := 13) (N := some 60) (v := ?_) (a' := ?_) #[true, true, true, true, true, true, true, true, true, true, true, true, true, true, false, false, false, false, false, false, false, false, false, false, false, false, false, false, false, false] rfl rfl (any_of HT_.out (by kernel_rfl)) (fun _ _ _ h => h) (Or.inl ⟨by rfl, ?_⟩) ?_ ?_
          rotate_left
          · intro w'
            go_simp
            with_reducible rfl
          rotate_left
          · simp only [Act.put, List.setIfInBounds_toArray, List.set_cons_zero, List.set_cons_succ, i64_w, i32_w]
            rfl
          refine pure_ (i := 14) (N := some 61) (v := ?_) (a' := ?_) #[true, true, true, true, true, true, true, true, true, true, true, true, true, true, true, false, false, false, false, false, false, false, false, false, false, false, false, false, false, false] rfl rfl (any_of HT_.out (by kernel_rfl)) (fun _ _ _ h => h) (Or.inl ⟨by rfl, ?_⟩) ?_ ?_
          rotate_left
          · intro w'
            go_simp
            with_reducible rfl
          rotate_left
          · simp only [Act.put, List.setIfInBounds_toArray, List.set_cons_zero, List.set_cons_succ, i64_w, i32_w]
            rfl
          refine pure_ (i := 15) (N := some 62) (v := ?_) (a' := ?_) #[true, true, true, true, true, true, true, true, true, true, true, true, true, true, true, true, false, false, false, false, false, false, false, false, false, false, false, false, false, false] rfl rfl (any_of HT_.out (by kernel_rfl)) (fun _ _ _ h => h) (Or.inl ⟨by rfl, ?_⟩) ?_ ?_
          rotate_left
          · intro w'
            go_simp
            with_reducible rfl
          rotate_left
          · simp only [Act.put, List.setIfInBounds_toArray, List.set_cons_zero, List.set_cons_succ, i64_w, i32_w]
            rfl
          refine pure_ (i := 16) (N := some 63) (v := ?_) (a' := ?_) #[true, true, true, true, true, true, true, true, true, true, true, true, true, true, true, true, true, false, false, false, false, false, false, false, false, false, false, false, false, false] rfl rfl (any_of HT_.out (by kernel_rfl)) (fun _ _ _ h => h) (Or.inl ⟨by rfl, ?_⟩) ?_ ?_
          rotate_left
          · intro w'
            go_simp
            with_reducible rfl
          rotate_left
          · simp only [Act.put, List.setIfInBounds_toArray, List.set_cons_zero, List.set_cons_succ, i64_w, i32_w]
            rfl
          refine pure_ (i := 17) (N := some 64) (v := ?_) (a' := ?_) #[true, true, true, true, true, true, true, true, true, true, true, true, true, true, true, true, true, true, false, false, false, false, false, false, false, false, false, false, false, false] rfl rfl (any_of HT_.out (by kernel_rfl)) (fun _ _ _ h => h) (Or.inl ⟨by rfl, ?_⟩) ?_ ?_
          rotate_left
          · intro w'
            go_simp
            with_reducible rfl
          rotate_left
          · simp only [Act.put, List.setIfInBounds_toArray, List.set_cons_zero, List.set_cons_succ, i64_w, i32_w]
            rfl
          refine pure_ (i := 18) (N := some 65) (v := ?_) (a' := ?_) #[true, true, true, true, true, true, true, true, true, true, true, true, true, true, true, true, true, true, true, false, false, false, false, false, false, false, false, false, false, false] rfl rfl (any_of HT_.out (by kernel_rfl)) (fun _ _ _ h => h) (Or.inl ⟨by rfl, ?_⟩) ?_ ?_
          rotate_left
          · intro w'
            go_simp
            with_reducible rfl
          rotate_left
          · simp only [Act.put, List.setIfInBounds_toArray, List.set_cons_zero, List.set_cons_succ, i64_w, i32_w]
            rfl
          refine pure_ (i := 19) (N := some 66) (v := ?_) (a' := ?_) #[true, true, true, true, true, true, true, true, true, true, true, true, true, true, true, true, true, true, true, true, false, false, false, false, false, false, false, false, false, false] rfl rfl (any_of HT_.out (by kernel_rfl)) (fun _ _ _ h => h) (Or.inl ⟨by rfl, ?_⟩) ?_ ?_
          rotate_left
          · intro w'
            go_simp
            with_reducible rfl
          rotate_left
          · simp only [Act.put, List.setIfInBounds_toArray, List.set_cons_zero, List.set_cons_succ, i64_w, i32_w]
            rfl
          refine pure_ (i := 20) (N := some 67) (v := ?_) (a' := ?_) #[true, true, true, true, true, true, true, true, true, true, true, true, true, true, true, true, true, true, true, true, true, false, false, false, false, false, false, false, false, false] rfl rfl (any_of HT_.out (by kernel_rfl)) (fun _ _ _ h => h) (Or.inl ⟨by rfl, ?_⟩) ?_ ?_
          rotate_left
          · intro w'
            go_simp
            with_reducible rfl
          rotate_left
          · simp only [Act.put, List.setIfInBounds_toArray, List.set_cons_zero, List.set_cons_succ, i64_w, i32_w]
            rfl
          refine pure_ (i := 21) (N := some 68) (v := ?_) (a' := ?_) #[true, true, true, true, true, true, true, true, true, true, true, true, true, true, true, true, true, true, true, true, true, true, false, false, false, false, false, false, false, false] rfl rfl (any_of HT_.out (by kernel_rfl)) (fun _ _ _ h => h) (Or.inl ⟨by rfl, ?_⟩) ?_ ?_
          rotate_left
          · intro w'
            go_simp
            with_reducible rfl
          rotate_left
          · simp only [Act.put, List.setIfInBounds_toArray, List.set_cons_zero, List.set_cons_succ, i64_w, i32_w]
            rfl
          refine pure_ (i := 22) (N := some 69) (v := ?_) (a' := ?_) #[true, true, true, true, true, true, true, true, true, true, true, true, true, true, true, true, true, true, true, true, true, true, true, false, false, false, false, false, false, false] rfl rfl (any_of HT_.out (by kernel_rfl)) (fun _ _ _ h => h) (Or.inl ⟨by rfl, ?_⟩) ?_ ?_
          rotate_left
          · intro w'
            go_simp
            with_reducible rfl
          rotate_left
          · simp only [Act.put, List.setIfInBounds_toArray, List.set_cons_zero, List.set_cons_succ, i64_w, i32_w]
            rfl
          refine pure_ (i := 26) (N := some 73) (v := ?_) (a' := ?_) #[true, true, true, true, true, true, true, true, true, true, true, true, true, true, true, true, true, true, true, true, true, true, true, false, false, false, true, false, false, false] rfl rfl (any_of HT_.out (by kernel_rfl)) (fun _ _ _ h => h) (Or.inl ⟨by rfl, ?_⟩) ?_ ?_
          rotate_left
          · intro w'
            go_simp
            with_reducible rfl
          rotate_left
          · simp only [Act.put, List.setIfInBounds_toArray, List.set_cons_zero, List.set_cons_succ, i64_w, i32_w]
            rfl
          refine take_ (i := 23) (N := some 70) (v := ?_) (a' := ?_) #[true, true, true, true, true, true, true, true, true, true, true, true, true, true, true, true, true, true, true, true, true, true, true, true, false, false, true, false, false, false] rfl rfl (take_ofW HT_.out HW_.out (by kernel_rfl)) (fun _ _ _ h => h) (Or.inl ⟨by rfl, ?_⟩) hHeld ?_ ?_
          rotate_left
          · rintro w' ⟨s0, s1, s2, s3⟩
            go_simp
            with_reducible rfl
          rotate_left
          · simp only [Act.put, List.setIfInBounds_toArray, List.set_cons_zero, List.set_cons_succ, i64_w, i32_w]
            rfl
          refine pure_ (i := 24) (N := some 71) (v := ?_) (a' := ?_) #[true, true, true, true, true, true, true, true, true, true, true, true, true, true, true, true, true, true, true, true, true, true, true, true, true, false, true, false, false, false] rfl rfl (any_of HT_.out (by kernel_rfl)) (fun _ _ _ h => h) (Or.inl ⟨by rfl, ?_⟩) ?_ ?_
          rotate_left
          · intro w'
            go_simp
            with_reducible rfl
          rotate_left
          · simp only [Act.put, List.setIfInBounds_toArray, List.set_cons_zero, List.set_cons_succ, i64_w, i32_w]
            rfl
          refine take_ (i := 25) (N := some 72) (v := ?_) (a' := ?_) #[true, true, true, true, true, true, true, true, true, true, true, true, true, true, true, true, true, true, true, true, true, true, true, true, true, true, true, false, false, false] rfl rfl (take_ofW HT_.out HW_.out (by kernel_rfl)) (fun _ _ _ h => h) (Or.inl ⟨by rfl, ?_⟩) hHeld ?_ ?_
          rotate_left
          · rintro w' ⟨s0, s1, s2, s3⟩
            go_simp
            with_reducible rfl
          rotate_left
          · simp only [Act.put, List.setIfInBounds_toArray, List.set_cons_zero, List.set_cons_succ, i64_w, i32_w]
            rfl
          refine pure_ (i := 27) (N := some 74) (v := ?_) (a' := ?_) #[true, true, true, true, true, true, true, true, true, true, true, true, true, true, true, true, true, true, true, true, true, true, true, true, true, true, true, true, false, false] rfl rfl (any_of HT_.out (by kernel_rfl)) (fun _ _ _ h => h) (Or.inl ⟨by rfl, ?_⟩) ?_ ?_
          rotate_left
          · intro w'
            go_simp
            with_reducible rfl
          rotate_left
          · simp only [Act.put, List.setIfInBounds_toArray, List.set_cons_zero, List.set_cons_succ, i64_w, i32_w]
            rfl
          refine pure_ (i := 28) (N := some 75) (v := ?_) (a' := ?_) #[true, true, true, true, true, true, true, true, true, true, true, true, true, true, true, true, true, true, true, true, true, true, true, true, true, true, true, true, true, false] rfl rfl (any_of HT_.out (by kernel_rfl)) (fun _ _ _ h => h) (Or.inl ⟨by rfl, ?_⟩) ?_ ?_
          rotate_left
          · intro w'
            go_simp
            with_reducible rfl
          rotate_left
          · simp only [Act.put, List.setIfInBounds_toArray, List.set_cons_zero, List.set_cons_succ, i64_w, i32_w]
            rfl
          refine pure_ (i := 29) (N := some 76) (v := ?_) (a' := ?_) #[true, true, true, true, true, true, true, true, true, true, true, true, true, true, true, true, true, true, true, true, true, true, true, true, true, true, true, true, true, true] rfl rfl (any_of HT_.out (by kernel_rfl)) (fun _ _ _ h => h) (Or.inl ⟨by rfl, ?_⟩) ?_ ?_
          rotate_left
          · intro w'
            go_simp
            with_reducible rfl
          rotate_left
          · simp only [Act.put, List.setIfInBounds_toArray, List.set_cons_zero, List.set_cons_succ, i64_w, i32_w]
            rfl
          refine done_ (done_of HT_.out (by kernel_rfl)) ?_
          try go_wp2
          go_meet
          case rel => exact ⟨rfl, ⟨by repeat (first | (with_reducible exact HV.out) | (with_reducible refine Kd.C_alloc ?_ _) | (with_reducible refine Kd.C_drewN ?_ _) | (with_reducible refine Kd.C_drew ?_) | exact HV.out)⟩, ⟨by repeat (first | (with_reducible exact HS.out) | (with_reducible apply Kd.S_drewN) | (with_reducible apply Kd.S_drew) | exact HS.out)⟩, ⟨by repeat (first | (with_reducible first | exact HB.out | apply below_alloc | apply pw_below_drewN | apply below_drew1) | exact HB.out)⟩⟩
      case rest =>
        clear va vb r0 r1 r2
        obtain ⟨rfl, HV, HS, HB⟩ := hcut
        go_wp2
        go_loopg [9] i (fun kq v9 wr => ∃ j : Nat, kq + j = i ∧ v9 = .int .i64 (j : Int) ∧ Aside0 (Kd.C (Kd.int .i64) wr (some ad) v.length v) ∧ Aside0 (Kd.S (Kd.slice 3 (Kd.int .i64)) 22 wr w1.heap.size (fun k => w1.heap.size ≤ k ∧ k < w2.heap.size) (.slice (some ⟨g, 0, none⟩) R.length d6) R) ∧ Aside0 (Below w.heap.size w wr))
        case atStart => exact ⟨0, by omega, rfl, HV, HS, HB⟩
        case round =>
          clear HV HS HB
          obtain ⟨j, hkj, rfl, HV, HS, HB⟩ := hrel
          by_cases hji : j < i
          · have hjd : decide ((j : Int) < (i : Int)) = true := decide_eq_true (by omega)
            have hjd2 : decide (j < i) = true := decide_eq_true hji
            have hjR : j < R.length := by rw [RL.out]; have := IL.out; omega
            have hjS : j < S.length := by have := IL.out; omega
            obtain ⟨m9, rfl⟩ : ∃ m, gk = m + 1 := ⟨gk - 1, by omega⟩
            have KJ := Aside0.mk hkj
            clear hkj
            have hS2 := HS.out
            have hrow := F.out.row
            rw [hrow, List.length_map] at hS2
            obtain ⟨b', c', r0, r1, r2⟩ := rowcell hS2 j hjS
            have hlen := F.out.len
            have hlt := List.pairwise_iff_getElem.mp F.out.x j i hjS IL.out hji
            have hwr : wrap64 ((j : Int) + 1) = ((j + 1 : Nat) : Int) := by unfold wrap64; have := IL.out; omega
            generalize hqc : ((S[j].1 : Nat) : Int) = qc at r1
            generalize hqd : ((S[j].2 : Nat) : Int) = qd at r2
            have ha := PA.out
            have hb := PB.out
            have hdb : (qd == pb) = false := by
              rw [beq_eq_false_iff_ne]
              omega
            by_cases t1 : qc < pa
            · have d1' : decide (qc < pa) = true := decide_eq_true t1
              by_cases t2 : pa < qd
              · have d2' : decide (pa < qd) = true := decide_eq_true t2
                have d3' : decide (qd < pb) = false := decide_eq_false (by omega)
                clear hS2 hrow hlen hlt hqc hqd ha hb t1 t2 hjS
                go_wp2
                go_roundg m9
                case measure => exact Nat.lt_succ_self _
                case rel => exact ⟨j + 1, go_next KJ.out, congrArg (Value.int .i64) hwr, HV, HS, HB⟩
              · have d2' : decide (pa < qd) = false := decide_eq_false t2
                clear hS2 hrow hlen hlt hqc hqd ha hb t1 t2 hjS
                go_wp2
                go_roundg m9
                case measure => exact Nat.lt_succ_self _
                case rel => exact ⟨j + 1, go_next KJ.out, congrArg (Value.int .i64) hwr, HV, HS, HB⟩
            · have d1' : decide (qc < pa) = false := decide_eq_false t1
              clear hS2 hrow hlen hlt hqc hqd ha hb t1 hjS
              go_wp2
              go_roundg m9
              case measure => exact Nat.lt_succ_self _
              case rel => exact ⟨j + 1, go_next KJ.out, congrArg (Value.int .i64) hwr, HV, HS, HB⟩
          · have hjd : decide ((j : Int) < (i : Int)) = false := decide_eq_false (by omega)
            have hjd2 : decide (j < i) = false := decide_eq_false hji
            clear KI
            have hwr : wrap64 ((i : Int) + 1) = ((i + 1 : Nat) : Int) := by unfold wrap64; have := IL.out; have := F.out.len; omega
            go_wp2
            go_roundg m6
            case measure => exact Nat.lt_succ_self _
            case rel => exact ⟨i + 1, go_next KI2.out, congrArg (Value.int .i64) hwr, HV, HS, HB⟩
    · have hdec : decide ((i : Int) < (R.length : Int)) = false := decide_eq_false (by rw [RL.out]; omega)
      have hdec2 : decide (i < R.length) = false := decide_eq_false (by rw [RL.out]; omega)
      go_wp2
      go_ret
      exact ⟨rfl, HB.out⟩
def laws_FnLevelMates.Pure : Prop := ∀ (l0 : List Int), l0.length ≤ maxLen → l0.length * 1 ≤ 140737488351232 → (∀ x ∈ l0, (Lit.int .u8 x).wf = true) → (l0.length : Int) ≤ 1048576 →
  ∃ (k : Nat) (v u : List Int) (S : List (Nat × Nat)) (R : List (List Int)), laws_FnLevelMates.Facts k l0 v u S R
set_option maxHeartbeats 4000000 in
set_option maxRecDepth 100000 in
theorem laws_FnLevelMates.walk (P : laws_FnLevelMates.Pure) (a0 : Option Addr) (len0 cap0 : Nat) (z0 : List Int) (w : World) (w0 : (a0 = none ∧ len0 = 0 ∧ cap0 = 0 ∧ z0 = []) ∨ ∃ x, a0 = some x ∧ len0 ≤ cap0 ∧ cap0 ≤ maxLen ∧ z0.length = cap0 ∧ (∀ i, i < z0.length → w.cell? (x.add i) = some (.int .u8 (z0.getD i 0))) ∧ ∀ n ∈ z0, (Lit.int .u8 n).wf = true) (y0 : len0 * 1 ≤ 140737488351232) :
    Calls Try.prog 12 #[.slice a0 len0 cap0] w fun e w' => e = .returned (.bool true) ∧ Below w.heap.size w w' := by
  obtain ⟨l0, rfl, hr0, hm0, hw0, hc0⟩ := ReadsInt.ofRowC w0
  by_cases b0 : (l0.length : Int) ≤ 1048576
  · obtain ⟨k, v, u, S, R, h⟩ := P l0 hm0 y0 hw0 b0
    exact laws_FnLevelMates.path k _ _ l0 v u S R w (Kd.C_of_reads (d := (0 : Int)) (h1 := fun _ => rfl) hr0) hc0 b0 h
  · have x0 : decide (1048576 < (l0.length : Int)) = true := decide_eq_true (by omega)
    clear hr0 hm0 hw0 hc0 w0 y0 b0
    go_enter Try.func12, Try.ntmps12
    go_wp2
    go_ret
    exact ⟨rfl, Below.refl _ _⟩


end Go.Proofs.Ytmjhdgofepdgkaa.PFnLevelMates
