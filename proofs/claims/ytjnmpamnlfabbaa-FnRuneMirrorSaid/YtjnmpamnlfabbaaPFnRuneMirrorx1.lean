-- Written by a program of this session (wip/tools) out of the translation; its shape is that of the kit print.
import Derived.Test.YtjnmpamnlfabbaaPFnRuneMirrorx0
namespace Go.Proofs.Ytjnmpamnlfabbaa.PFnRuneMirror
open Go.RowKit Go.Proofs.YtjnmpamnlfabbaaW.PrintWords Go.Proofs.YtjnmpamnlfabbaaW.PrintLast Go.Proofs.YtjnmpamnlfabbaaW.PrintMore
attribute [local go_sem] max2_int min2_int max_two min_two max_three min_three max_four min_four   -- for this text's walks alone
set_option linter.unusedVariables false
set_option linter.unusedSimpArgs false

/-! ### spec_RuneMate: function 15 -/
def spec_RuneMate.l0 : Nat → Int → List Int → Int → Option (Int)
  | 0, _, _, _ => none
  | k + 1, x0, x3, x4 => if x4 < (x3.length : Int) then (if 0 ≤ x4 then (if (rd x3 x4) = x0 then (if 0 ≤ (wrap64 ((wrap64 (x4 + 1)) - (wrap64 (2 * (Int.tmod x4 2))))) then (if (wrap64 ((wrap64 (x4 + 1)) - (wrap64 (2 * (Int.tmod x4 2))))) < (x3.length : Int) then (some (rd x3 (wrap64 ((wrap64 (x4 + 1)) - (wrap64 (2 * (Int.tmod x4 2))))))) else (none)) else (none)) else (spec_RuneMate.l0 k x0 x3 (wrap64 (x4 + 1)))) else (none)) else (some 0)
def spec_RuneMate.f (k : Nat) (a0 : Int) : Option (Int) := spec_RuneMate.l0 k a0 (([40, 41, 91, 93, 123, 125] : List Int)) 0
theorem spec_RuneMate.mono_l : ∀ k, (∀ y0 y1 y2, LeO (spec_RuneMate.l0 k y0 y1 y2) (spec_RuneMate.l0 (k + 1) y0 y1 y2))
  | 0 => fun _ _ _ r h => by simp [spec_RuneMate.l0] at h
  | k + 1 => by
    have ih0 := spec_RuneMate.mono_l k
    · intro y0 y1 y2
      unfold spec_RuneMate.l0
      repeat' first
      | (with_reducible exact ih0 _ _ _)
      | (with_reducible exact LeO.refl _)
      | (with_reducible exact LeO.none _)
      | (with_reducible refine LeO.ite ?_ ?_)
      | (with_reducible refine LeO.bind ?_ (fun _ => ?_))
      | exact ih0 _ _ _
      | exact LeO.none _
      | refine LeO.ite ?_ ?_
      | refine LeO.bind ?_ (fun _ => ?_)
theorem spec_RuneMate.mono : ∀ a0 k, LeO (spec_RuneMate.f k a0) (spec_RuneMate.f (k + 1) a0) := by
  intro a0 k
  have ih0 := spec_RuneMate.mono_l k
  unfold spec_RuneMate.f
  repeat' first
      | (with_reducible exact ih0 _ _ _)
      | (with_reducible exact LeO.refl _)
      | (with_reducible exact LeO.none _)
      | (with_reducible refine LeO.ite ?_ ?_)
      | (with_reducible refine LeO.bind ?_ (fun _ => ?_))
      | exact ih0 _ _ _
      | exact LeO.none _
      | refine LeO.ite ?_ ?_
      | refine LeO.bind ?_ (fun _ => ?_)
set_option maxHeartbeats 8000000 in
set_option maxRecDepth 100000 in
theorem spec_RuneMate.calls (k : Nat) (a0 : Int) (r : Int) (w : World) (h : spec_RuneMate.f k a0 = some r) :
    Calls Try.prog 15 #[.int .i64 a0] w fun e w' => e = .returned (.int .i64 r) ∧ Below w.heap.size w w' := by
  have HB := Aside0.mk (Below.refl w.heap.size w)
  have H : (spec_RuneMate.l0 k a0 (([40, 41, 91, 93, 123, 125] : List Int)) 0) = some r := h
  clear h
  obtain ⟨y101, hy101⟩ : ∃ y_ : List Int, y_ = (([40, 41, 91, 93, 123, 125] : List Int)) := ⟨_, rfl⟩
  replace H : (spec_RuneMate.l0 k a0 y101 0) = some r := by first | (rw [hy101]; with_reducible exact H) | (have H2_ := (Option.bind_some _ _).symm.trans H; rw [hy101]; with_reducible exact H2_) | (have H2_ := (Option.bind_some _ _).symm.trans H; with_reducible exact H2_) | with_reducible exact H | (rw [hy101]; exact H) | exact H
  have Ny101 := Aside0.mk hy101
  clear hy101
  have H' := Aside0.mk H
  clear H
  go_enter Try.func15, Try.ntmps15
  go_wp2_with (first | ((with_reducible refine gate_dst (N := 5) rfl ?_); refine Kd.R_lit (Kd.int .i64) _ 3 ?hg (N := 5) ?hd (xs := ([40, 41, 91, 93, 123, 125] : List Int)) (inner := [.int .i64 40, .int .i64 41, .int .i64 91, .int .i64 93, .int .i64 123, .int .i64 125]) (ok := fun _ => True) (okp := fun _ => True) ?hr ?hp (fun _ hk => hk) trivial (Below.refl _ _) (Nat.le_refl _) (by simp) ?_; (case hd => rfl); (case hg => rfl); (case hr => first | (go_simp; done) | (go_simp; rfl)); (case hp => exact (Reps.one (show Kd.M (Kd.int .i64) _ _ _ 40 [.int .i64 40] from rfl) (Reps.one (show Kd.M (Kd.int .i64) _ _ _ 41 [.int .i64 41] from rfl) (Reps.one (show Kd.M (Kd.int .i64) _ _ _ 91 [.int .i64 91] from rfl) (Reps.one (show Kd.M (Kd.int .i64) _ _ _ 93 [.int .i64 93] from rfl) (Reps.one (show Kd.M (Kd.int .i64) _ _ _ 123 [.int .i64 123] from rfl) (Reps.one (show Kd.M (Kd.int .i64) _ _ _ 125 [.int .i64 125] from rfl) (Reps.none _ _)))))))); intro v102 w2 ho3 hb hg_ hnew_; clear hg_ hnew_; (first | rw [← Ny101.out] at ho3 | (simp only [Int.reduceToNat] at ho3; rw [← Ny101.out] at ho3)); have n0_ := Aside0.mk (Kd.R_lower ho3 (below_size (by repeat (first | (with_reducible first | exact HB.out | apply below_alloc | apply pw_below_drewN | apply below_drew1) | exact HB.out)))); have n1_ := Aside0.mk (below_step (by repeat (first | (with_reducible first | exact HB.out | apply below_alloc | apply pw_below_drewN | apply below_drew1) | exact HB.out)) hb); clear HB; have HO103 := n0_; have HB := n1_; clear n0_ n1_; clear hb ho3))
  go_loopg [4] k (fun kq v4 w' => ∃ (x4_1 : Int), v4 = .int .i64 x4_1 ∧ Aside0 (spec_RuneMate.l0 kq a0 y101 x4_1 = some r) ∧ Aside0 (kq ≤ k) ∧ Aside0 (Kd.R (Kd.int .i64) 3 w' w.heap.size (fun _ => True) v102 y101) ∧ Aside0 (Below w.heap.size w w'))
  case atStart => exact ⟨(0), (by first | rfl | (simp; done) | (simp [*]; done)), H', ⟨Nat.le_refl _⟩, ⟨by (with_reducible repeat (first | apply Kd.R_alloc | apply Kd.R_drewN | apply Kd.R_drew)); exact HO103.out⟩, ⟨by repeat (first | (with_reducible first | exact HB.out | apply below_alloc | apply pw_below_drewN | apply below_drew1) | exact HB.out)⟩⟩
  case round =>
    clear H'
    try clear c1
    try clear p2
    obtain ⟨x4_1, rfl, HA, HK1, HO_3, HB⟩ := hrel
    cases gk with
    | zero => exact absurd HA.out (by simp [spec_RuneMate.l0])
    | succ k1 =>
      have H := HA.out
      clear HA
      simp only [spec_RuneMate.l0] at H
      by_cases c4 : x4_1 < (y101.length : Int)
      · rw [if_pos c4] at H
        have c4b0 : decide (x4_1 < (y101.length : Int)) = true := decide_eq_true c4
        clear c4
        by_cases c5 : 0 ≤ x4_1
        · rw [if_pos c5] at H
          have c5b0 : decide (0 ≤ x4_1) = true := decide_eq_true c5
          clear c5
          by_cases c6 : (rd y101 x4_1) = a0
          · rw [if_pos c6] at H
            have c6b0 : ((rd y101 x4_1) == a0) = true := beq_iff_eq.mpr c6
            have c6b1 : ((rd y101 x4_1) != a0) = false := bne_eq_false_iff_eq.mpr c6
            clear c6
            obtain ⟨ji7, hji7⟩ : ∃ j_ : Int, (wrap64 ((wrap64 (x4_1 + 1)) - (wrap64 (2 * (Int.tmod x4_1 2))))) = j_ := ⟨_, rfl⟩
            replace H : (if 0 ≤ (ji7) then (if (ji7) < (y101.length : Int) then (some (rd y101 (ji7))) else (none)) else (none)) = some r := by first | (rw [hji7] at H; exact H) | (simp only [hji7] at H ⊢; exact H)
            have hji7w : (IntKind.i64.wrap ((wrap64 (x4_1 + 1)) - (wrap64 (2 * (Int.tmod x4_1 2))))) = ji7 := (i64_w _).trans hji7
            by_cases c8 : 0 ≤ (ji7)
            · rw [if_pos c8] at H
              have c8b0 : decide (0 ≤ (ji7)) = true := decide_eq_true c8
              clear c8
              by_cases c9 : (ji7) < (y101.length : Int)
              · rw [if_pos c9] at H
                have c9b0 : decide ((ji7) < (y101.length : Int)) = true := decide_eq_true c9
                clear c9
                obtain rfl := Option.some.inj H
                obtain ⟨Ao10, co10, eo10⟩ := Kd.R_slice HO_3.out
                subst eo10
                have p104 : 0 ≤ (x4_1 : Int) := of_decide_eq_true (by first | (with_reducible assumption) | assumption)
                have q104 : x4_1 < (y101.length : Int) := of_decide_eq_true (by first | (with_reducible assumption) | assumption)
                obtain ⟨ad104, e104, hx104_0⟩ := Kd.at_int (Kd.R_reads' HO_3.out).2.2 x4_1 p104 q104
                cases e104
                replace p104 := eq_true p104
                replace q104 := eq_true q104
                have p105 : 0 ≤ ((ji7) : Int) := of_decide_eq_true (by first | (with_reducible assumption) | assumption)
                have q105 : (ji7) < (y101.length : Int) := of_decide_eq_true (by first | (with_reducible assumption) | assumption)
                obtain ⟨ad105, e105, hx105_0⟩ := Kd.at_int (Kd.R_reads' HO_3.out).2.2 (ji7) p105 q105
                obtain rfl : ad104 = ad105 := (by injection e105)
                replace p105 := eq_true p105
                replace q105 := eq_true q105
                go_wp2
                go_ret
                exact ⟨by first | rfl | (simp [errW_none, errW_some] <;> rfl) | (simp only [← hji7]; first | rfl | (simp [errW_none, errW_some] <;> rfl)) | (simp [*, errW_none, errW_some] <;> rfl), by repeat (first | (with_reducible first | exact HB.out | apply below_alloc | apply pw_below_drewN | apply below_drew1) | exact HB.out)⟩
              · rw [if_neg c9] at H
                exact absurd H (by simp)
            · rw [if_neg c8] at H
              exact absurd H (by simp)
          · rw [if_neg c6] at H
            have c6b0 : ((rd y101 x4_1) == a0) = false := beq_eq_false_iff_ne.mpr c6
            have c6b1 : ((rd y101 x4_1) != a0) = true := bne_iff_ne.mpr c6
            have H' := Aside0.mk H
            clear H
            obtain ⟨Ao11, co11, eo11⟩ := Kd.R_slice HO_3.out
            subst eo11
            have p104 : 0 ≤ (x4_1 : Int) := of_decide_eq_true (by first | (with_reducible assumption) | assumption)
            have q104 : x4_1 < (y101.length : Int) := of_decide_eq_true (by first | (with_reducible assumption) | assumption)
            obtain ⟨ad104, e104, hx104_0⟩ := Kd.at_int (Kd.R_reads' HO_3.out).2.2 x4_1 p104 q104
            cases e104
            replace p104 := eq_true p104
            replace q104 := eq_true q104
            go_wp2
            go_roundg k1
            case measure => have := HK1.out; omega
            case rel => exact ⟨(wrap64 (x4_1 + 1)), (by first | rfl | (simp; done) | (simp [*]; done)), H', ⟨by have := HK1.out; omega⟩, ⟨by (with_reducible repeat (first | apply Kd.R_alloc | apply Kd.R_drewN | apply Kd.R_drew)); exact HO_3.out⟩, ⟨by repeat (first | (with_reducible first | exact HB.out | apply below_alloc | apply pw_below_drewN | apply below_drew1) | exact HB.out)⟩⟩
        · rw [if_neg c5] at H
          exact absurd H (by simp)
      · rw [if_neg c4] at H
        have c4b0 : decide (x4_1 < (y101.length : Int)) = false := decide_eq_false c4
        clear c4
        obtain rfl := Option.some.inj H
        obtain ⟨Ao12, co12, eo12⟩ := Kd.R_slice HO_3.out
        subst eo12
        go_wp2
        go_ret
        exact ⟨by first | rfl | (simp [errW_none, errW_some] <;> rfl) | (simp [*, errW_none, errW_some] <;> rfl), by repeat (first | (with_reducible first | exact HB.out | apply below_alloc | apply pw_below_drewN | apply below_drew1) | exact HB.out)⟩

/-- A key of a map's literal, at the operation: as 'm[k] = v'. -/
theorem wpList_insert_own {H : Type} {P : Program} (w : World) {ops : Array Oper} {rest : List Oper} {o : Oper} {a : Act} {Q : Exit → Act → World → Prop}
    (hg : o.guard = none) (m x v : Operand) (t : TypeId) (hop : o.op = Op.insert t m x v)
    (k e : TypeId) (K : Go.Maps.Keyed P k) (ht : P.underlying t = some (.map k e)) (R : Value → Option (DataW H × List MemPlace)) (b n : Nat) (D : DataW H)
    (hm : a.eval m = .map (some b)) (hown : w.ownsMap P k R b n D) (hn : n < maxLen) (key val : Value) (kl : Lit) (hx : a.eval x = key) (hv : a.eval v = val) (hkey : keyOf P k key = some kl)
    (d : DataW H) (ps : List MemPlace) (hval : R val = some (d, ps))
    (hK : ∀ w', w'.ownsMap P k R b (n + 1) (D.put kl d) → w.grownBy w' (some b) → wpList P ops Q rest (a.put o.dst undef) w') :
    wpList P ops Q (o :: rest) a w := by
  refine wpList_plain hg fun K' hK' => ?_
  obtain ⟨w', hrun, r1, r2⟩ := hown.update K ht hn hkey hval
  unfold Oper.wp
  simp [execOp, hop, hm, hx, hv, hrun, Result.andThen]
  exact hK' _ _ (hK w' r1 r2)
/-- the other one of a bracket's two -/
def mate (x : Int) : Int := if x = 40 then 41 else if x = 41 then 40 else if x = 91 then 93 else if x = 93 then 91 else if x = 123 then 125 else if x = 125 then 123 else 0
def inI64 (x : Int) : Bool := decide (-9223372036854775808 ≤ x) && decide (x ≤ 9223372036854775807)
theorem inI64_wf {x : Int} (h : inI64 x = true) : (Lit.int .i64 x).wf = true := by
  simp only [inI64, Bool.and_eq_true, decide_eq_true_eq] at h
  exact Go.WalkArith.wf_i64 h
def impl_RuneMate.f (a0 : Int) : Option Int := if inI64 a0 = true then some (mate a0) else none
def mateD : DataW Unit := ((((((.map [] : DataW Unit).put (.int .i64 40) (.lit (.int .i64 41)) : DataW Unit).put (.int .i64 41) (.lit (.int .i64 40)) : DataW Unit).put (.int .i64 91) (.lit (.int .i64 93)) : DataW Unit).put (.int .i64 93) (.lit (.int .i64 91)) : DataW Unit).put (.int .i64 123) (.lit (.int .i64 125)) : DataW Unit).put (.int .i64 125) (.lit (.int .i64 123))
theorem mateD_at (x c : Int) (h : mateD.atKey (.int .i64 x) (.lit (.int .i64 0)) = .lit (.int .i64 c)) : c = mate x := by
  have e : mateD = .map [(.int .i64 40, .lit (.int .i64 41)), (.int .i64 41, .lit (.int .i64 40)), (.int .i64 91, .lit (.int .i64 93)), (.int .i64 93, .lit (.int .i64 91)), (.int .i64 123, .lit (.int .i64 125)), (.int .i64 125, .lit (.int .i64 123))] := by rfl
  rw [e] at h
  unfold mate
  simp only [DataW.atKey, List.find?, Lit.sameKey] at h
  by_cases h1 : x = 40
  · subst h1; simp at h; subst h; decide
  by_cases h2 : x = 41
  · subst h2; simp at h; subst h; decide
  by_cases h3 : x = 91
  · subst h3; simp at h; subst h; decide
  by_cases h4 : x = 93
  · subst h4; simp at h; subst h; decide
  by_cases h5 : x = 123
  · subst h5; simp at h; subst h; decide
  by_cases h6 : x = 125
  · subst h6; simp at h; subst h; decide
  have g1 : ¬ (40 = x) := fun h => h1 h.symm
  have g2 : ¬ (41 = x) := fun h => h2 h.symm
  have g3 : ¬ (91 = x) := fun h => h3 h.symm
  have g4 : ¬ (93 = x) := fun h => h4 h.symm
  have g5 : ¬ (123 = x) := fun h => h5 h.symm
  have g6 : ¬ (125 = x) := fun h => h6 h.symm
  simp [g1, g2, g3, g4, g5, g6] at h
  simp [h1, h2, h3, h4, h5, h6, h]
theorem gv_zero3 (w : World) : (zeroValue 3).run Try.prog w = .ok (.int .i64 0) w := by kernel_rfl
set_option maxHeartbeats 2000000 in
set_option maxRecDepth 100000 in
theorem impl_RuneMate.calls (a0 : Int) (r : Int) (w : World) (h : impl_RuneMate.f a0 = some r) :
    Calls Try.prog 16 #[.int .i64 a0] w fun e w' => e = .returned (.int .i64 r) ∧ Below w.heap.size w w' := by
  unfold impl_RuneMate.f at h
  split at h
  case isFalse => exact absurd h (by simp)
  case isTrue hb =>
  have H := Aside0.mk (Option.some.inj h)
  clear h
  have K3 : Go.Maps.Keyed Try.prog 3 := Go.Maps.int_keyed Try.underlying3
  have key : keyOf Try.prog 3 (.int .i64 a0) = some (.int .i64 a0) := Go.Maps.keyOf_int_mk Try.underlying3 (inI64_wf hb)
  have HKey := Aside0.mk key
  clear key hb
  have hmm := @run_makeMap Try.prog
  have hown0 : (w.alloc (.map #[] 0)).ownsMap Try.prog 3 (plainElem (H := Unit) Try.prog 3) w.heap.size 0 (.map []) := World.ownsMap_made _ _ _ _
  have hB0 : Below w.heap.size w (w.alloc (.map #[] 0)) := (Below.refl _ _).alloc (Nat.le_refl _) _
  go_enter Try.func16, Try.ntmps16
  go_wp2_with (first
    | ((with_reducible refine gate_ (.insert 55 (.tmp 4) (.const (.int .i64 40)) (.const (.int .i64 41))) rfl ?_); refine wpList_insert_own _ rfl _ _ _ 55 rfl 3 3 K3 Try.underlying55 _ w.heap.size 0 _ rfl hown0 (by unfold maxLen; omega) _ _ _ rfl rfl (Go.Maps.keyOf_int_mk Try.underlying3 (by decide)) _ [] (plainElem_int Try.underlying3 (by decide)) ?_; intro w1 hown1 hgrow1; have hB1 := hB0.grown hgrow1 hB0.size (fun j e => by cases e; exact Nat.le_refl _); clear hown0 hgrow1 hB0)
    | ((with_reducible refine gate_ (.insert 55 (.tmp 4) (.const (.int .i64 41)) (.const (.int .i64 40))) rfl ?_); refine wpList_insert_own _ rfl _ _ _ 55 rfl 3 3 K3 Try.underlying55 _ w.heap.size 1 _ rfl hown1 (by unfold maxLen; omega) _ _ _ rfl rfl (Go.Maps.keyOf_int_mk Try.underlying3 (by decide)) _ [] (plainElem_int Try.underlying3 (by decide)) ?_; intro w2 hown2 hgrow2; have hB2 := hB1.grown hgrow2 hB1.size (fun j e => by cases e; exact Nat.le_refl _); clear hown1 hgrow2 hB1)
    | ((with_reducible refine gate_ (.insert 55 (.tmp 4) (.const (.int .i64 91)) (.const (.int .i64 93))) rfl ?_); refine wpList_insert_own _ rfl _ _ _ 55 rfl 3 3 K3 Try.underlying55 _ w.heap.size 2 _ rfl hown2 (by unfold maxLen; omega) _ _ _ rfl rfl (Go.Maps.keyOf_int_mk Try.underlying3 (by decide)) _ [] (plainElem_int Try.underlying3 (by decide)) ?_; intro w3 hown3 hgrow3; have hB3 := hB2.grown hgrow3 hB2.size (fun j e => by cases e; exact Nat.le_refl _); clear hown2 hgrow3 hB2)
    | ((with_reducible refine gate_ (.insert 55 (.tmp 4) (.const (.int .i64 93)) (.const (.int .i64 91))) rfl ?_); refine wpList_insert_own _ rfl _ _ _ 55 rfl 3 3 K3 Try.underlying55 _ w.heap.size 3 _ rfl hown3 (by unfold maxLen; omega) _ _ _ rfl rfl (Go.Maps.keyOf_int_mk Try.underlying3 (by decide)) _ [] (plainElem_int Try.underlying3 (by decide)) ?_; intro w4 hown4 hgrow4; have hB4 := hB3.grown hgrow4 hB3.size (fun j e => by cases e; exact Nat.le_refl _); clear hown3 hgrow4 hB3)
    | ((with_reducible refine gate_ (.insert 55 (.tmp 4) (.const (.int .i64 123)) (.const (.int .i64 125))) rfl ?_); refine wpList_insert_own _ rfl _ _ _ 55 rfl 3 3 K3 Try.underlying55 _ w.heap.size 4 _ rfl hown4 (by unfold maxLen; omega) _ _ _ rfl rfl (Go.Maps.keyOf_int_mk Try.underlying3 (by decide)) _ [] (plainElem_int Try.underlying3 (by decide)) ?_; intro w5 hown5 hgrow5; have hB5 := hB4.grown hgrow5 hB4.size (fun j e => by cases e; exact Nat.le_refl _); clear hown4 hgrow5 hB4)
    | ((with_reducible refine gate_ (.insert 55 (.tmp 4) (.const (.int .i64 125)) (.const (.int .i64 123))) rfl ?_); refine wpList_insert_own _ rfl _ _ _ 55 rfl 3 3 K3 Try.underlying55 _ w.heap.size 5 _ rfl hown5 (by unfold maxLen; omega) _ _ _ rfl rfl (Go.Maps.keyOf_int_mk Try.underlying3 (by decide)) _ [] (plainElem_int Try.underlying3 (by decide)) ?_; intro w6 hown6 hgrow6; have hB6 := hB5.grown hgrow6 hB5.size (fun j e => by cases e; exact Nat.le_refl _); clear hown5 hgrow6 hB5)
    | ((with_reducible refine gate_dst (N := 8) rfl ?_); refine wpList_lookup_own_int _ rfl _ _ 55 rfl 3 3 .i64 K3 Try.underlying55 Try.underlying3 (gv_zero3 _) w.heap.size 6 _ rfl hown6 _ _ rfl HKey.out ?_; intro c hat hwc; have Hat := Aside0.mk hat; clear hat))
  go_ret
  exact ⟨by rw [← H.out, ← mateD_at a0 c Hat.out]; rfl, hB6⟩


/-! ### spec_RuneMirror: function 17 -/
def spec_RuneMirror.f (k : Nat) (a0 : Int) : Option (Int) := (spec_RuneMate.f k a0).bind fun t106 => (if t106 = 0 then (if a0 = 60 then (some 62) else (if a0 = 62 then (some 60) else (some a0))) else ((spec_RuneMate.f k a0).bind fun t107 => (some t107)))
theorem spec_RuneMirror.mono : ∀ a0 k, LeO (spec_RuneMirror.f k a0) (spec_RuneMirror.f (k + 1) a0) := by
  intro a0 k
  unfold spec_RuneMirror.f
  repeat' first
      | (with_reducible exact spec_RuneMate.mono _ _)
      | (with_reducible exact LeO.refl _)
      | (with_reducible exact LeO.none _)
      | (with_reducible refine LeO.ite ?_ ?_)
      | (with_reducible refine LeO.bind ?_ (fun _ => ?_))
      | exact spec_RuneMate.mono _ _
      | exact LeO.none _
      | refine LeO.ite ?_ ?_
      | refine LeO.bind ?_ (fun _ => ?_)
set_option maxHeartbeats 8000000 in
set_option maxRecDepth 100000 in
theorem spec_RuneMirror.calls (k : Nat) (a0 : Int) (r : Int) (w : World) (h : spec_RuneMirror.f k a0 = some r) :
    Calls Try.prog 17 #[.int .i64 a0] w fun e w' => e = .returned (.int .i64 r) ∧ Below w.heap.size w w' := by
  have HB := Aside0.mk (Below.refl w.heap.size w)
  have H : ((spec_RuneMate.f k a0).bind fun t106 => (if t106 = 0 then (if a0 = 60 then (some 62) else (if a0 = 62 then (some 60) else (some a0))) else ((spec_RuneMate.f k a0).bind fun t107 => (some t107)))) = some r := h
  clear h
  replace H := Option.bind_eq_some_iff.mp H
  obtain ⟨t106, A20, H⟩ := H
  replace H : (if t106 = 0 then (if a0 = 60 then (some 62) else (if a0 = 62 then (some 60) else (some a0))) else ((spec_RuneMate.f k a0).bind fun t107 => (some t107))) = some r := H
  have A2 := Aside0.mk A20
  clear A20
  by_cases c3 : t106 = 0
  · rw [if_pos c3] at H
    have c3b0 : (t106 == 0) = true := beq_iff_eq.mpr c3
    have c3b1 : (t106 != 0) = false := bne_eq_false_iff_eq.mpr c3
    clear c3
    by_cases c4 : a0 = 60
    · rw [if_pos c4] at H
      have c4b0 : (a0 == 60) = true := beq_iff_eq.mpr c4
      have c4b1 : (a0 != 60) = false := bne_eq_false_iff_eq.mpr c4
      clear c4
      obtain rfl := Option.some.inj H
      go_enter Try.func17, Try.ntmps17
      go_wp2_with (first | ((with_reducible refine gate_callee (f := 15) rfl ?_); refine goesL_ (some 5) rfl rfl Try.func15 (by kernel_rfl) rfl #[.int .i64 a0] rfl (by (try simp only [List.map_toArray, List.map_cons, List.map_nil]); first | done | rfl | (simp only [List.length_drop, List.length_take]; rfl)) ?_; (with_reducible refine (spec_RuneMate.calls k a0 t106 _ A2.out).mono ?_); rintro e w5 ⟨rfl, hb⟩; refine ⟨_, rfl, ?_⟩; have n0_ := Aside0.mk (below_step (by repeat (first | (with_reducible first | exact HB.out | apply below_alloc | apply pw_below_drewN | apply below_drew1) | exact HB.out)) hb); clear HB; have HB := n0_; clear n0_; (try clear hb); (try clear hb2); (try clear hk); (try clear hi)))
      go_ret
      exact ⟨by first | rfl | (simp [errW_none, errW_some] <;> rfl) | (simp [*, errW_none, errW_some] <;> rfl), by repeat (first | (with_reducible first | exact HB.out | apply below_alloc | apply pw_below_drewN | apply below_drew1) | exact HB.out)⟩
    · rw [if_neg c4] at H
      have c4b0 : (a0 == 60) = false := beq_eq_false_iff_ne.mpr c4
      have c4b1 : (a0 != 60) = true := bne_iff_ne.mpr c4
      by_cases c6 : a0 = 62
      · rw [if_pos c6] at H
        have c6b0 : (a0 == 62) = true := beq_iff_eq.mpr c6
        have c6b1 : (a0 != 62) = false := bne_eq_false_iff_eq.mpr c6
        clear c6
        obtain rfl := Option.some.inj H
        go_enter Try.func17, Try.ntmps17
        go_wp2_with (first | ((with_reducible refine gate_callee (f := 15) rfl ?_); refine goesL_ (some 5) rfl rfl Try.func15 (by kernel_rfl) rfl #[.int .i64 a0] rfl (by (try simp only [List.map_toArray, List.map_cons, List.map_nil]); first | done | rfl | (simp only [List.length_drop, List.length_take]; rfl)) ?_; (with_reducible refine (spec_RuneMate.calls k a0 t106 _ A2.out).mono ?_); rintro e w7 ⟨rfl, hb⟩; refine ⟨_, rfl, ?_⟩; have n0_ := Aside0.mk (below_step (by repeat (first | (with_reducible first | exact HB.out | apply below_alloc | apply pw_below_drewN | apply below_drew1) | exact HB.out)) hb); clear HB; have HB := n0_; clear n0_; (try clear hb); (try clear hb2); (try clear hk); (try clear hi)))
        go_ret
        exact ⟨by first | rfl | (simp [errW_none, errW_some] <;> rfl) | (simp [*, errW_none, errW_some] <;> rfl), by repeat (first | (with_reducible first | exact HB.out | apply below_alloc | apply pw_below_drewN | apply below_drew1) | exact HB.out)⟩
      · rw [if_neg c6] at H
        have c6b0 : (a0 == 62) = false := beq_eq_false_iff_ne.mpr c6
        have c6b1 : (a0 != 62) = true := bne_iff_ne.mpr c6
        obtain rfl := Option.some.inj H
        go_enter Try.func17, Try.ntmps17
        go_wp2_with (first | ((with_reducible refine gate_callee (f := 15) rfl ?_); refine goesL_ (some 5) rfl rfl Try.func15 (by kernel_rfl) rfl #[.int .i64 a0] rfl (by (try simp only [List.map_toArray, List.map_cons, List.map_nil]); first | done | rfl | (simp only [List.length_drop, List.length_take]; rfl)) ?_; (with_reducible refine (spec_RuneMate.calls k a0 t106 _ A2.out).mono ?_); rintro e w8 ⟨rfl, hb⟩; refine ⟨_, rfl, ?_⟩; have n0_ := Aside0.mk (below_step (by repeat (first | (with_reducible first | exact HB.out | apply below_alloc | apply pw_below_drewN | apply below_drew1) | exact HB.out)) hb); clear HB; have HB := n0_; clear n0_; (try clear hb); (try clear hb2); (try clear hk); (try clear hi)))
        go_ret
        exact ⟨by first | rfl | (simp [errW_none, errW_some] <;> rfl) | (simp [*, errW_none, errW_some] <;> rfl), by repeat (first | (with_reducible first | exact HB.out | apply below_alloc | apply pw_below_drewN | apply below_drew1) | exact HB.out)⟩
  · rw [if_neg c3] at H
    have c3b0 : (t106 == 0) = false := beq_eq_false_iff_ne.mpr c3
    have c3b1 : (t106 != 0) = true := bne_iff_ne.mpr c3
    replace H := Option.bind_eq_some_iff.mp H
    obtain ⟨t107, A90, H⟩ := H
    replace H : (some t107) = some r := H
    have A9 := Aside0.mk A90
    clear A90
    obtain rfl := Option.some.inj H
    go_enter Try.func17, Try.ntmps17
    go_wp2_with (first | ((with_reducible refine gate_callee (f := 15) rfl ?_); refine goesL_ (some 5) rfl rfl Try.func15 (by kernel_rfl) rfl #[.int .i64 a0] rfl (by (try simp only [List.map_toArray, List.map_cons, List.map_nil]); first | done | rfl | (simp only [List.length_drop, List.length_take]; rfl)) ?_; (with_reducible refine (spec_RuneMate.calls k a0 t106 _ A2.out).mono ?_); rintro e w10 ⟨rfl, hb⟩; refine ⟨_, rfl, ?_⟩; have n0_ := Aside0.mk (below_step (by repeat (first | (with_reducible first | exact HB.out | apply below_alloc | apply pw_below_drewN | apply below_drew1) | exact HB.out)) hb); clear HB; have HB := n0_; clear n0_; (try clear hb); (try clear hb2); (try clear hk); (try clear hi)) | ((with_reducible refine gate_callee (f := 15) rfl ?_); refine goesL_ (some 8) rfl rfl Try.func15 (by kernel_rfl) rfl #[.int .i64 a0] rfl (by (try simp only [List.map_toArray, List.map_cons, List.map_nil]); first | done | rfl | (simp only [List.length_drop, List.length_take]; rfl)) ?_; (with_reducible refine (spec_RuneMate.calls k a0 t107 _ A9.out).mono ?_); rintro e w11 ⟨rfl, hb⟩; refine ⟨_, rfl, ?_⟩; have n0_ := Aside0.mk (below_step (by repeat (first | (with_reducible first | exact HB.out | apply below_alloc | apply pw_below_drewN | apply below_drew1) | exact HB.out)) hb); clear HB; have HB := n0_; clear n0_; (try clear hb); (try clear hb2); (try clear hk); (try clear hi)))
    go_ret
    exact ⟨by first | rfl | (simp [errW_none, errW_some] <;> rfl) | (simp [*, errW_none, errW_some] <;> rfl), by repeat (first | (with_reducible first | exact HB.out | apply below_alloc | apply pw_below_drewN | apply below_drew1) | exact HB.out)⟩

/-! ### impl_RuneMirror: function 18 -/
def impl_RuneMirror.f (a0 : Int) : Option (Int) := (impl_RuneMate.f a0).bind fun t108 => (if t108 = 0 then (if a0 = 60 then (some 62) else (if a0 = 62 then (some 60) else (some a0))) else (some t108))
set_option maxHeartbeats 8000000 in
set_option maxRecDepth 100000 in
theorem impl_RuneMirror.calls (a0 : Int) (r : Int) (w : World) (h : impl_RuneMirror.f a0 = some r) :
    Calls Try.prog 18 #[.int .i64 a0] w fun e w' => e = .returned (.int .i64 r) ∧ Below w.heap.size w w' := by
  have HB := Aside0.mk (Below.refl w.heap.size w)
  have H : ((impl_RuneMate.f a0).bind fun t108 => (if t108 = 0 then (if a0 = 60 then (some 62) else (if a0 = 62 then (some 60) else (some a0))) else (some t108))) = some r := h
  clear h
  replace H := Option.bind_eq_some_iff.mp H
  obtain ⟨t108, A20, H⟩ := H
  replace H : (if t108 = 0 then (if a0 = 60 then (some 62) else (if a0 = 62 then (some 60) else (some a0))) else (some t108)) = some r := H
  have A2 := Aside0.mk A20
  clear A20
  by_cases c3 : t108 = 0
  · rw [if_pos c3] at H
    have c3b0 : (t108 == 0) = true := beq_iff_eq.mpr c3
    have c3b1 : (t108 != 0) = false := bne_eq_false_iff_eq.mpr c3
    clear c3
    by_cases c4 : a0 = 60
    · rw [if_pos c4] at H
      have c4b0 : (a0 == 60) = true := beq_iff_eq.mpr c4
      have c4b1 : (a0 != 60) = false := bne_eq_false_iff_eq.mpr c4
      clear c4
      obtain rfl := Option.some.inj H
      go_enter Try.func18, Try.ntmps18
      go_wp2_with (first | ((with_reducible refine gate_callee (f := 16) rfl ?_); refine goesL_ (some 5) rfl rfl Try.func16 (by kernel_rfl) rfl #[.int .i64 a0] rfl (by (try simp only [List.map_toArray, List.map_cons, List.map_nil]); first | done | rfl | (simp only [List.length_drop, List.length_take]; rfl)) ?_; (with_reducible refine (impl_RuneMate.calls a0 t108 _ A2.out).mono ?_); rintro e w5 ⟨rfl, hb⟩; refine ⟨_, rfl, ?_⟩; have n0_ := Aside0.mk (below_step (by repeat (first | (with_reducible first | exact HB.out | apply below_alloc | apply pw_below_drewN | apply below_drew1) | exact HB.out)) hb); clear HB; have HB := n0_; clear n0_; (try clear hb); (try clear hb2); (try clear hk); (try clear hi)))
      go_ret
      exact ⟨by first | rfl | (simp [errW_none, errW_some] <;> rfl) | (simp [*, errW_none, errW_some] <;> rfl), by repeat (first | (with_reducible first | exact HB.out | apply below_alloc | apply pw_below_drewN | apply below_drew1) | exact HB.out)⟩
    · rw [if_neg c4] at H
      have c4b0 : (a0 == 60) = false := beq_eq_false_iff_ne.mpr c4
      have c4b1 : (a0 != 60) = true := bne_iff_ne.mpr c4
      by_cases c6 : a0 = 62
      · rw [if_pos c6] at H
        have c6b0 : (a0 == 62) = true := beq_iff_eq.mpr c6
        have c6b1 : (a0 != 62) = false := bne_eq_false_iff_eq.mpr c6
        clear c6
        obtain rfl := Option.some.inj H
        go_enter Try.func18, Try.ntmps18
        go_wp2_with (first | ((with_reducible refine gate_callee (f := 16) rfl ?_); refine goesL_ (some 5) rfl rfl Try.func16 (by kernel_rfl) rfl #[.int .i64 a0] rfl (by (try simp only [List.map_toArray, List.map_cons, List.map_nil]); first | done | rfl | (simp only [List.length_drop, List.length_take]; rfl)) ?_; (with_reducible refine (impl_RuneMate.calls a0 t108 _ A2.out).mono ?_); rintro e w7 ⟨rfl, hb⟩; refine ⟨_, rfl, ?_⟩; have n0_ := Aside0.mk (below_step (by repeat (first | (with_reducible first | exact HB.out | apply below_alloc | apply pw_below_drewN | apply below_drew1) | exact HB.out)) hb); clear HB; have HB := n0_; clear n0_; (try clear hb); (try clear hb2); (try clear hk); (try clear hi)))
        go_ret
        exact ⟨by first | rfl | (simp [errW_none, errW_some] <;> rfl) | (simp [*, errW_none, errW_some] <;> rfl), by repeat (first | (with_reducible first | exact HB.out | apply below_alloc | apply pw_below_drewN | apply below_drew1) | exact HB.out)⟩
      · rw [if_neg c6] at H
        have c6b0 : (a0 == 62) = false := beq_eq_false_iff_ne.mpr c6
        have c6b1 : (a0 != 62) = true := bne_iff_ne.mpr c6
        obtain rfl := Option.some.inj H
        go_enter Try.func18, Try.ntmps18
        go_wp2_with (first | ((with_reducible refine gate_callee (f := 16) rfl ?_); refine goesL_ (some 5) rfl rfl Try.func16 (by kernel_rfl) rfl #[.int .i64 a0] rfl (by (try simp only [List.map_toArray, List.map_cons, List.map_nil]); first | done | rfl | (simp only [List.length_drop, List.length_take]; rfl)) ?_; (with_reducible refine (impl_RuneMate.calls a0 t108 _ A2.out).mono ?_); rintro e w8 ⟨rfl, hb⟩; refine ⟨_, rfl, ?_⟩; have n0_ := Aside0.mk (below_step (by repeat (first | (with_reducible first | exact HB.out | apply below_alloc | apply pw_below_drewN | apply below_drew1) | exact HB.out)) hb); clear HB; have HB := n0_; clear n0_; (try clear hb); (try clear hb2); (try clear hk); (try clear hi)))
        go_ret
        exact ⟨by first | rfl | (simp [errW_none, errW_some] <;> rfl) | (simp [*, errW_none, errW_some] <;> rfl), by repeat (first | (with_reducible first | exact HB.out | apply below_alloc | apply pw_below_drewN | apply below_drew1) | exact HB.out)⟩
  · rw [if_neg c3] at H
    have c3b0 : (t108 == 0) = false := beq_eq_false_iff_ne.mpr c3
    have c3b1 : (t108 != 0) = true := bne_iff_ne.mpr c3
    obtain rfl := Option.some.inj H
    go_enter Try.func18, Try.ntmps18
    go_wp2_with (first | ((with_reducible refine gate_callee (f := 16) rfl ?_); refine goesL_ (some 5) rfl rfl Try.func16 (by kernel_rfl) rfl #[.int .i64 a0] rfl (by (try simp only [List.map_toArray, List.map_cons, List.map_nil]); first | done | rfl | (simp only [List.length_drop, List.length_take]; rfl)) ?_; (with_reducible refine (impl_RuneMate.calls a0 t108 _ A2.out).mono ?_); rintro e w9 ⟨rfl, hb⟩; refine ⟨_, rfl, ?_⟩; have n0_ := Aside0.mk (below_step (by repeat (first | (with_reducible first | exact HB.out | apply below_alloc | apply pw_below_drewN | apply below_drew1) | exact HB.out)) hb); clear HB; have HB := n0_; clear n0_; (try clear hb); (try clear hb2); (try clear hk); (try clear hi)))
    go_ret
    exact ⟨by first | rfl | (simp [errW_none, errW_some] <;> rfl) | (simp [*, errW_none, errW_some] <;> rfl), by repeat (first | (with_reducible first | exact HB.out | apply below_alloc | apply pw_below_drewN | apply below_drew1) | exact HB.out)⟩

-- NOT PRINTED: function 78 (impl_reach_int)

/-! ### cmp_isNaN_int: function 87 -/
def cmp_isNaN_int.f (a0 : Int) : Option (Bool) := some (a0 != a0)
set_option maxHeartbeats 8000000 in
set_option maxRecDepth 100000 in
theorem cmp_isNaN_int.calls (a0 : Int) (r : Bool) (w : World) (h : cmp_isNaN_int.f a0 = some r) :
    Calls Try.prog 87 #[.int .i64 a0] w fun e w' => e = .returned (.bool r) ∧ Drawn0 w w' := by
  have H : (some (a0 != a0)) = some r := h
  clear h
  obtain rfl := Option.some.inj H
  go_enter Try.func87, Try.ntmps87
  go_wp2
  go_ret
  exact ⟨by first | rfl | (simp; done) | (simp [*]; done), by repeat (first | exact Drawn0.refl _ | apply Drawn0.step)⟩

/-! ### cmp_Compare_int: function 80 -/
def cmp_Compare_int.f (a0 : Int) (a1 : Int) : Option (Int) := (cmp_isNaN_int.f a0).bind fun t109 => ((cmp_isNaN_int.f a1).bind fun t110 => (if t109 = true then (if t110 = true then (some 0) else (some (-1))) else (if t110 = true then (some 1) else (if a0 < a1 then (some (-1)) else (if a0 > a1 then (some 1) else (some 0))))))
set_option maxHeartbeats 8000000 in
set_option maxRecDepth 100000 in
theorem cmp_Compare_int.calls (a0 : Int) (a1 : Int) (r : Int) (w : World) (h : cmp_Compare_int.f a0 a1 = some r) :
    Calls Try.prog 80 #[.int .i64 a0, .int .i64 a1] w fun e w' => e = .returned (.int .i64 r) ∧ Drawn0 w w' := by
  have H : ((cmp_isNaN_int.f a0).bind fun t109 => ((cmp_isNaN_int.f a1).bind fun t110 => (if t109 = true then (if t110 = true then (some 0) else (some (-1))) else (if t110 = true then (some 1) else (if a0 < a1 then (some (-1)) else (if a0 > a1 then (some 1) else (some 0))))))) = some r := h
  clear h
  replace H := Option.bind_eq_some_iff.mp H
  obtain ⟨t109, A30, H⟩ := H
  replace H : ((cmp_isNaN_int.f a1).bind fun t110 => (if t109 = true then (if t110 = true then (some 0) else (some (-1))) else (if t110 = true then (some 1) else (if a0 < a1 then (some (-1)) else (if a0 > a1 then (some 1) else (some 0)))))) = some r := H
  have A3 := Aside0.mk A30
  clear A30
  replace H := Option.bind_eq_some_iff.mp H
  obtain ⟨t110, A40, H⟩ := H
  replace H : (if t109 = true then (if t110 = true then (some 0) else (some (-1))) else (if t110 = true then (some 1) else (if a0 < a1 then (some (-1)) else (if a0 > a1 then (some 1) else (some 0))))) = some r := H
  have A4 := Aside0.mk A40
  clear A40
  by_cases c5 : t109 = true
  · subst c5
    have H1 : (if t110 = true then (some 0) else (some (-1))) = some r := by rw [if_pos rfl] at H; exact H
    clear H
    have H := H1
    clear H1
    by_cases c6 : t110 = true
    · subst c6
      have H1 : (some 0) = some r := by rw [if_pos rfl] at H; exact H
      clear H
      have H := H1
      clear H1
      obtain rfl := Option.some.inj H
      go_enter Try.func80, Try.ntmps80
      go_wp2_with (first | ((with_reducible refine gate_callee (f := 87) rfl ?_); refine goesL_ (some 8) rfl rfl Try.func87 (by kernel_rfl) rfl #[.int .i64 a0] rfl (by (try simp only [List.map_toArray, List.map_cons, List.map_nil]); first | done | rfl | (simp only [List.length_drop, List.length_take]; rfl)) ?_; (with_reducible refine (cmp_isNaN_int.calls a0 true _ A3.out).mono ?_); rintro e w' ⟨rfl, ⟨nd, rfl⟩⟩; refine ⟨_, rfl, ?_⟩) | ((with_reducible refine gate_callee (f := 87) rfl ?_); refine goesL_ (some 10) rfl rfl Try.func87 (by kernel_rfl) rfl #[.int .i64 a1] rfl (by (try simp only [List.map_toArray, List.map_cons, List.map_nil]); first | done | rfl | (simp only [List.length_drop, List.length_take]; rfl)) ?_; (with_reducible refine (cmp_isNaN_int.calls a1 true _ A4.out).mono ?_); rintro e w' ⟨rfl, ⟨nd, rfl⟩⟩; refine ⟨_, rfl, ?_⟩))
      go_ret
      exact ⟨by first | rfl | (simp; done) | (simp [*]; done), by repeat (first | exact Drawn0.refl _ | apply Drawn0.step)⟩
    · replace c6 := Bool.eq_false_iff.mpr c6
      subst c6
      have H1 : (some (-1)) = some r := by rw [if_neg (show ¬ (false = true) by decide)] at H; exact H
      clear H
      have H := H1
      clear H1
      obtain rfl := Option.some.inj H
      go_enter Try.func80, Try.ntmps80
      go_wp2_with (first | ((with_reducible refine gate_callee (f := 87) rfl ?_); refine goesL_ (some 8) rfl rfl Try.func87 (by kernel_rfl) rfl #[.int .i64 a0] rfl (by (try simp only [List.map_toArray, List.map_cons, List.map_nil]); first | done | rfl | (simp only [List.length_drop, List.length_take]; rfl)) ?_; (with_reducible refine (cmp_isNaN_int.calls a0 true _ A3.out).mono ?_); rintro e w' ⟨rfl, ⟨nd, rfl⟩⟩; refine ⟨_, rfl, ?_⟩) | ((with_reducible refine gate_callee (f := 87) rfl ?_); refine goesL_ (some 10) rfl rfl Try.func87 (by kernel_rfl) rfl #[.int .i64 a1] rfl (by (try simp only [List.map_toArray, List.map_cons, List.map_nil]); first | done | rfl | (simp only [List.length_drop, List.length_take]; rfl)) ?_; (with_reducible refine (cmp_isNaN_int.calls a1 false _ A4.out).mono ?_); rintro e w' ⟨rfl, ⟨nd, rfl⟩⟩; refine ⟨_, rfl, ?_⟩))
      go_ret
      exact ⟨by first | rfl | (simp; done) | (simp [*]; done), by repeat (first | exact Drawn0.refl _ | apply Drawn0.step)⟩
  · replace c5 := Bool.eq_false_iff.mpr c5
    subst c5
    have H1 : (if t110 = true then (some 1) else (if a0 < a1 then (some (-1)) else (if a0 > a1 then (some 1) else (some 0)))) = some r := by rw [if_neg (show ¬ (false = true) by decide)] at H; exact H
    clear H
    have H := H1
    clear H1
    by_cases c7 : t110 = true
    · subst c7
      have H1 : (some 1) = some r := by rw [if_pos rfl] at H; exact H
      clear H
      have H := H1
      clear H1
      obtain rfl := Option.some.inj H
      go_enter Try.func80, Try.ntmps80
      go_wp2_with (first | ((with_reducible refine gate_callee (f := 87) rfl ?_); refine goesL_ (some 8) rfl rfl Try.func87 (by kernel_rfl) rfl #[.int .i64 a0] rfl (by (try simp only [List.map_toArray, List.map_cons, List.map_nil]); first | done | rfl | (simp only [List.length_drop, List.length_take]; rfl)) ?_; (with_reducible refine (cmp_isNaN_int.calls a0 false _ A3.out).mono ?_); rintro e w' ⟨rfl, ⟨nd, rfl⟩⟩; refine ⟨_, rfl, ?_⟩) | ((with_reducible refine gate_callee (f := 87) rfl ?_); refine goesL_ (some 10) rfl rfl Try.func87 (by kernel_rfl) rfl #[.int .i64 a1] rfl (by (try simp only [List.map_toArray, List.map_cons, List.map_nil]); first | done | rfl | (simp only [List.length_drop, List.length_take]; rfl)) ?_; (with_reducible refine (cmp_isNaN_int.calls a1 true _ A4.out).mono ?_); rintro e w' ⟨rfl, ⟨nd, rfl⟩⟩; refine ⟨_, rfl, ?_⟩))
      go_ret
      exact ⟨by first | rfl | (simp; done) | (simp [*]; done), by repeat (first | exact Drawn0.refl _ | apply Drawn0.step)⟩
    · replace c7 := Bool.eq_false_iff.mpr c7
      subst c7
      have H1 : (if a0 < a1 then (some (-1)) else (if a0 > a1 then (some 1) else (some 0))) = some r := by rw [if_neg (show ¬ (false = true) by decide)] at H; exact H
      clear H
      have H := H1
      clear H1
      by_cases c8 : a0 < a1
      · rw [if_pos c8] at H
        have c8b0 : decide (a0 < a1) = true := decide_eq_true c8
        clear c8
        obtain rfl := Option.some.inj H
        go_enter Try.func80, Try.ntmps80
        go_wp2_with (first | ((with_reducible refine gate_callee (f := 87) rfl ?_); refine goesL_ (some 8) rfl rfl Try.func87 (by kernel_rfl) rfl #[.int .i64 a0] rfl (by (try simp only [List.map_toArray, List.map_cons, List.map_nil]); first | done | rfl | (simp only [List.length_drop, List.length_take]; rfl)) ?_; (with_reducible refine (cmp_isNaN_int.calls a0 false _ A3.out).mono ?_); rintro e w' ⟨rfl, ⟨nd, rfl⟩⟩; refine ⟨_, rfl, ?_⟩) | ((with_reducible refine gate_callee (f := 87) rfl ?_); refine goesL_ (some 10) rfl rfl Try.func87 (by kernel_rfl) rfl #[.int .i64 a1] rfl (by (try simp only [List.map_toArray, List.map_cons, List.map_nil]); first | done | rfl | (simp only [List.length_drop, List.length_take]; rfl)) ?_; (with_reducible refine (cmp_isNaN_int.calls a1 false _ A4.out).mono ?_); rintro e w' ⟨rfl, ⟨nd, rfl⟩⟩; refine ⟨_, rfl, ?_⟩))
        go_ret
        exact ⟨by first | rfl | (simp; done) | (simp [*]; done), by repeat (first | exact Drawn0.refl _ | apply Drawn0.step)⟩
      · rw [if_neg c8] at H
        have c8b0 : decide (a0 < a1) = false := decide_eq_false c8
        clear c8
        by_cases c9 : a0 > a1
        · rw [if_pos c9] at H
          have c9b0 : decide (a1 < a0) = true := decide_eq_true c9
          clear c9
          obtain rfl := Option.some.inj H
          go_enter Try.func80, Try.ntmps80
          go_wp2_with (first | ((with_reducible refine gate_callee (f := 87) rfl ?_); refine goesL_ (some 8) rfl rfl Try.func87 (by kernel_rfl) rfl #[.int .i64 a0] rfl (by (try simp only [List.map_toArray, List.map_cons, List.map_nil]); first | done | rfl | (simp only [List.length_drop, List.length_take]; rfl)) ?_; (with_reducible refine (cmp_isNaN_int.calls a0 false _ A3.out).mono ?_); rintro e w' ⟨rfl, ⟨nd, rfl⟩⟩; refine ⟨_, rfl, ?_⟩) | ((with_reducible refine gate_callee (f := 87) rfl ?_); refine goesL_ (some 10) rfl rfl Try.func87 (by kernel_rfl) rfl #[.int .i64 a1] rfl (by (try simp only [List.map_toArray, List.map_cons, List.map_nil]); first | done | rfl | (simp only [List.length_drop, List.length_take]; rfl)) ?_; (with_reducible refine (cmp_isNaN_int.calls a1 false _ A4.out).mono ?_); rintro e w' ⟨rfl, ⟨nd, rfl⟩⟩; refine ⟨_, rfl, ?_⟩))
          go_ret
          exact ⟨by first | rfl | (simp; done) | (simp [*]; done), by repeat (first | exact Drawn0.refl _ | apply Drawn0.step)⟩
        · rw [if_neg c9] at H
          have c9b0 : decide (a1 < a0) = false := decide_eq_false c9
          clear c9
          obtain rfl := Option.some.inj H
          go_enter Try.func80, Try.ntmps80
          go_wp2_with (first | ((with_reducible refine gate_callee (f := 87) rfl ?_); refine goesL_ (some 8) rfl rfl Try.func87 (by kernel_rfl) rfl #[.int .i64 a0] rfl (by (try simp only [List.map_toArray, List.map_cons, List.map_nil]); first | done | rfl | (simp only [List.length_drop, List.length_take]; rfl)) ?_; (with_reducible refine (cmp_isNaN_int.calls a0 false _ A3.out).mono ?_); rintro e w' ⟨rfl, ⟨nd, rfl⟩⟩; refine ⟨_, rfl, ?_⟩) | ((with_reducible refine gate_callee (f := 87) rfl ?_); refine goesL_ (some 10) rfl rfl Try.func87 (by kernel_rfl) rfl #[.int .i64 a1] rfl (by (try simp only [List.map_toArray, List.map_cons, List.map_nil]); first | done | rfl | (simp only [List.length_drop, List.length_take]; rfl)) ?_; (with_reducible refine (cmp_isNaN_int.calls a1 false _ A4.out).mono ?_); rintro e w' ⟨rfl, ⟨nd, rfl⟩⟩; refine ⟨_, rfl, ?_⟩))
          go_ret
          exact ⟨by first | rfl | (simp; done) | (simp [*]; done), by repeat (first | exact Drawn0.refl _ | apply Drawn0.step)⟩

/-! ### impl_find_1: function 79 -/
def impl_find_1.f (a0_0 : Int) (a0_1 : Int) (a0_2 : Int) (a1 : Int) : Option (Int) := if a1 ≥ a0_0 then (if a1 ≤ a0_1 then (some 0) else ((cmp_Compare_int.f a0_0 a1).bind fun t112 => (some t112))) else ((cmp_Compare_int.f a0_0 a1).bind fun t113 => (some t113))
set_option maxHeartbeats 8000000 in
set_option maxRecDepth 100000 in
theorem impl_find_1.calls (a0_0 : Int) (a0_1 : Int) (a0_2 : Int) (a1 : Int) (r : Int) (w : World) (h : impl_find_1.f a0_0 a0_1 a0_2 a1 = some r) :
    Calls Try.prog 79 #[.agg #[.int .i64 a0_0, .int .i64 a0_1, .int .i64 a0_2], .int .i64 a1] w fun e w' => e = .returned (.int .i64 r) ∧ Below w.heap.size w w' := by
  have hu83 := Try.underlying83
  have HB := Aside0.mk (Below.refl w.heap.size w)
  have H : (if a1 ≥ a0_0 then (if a1 ≤ a0_1 then (some 0) else ((cmp_Compare_int.f a0_0 a1).bind fun t112 => (some t112))) else ((cmp_Compare_int.f a0_0 a1).bind fun t113 => (some t113))) = some r := h
  clear h
  by_cases c3 : a1 ≥ a0_0
  · rw [if_pos c3] at H
    have c3b0 : decide (a0_0 ≤ a1) = true := decide_eq_true c3
    clear c3
    by_cases c4 : a1 ≤ a0_1
    · rw [if_pos c4] at H
      have c4b0 : decide (a1 ≤ a0_1) = true := decide_eq_true c4
      clear c4
      obtain rfl := Option.some.inj H
      go_enter Try.func79, Try.ntmps79
      go_wp2_with (first | ((with_reducible refine gate_dst (N := 2) rfl ?_); refine box_event ?hg (N := 2) ?hd (cs := #[.int .i64 a0_0, .int .i64 a0_1, .int .i64 a0_2]) (t := 83) ?hr ?_; (case hd => rfl); (case hg => rfl); (case hr => first | (go_simp; done) | (go_simp; rfl)); intro gb111 hg w5 hbox hb; have n0_ := Aside0.mk (below_step (by repeat (first | (with_reducible first | exact HB.out | apply below_alloc | apply pw_below_drewN | apply below_drew1) | exact HB.out)) hb); have n1_ := Aside0.mk (hbox); have n2_ := Aside0.mk ((by rw [hg]; exact (below_size (by repeat (first | (with_reducible first | exact HB.out | apply below_alloc | apply pw_below_drewN | apply below_drew1) | exact HB.out))) : w.heap.size ≤ gb111)); have n3_ := Aside0.mk ((by rw [hg]; exact (below_size (by repeat (first | (with_reducible first | exact HB.out | apply below_alloc | apply pw_below_drewN | apply below_drew1) | exact HB.out))) : w.heap.size ≤ gb111)); clear HB; have HB := n0_; have BK111 := n1_; have GW111 := n2_; have GE111 := n3_; clear n0_ n1_ n2_ n3_; clear hb hbox hg; have hcz6_0 : w5.cell? ⟨gb111, 0, none⟩ = some (.int .i64 a0_0) := (blk_cell BK111.out 0).trans rfl; have hcz6_1 : w5.cell? ⟨gb111, 1, none⟩ = some (.int .i64 a0_1) := (blk_cell BK111.out 1).trans rfl; have hcz6_2 : w5.cell? ⟨gb111, 2, none⟩ = some (.int .i64 a0_2) := (blk_cell BK111.out 2).trans rfl; have hfz6_0 := blk_frozen BK111.out 0; have hfz6_1 := blk_frozen BK111.out 1; have hfz6_2 := blk_frozen BK111.out 2))
      go_ret
      exact ⟨by first | rfl | (simp [errW_none, errW_some] <;> rfl) | (simp [*, errW_none, errW_some] <;> rfl), by repeat (first | (with_reducible first | exact HB.out | apply below_alloc | apply pw_below_drewN | apply below_drew1 | refine below_set ?_ GE111.out) | exact HB.out)⟩
    · rw [if_neg c4] at H
      have c4b0 : decide (a1 ≤ a0_1) = false := decide_eq_false c4
      clear c4
      replace H := Option.bind_eq_some_iff.mp H
      obtain ⟨t112, A70, H⟩ := H
      replace H : (some t112) = some r := H
      have A7 := Aside0.mk A70
      clear A70
      obtain rfl := Option.some.inj H
      go_enter Try.func79, Try.ntmps79
      go_wp2_with (first | ((with_reducible refine gate_dst (N := 2) rfl ?_); refine box_event ?hg (N := 2) ?hd (cs := #[.int .i64 a0_0, .int .i64 a0_1, .int .i64 a0_2]) (t := 83) ?hr ?_; (case hd => rfl); (case hg => rfl); (case hr => first | (go_simp; done) | (go_simp; rfl)); intro gb111 hg w8 hbox hb; have n0_ := Aside0.mk (below_step (by repeat (first | (with_reducible first | exact HB.out | apply below_alloc | apply pw_below_drewN | apply below_drew1) | exact HB.out)) hb); have n1_ := Aside0.mk (hbox); have n2_ := Aside0.mk ((by rw [hg]; exact (below_size (by repeat (first | (with_reducible first | exact HB.out | apply below_alloc | apply pw_below_drewN | apply below_drew1) | exact HB.out))) : w.heap.size ≤ gb111)); have n3_ := Aside0.mk ((by rw [hg]; exact (below_size (by repeat (first | (with_reducible first | exact HB.out | apply below_alloc | apply pw_below_drewN | apply below_drew1) | exact HB.out))) : w.heap.size ≤ gb111)); clear HB; have HB := n0_; have BK111 := n1_; have GW111 := n2_; have GE111 := n3_; clear n0_ n1_ n2_ n3_; clear hb hbox hg; have hcz9_0 : w8.cell? ⟨gb111, 0, none⟩ = some (.int .i64 a0_0) := (blk_cell BK111.out 0).trans rfl; have hcz9_1 : w8.cell? ⟨gb111, 1, none⟩ = some (.int .i64 a0_1) := (blk_cell BK111.out 1).trans rfl; have hcz9_2 : w8.cell? ⟨gb111, 2, none⟩ = some (.int .i64 a0_2) := (blk_cell BK111.out 2).trans rfl; have hfz9_0 := blk_frozen BK111.out 0; have hfz9_1 := blk_frozen BK111.out 1; have hfz9_2 := blk_frozen BK111.out 2) | ((with_reducible refine gate_callee (f := 80) rfl ?_); refine goesL_ (some 18) rfl rfl Try.func80 (by kernel_rfl) rfl #[.int .i64 a0_0, .int .i64 a1] rfl (by (try simp only [List.map_toArray, List.map_cons, List.map_nil]); first | done | rfl | (simp only [List.length_drop, List.length_take]; rfl)) ?_; (with_reducible refine (cmp_Compare_int.calls a0_0 a1 t112 _ A7.out).mono ?_); rintro e w' ⟨rfl, ⟨nd, rfl⟩⟩; refine ⟨_, rfl, ?_⟩))
      go_ret
      exact ⟨by first | rfl | (simp [errW_none, errW_some] <;> rfl) | (simp [*, errW_none, errW_some] <;> rfl), by repeat (first | (with_reducible first | exact HB.out | apply below_alloc | apply pw_below_drewN | apply below_drew1 | refine below_set ?_ GE111.out) | exact HB.out)⟩
  · rw [if_neg c3] at H
    have c3b0 : decide (a0_0 ≤ a1) = false := decide_eq_false c3
    clear c3
    replace H := Option.bind_eq_some_iff.mp H
    obtain ⟨t113, A100, H⟩ := H
    replace H : (some t113) = some r := H
    have A10 := Aside0.mk A100
    clear A100
    obtain rfl := Option.some.inj H
    go_enter Try.func79, Try.ntmps79
    go_wp2_with (first | ((with_reducible refine gate_dst (N := 2) rfl ?_); refine box_event ?hg (N := 2) ?hd (cs := #[.int .i64 a0_0, .int .i64 a0_1, .int .i64 a0_2]) (t := 83) ?hr ?_; (case hd => rfl); (case hg => rfl); (case hr => first | (go_simp; done) | (go_simp; rfl)); intro gb111 hg w11 hbox hb; have n0_ := Aside0.mk (below_step (by repeat (first | (with_reducible first | exact HB.out | apply below_alloc | apply pw_below_drewN | apply below_drew1) | exact HB.out)) hb); have n1_ := Aside0.mk (hbox); have n2_ := Aside0.mk ((by rw [hg]; exact (below_size (by repeat (first | (with_reducible first | exact HB.out | apply below_alloc | apply pw_below_drewN | apply below_drew1) | exact HB.out))) : w.heap.size ≤ gb111)); have n3_ := Aside0.mk ((by rw [hg]; exact (below_size (by repeat (first | (with_reducible first | exact HB.out | apply below_alloc | apply pw_below_drewN | apply below_drew1) | exact HB.out))) : w.heap.size ≤ gb111)); clear HB; have HB := n0_; have BK111 := n1_; have GW111 := n2_; have GE111 := n3_; clear n0_ n1_ n2_ n3_; clear hb hbox hg; have hcz12_0 : w11.cell? ⟨gb111, 0, none⟩ = some (.int .i64 a0_0) := (blk_cell BK111.out 0).trans rfl; have hcz12_1 : w11.cell? ⟨gb111, 1, none⟩ = some (.int .i64 a0_1) := (blk_cell BK111.out 1).trans rfl; have hcz12_2 : w11.cell? ⟨gb111, 2, none⟩ = some (.int .i64 a0_2) := (blk_cell BK111.out 2).trans rfl; have hfz12_0 := blk_frozen BK111.out 0; have hfz12_1 := blk_frozen BK111.out 1; have hfz12_2 := blk_frozen BK111.out 2) | ((with_reducible refine gate_callee (f := 80) rfl ?_); refine goesL_ (some 18) rfl rfl Try.func80 (by kernel_rfl) rfl #[.int .i64 a0_0, .int .i64 a1] rfl (by (try simp only [List.map_toArray, List.map_cons, List.map_nil]); first | done | rfl | (simp only [List.length_drop, List.length_take]; rfl)) ?_; (with_reducible refine (cmp_Compare_int.calls a0_0 a1 t113 _ A10.out).mono ?_); rintro e w' ⟨rfl, ⟨nd, rfl⟩⟩; refine ⟨_, rfl, ?_⟩))
    go_ret
    exact ⟨by first | rfl | (simp [errW_none, errW_some] <;> rfl) | (simp [*, errW_none, errW_some] <;> rfl), by repeat (first | (with_reducible first | exact HB.out | apply below_alloc | apply pw_below_drewN | apply below_drew1 | refine below_set ?_ GE111.out) | exact HB.out)⟩

def zR : S83 := z83
def cmpR (x : S83) (r : Int) : Int := if x.f0 ≤ r ∧ r ≤ x.f1 then 0 else if x.f0 < r then -1 else if x.f0 > r then 1 else 0
theorem find_1_cmp (x : S83) (r : Int) : impl_find_1.f x.f0 x.f1 x.f2 r = some (cmpR x r) := by
  unfold impl_find_1.f cmp_Compare_int.f cmp_isNaN_int.f cmpR
  by_cases h1 : r ≥ x.f0 <;> by_cases h2 : r ≤ x.f1 <;> by_cases h3 : x.f0 < r <;> by_cases h4 : x.f0 > r <;> simp [h1, h2, h3, h4] <;> omega
/-- ascending reaches, none empty -/
def ascR : List S83 → Bool
  | [] => true
  | [x] => decide (x.f0 ≤ x.f1)
  | x :: y :: r => decide (x.f0 ≤ x.f1) && decide (x.f1 < y.f0) && ascR (y :: r)
theorem ascR_one : ∀ (l : List S83), ascR l = true → ∀ i, i < l.length → (l.getD i z83).f0 ≤ (l.getD i z83).f1
  | [], _, i, h => absurd h (Nat.not_lt_zero _)
  | [x], h, i, hi => by
    have : i = 0 := by simp at hi; omega
    subst this
    simpa [ascR] using h
  | x :: y :: r, h, i, hi => by
    simp only [ascR, Bool.and_eq_true, decide_eq_true_eq] at h
    cases i with
    | zero => simpa using h.1.1
    | succ i => simpa using ascR_one (y :: r) h.2 i (by simpa using hi)
theorem ascR_two : ∀ (l : List S83), ascR l = true → ∀ i j, i < j → j < l.length → (l.getD i z83).f1 < (l.getD j z83).f0
  | [], _, _, _, _, h => absurd h (Nat.not_lt_zero _)
  | [x], h, i, j, hij, hj => by simp at hj; omega
  | x :: y :: r, h, i, j, hij, hj => by
    have h' := h
    simp only [ascR, Bool.and_eq_true, decide_eq_true_eq] at h
    cases j with
    | zero => omega
    | succ j =>
      cases i with
      | zero =>
        cases j with
        | zero => simpa using h.1.2
        | succ j =>
          have h1 := ascR_two (y :: r) h.2 0 (j + 1) (by omega) (by simpa using hj)
          have h2 := ascR_one (y :: r) h.2 0 (by simp)
          simp only [List.getD_cons_zero, List.getD_cons_succ] at h1 h2 ⊢
          omega
      | succ i => simpa using ascR_two (y :: r) h.2 i j (by omega) (by simpa using hj)
def hitR (x : S83) (r : Int) : Bool := decide (x.f0 ≤ r) && decide (r ≤ x.f1)
def lookR (l : List S83) (r other : Int) : Int := ((l.find? fun x => hitR x r).map (·.f2)).getD other
theorem lookR_hit : ∀ (l : List S83) (i : Nat) (r o : Int), i < l.length → hitR (l.getD i z83) r = true → (∀ k, k < i → hitR (l.getD k z83) r = false) → lookR l r o = (l.getD i z83).f2
  | [], _, _, _, h, _, _ => absurd h (Nat.not_lt_zero _)
  | x :: xs, 0, r, o, _, hh, _ => by
    have h1 : hitR x r = true := by simpa using hh
    simp [lookR, List.find?_cons, h1]
  | x :: xs, i + 1, r, o, h, hh, hm => by
    have h1 : hitR x r = false := by simpa using hm 0 (by omega)
    have := lookR_hit xs i r o (by simpa using h) (by simpa using hh) (fun k hk => by simpa using hm (k + 1) (by omega))
    simp only [lookR] at this ⊢
    simpa [List.find?_cons, h1] using this
theorem lookR_miss : ∀ (l : List S83) (r o : Int), (∀ k, k < l.length → hitR (l.getD k z83) r = false) → lookR l r o = o
  | [], _, _, _ => rfl
  | x :: xs, r, o, hm => by
    have h1 : hitR x r = false := by simpa using hm 0 (by simp)
    have := lookR_miss xs r o (fun k hk => by simpa using hm (k + 1) (by simpa using hk))
    simp only [lookR] at this ⊢
    simpa [List.find?_cons, h1] using this
def BsPost (l0 : List S83) (a1 : Int) (w : World) (e : Ending) (w' : World) : Prop :=
  ∃ (i : Nat) (b : Bool), e = .returned (.tuple #[.int .i64 i, .bool b]) ∧ (b = true → i < l0.length ∧ hitR (l0.getD i z83) a1 = true) ∧ (b = false → ∀ k, k < l0.length → hitR (l0.getD k z83) a1 = false) ∧ Below w.heap.size w w'
theorem cmpR_lt {x : S83} {r : Int} (h : x.f0 ≤ x.f1) : cmpR x r < 0 ↔ x.f1 < r := by
  unfold cmpR
  split
  · omega
  · split
    · omega
    · split <;> omega
theorem cmpR_eq {x : S83} {r : Int} (h : x.f0 ≤ x.f1) : cmpR x r = 0 ↔ hitR x r = true := by
  unfold cmpR hitR
  simp only [Bool.and_eq_true, decide_eq_true_eq]
  split
  · omega
  · split
    · omega
    · split <;> omega
theorem bs_none {l0 : List S83} {a1 : Int} {j : Nat} (ha : ascR l0 = true) (hl : ∀ k, k < j → (l0.getD k z83).f1 < a1) (hg : ∀ k, j ≤ k → k < l0.length → ¬ (l0.getD k z83).f1 < a1) (hj : hitR (l0.getD j z83) a1 = false) (k : Nat) (hk : k < l0.length) : hitR (l0.getD k z83) a1 = false := by
  by_cases h1 : k < j
  · have h2 := hl k h1
    unfold hitR
    simp only [Bool.and_eq_false_iff, decide_eq_false_iff_not]
    omega
  · by_cases h2 : k = j
    · subst h2; exact hj
    · have h3 := ascR_two l0 ha j k (by omega) hk
      have h4 := hg j (Nat.le_refl _) (by omega)
      unfold hitR
      simp only [Bool.and_eq_false_iff, decide_eq_false_iff_not]
      omega
set_option maxHeartbeats 4000000 in
set_option maxRecDepth 100000 in
theorem bs_calls (A0 : Option Addr) (c0 : Nat) (l0 : List S83) (a1 : Int) (w : World) (hr0 : Kd.C k83 w A0 l0.length l0) (hc0 : l0.length ≤ c0) (ha : ascR l0 = true) (hsz : l0.length ≤ 1000000) :
    Calls Try.prog 78 #[.slice A0 l0.length c0, .int .i64 a1, .func (.func 79) #[] #[]] w (BsPost l0 a1 w) := by
  have hu83 := Try.underlying83
  have HR0 := Aside0.mk hr0
  have HA := Aside0.mk ha
  clear hr0 ha
  go_enter Try.func78, Try.ntmps78
  go_wp2
  go_loopg [9, 10] l0.length (fun gg v9 v10 wr => ∃ i j : Nat, v9 = .int .i64 i ∧ v10 = .int .i64 j ∧ i ≤ j ∧ j ≤ l0.length ∧ j - i ≤ gg ∧ Aside0 (∀ k, k < i → (l0.getD k z83).f1 < a1) ∧ Aside0 (∀ k, j ≤ k → k < l0.length → ¬ (l0.getD k z83).f1 < a1) ∧ Aside0 (Below w.heap.size w wr))
  case atStart => exact ⟨0, l0.length, rfl, rfl, Nat.zero_le _, Nat.le_refl _, by omega, ⟨fun k hk => absurd hk (Nat.not_lt_zero _)⟩, ⟨fun k h1 h2 => absurd h2 (by omega)⟩, ⟨Below.refl _ _⟩⟩
  case round =>
    obtain ⟨i, j, rfl, rfl, hij, hj, hg, HL, HG, HB⟩ := hrel
    by_cases hlt : i < j
    · have hltz : (i : Int) < (j : Int) := by omega
      obtain ⟨m, hm⟩ : ∃ m : Nat, (m : Int) = ((i : Int) + (j : Int)) / 2 := ⟨(i + j) / 2, by omega⟩
      have hm1 : i ≤ m := by omega
      have hm2 : m < j := by omega
      have p0 : 0 ≤ ((i : Int) + (j : Int)) / 2 := by omega
      have q0 : ((i : Int) + (j : Int)) / 2 < (l0.length : Int) := by omega
      obtain ⟨ad, e0, hx0, hx1, hx2⟩ := at_T83 HR0.out (((i : Int) + (j : Int)) / 2) p0 q0
      have ht : (((i : Int) + (j : Int)) / 2).toNat = (i + j) / 2 := by omega
      rw [ht] at hx0 hx1 hx2
      clear ht
      cases e0
      replace hx0 := (HB.out.cell (World.block_lt_of_cell? w _ hx0)).trans hx0
      replace hx1 := (HB.out.cell (World.block_lt_of_cell? w _ hx1)).trans hx1
      replace hx2 := (HB.out.cell (World.block_lt_of_cell? w _ hx2)).trans hx2
      have hone := ascR_one l0 HA.out m (by omega)
      have Hrd : Aside0 (rd_T83 l0 (((i : Int) + (j : Int)) / 2) = l0.getD m z83) := ⟨by unfold rd_T83; rw [← hm, Int.toNat_natCast]⟩
      generalize hy : rd_T83 l0 (((i : Int) + (j : Int)) / 2) = y at hx0 hx1 hx2 Hrd
      have Hy := Aside0.mk (Hrd.out.symm)
      clear hy Hrd
      have hcall := fun W => impl_find_1.calls y.f0 y.f1 y.f2 a1 _ W (find_1_cmp y a1)
      by_cases hc : cmpR y a1 < 0
      · have hcB : decide (cmpR y a1 < 0) = true := decide_eq_true hc
        have Hup : Aside0 ((l0.getD m z83).f1 < a1) := ⟨by rw [Hy.out]; rw [Hy.out] at hone; exact (cmpR_lt hone).mp hc⟩
        have Hm := Aside0.mk hm
        clear hm hone hc
        have HCall := Aside0.mk hcall
        clear hcall
        go_wp2_with (go_at_call 79; refine (HCall.out _).mono ?_; rintro e w' ⟨rfl, hb⟩)
        go_roundg (gk - 1)
        case measure => omega
        case rel => exact ⟨m + 1, j, by rw [← Hm.out]; go_num, rfl, by omega, by omega, by omega, ⟨fun k hk => by
          by_cases e : k = m
          · subst e; exact Hup.out
          · have h1 := ascR_two l0 HA.out k m (by omega) (by omega)
            have h2 := ascR_one l0 HA.out m (by omega)
            have h3 := Hup.out
            omega⟩, HG, ⟨HB.out.trans (hb.mono HB.out.size)⟩⟩
      · have hcB : decide (cmpR y a1 < 0) = false := decide_eq_false hc
        have Hup : Aside0 (¬ (l0.getD m z83).f1 < a1) := ⟨by rw [Hy.out]; rw [Hy.out] at hone; exact fun h => hc ((cmpR_lt hone).mpr h)⟩
        have Hm := Aside0.mk hm
        clear hm hone hc
        have HCall := Aside0.mk hcall
        clear hcall
        go_wp2_with (go_at_call 79; refine (HCall.out _).mono ?_; rintro e w' ⟨rfl, hb⟩)
        go_roundg (gk - 1)
        case measure => omega
        case rel => exact ⟨i, m, rfl, by rw [← Hm.out], by omega, by omega, by omega, HL, ⟨fun k h1 h2 => by
          by_cases e : k = m
          · subst e; exact Hup.out
          · have h3 := ascR_two l0 HA.out m k (by omega) (by omega)
            have h4 := ascR_one l0 HA.out k (by omega)
            have h5 := Hup.out
            omega⟩, ⟨HB.out.trans (hb.mono HB.out.size)⟩⟩
    · have hltz : ¬ (i : Int) < (j : Int) := by omega
      have hji : j = i := by omega
      subst hji
      by_cases hn : j < l0.length
      · have hnz : (j : Int) < (l0.length : Int) := by omega
        obtain ⟨ad, e0, hx0, hx1, hx2⟩ := at_T83 HR0.out (j : Int) (by omega) (by omega)
        rw [Int.toNat_natCast] at hx0 hx1 hx2
        cases e0
        replace hx0 := (HB.out.cell (World.block_lt_of_cell? w _ hx0)).trans hx0
        replace hx1 := (HB.out.cell (World.block_lt_of_cell? w _ hx1)).trans hx1
        replace hx2 := (HB.out.cell (World.block_lt_of_cell? w _ hx2)).trans hx2
        have hone := ascR_one l0 HA.out j (by omega)
        have Hrd : Aside0 (rd_T83 l0 (j : Int) = l0.getD j z83) := ⟨by unfold rd_T83; rw [Int.toNat_natCast]⟩
        generalize hy : rd_T83 l0 (j : Int) = y at hx0 hx1 hx2 Hrd
        have Hy := Aside0.mk (Hrd.out.symm)
        clear hy Hrd
        have HCall := Aside0.mk (fun W => impl_find_1.calls y.f0 y.f1 y.f2 a1 _ W (find_1_cmp y a1))
        have Hone := Aside0.mk hone
        clear hone
        go_wp2_with (go_at_call 79; refine (HCall.out _).mono ?_; rintro e w' ⟨rfl, hb⟩)
        go_ret2
        refine ⟨j, (cmpR y a1 == 0), rfl, fun hb1 => ⟨hn, ?_⟩, fun hb1 k hk => ?_, HB.out.trans (hb.mono HB.out.size)⟩
        · rw [Hy.out]
          have h1 := Hone.out
          rw [Hy.out] at h1
          exact (cmpR_eq h1).mp (by simpa using hb1)
        · have h1 := Hone.out
          have h2 : ¬ cmpR y a1 = 0 := by simpa using hb1
          have h3 : ¬ hitR (l0.getD j z83) a1 = true := by rw [Hy.out]; rw [Hy.out] at h1; exact fun h => h2 ((cmpR_eq h1).mpr h)
          exact bs_none HA.out HL.out (fun k h4 h5 => by have := HG.out k h4 h5; omega) (by simpa using h3) k hk
      · have hnz : ¬ (j : Int) < (l0.length : Int) := by omega
        go_wp2
        go_ret2
        refine ⟨j, false, rfl, (fun hb1 => by cases hb1), fun _ k hk => ?_, HB.out⟩
        have h1 := HL.out k (by omega)
        unfold hitR
        simp only [Bool.and_eq_false_iff, decide_eq_false_iff_not]
        omega
def impl_find.f (l0 : List S83) (a1 : Int) (a2 : Int) : Option Int := if ascR l0 = true ∧ l0.length ≤ 1000000 then some (lookR l0 a1 a2) else none
theorem asc_hit {l0 : List S83} {a1 : Int} (ha : ascR l0 = true) {i k : Nat} (hi : i < l0.length) (hh : hitR (l0.getD i z83) a1 = true) (hk : k < i) : hitR (l0.getD k z83) a1 = false := by
  have h3 := ascR_two l0 ha k i hk hi
  unfold hitR at hh ⊢
  simp only [Bool.and_eq_true, decide_eq_true_eq] at hh
  simp only [Bool.and_eq_false_iff, decide_eq_false_iff_not]
  omega
set_option maxHeartbeats 4000000 in
set_option maxRecDepth 100000 in
theorem impl_find.calls (A0 : Option Addr) (c0 : Nat) (l0 : List S83) (a1 : Int) (a2 : Int) (r : Int) (w : World) (hr0 : Kd.C k83 w A0 l0.length l0) (hc0 : l0.length ≤ c0) (h : impl_find.f l0 a1 a2 = some r) :
    Calls Try.prog 62 #[.slice A0 l0.length c0, .int .i64 a1, .int .i64 a2] w fun e w' => e = .returned (.int .i64 r) ∧ Below w.heap.size w w' := by
  unfold impl_find.f at h
  split at h
  case isFalse => exact absurd h (by simp)
  case isTrue hs =>
  have H := Aside0.mk (Option.some.inj h)
  clear h
  obtain ⟨ha, hsz⟩ := hs
  have HC := Aside0.mk (fun W => bs_calls A0 c0 l0 a1 W)
  have HR0 := Aside0.mk hr0
  have HA := Aside0.mk ha
  have hu83 := Try.underlying83
  clear hr0 ha
  go_enter Try.func62, Try.ntmps62
  go_wp2_with (fail)
  refine (HC.out _ HR0.out hc0 HA.out hsz).mono ?_
  rintro e w' ⟨i, b, rfl, ht, hf, hb⟩
  have HT := Aside0.mk ht
  have HF := Aside0.mk hf
  clear ht hf
  cases b with
  | true =>
    obtain ⟨hi, hh⟩ := HT.out rfl
    have Hh := Aside0.mk hh
    obtain ⟨ad, e0, hx0, hx1, hx2⟩ := at_T83 HR0.out (i : Int) (by omega) (by omega)
    rw [Int.toNat_natCast] at hx0 hx1 hx2
    cases e0
    replace hx0 := (hb.cell (World.block_lt_of_cell? w _ hx0)).trans hx0
    replace hx1 := (hb.cell (World.block_lt_of_cell? w _ hx1)).trans hx1
    replace hx2 := (hb.cell (World.block_lt_of_cell? w _ hx2)).trans hx2
    have hiz : (i : Int) < (l0.length : Int) := by omega
    clear hh
    go_wp2
    go_ret
    refine ⟨?_, hb⟩
    rw [← H.out, lookR_hit l0 i a1 a2 hi Hh.out (fun k hk => asc_hit HA.out hi Hh.out hk)]
    simp [rd_T83]
  | false =>
    go_wp2
    go_ret
    refine ⟨?_, hb⟩
    rw [← H.out, lookR_miss l0 a1 a2 (HF.out (by trivial))]
    rfl


/-! ### impl_bidiReaches: function 63 -/
def impl_bidiReaches.f  : Option ((List (S83))) := some (([(⟨9, 9, 11⟩ : S83), (⟨32, 32, 12⟩ : S83), (⟨35, 37, 6⟩ : S83), (⟨43, 43, 5⟩ : S83), (⟨44, 44, 8⟩ : S83), (⟨45, 45, 5⟩ : S83), (⟨46, 47, 8⟩ : S83), (⟨48, 57, 4⟩ : S83), (⟨58, 58, 8⟩ : S83), (⟨65, 90, 1⟩ : S83), (⟨97, 122, 1⟩ : S83), (⟨173, 173, 10⟩ : S83), (⟨768, 879, 9⟩ : S83), (⟨1488, 1514, 2⟩ : S83), (⟨1569, 1610, 3⟩ : S83), (⟨1632, 1641, 7⟩ : S83), (⟨8203, 8203, 10⟩ : S83), (⟨8205, 8205, 10⟩ : S83), (⟨8234, 8234, 14⟩ : S83), (⟨8235, 8235, 15⟩ : S83), (⟨8236, 8236, 16⟩ : S83), (⟨8237, 8237, 17⟩ : S83), (⟨8238, 8238, 18⟩ : S83), (⟨8294, 8294, 19⟩ : S83), (⟨8295, 8295, 20⟩ : S83), (⟨8296, 8296, 21⟩ : S83), (⟨8297, 8297, 22⟩ : S83), (⟨19968, 40959, 1⟩ : S83)] : List (S83)))
set_option maxHeartbeats 8000000 in
set_option maxRecDepth 100000 in
theorem impl_bidiReaches.calls  (r : List (S83)) (w : World) (h : impl_bidiReaches.f  = some r) :
    Calls Try.prog 63 #[] w fun e w' => ∃ v0_ : Value, e = .returned (v0_) ∧ Kd.R k83 83 w' w.heap.size (fun _ => True) v0_ r ∧ Below w.heap.size w w' := by
  have hu83 := Try.underlying83
  have HB := Aside0.mk (Below.refl w.heap.size w)
  have H : (some (([(⟨9, 9, 11⟩ : S83), (⟨32, 32, 12⟩ : S83), (⟨35, 37, 6⟩ : S83), (⟨43, 43, 5⟩ : S83), (⟨44, 44, 8⟩ : S83), (⟨45, 45, 5⟩ : S83), (⟨46, 47, 8⟩ : S83), (⟨48, 57, 4⟩ : S83), (⟨58, 58, 8⟩ : S83), (⟨65, 90, 1⟩ : S83), (⟨97, 122, 1⟩ : S83), (⟨173, 173, 10⟩ : S83), (⟨768, 879, 9⟩ : S83), (⟨1488, 1514, 2⟩ : S83), (⟨1569, 1610, 3⟩ : S83), (⟨1632, 1641, 7⟩ : S83), (⟨8203, 8203, 10⟩ : S83), (⟨8205, 8205, 10⟩ : S83), (⟨8234, 8234, 14⟩ : S83), (⟨8235, 8235, 15⟩ : S83), (⟨8236, 8236, 16⟩ : S83), (⟨8237, 8237, 17⟩ : S83), (⟨8238, 8238, 18⟩ : S83), (⟨8294, 8294, 19⟩ : S83), (⟨8295, 8295, 20⟩ : S83), (⟨8296, 8296, 21⟩ : S83), (⟨8297, 8297, 22⟩ : S83), (⟨19968, 40959, 1⟩ : S83)] : List (S83)))) = some r := h
  clear h
  obtain ⟨y114, hy114⟩ : ∃ y_ : List (S83), y_ = (([(⟨9, 9, 11⟩ : S83), (⟨32, 32, 12⟩ : S83), (⟨35, 37, 6⟩ : S83), (⟨43, 43, 5⟩ : S83), (⟨44, 44, 8⟩ : S83), (⟨45, 45, 5⟩ : S83), (⟨46, 47, 8⟩ : S83), (⟨48, 57, 4⟩ : S83), (⟨58, 58, 8⟩ : S83), (⟨65, 90, 1⟩ : S83), (⟨97, 122, 1⟩ : S83), (⟨173, 173, 10⟩ : S83), (⟨768, 879, 9⟩ : S83), (⟨1488, 1514, 2⟩ : S83), (⟨1569, 1610, 3⟩ : S83), (⟨1632, 1641, 7⟩ : S83), (⟨8203, 8203, 10⟩ : S83), (⟨8205, 8205, 10⟩ : S83), (⟨8234, 8234, 14⟩ : S83), (⟨8235, 8235, 15⟩ : S83), (⟨8236, 8236, 16⟩ : S83), (⟨8237, 8237, 17⟩ : S83), (⟨8238, 8238, 18⟩ : S83), (⟨8294, 8294, 19⟩ : S83), (⟨8295, 8295, 20⟩ : S83), (⟨8296, 8296, 21⟩ : S83), (⟨8297, 8297, 22⟩ : S83), (⟨19968, 40959, 1⟩ : S83)] : List (S83))) := ⟨_, rfl⟩
  replace H : (some y114) = some r := by first | (rw [hy114]; with_reducible exact H) | (have H2_ := (Option.bind_some _ _).symm.trans H; rw [hy114]; with_reducible exact H2_) | (have H2_ := (Option.bind_some _ _).symm.trans H; with_reducible exact H2_) | with_reducible exact H | (rw [hy114]; exact H) | exact H
  have Ny114 := Aside0.mk hy114
  clear hy114
  obtain rfl := Option.some.inj H
  go_enter Try.func63, Try.ntmps63
  go_wp2_with (first | ((with_reducible refine gate_dst (N := 29) rfl ?_); refine Kd.R_lit k83 _ 83 ?hg (N := 29) ?hd (xs := ([(⟨9, 9, 11⟩ : S83), (⟨32, 32, 12⟩ : S83), (⟨35, 37, 6⟩ : S83), (⟨43, 43, 5⟩ : S83), (⟨44, 44, 8⟩ : S83), (⟨45, 45, 5⟩ : S83), (⟨46, 47, 8⟩ : S83), (⟨48, 57, 4⟩ : S83), (⟨58, 58, 8⟩ : S83), (⟨65, 90, 1⟩ : S83), (⟨97, 122, 1⟩ : S83), (⟨173, 173, 10⟩ : S83), (⟨768, 879, 9⟩ : S83), (⟨1488, 1514, 2⟩ : S83), (⟨1569, 1610, 3⟩ : S83), (⟨1632, 1641, 7⟩ : S83), (⟨8203, 8203, 10⟩ : S83), (⟨8205, 8205, 10⟩ : S83), (⟨8234, 8234, 14⟩ : S83), (⟨8235, 8235, 15⟩ : S83), (⟨8236, 8236, 16⟩ : S83), (⟨8237, 8237, 17⟩ : S83), (⟨8238, 8238, 18⟩ : S83), (⟨8294, 8294, 19⟩ : S83), (⟨8295, 8295, 20⟩ : S83), (⟨8296, 8296, 21⟩ : S83), (⟨8297, 8297, 22⟩ : S83), (⟨19968, 40959, 1⟩ : S83)] : List (S83))) (inner := [.int .i64 9, .int .i64 9, .int .i64 11, .int .i64 32, .int .i64 32, .int .i64 12, .int .i64 35, .int .i64 37, .int .i64 6, .int .i64 43, .int .i64 43, .int .i64 5, .int .i64 44, .int .i64 44, .int .i64 8, .int .i64 45, .int .i64 45, .int .i64 5, .int .i64 46, .int .i64 47, .int .i64 8, .int .i64 48, .int .i64 57, .int .i64 4, .int .i64 58, .int .i64 58, .int .i64 8, .int .i64 65, .int .i64 90, .int .i64 1, .int .i64 97, .int .i64 122, .int .i64 1, .int .i64 173, .int .i64 173, .int .i64 10, .int .i64 768, .int .i64 879, .int .i64 9, .int .i64 1488, .int .i64 1514, .int .i64 2, .int .i64 1569, .int .i64 1610, .int .i64 3, .int .i64 1632, .int .i64 1641, .int .i64 7, .int .i64 8203, .int .i64 8203, .int .i64 10, .int .i64 8205, .int .i64 8205, .int .i64 10, .int .i64 8234, .int .i64 8234, .int .i64 14, .int .i64 8235, .int .i64 8235, .int .i64 15, .int .i64 8236, .int .i64 8236, .int .i64 16, .int .i64 8237, .int .i64 8237, .int .i64 17, .int .i64 8238, .int .i64 8238, .int .i64 18, .int .i64 8294, .int .i64 8294, .int .i64 19, .int .i64 8295, .int .i64 8295, .int .i64 20, .int .i64 8296, .int .i64 8296, .int .i64 21, .int .i64 8297, .int .i64 8297, .int .i64 22, .int .i64 19968, .int .i64 40959, .int .i64 1]) (ok := fun _ => True) (okp := fun _ => True) ?hr ?hp (fun _ hk => hk) trivial (Below.refl _ _) (Nat.le_refl _) (by simp) ?_; (case hd => rfl); (case hg => rfl); (case hr => first | (go_simp; done) | (go_simp; rfl)); (case hp => exact (Reps.c3 (show Kd.M k83 _ _ _ (⟨9, 9, 11⟩ : S83) [.int .i64 9, .int .i64 9, .int .i64 11] from (k83_mkM _ _ _ (⟨9, 9, 11⟩ : S83) )) (Reps.c3 (show Kd.M k83 _ _ _ (⟨32, 32, 12⟩ : S83) [.int .i64 32, .int .i64 32, .int .i64 12] from (k83_mkM _ _ _ (⟨32, 32, 12⟩ : S83) )) (Reps.c3 (show Kd.M k83 _ _ _ (⟨35, 37, 6⟩ : S83) [.int .i64 35, .int .i64 37, .int .i64 6] from (k83_mkM _ _ _ (⟨35, 37, 6⟩ : S83) )) (Reps.c3 (show Kd.M k83 _ _ _ (⟨43, 43, 5⟩ : S83) [.int .i64 43, .int .i64 43, .int .i64 5] from (k83_mkM _ _ _ (⟨43, 43, 5⟩ : S83) )) (Reps.c3 (show Kd.M k83 _ _ _ (⟨44, 44, 8⟩ : S83) [.int .i64 44, .int .i64 44, .int .i64 8] from (k83_mkM _ _ _ (⟨44, 44, 8⟩ : S83) )) (Reps.c3 (show Kd.M k83 _ _ _ (⟨45, 45, 5⟩ : S83) [.int .i64 45, .int .i64 45, .int .i64 5] from (k83_mkM _ _ _ (⟨45, 45, 5⟩ : S83) )) (Reps.c3 (show Kd.M k83 _ _ _ (⟨46, 47, 8⟩ : S83) [.int .i64 46, .int .i64 47, .int .i64 8] from (k83_mkM _ _ _ (⟨46, 47, 8⟩ : S83) )) (Reps.c3 (show Kd.M k83 _ _ _ (⟨48, 57, 4⟩ : S83) [.int .i64 48, .int .i64 57, .int .i64 4] from (k83_mkM _ _ _ (⟨48, 57, 4⟩ : S83) )) (Reps.c3 (show Kd.M k83 _ _ _ (⟨58, 58, 8⟩ : S83) [.int .i64 58, .int .i64 58, .int .i64 8] from (k83_mkM _ _ _ (⟨58, 58, 8⟩ : S83) )) (Reps.c3 (show Kd.M k83 _ _ _ (⟨65, 90, 1⟩ : S83) [.int .i64 65, .int .i64 90, .int .i64 1] from (k83_mkM _ _ _ (⟨65, 90, 1⟩ : S83) )) (Reps.c3 (show Kd.M k83 _ _ _ (⟨97, 122, 1⟩ : S83) [.int .i64 97, .int .i64 122, .int .i64 1] from (k83_mkM _ _ _ (⟨97, 122, 1⟩ : S83) )) (Reps.c3 (show Kd.M k83 _ _ _ (⟨173, 173, 10⟩ : S83) [.int .i64 173, .int .i64 173, .int .i64 10] from (k83_mkM _ _ _ (⟨173, 173, 10⟩ : S83) )) (Reps.c3 (show Kd.M k83 _ _ _ (⟨768, 879, 9⟩ : S83) [.int .i64 768, .int .i64 879, .int .i64 9] from (k83_mkM _ _ _ (⟨768, 879, 9⟩ : S83) )) (Reps.c3 (show Kd.M k83 _ _ _ (⟨1488, 1514, 2⟩ : S83) [.int .i64 1488, .int .i64 1514, .int .i64 2] from (k83_mkM _ _ _ (⟨1488, 1514, 2⟩ : S83) )) (Reps.c3 (show Kd.M k83 _ _ _ (⟨1569, 1610, 3⟩ : S83) [.int .i64 1569, .int .i64 1610, .int .i64 3] from (k83_mkM _ _ _ (⟨1569, 1610, 3⟩ : S83) )) (Reps.c3 (show Kd.M k83 _ _ _ (⟨1632, 1641, 7⟩ : S83) [.int .i64 1632, .int .i64 1641, .int .i64 7] from (k83_mkM _ _ _ (⟨1632, 1641, 7⟩ : S83) )) (Reps.c3 (show Kd.M k83 _ _ _ (⟨8203, 8203, 10⟩ : S83) [.int .i64 8203, .int .i64 8203, .int .i64 10] from (k83_mkM _ _ _ (⟨8203, 8203, 10⟩ : S83) )) (Reps.c3 (show Kd.M k83 _ _ _ (⟨8205, 8205, 10⟩ : S83) [.int .i64 8205, .int .i64 8205, .int .i64 10] from (k83_mkM _ _ _ (⟨8205, 8205, 10⟩ : S83) )) (Reps.c3 (show Kd.M k83 _ _ _ (⟨8234, 8234, 14⟩ : S83) [.int .i64 8234, .int .i64 8234, .int .i64 14] from (k83_mkM _ _ _ (⟨8234, 8234, 14⟩ : S83) )) (Reps.c3 (show Kd.M k83 _ _ _ (⟨8235, 8235, 15⟩ : S83) [.int .i64 8235, .int .i64 8235, .int .i64 15] from (k83_mkM _ _ _ (⟨8235, 8235, 15⟩ : S83) )) (Reps.c3 (show Kd.M k83 _ _ _ (⟨8236, 8236, 16⟩ : S83) [.int .i64 8236, .int .i64 8236, .int .i64 16] from (k83_mkM _ _ _ (⟨8236, 8236, 16⟩ : S83) )) (Reps.c3 (show Kd.M k83 _ _ _ (⟨8237, 8237, 17⟩ : S83) [.int .i64 8237, .int .i64 8237, .int .i64 17] from (k83_mkM _ _ _ (⟨8237, 8237, 17⟩ : S83) )) (Reps.c3 (show Kd.M k83 _ _ _ (⟨8238, 8238, 18⟩ : S83) [.int .i64 8238, .int .i64 8238, .int .i64 18] from (k83_mkM _ _ _ (⟨8238, 8238, 18⟩ : S83) )) (Reps.c3 (show Kd.M k83 _ _ _ (⟨8294, 8294, 19⟩ : S83) [.int .i64 8294, .int .i64 8294, .int .i64 19] from (k83_mkM _ _ _ (⟨8294, 8294, 19⟩ : S83) )) (Reps.c3 (show Kd.M k83 _ _ _ (⟨8295, 8295, 20⟩ : S83) [.int .i64 8295, .int .i64 8295, .int .i64 20] from (k83_mkM _ _ _ (⟨8295, 8295, 20⟩ : S83) )) (Reps.c3 (show Kd.M k83 _ _ _ (⟨8296, 8296, 21⟩ : S83) [.int .i64 8296, .int .i64 8296, .int .i64 21] from (k83_mkM _ _ _ (⟨8296, 8296, 21⟩ : S83) )) (Reps.c3 (show Kd.M k83 _ _ _ (⟨8297, 8297, 22⟩ : S83) [.int .i64 8297, .int .i64 8297, .int .i64 22] from (k83_mkM _ _ _ (⟨8297, 8297, 22⟩ : S83) )) (Reps.c3 (show Kd.M k83 _ _ _ (⟨19968, 40959, 1⟩ : S83) [.int .i64 19968, .int .i64 40959, .int .i64 1] from (k83_mkM _ _ _ (⟨19968, 40959, 1⟩ : S83) )) (Reps.none _ _)))))))))))))))))))))))))))))); intro v115 w1 ho2 hb hg_ hnew_; clear hg_ hnew_; (first | rw [← Ny114.out] at ho2 | (simp only [Int.reduceToNat] at ho2; rw [← Ny114.out] at ho2)); have n0_ := Aside0.mk (Kd.R_lower ho2 (below_size (by repeat (first | (with_reducible first | exact HB.out | apply below_alloc | apply pw_below_drewN | apply below_drew1) | exact HB.out)))); have n1_ := Aside0.mk (below_step (by repeat (first | (with_reducible first | exact HB.out | apply below_alloc | apply pw_below_drewN | apply below_drew1) | exact HB.out)) hb); clear HB; have HO116 := n0_; have HB := n1_; clear n0_ n1_; clear hb ho2))
  go_ret
  exact ⟨_, by first | rfl | (simp [errW_none, errW_some] <;> rfl) | (simp [*, errW_none, errW_some] <;> rfl), by (with_reducible repeat (first | apply Kd.R_alloc | apply Kd.R_drewN | apply Kd.R_drew)); exact HO116.out, by repeat (first | (with_reducible first | exact HB.out | apply below_alloc | apply pw_below_drewN | apply below_drew1) | exact HB.out)⟩

/-! ### impl_RuneBidi: function 34 -/
def impl_RuneBidi.f (a0 : Int) : Option (Int) := (impl_bidiReaches.f).bind fun t117 => ((impl_find.f t117 a0 13).bind fun t120 => (some t120))
set_option maxHeartbeats 8000000 in
set_option maxRecDepth 100000 in
theorem impl_RuneBidi.calls (a0 : Int) (r : Int) (w : World) (h : impl_RuneBidi.f a0 = some r) :
    Calls Try.prog 34 #[.int .i64 a0] w fun e w' => e = .returned (.int .i64 r) ∧ Below w.heap.size w w' := by
  have HB := Aside0.mk (Below.refl w.heap.size w)
  have H : ((impl_bidiReaches.f).bind fun t117 => ((impl_find.f t117 a0 13).bind fun t120 => (some t120))) = some r := h
  clear h
  replace H := Option.bind_eq_some_iff.mp H
  obtain ⟨t117, A20, H⟩ := H
  replace H : ((impl_find.f t117 a0 13).bind fun t120 => (some t120)) = some r := H
  have A2 := Aside0.mk A20
  clear A20
  replace H := Option.bind_eq_some_iff.mp H
  obtain ⟨t120, A30, H⟩ := H
  replace H : (some t120) = some r := H
  have A3 := Aside0.mk A30
  clear A30
  obtain rfl := Option.some.inj H
  go_enter Try.func34, Try.ntmps34
  go_wp2_with (first | ((with_reducible refine gate_callee (f := 63) rfl ?_); refine goesL_ (some 3) rfl rfl Try.func63 (by kernel_rfl) rfl #[] rfl (by (try simp only [List.map_toArray, List.map_cons, List.map_nil]); first | done | rfl | (simp only [List.length_drop, List.length_take]; rfl)) ?_; (with_reducible refine (impl_bidiReaches.calls  t117 _ A2.out).mono ?_); rintro e w4 ⟨v118, rfl, ho0, hb⟩; refine ⟨_, rfl, ?_⟩; have n0_ := Aside0.mk (Kd.R_lower ho0 (below_size (by repeat (first | (with_reducible first | exact HB.out | apply below_alloc | apply pw_below_drewN | apply below_drew1) | exact HB.out)))); have n1_ := Aside0.mk (below_step (by repeat (first | (with_reducible first | exact HB.out | apply below_alloc | apply pw_below_drewN | apply below_drew1) | exact HB.out)) hb); clear HB; have HO119 := n0_; have HB := n1_; clear n0_ n1_; (try clear hb); (try clear hb2); (try clear hk); (try clear hi); (try clear ho0); obtain ⟨Ao5, co5, eo5⟩ := Kd.R_slice HO119.out; subst eo5) | ((with_reducible refine gate_callee (f := 62) rfl ?_); refine goesL_ (some 5) rfl rfl Try.func62 (by kernel_rfl) rfl #[.slice Ao5 t117.length co5, .int .i64 a0, .int .i64 13] rfl (by (try simp only [List.map_toArray, List.map_cons, List.map_nil]); first | done | rfl | (simp only [List.length_drop, List.length_take]; rfl)) ?_; (with_reducible refine (impl_find.calls _ _ t117 a0 13 t120 _ ?side1 ?side2 A3.out).mono ?_); (case side1 => repeat (first | exact (Kd.R_reads' HO119.out).2.2 | (with_reducible refine Kd.C_alloc ?_ _) | (with_reducible refine Kd.C_drewN ?_ _) | (with_reducible refine Kd.C_drew ?_))); (case side2 => exact (Kd.R_reads' HO119.out).2.1); rintro e w6 ⟨rfl, hb⟩; refine ⟨_, rfl, ?_⟩; have n0_ := Aside0.mk (Kd.R_below (by (with_reducible repeat (first | apply Kd.R_alloc | apply Kd.R_drewN | apply Kd.R_drew)); exact HO119.out) hb); have n1_ := Aside0.mk (below_step (by repeat (first | (with_reducible first | exact HB.out | apply below_alloc | apply pw_below_drewN | apply below_drew1) | exact HB.out)) hb); clear HO119; clear HB; have HO119 := n0_; have HB := n1_; clear n0_ n1_; (try clear hb); (try clear hb2); (try clear hk); (try clear hi)))
  go_ret
  exact ⟨by first | rfl | (simp [errW_none, errW_some] <;> rfl) | (simp [*, errW_none, errW_some] <;> rfl), by repeat (first | (with_reducible first | exact HB.out | apply below_alloc | apply pw_below_drewN | apply below_drew1) | exact HB.out)⟩

end Go.Proofs.Ytjnmpamnlfabbaa.PFnRuneMirror
