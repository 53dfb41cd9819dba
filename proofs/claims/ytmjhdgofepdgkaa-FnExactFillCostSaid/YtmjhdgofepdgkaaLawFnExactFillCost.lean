-- Written by a program of this session (wip/tools) out of the translation; its shape is that of the kit print.
import Derived.Test.YtmjhdgofepdgkaaRows
import Derived.Test.YtmjhdgofepdgkaaPFnExactFillCostx21
import Derived.Test.YtmjhdgofepdgkaaPureFnExactFillCost
import Derived.WalkKit
import Derived.ProofKit
import Derived.OpenShut
import Derived.ShutString
import Derived.ChangeOld
import Derived.Below
import Derived.SizedLaws
import Derived.Deep.Slices
import Derived.ChangeArms
import Derived.Test.YtmjhdgofepdgkaaWSized
namespace Go.Proofs.Ytmjhdgofepdgkaa.fnExactFillCost
open Go.ChangeShapes Go.WideShapes Go.ChangeAt Go.RowKit Go.Proofs.Ytmjhdgofepdgkaa.PFnExactFillCost Go.Proofs.YtmjhdgofepdgkaaW.PrintWords
open Go.ChangeMaps (open_string shut_string)
set_option linter.unusedVariables false
set_option linter.unusedSimpArgs false
theorem own : ownKnob Try.prog.godebug = none := by kernel_rfl
theorem laidOut : laidOutB Try.prog = true := by kernel_rfl
theorem open_row0 {H : Type} {enc : TypeId × Value → H} {W : World} {base : Nat} {spare : Nat → Bool} {held : Bool} {ts : List TypeId} {ds : List (DataW H)} {j : Nat} {a0 : Option Addr} {len0 cap0 : Nat} {d : DataW H} {p : List MemPlace}
    (hsz : (DataW.weightsEach Try.prog ts ds).all (· ≤ reachBytes) = true) (htj : ts[j]? = some 22) (hdj : ds[j]? = some d) (h : DataW.Trod enc Try.prog W base spare held 22 (.slice a0 len0 cap0) d p) :
    ∃ l : List Int, len0 = l.length ∧ Kd.C (Kd.int .i64) W a0 l.length l ∧ l.length ≤ cap0 ∧ l.length ≤ maxLen ∧ l.length * 8 ≤ 140737488351232 ∧ ∀ x ∈ l, (Lit.int .i64 x).wf = true := by
  obtain ⟨fuel, hf⟩ := h
  rcases Go.Deep.open_slice Try.underlying22 hf with ⟨hcs, _⟩ | ⟨a, l, c, m, n, D, Pl, hcs, hb, hl, hm, hmm, hx, hi⟩
  · simp [Value.cells] at hcs
    obtain ⟨rfl, rfl, rfl⟩ := hcs
    exact ⟨[], rfl, ⟨rfl, by simp, fun h => absurd h (by simp)⟩, by simp, by simp [maxLen], by simp, fun x hx => by cases hx⟩
  · simp [Value.cells] at hcs
    obtain ⟨rfl, rfl, rfl⟩ := hcs
    obtain ⟨hd, _⟩ := Prod.mk.inj hx
    have hlm : len0 ≤ m := by rw [hmm]; split <;> omega
    have hcf : Try.prog.cellsOf 3 = 1 := by kernel_rfl
    have hc3 : Try.prog.cellsOf 3 = 1 := by kernel_rfl
    have one : ∀ i, i < len0 → ∃ s : Int, ((Lit.int .i64 s).wf = true) ∧ ∀ q u, ([.int .i64 s] : List Value)[q]? = some u → W.cell? (a.add (i * 1 + q)) = some u := by
      intro i hi'
      obtain ⟨cs', hc', ht'⟩ := hi i (by omega)
      rw [hcf] at hc'
      obtain ⟨_, hcl, hat⟩ := World.cells?_some hc'
      obtain ⟨v0, rfl⟩ : ∃ v0, cs' = [v0] := by
        match cs', hcl with
        | [v0], _ => exact ⟨v0, rfl⟩
      obtain ⟨b0, e0, _, wb0⟩ := DataW.trod_int Try.underlying3 ht'
      simp at e0
      subst e0
      refine ⟨b0, wb0, fun q u hu => ?_⟩
      have hq : q < 1 := by
        have := (List.getElem?_eq_some_iff.1 hu).1
        simpa using this
      rw [← Go.Deep.add_add]
      exact (hat q hq).trans hu
    obtain ⟨F, hF⟩ := Go.Deep.choose_lt (α := Int) one
    have hll : ((List.range len0).map F).length = len0 := by simp
    refine ⟨(List.range len0).map F, hll.symm, ⟨rfl, by rw [hll]; simp only [maxLen] at hm; omega, fun _ => ⟨a, rfl, fun q x hq => ?_⟩⟩, by rw [hll]; exact hl, by rw [hll]; simp only [maxLen] at hm ⊢; omega, ?_, fun x hx => ?_⟩
    · have hq' : q < len0 := by have := (List.getElem?_eq_some_iff.1 hq).1; rw [hll] at this; exact this
      have : x = F q := by
        rw [List.getElem?_map, List.getElem?_range hq'] at hq
        simpa using hq.symm
      subst this
      exact ⟨_, rfl, rfl, (hF q hq').2⟩
    · rw [hll]
      subst hd
      have z := sized_slice hsz htj hdj Try.underlying22
      simp only [List.length_map, List.length_range] at z
      have hB : Try.prog.bytesOf 3 = 8 := by kernel_rfl
      rw [hB] at z
      have hr : reachBytes = 140737488351232 := rfl
      rw [hr] at z
      have h1 : len0 * 8 ≤ (len0 + (m - len0)) * 8 := Nat.mul_le_mul_right _ (by omega)
      omega
    · obtain ⟨q, hq, rfl⟩ := List.mem_map.1 hx
      exact (hF q (List.mem_range.1 hq)).1
theorem open_row1 {H : Type} {enc : TypeId × Value → H} {W : World} {base : Nat} {spare : Nat → Bool} {held : Bool} {ts : List TypeId} {ds : List (DataW H)} {j : Nat} {a0 : Option Addr} {len0 cap0 : Nat} {d : DataW H} {p : List MemPlace}
    (hsz : (DataW.weightsEach Try.prog ts ds).all (· ≤ reachBytes) = true) (htj : ts[j]? = some 23) (hdj : ds[j]? = some d) (h : DataW.Trod enc Try.prog W base spare held 23 (.slice a0 len0 cap0) d p) :
    ∃ l : List S59, len0 = l.length ∧ Kd.C k59 W a0 l.length l ∧ l.length ≤ cap0 ∧ l.length ≤ maxLen ∧ l.length * 32 ≤ 140737488351232 ∧ ∀ x ∈ l, (Lit.int .i64 x.f0).wf = true ∧ (Lit.int .i64 x.f1).wf = true ∧ (Lit.int .i64 x.f2).wf = true ∧ (Lit.int .i64 x.f3).wf = true := by
  obtain ⟨fuel, hf⟩ := h
  rcases Go.Deep.open_slice Try.underlying23 hf with ⟨hcs, _⟩ | ⟨a, l, c, m, n, D, Pl, hcs, hb, hl, hm, hmm, hx, hi⟩
  · simp [Value.cells] at hcs
    obtain ⟨rfl, rfl, rfl⟩ := hcs
    exact ⟨[], rfl, ⟨rfl, by simp, fun h => absurd h (by simp)⟩, by simp, by simp [maxLen], by simp, fun x hx => by cases hx⟩
  · simp [Value.cells] at hcs
    obtain ⟨rfl, rfl, rfl⟩ := hcs
    obtain ⟨hd, _⟩ := Prod.mk.inj hx
    have hlm : len0 ≤ m := by rw [hmm]; split <;> omega
    have hcf : Try.prog.cellsOf 59 = 4 := by kernel_rfl
    have hc3 : Try.prog.cellsOf 3 = 1 := by kernel_rfl
    have one : ∀ i, i < len0 → ∃ s : S59, ((Lit.int .i64 s.f0).wf = true ∧ (Lit.int .i64 s.f1).wf = true ∧ (Lit.int .i64 s.f2).wf = true ∧ (Lit.int .i64 s.f3).wf = true) ∧ ∀ q u, ([.int .i64 s.f0, .int .i64 s.f1, .int .i64 s.f2, .int .i64 s.f3] : List Value)[q]? = some u → W.cell? (a.add (i * 4 + q)) = some u := by
      intro i hi'
      obtain ⟨cs', hc', ht'⟩ := hi i (by omega)
      rw [hcf] at hc'
      obtain ⟨_, hcl, hat⟩ := World.cells?_some hc'
      obtain ⟨v0, v1, v2, v3, rfl⟩ : ∃ v0 v1 v2 v3, cs' = [v0, v1, v2, v3] := by
        match cs', hcl with
        | [v0, v1, v2, v3], _ => exact ⟨v0, v1, v2, v3, rfl⟩
      obtain ⟨xs, n', _, _, _, hlen, hg⟩ := DataW.trod_struct Try.underlying59 ht'
      obtain ⟨y0, y1, y2, y3, rfl⟩ : ∃ y0 y1 y2 y3, xs = [y0, y1, y2, y3] := by
        match xs, hlen with
        | [y0, y1, y2, y3], _ => exact ⟨y0, y1, y2, y3, rfl⟩
      have g0 := hg 0 _ rfl
      simp [hc3] at g0
      obtain ⟨b0, e0, _, wb0⟩ := DataW.trod_int Try.underlying3 g0
      simp at e0
      subst e0
      have g1 := hg 1 _ rfl
      simp [hc3] at g1
      obtain ⟨b1, e1, _, wb1⟩ := DataW.trod_int Try.underlying3 g1
      simp at e1
      subst e1
      have g2 := hg 2 _ rfl
      simp [hc3] at g2
      obtain ⟨b2, e2, _, wb2⟩ := DataW.trod_int Try.underlying3 g2
      simp at e2
      subst e2
      have g3 := hg 3 _ rfl
      simp [hc3] at g3
      obtain ⟨b3, e3, _, wb3⟩ := DataW.trod_int Try.underlying3 g3
      simp at e3
      subst e3
      refine ⟨⟨b0, b1, b2, b3⟩, ⟨wb0, wb1, wb2, wb3⟩, fun q u hu => ?_⟩
      have hq : q < 4 := by
        have := (List.getElem?_eq_some_iff.1 hu).1
        simpa using this
      rw [← Go.Deep.add_add]
      exact (hat q hq).trans hu
    obtain ⟨F, hF⟩ := @Go.Deep.choose_lt S59 ⟨z59⟩ _ _ one
    have hll : ((List.range len0).map F).length = len0 := by simp
    refine ⟨(List.range len0).map F, hll.symm, ⟨rfl, by rw [hll]; simp only [maxLen] at hm; omega, fun _ => ⟨a, rfl, fun q x hq => ?_⟩⟩, by rw [hll]; exact hl, by rw [hll]; simp only [maxLen] at hm ⊢; omega, ?_, fun x hx => ?_⟩
    · have hq' : q < len0 := by have := (List.getElem?_eq_some_iff.1 hq).1; rw [hll] at this; exact this
      have : x = F q := by
        rw [List.getElem?_map, List.getElem?_range hq'] at hq
        simpa using hq.symm
      subst this
      exact ⟨_, rfl, k59_mk W _, (hF q hq').2⟩
    · rw [hll]
      subst hd
      have z := sized_slice hsz htj hdj Try.underlying23
      simp only [List.length_map, List.length_range] at z
      have hB : Try.prog.bytesOf 59 = 32 := by kernel_rfl
      rw [hB] at z
      have hr : reachBytes = 140737488351232 := rfl
      rw [hr] at z
      have h1 : len0 * 32 ≤ (len0 + (m - len0)) * 32 := Nat.mul_le_mul_right _ (by omega)
      omega
    · obtain ⟨q, hq, rfl⟩ := List.mem_map.1 hx
      exact (hF q (List.mem_range.1 hq)).1
theorem open_row3 {H : Type} {enc : TypeId × Value → H} {W : World} {base : Nat} {spare : Nat → Bool} {held : Bool} {ts : List TypeId} {ds : List (DataW H)} {j : Nat} {a0 : Option Addr} {len0 cap0 : Nat} {d : DataW H} {p : List MemPlace}
    (hsz : (DataW.weightsEach Try.prog ts ds).all (· ≤ reachBytes) = true) (htj : ts[j]? = some 22) (hdj : ds[j]? = some d) (h : DataW.Trod enc Try.prog W base spare held 22 (.slice a0 len0 cap0) d p) :
    ∃ l : List Int, len0 = l.length ∧ Kd.C (Kd.int .i64) W a0 l.length l ∧ l.length ≤ cap0 ∧ l.length ≤ maxLen ∧ l.length * 8 ≤ 140737488351232 ∧ ∀ x ∈ l, (Lit.int .i64 x).wf = true := by
  obtain ⟨fuel, hf⟩ := h
  rcases Go.Deep.open_slice Try.underlying22 hf with ⟨hcs, _⟩ | ⟨a, l, c, m, n, D, Pl, hcs, hb, hl, hm, hmm, hx, hi⟩
  · simp [Value.cells] at hcs
    obtain ⟨rfl, rfl, rfl⟩ := hcs
    exact ⟨[], rfl, ⟨rfl, by simp, fun h => absurd h (by simp)⟩, by simp, by simp [maxLen], by simp, fun x hx => by cases hx⟩
  · simp [Value.cells] at hcs
    obtain ⟨rfl, rfl, rfl⟩ := hcs
    obtain ⟨hd, _⟩ := Prod.mk.inj hx
    have hlm : len0 ≤ m := by rw [hmm]; split <;> omega
    have hcf : Try.prog.cellsOf 3 = 1 := by kernel_rfl
    have hc3 : Try.prog.cellsOf 3 = 1 := by kernel_rfl
    have one : ∀ i, i < len0 → ∃ s : Int, ((Lit.int .i64 s).wf = true) ∧ ∀ q u, ([.int .i64 s] : List Value)[q]? = some u → W.cell? (a.add (i * 1 + q)) = some u := by
      intro i hi'
      obtain ⟨cs', hc', ht'⟩ := hi i (by omega)
      rw [hcf] at hc'
      obtain ⟨_, hcl, hat⟩ := World.cells?_some hc'
      obtain ⟨v0, rfl⟩ : ∃ v0, cs' = [v0] := by
        match cs', hcl with
        | [v0], _ => exact ⟨v0, rfl⟩
      obtain ⟨b0, e0, _, wb0⟩ := DataW.trod_int Try.underlying3 ht'
      simp at e0
      subst e0
      refine ⟨b0, wb0, fun q u hu => ?_⟩
      have hq : q < 1 := by
        have := (List.getElem?_eq_some_iff.1 hu).1
        simpa using this
      rw [← Go.Deep.add_add]
      exact (hat q hq).trans hu
    obtain ⟨F, hF⟩ := Go.Deep.choose_lt (α := Int) one
    have hll : ((List.range len0).map F).length = len0 := by simp
    refine ⟨(List.range len0).map F, hll.symm, ⟨rfl, by rw [hll]; simp only [maxLen] at hm; omega, fun _ => ⟨a, rfl, fun q x hq => ?_⟩⟩, by rw [hll]; exact hl, by rw [hll]; simp only [maxLen] at hm ⊢; omega, ?_, fun x hx => ?_⟩
    · have hq' : q < len0 := by have := (List.getElem?_eq_some_iff.1 hq).1; rw [hll] at this; exact this
      have : x = F q := by
        rw [List.getElem?_map, List.getElem?_range hq'] at hq
        simpa using hq.symm
      subst this
      exact ⟨_, rfl, rfl, (hF q hq').2⟩
    · rw [hll]
      subst hd
      have z := sized_slice hsz htj hdj Try.underlying22
      simp only [List.length_map, List.length_range] at z
      have hB : Try.prog.bytesOf 3 = 8 := by kernel_rfl
      rw [hB] at z
      have hr : reachBytes = 140737488351232 := rfl
      rw [hr] at z
      have h1 : len0 * 8 ≤ (len0 + (m - len0)) * 8 := Nat.mul_le_mul_right _ (by omega)
      omega
    · obtain ⟨q, hq, rfl⟩ := List.mem_map.1 hx
      exact (hF q (List.mem_range.1 hq)).1
set_option maxRecDepth 100000 in
theorem lifted (os : Os) (started : os.Started) (H : Type) (enc : TypeId × Value → H) :
    ReturnsInHanded {} Try.checked os 13 .any (Rows.fnExactFillCostSpec.pre6 enc Try.prog Try.f13 Rows.fnExactFillCostRow.domain false) (Rows.fnExactFillCostSpec.post enc Try.prog Try.f13 false true false false) := by
  refine returnsInHanded_of_change_sized (C := Try.checked) own started (by kernel_rfl) Try.func13
    (ChangeSpec.witness6 (enc := enc) (C := Try.checked) false ⟨#[], #[.slice none 0 0, .slice none 0 0, .int .i64 0, .slice none 0 0], []⟩ 8 (by kernel_rfl) (by kernel_rfl) (by kernel_rfl) (by kernel_rfl)) ?_
  intro W base args ds gs before hval0 hW hcnd hsz0 _
  have hsz : (DataW.weightsEach Try.prog (Try.f13.params.toList ++ Rows.fnExactFillCostSpec.plain.varTypes Try.prog) (ds ++ gs)).all (· ≤ reachBytes) = true := hsz0
  have hval : ∀ (j : Nat) t v, Try.f13.params[j]? = some t → args[j]? = some v → Value.okWide Try.prog W .any base t v := hval0
  have hW' := hW
  obtain ⟨p, q, hA0, hV, rfl, hfz, hnd⟩ := hW
  have hA : DataW.TrodAll enc Try.prog W 0 (fun _ => true) true Try.f13.params.toList args.toList ds p := hA0
  rw [Try.params13] at hA hval hsz
  obtain ⟨v0, vs0, d0, ds0, p0, q0, hargs, rfl, rfl, h0, r0⟩ := trodAll_cons hA
  obtain ⟨v1, vs1, d1, ds1, p1, q1, rfl, rfl, rfl, h1, r1⟩ := trodAll_cons r0
  obtain ⟨v2, vs2, d2, ds2, p2, q2, rfl, rfl, rfl, h2, r2⟩ := trodAll_cons r1
  obtain ⟨v3, vs3, d3, ds3, p3, q3, rfl, rfl, rfl, h3, r3⟩ := trodAll_cons r2
  obtain ⟨rfl, rfl, rfl⟩ := trodAll_nil r3
  obtain rfl : args = #[v0, v1, v2, v3] := by cases args; simp_all
  obtain ⟨rfl, rfl⟩ := trodVars_none hV
  have k0 := h0
  have lt0 : ∀ x ∈ p0, x.block < W.heap.size := by obtain ⟨m, hm⟩ := k0; exact DataW.trod_lt m _ _ _ hm
  obtain ⟨a0, len0, cap0, rfl⟩ := okWide_slice Try.underlying22 (hval 0 22 v0 rfl rfl)
  obtain ⟨l0, rfl, hr0, hc0, m0, y0, wf0⟩ := open_row0 hsz (j := 0) rfl rfl h0
  have k1 := h1
  have lt1 : ∀ x ∈ p1, x.block < W.heap.size := by obtain ⟨m, hm⟩ := k1; exact DataW.trod_lt m _ _ _ hm
  obtain ⟨a1, len1, cap1, rfl⟩ := okWide_slice Try.underlying23 (hval 1 23 v1 rfl rfl)
  obtain ⟨l1, rfl, hr1, hc1, m1, y1, wf1⟩ := open_row1 hsz (j := 1) rfl rfl h1
  obtain ⟨a2, rfl, rfl, rfl, w2⟩ := open_int Try.underlying3 (hval 2 3 v2 rfl rfl) h2
  have k3 := h3
  have lt3 : ∀ x ∈ p3, x.block < W.heap.size := by obtain ⟨m, hm⟩ := k3; exact DataW.trod_lt m _ _ _ hm
  obtain ⟨a3, len3, cap3, rfl⟩ := okWide_slice Try.underlying22 (hval 3 22 v3 rfl rfl)
  obtain ⟨l3, rfl, hr3, hc3, m3, y3, wf3⟩ := open_row3 hsz (j := 3) rfl rfl h3
  clear hA0 hval0 hsz0 hsz
  refine (PFnExactFillCost.laws_FnExactFillCost.walk Pure.FnExactFillCost a0 cap0 l0 a1 cap1 l1 a2 a3 cap3 l3 W hr0 hc0 m0 y0 wf0 hr1 hc1 m1 y1 wf1 w2 hr3 hc3 m3 y3 wf3).mono fun e W' ⟨he, bel⟩ => ?_
  subst he
  exact ⟨_, rfl, _, _, _, [], _, [], hW', trodAll_mk1 (shut_bool Try.underlying4 _), (trodAll_cons_mk (Below.trod laidOut (by kernel_rfl) (of_decide_eq_true (by kernel_rfl)) k0 bel lt0) (trodAll_cons_mk (Below.trod laidOut (by kernel_rfl) (of_decide_eq_true (by kernel_rfl)) k1 bel lt1) (trodAll_cons_mk (shut_int Try.underlying3 w2) (trodAll_cons_mk (Below.trod laidOut (by kernel_rfl) (of_decide_eq_true (by kernel_rfl)) k3 bel lt3) trodAll_mk0)))), rfl, bel.frame _, fun h => by cases h⟩
theorem over : Rows.fnExactFillCostRow.holds Try.pinned (OpenSpec.ofChange Rows.fnExactFillCostSpec) :=
  OpenClaim.holds_of_wide 13 Try.f13 rfl rfl rfl rfl rfl rfl rfl ⟨rfl, rfl, rfl, rfl, rfl⟩ rfl rfl rfl rfl rfl (by kernel_rfl) Try.func13 (by kernel_rfl)
    (of_decide_eq_true (by kernel_rfl)) (by unfold Func.isWrapper; first | (rw [if_pos (by decide +kernel)]; kernel_rfl) | (rw [if_neg (by decide +kernel)]; exact ⟨rfl, rfl⟩))
    (fun os started H enc _ => lifted os started H enc)
theorem proved : Rows.FnExactFillCostSaid := over
#print axioms proved
end Go.Proofs.Ytmjhdgofepdgkaa.fnExactFillCost
namespace Go.Proofs.Ytmjhdgofepdgkaa
/-- The row, under a short name, for the claim. -/
theorem fnExactFillCost_holds : Rows.FnExactFillCostSaid := fnExactFillCost.proved
end Go.Proofs.Ytmjhdgofepdgkaa
