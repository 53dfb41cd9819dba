-- Written by a program of this session (wip/tools) out of the translation; its shape is that of the kit print.
import Derived.Test.YtkapjhlcmicpnaaRows
import Derived.Test.YtkapjhlcmicpnaaPFnExactSpansPutx11
import Derived.Test.YtkapjhlcmicpnaaPureFnExactSpansPut
import Derived.WalkKit
import Derived.ProofKit
import Derived.OpenShut
import Derived.ShutString
import Derived.ChangeOld
import Derived.Below
import Derived.SizedLaws
import Derived.Deep.Slices
import Derived.ChangeArms
import Derived.Test.YtkapjhlcmicpnaaWSized
namespace Go.Proofs.Ytkapjhlcmicpnaa.fnExactSpansPut
open Go.ChangeShapes Go.WideShapes Go.ChangeAt Go.RowKit Go.Proofs.Ytkapjhlcmicpnaa.PFnExactSpansPut Go.Proofs.YtkapjhlcmicpnaaW.PrintWords
open Go.ChangeMaps (open_string shut_string)
set_option linter.unusedVariables false
set_option linter.unusedSimpArgs false
theorem own : ownKnob Try.prog.godebug = none := by kernel_rfl
theorem laidOut : laidOutB Try.prog = true := by kernel_rfl
theorem open_row0 {H : Type} {enc : TypeId × Value → H} {W : World} {base : Nat} {spare : Nat → Bool} {held : Bool} {ts : List TypeId} {ds : List (DataW H)} {j : Nat} {a0 : Option Addr} {len0 cap0 : Nat} {d : DataW H} {p : List MemPlace}
    (hsz : (DataW.weightsEach Try.prog ts ds).all (· ≤ reachBytes) = true) (htj : ts[j]? = some 36) (hdj : ds[j]? = some d) (h : DataW.Trod enc Try.prog W base spare held 36 (.slice a0 len0 cap0) d p) :
    ∃ l : List S51, len0 = l.length ∧ Kd.C k51 W a0 l.length l ∧ l.length ≤ cap0 ∧ l.length ≤ maxLen ∧ l.length * 32 ≤ 140737488351232 ∧ ∀ x ∈ l, (Lit.int .i64 x.f0).wf = true ∧ (Lit.int .i64 x.f1).wf = true ∧ (Lit.int .i64 x.f2).wf = true ∧ (Lit.int .i64 x.f3).wf = true := by
  obtain ⟨fuel, hf⟩ := h
  rcases Go.Deep.open_slice Try.underlying36 hf with ⟨hcs, _⟩ | ⟨a, l, c, m, n, D, Pl, hcs, hb, hl, hm, hmm, hx, hi⟩
  · simp [Value.cells] at hcs
    obtain ⟨rfl, rfl, rfl⟩ := hcs
    exact ⟨[], rfl, ⟨rfl, by simp, fun h => absurd h (by simp)⟩, by simp, by simp [maxLen], by simp, fun x hx => by cases hx⟩
  · simp [Value.cells] at hcs
    obtain ⟨rfl, rfl, rfl⟩ := hcs
    obtain ⟨hd, _⟩ := Prod.mk.inj hx
    have hlm : len0 ≤ m := by rw [hmm]; split <;> omega
    have hcf : Try.prog.cellsOf 51 = 4 := by kernel_rfl
    have hc3 : Try.prog.cellsOf 3 = 1 := by kernel_rfl
    have one : ∀ i, i < len0 → ∃ s : S51, ((Lit.int .i64 s.f0).wf = true ∧ (Lit.int .i64 s.f1).wf = true ∧ (Lit.int .i64 s.f2).wf = true ∧ (Lit.int .i64 s.f3).wf = true) ∧ ∀ q u, ([.int .i64 s.f0, .int .i64 s.f1, .int .i64 s.f2, .int .i64 s.f3] : List Value)[q]? = some u → W.cell? (a.add (i * 4 + q)) = some u := by
      intro i hi'
      obtain ⟨cs', hc', ht'⟩ := hi i (by omega)
      rw [hcf] at hc'
      obtain ⟨_, hcl, hat⟩ := World.cells?_some hc'
      obtain ⟨v0, v1, v2, v3, rfl⟩ : ∃ v0 v1 v2 v3, cs' = [v0, v1, v2, v3] := by
        match cs', hcl with
        | [v0, v1, v2, v3], _ => exact ⟨v0, v1, v2, v3, rfl⟩
      obtain ⟨xs, n', _, _, _, hlen, hg⟩ := DataW.trod_struct Try.underlying51 ht'
      obtain ⟨y0, y1, y2, y3, rfl⟩ : ∃ y0 y1 y2 y3, xs = [y0, y1, y2, y3] := by
        match xs, hlen with
        | [y0, y1, y2, y3], _ => exact ⟨y0, y1, y2, y3, rfl⟩
      have g0 := hg 0 _ rfl
      simp [hc3] at g0
      obtain ⟨b0, e0, _, wb0⟩ := DataW.trod_int Try.underlying3 g0
      simp at e0
      subst e0
      have g1 := hg 1 _ rfl
      simp [hc3] at g1
      obtain ⟨b1, e1, _, wb1⟩ := DataW.trod_int Try.underlying3 g1
      simp at e1
      subst e1
      have g2 := hg 2 _ rfl
      simp [hc3] at g2
      obtain ⟨b2, e2, _, wb2⟩ := DataW.trod_int Try.underlying3 g2
      simp at e2
      subst e2
      have g3 := hg 3 _ rfl
      simp [hc3] at g3
      obtain ⟨b3, e3, _, wb3⟩ := DataW.trod_int Try.underlying3 g3
      simp at e3
      subst e3
      refine ⟨⟨b0, b1, b2, b3⟩, ⟨wb0, wb1, wb2, wb3⟩, fun q u hu => ?_⟩
      have hq : q < 4 := by
        have := (List.getElem?_eq_some_iff.1 hu).1
        simpa using this
      rw [← Go.Deep.add_add]
      exact (hat q hq).trans hu
    obtain ⟨F, hF⟩ := @Go.Deep.choose_lt S51 ⟨z51⟩ _ _ one
    have hll : ((List.range len0).map F).length = len0 := by simp
    refine ⟨(List.range len0).map F, hll.symm, ⟨rfl, by rw [hll]; simp only [maxLen] at hm; omega, fun _ => ⟨a, rfl, fun q x hq => ?_⟩⟩, by rw [hll]; exact hl, by rw [hll]; simp only [maxLen] at hm ⊢; omega, ?_, fun x hx => ?_⟩
    · have hq' : q < len0 := by have := (List.getElem?_eq_some_iff.1 hq).1; rw [hll] at this; exact this
      have : x = F q := by
        rw [List.getElem?_map, List.getElem?_range hq'] at hq
        simpa using hq.symm
      subst this
      exact ⟨_, rfl, k51_mk W _, (hF q hq').2⟩
    · rw [hll]
      subst hd
      have z := sized_slice hsz htj hdj Try.underlying36
      simp only [List.length_map, List.length_range] at z
      have hB : Try.prog.bytesOf 51 = 32 := by kernel_rfl
      rw [hB] at z
      have hr : reachBytes = 140737488351232 := rfl
      rw [hr] at z
      have h1 : len0 * 32 ≤ (len0 + (m - len0)) * 32 := Nat.mul_le_mul_right _ (by omega)
      omega
    · obtain ⟨q, hq, rfl⟩ := List.mem_map.1 hx
      exact (hF q (List.mem_range.1 hq)).1
set_option maxRecDepth 100000 in
theorem open_agg2 {H : Type} {enc : TypeId × Value → H} {W : World} {base b0 : Nat} {r : Reach} {spare : Nat → Bool} {held : Bool} {v : Value} {d : DataW H} {p : List MemPlace}
    (hv : Value.okWide Try.prog W r b0 51 v) (h : DataW.Trod enc Try.prog W base spare held 51 v d p) :
    ∃ b0 b1 b2 b3 : Int, v = .agg #[.int .i64 b0, .int .i64 b1, .int .i64 b2, .int .i64 b3] ∧ (Lit.int .i64 b0).wf = true ∧ (Lit.int .i64 b1).wf = true ∧ (Lit.int .i64 b2).wf = true ∧ (Lit.int .i64 b3).wf = true := by
  have hcf : Try.prog.cellsOf 51 = 4 := by kernel_rfl
  have hc3 : Try.prog.cellsOf 3 = 1 := by kernel_rfl
  obtain ⟨cs, rfl, hcs⟩ := okWide_struct Try.underlying51 hv
  obtain ⟨l⟩ := cs
  obtain ⟨v0, v1, v2, v3, rfl⟩ : ∃ v0 v1 v2 v3, l = [v0, v1, v2, v3] := by
    match l, hcs.trans hcf with
    | [v0, v1, v2, v3], _ => exact ⟨v0, v1, v2, v3, rfl⟩
  obtain ⟨fuel, hf⟩ := h
  obtain ⟨xs, n', _, _, _, hlen, hg⟩ := DataW.trod_struct Try.underlying51 hf
  obtain ⟨y0, y1, y2, y3, rfl⟩ : ∃ y0 y1 y2 y3, xs = [y0, y1, y2, y3] := by
    match xs, hlen with
    | [y0, y1, y2, y3], _ => exact ⟨y0, y1, y2, y3, rfl⟩
  have g0 := hg 0 _ rfl
  simp [Value.cells, hc3] at g0
  obtain ⟨b0, e0, _, wb0⟩ := DataW.trod_int Try.underlying3 g0
  simp at e0
  subst e0
  have g1 := hg 1 _ rfl
  simp [Value.cells, hc3] at g1
  obtain ⟨b1, e1, _, wb1⟩ := DataW.trod_int Try.underlying3 g1
  simp at e1
  subst e1
  have g2 := hg 2 _ rfl
  simp [Value.cells, hc3] at g2
  obtain ⟨b2, e2, _, wb2⟩ := DataW.trod_int Try.underlying3 g2
  simp at e2
  subst e2
  have g3 := hg 3 _ rfl
  simp [Value.cells, hc3] at g3
  obtain ⟨b3, e3, _, wb3⟩ := DataW.trod_int Try.underlying3 g3
  simp at e3
  subst e3
  exact ⟨b0, b1, b2, b3, rfl, wb0, wb1, wb2, wb3⟩
set_option maxRecDepth 100000 in
theorem lifted (os : Os) (started : os.Started) (H : Type) (enc : TypeId × Value → H) :
    ReturnsInHanded {} Try.checked os 9 .any (Rows.fnExactSpansPutSpec.pre6 enc Try.prog Try.f9 Rows.fnExactSpansPutRow.domain false) (Rows.fnExactSpansPutSpec.post enc Try.prog Try.f9 false true false false) := by
  refine returnsInHanded_of_change_sized (C := Try.checked) own started (by kernel_rfl) Try.func9
    (ChangeSpec.witness6 (enc := enc) (C := Try.checked) false ⟨#[], #[.slice none 0 0, .int .i64 0, .agg #[.int .i64 0, .int .i64 0, .int .i64 0, .int .i64 0]], []⟩ 8 (by kernel_rfl) (by kernel_rfl) (by kernel_rfl) (by kernel_rfl)) ?_
  intro W base args ds gs before hval0 hW hcnd hsz0 _
  have hsz : (DataW.weightsEach Try.prog (Try.f9.params.toList ++ Rows.fnExactSpansPutSpec.plain.varTypes Try.prog) (ds ++ gs)).all (· ≤ reachBytes) = true := hsz0
  have hval : ∀ (j : Nat) t v, Try.f9.params[j]? = some t → args[j]? = some v → Value.okWide Try.prog W .any base t v := hval0
  have hW' := hW
  obtain ⟨p, q, hA0, hV, rfl, hfz, hnd⟩ := hW
  have hA : DataW.TrodAll enc Try.prog W 0 (fun _ => true) true Try.f9.params.toList args.toList ds p := hA0
  rw [Try.params9] at hA hval hsz
  obtain ⟨v0, vs0, d0, ds0, p0, q0, hargs, rfl, rfl, h0, r0⟩ := trodAll_cons hA
  obtain ⟨v1, vs1, d1, ds1, p1, q1, rfl, rfl, rfl, h1, r1⟩ := trodAll_cons r0
  obtain ⟨v2, vs2, d2, ds2, p2, q2, rfl, rfl, rfl, h2, r2⟩ := trodAll_cons r1
  obtain ⟨rfl, rfl, rfl⟩ := trodAll_nil r2
  obtain rfl : args = #[v0, v1, v2] := by cases args; simp_all
  obtain ⟨rfl, rfl⟩ := trodVars_none hV
  have k0 := h0
  have lt0 : ∀ x ∈ p0, x.block < W.heap.size := by obtain ⟨m, hm⟩ := k0; exact DataW.trod_lt m _ _ _ hm
  obtain ⟨a0, len0, cap0, rfl⟩ := okWide_slice Try.underlying36 (hval 0 36 v0 rfl rfl)
  obtain ⟨l0, rfl, hr0, hc0, m0, y0, wf0⟩ := open_row0 hsz (j := 0) rfl rfl h0
  obtain ⟨a1, rfl, rfl, rfl, w1⟩ := open_int Try.underlying3 (hval 1 3 v1 rfl rfl) h1
  have k2 := h2
  have lt2 : ∀ x ∈ p2, x.block < W.heap.size := by obtain ⟨m, hm⟩ := k2; exact DataW.trod_lt m _ _ _ hm
  obtain ⟨a2_0, a2_1, a2_2, a2_3, rfl, w2_0, w2_1, w2_2, w2_3⟩ := open_agg2 (hval 2 51 v2 rfl rfl) h2
  clear hA0 hval0 hsz0 hsz
  refine (PFnExactSpansPut.laws_FnExactSpansPut.walk Pure.FnExactSpansPut a0 cap0 l0 a1 a2_0 a2_1 a2_2 a2_3 W hr0 hc0 m0 y0 wf0 w1 w2_0 w2_1 w2_2 w2_3).mono fun e W' ⟨he, bel⟩ => ?_
  subst he
  exact ⟨_, rfl, _, _, _, [], _, [], hW', trodAll_mk1 (shut_bool Try.underlying4 _), (trodAll_cons_mk (Below.trod laidOut (by kernel_rfl) (of_decide_eq_true (by kernel_rfl)) k0 bel lt0) (trodAll_cons_mk (shut_int Try.underlying3 w1) (trodAll_cons_mk (Below.trod laidOut (by kernel_rfl) (of_decide_eq_true (by kernel_rfl)) k2 bel lt2) trodAll_mk0))), rfl, bel.frame _, fun h => by cases h⟩
theorem over : Rows.fnExactSpansPutRow.holds Try.pinned (OpenSpec.ofChange Rows.fnExactSpansPutSpec) :=
  OpenClaim.holds_of_wide 9 Try.f9 rfl rfl rfl rfl rfl rfl rfl ⟨rfl, rfl, rfl, rfl, rfl⟩ rfl rfl rfl rfl rfl (by kernel_rfl) Try.func9 (by kernel_rfl)
    (of_decide_eq_true (by kernel_rfl)) (by unfold Func.isWrapper; first | (rw [if_pos (by decide +kernel)]; kernel_rfl) | (rw [if_neg (by decide +kernel)]; exact ⟨rfl, rfl⟩))
    (fun os started H enc _ => lifted os started H enc)
theorem proved : Rows.FnExactSpansPutSaid := over
#print axioms proved
end Go.Proofs.Ytkapjhlcmicpnaa.fnExactSpansPut
namespace Go.Proofs.Ytkapjhlcmicpnaa
/-- The row, under a short name, for the claim. -/
theorem fnExactSpansPut_holds : Rows.FnExactSpansPutSaid := fnExactSpansPut.proved
end Go.Proofs.Ytkapjhlcmicpnaa
