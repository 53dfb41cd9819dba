/- The program's RuneMate answers as the reference's, for every int: the law FnExactRuneMate answers true; no condition. -/
import Derived.Test.YtjnmpamnlfabbaaPFnExactRuneMatex1
namespace Go.Proofs.Ytjnmpamnlfabbaa.Pure
open Go.RowKit Go.Proofs.Ytjnmpamnlfabbaa.PFnExactRuneMate Go.Proofs.YtjnmpamnlfabbaaW.PrintWords Go.Proofs.YtjnmpamnlfabbaaW.PrintLast Go.Proofs.YtjnmpamnlfabbaaW.PrintMore
set_option linter.unusedVariables false
set_option linter.unusedSimpArgs false

/-! small lemmas on whole numbers, lists and rounds -/
theorem w64 {x : Int} (h : -9223372036854775808 ≤ x) (h' : x ≤ 9223372036854775807) : wrap64 x = x := by
  unfold wrap64
  omega
theorem in_i64 {x : Int} (h : (Lit.int .i64 x).wf = true) : -9223372036854775808 ≤ x ∧ x ≤ 9223372036854775807 := by
  simpa [Lit.wf, IntKind.min, IntKind.max, IntKind.bits, IntKind.signed] using h
theorem in_u8 {x : Int} (h : (Lit.int .u8 x).wf = true) : 0 ≤ x ∧ x ≤ 255 := by
  simpa [Lit.wf, IntKind.min, IntKind.max, IntKind.bits, IntKind.signed] using h
theorem rd_nat (l : List Int) (i : Nat) : rd l (i : Int) = l.getD i 0 := by
  unfold rd
  rw [Int.toNat_natCast]

theorem specMate (a : Int) : spec_RuneMate.f 8 a = some (mate a) := by
  unfold spec_RuneMate.f mate
  by_cases h1 : a = 40
  · subst h1; simp [spec_RuneMate.l0, rd, wrap64]
  by_cases h2 : a = 41
  · subst h2; simp [spec_RuneMate.l0, rd, wrap64]
  by_cases h3 : a = 91
  · subst h3; simp [spec_RuneMate.l0, rd, wrap64]
  by_cases h4 : a = 93
  · subst h4; simp [spec_RuneMate.l0, rd, wrap64]
  by_cases h5 : a = 123
  · subst h5; simp [spec_RuneMate.l0, rd, wrap64]
  by_cases h6 : a = 125
  · subst h6; simp [spec_RuneMate.l0, rd, wrap64]
  have g1 : ¬ (40 = a) := fun h => h1 h.symm
  have g2 : ¬ (41 = a) := fun h => h2 h.symm
  have g3 : ¬ (91 = a) := fun h => h3 h.symm
  have g4 : ¬ (93 = a) := fun h => h4 h.symm
  have g5 : ¬ (123 = a) := fun h => h5 h.symm
  have g6 : ¬ (125 = a) := fun h => h6 h.symm
  simp [spec_RuneMate.l0, rd, wrap64, h1, h2, h3, h4, h5, h6, g1, g2, g3, g4, g5, g6]
theorem implMate {a : Int} (h : -9223372036854775808 ≤ a) (h' : a ≤ 9223372036854775807) : impl_RuneMate.f a = some (mate a) := by
  unfold impl_RuneMate.f inI64
  simp [h, h']

theorem FnExactRuneMate : laws_FnExactRuneMate.Pure := by
  intro a ha
  obtain ⟨h1, h2⟩ := in_i64 ha
  refine ⟨8, ?_⟩
  unfold laws_FnExactRuneMate.f
  rw [specMate, implMate h1 h2]
  simp

end Go.Proofs.Ytjnmpamnlfabbaa.Pure
