/- These numbers are written just so. (The pure statement, over the written functions: no memory and no program.) -/
import Derived.Test.YteoacclnndbcfaaX5
import Derived.Test.YteoacclnndbcfaaIm
namespace Go.Proofs.Yteoacclnndbcfaa.Pure
set_option linter.unusedVariables false
set_option linter.unusedSimpArgs false
open Go.RowKit Go.PA Go.Proofs.Yteoacclnndbcfaa.X Go.Proofs.YteoacclnndbcfaaW.PrintWords Go.Proofs.YteoacclnndbcfaaW.PrintLast Go.Proofs.YteoacclnndbcfaaW.PrintMore

theorem ImmKnown : letterpresslaw1_ImmKnown.Pure := by
  intro a0 w0
  refine ⟨400, ?_⟩
  unfold letterpresslaw1_ImmKnown.f
  rw [known_is (by decide)]
  simp only [Option.bind_some, if_true, List.length_cons, List.length_nil]
  rw [within_is (by decide) (by decide)]
  simp only [Option.bind_some]
  have h : 0 ≤ a0 % ((0 + 1 + 1 + 1 + 1 + 1 + 1 + 1 + 1 + 1 + 1 + 1 + 1 + 1 + 1 + 1 : Nat) : Int) ∧ a0 % ((0 + 1 + 1 + 1 + 1 + 1 + 1 + 1 + 1 + 1 + 1 + 1 + 1 + 1 + 1 + 1 : Nat) : Int) < 15 := by omega
  generalize a0 % ((0 + 1 + 1 + 1 + 1 + 1 + 1 + 1 + 1 + 1 + 1 + 1 + 1 + 1 + 1 + 1 : Nat) : Int) = n at *
  simp only [sci8_is _ (show 300 ≤ 400 by decide)]
  have hn : n = 0 ∨ n = 1 ∨ n = 2 ∨ n = 3 ∨ n = 4 ∨ n = 5 ∨ n = 6 ∨ n = 7 ∨ n = 8 ∨ n = 9 ∨ n = 10 ∨ n = 11 ∨ n = 12 ∨ n = 13 ∨ n = 14 := by omega
  rcases hn with rfl | rfl | rfl | rfl | rfl | rfl | rfl | rfl | rfl | rfl | rfl | rfl | rfl | rfl | rfl <;> decide +kernel

end Go.Proofs.Yteoacclnndbcfaa.Pure
