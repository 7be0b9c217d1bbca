/- Of several ways the first one is told. (The pure statement, over the written functions: no memory and no program.) -/
import Derived.Test.YteoacclnndbcfaaX4
import Derived.Test.YteoacclnndbcfaaIm
namespace Go.Proofs.Yteoacclnndbcfaa.Pure
set_option linter.unusedVariables false
set_option linter.unusedSimpArgs false
open Go.RowKit Go.PA Go.Proofs.Yteoacclnndbcfaa.X Go.Proofs.YteoacclnndbcfaaW.PrintWords Go.Proofs.YteoacclnndbcfaaW.PrintLast Go.Proofs.YteoacclnndbcfaaW.PrintMore

theorem ImmFirst : letterpresslaw1_ImmFirst.Pure := by
  intro a0 a1 a2 w0 w1 w2
  refine ⟨400, ?_⟩
  unfold letterpresslaw1_ImmFirst.f
  rw [known_is (by decide), within_is (by decide) (by decide), within_is (by decide) (by decide), within_is (by decide) (by decide)]
  simp only [Option.bind_some, if_true]
  have hf : a0 % 2 = 0 ∨ a0 % 2 = 1 := by omega
  have hs : 0 ≤ a1 % 4 ∧ a1 % 4 < 4 := by omega
  have hu : 0 ≤ a2 % 256 ∧ a2 % 256 < 256 := by omega
  generalize a0 % 2 = f at *
  generalize a1 % 4 = s at *
  generalize a2 % 256 = u at *
  rw [rback_is hf hs hu (by decide)]
  simp only [Option.bind_some]
  rw [sci8_is _ (by decide)]
  simp only [Option.bind_some]
  obtain ⟨h1, h2, h3, h4, h5, h6⟩ := sci8_of hf hs hu
  rw [h1, if_pos rfl, rback_is h2 h3 h4 (by decide)]
  simp only [Option.bind_some]
  rw [h6]
  rcases h5 with h5 | ⟨h5, h7⟩
  · rw [if_pos h5]; simp
  · rw [if_neg (by omega), if_pos h5, if_pos h7]; simp

end Go.Proofs.Yteoacclnndbcfaa.Pure
