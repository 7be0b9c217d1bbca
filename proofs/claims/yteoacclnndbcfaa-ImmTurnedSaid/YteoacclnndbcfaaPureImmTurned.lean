/- Turned about bit by bit what may be written so may, by the other f. (The pure statement, over the written functions: no memory and no program.) -/
import Derived.Test.YteoacclnndbcfaaX5
import Derived.Test.YteoacclnndbcfaaIm
namespace Go.Proofs.Yteoacclnndbcfaa.Pure
set_option linter.unusedVariables false
set_option linter.unusedSimpArgs false
open Go.RowKit Go.PA Go.Proofs.Yteoacclnndbcfaa.X Go.Proofs.YteoacclnndbcfaaW.PrintWords Go.Proofs.YteoacclnndbcfaaW.PrintLast Go.Proofs.YteoacclnndbcfaaW.PrintMore

theorem ImmTurned : letterpresslaw1_ImmTurned.Pure := by
  intro a0 a1 a2 w0 w1 w2
  refine ⟨400, ?_⟩
  unfold letterpresslaw1_ImmTurned.f
  rw [known_is (by decide), within_is (by decide) (by decide), within_is (by decide) (by decide), within_is (by decide) (by decide)]
  simp only [Option.bind_some, if_true]
  have hf : a0 % 2 = 0 ∨ a0 % 2 = 1 := by omega
  have hs : 0 ≤ a1 % 4 ∧ a1 % 4 < 4 := by omega
  have hu : 0 ≤ a2 % 256 ∧ a2 % 256 < 256 := by omega
  generalize a0 % 2 = f at *
  generalize a1 % 4 = s at *
  generalize a2 % 256 = u at *
  rw [wrap64_id (n := 1 - f) (by omega) (by omega), wrap64_id (n := 255 - u) (by omega) (by omega)]
  rw [back_is (by omega) hs (by omega) (by decide), back_is hf hs hu (by decide)]
  simp only [Option.bind_some]
  have := @B_wide f s u
  rw [wrap64_id (by omega) (by omega)]
  congr 1
  rw [beq_iff_eq]
  have hs' : s = 0 ∨ s = 1 ∨ s = 2 ∨ s = 3 := by omega
  unfold B val4 bk sg
  rcases hs' with rfl | rfl | rfl | rfl <;> rcases hf with rfl | rfl <;> simp <;> omega

end Go.Proofs.Yteoacclnndbcfaa.Pure
