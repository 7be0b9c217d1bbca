/- Twenty bits, split and joined, are what they were; the parts are as wide as they may be. (The pure statement, over the written functions: no memory and no program.) -/
import Derived.Test.YteoacclnndbcfaaX4
import Derived.Test.YteoacclnndbcfaaIm
namespace Go.Proofs.Yteoacclnndbcfaa.Pure
set_option linter.unusedVariables false
set_option linter.unusedSimpArgs false
open Go.RowKit Go.PA Go.Proofs.Yteoacclnndbcfaa.X Go.Proofs.YteoacclnndbcfaaW.PrintWords Go.Proofs.YteoacclnndbcfaaW.PrintLast Go.Proofs.YteoacclnndbcfaaW.PrintMore

theorem ImmSplits : letterpresslaw1_ImmSplits.Pure := by
  intro a0 w0
  refine ⟨400, ?_⟩
  unfold letterpresslaw1_ImmSplits.f
  rw [known_is (by decide), within_is (by decide) (by decide)]
  simp only [Option.bind_some, if_true]
  have h : 0 ≤ a0 % 1048576 ∧ a0 % 1048576 < 1048576 := by omega
  generalize a0 % 1048576 = n at *
  rw [wrap64_id (by omega) (by omega)]
  unfold imm_Split.f letterpressref1_Split.f
  simp only [Option.bind_some, and15, and31, and2047, if_true]
  rw [if_pos (by omega), if_pos (by omega), if_pos (by omega), if_pos (by omega), if_pos (by omega), if_pos (by omega)]
  rw [joined_is (by omega) (by omega) (by omega)]
  simp only [Option.bind_some]
  congr 1
  rw [beq_iff_eq]
  unfold sg
  omega

end Go.Proofs.Yteoacclnndbcfaa.Pure
