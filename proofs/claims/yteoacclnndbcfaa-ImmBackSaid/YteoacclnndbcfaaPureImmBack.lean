/- What any parts stand for is the document's; that may be written so. (The pure statement, over the written functions: no memory and no program.) -/
import Derived.Test.YteoacclnndbcfaaX4
import Derived.Test.YteoacclnndbcfaaIm
namespace Go.Proofs.Yteoacclnndbcfaa.Pure
set_option linter.unusedVariables false
set_option linter.unusedSimpArgs false
open Go.RowKit Go.PA Go.Proofs.Yteoacclnndbcfaa.X Go.Proofs.YteoacclnndbcfaaW.PrintWords Go.Proofs.YteoacclnndbcfaaW.PrintLast Go.Proofs.YteoacclnndbcfaaW.PrintMore

theorem ImmBack : letterpresslaw1_ImmBack.Pure := by
  intro a0 a1 a2 w0 w1 w2
  refine ⟨400, ?_⟩
  unfold letterpresslaw1_ImmBack.f
  rw [known_is (by decide), within_is (by decide) (by decide), within_is (by decide) (by decide), within_is (by decide) (by decide)]
  simp only [Option.bind_some, if_true]
  have hf : a0 % 2 = 0 ∨ a0 % 2 = 1 := by omega
  have hs : 0 ≤ a1 % 4 ∧ a1 % 4 < 4 := by omega
  have hu : 0 ≤ a2 % 256 ∧ a2 % 256 < 256 := by omega
  generalize a0 % 2 = f at *
  generalize a1 % 4 = s at *
  generalize a2 % 256 = u at *
  rw [back_is hf hs hu (by decide), rback_is hf hs hu (by decide)]
  simp only [Option.bind_some]
  rw [sci8_is _ (by decide)]
  simp only [Option.bind_some, if_true]
  rw [(sci8_of hf hs hu).1, if_pos rfl, fits_is _ 32 32 rfl (by decide) (by decide)]
  simp only [Option.bind_some]
  have := @B_wide f s u
  congr 1
  exact decide_eq_true (by constructor <;> omega)

end Go.Proofs.Yteoacclnndbcfaa.Pure
