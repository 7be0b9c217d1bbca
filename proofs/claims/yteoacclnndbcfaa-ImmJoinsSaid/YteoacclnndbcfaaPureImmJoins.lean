/- Any parts, joined and split, are what they were. (The pure statement, over the written functions: no memory and no program.) -/
import Derived.Test.YteoacclnndbcfaaX5
import Derived.Test.YteoacclnndbcfaaIm
namespace Go.Proofs.Yteoacclnndbcfaa.Pure
set_option linter.unusedVariables false
set_option linter.unusedSimpArgs false
open Go.RowKit Go.PA Go.Proofs.Yteoacclnndbcfaa.X Go.Proofs.YteoacclnndbcfaaW.PrintWords Go.Proofs.YteoacclnndbcfaaW.PrintLast Go.Proofs.YteoacclnndbcfaaW.PrintMore

theorem joins1 (h m l : Int) (h0 : 0 ≤ h ∧ h < 16) (h1 : 0 ≤ m ∧ m < 32) (h2 : 0 ≤ l ∧ l < 2048) : sg (h * 65536 + m * 2048 + l) 1048576 = h * 65536 + m * 2048 + l ∨ sg (h * 65536 + m * 2048 + l) 1048576 = h * 65536 + m * 2048 + l - 1048576 := by unfold sg; omega
theorem joins2 (x : Int) : -524288 ≤ sg x 1048576 ∧ sg x 1048576 < 524288 := by unfold sg; omega
theorem joins3 (z h m l : Int) (h0 : 0 ≤ h ∧ h < 16) (h1 : 0 ≤ m ∧ m < 32) (h2 : 0 ≤ l ∧ l < 2048) (e : z = h * 65536 + m * 2048 + l ∨ z = h * 65536 + m * 2048 + l - 1048576) : z / 65536 % 16 = h ∧ z / 2048 % 32 = m ∧ z % 2048 = l := by omega
theorem joins4 (z : Int) (e2 : -524288 ≤ z ∧ z < 524288) : decide (-(2 ^ (20 - 1)) ≤ z ∧ z < 2 ^ (20 - 1)) = true := by exact decide_eq_true (by constructor <;> omega)

theorem ImmJoins : letterpresslaw1_ImmJoins.Pure := by
  intro a0 a1 a2 w0 w1 w2
  refine ⟨400, ?_⟩
  unfold letterpresslaw1_ImmJoins.f
  rw [known_is (by decide), Option.bind_some, if_pos rfl, within_is (by decide) (by decide), Option.bind_some, within_is (by decide) (by decide), Option.bind_some, within_is (by decide) (by decide), Option.bind_some]
  have h0 : 0 ≤ a0 % 16 ∧ a0 % 16 < 16 := by omega
  have h1 : 0 ≤ a1 % 32 ∧ a1 % 32 < 32 := by omega
  have h2 : 0 ≤ a2 % 2048 ∧ a2 % 2048 < 2048 := by omega
  generalize a0 % 16 = h at *
  generalize a1 % 32 = m at *
  generalize a2 % 2048 = l at *
  rw [joined_is h0 h1 h2]
  simp only [Option.bind_some]
  have e := joins1 h m l h0 h1 h2
  have e2 := joins2 (h * 65536 + m * 2048 + l)
  generalize sg (h * 65536 + m * 2048 + l) 1048576 = z at *
  obtain ⟨q1, q2, q3⟩ := joins3 z h m l h0 h1 h2 e
  unfold imm_Split.f
  simp only [Option.bind_some, and15, and31, and2047]
  rw [if_pos q1, if_pos q2, if_pos q3, fits_is z 20 20 rfl (by decide) (by decide), joins4 z e2]
  rfl

end Go.Proofs.Yteoacclnndbcfaa.Pure
