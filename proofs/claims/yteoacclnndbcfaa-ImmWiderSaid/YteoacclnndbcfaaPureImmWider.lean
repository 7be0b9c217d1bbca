/- What fits so many bits fits more. (The pure statement, over the written functions: no memory and no program.) -/
import Derived.Test.YteoacclnndbcfaaX5
import Derived.Test.YteoacclnndbcfaaIm
namespace Go.Proofs.Yteoacclnndbcfaa.Pure
set_option linter.unusedVariables false
set_option linter.unusedSimpArgs false
open Go.RowKit Go.PA Go.Proofs.Yteoacclnndbcfaa.X Go.Proofs.YteoacclnndbcfaaW.PrintWords Go.Proofs.YteoacclnndbcfaaW.PrintLast Go.Proofs.YteoacclnndbcfaaW.PrintMore

theorem ImmWider : letterpresslaw1_ImmWider.Pure := by
  intro a0 a1 w0 w1
  refine ⟨400, ?_⟩
  unfold letterpresslaw1_ImmWider.f
  rw [known_is (by decide), within_is (by decide) (by decide)]
  simp only [Option.bind_some, if_true]
  have h0 : 0 ≤ a1 % 39 ∧ a1 % 39 < 39 := by omega
  obtain ⟨b, hb⟩ : ∃ b : Nat, 1 + a1 % 39 = (b : Int) := ⟨(1 + a1 % 39).toNat, by omega⟩
  have hb1 : 1 ≤ b := by omega
  have hb2 : b ≤ 39 := by omega
  rw [wrap64_id (n := 1 + a1 % 39) (by omega) (by omega), hb, wrap64_id (n := (b : Int) + 1) (by omega) (by omega)]
  rw [fits_is _ (b : Int) b rfl hb1 (by omega), fits_is _ ((b : Int) + 1) (b + 1) (by omega) (by omega) (by omega), rfits_is _ (b : Int) b rfl hb1 (by omega)]
  simp only [Option.bind_some]
  have hph := pow_half b hb1
  have hp := pow_pos (b - 1)
  rw [show b + 1 - 1 = b by omega, hph]
  generalize (2 : Int) ^ (b - 1) = h at *
  by_cases c : -h ≤ a0 ∧ a0 < h
  · rw [decide_eq_true c, decide_eq_true (show -(2 * h) ≤ a0 ∧ a0 < 2 * h by omega)]; rfl
  · rw [decide_eq_false c]; rfl

end Go.Proofs.Yteoacclnndbcfaa.Pure
