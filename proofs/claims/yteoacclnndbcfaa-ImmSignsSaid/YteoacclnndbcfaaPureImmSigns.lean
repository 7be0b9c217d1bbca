/- A number's lowest bits, with a sign, differ from it by a whole number of all; taken again they stay. (The pure statement, over the written functions: no memory and no program.) -/
import Derived.Test.YteoacclnndbcfaaX5
import Derived.Test.YteoacclnndbcfaaIm
namespace Go.Proofs.Yteoacclnndbcfaa.Pure
set_option linter.unusedVariables false
set_option linter.unusedSimpArgs false
open Go.RowKit Go.PA Go.Proofs.Yteoacclnndbcfaa.X Go.Proofs.YteoacclnndbcfaaW.PrintWords Go.Proofs.YteoacclnndbcfaaW.PrintLast Go.Proofs.YteoacclnndbcfaaW.PrintMore

theorem ImmSigns : letterpresslaw1_ImmSigns.Pure := by
  intro a0 a1 w0 w1
  refine ⟨400, ?_⟩
  unfold letterpresslaw1_ImmSigns.f
  rw [known_is (by decide), within_is (by decide) (by decide), within_is (by decide) (by decide)]
  simp only [Option.bind_some, if_true]
  have h0 : 0 ≤ a1 % 40 ∧ a1 % 40 < 40 := by omega
  have h1 : 0 ≤ a0 % 1125899906842624 ∧ a0 % 1125899906842624 < 1125899906842624 := by omega
  generalize a0 % 1125899906842624 = n at *
  obtain ⟨b, hb⟩ : ∃ b : Nat, 1 + a1 % 40 = (b : Int) := ⟨(1 + a1 % 40).toNat, by omega⟩
  have hb1 : 1 ≤ b := by omega
  have hb2 : b ≤ 40 := by omega
  rw [wrap64_id (n := 1 + a1 % 40) (by omega) (by omega), hb, wrap64_id (n := n - 562949953421312) (by omega) (by omega)]
  rw [sign_is _ b hb1 (by omega)]
  simp only [Option.bind_some]
  have hw := sg_bounds (n - 562949953421312) b hb1
  have hle : (2 : Int) ^ (b - 1) ≤ 2 ^ 39 := pow_le (by omega)
  have hp := pow_pos (b - 1)
  have hph := pow_half b hb1
  have e0 : IntKind.u64.wrap (b : Int) = b := by rw [wrap_u64]; omega
  have e1 : shl .i64 1 (b : Int) = 2 ^ b := by
    unfold shl
    rw [show min ((b : Int).toNat) IntKind.i64.bits = b by simp [IntKind.bits]; omega, i64_wrap, Int.one_mul]
    exact wrap64_id (by omega) (by omega)
  rw [e0, if_pos (by omega), e1, if_neg (by omega)]
  obtain ⟨q, hq⟩ := sg_mod (n - 562949953421312) (2 ^ b)
  rw [wrap64_id (by omega) (by omega), hq, Int.mul_tmod_right, if_pos rfl, sign_is _ b hb1 (by omega), sg_id _ b hb1 hw.1 hw.2, rsign_is _ b hb1 (by omega)]
  simp

end Go.Proofs.Yteoacclnndbcfaa.Pure
