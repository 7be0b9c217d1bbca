/- Whether a number fits so many bits is the document's; then its sign is kept. (The pure statement, over the written functions: no memory and no program.) -/
import Derived.Test.YteoacclnndbcfaaX4
import Derived.Test.YteoacclnndbcfaaIm
namespace Go.Proofs.Yteoacclnndbcfaa.Pure
set_option linter.unusedVariables false
set_option linter.unusedSimpArgs false
open Go.RowKit Go.PA Go.Proofs.Yteoacclnndbcfaa.X Go.Proofs.YteoacclnndbcfaaW.PrintWords Go.Proofs.YteoacclnndbcfaaW.PrintLast Go.Proofs.YteoacclnndbcfaaW.PrintMore

theorem fits_sg (v : Int) (b : Nat) (h1 : 1 ≤ b) : (sg v (2 ^ b) = v) ↔ (-(2 ^ (b - 1)) ≤ v ∧ v < 2 ^ (b - 1)) := by
  constructor
  · intro h
    have := sg_bounds v b h1
    rw [h] at this
    exact this
  · intro h
    exact sg_id v b h1 h.1 h.2

theorem fits_loop (l : List Int) (hl : l.length < 1000) (b : Nat) (h1 : 1 ≤ b) (h2 : b ≤ 40) : ∀ (d k : Nat) (i : Int), 0 ≤ i → i + d = l.length → d + 10 ≤ k → letterpresslaw1_ImmFits.l0 k (b : Int) l i = some true := by
  intro d
  induction d with
  | zero =>
    intro k i h0 hi hk
    obtain ⟨k, rfl⟩ : ∃ m, k = m + 1 := ⟨k - 1, by omega⟩
    simp only [letterpresslaw1_ImmFits.l0]
    rw [if_neg (by omega)]
  | succ d ih =>
    intro k i h0 hi hk
    obtain ⟨k, rfl⟩ : ∃ m, k = m + 1 := ⟨k - 1, by omega⟩
    simp only [letterpresslaw1_ImmFits.l0]
    rw [if_pos (by omega), if_pos h0]
    have f1 := fits_is (rd l i) (b : Int) b rfl h1 (by omega)
    have f2 := rfits_is (rd l i) (b : Int) b rfl h1 (by omega)
    have f3 := sign_is (rd l i) b h1 (by omega)
    have f4 := rsign_is (rd l i) b h1 (by omega)
    have f5 := fits_is (sg (rd l i) (2 ^ b)) (b : Int) b rfl h1 (by omega)
    have f6 := sg_bounds (rd l i) b h1
    have f7 := fits_sg (rd l i) b h1
    rw [decide_eq_true f6] at f5
    rw [wrap64_id (n := i + 1) (by omega) (by omega), ih k (i + 1) (by omega) (by omega) (by omega)]
    generalize rd l i = v at *
    generalize sg v (2 ^ b) = s at *
    by_cases c : s = v
    · have c' := f7.1 c
      rw [decide_eq_true c'] at f1 f2
      subst c
      simp [f1, f2, f3, f4, f5]
    · have c' : ¬ (-(2 ^ (b - 1)) ≤ v ∧ v < 2 ^ (b - 1)) := fun h => c (f7.2 h)
      rw [decide_eq_false c'] at f1 f2
      simp [f1, f2, f3, f4, f5, c]

theorem ImmFits : letterpresslaw1_ImmFits.Pure := by
  intro a0 a1 a2 w0 w1 w2
  refine ⟨400, ?_⟩
  unfold letterpresslaw1_ImmFits.f
  have h40 : 0 ≤ a2 % 40 ∧ a2 % 40 < 40 := by omega
  have hk := known_is (k := 400) (by decide)
  have q1 := within_is (a := a2) (n := 40) (by decide) (by decide)
  have q2 := within_is (a := a1) (n := 2199023255552) (by decide) (by decide)
  generalize a2 % 40 = n at *
  generalize a1 % 2199023255552 = m at *
  obtain ⟨b, hb⟩ : ∃ b : Nat, 1 + n = (b : Int) := ⟨(1 + n).toNat, by omega⟩
  have e0 : wrap64 (1 + n) = (b : Int) := by rw [hb]; exact wrap64_id (by omega) (by omega)
  have e1 : 0 ≤ IntKind.u64.wrap (wrap64 ((b : Int) - 1)) := by rw [wrap_u64]; omega
  rw [hk, Option.bind_some, if_pos rfl, q1, Option.bind_some, q2, Option.bind_some, e0, if_pos e1]
  exact fits_loop _ (by simp) b (by omega) (by omega) 7 400 0 (by decide) (by simp) (by decide)

end Go.Proofs.Yteoacclnndbcfaa.Pure
