/- Of any number whether it may be written so, how, is the document's; it comes back. (The pure statement, over the written functions: no memory and no program.) -/
import Derived.Test.YteoacclnndbcfaaX3
import Derived.Test.YteoacclnndbcfaaIs
namespace Go.Proofs.Yteoacclnndbcfaa.Pure
set_option linter.unusedVariables false
set_option linter.unusedSimpArgs false
open Go.RowKit Go.PA Go.Proofs.Yteoacclnndbcfaa.X Go.Proofs.YteoacclnndbcfaaW.PrintWords Go.Proofs.YteoacclnndbcfaaW.PrintLast Go.Proofs.YteoacclnndbcfaaW.PrintMore

theorem sci8_loop (l : List Int) (hl : l.length < 1000) : ∀ (d k : Nat) (i : Int), 0 ≤ i → i + d = l.length → d + 400 ≤ k → letterpresslaw1_ImmSci8.l0 k l i = some true := by
  intro d
  induction d with
  | zero =>
    intro k i h0 h1 hk
    obtain ⟨k, rfl⟩ : ∃ m, k = m + 1 := ⟨k - 1, by omega⟩
    simp only [letterpresslaw1_ImmSci8.l0]
    rw [if_neg (by omega)]
  | succ d ih =>
    intro k i h0 h1 hk
    obtain ⟨k, rfl⟩ : ∃ m, k = m + 1 := ⟨k - 1, by omega⟩
    simp only [letterpresslaw1_ImmSci8.l0]
    rw [if_pos (by omega), if_pos h0, sci8_is _ (by omega), Option.bind_some, rsci8_is _ (by omega), Option.bind_some]
    rw [if_neg (by simp), if_pos rfl, if_pos rfl, if_pos rfl, wrap64_id (by omega) (by omega), ih k (i + 1) (by omega) (by omega) (by omega)]
    by_cases c : (sci8 (rd l i)).2.2.2 = true
    · obtain ⟨h2, h3, h4, h5⟩ := sci8_back _ c
      rw [if_pos c, back_is h2 h3 h4 (by omega), Option.bind_some, if_pos h5]
    · rw [if_neg c]

theorem sci8_j (l : List Int) (hl : l.length < 100) : letterpresslaw1_ImmSci8.j0 600 l = some true := by
  rw [show (600 : Nat) = 599 + 1 from rfl]
  simp only [letterpresslaw1_ImmSci8.j0]
  exact sci8_loop l (by omega) l.length 599 0 (by decide) (by omega) (by omega)

theorem ImmSci8 : letterpresslaw1_ImmSci8.Pure := by
  intro a0 a1 a2 a3 w0 w1 w2
  refine ⟨600, ?_⟩
  unfold letterpresslaw1_ImmSci8.f
  have h4 : 0 ≤ a2 % 4 ∧ a2 % 4 < 4 := by omega
  have h34 : 0 ≤ a1 % 34 ∧ a1 % 34 < 34 := by omega
  have hk := known_is (k := 600) (by decide)
  have q1 := within_is (a := a1) (n := 256) (by decide) (by decide)
  have q2 := within_is (a := a2) (n := 4) (by decide) (by decide)
  have q3 := within_is (a := a1) (n := 300) (by decide) (by decide)
  have q4 := within_is (a := a1) (n := 70000) (by decide) (by decide)
  have q5 := within_is (a := a1) (n := 34) (by decide) (by decide)
  generalize a1 % 256 = b1 at *
  generalize a2 % 4 = b2 at *
  generalize a1 % 300 = b3 at *
  generalize a1 % 70000 = b4 at *
  generalize a1 % 34 = b5 at *
  have e0 : 0 ≤ IntKind.u64.wrap (wrap64 (8 * b2)) := by rw [wrap_u64]; omega
  have e1 : 0 ≤ IntKind.u64.wrap b5 := by rw [wrap_u64]; omega
  rw [hk, Option.bind_some, if_pos rfl, q1, Option.bind_some, q2, Option.bind_some, if_pos e0, q3, Option.bind_some, q4, Option.bind_some, Option.bind_some, Option.bind_some, q5, Option.bind_some, if_pos e1, Option.bind_some, if_pos e1, Option.bind_some]
  cases a3 with
  | true => rw [if_pos rfl, if_pos (by simp), sci8_j _ (by simp)]
  | false => rw [if_neg (by decide), sci8_j _ (by simp)]

end Go.Proofs.Yteoacclnndbcfaa.Pure
