/- What the reference's Sci8 comes to. -/
import Derived.Test.YteoacclnndbcfaaX3
import Derived.Test.YteoacclnndbcfaaIm
namespace Go.Proofs.Yteoacclnndbcfaa.X
set_option linter.unusedVariables false
set_option linter.unusedSimpArgs false
open Go.RowKit Go.PA Go.Proofs.YteoacclnndbcfaaW.PrintWords Go.Proofs.YteoacclnndbcfaaW.PrintLast Go.Proofs.YteoacclnndbcfaaW.PrintMore

theorem sci8_wide (v : Int) (h : ¬ (-2147483648 ≤ v ∧ v < 2147483648)) : sci8 v = (0, 0, 0, false) := by
  have hB : ∀ f s u, ¬ B f s u = v := fun f s u e => h (by have := @B_wide f s u; omega)
  unfold sci8 ways
  simp only [firstOf, if_neg (hB _ _ _)]

theorem rsci8_is (v : Int) {k : Nat} (hk : 20 ≤ k) : letterpressref1_Sci8.f k v = some (sci8 v) := by
  refine more (letterpressref1_Sci8.mono v) hk ?_
  unfold letterpressref1_Sci8.f
  rw [rfits_is v 32 32 rfl (by decide) (by decide), Option.bind_some]
  by_cases hf : -(2 ^ (32 - 1)) ≤ v ∧ v < 2 ^ (32 - 1)
  · rw [decide_eq_true hf, if_pos rfl]
    have step : ∀ (k : Nat) (f s : Int) (rest : List (Int × Int)), 5 ≤ k → (f = 0 ∨ f = 1) → (0 ≤ s ∧ s < 4) →
        letterpressref1_Sci8.l1 k v f (s + 1) = some (firstOf v rest) → letterpressref1_Sci8.l1 (k + 1) v f s = some (firstOf v ((f, s) :: rest)) := by
      intro k f s rest hk hf hs ih
      simp only [letterpressref1_Sci8.l1]
      have e0 : IntKind.u64.wrap (wrap64 (8 * s)) = 8 * s := by rw [wrap64_id (by omega) (by omega), wrap_u64]; omega
      have e1 : Go.bits .and .i64 (shr .i64 v (8 * s)) 255 = u0 v s := by
        rw [and255]; unfold shr u0
        rw [show min (8 * s).toNat IntKind.i64.bits = (8 * s).toNat by simp [IntKind.bits]; omega]
      rw [if_pos (by omega), e0, if_pos (by omega), e1, rback_is hf hs (u0_in v s) hk, Option.bind_some, wrap64_id (by omega) (by omega), ih]
      simp only [firstOf]
      by_cases c : B f s (u0 v s) = v
      · rw [if_pos c, if_pos c]
      · rw [if_neg c, if_neg c]
    have turn : ∀ (k : Nat) (f f' : Int) (rest : List (Int × Int)), wrap64 (f + 1) = f' → letterpressref1_Sci8.l0 k v f' = some (firstOf v rest) → letterpressref1_Sci8.l1 (k + 1) v f 4 = some (firstOf v rest) := by
      intro k f f' rest e h
      simp only [letterpressref1_Sci8.l1]
      rw [if_neg (by decide), e, h]
    have into : ∀ (k : Nat) (f : Int) (rest : List (Int × Int)), f < 2 → letterpressref1_Sci8.l1 k v f 0 = some (firstOf v rest) → letterpressref1_Sci8.l0 (k + 1) v f = some (firstOf v rest) := by
      intro k f rest e h
      simp only [letterpressref1_Sci8.l0]
      rw [if_pos e, h]
    have last : ∀ k : Nat, letterpressref1_Sci8.l0 (k + 1) v 2 = some (firstOf v []) := by
      intro k
      simp only [letterpressref1_Sci8.l0]
      rw [if_neg (by decide)]; rfl
    have w1 : wrap64 (0 + 1) = 1 := by unfold wrap64; omega
    have w2 : wrap64 (1 + 1) = 2 := by unfold wrap64; omega
    unfold sci8 ways
    refine into 19 0 _ (by decide) ?_
    refine step 18 0 0 _ (by decide) (.inl rfl) (by decide) ?_
    refine step 17 0 1 _ (by decide) (.inl rfl) (by decide) ?_
    refine step 16 0 2 _ (by decide) (.inl rfl) (by decide) ?_
    refine step 15 0 3 _ (by decide) (.inl rfl) (by decide) ?_
    refine turn 14 0 1 _ w1 ?_
    refine into 13 1 _ (by decide) ?_
    refine step 12 1 0 _ (by decide) (.inr rfl) (by decide) ?_
    refine step 11 1 1 _ (by decide) (.inr rfl) (by decide) ?_
    refine step 10 1 2 _ (by decide) (.inr rfl) (by decide) ?_
    refine step 9 1 3 _ (by decide) (.inr rfl) (by decide) ?_
    refine turn 8 1 2 _ w2 ?_
    exact last 7
  · rw [decide_eq_false hf, if_neg (by decide), sci8_wide v (by omega)]

/-- What Sci8 tells comes back. -/
theorem firstOf_back (v : Int) : ∀ l : List (Int × Int), (∀ p ∈ l, (p.1 = 0 ∨ p.1 = 1) ∧ 0 ≤ p.2 ∧ p.2 < 4) → (firstOf v l).2.2.2 = true →
    ((firstOf v l).1 = 0 ∨ (firstOf v l).1 = 1) ∧ (0 ≤ (firstOf v l).2.1 ∧ (firstOf v l).2.1 < 4) ∧ (0 ≤ (firstOf v l).2.2.1 ∧ (firstOf v l).2.2.1 < 256) ∧ B (firstOf v l).1 (firstOf v l).2.1 (firstOf v l).2.2.1 = v := by
  intro l
  induction l with
  | nil => intro _ h; cases h
  | cons p l ih =>
    intro hl h
    obtain ⟨f, s⟩ := p
    have hp := hl (f, s) (by simp)
    simp only [firstOf] at h ⊢
    by_cases c : B f s (u0 v s) = v
    · rw [if_pos c]
      exact ⟨hp.1, hp.2, u0_in v s, c⟩
    · rw [if_neg c] at h ⊢
      exact ih (fun p hp => hl p (by simp [hp])) h

theorem sci8_back (v : Int) (h : (sci8 v).2.2.2 = true) : ((sci8 v).1 = 0 ∨ (sci8 v).1 = 1) ∧ (0 ≤ (sci8 v).2.1 ∧ (sci8 v).2.1 < 4) ∧ (0 ≤ (sci8 v).2.2.1 ∧ (sci8 v).2.2.1 < 256) ∧ B (sci8 v).1 (sci8 v).2.1 (sci8 v).2.2.1 = v :=
  firstOf_back v ways (by decide) h
end Go.Proofs.Yteoacclnndbcfaa.X
