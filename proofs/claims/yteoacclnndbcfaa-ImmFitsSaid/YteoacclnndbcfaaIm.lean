/- What the functions of package imm, and of its reference, come to (over the written functions; no program here). -/
import Derived.Test.YteoacclnndbcfaaX1
import Derived.Test.YteoacclnndbcfaaX2
import Derived.Test.YteoacclnndbcfaaA
namespace Go.Proofs.Yteoacclnndbcfaa.X
set_option linter.unusedVariables false
set_option linter.unusedSimpArgs false
open Go.RowKit Go.PA Go.Proofs.YteoacclnndbcfaaW.PrintWords Go.Proofs.YteoacclnndbcfaaW.PrintLast Go.Proofs.YteoacclnndbcfaaW.PrintMore

theorem within_is {a n : Int} (h0 : 0 < n) (h1 : n ≤ 4611686018427387904) : letterpresslaw1_within.f a n = some (a % n) := by
  unfold letterpresslaw1_within.f
  rw [if_neg (by omega)]
  have hd := Int.emod_lt_of_pos a h0
  have hn := Int.emod_nonneg a (show n ≠ 0 by omega)
  have ht := Int.tmod_eq_emod (a := a) (b := n)
  have hn' : (n.natAbs : Int) = n := by omega
  by_cases c : Int.tmod a n < 0
  · rw [if_pos c]
    have e : Int.tmod a n = a % n - n := by
      rw [ht] at c ⊢
      split at c
      · omega
      · rename_i hh; rw [if_neg hh, hn']
    rw [e, wrap64_id (by omega) (by omega)]
    congr 1; omega
  · rw [if_neg c]
    congr 1
    rw [ht] at c ⊢
    split at c
    · rename_i hh; rw [if_pos hh]; simp
    · rw [hn'] at c; omega

/-- A byte's place: f 255 or 0 elsewhere. -/
def bk (f s u i : Int) : Int := if i = s then u else 255 * f
def val4 (f s u : Int) : Int := bk f s u 3 * 16777216 + bk f s u 2 * 65536 + bk f s u 1 * 256 + bk f s u 0
def B (f s u : Int) : Int := sg (val4 f s u) 4294967296

theorem bk_in {f s u : Int} (i : Int) (hf : f = 0 ∨ f = 1) (hu : 0 ≤ u ∧ u < 256) : 0 ≤ bk f s u i ∧ bk f s u i < 256 := by
  unfold bk; split <;> omega

theorem sign_is (v : Int) (b : Nat) (h1 : 1 ≤ b) (h2 : b ≤ 64) : imm_Sign.f v b = some (sg v (2 ^ b)) := by
  unfold imm_Sign.f
  have e : (64 - mn (mx (b : Int) 1) 64).toNat = 64 - b := by unfold mn mx; repeat' split <;> omega
  rw [e, sg_shift v b h1 h2]

theorem sign_is' {v c : Int} {b : Nat} (hc : c = b) (h1 : 1 ≤ b) (h2 : b ≤ 64) : imm_Sign.f v c = some (sg v (2 ^ b)) := by subst hc; exact sign_is v b h1 h2

theorem back_is {f s u : Int} (hf : f = 0 ∨ f = 1) (hs : 0 ≤ s ∧ s < 4) (hu : 0 ≤ u ∧ u < 256) {k : Nat} (hk : 5 ≤ k) : imm_Back.f k f s u = some (B f s u) := by
  refine more (imm_Back.mono f s u) hk ?_
  have hb3 := bk_in (s := s) 3 hf hu
  have hb2 := bk_in (s := s) 2 hf hu
  have hb1 := bk_in (s := s) 1 hf hu
  have hb0 := bk_in (s := s) 0 hf hu
  have step : ∀ (k : Nat) (v i j : Int), i - 1 = j → 0 ≤ i → i < 4 → 0 ≤ v → v < 16777216 → imm_Back.l0 (k + 1) f s u v i = imm_Back.l0 k f s u (v * 256 + bk f s u i) j := by
    intro k v i j hj h0 h1 hv0 hv1
    subst hj
    have hbi := bk_in (s := s) i hf hu
    have e1 : wrap64 (v * 256) = v * 256 := wrap64_id (by omega) (by omega)
    have e2 : wrap64 (i - 1) = i - 1 := wrap64_id (by omega) (by omega)
    have e3 : Go.bits .and .i64 u 255 = u := by rw [and255]; omega
    have e4 : ∀ y, 0 ≤ y → y < 256 → Go.bits .or .i64 (v * 256) y = v * 256 + y := fun y hy0 hy1 => or_join 8 _ _ (by omega) (by omega) (by omega) hy0 (by omega) (by omega)
    simp only [imm_Back.l0]
    rw [if_pos h0, e1, e2, e3]
    unfold bk at hbi ⊢
    rcases hf with rfl | rfl
    · rw [if_neg (by decide)]
      by_cases c : i = s
      · rw [if_pos c, if_pos c, e4 u hu.1 hu.2]
      · rw [if_neg c, if_neg c, e4 0 (by decide) (by decide)]; simp
    · rw [if_pos rfl]
      by_cases c : i = s
      · rw [if_pos c, if_pos c, e4 u hu.1 hu.2]
      · rw [if_neg c, if_neg c, e4 255 (by decide) (by decide)]; simp
  unfold imm_Back.f
  rw [step 4 0 3 2 rfl (by omega) (by omega) (by omega) (by omega), step 3 _ 2 1 rfl (by omega) (by omega) (by omega) (by omega), step 2 _ 1 0 rfl (by omega) (by omega) (by omega) (by omega), step 1 _ 0 (-1) rfl (by omega) (by omega) (by omega) (by omega)]
  simp only [imm_Back.l0]
  rw [if_neg (by decide), sign_is' (c := 32) (b := 32) rfl (by decide) (by decide)]
  simp only [Option.bind_some, B, val4]
  congr 2
  omega

theorem rsign_is (v : Int) (b : Nat) (h1 : 1 ≤ b) (h2 : b ≤ 61) : letterpressref1_Sign.f v b = some (sg v (2 ^ b)) := by
  unfold letterpressref1_Sign.f
  have hp := pow_pos (b - 1)
  have hle : (2 : Int) ^ (b - 1) ≤ 2 ^ 60 := pow_le (by omega)
  have e0 : IntKind.u64.wrap (b : Int) = b := by rw [wrap_u64]; omega
  have e1 : shl .i64 1 (b : Int) = 2 ^ b := by
    unfold shl
    rw [show min ((b : Int).toNat) IntKind.i64.bits = b by simp [IntKind.bits]; omega, i64_wrap, Int.one_mul]
    have := pow_half b h1
    exact wrap64_id (by omega) (by omega)
  rw [e0, e1, if_pos (by omega)]
  have e2 : wrap64 ((2 : Int) ^ b - 1) = 2 ^ b - 1 := by have := pow_half b h1; exact wrap64_id (by omega) (by omega)
  have e3 : wrap64 (Int.tdiv ((2 : Int) ^ b) 2) = 2 ^ (b - 1) := by
    rw [pow_half b h1, Int.tdiv_eq_ediv_of_nonneg (by omega), show 2 * (2 : Int) ^ (b - 1) / 2 = 2 ^ (b - 1) by omega]
    exact wrap64_id (by omega) (by omega)
  rw [e2, e3, and_mask v b (by omega), pow_half b h1, sg_of v _ hp]
  have hr0 : 0 ≤ v % (2 * 2 ^ (b - 1)) := Int.emod_nonneg _ (by omega)
  have hr1 : v % (2 * 2 ^ (b - 1)) < 2 * 2 ^ (b - 1) := Int.emod_lt_of_pos _ (by omega)
  split
  · rw [wrap64_id (by omega) (by omega)]
  · rfl

theorem rsign_is' {v c : Int} {b : Nat} (hc : c = b) (h1 : 1 ≤ b) (h2 : b ≤ 61) : letterpressref1_Sign.f v c = some (sg v (2 ^ b)) := by subst hc; exact rsign_is v b h1 h2

theorem rback_is {f s u : Int} (hf : f = 0 ∨ f = 1) (hs : 0 ≤ s ∧ s < 4) (hu : 0 ≤ u ∧ u < 256) {k : Nat} (hk : 5 ≤ k) : letterpressref1_Back.f k f s u = some (B f s u) := by
  refine more (letterpressref1_Back.mono f s u) hk ?_
  have step : ∀ (k : Nat) (v i j : Int), i - 1 = j → 0 ≤ i → i < 4 → 0 ≤ v → v < 16777216 → letterpressref1_Back.l0 (k + 1) f s u v i = letterpressref1_Back.l0 k f s u (v * 256 + bk f s u i) j := by
    intro k v i j hj h0 h1 hv0 hv1
    subst hj
    have hbi := bk_in (s := s) i hf hu
    have e1 : wrap64 (v * 256) = v * 256 := wrap64_id (by omega) (by omega)
    have e2 : wrap64 (i - 1) = i - 1 := wrap64_id (by omega) (by omega)
    have e3 : wrap64 (255 * f) = 255 * f := wrap64_id (by omega) (by omega)
    have e4 : wrap64 (f * 255) = 255 * f := by rw [Int.mul_comm]; exact e3
    simp only [letterpressref1_Back.l0]
    rw [if_pos h0, e1, e2]
    unfold bk at hbi ⊢
    by_cases c : i = s
    · rw [if_pos c, if_pos c, wrap64_id (by omega) (by omega)]
    · rw [if_neg c, if_neg c]
      first | rw [e3] | rw [e4]
      rw [wrap64_id (by omega) (by omega)]
  have hb3 := bk_in (s := s) 3 hf hu
  have hb2 := bk_in (s := s) 2 hf hu
  have hb1 := bk_in (s := s) 1 hf hu
  have hb0 := bk_in (s := s) 0 hf hu
  unfold letterpressref1_Back.f
  rw [step 4 0 3 2 rfl (by omega) (by omega) (by omega) (by omega), step 3 _ 2 1 rfl (by omega) (by omega) (by omega) (by omega), step 2 _ 1 0 rfl (by omega) (by omega) (by omega) (by omega), step 1 _ 0 (-1) rfl (by omega) (by omega) (by omega) (by omega)]
  simp only [letterpressref1_Back.l0]
  rw [if_neg (by decide), rsign_is' (c := 32) (b := 32) rfl (by decide) (by decide)]
  simp only [Option.bind_some, B, val4]
  congr 2
  omega

/-- The byte of v that could stand at place s. -/
def u0 (v s : Int) : Int := v / 2 ^ (8 * s).toNat % 256

theorem u0_in (v s : Int) : 0 ≤ u0 v s ∧ u0 v s < 256 := by unfold u0; omega

theorem B_inj {f s u v : Int} (hf : f = 0 ∨ f = 1) (hs : 0 ≤ s ∧ s < 4) (hu : 0 ≤ u ∧ u < 256) (h : B f s u = v) : u = u0 v s := by
  have hs' : s = 0 ∨ s = 1 ∨ s = 2 ∨ s = 3 := by omega
  unfold B val4 bk sg at h
  unfold u0
  rcases hs' with rfl | rfl | rfl | rfl <;> rcases hf with rfl | rfl <;> simp at h ⊢ <;> omega

theorem B_wide {f s u : Int} : -2147483648 ≤ B f s u ∧ B f s u < 2147483648 := by unfold B sg; omega

/-- A byte for v by this way of standing; -1: none. -/
def fnd (v f s : Int) : Int := if B f s (u0 v s) = v then u0 v s else -1

theorem found_l (v : Int) {f s : Int} (hf : f = 0 ∨ f = 1) (hs : 0 ≤ s ∧ s < 4) : ∀ (d k : Nat) (x : Int), 0 ≤ x → x + d = 256 → d + 6 ≤ k →
    imm_found__imm_form_of.l0 k v x f s = some (if B f s (u0 v s) = v ∧ x ≤ u0 v s then u0 v s else -1) := by
  have hin := u0_in v s
  intro d
  induction d with
  | zero =>
    intro k x h0 hx hk
    obtain ⟨k, rfl⟩ : ∃ m, k = m + 1 := ⟨k - 1, by omega⟩
    simp only [imm_found__imm_form_of.l0]
    rw [if_neg (by omega), if_neg (by omega)]
  | succ d ih =>
    intro k x h0 hx hk
    obtain ⟨k, rfl⟩ : ∃ m, k = m + 1 := ⟨k - 1, by omega⟩
    simp only [imm_found__imm_form_of.l0, imm_form_of.f]
    rw [if_pos (by omega), back_is hf hs ⟨h0, by omega⟩ (by omega)]
    simp only [Option.bind_some]
    by_cases c : B f s x = v
    · have := B_inj hf hs ⟨h0, by omega⟩ c
      rw [if_pos c, ← this, if_pos ⟨c, Int.le_refl _⟩]
    · rw [if_neg c, wrap64_id (by omega) (by omega), ih k (x + 1) (by omega) (by omega) (by omega)]
      congr 1
      by_cases c2 : B f s (u0 v s) = v ∧ x + 1 ≤ u0 v s
      · rw [if_pos c2, if_pos ⟨c2.1, by omega⟩]
      · rw [if_neg c2, if_neg]
        rintro ⟨a, b⟩
        by_cases e : x = u0 v s
        · rw [← e] at a; exact c a
        · exact c2 ⟨a, by omega⟩

theorem found_is (v : Int) {f s : Int} (hf : f = 0 ∨ f = 1) (hs : 0 ≤ s ∧ s < 4) {k : Nat} (hk : 262 ≤ k) : imm_found__imm_form_of.f k v f s = some (fnd v f s) := by
  unfold imm_found__imm_form_of.f fnd
  rw [found_l v hf hs 256 k 0 (by decide) (by decide) (by omega)]
  have := u0_in v s
  congr 1
  by_cases c : B f s (u0 v s) = v
  · rw [if_pos ⟨c, this.1⟩, if_pos c]
  · rw [if_neg (fun h => c h.1), if_neg c]

/-- The ways, the first first. -/
def ways : List (Int × Int) := [(0, 0), (0, 1), (0, 2), (0, 3), (1, 0), (1, 1), (1, 2), (1, 3)]
def firstOf (v : Int) : List (Int × Int) → Int × Int × Int × Bool
  | [] => (0, 0, 0, false)
  | (f, s) :: l => if B f s (u0 v s) = v then (f, s, u0 v s, true) else firstOf v l
/-- What Sci8 tells. -/
def sci8 (v : Int) : Int × Int × Int × Bool := firstOf v ways

theorem sci8_is (v : Int) {k : Nat} (hk : 300 ≤ k) : imm_Sci8.f k v = some (sci8 v) := by
  refine more (imm_Sci8.mono v) hk ?_
  have step : ∀ (k : Nat) (i : Nat) (f s : Int) (rest : List (Int × Int)), 262 ≤ k → i < 8 → (f = 0 ∨ f = 1) → (0 ≤ s ∧ s < 4) →
      (rd_T39 [⟨0, 0⟩, ⟨0, 1⟩, ⟨0, 2⟩, ⟨0, 3⟩, ⟨1, 0⟩, ⟨1, 1⟩, ⟨1, 2⟩, ⟨1, 3⟩] (i : Int)).f0 = f → (rd_T39 [⟨0, 0⟩, ⟨0, 1⟩, ⟨0, 2⟩, ⟨0, 3⟩, ⟨1, 0⟩, ⟨1, 1⟩, ⟨1, 2⟩, ⟨1, 3⟩] (i : Int)).f1 = s →
      imm_Sci8.l0 k v [⟨0, 0⟩, ⟨0, 1⟩, ⟨0, 2⟩, ⟨0, 3⟩, ⟨1, 0⟩, ⟨1, 1⟩, ⟨1, 2⟩, ⟨1, 3⟩] 8 ((i : Int) + 1) = some (firstOf v rest) →
      imm_Sci8.l0 (k + 1) v [⟨0, 0⟩, ⟨0, 1⟩, ⟨0, 2⟩, ⟨0, 3⟩, ⟨1, 0⟩, ⟨1, 1⟩, ⟨1, 2⟩, ⟨1, 3⟩] 8 (i : Int) = some (firstOf v ((f, s) :: rest)) := by
    intro k i f s rest hk hi hf hs e1 e2 ih
    simp only [imm_Sci8.l0]
    rw [if_pos (by omega), if_pos (by omega), if_pos (by simp; omega), e1, e2, found_is v hf hs hk]
    simp only [Option.bind_some]
    have hin := u0_in v s
    unfold fnd
    simp only [firstOf]
    by_cases c : B f s (u0 v s) = v
    · rw [if_pos c, if_pos hin.1, if_pos c]
    · rw [if_neg c, if_neg (by decide), if_neg c, wrap64_id (by omega) (by omega), ih]
  have hend : ∀ k : Nat, imm_Sci8.l0 (k + 1) v [⟨0, 0⟩, ⟨0, 1⟩, ⟨0, 2⟩, ⟨0, 3⟩, ⟨1, 0⟩, ⟨1, 1⟩, ⟨1, 2⟩, ⟨1, 3⟩] 8 (((7 : Nat) : Int) + 1) = some (firstOf v []) := by
    intro k
    simp only [imm_Sci8.l0]
    rw [if_neg (by decide)]
    rfl
  unfold imm_Sci8.f imm_forms.f
  simp only [Option.bind_some]
  refine step 299 0 0 0 _ (by decide) (by decide) (.inl rfl) (by decide) rfl rfl ?_
  refine step 298 1 0 1 _ (by decide) (by decide) (.inl rfl) (by decide) rfl rfl ?_
  refine step 297 2 0 2 _ (by decide) (by decide) (.inl rfl) (by decide) rfl rfl ?_
  refine step 296 3 0 3 _ (by decide) (by decide) (.inl rfl) (by decide) rfl rfl ?_
  refine step 295 4 1 0 _ (by decide) (by decide) (.inr rfl) (by decide) rfl rfl ?_
  refine step 294 5 1 1 _ (by decide) (by decide) (.inr rfl) (by decide) rfl rfl ?_
  refine step 293 6 1 2 _ (by decide) (by decide) (.inr rfl) (by decide) rfl rfl ?_
  refine step 292 7 1 3 [] (by decide) (by decide) (.inr rfl) (by decide) rfl rfl ?_
  exact hend 291

theorem fits_is (v c : Int) (b : Nat) (hc : c = b) (h1 : 1 ≤ b) (h2 : b ≤ 41) : imm_Fits.f v c = some (decide (-(2 ^ (b - 1)) ≤ v ∧ v < 2 ^ (b - 1))) := by
  subst hc
  unfold imm_Fits.f
  rw [if_pos (by omega), if_pos (by omega), show ((b : Int) - 1).toNat = b - 1 by omega]

theorem rfits_is (v c : Int) (b : Nat) (hc : c = b) (h1 : 1 ≤ b) (h2 : b ≤ 61) : letterpressref1_Fits.f v c = some (decide (-(2 ^ (b - 1)) ≤ v ∧ v < 2 ^ (b - 1))) := by
  subst hc
  have hp := pow_pos (b - 1)
  have hle : (2 : Int) ^ (b - 1) ≤ 2 ^ 60 := pow_le (by omega)
  unfold letterpressref1_Fits.f
  have e0 : IntKind.u64.wrap (wrap64 ((b : Int) - 1)) = ((b - 1 : Nat) : Int) := by rw [wrap64_id (by omega) (by omega), wrap_u64]; omega
  have e1 : shl .i64 1 ((b - 1 : Nat) : Int) = 2 ^ (b - 1) := by
    unfold shl
    rw [show min (((b - 1 : Nat) : Int).toNat) IntKind.i64.bits = b - 1 by simp [IntKind.bits]; omega, i64_wrap, Int.one_mul]
    exact wrap64_id (by omega) (by omega)
  rw [e0, e1, if_pos (by omega)]
  rw [wrap64_id (by omega) (by omega)]
  by_cases c : v ≥ -(2 : Int) ^ (b - 1)
  · rw [if_pos c]; congr 1; simp [c]
  · rw [if_neg c]; congr 1; symm; simp; intro h; omega

theorem known_is {k : Nat} (hk : 300 ≤ k) : letterpresslaw1_known.f k = some true := by
  unfold letterpresslaw1_known.f imm_Split.f imm_Joined.f
  rw [sci8_is _ hk, show sci8 256 = (0, 1, 1, true) by decide +kernel]
  simp only [Option.bind_some]
  rw [back_is (.inl rfl) (by decide) (by decide) (by omega), fits_is 127 8 8 rfl (by decide) (by decide), fits_is 128 8 8 rfl (by decide) (by decide), sign_is' (c := 8) (b := 8) rfl (by decide) (by decide)]
  rw [sign_is' (c := 20) (b := 20) rfl (by decide) (by decide)]
  simp only [and15, and31, and2047]
  decide +kernel

/-- The first way, of a number that has one: the later of two tells the same number. -/
theorem sci8_of {f s u : Int} (hf : f = 0 ∨ f = 1) (hs : 0 ≤ s ∧ s < 4) (hu : 0 ≤ u ∧ u < 256) :
    (sci8 (B f s u)).2.2.2 = true ∧ ((sci8 (B f s u)).1 = 0 ∨ (sci8 (B f s u)).1 = 1) ∧ (0 ≤ (sci8 (B f s u)).2.1 ∧ (sci8 (B f s u)).2.1 < 4) ∧ (0 ≤ (sci8 (B f s u)).2.2.1 ∧ (sci8 (B f s u)).2.2.1 < 256) ∧
      ((sci8 (B f s u)).1 < f ∨ (sci8 (B f s u)).1 = f ∧ (sci8 (B f s u)).2.1 ≤ s) ∧ B (sci8 (B f s u)).1 (sci8 (B f s u)).2.1 (sci8 (B f s u)).2.2.1 = B f s u := by
  have hi := B_inj hf hs hu rfl
  have key : B f s (u0 (B f s u) s) = B f s u := by rw [← hi]
  generalize B f s u = v at *
  have h0 := u0_in v 0
  have h1 := u0_in v 1
  have h2 := u0_in v 2
  have h3 := u0_in v 3
  have hs' : s = 0 ∨ s = 1 ∨ s = 2 ∨ s = 3 := by omega
  unfold sci8 ways
  simp only [firstOf]
  by_cases c0 : B 0 0 (u0 v 0) = v
  · rw [if_pos c0]; exact ⟨rfl, .inl rfl, (by dsimp only; decide), h0, by simp; omega, c0⟩
  rw [if_neg c0]
  by_cases c1 : B 0 1 (u0 v 1) = v
  · rw [if_pos c1]; refine ⟨rfl, .inl rfl, (by dsimp only; decide), h1, ?_, c1⟩
    rcases hf with rfl | rfl <;> rcases hs' with rfl | rfl | rfl | rfl <;> simp_all
  rw [if_neg c1]
  by_cases c2 : B 0 2 (u0 v 2) = v
  · rw [if_pos c2]; refine ⟨rfl, .inl rfl, (by dsimp only; decide), h2, ?_, c2⟩
    rcases hf with rfl | rfl <;> rcases hs' with rfl | rfl | rfl | rfl <;> simp_all
  rw [if_neg c2]
  by_cases c3 : B 0 3 (u0 v 3) = v
  · rw [if_pos c3]; refine ⟨rfl, .inl rfl, (by dsimp only; decide), h3, ?_, c3⟩
    rcases hf with rfl | rfl <;> rcases hs' with rfl | rfl | rfl | rfl <;> simp_all
  rw [if_neg c3]
  by_cases c4 : B 1 0 (u0 v 0) = v
  · rw [if_pos c4]; refine ⟨rfl, .inr rfl, (by dsimp only; decide), h0, ?_, c4⟩
    rcases hf with rfl | rfl <;> rcases hs' with rfl | rfl | rfl | rfl <;> simp_all
  rw [if_neg c4]
  by_cases c5 : B 1 1 (u0 v 1) = v
  · rw [if_pos c5]; refine ⟨rfl, .inr rfl, (by dsimp only; decide), h1, ?_, c5⟩
    rcases hf with rfl | rfl <;> rcases hs' with rfl | rfl | rfl | rfl <;> simp_all
  rw [if_neg c5]
  by_cases c6 : B 1 2 (u0 v 2) = v
  · rw [if_pos c6]; refine ⟨rfl, .inr rfl, (by dsimp only; decide), h2, ?_, c6⟩
    rcases hf with rfl | rfl <;> rcases hs' with rfl | rfl | rfl | rfl <;> simp_all
  rw [if_neg c6]
  by_cases c7 : B 1 3 (u0 v 3) = v
  · rw [if_pos c7]; refine ⟨rfl, .inr rfl, (by dsimp only; decide), h3, ?_, c7⟩
    rcases hf with rfl | rfl <;> rcases hs' with rfl | rfl | rfl | rfl <;> simp_all
  exfalso
  rcases hf with rfl | rfl <;> rcases hs' with rfl | rfl | rfl | rfl <;> simp_all

theorem joined_is {h m l : Int} (h0 : 0 ≤ h ∧ h < 16) (h1 : 0 ≤ m ∧ m < 32) (h2 : 0 ≤ l ∧ l < 2048) : imm_Joined.f h m l = some (sg (h * 65536 + m * 2048 + l) 1048576) := by
  unfold imm_Joined.f
  rw [wrap64_id (by omega) (by omega), wrap64_id (by omega) (by omega), or_join 16 (h * 65536) (m * 2048) (by omega) (by omega) (by omega) (by omega) (by omega) (by omega), or_join 11 (h * 65536 + m * 2048) l (by omega) (by omega) (by omega) (by omega) (by omega) (by omega), sign_is' (c := 20) (b := 20) rfl (by decide) (by decide)]
  rfl
end Go.Proofs.Yteoacclnndbcfaa.X
