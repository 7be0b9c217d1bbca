/- IsaReach: part 4: the written functions, their contracts, and what is said of them. -/
import Derived.Test.YticofbaajdgabaaDoorZIsaReach3
import Derived.Laws.Strings
import Derived.Test.YticofbaajdgabaaDoorRows
import Derived.LaidMore
import Derived.ProofKit
import Derived.OpenShut
import Derived.Stop.Joined
import Derived.Test.YticofbaajdgabaaDoorTie
import Derived.Test.YticofbaajdgabaaDoorCards
import Derived.SevenTiedAt
import Derived.Handed
import Derived.ShutString
import Derived.ChangeOld
import Derived.SizedLaws
set_option linter.unusedVariables false
set_option linter.unusedSimpArgs false
namespace Go.PA
open Go.RowKit Go.Proofs.YticofbaajdgabaaDoorW.PrintMore Go.Proofs.YticofbaajdgabaaDoorW.PrintWords
theorem wrap_u64 (n : Int) : IntKind.u64.wrap n = n % 18446744073709551616 := by simp [IntKind.wrap, IntKind.bits, IntKind.signed]
theorem wrap64_id {n : Int} (h0 : -9223372036854775808 ≤ n) (h1 : n < 9223372036854775808) : wrap64 n = n := by unfold wrap64; omega
theorem i64_wrap (n : Int) : IntKind.i64.wrap n = wrap64 n := by rw [IntKind.wrap_i64]; unfold wrap64; rfl
/-- 'a & (2^j - 1)', of any int. -/
theorem and_mask (a : Int) (j : Nat) (hj : j ≤ 62) : bits .and .i64 a (2 ^ j - 1) = a % 2 ^ j := by
  have hp : (1 : Int) ≤ 2 ^ j := by have := Nat.two_pow_pos j; exact_mod_cast this
  have hlt : (2 : Nat) ^ j ≤ 2 ^ 62 := Nat.pow_le_pow_right (by decide) hj
  have hc : ((2 : Int) ^ j - 1) = ((2 ^ j - 1 : Nat) : Int) := by rw [Int.natCast_sub (Nat.two_pow_pos j)]; simp
  have hnn : 0 ≤ a % 2 ^ j := Int.emod_nonneg _ (by omega)
  have hl : a % 2 ^ j < 2 ^ j := Int.emod_lt_of_pos _ (by omega)
  have hm : ((2 ^ j - 1 : Nat)) % 2 ^ 64 = 2 ^ j - 1 := Nat.mod_eq_of_lt (by have := Nat.two_pow_pos j; omega)
  have h64 : (2 : Int) ^ j ∣ 2 ^ 64 := ⟨2 ^ (64 - j), by rw [← Int.pow_add, show j + (64 - j) = 64 by omega]⟩
  rw [show bits .and .i64 a (2 ^ j - 1) = IntKind.i64.wrap ((BitVec.ofInt 64 a &&& BitVec.ofInt 64 (2 ^ j - 1)).toNat : Int) from rfl]
  rw [hc, BitVec.ofInt_natCast, BitVec.toNat_and, BitVec.toNat_ofNat, hm, BitVec.toNat_ofInt, Nat.and_two_pow_sub_one_eq_mod, i64_wrap]
  have e : (((a % ((2 ^ 64 : Nat) : Int)).toNat % 2 ^ j : Nat) : Int) = a % 2 ^ j := by
    rw [Int.natCast_emod, Int.toNat_of_nonneg (Int.emod_nonneg _ (by decide))]
    rw [show (((2 : Nat) ^ j : Nat) : Int) = 2 ^ j by simp, show (((2 : Nat) ^ 64 : Nat) : Int) = 2 ^ 64 by decide]
    exact Int.emod_emod_of_dvd a h64
  rw [e]
  have : (2 : Int) ^ j ≤ 2 ^ 62 := by exact_mod_cast hlt
  exact wrap64_id (by omega) (by omega)
theorem and15 (a : Int) : bits .and .i64 a 15 = a % 16 := and_mask a 4 (by decide)
theorem and31 (a : Int) : bits .and .i64 a 31 = a % 32 := and_mask a 5 (by decide)
theorem and255 (a : Int) : bits .and .i64 a 255 = a % 256 := and_mask a 8 (by decide)
theorem and2047 (a : Int) : bits .and .i64 a 2047 = a % 2048 := and_mask a 11 (by decide)
theorem wraps_i64 (n : Int) (h0 : 0 ≤ n) (h1 : n < 2 ^ 62) : IntKind.i64.wrap n = n := by rw [i64_wrap]; exact wrap64_id (by omega) (by omega)
/-- 'x | y' where y lies below x's lowest bit. -/
theorem or_join (i : Nat) (x y : Int) (hx0 : 0 ≤ x) (hx : x % 2 ^ i = 0) (hx1 : x < 4611686018427387904) (hy0 : 0 ≤ y) (hy : y < 2 ^ i) (hy1 : y < 4611686018427387904) : bits .or .i64 x y = x + y :=
  bits_join .i64 62 (by decide) wraps_i64 i x y hx0 hx (by omega) hy0 hy (by omega)
/-- The number that the lowest bits of v are, with a sign; m = 2 ^ bits. -/
def sg (v m : Int) : Int := (v + m / 2) % m - m / 2
theorem sg_of (v h : Int) (hh : 0 < h) : sg v (2 * h) = if v % (2 * h) ≥ h then v % (2 * h) - 2 * h else v % (2 * h) := by
  have hr0 : 0 ≤ v % (2 * h) := Int.emod_nonneg _ (by omega)
  have hr1 : v % (2 * h) < 2 * h := Int.emod_lt_of_pos _ (by omega)
  have hd := Int.emod_add_mul_ediv v (2 * h)
  unfold sg
  rw [show 2 * h / 2 = h by omega]
  generalize v % (2 * h) = r at *
  generalize v / (2 * h) = q at *
  subst hd
  by_cases c : r ≥ h
  · rw [if_pos c, show r + 2 * h * q + h = (r + h - 2 * h) + 2 * h * (q + 1) by rw [Int.mul_add]; omega, Int.add_mul_emod_self_left, Int.emod_eq_of_lt (by omega) (by omega)]; omega
  · rw [if_neg c, show r + 2 * h * q + h = (r + h) + 2 * h * q by omega, Int.add_mul_emod_self_left, Int.emod_eq_of_lt (by omega) (by omega)]; omega
theorem pow_half (b : Nat) (hb : 1 ≤ b) : (2 : Int) ^ b = 2 * 2 ^ (b - 1) := by
  obtain ⟨c, rfl⟩ : ∃ c, b = c + 1 := ⟨b - 1, by omega⟩
  rw [Int.pow_succ]; simp; omega
theorem pow_pos (b : Nat) : (0 : Int) < 2 ^ b := Int.pow_pos (by decide)
theorem pow_le {a b : Nat} (h : a ≤ b) : (2 : Int) ^ a ≤ 2 ^ b := by exact_mod_cast Nat.pow_le_pow_right (n := 2) (by decide) h
/-- imm.Sign's own way. -/
theorem sg_shift (v : Int) (b : Nat) (h1 : 1 ≤ b) (h2 : b ≤ 64) : wrap64 (v * 2 ^ (64 - b)) / 2 ^ (64 - b) = sg v (2 ^ b) := by
  have hc : (0 : Int) < 2 ^ (64 - b) := pow_pos _
  have hm : (2 : Int) ^ (64 - b) * 2 ^ b = 18446744073709551616 := by rw [← Int.pow_add, show 64 - b + b = 64 by omega]; decide
  have hh : (2 : Int) ^ b / 2 = 2 ^ (b - 1) := by rw [pow_half b h1]; omega
  have hm2 : (2 : Int) ^ (64 - b) * 2 ^ (b - 1) = 9223372036854775808 := by rw [← Int.pow_add, show 64 - b + (b - 1) = 63 by omega]; decide
  unfold wrap64 sg
  rw [hh, ← hm2, ← hm]
  generalize (2 : Int) ^ (64 - b) = c at *
  generalize (2 : Int) ^ b = m at *
  generalize (2 : Int) ^ (b - 1) = h at *
  rw [Int.mul_comm v c, ← Int.mul_add, Int.mul_emod_mul_of_pos _ _ hc, ← Int.mul_sub, Int.mul_ediv_cancel_left _ (by omega)]
/-- More rounds tell the same. -/
theorem more {α : Type} {g : Nat → Option α} (hm : ∀ k, LeO (g k) (g (k + 1))) {k k' : Nat} (h : k ≤ k') {r : α} (e : g k = some r) : g k' = some r := by
  obtain ⟨d, rfl⟩ : ∃ d, k' = k + d := ⟨k' - k, by omega⟩
  clear h
  induction d with
  | zero => exact e
  | succ d ih => exact hm _ _ ih
end Go.PA

namespace Go.Proofs.YticofbaajdgabaaDoor.X
set_option linter.unusedVariables false
set_option linter.unusedSimpArgs false
open Go.RowKit Go.PA Go.Proofs.YticofbaajdgabaaDoorW.PrintWords Go.Proofs.YticofbaajdgabaaDoorW.PrintLast Go.Proofs.YticofbaajdgabaaDoorW.PrintMore
/-- A byte's place: f 255 or 0 elsewhere. -/
def bk (f s u i : Int) : Int := if i = s then u else 255 * f
def val4 (f s u : Int) : Int := bk f s u 3 * 16777216 + bk f s u 2 * 65536 + bk f s u 1 * 256 + bk f s u 0
def B (f s u : Int) : Int := sg (val4 f s u) 4294967296
theorem bk_in {f s u : Int} (i : Int) (hf : f = 0 ∨ f = 1) (hu : 0 ≤ u ∧ u < 256) : 0 ≤ bk f s u i ∧ bk f s u i < 256 := by
  unfold bk; split <;> omega
theorem sign_is (v : Int) (b : Nat) (h1 : 1 ≤ b) (h2 : b ≤ 64) : imm_Sign.f v b = some (sg v (2 ^ b)) := by
  unfold imm_Sign.f
  have e : (64 - mn (mx (b : Int) 1) 64).toNat = 64 - b := by unfold mn mx; repeat' split <;> omega
  rw [e, sg_shift v b h1 h2]
theorem sign_is' {v c : Int} {b : Nat} (hc : c = b) (h1 : 1 ≤ b) (h2 : b ≤ 64) : imm_Sign.f v c = some (sg v (2 ^ b)) := by subst hc; exact sign_is v b h1 h2
theorem back_is {f s u : Int} (hf : f = 0 ∨ f = 1) (hs : 0 ≤ s ∧ s < 4) (hu : 0 ≤ u ∧ u < 256) {k : Nat} (hk : 5 ≤ k) : imm_Back.f k f s u = some (B f s u) := by
  refine more (imm_Back.mono f s u) hk ?_
  have hb3 := bk_in (s := s) 3 hf hu
  have hb2 := bk_in (s := s) 2 hf hu
  have hb1 := bk_in (s := s) 1 hf hu
  have hb0 := bk_in (s := s) 0 hf hu
  have step : ∀ (k : Nat) (v i j : Int), i - 1 = j → 0 ≤ i → i < 4 → 0 ≤ v → v < 16777216 → imm_Back.l0 (k + 1) f s u v i = imm_Back.l0 k f s u (v * 256 + bk f s u i) j := by
    intro k v i j hj h0 h1 hv0 hv1
    subst hj
    have hbi := bk_in (s := s) i hf hu
    have e1 : wrap64 (v * 256) = v * 256 := wrap64_id (by omega) (by omega)
    have e2 : wrap64 (i - 1) = i - 1 := wrap64_id (by omega) (by omega)
    have e3 : Go.bits .and .i64 u 255 = u := by rw [and255]; omega
    have e4 : ∀ y, 0 ≤ y → y < 256 → Go.bits .or .i64 (v * 256) y = v * 256 + y := fun y hy0 hy1 => or_join 8 _ _ (by omega) (by omega) (by omega) hy0 (by omega) (by omega)
    simp only [imm_Back.l0]
    rw [if_pos h0, e1, e2, e3]
    unfold bk at hbi ⊢
    rcases hf with rfl | rfl
    · rw [if_neg (by decide)]
      by_cases c : i = s
      · rw [if_pos c, if_pos c, e4 u hu.1 hu.2]
      · rw [if_neg c, if_neg c, e4 0 (by decide) (by decide)]; simp
    · rw [if_pos rfl]
      by_cases c : i = s
      · rw [if_pos c, if_pos c, e4 u hu.1 hu.2]
      · rw [if_neg c, if_neg c, e4 255 (by decide) (by decide)]; simp
  unfold imm_Back.f
  rw [step 4 0 3 2 rfl (by omega) (by omega) (by omega) (by omega), step 3 _ 2 1 rfl (by omega) (by omega) (by omega) (by omega), step 2 _ 1 0 rfl (by omega) (by omega) (by omega) (by omega), step 1 _ 0 (-1) rfl (by omega) (by omega) (by omega) (by omega)]
  simp only [imm_Back.l0]
  rw [if_neg (by decide), sign_is' (c := 32) (b := 32) rfl (by decide) (by decide)]
  simp only [Option.bind_some, B, val4]
  congr 2
  omega
theorem rsign_is (v : Int) (b : Nat) (h1 : 1 ≤ b) (h2 : b ≤ 61) : letterpressref1_Sign.f v b = some (sg v (2 ^ b)) := by
  unfold letterpressref1_Sign.f
  have hp := pow_pos (b - 1)
  have hle : (2 : Int) ^ (b - 1) ≤ 2 ^ 60 := pow_le (by omega)
  have e0 : IntKind.u64.wrap (b : Int) = b := by rw [wrap_u64]; omega
  have e1 : shl .i64 1 (b : Int) = 2 ^ b := by
    unfold shl
    rw [show min ((b : Int).toNat) IntKind.i64.bits = b by simp [IntKind.bits]; omega, i64_wrap, Int.one_mul]
    have := pow_half b h1
    exact wrap64_id (by omega) (by omega)
  rw [e0, e1, if_pos (by omega)]
  have e2 : wrap64 ((2 : Int) ^ b - 1) = 2 ^ b - 1 := by have := pow_half b h1; exact wrap64_id (by omega) (by omega)
  have e3 : wrap64 (Int.tdiv ((2 : Int) ^ b) 2) = 2 ^ (b - 1) := by
    rw [pow_half b h1, Int.tdiv_eq_ediv_of_nonneg (by omega), show 2 * (2 : Int) ^ (b - 1) / 2 = 2 ^ (b - 1) by omega]
    exact wrap64_id (by omega) (by omega)
  rw [e2, e3, and_mask v b (by omega), pow_half b h1, sg_of v _ hp]
  have hr0 : 0 ≤ v % (2 * 2 ^ (b - 1)) := Int.emod_nonneg _ (by omega)
  have hr1 : v % (2 * 2 ^ (b - 1)) < 2 * 2 ^ (b - 1) := Int.emod_lt_of_pos _ (by omega)
  split
  · rw [wrap64_id (by omega) (by omega)]
  · rfl
theorem rsign_is' {v c : Int} {b : Nat} (hc : c = b) (h1 : 1 ≤ b) (h2 : b ≤ 61) : letterpressref1_Sign.f v c = some (sg v (2 ^ b)) := by subst hc; exact rsign_is v b h1 h2
theorem rback_is {f s u : Int} (hf : f = 0 ∨ f = 1) (hs : 0 ≤ s ∧ s < 4) (hu : 0 ≤ u ∧ u < 256) {k : Nat} (hk : 5 ≤ k) : letterpressref1_Back.f k f s u = some (B f s u) := by
  refine more (letterpressref1_Back.mono f s u) hk ?_
  have step : ∀ (k : Nat) (v i j : Int), i - 1 = j → 0 ≤ i → i < 4 → 0 ≤ v → v < 16777216 → letterpressref1_Back.l0 (k + 1) f s u v i = letterpressref1_Back.l0 k f s u (v * 256 + bk f s u i) j := by
    intro k v i j hj h0 h1 hv0 hv1
    subst hj
    have hbi := bk_in (s := s) i hf hu
    have e1 : wrap64 (v * 256) = v * 256 := wrap64_id (by omega) (by omega)
    have e2 : wrap64 (i - 1) = i - 1 := wrap64_id (by omega) (by omega)
    have e3 : wrap64 (255 * f) = 255 * f := wrap64_id (by omega) (by omega)
    have e4 : wrap64 (f * 255) = 255 * f := by rw [Int.mul_comm]; exact e3
    simp only [letterpressref1_Back.l0]
    rw [if_pos h0, e1, e2]
    unfold bk at hbi ⊢
    by_cases c : i = s
    · rw [if_pos c, if_pos c, wrap64_id (by omega) (by omega)]
    · rw [if_neg c, if_neg c]
      first | rw [e3] | rw [e4]
      rw [wrap64_id (by omega) (by omega)]
  have hb3 := bk_in (s := s) 3 hf hu
  have hb2 := bk_in (s := s) 2 hf hu
  have hb1 := bk_in (s := s) 1 hf hu
  have hb0 := bk_in (s := s) 0 hf hu
  unfold letterpressref1_Back.f
  rw [step 4 0 3 2 rfl (by omega) (by omega) (by omega) (by omega), step 3 _ 2 1 rfl (by omega) (by omega) (by omega) (by omega), step 2 _ 1 0 rfl (by omega) (by omega) (by omega) (by omega), step 1 _ 0 (-1) rfl (by omega) (by omega) (by omega) (by omega)]
  simp only [letterpressref1_Back.l0]
  rw [if_neg (by decide), rsign_is' (c := 32) (b := 32) rfl (by decide) (by decide)]
  simp only [Option.bind_some, B, val4]
  congr 2
  omega
/-- The byte of v that could stand at place s. -/
def u0 (v s : Int) : Int := v / 2 ^ (8 * s).toNat % 256
theorem u0_in (v s : Int) : 0 ≤ u0 v s ∧ u0 v s < 256 := by unfold u0; omega
theorem B_inj {f s u v : Int} (hf : f = 0 ∨ f = 1) (hs : 0 ≤ s ∧ s < 4) (hu : 0 ≤ u ∧ u < 256) (h : B f s u = v) : u = u0 v s := by
  have hs' : s = 0 ∨ s = 1 ∨ s = 2 ∨ s = 3 := by omega
  unfold B val4 bk sg at h
  unfold u0
  rcases hs' with rfl | rfl | rfl | rfl <;> rcases hf with rfl | rfl <;> simp at h ⊢ <;> omega
theorem B_wide {f s u : Int} : -2147483648 ≤ B f s u ∧ B f s u < 2147483648 := by unfold B sg; omega
/-- A byte for v by this way of standing; -1: none. -/
def fnd (v f s : Int) : Int := if B f s (u0 v s) = v then u0 v s else -1
theorem found_l (v : Int) {f s : Int} (hf : f = 0 ∨ f = 1) (hs : 0 ≤ s ∧ s < 4) : ∀ (d k : Nat) (x : Int), 0 ≤ x → x + d = 256 → d + 6 ≤ k →
    imm_found__imm_form_of.l0 k v x f s = some (if B f s (u0 v s) = v ∧ x ≤ u0 v s then u0 v s else -1) := by
  have hin := u0_in v s
  intro d
  induction d with
  | zero =>
    intro k x h0 hx hk
    obtain ⟨k, rfl⟩ : ∃ m, k = m + 1 := ⟨k - 1, by omega⟩
    simp only [imm_found__imm_form_of.l0]
    rw [if_neg (by omega), if_neg (by omega)]
  | succ d ih =>
    intro k x h0 hx hk
    obtain ⟨k, rfl⟩ : ∃ m, k = m + 1 := ⟨k - 1, by omega⟩
    simp only [imm_found__imm_form_of.l0, imm_form_of.f]
    rw [if_pos (by omega), back_is hf hs ⟨h0, by omega⟩ (by omega)]
    simp only [Option.bind_some]
    by_cases c : B f s x = v
    · have := B_inj hf hs ⟨h0, by omega⟩ c
      rw [if_pos c, ← this, if_pos ⟨c, Int.le_refl _⟩]
    · rw [if_neg c, wrap64_id (by omega) (by omega), ih k (x + 1) (by omega) (by omega) (by omega)]
      congr 1
      by_cases c2 : B f s (u0 v s) = v ∧ x + 1 ≤ u0 v s
      · rw [if_pos c2, if_pos ⟨c2.1, by omega⟩]
      · rw [if_neg c2, if_neg]
        rintro ⟨a, b⟩
        by_cases e : x = u0 v s
        · rw [← e] at a; exact c a
        · exact c2 ⟨a, by omega⟩
theorem found_is (v : Int) {f s : Int} (hf : f = 0 ∨ f = 1) (hs : 0 ≤ s ∧ s < 4) {k : Nat} (hk : 262 ≤ k) : imm_found__imm_form_of.f k v f s = some (fnd v f s) := by
  unfold imm_found__imm_form_of.f fnd
  rw [found_l v hf hs 256 k 0 (by decide) (by decide) (by omega)]
  have := u0_in v s
  congr 1
  by_cases c : B f s (u0 v s) = v
  · rw [if_pos ⟨c, this.1⟩, if_pos c]
  · rw [if_neg (fun h => c h.1), if_neg c]
/-- The ways, the first first. -/
def ways : List (Int × Int) := [(0, 0), (0, 1), (0, 2), (0, 3), (1, 0), (1, 1), (1, 2), (1, 3)]
def firstOf (v : Int) : List (Int × Int) → Int × Int × Int × Bool
  | [] => (0, 0, 0, false)
  | (f, s) :: l => if B f s (u0 v s) = v then (f, s, u0 v s, true) else firstOf v l
/-- What Sci8 tells. -/
def sci8 (v : Int) : Int × Int × Int × Bool := firstOf v ways
theorem sci8_is (v : Int) {k : Nat} (hk : 300 ≤ k) : imm_Sci8.f k v = some (sci8 v) := by
  refine more (imm_Sci8.mono v) hk ?_
  have step : ∀ (k : Nat) (i : Nat) (f s : Int) (rest : List (Int × Int)), 262 ≤ k → i < 8 → (f = 0 ∨ f = 1) → (0 ≤ s ∧ s < 4) →
      (rd_T110 [⟨0, 0⟩, ⟨0, 1⟩, ⟨0, 2⟩, ⟨0, 3⟩, ⟨1, 0⟩, ⟨1, 1⟩, ⟨1, 2⟩, ⟨1, 3⟩] (i : Int)).f0 = f → (rd_T110 [⟨0, 0⟩, ⟨0, 1⟩, ⟨0, 2⟩, ⟨0, 3⟩, ⟨1, 0⟩, ⟨1, 1⟩, ⟨1, 2⟩, ⟨1, 3⟩] (i : Int)).f1 = s →
      imm_Sci8.l0 k v [⟨0, 0⟩, ⟨0, 1⟩, ⟨0, 2⟩, ⟨0, 3⟩, ⟨1, 0⟩, ⟨1, 1⟩, ⟨1, 2⟩, ⟨1, 3⟩] 8 ((i : Int) + 1) = some (firstOf v rest) →
      imm_Sci8.l0 (k + 1) v [⟨0, 0⟩, ⟨0, 1⟩, ⟨0, 2⟩, ⟨0, 3⟩, ⟨1, 0⟩, ⟨1, 1⟩, ⟨1, 2⟩, ⟨1, 3⟩] 8 (i : Int) = some (firstOf v ((f, s) :: rest)) := by
    intro k i f s rest hk hi hf hs e1 e2 ih
    simp only [imm_Sci8.l0]
    rw [if_pos (by omega), if_pos (by omega), if_pos (by simp; omega), e1, e2, found_is v hf hs hk]
    simp only [Option.bind_some]
    have hin := u0_in v s
    unfold fnd
    simp only [firstOf]
    by_cases c : B f s (u0 v s) = v
    · rw [if_pos c, if_pos hin.1, if_pos c]
    · rw [if_neg c, if_neg (by decide), if_neg c, wrap64_id (by omega) (by omega), ih]
  have hend : ∀ k : Nat, imm_Sci8.l0 (k + 1) v [⟨0, 0⟩, ⟨0, 1⟩, ⟨0, 2⟩, ⟨0, 3⟩, ⟨1, 0⟩, ⟨1, 1⟩, ⟨1, 2⟩, ⟨1, 3⟩] 8 (((7 : Nat) : Int) + 1) = some (firstOf v []) := by
    intro k
    simp only [imm_Sci8.l0]
    rw [if_neg (by decide)]
    rfl
  unfold imm_Sci8.f imm_forms.f
  simp only [Option.bind_some]
  refine step 299 0 0 0 _ (by decide) (by decide) (.inl rfl) (by decide) rfl rfl ?_
  refine step 298 1 0 1 _ (by decide) (by decide) (.inl rfl) (by decide) rfl rfl ?_
  refine step 297 2 0 2 _ (by decide) (by decide) (.inl rfl) (by decide) rfl rfl ?_
  refine step 296 3 0 3 _ (by decide) (by decide) (.inl rfl) (by decide) rfl rfl ?_
  refine step 295 4 1 0 _ (by decide) (by decide) (.inr rfl) (by decide) rfl rfl ?_
  refine step 294 5 1 1 _ (by decide) (by decide) (.inr rfl) (by decide) rfl rfl ?_
  refine step 293 6 1 2 _ (by decide) (by decide) (.inr rfl) (by decide) rfl rfl ?_
  refine step 292 7 1 3 [] (by decide) (by decide) (.inr rfl) (by decide) rfl rfl ?_
  exact hend 291
theorem fits_is (v c : Int) (b : Nat) (hc : c = b) (h1 : 1 ≤ b) (h2 : b ≤ 41) : imm_Fits.f v c = some (decide (-(2 ^ (b - 1)) ≤ v ∧ v < 2 ^ (b - 1))) := by
  subst hc
  unfold imm_Fits.f
  rw [if_pos (by omega), if_pos (by omega), show ((b : Int) - 1).toNat = b - 1 by omega]
theorem rfits_is (v c : Int) (b : Nat) (hc : c = b) (h1 : 1 ≤ b) (h2 : b ≤ 61) : letterpressref1_Fits.f v c = some (decide (-(2 ^ (b - 1)) ≤ v ∧ v < 2 ^ (b - 1))) := by
  subst hc
  have hp := pow_pos (b - 1)
  have hle : (2 : Int) ^ (b - 1) ≤ 2 ^ 60 := pow_le (by omega)
  unfold letterpressref1_Fits.f
  have e0 : IntKind.u64.wrap (wrap64 ((b : Int) - 1)) = ((b - 1 : Nat) : Int) := by rw [wrap64_id (by omega) (by omega), wrap_u64]; omega
  have e1 : shl .i64 1 ((b - 1 : Nat) : Int) = 2 ^ (b - 1) := by
    unfold shl
    rw [show min (((b - 1 : Nat) : Int).toNat) IntKind.i64.bits = b - 1 by simp [IntKind.bits]; omega, i64_wrap, Int.one_mul]
    exact wrap64_id (by omega) (by omega)
  rw [e0, e1, if_pos (by omega)]
  rw [wrap64_id (by omega) (by omega)]
  by_cases c : v ≥ -(2 : Int) ^ (b - 1)
  · rw [if_pos c]; congr 1; simp [c]
  · rw [if_neg c]; congr 1; symm; simp; intro h; omega
theorem joined_is {h m l : Int} (h0 : 0 ≤ h ∧ h < 16) (h1 : 0 ≤ m ∧ m < 32) (h2 : 0 ≤ l ∧ l < 2048) : imm_Joined.f h m l = some (sg (h * 65536 + m * 2048 + l) 1048576) := by
  unfold imm_Joined.f
  rw [wrap64_id (by omega) (by omega), wrap64_id (by omega) (by omega), or_join 16 (h * 65536) (m * 2048) (by omega) (by omega) (by omega) (by omega) (by omega) (by omega), or_join 11 (h * 65536 + m * 2048) l (by omega) (by omega) (by omega) (by omega) (by omega) (by omega), sign_is' (c := 20) (b := 20) rfl (by decide) (by decide)]
  rfl
end Go.Proofs.YticofbaajdgabaaDoor.X

namespace Go.Proofs.YticofbaajdgabaaDoor.X
set_option linter.unusedVariables false
set_option linter.unusedSimpArgs false
open Go.RowKit Go.PA Go.Proofs.YticofbaajdgabaaDoorW.PrintWords Go.Proofs.YticofbaajdgabaaDoorW.PrintLast Go.Proofs.YticofbaajdgabaaDoorW.PrintMore
/-- What Sci8 tells comes back. -/
theorem firstOf_back (v : Int) : ∀ l : List (Int × Int), (∀ p ∈ l, (p.1 = 0 ∨ p.1 = 1) ∧ 0 ≤ p.2 ∧ p.2 < 4) → (firstOf v l).2.2.2 = true →
    ((firstOf v l).1 = 0 ∨ (firstOf v l).1 = 1) ∧ (0 ≤ (firstOf v l).2.1 ∧ (firstOf v l).2.1 < 4) ∧ (0 ≤ (firstOf v l).2.2.1 ∧ (firstOf v l).2.2.1 < 256) ∧ B (firstOf v l).1 (firstOf v l).2.1 (firstOf v l).2.2.1 = v := by
  intro l
  induction l with
  | nil => intro _ h; cases h
  | cons p l ih =>
    intro hl h
    obtain ⟨f, s⟩ := p
    have hp := hl (f, s) (by simp)
    simp only [firstOf] at h ⊢
    by_cases c : B f s (u0 v s) = v
    · rw [if_pos c]
      exact ⟨hp.1, hp.2, u0_in v s, c⟩
    · rw [if_neg c] at h ⊢
      exact ih (fun p hp => hl p (by simp [hp])) h
theorem sci8_back (v : Int) (h : (sci8 v).2.2.2 = true) : ((sci8 v).1 = 0 ∨ (sci8 v).1 = 1) ∧ (0 ≤ (sci8 v).2.1 ∧ (sci8 v).2.1 < 4) ∧ (0 ≤ (sci8 v).2.2.1 ∧ (sci8 v).2.2.1 < 256) ∧ B (sci8 v).1 (sci8 v).2.1 (sci8 v).2.2.1 = v :=
  firstOf_back v ways (by decide) h
end Go.Proofs.YticofbaajdgabaaDoor.X

namespace Go.Proofs.YticofbaajdgabaaDoor.X
set_option linter.unusedVariables false
set_option linter.unusedSimpArgs false
open Go.RowKit Go.PA Go.Proofs.YticofbaajdgabaaDoorW.PrintWords Go.Proofs.YticofbaajdgabaaDoorW.PrintLast Go.Proofs.YticofbaajdgabaaDoorW.PrintMore
inductive Kn where
  | X | Y | U5 | U7 | O5 | M1 | M2 | M4 | O1 | I2 | T8 | D | A | B | S16 | L20 | C8 | O2 | I4 | T15 | T24
  deriving DecidableEq, Repr
def Kn.str : Kn → ByteArray
  | X => ⟨#[88]⟩ | Y => ⟨#[89]⟩ | U5 => ⟨#[85, 53]⟩ | U7 => ⟨#[85, 55]⟩ | O5 => ⟨#[79, 53]⟩ | M1 => ⟨#[77, 49]⟩ | M2 => ⟨#[77, 50]⟩ | M4 => ⟨#[77, 52]⟩ | O1 => ⟨#[79, 49]⟩ | I2 => ⟨#[73, 50]⟩ | T8 => ⟨#[84, 56]⟩
  | D => ⟨#[68]⟩ | A => ⟨#[65]⟩ | B => ⟨#[66]⟩ | S16 => ⟨#[83, 49, 54]⟩ | L20 => ⟨#[76, 50, 48]⟩ | C8 => ⟨#[67, 56]⟩ | O2 => ⟨#[79, 50]⟩ | I4 => ⟨#[73, 52]⟩ | T15 => ⟨#[84, 49, 53]⟩ | T24 => ⟨#[84, 50, 52]⟩
/-- What may be. -/
def Kn.ok : Kn → Int → Bool
  | X, v | Y, v => decide (0 ≤ v ∧ v ≤ 7 ∨ 24 ≤ v ∧ v ≤ 31)
  | U5, v | D, v | A, v | B, v => decide (0 ≤ v ∧ v < 32)
  | U7, v => decide (0 ≤ v ∧ v < 128)
  | O5, v => decide (1 ≤ v ∧ v < 33)
  | M1, v | I4, v => decide (0 ≤ v ∧ v < 16)
  | M2, v => decide (0 ≤ v ∧ v < 32 ∧ v % 2 = 0)
  | M4, v => decide (0 ≤ v ∧ v < 64 ∧ v % 4 = 0)
  | O1, v => decide (0 ≤ v ∧ v < 2)
  | I2, v | O2, v => decide (0 ≤ v ∧ v < 4)
  | T8, v => decide (v % 2 = 0 ∧ -256 ≤ v ∧ v < 256)
  | S16, v => decide (-32768 ≤ v ∧ v < 32768)
  | L20, v => decide (-524288 ≤ v ∧ v < 524288)
  | C8, v => (sci8 v).2.2.2
  | T15, v => decide (v % 2 = 0 ∧ -32768 ≤ v ∧ v < 32768)
  | T24, v => decide (v % 2 = 0 ∧ -16777216 ≤ v ∧ v < 16777216)
/-- Its bits. -/
def Kn.bit : Kn → Int → Int
  | X, v => v - v / 24 * 16
  | Y, v => (v - v / 24 * 16) * 16
  | U5, v | U7, v => v * 16
  | O5, v => (v - 1) * 16
  | M1, v | I2, v => v * 256
  | M2, v => v / 2 * 256
  | M4, v => v / 4 * 256
  | O1, v => v * 1024
  | T8, v => v / 2 % 256
  | D, v => v * 2097152
  | A, v | I4, v => v * 65536
  | B, v => v * 2048
  | S16, v | T15, v => v % 65536
  | T24, v => v % 33554432
  | O2, v => v * 1048576
  | L20, v => v / 65536 % 16 * 2048 + v / 2048 % 32 * 65536 + v % 2048
  | C8, v => (sci8 v).1 * 1024 + (sci8 v).2.1 * 256 + (sci8 v).2.2.1
/-- The operand that bits have. -/
def Kn.val : Kn → Int → Int
  | X, n => n % 16 + n % 16 / 8 * 16
  | Y, n => n / 16 % 16 + n / 16 % 16 / 8 * 16
  | U5, n => n / 16 % 32
  | U7, n => n / 16 % 128
  | O5, n => n / 16 % 32 + 1
  | M1, n => n / 256 % 16
  | M2, n => n / 256 % 16 * 2
  | M4, n => n / 256 % 16 * 4
  | O1, n => n / 1024 % 2
  | I2, n => n / 256 % 4
  | T8, n => 2 * sg n 256
  | D, n => n / 2097152 % 32
  | A, n => n / 65536 % 32
  | B, n => n / 2048 % 32
  | S16, n => sg n 65536
  | L20, n => sg (n / 2048 % 16 * 65536 + n / 65536 % 32 * 2048 + n % 2048) 1048576
  | C8, n => Go.Proofs.YticofbaajdgabaaDoor.X.B (n / 1024 % 2) (n / 256 % 4) (n % 256)
  | O2, n => n / 1048576 % 4
  | I4, n => n / 65536 % 16
  | T15, n => sg (n / 2 * 2) 65536
  | T24, n => sg (n / 2 * 2) 33554432
theorem shl_u32 {x : Int} {n : Int} {m : Nat} (hm : n = m) (h2 : m ≤ 31) : shl .u32 x n = x * 2 ^ m % 4294967296 := by
  subst hm
  unfold shl
  rw [show min ((m : Int).toNat) IntKind.u32.bits = m by simp [IntKind.bits]; omega, IntKind.wrap_u32]
theorem shl_i64 {x : Int} {n : Int} {m : Nat} (hm : n = m) (h2 : m ≤ 63) : shl .i64 x n = wrap64 (x * 2 ^ m) := by
  subst hm
  unfold shl
  rw [show min ((m : Int).toNat) IntKind.i64.bits = m by simp [IntKind.bits]; omega, i64_wrap]
theorem shr_u32 {x : Int} {n : Int} {m : Nat} (hm : n = m) (h2 : m ≤ 31) : shr .u32 x n = x / 2 ^ m := by
  subst hm
  unfold shr
  rw [show min ((m : Int).toNat) IntKind.u32.bits = m by simp [IntKind.bits]; omega]
theorem and_mask_u32 (a : Int) (j : Nat) (hj : j ≤ 31) (h0 : 0 ≤ a) (h1 : a < 4294967296) : Go.bits .and .u32 a (2 ^ j - 1) = a % 2 ^ j :=
  bits_mask .u32 32 (by decide) (fun n h0 h1 => by rw [IntKind.wrap_u32]; omega) j (by omega) a h0 (by omega)
/-- A plain field's way. -/
theorem plain_put {at_ bits less : Nat} {step v : Int} {ha bb ll : Int} (e1 : ha = at_) (e2 : bb = bits) (e3 : ll = less) (hs : step = 1 ∨ step = 2 ∨ step = 4) (hb : 1 ≤ bits ∧ bits ≤ 7) (hab : at_ + bits ≤ 26) (hl : less ≤ 1) (w0 : -9223372036854775808 ≤ v ∧ v < 9223372036854775808) :
    isa_plain_put.f ha bb step ll v = some (if (less : Int) ≤ v ∧ v - less < step * 2 ^ bits ∧ (v - less) % step = 0 then ((v - less) / step * 2 ^ at_, true) else (0, false)) := by
  subst e1 e2 e3
  have hp : (1 : Int) ≤ 2 ^ bits ∧ (2 : Int) ^ bits ≤ 128 := ⟨by have := pow_pos bits; omega, by have := pow_le (a := bits) (b := 7) (by omega); omega⟩
  have hq : (1 : Int) ≤ 2 ^ at_ := by have := pow_pos at_; omega
  have hpq : (2 : Int) ^ bits * 2 ^ at_ ≤ 67108864 := by rw [← Int.pow_add]; have := pow_le (a := bits + at_) (b := 26) (by omega); omega
  unfold isa_plain_put.f
  by_cases c1 : v < less
  · rw [if_pos c1, if_neg (by omega)]
  · rw [if_neg c1, if_pos (by omega), wrap64_id (n := v - less) (by omega) (by omega), shl_i64 rfl (by omega)]
    have es : wrap64 (step * 2 ^ bits) = step * 2 ^ bits := by
      rcases hs with rfl | rfl | rfl <;> exact wrap64_id (by omega) (by omega)
    rw [es]
    have hn : 0 ≤ v - less := by omega
    generalize v - less = u at *
    have et : Int.tmod u step = u % step := Int.tmod_eq_emod_of_nonneg hn
    have ed : Int.tdiv u step = u / step := Int.tdiv_eq_ediv_of_nonneg hn
    by_cases c2 : u ≥ step * 2 ^ bits
    · rw [if_pos c2, if_neg (by omega)]
    · rw [if_neg c2, if_neg (by omega), et, ed]
      by_cases c3 : u % step = 0
      · have hu : 0 ≤ u / step ∧ u / step < 2 ^ bits := by
          have hst : 0 < step := by omega
          exact ⟨Int.ediv_nonneg hn (by omega), Int.ediv_lt_of_lt_mul hst (by rw [Int.mul_comm]; omega)⟩
        rw [if_pos c3, if_pos (by omega), if_pos ⟨by omega, by omega, c3⟩, shl_u32 rfl (by omega), wrap64_id (by omega) (by omega)]
        have e4 : u / step % 4294967296 = u / step := Int.emod_eq_of_lt hu.1 (by omega)
        have hm : u / step * 2 ^ at_ < 2 ^ bits * 2 ^ at_ := Int.mul_lt_mul_of_pos_right hu.2 (by omega)
        have hm0 : 0 ≤ u / step * 2 ^ at_ := Int.mul_nonneg hu.1 (by omega)
        rw [e4, Int.emod_eq_of_lt hm0 (by omega)]
      · rw [if_neg c3, if_neg (fun h => c3 h.2.2)]
theorem plain_get {at_ bits less : Nat} {step n : Int} {ha bb ll : Int} (e1 : ha = at_) (e2 : bb = bits) (e3 : ll = less) (hs : step = 1 ∨ step = 2 ∨ step = 4) (hb : 1 ≤ bits ∧ bits ≤ 7) (hab : at_ + bits ≤ 26) (hl : less ≤ 1) (w0 : 0 ≤ n ∧ n < 4294967296) :
    isa_plain_get.f ha bb step ll n = some (n / 2 ^ at_ % 2 ^ bits * step + less) := by
  subst e1 e2 e3
  have hp : (1 : Int) ≤ 2 ^ bits ∧ (2 : Int) ^ bits ≤ 128 := ⟨by have := pow_pos bits; omega, by have := pow_le (a := bits) (b := 7) (by omega); omega⟩
  have hq : (0 : Int) < 2 ^ at_ := pow_pos at_
  unfold isa_plain_get.f
  rw [if_pos (by omega), if_pos (by omega), shr_u32 rfl (by omega), shl_u32 rfl (by omega), Int.one_mul]
  have e4 : ((2 : Int) ^ bits % 4294967296 - 1) % 4294967296 = 2 ^ bits - 1 := by omega
  have h5 : 0 ≤ n / 2 ^ at_ := Int.ediv_nonneg w0.1 (by omega)
  have h6 : n / 2 ^ at_ ≤ n := Int.ediv_le_self _ w0.1
  rw [e4, and_mask_u32 _ bits (by omega) h5 (by omega)]
  have h7 : 0 ≤ n / 2 ^ at_ % 2 ^ bits := Int.emod_nonneg _ (by omega)
  have h8 : n / 2 ^ at_ % 2 ^ bits < 2 ^ bits := Int.emod_lt_of_pos _ (by omega)
  generalize n / 2 ^ at_ % 2 ^ bits = u at *
  rw [wrap64_id (n := u) (by omega) (by omega)]
  rcases hs with rfl | rfl | rfl
  · rw [wrap64_id (n := u * 1) (by omega) (by omega), wrap64_id (n := u * 1 + less) (by omega) (by omega)]
  · rw [wrap64_id (n := u * 2) (by omega) (by omega), wrap64_id (n := u * 2 + less) (by omega) (by omega)]
  · rw [wrap64_id (n := u * 4) (by omega) (by omega), wrap64_id (n := u * 4 + less) (by omega) (by omega)]
theorem put_plain (K : Kn) (at_ bits less : Nat) (step v : Int) (hpl : isa_plains.f K.str = some ((at_ : Int), (bits : Int), step, (less : Int), true)) (hs : step = 1 ∨ step = 2 ∨ step = 4) (hb : 1 ≤ bits ∧ bits ≤ 7) (hab : at_ + bits ≤ 26) (hl : less ≤ 1)
    (hok : K.ok v = true ↔ ((less : Int) ≤ v ∧ v - less < step * 2 ^ bits ∧ (v - less) % step = 0)) (hbit : K.ok v = true → (v - less) / step * 2 ^ at_ = K.bit v) (w0 : -9223372036854775808 ≤ v ∧ v < 9223372036854775808) (k : Nat) :
    ∃ g, isa_put.f k K.str v = some (g, K.ok v) ∧ (K.ok v = true → g = K.bit v) := by
  unfold isa_put.f
  rw [hpl]
  simp only [Option.bind_some, if_true]
  rw [plain_put rfl rfl rfl hs hb hab hl w0]
  by_cases c : (less : Int) ≤ v ∧ v - less < step * 2 ^ bits ∧ (v - less) % step = 0
  · rw [if_pos c]
    exact ⟨_, by rw [hok.2 c]; rfl, hbit⟩
  · rw [if_neg c]
    have e : K.ok v = false := Bool.eq_false_iff.2 (fun h => c (hok.1 h))
    exact ⟨0, by rw [e]; rfl, fun h => by rw [e] at h; cases h⟩
theorem get_plain (K : Kn) (at_ bits less : Nat) (step n : Int) (hpl : isa_plains.f K.str = some ((at_ : Int), (bits : Int), step, (less : Int), true)) (hs : step = 1 ∨ step = 2 ∨ step = 4) (hb : 1 ≤ bits ∧ bits ≤ 7) (hab : at_ + bits ≤ 26) (hl : less ≤ 1)
    (hv : n / 2 ^ at_ % 2 ^ bits * step + less = K.val n) (w0 : 0 ≤ n ∧ n < 4294967296) (k : Nat) : isa_get.f k K.str n = some (K.val n) := by
  unfold isa_get.f
  rw [hpl]
  simp only [Option.bind_some, if_true]
  rw [plain_get rfl rfl rfl hs hb hab hl w0, Option.bind_some, hv]
theorem or3 (a b c : Int) (ha : 0 ≤ a ∧ a < 16) (hb : 0 ≤ b ∧ b < 32) (hc : 0 ≤ c ∧ c < 2048) : Go.bits .or .i64 (Go.bits .or .i64 (a * 2048) (b * 65536)) c = a * 2048 + b * 65536 + c := by
  have e1 : Go.bits .or .i64 (a * 2048) (b * 65536) = b * 65536 + a * 2048 := by
    have h := or_join 16 (b * 65536) (a * 2048) (by omega) (by omega) (by omega) (by omega) (by omega) (by omega)
    have hx : Go.bits .or .i64 (a * 2048) (b * 65536) = Go.bits .or .i64 (b * 65536) (a * 2048) := by
      unfold Go.bits; simp only [BitVec.or_comm]
    rw [hx, h]
  rw [e1, or_join 11 _ _ (by omega) (by omega) (by omega) (by omega) (by omega) (by omega)]
  omega
theorem or3c (f s u : Int) (hf : f = 0 ∨ f = 1) (hs : 0 ≤ s ∧ s < 4) (hu : 0 ≤ u ∧ u < 256) : Go.bits .or .i64 (Go.bits .or .i64 (f * 1024) (s * 256)) u = f * 1024 + s * 256 + u := by
  rw [or_join 10 (f * 1024) (s * 256) (by omega) (by omega) (by omega) (by omega) (by omega) (by omega), or_join 8 _ _ (by omega) (by omega) (by omega) (by omega) (by omega) (by omega)]
theorem tmod2 (v : Int) : Int.tmod v 2 = 0 ↔ v % 2 = 0 := by
  rw [Int.tmod_eq_emod]; split <;> omega
/-- An even number's way. -/
theorem put_even (K : Kn) (w : Nat) (v : Int) (hpl : isa_plains.f K.str = some ((0 : Int), (0 : Int), 0, (0 : Int), false))
    (hn : K.str.toList ≠ [88] ∧ K.str.toList ≠ [89] ∧ K.str.toList ≠ [76, 50, 48] ∧ K.str.toList ≠ [67, 56] ∧ K.str.toList ≠ [83, 49, 54])
    (hw : isa_wide.f K.str = some (w : Int)) (h1 : 1 ≤ w) (h2 : w ≤ 32) (hok : K.ok v = decide (v % 2 = 0 ∧ -(2 ^ (w - 1)) ≤ v ∧ v < 2 ^ (w - 1)))
    (hg : K.ok v = true → ∀ k, isa_put.j1 (k + 1) K.str v false = some (K.bit v, true)) (k : Nat) (hk : 310 ≤ k) :
    ∃ g, isa_put.f k K.str v = some (g, K.ok v) ∧ (K.ok v = true → g = K.bit v) := by
  obtain ⟨k, rfl⟩ : ∃ m, k = m + 2 := ⟨k - 2, by omega⟩
  obtain ⟨n1, n2, n3, n4, n5⟩ := hn
  have e89 : (K.str.toList == ([89] : List UInt8)) = false := by simp [n2]
  unfold isa_put.f
  rw [hpl, Option.bind_some, if_neg (by decide), if_neg n1, e89]
  simp only [isa_put.j0]
  rw [if_neg (by decide), if_neg n3, if_neg n4, if_neg n5]
  by_cases c : v % 2 = 0
  · rw [if_pos ((tmod2 v).2 c), hw, Option.bind_some, fits_is v w w rfl h1 (by omega), Option.bind_some]
    by_cases d : -(2 ^ (w - 1)) ≤ v ∧ v < 2 ^ (w - 1)
    · have e : K.ok v = true := by rw [hok]; exact decide_eq_true ⟨c, d⟩
      rw [decide_eq_true d, e]
      exact ⟨_, hg e k, fun _ => rfl⟩
    · have e : K.ok v = false := by rw [hok]; exact decide_eq_false (fun h => d h.2)
      rw [decide_eq_false d, e]
      exact ⟨0, by simp only [Bool.not_false, isa_put.j1, if_true], fun h => by cases h⟩
  · have e : K.ok v = false := by rw [hok]; exact decide_eq_false (fun h => c h.1)
    rw [if_neg (fun h => c ((tmod2 v).1 h)), e]
    exact ⟨0, by simp only [isa_put.j1, if_true], fun h => by cases h⟩
/-- An operand's bits, and whether it may be, by the program. -/
theorem put_is (K : Kn) (v : Int) (w0 : -9223372036854775808 ≤ v ∧ v < 9223372036854775808) {k : Nat} (hk : 310 ≤ k) :
    ∃ g, isa_put.f k K.str v = some (g, K.ok v) ∧ (K.ok v = true → g = K.bit v) := by
  cases K
  case U5 => exact put_plain .U5 4 5 0 1 v (by decide +kernel) (by decide) (by decide) (by decide) (by decide) (by simp only [Kn.ok, decide_eq_true_eq]; omega) (by simp only [Kn.ok, Kn.bit, decide_eq_true_eq]; omega) w0 k
  case U7 => exact put_plain .U7 4 7 0 1 v (by decide +kernel) (by decide) (by decide) (by decide) (by decide) (by simp only [Kn.ok, decide_eq_true_eq]; omega) (by simp only [Kn.ok, Kn.bit, decide_eq_true_eq]; omega) w0 k
  case O5 => exact put_plain .O5 4 5 1 1 v (by decide +kernel) (by decide) (by decide) (by decide) (by decide) (by simp only [Kn.ok, decide_eq_true_eq]; omega) (by simp only [Kn.ok, Kn.bit, decide_eq_true_eq]; omega) w0 k
  case M1 => exact put_plain .M1 8 4 0 1 v (by decide +kernel) (by decide) (by decide) (by decide) (by decide) (by simp only [Kn.ok, decide_eq_true_eq]; omega) (by simp only [Kn.ok, Kn.bit, decide_eq_true_eq]; omega) w0 k
  case M2 => exact put_plain .M2 8 4 0 2 v (by decide +kernel) (by decide) (by decide) (by decide) (by decide) (by simp only [Kn.ok, decide_eq_true_eq]; omega) (by simp only [Kn.ok, Kn.bit, decide_eq_true_eq]; omega) w0 k
  case M4 => exact put_plain .M4 8 4 0 4 v (by decide +kernel) (by decide) (by decide) (by decide) (by decide) (by simp only [Kn.ok, decide_eq_true_eq]; omega) (by simp only [Kn.ok, Kn.bit, decide_eq_true_eq]; omega) w0 k
  case O1 => exact put_plain .O1 10 1 0 1 v (by decide +kernel) (by decide) (by decide) (by decide) (by decide) (by simp only [Kn.ok, decide_eq_true_eq]; omega) (by simp only [Kn.ok, Kn.bit, decide_eq_true_eq]; omega) w0 k
  case I2 => exact put_plain .I2 8 2 0 1 v (by decide +kernel) (by decide) (by decide) (by decide) (by decide) (by simp only [Kn.ok, decide_eq_true_eq]; omega) (by simp only [Kn.ok, Kn.bit, decide_eq_true_eq]; omega) w0 k
  case D => exact put_plain .D 21 5 0 1 v (by decide +kernel) (by decide) (by decide) (by decide) (by decide) (by simp only [Kn.ok, decide_eq_true_eq]; omega) (by simp only [Kn.ok, Kn.bit, decide_eq_true_eq]; omega) w0 k
  case A => exact put_plain .A 16 5 0 1 v (by decide +kernel) (by decide) (by decide) (by decide) (by decide) (by simp only [Kn.ok, decide_eq_true_eq]; omega) (by simp only [Kn.ok, Kn.bit, decide_eq_true_eq]; omega) w0 k
  case B => exact put_plain .B 11 5 0 1 v (by decide +kernel) (by decide) (by decide) (by decide) (by decide) (by simp only [Kn.ok, decide_eq_true_eq]; omega) (by simp only [Kn.ok, Kn.bit, decide_eq_true_eq]; omega) w0 k
  case O2 => exact put_plain .O2 20 2 0 1 v (by decide +kernel) (by decide) (by decide) (by decide) (by decide) (by simp only [Kn.ok, decide_eq_true_eq]; omega) (by simp only [Kn.ok, Kn.bit, decide_eq_true_eq]; omega) w0 k
  case I4 => exact put_plain .I4 16 4 0 1 v (by decide +kernel) (by decide) (by decide) (by decide) (by decide) (by simp only [Kn.ok, decide_eq_true_eq]; omega) (by simp only [Kn.ok, Kn.bit, decide_eq_true_eq]; omega) w0 k
  case X =>
    obtain ⟨k, rfl⟩ : ∃ m, k = m + 2 := ⟨k - 2, by omega⟩
    unfold isa_put.f
    rw [show isa_plains.f Kn.X.str = some (0, 0, 0, 0, false) by decide +kernel, Option.bind_some, if_neg (by decide), if_pos (by decide +kernel), show (Kn.X.str.toList == ([88] : List UInt8)) = true by decide +kernel]
    simp only [isa_put.j0, if_true]
    rw [show isa_place.f Kn.X.str = some 0 by decide +kernel]
    simp only [Option.bind_some]
    have et : 0 ≤ v → Int.tdiv v 24 = v / 24 := fun h => Int.tdiv_eq_ediv_of_nonneg h
    by_cases c : Kn.X.ok v = true
    · have c' := c
      simp only [Kn.ok, decide_eq_true_eq] at c'
      have ew : wrap64 (v - wrap64 (wrap64 (Int.tdiv v 24) * 16)) = v - v / 24 * 16 := by
        rw [et (by omega), wrap64_id (n := v / 24) (by omega) (by omega), wrap64_id (n := v / 24 * 16) (by omega) (by omega), wrap64_id (by omega) (by omega)]
      refine ⟨Kn.X.bit v, ?_, fun _ => rfl⟩
      rw [c, ew, shl_u32 (n := 0) (m := 0) rfl (by decide)]
      have e2 : (v - v / 24 * 16) % 4294967296 * 2 ^ 0 % 4294967296 = v - v / 24 * 16 := by omega
      simp only [Kn.bit, e2]
      rw [if_neg (by omega)]
      by_cases c2 : v > 7
      · rw [if_pos c2, if_neg (by omega), if_neg (by omega), if_pos (by decide)]
      · rw [if_neg c2, if_neg (by omega), if_pos (by decide)]
    · have e : Kn.X.ok v = false := Bool.eq_false_iff.2 c
      simp only [Kn.ok, decide_eq_true_eq] at c
      refine ⟨0, ?_, fun h => by rw [e] at h; cases h⟩
      rw [e]
      by_cases c0 : v < 0
      · rw [if_pos c0]
      · rw [if_neg c0]
        by_cases c1 : v > 7
        · rw [if_pos c1]
          by_cases c2 : v < 24
          · rw [if_pos c2]
          · rw [if_neg c2, if_pos (by omega)]
        · exfalso; omega
  case Y =>
    obtain ⟨k, rfl⟩ : ∃ m, k = m + 2 := ⟨k - 2, by omega⟩
    unfold isa_put.f
    rw [show isa_plains.f Kn.Y.str = some (0, 0, 0, 0, false) by decide +kernel, Option.bind_some, if_neg (by decide), if_neg (by decide +kernel), show (Kn.Y.str.toList == ([89] : List UInt8)) = true by decide +kernel]
    simp only [isa_put.j0, if_true]
    rw [show isa_place.f Kn.Y.str = some 4 by decide +kernel]
    simp only [Option.bind_some]
    have et : 0 ≤ v → Int.tdiv v 24 = v / 24 := fun h => Int.tdiv_eq_ediv_of_nonneg h
    by_cases c : Kn.Y.ok v = true
    · have c' := c
      simp only [Kn.ok, decide_eq_true_eq] at c'
      have ew : wrap64 (v - wrap64 (wrap64 (Int.tdiv v 24) * 16)) = v - v / 24 * 16 := by
        rw [et (by omega), wrap64_id (n := v / 24) (by omega) (by omega), wrap64_id (n := v / 24 * 16) (by omega) (by omega), wrap64_id (by omega) (by omega)]
      refine ⟨Kn.Y.bit v, ?_, fun _ => rfl⟩
      rw [c, ew, shl_u32 (n := 4) (m := 4) rfl (by decide)]
      have e2 : (v - v / 24 * 16) % 4294967296 * 2 ^ 4 % 4294967296 = (v - v / 24 * 16) * 16 := by omega
      simp only [Kn.bit, e2]
      rw [if_neg (by omega)]
      by_cases c2 : v > 7
      · rw [if_pos c2, if_neg (by omega), if_neg (by omega), if_pos (by decide)]
      · rw [if_neg c2, if_neg (by omega), if_pos (by decide)]
    · have e : Kn.Y.ok v = false := Bool.eq_false_iff.2 c
      simp only [Kn.ok, decide_eq_true_eq] at c
      refine ⟨0, ?_, fun h => by rw [e] at h; cases h⟩
      rw [e]
      by_cases c0 : v < 0
      · rw [if_pos c0]
      · rw [if_neg c0]
        by_cases c1 : v > 7
        · rw [if_pos c1]
          by_cases c2 : v < 24
          · rw [if_pos c2]
          · rw [if_neg c2, if_pos (by omega)]
        · exfalso; omega
  case L20 =>
    obtain ⟨k, rfl⟩ : ∃ m, k = m + 2 := ⟨k - 2, by omega⟩
    unfold isa_put.f
    rw [show isa_plains.f Kn.L20.str = some (0, 0, 0, 0, false) by decide +kernel, Option.bind_some, if_neg (by decide), if_neg (by decide +kernel), show (Kn.L20.str.toList == ([89] : List UInt8)) = false by decide +kernel]
    simp only [isa_put.j0]
    rw [if_neg (by decide), if_pos (by decide +kernel)]
    unfold imm_Split.f
    rw [fits_is v 20 20 rfl (by decide) (by decide)]
    simp only [Option.bind_some, and15, and31, and2047]
    rw [wrap64_id (by omega) (by omega), wrap64_id (by omega) (by omega), or3 _ _ _ (by omega) (by omega) (by omega)]
    exact ⟨_, by congr 2, fun _ => by simp only [Kn.bit]; omega⟩
  case C8 =>
    obtain ⟨k, rfl⟩ : ∃ m, k = m + 2 := ⟨k - 2, by omega⟩
    unfold isa_put.f
    rw [show isa_plains.f Kn.C8.str = some (0, 0, 0, 0, false) by decide +kernel, Option.bind_some, if_neg (by decide), if_neg (by decide +kernel), show (Kn.C8.str.toList == ([89] : List UInt8)) = false by decide +kernel]
    simp only [isa_put.j0]
    rw [if_neg (by decide), if_neg (by decide +kernel), if_pos (by decide +kernel), sci8_is v (by omega)]
    simp only [Option.bind_some]
    refine ⟨_, rfl, fun h => ?_⟩
    obtain ⟨h1, h2, h3, _⟩ := sci8_back v h
    simp only [Kn.bit]
    generalize (sci8 v).1 = a at *
    generalize (sci8 v).2.1 = b at *
    generalize (sci8 v).2.2.1 = c at *
    rw [wrap64_id (n := a * 1024) (by omega) (by omega), wrap64_id (n := b * 256) (by omega) (by omega), or3c _ _ _ h1 h2 h3]
    omega
  case S16 =>
    obtain ⟨k, rfl⟩ : ∃ m, k = m + 2 := ⟨k - 2, by omega⟩
    unfold isa_put.f
    rw [show isa_plains.f Kn.S16.str = some (0, 0, 0, 0, false) by decide +kernel, Option.bind_some, if_neg (by decide), if_neg (by decide +kernel), show (Kn.S16.str.toList == ([89] : List UInt8)) = false by decide +kernel]
    simp only [isa_put.j0]
    rw [if_neg (by decide), if_neg (by decide +kernel), if_neg (by decide +kernel), if_pos (by decide +kernel), fits_is v 16 16 rfl (by decide) (by decide)]
    simp only [Option.bind_some]
    rw [show Go.bits .and .i64 v 65535 = v % 65536 from and_mask v 16 (by decide)]
    exact ⟨_, by congr 2, fun _ => by simp only [Kn.bit]; omega⟩
  case T8 =>
    refine put_even .T8 9 v (by decide +kernel) (by decide +kernel) (by decide +kernel) (by decide) (by decide) rfl (fun h k => ?_) k hk
    simp only [Kn.ok, decide_eq_true_eq] at h
    have et : Int.tdiv v 2 = v / 2 := by rw [Int.tdiv_eq_ediv]; split <;> omega
    simp only [isa_put.j1]
    rw [if_neg (by decide), if_pos (by decide +kernel), et, wrap64_id (n := v / 2) (by omega) (by omega), show Go.bits .and .i64 (v / 2) 255 = v / 2 % 256 from and_mask (v / 2) 8 (by decide)]
    simp only [Kn.bit]
    congr 2; omega
  case T15 =>
    refine put_even .T15 16 v (by decide +kernel) (by decide +kernel) (by decide +kernel) (by decide) (by decide) rfl (fun h k => ?_) k hk
    simp only [isa_put.j1]
    rw [if_neg (by decide), if_neg (by decide +kernel), show isa_wide.f Kn.T15.str = some 16 by decide +kernel, Option.bind_some, if_pos (by decide), shl_i64 (n := 16) (m := 16) rfl (by decide), show wrap64 (wrap64 (1 * 2 ^ 16) - 1) = 65535 by (rw [wrap64_id (n := 1 * 2 ^ 16) (by decide) (by decide)]; exact wrap64_id (by decide) (by decide)), show Go.bits .and .i64 v 65535 = v % 65536 from and_mask v 16 (by decide)]
    simp only [Kn.bit]
    congr 2; omega
  case T24 =>
    refine put_even .T24 25 v (by decide +kernel) (by decide +kernel) (by decide +kernel) (by decide) (by decide) rfl (fun h k => ?_) k hk
    simp only [isa_put.j1]
    rw [if_neg (by decide), if_neg (by decide +kernel), show isa_wide.f Kn.T24.str = some 25 by decide +kernel, Option.bind_some, if_pos (by decide), shl_i64 (n := 25) (m := 25) rfl (by decide), show wrap64 (wrap64 (1 * 2 ^ 25) - 1) = 33554431 by (rw [wrap64_id (n := 1 * 2 ^ 25) (by decide) (by decide)]; exact wrap64_id (by decide) (by decide)), show Go.bits .and .i64 v 33554431 = v % 33554432 from and_mask v 25 (by decide)]
    simp only [Kn.bit]
    congr 2; omega
end Go.Proofs.YticofbaajdgabaaDoor.X

namespace Go.Proofs.YticofbaajdgabaaDoor.X
set_option linter.unusedVariables false
set_option linter.unusedSimpArgs false
open Go.RowKit Go.PA Go.Proofs.YticofbaajdgabaaDoorW.PrintWords Go.Proofs.YticofbaajdgabaaDoorW.PrintLast Go.Proofs.YticofbaajdgabaaDoorW.PrintMore
def Kn.lst : Kn → List UInt8
  | X => [88] | Y => [89] | U5 => [85, 53] | U7 => [85, 55] | O5 => [79, 53] | M1 => [77, 49] | M2 => [77, 50] | M4 => [77, 52] | O1 => [79, 49] | I2 => [73, 50] | T8 => [84, 56]
  | D => [68] | A => [65] | B => [66] | S16 => [83, 49, 54] | L20 => [76, 50, 48] | C8 => [67, 56] | O2 => [79, 50] | I4 => [73, 52] | T15 => [84, 49, 53] | T24 => [84, 50, 52]
theorem Kn.toL (K : Kn) : K.str.toList = K.lst := by cases K <;> decide +kernel
theorem shr_i64 {x : Int} {n : Int} {m : Nat} (hm : n = m) (h2 : m ≤ 63) : shr .i64 x n = x / 2 ^ m := by
  subst hm
  unfold shr
  rw [show min ((m : Int).toNat) IntKind.i64.bits = m by simp [IntKind.bits]; omega]
theorem nat_but1 (a j : Nat) : a &&& (2 ^ (j + 1) - 2) = a % 2 ^ (j + 1) / 2 * 2 := by
  have hp := Nat.two_pow_pos j
  have e2 : 2 ^ (j + 1) = 2 * 2 ^ j := by rw [Nat.pow_succ]; omega
  have h1 : (a &&& (2 ^ (j + 1) - 2)) / 2 = a / 2 % 2 ^ j := by
    rw [Nat.and_div_two, show (2 ^ (j + 1) - 2) / 2 = 2 ^ j - 1 by omega, Nat.and_two_pow_sub_one_eq_mod]
  have h2 : (a &&& (2 ^ (j + 1) - 2)) % 2 = 0 := by
    have := Nat.and_mod_two_pow (a := a) (b := 2 ^ (j + 1) - 2) (n := 1)
    rw [Nat.pow_one] at this
    rw [this, show (2 ^ (j + 1) - 2) % 2 = 0 by omega, Nat.and_zero]
  have h3 : a % 2 ^ (j + 1) / 2 = a / 2 % 2 ^ j := by
    rw [e2, Nat.mod_mul_right_div_self]
  omega
/-- All bits but the lowest. -/
theorem and_but1 (a : Int) (j : Nat) (hj : j ≤ 31) (h0 : 0 ≤ a) (h1 : a < 4294967296) {c : Int} (hc : c = (2 ^ (j + 1) - 2 : Nat)) : Go.bits .and .i64 a c = a % 2 ^ (j + 1) / 2 * 2 := by
  obtain ⟨n, rfl⟩ := Int.eq_ofNat_of_zero_le h0
  have hn : n % 2 ^ 64 = n := Nat.mod_eq_of_lt (by omega)
  have hp : (2 : Nat) ^ (j + 1) ≤ 2 ^ 32 := Nat.pow_le_pow_right (by decide) (by omega)
  have hm : (2 ^ (j + 1) - 2) % 2 ^ 64 = 2 ^ (j + 1) - 2 := Nat.mod_eq_of_lt (by omega)
  rw [hc, show Go.bits .and .i64 (n : Int) ((2 ^ (j + 1) - 2 : Nat) : Int) = IntKind.i64.wrap ((BitVec.ofInt 64 (n : Int) &&& BitVec.ofInt 64 ((2 ^ (j + 1) - 2 : Nat) : Int)).toNat : Int) from rfl]
  rw [BitVec.ofInt_natCast, BitVec.ofInt_natCast, BitVec.toNat_and, BitVec.toNat_ofNat, BitVec.toNat_ofNat, hn, hm, nat_but1, i64_wrap]
  have hl : n % 2 ^ (j + 1) ≤ n := Nat.mod_le _ _
  have e : (((n % 2 ^ (j + 1) / 2 * 2 : Nat)) : Int) = (n : Int) % 2 ^ (j + 1) / 2 * 2 := by simp
  rw [← e]
  exact wrap64_id (by omega) (by omega)
theorem andnot1 (a : Int) (h0 : 0 ≤ a) (h1 : a < 4294967296) : Go.bits .andNot .i64 a 1 = a / 2 * 2 := by
  obtain ⟨n, rfl⟩ := Int.eq_ofNat_of_zero_le h0
  have hn : n % 2 ^ 64 = n := Nat.mod_eq_of_lt (by omega)
  rw [show Go.bits .andNot .i64 (n : Int) 1 = IntKind.i64.wrap ((BitVec.ofInt 64 (n : Int) &&& ~~~ (BitVec.ofInt 64 1)).toNat : Int) from rfl]
  rw [BitVec.ofInt_natCast, show ~~~ (BitVec.ofInt 64 1) = BitVec.ofNat 64 (2 ^ (63 + 1) - 2) by decide, BitVec.toNat_and, BitVec.toNat_ofNat, BitVec.toNat_ofNat, hn, show (2 ^ (63 + 1) - 2) % 2 ^ 64 = 2 ^ (63 + 1) - 2 by decide, nat_but1, hn, i64_wrap]
  have e : (((n / 2 * 2 : Nat)) : Int) = (n : Int) / 2 * 2 := by simp
  rw [← e]
  exact wrap64_id (by omega) (by omega)
theorem rjoined_is {h m l : Int} (h0 : 0 ≤ h ∧ h < 16) (h1 : 0 ≤ m ∧ m < 32) (h2 : 0 ≤ l ∧ l < 2048) : letterpressref1_Joined.f h m l = some (sg (h * 65536 + m * 2048 + l) 1048576) := by
  unfold letterpressref1_Joined.f
  rw [wrap64_id (n := h * 65536) (by omega) (by omega), wrap64_id (n := m * 2048) (by omega) (by omega), or_join 16 (h * 65536) (m * 2048) (by omega) (by omega) (by omega) (by omega) (by omega) (by omega), or_join 11 _ _ (by omega) (by omega) (by omega) (by omega) (by omega) (by omega), rsign_is' (c := 20) (b := 20) rfl (by decide) (by decide)]
  rfl
/-- The operand that bits have, of the reference. -/
theorem take_is (K : Kn) (n : Int) (w0 : 0 ≤ n ∧ n < 4294967296) {k : Nat} (hk : 10 ≤ k) : letterpressref2_take.f k K.str n = some (K.val n) := by
  have m1 : ∀ a, Go.bits .and .i64 a 1 = a % 2 := fun a => and_mask a 1 (by decide)
  have m3 : ∀ a, Go.bits .and .i64 a 3 = a % 4 := fun a => and_mask a 2 (by decide)
  have m15 : ∀ a, Go.bits .and .i64 a 15 = a % 16 := fun a => and_mask a 4 (by decide)
  have m31 : ∀ a, Go.bits .and .i64 a 31 = a % 32 := fun a => and_mask a 5 (by decide)
  have m127 : ∀ a, Go.bits .and .i64 a 127 = a % 128 := fun a => and_mask a 7 (by decide)
  have m255 : ∀ a, Go.bits .and .i64 a 255 = a % 256 := fun a => and_mask a 8 (by decide)
  have m2047 : ∀ a, Go.bits .and .i64 a 2047 = a % 2048 := fun a => and_mask a 11 (by decide)
  cases K
  case X | Y =>
    simp (decide := true) only [letterpressref2_take.f, letterpressref2_eight.f, Kn.toL, Kn.lst, if_true, if_false, Kn.val, m15]
    split
    · simp only [Option.bind_some]; congr 1; rw [wrap64_id (by omega) (by omega)]; omega
    · simp only [Option.bind_some]; congr 1; omega
  case T8 =>
    simp (decide := true) only [letterpressref2_take.f, Kn.toL, Kn.lst, if_true, if_false, Kn.val]
    rw [rsign_is' (v := n) (c := 8) (b := 8) rfl (by decide) (by decide)]
    simp only [Option.bind_some]; congr 1
    exact wrap64_id (by unfold sg; omega) (by unfold sg; omega)
  case S16 =>
    simp (decide := true) only [letterpressref2_take.f, letterpressref2_takes.f, Kn.toL, Kn.lst, if_true, if_false, Kn.val]
    rw [rsign_is' (v := n) (c := 16) (b := 16) rfl (by decide) (by decide)]; rfl
  case T15 =>
    simp (decide := true) only [letterpressref2_take.f, letterpressref2_takes.f, Kn.toL, Kn.lst, if_true, if_false, Kn.val]
    rw [rsign_is' (c := 16) (b := 16) rfl (by decide) (by decide), and_but1 n 15 (c := 65534) (by decide) w0.1 w0.2 rfl]
    simp only [Option.bind_some]; congr 1; unfold sg; omega
  case T24 =>
    simp (decide := true) only [letterpressref2_take.f, letterpressref2_takes.f, Kn.toL, Kn.lst, if_true, if_false, Kn.val]
    rw [rsign_is' (c := 25) (b := 25) rfl (by decide) (by decide), and_but1 n 24 (c := 33554430) (by decide) w0.1 w0.2 rfl]
    simp only [Option.bind_some]; congr 1; unfold sg; omega
  case C8 =>
    simp (decide := true) only [letterpressref2_take.f, letterpressref2_takes.f, Kn.toL, Kn.lst, if_true, if_false, Kn.val, m1, m3, m255]
    rw [rback_is (by omega) (by omega) (by omega) (by omega)]; rfl
  case L20 =>
    simp (decide := true) only [letterpressref2_take.f, letterpressref2_takes.f, Kn.toL, Kn.lst, if_true, if_false, Kn.val, m15, m31, m2047]
    rw [rjoined_is (by omega) (by omega) (by omega)]; rfl
  all_goals
    simp (decide := true) only [letterpressref2_take.f, letterpressref2_takes.f, Kn.toL, Kn.lst, if_true, if_false, Kn.val, m1, m3, m15, m31, m127, m255, m2047, Option.bind_some]
  all_goals (try (refine congrArg some ((wrap64_id (by omega) (by omega)).trans ?_); omega))
/-- The operand that bits have, of the program. -/
theorem get_is (K : Kn) (n : Int) (w0 : 0 ≤ n ∧ n < 4294967296) {k : Nat} (hk : 10 ≤ k) : isa_get.f k K.str n = some (K.val n) := by
  have m1 : ∀ a, Go.bits .and .i64 a 1 = a % 2 := fun a => and_mask a 1 (by decide)
  have m3 : ∀ a, Go.bits .and .i64 a 3 = a % 4 := fun a => and_mask a 2 (by decide)
  have m15 : ∀ a, Go.bits .and .i64 a 15 = a % 16 := fun a => and_mask a 4 (by decide)
  have m31 : ∀ a, Go.bits .and .i64 a 31 = a % 32 := fun a => and_mask a 5 (by decide)
  have m255 : ∀ a, Go.bits .and .i64 a 255 = a % 256 := fun a => and_mask a 8 (by decide)
  have m2047 : ∀ a, Go.bits .and .i64 a 2047 = a % 2048 := fun a => and_mask a 11 (by decide)
  have ww : wrap64 n = n := wrap64_id (by omega) (by omega)
  cases K
  case U5 => exact get_plain .U5 4 5 0 1 n (by decide +kernel) (by decide) (by decide) (by decide) (by decide) (by simp only [Kn.val]; omega) w0 k
  case U7 => exact get_plain .U7 4 7 0 1 n (by decide +kernel) (by decide) (by decide) (by decide) (by decide) (by simp only [Kn.val]; omega) w0 k
  case O5 => exact get_plain .O5 4 5 1 1 n (by decide +kernel) (by decide) (by decide) (by decide) (by decide) (by simp only [Kn.val]; omega) w0 k
  case M1 => exact get_plain .M1 8 4 0 1 n (by decide +kernel) (by decide) (by decide) (by decide) (by decide) (by simp only [Kn.val]; omega) w0 k
  case M2 => exact get_plain .M2 8 4 0 2 n (by decide +kernel) (by decide) (by decide) (by decide) (by decide) (by simp only [Kn.val]; omega) w0 k
  case M4 => exact get_plain .M4 8 4 0 4 n (by decide +kernel) (by decide) (by decide) (by decide) (by decide) (by simp only [Kn.val]; omega) w0 k
  case O1 => exact get_plain .O1 10 1 0 1 n (by decide +kernel) (by decide) (by decide) (by decide) (by decide) (by simp only [Kn.val]; omega) w0 k
  case I2 => exact get_plain .I2 8 2 0 1 n (by decide +kernel) (by decide) (by decide) (by decide) (by decide) (by simp only [Kn.val]; omega) w0 k
  case D => exact get_plain .D 21 5 0 1 n (by decide +kernel) (by decide) (by decide) (by decide) (by decide) (by simp only [Kn.val]; omega) w0 k
  case A => exact get_plain .A 16 5 0 1 n (by decide +kernel) (by decide) (by decide) (by decide) (by decide) (by simp only [Kn.val]; omega) w0 k
  case B => exact get_plain .B 11 5 0 1 n (by decide +kernel) (by decide) (by decide) (by decide) (by decide) (by simp only [Kn.val]; omega) w0 k
  case O2 => exact get_plain .O2 20 2 0 1 n (by decide +kernel) (by decide) (by decide) (by decide) (by decide) (by simp only [Kn.val]; omega) w0 k
  case I4 => exact get_plain .I4 16 4 0 1 n (by decide +kernel) (by decide) (by decide) (by decide) (by decide) (by simp only [Kn.val]; omega) w0 k
  all_goals
    obtain ⟨k, rfl⟩ : ∃ m, k = m + 2 := ⟨k - 2, by omega⟩
    unfold isa_get.f
  case X =>
    rw [show isa_plains.f Kn.X.str = some (0, 0, 0, 0, false) by decide +kernel]
    simp (decide := true) only [Option.bind_some, isa_get.j0, Kn.toL, Kn.lst, isa_place.f, if_true, if_false, Bool.true_eq_false, Bool.false_eq_true, ww, Kn.val]
    rw [show shr .i64 n 0 = n from shr_i64 (n := 0) (m := 0) rfl (by decide) |>.trans (by omega), m15, Int.tdiv_eq_ediv_of_nonneg (by omega), wrap64_id (n := n % 16 / 8) (by omega) (by omega), wrap64_id (n := n % 16 / 8 * 16) (by omega) (by omega), wrap64_id (by omega) (by omega)]
  case Y =>
    rw [show isa_plains.f Kn.Y.str = some (0, 0, 0, 0, false) by decide +kernel]
    simp (decide := true) only [Option.bind_some, isa_get.j0, Kn.toL, Kn.lst, isa_place.f, if_true, if_false, Bool.true_eq_false, Bool.false_eq_true, ww, Kn.val]
    rw [show shr .i64 n 4 = n / 16 from shr_i64 (n := 4) (m := 4) rfl (by decide), m15, Int.tdiv_eq_ediv_of_nonneg (by omega), wrap64_id (n := n / 16 % 16 / 8) (by omega) (by omega), wrap64_id (n := n / 16 % 16 / 8 * 16) (by omega) (by omega), wrap64_id (by omega) (by omega)]
  case T8 =>
    rw [show isa_plains.f Kn.T8.str = some (0, 0, 0, 0, false) by decide +kernel]
    simp (decide := true) only [Option.bind_some, isa_get.j0, Kn.toL, Kn.lst, isa_place.f, if_true, if_false, Bool.true_eq_false, Bool.false_eq_true, ww, Kn.val]
    rw [sign_is' (v := n) (c := 8) (b := 8) rfl (by decide) (by decide)]
    simp only [Option.bind_some]; congr 1
    exact wrap64_id (by unfold sg; omega) (by unfold sg; omega)
  case S16 =>
    rw [show isa_plains.f Kn.S16.str = some (0, 0, 0, 0, false) by decide +kernel]
    simp (decide := true) only [Option.bind_some, isa_get.j0, Kn.toL, Kn.lst, isa_place.f, if_true, if_false, Bool.true_eq_false, Bool.false_eq_true, ww, Kn.val]
    rw [sign_is' (v := n) (c := 16) (b := 16) rfl (by decide) (by decide)]; rfl
  case L20 =>
    rw [show isa_plains.f Kn.L20.str = some (0, 0, 0, 0, false) by decide +kernel]
    simp (decide := true) only [Option.bind_some, isa_get.j0, Kn.toL, Kn.lst, isa_place.f, if_true, if_false, Bool.true_eq_false, Bool.false_eq_true, ww, Kn.val, m15, m31, m2047]
    rw [joined_is (by omega) (by omega) (by omega)]; rfl
  case C8 =>
    rw [show isa_plains.f Kn.C8.str = some (0, 0, 0, 0, false) by decide +kernel]
    simp (decide := true) only [Option.bind_some, isa_get.j0, Kn.toL, Kn.lst, isa_place.f, if_true, if_false, Bool.true_eq_false, Bool.false_eq_true, ww, Kn.val, m1, m3, m255]
    rw [back_is (by omega) (by omega) (by omega) (by omega)]; rfl
  case T15 =>
    rw [show isa_plains.f Kn.T15.str = some (0, 0, 0, 0, false) by decide +kernel]
    simp (decide := true) only [Option.bind_some, isa_get.j0, Kn.toL, Kn.lst, isa_place.f, isa_wide.f, if_true, if_false, Bool.true_eq_false, Bool.false_eq_true, ww, Kn.val]
    rw [andnot1 n w0.1 w0.2, sign_is' (c := 16) (b := 16) rfl (by decide) (by decide)]; rfl
  case T24 =>
    rw [show isa_plains.f Kn.T24.str = some (0, 0, 0, 0, false) by decide +kernel]
    simp (decide := true) only [Option.bind_some, isa_get.j0, Kn.toL, Kn.lst, isa_place.f, isa_wide.f, if_true, if_false, Bool.true_eq_false, Bool.false_eq_true, ww, Kn.val]
    rw [andnot1 n w0.1 w0.2, sign_is' (c := 25) (b := 25) rfl (by decide) (by decide)]; rfl
end Go.Proofs.YticofbaajdgabaaDoor.X

namespace Go.Proofs.YticofbaajdgabaaDoor.X
set_option linter.unusedVariables false
set_option linter.unusedSimpArgs false
open Go.RowKit Go.PA Go.Proofs.YticofbaajdgabaaDoorW.PrintWords Go.Proofs.YticofbaajdgabaaDoorW.PrintLast Go.Proofs.YticofbaajdgabaaDoorW.PrintMore
/-- Each instruction's kinds; its bits. -/
def ksL : List (List Kn) := [[], [], [], [], [], [.X], [.X], [.X], [.X], [.X], [.X], [.X], [.X], [.X], [.X], [.X, .Y], [.X, .Y], [.X, .Y], [.X, .Y], [.X, .Y], [.X, .Y], [.X, .O5], [.X, .O5], [.X, .O5], [.X, .U5], [.X, .Y], [.X, .Y], [.X, .Y], [.X, .U7], [.X, .U5], [.X, .U5], [.X, .U5], [.X, .U5], [.X, .U5], [.Y, .M1, .X], [.Y, .M1, .X], [.Y, .M2, .X], [.Y, .M2, .X], [.Y, .M4, .X], [.Y, .M4, .X], [.O1, .I2, .T8], [.T8], [.T8], [.D, .A, .S16], [.D, .A, .C8], [.A, .D, .C8], [.A, .D, .C8], [.A, .D, .C8], [.D, .L20], [.D, .S16, .A], [.D, .S16, .A], [.D, .S16, .A], [.D, .S16, .A], [.D, .S16, .A], [.D, .S16, .A], [.D, .S16, .A], [.T24], [.T24], [.O2, .I4, .T15], [.O2, .I4, .T15], [.D, .A, .B], [.D, .A, .B], [.D, .A, .B], [.A, .D, .B], [.A, .D, .B], [.A, .D, .B]]
def bsL : List Nat := [0, 1, 2, 4, 6, 32, 48, 128, 144, 160, 176, 192, 208, 224, 240, 256, 1024, 1280, 1536, 3072, 3328, 8192, 8704, 9216, 10752, 17408, 17664, 17920, 18432, 24576, 25600, 26112, 26624, 27648, 32768, 36864, 40960, 45056, 49152, 53248, 57344, 59392, 59648, 469762048, 402685952, 402702336, 402706432, 402710528, 1879048192, 805306368, 872415232, 939524096, 1342177280, 1409286144, 1476395008, 1543503872, 2013265920, 2013265921, 2046820352, 2046820353, 2080375316, 2080374864, 2080375254, 2080374840, 2080375672, 2080375416]
def ks (i : Nat) : List Kn := ksL.getD i []
def bs (i : Nat) : Nat := bsL.getD i 0
def nm (i : Nat) : ByteArray := (rows2.getD i (⟨#[]⟩, ⟨#[]⟩, ⟨#[]⟩)).1
def kd (i : Nat) : ByteArray := (rows2.getD i (⟨#[]⟩, ⟨#[]⟩, ⟨#[]⟩)).2.2
def hx (i : Nat) : ByteArray := (rows2.getD i (⟨#[]⟩, ⟨#[]⟩, ⟨#[]⟩)).2.1
def sz (i : Nat) : Int := if i < 43 then 2 else 4
theorem p_list : ∀ i : Fin 66, isa_of_string_40__isa_row_list.f ((i.val : Nat) : Int) = some ((ks i.val).map Kn.str) := by decide +kernel
theorem p_bits : ∀ i : Fin 66, isa_of_uint32__isa_code_1.f ((i.val : Nat) : Int) = some ((bs i.val : Nat) : Int) := by decide +kernel
theorem p_name : ∀ i : Fin 66, isa_Name.f ((i.val : Nat) : Int) = some (nm i.val) := by decide +kernel
theorem p_size : ∀ i : Fin 66, isa_Size.f ((i.val : Nat) : Int) = some (sz i.val) := by decide +kernel
theorem p_full : ∀ i : Fin 66, (nm i.val).toList ≠ [] := by decide +kernel
theorem r_words : ∀ i : Fin 66, letterpressref2_Words.f 24 (kd i.val) = some ((ks i.val).map Kn.str) := by decide +kernel
theorem r_find : ∀ i : Fin 66, letterpressref2_find.f ((i.val : Nat) : Int) (⟨#[32]⟩ : ByteArray) = some (nm i.val, hx i.val, kd i.val, ((i.val : Nat) : Int), true) := by decide +kernel
theorem p_len : (tableL.length : Int) = 66 := by decide +kernel
theorem p_out (op : Int) (h : ¬ (0 ≤ op ∧ op < 66)) : isa_Name.f op = some (⟨#[]⟩ : ByteArray) ∧ isa_Kinds.f op = some (⟨#[]⟩ : ByteArray) ∧ isa_Size.f op = some 0 := by
  have e1 : isa_Name.f op = some (⟨#[]⟩ : ByteArray) := by
    unfold isa_Name.f isa_of_string_48__isa_row_title.f isa_table.f
    simp only [Option.bind_some, p_len]
    by_cases c : op ≥ 0
    · rw [if_pos c, if_neg (by omega)]; rfl
    · rw [if_neg c]; rfl
  refine ⟨e1, ?_, ?_⟩
  · unfold isa_Kinds.f isa_of_string_48__isa_row_operands.f isa_table.f
    simp only [Option.bind_some, p_len]
    by_cases c : op ≥ 0
    · rw [if_pos c, if_neg (by omega)]; rfl
    · rw [if_neg c]; rfl
  · unfold isa_Size.f
    rw [e1, Option.bind_some, if_pos (by decide +kernel)]
theorem words_up {k : Nat} (hk : 24 ≤ k) {s : ByteArray} {r : List ByteArray} (h : letterpressref2_Words.f 24 s = some r) : letterpressref2_Words.f k s = some r := by
  induction hk with
  | refl => exact h
  | step _ ih => exact letterpressref2_Words.mono _ _ _ ih
/-- A kind's field: from a bit on, so many bits. -/
def Kn.at_ : Kn → Nat × Nat
  | X => (0, 4) | Y => (4, 4) | U5 => (4, 5) | U7 => (4, 7) | O5 => (4, 5) | M1 => (8, 4) | M2 => (8, 4) | M4 => (8, 4) | O1 => (10, 1) | I2 => (8, 2) | T8 => (0, 8)
  | D => (21, 5) | A => (16, 5) | B => (11, 5) | S16 => (0, 16) | L20 => (0, 21) | C8 => (0, 11) | O2 => (20, 2) | I4 => (16, 4) | T15 => (1, 15) | T24 => (1, 24)
def Kn.fm (K : Kn) : Nat := (2 ^ K.at_.2 - 1) * 2 ^ K.at_.1
theorem nat_field (n a b : Nat) : n &&& ((2 ^ b - 1) * 2 ^ a) = n / 2 ^ a % 2 ^ b * 2 ^ a := by
  have e : n &&& ((2 ^ b - 1) * 2 ^ a) = ((n / 2 ^ a) &&& (2 ^ b - 1)) * 2 ^ a := by
    apply Nat.eq_of_testBit_eq
    intro i
    rw [Nat.testBit_and, Nat.testBit_mul_two_pow, Nat.testBit_mul_two_pow, Nat.testBit_and, Nat.testBit_div_two_pow]
    by_cases h : a ≤ i
    · simp [h]
    · simp [h]
  rw [e, Nat.and_two_pow_sub_one_eq_mod]
/-- An operand's bits lie in its field. -/
theorem Kn.bit_in (K : Kn) (v : Int) (h : K.ok v = true) : 0 ≤ K.bit v ∧ (K.bit v).toNat &&& K.fm = (K.bit v).toNat := by
  unfold Kn.fm
  rw [nat_field]
  cases K
  case C8 =>
    obtain ⟨h1, h2, h3, _⟩ := sci8_back v h
    simp only [Kn.bit, Kn.at_]
    omega
  all_goals
    simp only [Kn.ok, decide_eq_true_eq] at h
    simp only [Kn.bit, Kn.at_]
    omega
end Go.Proofs.YticofbaajdgabaaDoor.X

namespace Go.Proofs.YticofbaajdgabaaDoor.X
set_option linter.unusedVariables false
set_option linter.unusedSimpArgs false
open Go.RowKit Go.PA Go.Proofs.YticofbaajdgabaaDoorW.PrintWords Go.Proofs.YticofbaajdgabaaDoorW.PrintLast Go.Proofs.YticofbaajdgabaaDoorW.PrintMore
/-- Each operand may be. -/
def okA : List Kn → List Int → Bool
  | [], [] => true
  | K :: Ks, v :: l => K.ok v && okA Ks l
  | _, _ => false
/-- All bits. -/
def orA : Nat → List Kn → List Int → Nat
  | n, K :: Ks, v :: l => orA (n ||| (K.bit v).toNat) Ks l
  | n, _, _ => n
def I64 (l : List Int) : Prop := ∀ x ∈ l, -9223372036854775808 ≤ x ∧ x < 9223372036854775808
theorem okA_len : ∀ {Ks : List Kn} {l : List Int}, okA Ks l = true → l.length = Ks.length
  | [], [], _ => rfl
  | K :: Ks, v :: l, h => by
    simp only [okA, Bool.and_eq_true] at h
    simp [okA_len h.2]
  | [], _ :: _, h => by simp [okA] at h
  | _ :: _, [], h => by simp [okA] at h
theorem fm_lt (K : Kn) : K.fm < 4294967296 := by cases K <;> decide
theorem and_le {a b : Nat} (h : a &&& b = a) : a ≤ b := by rw [← h]; exact Nat.and_le_right
theorem bit_lt (K : Kn) (v : Int) (h : K.ok v = true) : 0 ≤ K.bit v ∧ K.bit v < 4294967296 := by
  obtain ⟨h0, h1⟩ := K.bit_in v h
  have := and_le h1
  have := fm_lt K
  omega
theorem or_u32 (a b : Nat) (ha : a < 4294967296) (hb : b < 4294967296) : Go.bits .or .u32 (a : Int) (b : Int) = ((a ||| b : Nat) : Int) := by
  have hl : a ||| b < 2 ^ 32 := Nat.or_lt_two_pow (n := 32) ha hb
  rw [show Go.bits .or .u32 (a : Int) (b : Int) = IntKind.u32.wrap ((BitVec.ofInt 32 (a : Int) ||| BitVec.ofInt 32 (b : Int)).toNat : Int) from rfl]
  rw [BitVec.ofInt_natCast, BitVec.ofInt_natCast, BitVec.toNat_or, BitVec.toNat_ofNat, BitVec.toNat_ofNat, Nat.mod_eq_of_lt (by omega), Nat.mod_eq_of_lt (by omega), IntKind.wrap_u32]
  omega
theorem rd_at {l : List Int} {i : Nat} (h : i < l.length) : rd l (i : Int) = l[i] := by
  unfold rd; simp [h]
theorem str_at {K : List Kn} {i : Nat} (h : i < K.length) : rdOf ByteArray.empty (K.map Kn.str) (i : Int) = (K[i]).str := by
  unfold rdOf; simp [h]
theorem succ_w {i : Nat} (h : i < 1000000) : wrap64 ((i : Int) + 1) = ((i + 1 : Nat) : Int) := by
  rw [wrap64_id (by omega) (by omega)]; omega
theorem ks_len (i : Nat) : (ks i).length ≤ 3 := by
  have h : ∀ i : Fin 66, (ks i.val).length ≤ 3 := by decide +kernel
  by_cases c : i < 66
  · exact h ⟨i, c⟩
  · have hn : ksL.length ≤ i := by rw [show ksL.length = 66 by decide +kernel]; omega
    unfold ks; rw [List.getD_eq_getElem?_getD, List.getElem?_eq_none hn]; simp
theorem bs_lt (i : Nat) : bs i < 4294967296 := by
  have h : ∀ i : Fin 66, bs i.val < 4294967296 := by decide +kernel
  by_cases c : i < 66
  · exact h ⟨i, c⟩
  · have hn : bsL.length ≤ i := by rw [show bsL.length = 66 by decide +kernel]; omega
    unfold bs; rw [List.getD_eq_getElem?_getD, List.getElem?_eq_none hn]; decide
theorem code_l0 (K : List Kn) (op : Int) (l : List Int) (hl : l.length = K.length) (hw : I64 l) (hK : K.length ≤ 10) : ∀ (d i k acc : Nat), i + d = K.length → d + 320 ≤ k → acc < 4294967296 →
    ∃ g, isa_code.l0 k (acc : Int) (K.map Kn.str) (K.length : Int) (i : Int) op l = some (g, okA (K.drop i) (l.drop i)) ∧ (okA (K.drop i) (l.drop i) = true → g = ((orA acc (K.drop i) (l.drop i) : Nat) : Int))
  | 0, i, k, acc, hd, hk, ha => by
    obtain ⟨k, rfl⟩ : ∃ m, k = m + 1 := ⟨k - 1, by omega⟩
    unfold isa_code.l0
    rw [if_neg (by omega), List.drop_eq_nil_of_le (by omega), List.drop_eq_nil_of_le (by omega)]
    exact ⟨_, rfl, fun _ => rfl⟩
  | d + 1, i, k, acc, hd, hk, ha => by
    obtain ⟨k, rfl⟩ : ∃ m, k = m + 1 := ⟨k - 1, by omega⟩
    have hi : i < K.length := by omega
    have hi2 : i < l.length := by omega
    unfold isa_code.l0
    rw [if_pos (by omega), if_pos (by omega), if_pos (by rw [List.length_map]; omega), if_pos (by omega), str_at hi, rd_at hi2, List.drop_eq_getElem_cons hi, List.drop_eq_getElem_cons hi2]
    obtain ⟨g, e, hg⟩ := put_is (K[i]) (l[i]) (hw _ (List.getElem_mem hi2)) (k := k) (by omega)
    rw [e, Option.bind_some]
    by_cases c : (K[i]).ok (l[i]) = true
    · rw [if_pos c, hg c]
      have hb := bit_lt _ _ c
      have eb : (K[i]).bit (l[i]) = (((K[i]).bit (l[i])).toNat : Int) := by omega
      rw [eb, or_u32 _ _ ha (by omega), succ_w (by omega)]
      obtain ⟨g', e', hg'⟩ := code_l0 K op l hl hw hK d (i + 1) k _ (by omega) (by omega) (Nat.or_lt_two_pow (n := 32) ha (by omega : ((K[i]).bit (l[i])).toNat < 2 ^ 32))
      refine ⟨g', ?_, ?_⟩
      · rw [e']; simp only [okA, c, Bool.true_and]
      · intro h; simp only [okA, c, Bool.true_and] at h; rw [hg' h]; rfl
    · rw [if_neg c]
      have c' : (K[i]).ok (l[i]) = false := Bool.eq_false_iff.2 c
      refine ⟨0, ?_, ?_⟩
      · simp only [okA, c', Bool.false_and]
      · intro h; simp only [okA, c', Bool.false_and] at h; cases h
/-- An instruction's bits, if it may be. -/
def enc (op : Int) (l : List Int) : Option Nat := if (0 ≤ op ∧ op < 66) ∧ okA (ks op.toNat) l = true then some (orA (bs op.toNat) (ks op.toNat) l) else none
theorem fin_of {op : Int} (h : 0 ≤ op ∧ op < 66) : ∃ i : Fin 66, op = ((i.val : Nat) : Int) := ⟨⟨op.toNat, by omega⟩, by simp; omega⟩
theorem code_is (op : Int) (l : List Int) (hw : I64 l) {k : Nat} (hk : 400 ≤ k) : ∃ g, isa_code.f k op l = some (g, (enc op l).isSome) ∧ ∀ n, enc op l = some n → g = (n : Int) := by
  unfold isa_code.f
  by_cases c : 0 ≤ op ∧ op < 66
  · obtain ⟨i, rfl⟩ := fin_of c
    rw [p_name i, Option.bind_some, if_neg (p_full i), p_bits i, Option.bind_some, p_list i, Option.bind_some, List.length_map]
    unfold enc
    rw [Int.toNat_natCast]
    by_cases c2 : l.length = (ks i.val).length
    · rw [if_pos (by omega)]
      obtain ⟨g, e, hg⟩ := code_l0 (ks i.val) ((i.val : Nat) : Int) l c2 hw (by have := ks_len i.val; omega) (ks i.val).length 0 k (bs i.val) (by omega) (by have := ks_len i.val; omega) (bs_lt _)
      rw [List.drop_zero, List.drop_zero] at e hg
      refine ⟨g, ?_, ?_⟩
      · rw [show ((0 : Nat) : Int) = 0 from rfl] at e
        rw [e]
        by_cases c3 : okA (ks i.val) l = true
        · rw [if_pos ⟨c, c3⟩, c3]; rfl
        · rw [if_neg (fun h => c3 h.2), Bool.eq_false_iff.2 c3]; rfl
      · intro n h
        split at h
        · rename_i c4; cases h; exact hg c4.2
        · cases h
    · rw [if_neg (by omega), if_neg (fun h => c2 (okA_len h.2))]
      exact ⟨0, rfl, fun n h => by cases h⟩
  · rw [(p_out op c).1, Option.bind_some, if_pos (by decide +kernel)]
    unfold enc
    rw [if_neg (fun h => c h.1)]
    exact ⟨0, rfl, fun n h => by cases h⟩
theorem right_is (op : Int) (l : List Int) (hw : I64 l) {k : Nat} (hk : 400 ≤ k) : isa_Right.f k op l = some (enc op l).isSome := by
  unfold isa_Right.f
  obtain ⟨g, e, _⟩ := code_is op l hw hk
  rw [e]; rfl
/-- The bytes of bits. -/
def byts (op : Int) (n : Nat) : List Int := if op < 43 then [(n : Int) / 256 % 256, (n : Int) % 256] else [(n : Int) / 16777216 % 256, (n : Int) / 65536 % 256, (n : Int) / 256 % 256, (n : Int) % 256]
def encB (op : Int) (l : List Int) : List Int × Bool := match enc op l with
  | some n => (byts op n, true)
  | none => ([], false)
theorem encode_is (op : Int) (l : List Int) (hw : I64 l) {k : Nat} (hk : 400 ≤ k) : isa_Encode.f k op l = some (encB op l) := by
  unfold isa_Encode.f encB
  obtain ⟨g, e, hg⟩ := code_is op l hw hk
  rw [e, Option.bind_some]
  cases h : enc op l with
  | none => rfl
  | some n =>
    have hop : 0 ≤ op ∧ op < 66 := by
      unfold enc at h
      split at h
      · rename_i c; exact c.1
      · cases h
    obtain ⟨i, rfl⟩ := fin_of hop
    rw [hg n h]
    simp only [Option.isSome_some, if_true, Option.bind_some]
    rw [p_size i, Option.bind_some]
    unfold sz byts
    by_cases c : i.val < 43
    · rw [if_pos c, if_pos (by omega : ((i.val : Nat) : Int) < 43), show wrap64 (4 - 2) = 2 from wrap64_id (by decide) (by decide)]
      rfl
    · rw [if_neg c, if_neg (by omega : ¬ ((i.val : Nat) : Int) < 43), show wrap64 (4 - 4) = 0 from wrap64_id (by decide) (by decide)]
      rfl
end Go.Proofs.YticofbaajdgabaaDoor.X

namespace Go.Proofs.YticofbaajdgabaaDoor.X
set_option linter.unusedVariables false
set_option linter.unusedSimpArgs false
open Go.RowKit Go.PA Go.Proofs.YticofbaajdgabaaDoorW.PrintWords Go.Proofs.YticofbaajdgabaaDoorW.PrintLast Go.Proofs.YticofbaajdgabaaDoorW.PrintMore
theorem within_is (a n : Int) (hn : 0 < n ∧ n < 4611686018427387904) : letterpresslaw2_within.f a n = some (a % n) := by
  unfold letterpresslaw2_within.f
  rw [if_neg (by omega)]
  have hm0 : 0 ≤ a % n := Int.emod_nonneg _ (by omega)
  have hm1 : a % n < n := Int.emod_lt_of_pos _ hn.1
  have ht : Int.tmod a n = if 0 ≤ a then a % n else if a % n = 0 then 0 else a % n - n := by
    rw [Int.tmod_eq_emod]
    by_cases h0 : 0 ≤ a
    · simp [h0]
    · by_cases hd : n ∣ a
      · rw [if_pos (Or.inr hd), if_neg h0, Int.emod_eq_zero_of_dvd hd]; simp
      · have : a % n ≠ 0 := fun h => hd (Int.dvd_of_emod_eq_zero h)
        rw [if_neg (by rintro (h | h); exact h0 h; exact hd h), if_neg h0, if_neg this]
        omega
  rw [ht]
  by_cases h0 : 0 ≤ a
  · rw [if_pos h0, if_neg (by omega)]
  · rw [if_neg h0]
    by_cases h1 : a % n = 0
    · rw [if_pos h1, if_neg (by omega), h1]
    · rw [if_neg h1, if_pos (by omega), wrap64_id (by omega) (by omega)]
      congr 1; omega
theorem pick9 {l : List Int} (hl : l.length = 9) {K : Kn} {g : Int → Int} (h : ∀ t : Fin 9, K.ok (g (rd l ((t.val : Nat) : Int))) = true ∧ -9223372036854775808 ≤ g (rd l ((t.val : Nat) : Int)) ∧ g (rd l ((t.val : Nat) : Int)) < 9223372036854775808) (n : Int) :
    ∃ v, (if 0 ≤ n % 9 then (if n % 9 < (l.length : Int) then (some (g (rd l (n % 9)))) else none) else none) = some v ∧ K.ok v = true ∧ -9223372036854775808 ≤ v ∧ v < 9223372036854775808 := by
  have h0 : 0 ≤ n % 9 ∧ n % 9 < 9 := by omega
  rw [if_pos h0.1, if_pos (by rw [hl]; omega)]
  have e : n % 9 = (((⟨(n % 9).toNat, by omega⟩ : Fin 9).val : Nat) : Int) := by simp; omega
  refine ⟨_, rfl, ?_⟩
  rw [e]
  exact h _
/-- An operand of the law may be. -/
theorem operand_is (K : Kn) (n : Int) {k : Nat} (hk : 10 ≤ k) : ∃ v, letterpresslaw2_Operand.f k K.str n = some v ∧ K.ok v = true ∧ -9223372036854775808 ≤ v ∧ v < 9223372036854775808 := by
  obtain ⟨k, rfl⟩ : ∃ m, k = m + 10 := ⟨k - 10, by omega⟩
  cases K
  all_goals
    simp (decide := true) only [letterpresslaw2_Operand.f, letterpresslaw2_Operand.j0, letterpresslaw2_Operand.j1, letterpresslaw2_Operand.j2, letterpresslaw2_Operand.j3, Kn.toL, Kn.lst, if_true, if_false, Bool.true_eq_false, Bool.false_eq_true, within_is, (Option.bind_some : ∀ {α β} (a : α) (f : α → Option β), (some a).bind f = f a)]
  case O1 => exact ⟨_, rfl, by simp only [Kn.ok, decide_eq_true_eq]; omega, by omega, by omega⟩
  case I2 | O2 => exact ⟨_, rfl, by simp only [Kn.ok, decide_eq_true_eq]; omega, by omega, by omega⟩
  case T8 =>
    rw [wrap64_id (n := n % 256 - 128) (by omega) (by omega), wrap64_id (n := 2 * (n % 256 - 128)) (by omega) (by omega)]
    exact ⟨_, rfl, by simp only [Kn.ok, decide_eq_true_eq]; omega, by omega, by omega⟩
  case L20 =>
    rw [wrap64_id (by omega) (by omega)]
    exact ⟨_, rfl, by simp only [Kn.ok, decide_eq_true_eq]; omega, by omega, by omega⟩
  case T15 =>
    rw [wrap64_id (n := n % 32768 - 16384) (by omega) (by omega), wrap64_id (n := 2 * (n % 32768 - 16384)) (by omega) (by omega)]
    exact ⟨_, rfl, by simp only [Kn.ok, decide_eq_true_eq]; omega, by omega, by omega⟩
  case T24 =>
    rw [wrap64_id (n := n % 16777216 - 8388608) (by omega) (by omega), wrap64_id (n := 2 * (n % 16777216 - 8388608)) (by omega) (by omega)]
    exact ⟨_, rfl, by simp only [Kn.ok, decide_eq_true_eq]; omega, by omega, by omega⟩
  case M2 => exact pick9 rfl (g := fun x => wrap64 (2 * x)) (by decide +kernel) n
  case M4 => exact pick9 rfl (g := fun x => wrap64 (4 * x)) (by decide +kernel) n
  all_goals exact pick9 rfl (g := fun x => x) (by decide +kernel) n
theorem make_l0 (K : List Kn) (ns : List Int) (hK : K.length ≤ 10) : ∀ (d i k : Nat) (op : Int) (acc : List Int), i + d = K.length → d + 20 ≤ k → acc.length = i → I64 acc →
    ∃ l, letterpresslaw2_Make.l0 k ns (K.map Kn.str) (i : Int) op acc = some (op, acc ++ l) ∧ okA (K.drop i) l = true ∧ I64 (acc ++ l)
  | 0, i, k, op, acc, hd, hk, ha, hw => by
    obtain ⟨k, rfl⟩ : ∃ m, k = m + 1 := ⟨k - 1, by omega⟩
    rw [letterpresslaw2_Make.l0, if_neg (by rw [List.length_map]; omega), List.drop_eq_nil_of_le (by omega)]
    exact ⟨[], by simp, rfl, by simpa using hw⟩
  | d + 1, i, k, op, acc, hd, hk, ha, hw => by
    obtain ⟨k, rfl⟩ : ∃ m, k = m + 1 := ⟨k - 1, by omega⟩
    have hi : i < K.length := by omega
    have key : ∀ n : Int, ∃ l, ((letterpresslaw2_Operand.f k (K[i]).str n).bind fun t => (if acc.length < 17592186044416 then (letterpresslaw2_Make.l0 k ns (K.map Kn.str) (wrap64 ((i : Int) + 1)) op (acc ++ [t])) else none)) = some (op, acc ++ l) ∧ okA (K.drop i) l = true ∧ I64 (acc ++ l) := by
      intro n
      obtain ⟨v, e, hv, hb⟩ := operand_is (K[i]) n (k := k) (by omega)
      rw [e, Option.bind_some, if_pos (by omega), succ_w (by omega)]
      obtain ⟨l, e2, ho, hw2⟩ := make_l0 K ns hK d (i + 1) k op (acc ++ [v]) (by omega) (by omega) (by simp [ha]) (by
        intro x hx
        rcases List.mem_append.1 hx with h | h
        · exact hw x h
        · rw [List.mem_singleton.1 h]; exact hb)
      refine ⟨v :: l, ?_, ?_, ?_⟩
      · rw [e2]; simp
      · rw [List.drop_eq_getElem_cons hi]; simp only [okA, hv, ho, Bool.and_self]
      · simpa using hw2
    rw [letterpresslaw2_Make.l0, if_pos (by rw [List.length_map]; omega)]
    by_cases c : (i : Int) < (ns.length : Int)
    · rw [if_pos c, if_pos (by omega), str_at hi]; exact key _
    · rw [if_neg c, if_pos (by omega), str_at hi]; exact key _
/-- An instruction of the law's: one that may be. -/
theorem make_is (op : Int) (ns : List Int) {k : Nat} (hk : 100 ≤ k) : ∃ l, letterpresslaw2_Make.f k op ns = some (op % 66, l) ∧ (0 ≤ op % 66 ∧ op % 66 < 66) ∧ okA (ks (op % 66).toNat) l = true ∧ I64 l := by
  have hr : 0 ≤ op % 66 ∧ op % 66 < 66 := by omega
  unfold letterpresslaw2_Make.f letterpressref2_Kinds.f
  rw [within_is op 66 (by decide), Option.bind_some]
  generalize op % 66 = o at *
  obtain ⟨i, rfl⟩ := fin_of hr
  rw [r_find i, Option.bind_some]
  simp only [Option.bind_some]
  rw [words_up (by omega) (r_words i), Option.bind_some, Int.toNat_natCast]
  obtain ⟨l, e, ho, hw⟩ := make_l0 (ks i.val) ns (by have := ks_len i.val; omega) (ks i.val).length 0 k ((i.val : Nat) : Int) [] (by omega) (by have := ks_len i.val; omega) rfl (fun x hx => by cases hx)
  rw [show ((0 : Nat) : Int) = 0 from rfl] at e
  exact ⟨l, by rw [e]; rfl, hr, ho, by simpa using hw⟩
theorem make_enc {o : Int} {l : List Int} (h : 0 ≤ o ∧ o < 66) (ho : okA (ks o.toNat) l = true) : enc o l = some (orA (bs o.toNat) (ks o.toNat) l) := by
  unfold enc; rw [if_pos ⟨h, ho⟩]
end Go.Proofs.YticofbaajdgabaaDoor.X

namespace Go.Proofs.YticofbaajdgabaaDoor.X
set_option linter.unusedVariables false
set_option linter.unusedSimpArgs false
open Go.RowKit Go.PA Go.Proofs.YticofbaajdgabaaDoorW.PrintWords Go.Proofs.YticofbaajdgabaaDoorW.PrintLast Go.Proofs.YticofbaajdgabaaDoorW.PrintMore
def U8 (l : List Int) : Prop := ∀ x ∈ l, 0 ≤ x ∧ x < 256
/-- The word that bytes are. -/
def wd : Nat → List Int → Nat
  | n, [] => n
  | n, x :: l => wd (n * 256 + x.toNat) l
def szOf (b : Int) : Int := if b / 16 < 8 ∧ b / 16 % 2 = 1 then 4 else 2
theorem and1_u8 (b : Int) (h : 0 ≤ b ∧ b < 256) : Go.bits .and .u8 (b / 16) 1 = b / 16 % 2 := by
  have h : ∀ c : Fin 16, Go.bits .and .u8 ((c.val : Nat) : Int) 1 = ((c.val : Nat) : Int) % 2 := by decide +kernel
  have e : b / 16 = (((⟨(b / 16).toNat, by omega⟩ : Fin 16).val : Nat) : Int) := by simp; omega
  rw [e]; exact h _
theorem size_is (b : Int) (h : 0 ≤ b ∧ b < 256) : isa_size.f b = some (szOf b) := by
  unfold isa_size.f szOf
  have e := and1_u8 b h
  rw [e]
  by_cases c : b / 16 < 8
  · rw [if_pos c]
    by_cases d : b / 16 % 2 = 1
    · rw [if_pos d, if_pos ⟨c, d⟩]
    · rw [if_neg d, if_neg (fun h => d h.2)]
  · rw [if_neg c, if_neg (fun h => c h.1)]
def vals (i : Nat) (n : Nat) : List Int := (ks i).map (fun K => K.val (n : Int))
def dgo (n : Nat) (s : Int) : Nat → Nat → Option Nat
  | 0, _ => none
  | d + 1, i => if sz i = s ∧ enc (i : Int) (vals i n) = some n then some i else dgo n s d (i + 1)
def decW (n : Nat) (s : Int) : Int × List Int × Int × Bool := match dgo n s 66 0 with
  | some i => ((i : Int), vals i n, s, true)
  | none => (0, [], 0, false)
/-- What bytes are. -/
def dec (b : List Int) : Int × List Int × Int × Bool :=
  if 2 ≤ b.length ∧ szOf (rd b 0) ≤ b.length then decW (wd 0 (b.take (szOf (rd b 0)).toNat)) (szOf (rd b 0)) else (0, [], 0, false)
theorem val_wide (K : Kn) (n : Nat) (h : n < 4294967296) : -9223372036854775808 ≤ K.val (n : Int) ∧ K.val (n : Int) < 9223372036854775808 := by
  cases K
  case C8 => simp only [Kn.val]; have := @B_wide ((n : Int) / 1024 % 2) ((n : Int) / 256 % 4) ((n : Int) % 256); omega
  all_goals
    simp only [Kn.val, sg]
    omega
theorem vals_wide (i n : Nat) (h : n < 4294967296) : I64 (vals i n) := by
  intro x hx
  obtain ⟨K, _, rfl⟩ := List.mem_map.1 hx
  exact val_wide K n h
theorem wd_lt : ∀ (l : List Int) (n m : Nat), U8 l → n < 256 ^ m → wd n l < 256 ^ (m + l.length)
  | [], n, m, _, h => by simpa [wd] using h
  | x :: l, n, m, hl, h => by
    have hx := hl x (List.mem_cons_self ..)
    have e : 256 ^ (m + 1) = 256 * 256 ^ m := by rw [Nat.pow_succ, Nat.mul_comm]
    have := wd_lt l (n * 256 + x.toNat) (m + 1) (fun z hz => hl z (List.mem_cons_of_mem _ hz)) (by omega)
    simp only [wd, List.length_cons]
    rw [show m + (l.length + 1) = m + 1 + l.length by omega]
    exact this
theorem dl0 (s : Int) (b : List Int) (hb : U8 b) (hl : b.length ≤ 4) : ∀ (d i k acc : Nat), i + d = b.length → d + 2 ≤ k → acc < 256 ^ i →
    isa_Decode.l0 k s (acc : Int) b (b.length : Int) (i : Int) = isa_Decode.l0 (k - d) s ((wd acc (b.drop i) : Nat) : Int) b (b.length : Int) (b.length : Int)
  | 0, i, k, acc, hd, hk, ha => by
    rw [List.drop_eq_nil_of_le (by omega), show i = b.length by omega]; rfl
  | d + 1, i, k, acc, hd, hk, ha => by
    obtain ⟨k, rfl⟩ : ∃ m, k = m + 1 := ⟨k - 1, by omega⟩
    have hi : i < b.length := by omega
    have hx := hb _ (List.getElem_mem hi)
    have hp : (256 : Nat) ^ i ≤ 256 ^ 3 := Nat.pow_le_pow_right (by decide) (by omega)
    have ho : Go.bits .or .u32 (((acc : Int) * 256) % 4294967296) (b[i] % 4294967296) = ((acc * 256 + (b[i]).toNat : Nat) : Int) := by
      have e1 : (acc : Int) * 256 % 4294967296 = ((acc * 256 : Nat) : Int) := by omega
      have e2 : b[i] % 4294967296 = (((b[i]).toNat : Nat) : Int) := by omega
      rw [e1, e2, or_u32 _ _ (by omega) (by omega)]
      congr 1
      rw [show acc * 256 = 2 ^ 8 * acc by omega, Nat.two_pow_add_eq_or_of_lt (by omega)]
    rw [isa_Decode.l0, if_pos (by omega), if_pos (by omega), if_pos (by omega), rd_at hi, ho, succ_w (by omega), dl0 s b hb hl d (i + 1) k _ (by omega) (by omega) (by rw [Nat.pow_succ]; omega), show k + 1 - (d + 1) = k - d by omega, List.drop_eq_getElem_cons hi]
    rfl
theorem dl2 (s : Int) (n : Nat) (hn : n < 4294967296) (i : Nat) (K : List Kn) (hK : K.length ≤ 10) : ∀ (d j k : Nat), j + d = K.length → d + 20 ≤ k →
    isa_Decode.l2 k s (n : Int) 66 (i : Int) (K.map Kn.str) (K.length : Int) (j : Int) (i : Int) ((K.map (fun K => K.val (n : Int))).take j) = isa_Decode.l2 (k - d) s (n : Int) 66 (i : Int) (K.map Kn.str) (K.length : Int) (K.length : Int) (i : Int) (K.map (fun K => K.val (n : Int)))
  | 0, j, k, hd, hk => by
    rw [List.take_of_length_le (by rw [List.length_map]; omega), show j = K.length by omega]; rfl
  | d + 1, j, k, hd, hk => by
    obtain ⟨k, rfl⟩ : ∃ m, k = m + 1 := ⟨k - 1, by omega⟩
    have hj : j < K.length := by omega
    rw [isa_Decode.l2, if_pos (by omega), if_pos (by omega), if_pos (by rw [List.length_map]; omega), str_at hj, get_is _ _ (by omega) (by omega), Option.bind_some, if_pos (by rw [List.length_take]; omega), succ_w (by omega)]
    have e : (K.map (fun K => K.val (n : Int))).take j ++ [(K[j]).val (n : Int)] = (K.map (fun K => K.val (n : Int))).take (j + 1) := by
      rw [List.take_succ_eq_append_getElem (by rw [List.length_map]; omega), List.getElem_map]
    rw [e, dl2 s n hn i K hK d (j + 1) k (by omega) (by omega), show k + 1 - (d + 1) = k - d by omega]
theorem dl1 (s : Int) (n : Nat) (hn : n < 4294967296) : ∀ (d i k : Nat), i + d = 66 → 6 * d + 500 ≤ k →
    isa_Decode.l1 k s (n : Int) 66 (i : Int) = some (match dgo n s d i with | some i => ((i : Int), vals i n, s, true) | none => (0, [], 0, false))
  | 0, i, k, hd, hk => by
    obtain ⟨k, rfl⟩ : ∃ m, k = m + 1 := ⟨k - 1, by omega⟩
    rw [isa_Decode.l1, if_neg (by omega)]; rfl
  | d + 1, i, k, hd, hk => by
    obtain ⟨k, rfl⟩ : ∃ m, k = m + 1 := ⟨k - 1, by omega⟩
    have hi : i < 66 := by omega
    rw [isa_Decode.l1, if_pos (by omega), p_size ⟨i, hi⟩, Option.bind_some]
    by_cases c : sz i = s
    · rw [if_pos c, p_list ⟨i, hi⟩, Option.bind_some, List.length_map]
      have hk3 := ks_len i
      have e := dl2 s n hn i (ks i) (by omega) (ks i).length 0 k (by omega) (by omega)
      rw [List.take_zero, show ((0 : Nat) : Int) = 0 from rfl] at e
      rw [e]
      obtain ⟨m, hm⟩ : ∃ m, k - (ks i).length = m + 1 := ⟨k - (ks i).length - 1, by omega⟩
      obtain ⟨g, eg, hg⟩ := code_is (i : Int) (vals i n) (vals_wide i n hn) (k := m) (by omega)
      rw [hm, isa_Decode.l2, if_neg (by omega), show (ks i).map (fun K => K.val (n : Int)) = vals i n from rfl, eg, Option.bind_some]
      have ih := dl1 s n hn d (i + 1) m (by omega) (by omega)
      simp only []
      unfold dgo
      cases h : enc (i : Int) (vals i n) with
      | none =>
        rw [if_neg (by simp), if_neg (by simp), succ_w (by omega), ih]
      | some p =>
        rw [if_pos (by simp), hg p h]
        by_cases c2 : p = n
        · subst c2
          rw [if_pos rfl, if_pos ⟨c, rfl⟩]
          unfold slices_Clone_int_int.f
          simp only [Option.bind_some]
          rw [if_pos (by simp [vals]; omega), Option.bind_some]; rfl
        · rw [if_neg (by omega), if_neg (fun h => c2 (Option.some.inj h.2)), succ_w (by omega), ih]
    · rw [if_neg c, succ_w (by omega), dl1 s n hn d (i + 1) k (by omega) (by omega), show dgo n s (d + 1) i = dgo n s d (i + 1) from if_neg (fun h => c h.1)]
theorem szOf_two (b : Int) : szOf b = 2 ∨ szOf b = 4 := by unfold szOf; split <;> simp
theorem decode_is (b : List Int) (hb : U8 b) (hl : b.length < 1000000) {k : Nat} (hk : 1000 ≤ k) : isa_Decode.f k b = some (dec b) := by
  obtain ⟨k, rfl⟩ : ∃ m, k = m + 1 := ⟨k - 1, by omega⟩
  unfold isa_Decode.f dec
  by_cases c : (b.length : Int) < 2
  · rw [if_pos c, isa_Decode.j0, if_pos rfl, if_neg (by omega)]
  · have h0 : 0 < b.length := by omega
    have hx := hb _ (List.getElem_mem h0)
    have er : rd b 0 = b[0] := rd_at h0
    rw [if_neg c, if_pos (by omega), er, size_is _ hx, Option.bind_some]
    have hs := szOf_two (b[0])
    generalize hs0 : szOf (b[0]) = s at *
    by_cases d : (b.length : Int) < s
    · rw [isa_Decode.j0, if_pos (decide_eq_true d), if_neg (by omega)]
    · rw [isa_Decode.j0, if_neg (by rw [decide_eq_false d]; decide), if_pos (by omega), er, size_is _ hx, hs0, Option.bind_some, if_pos (by omega), if_pos (by omega), if_pos (by omega)]
      have hbt : U8 (b.take s.toNat) := fun x hx => hb x (List.mem_of_mem_take hx)
      have hlt : (b.take s.toNat).length = s.toNat := by rw [List.length_take]; omega
      have e := dl0 s (b.take s.toNat) hbt (by omega) (b.take s.toNat).length 0 k 0 (by omega) (by omega) (by decide)
      rw [List.drop_zero, show ((0 : Nat) : Int) = 0 from rfl] at e
      rw [e]
      obtain ⟨m, hm⟩ : ∃ m, k - (b.take s.toNat).length = m + 1 := ⟨k - (b.take s.toNat).length - 1, by omega⟩
      have hw : wd 0 (b.take s.toNat) < 4294967296 := by
        have h1 := wd_lt (b.take s.toNat) 0 0 hbt (by decide)
        rw [hlt] at h1
        have h2 : (256 : Nat) ^ (0 + s.toNat) ≤ 256 ^ 4 := Nat.pow_le_pow_right (by decide) (by omega)
        omega
      rw [hm, isa_Decode.l0, if_neg (by omega), show isa_table.f = some tableL from rfl, Option.bind_some, p_len, show (0 : Int) = ((0 : Nat) : Int) from rfl, dl1 s _ hw 66 0 m (by omega) (by omega)]
      rfl
end Go.Proofs.YticofbaajdgabaaDoor.X

namespace Go.Proofs.YticofbaajdgabaaDoor.X
set_option linter.unusedVariables false
set_option linter.unusedSimpArgs false
open Go.RowKit Go.PA Go.Proofs.YticofbaajdgabaaDoorW.PrintWords Go.Proofs.YticofbaajdgabaaDoorW.PrintLast Go.Proofs.YticofbaajdgabaaDoorW.PrintMore
theorem known_is {k : Nat} (hk : 1100 ≤ k) : letterpresslaw2_known.f k = some true := by
  unfold letterpresslaw2_known.f
  rw [encode_is 3 [] (fun x hx => by cases hx) (by omega), Option.bind_some, decode_is [0, 4, 9] (by unfold U8; decide) (by decide) (by omega), Option.bind_some]
  rw [show encB 3 [] = ([0, 4], true) by decide +kernel, show dec [0, 4, 9] = (3, [], 2, true) by decide +kernel]
  decide +kernel
/-- The law's instruction, all that is known of it. -/
theorem made (op : Int) (ns : List Int) : ∃ (i : Fin 66) (l : List Int) (n : Nat), (∀ k, 100 ≤ k → letterpresslaw2_Make.f k op ns = some (((i.val : Nat) : Int), l)) ∧ enc ((i.val : Nat) : Int) l = some n ∧ I64 l ∧ l.length = (ks i.val).length := by
  obtain ⟨l, e, hr, ho, hw⟩ := make_is op ns (k := 100) (by decide)
  have hup : ∀ k, 100 ≤ k → letterpresslaw2_Make.f k op ns = some (op % 66, l) := by
    intro k hk
    induction hk with
    | refl => exact e
    | step _ ih => exact letterpresslaw2_Make.mono _ _ _ _ ih
  have he := make_enc hr ho
  have hl := okA_len ho
  generalize op % 66 = o at *
  obtain ⟨i, rfl⟩ := fin_of hr
  rw [Int.toNat_natCast] at hl
  exact ⟨i, l, _, hup, he, hw, hl⟩
end Go.Proofs.YticofbaajdgabaaDoor.X

namespace Go.Proofs.YticofbaajdgabaaDoor.Pure
set_option linter.unusedVariables false
set_option linter.unusedSimpArgs false
open Go.RowKit Go.PA Go.Proofs.YticofbaajdgabaaDoor.X Go.Proofs.YticofbaajdgabaaDoorW.PrintWords Go.Proofs.YticofbaajdgabaaDoorW.PrintLast Go.Proofs.YticofbaajdgabaaDoorW.PrintMore
/-- A branch may be. -/
theorem reach_is (i : Fin 66) (b : Nat) (v : Int) (hw : -9223372036854775808 ≤ v ∧ v < 9223372036854775808) (hk : ks i.val = [.T8] ∧ b = 9 ∨ ks i.val = [.T24] ∧ b = 25) {c : Int} (hc : c = b) {k : Nat} (hk2 : 400 ≤ k) {u : Int} (hu : u = ((i.val : Nat) : Int)) :
    ((isa_Right.f k u [v]).bind fun t => (if (Int.tmod v 2) = 0 then ((letterpressref1_Fits.f v c).bind fun s => (some (t == s))) else (some (t == false)))) = some true := by
  subst hu
  rw [right_is _ [v] (fun x hx => by rw [List.mem_singleton.1 hx]; exact hw) hk2, Option.bind_some, rfits_is v c b hc (by omega) (by omega), Option.bind_some]
  have hi := i.isLt
  have e : (enc ((i.val : Nat) : Int) [v]).isSome = decide (v % 2 = 0 ∧ -(2 ^ (b - 1)) ≤ v ∧ v < 2 ^ (b - 1)) := by
    unfold enc
    rw [Int.toNat_natCast]
    rcases hk with ⟨h, rfl⟩ | ⟨h, rfl⟩
    · rw [h]
      simp only [okA, Bool.and_true, Kn.ok]
      by_cases d : v % 2 = 0 ∧ -256 ≤ v ∧ v < 256
      · rw [if_pos ⟨⟨by omega, by omega⟩, decide_eq_true d⟩, Option.isSome_some]; symm; exact decide_eq_true d
      · rw [if_neg (fun h => d (of_decide_eq_true h.2)), Option.isSome_none]; symm; exact decide_eq_false d
    · rw [h]
      simp only [okA, Bool.and_true, Kn.ok]
      by_cases d : v % 2 = 0 ∧ -16777216 ≤ v ∧ v < 16777216
      · rw [if_pos ⟨⟨by omega, by omega⟩, decide_eq_true d⟩, Option.isSome_some]; symm; exact decide_eq_true d
      · rw [if_neg (fun h => d (of_decide_eq_true h.2)), Option.isSome_none]; symm; exact decide_eq_false d
  rw [e]
  by_cases d : v % 2 = 0
  · rw [if_pos ((tmod2 v).2 d)]
    simp [d]
  · rw [if_neg (fun h => d ((tmod2 v).1 h))]
    simp [d]
theorem four_is (k : Int) (hk : 0 ≤ k ∧ k < 4) : ∃ (i : Fin 66) (b : Nat), rd [41, 42, 56, 57] k = ((i.val : Nat) : Int) ∧ rd [9, 9, 25, 25] k = (b : Int) ∧ (ks i.val = [.T8] ∧ b = 9 ∨ ks i.val = [.T24] ∧ b = 25) := by
  have h : k = 0 ∨ k = 1 ∨ k = 2 ∨ k = 3 := by omega
  rcases h with rfl | rfl | rfl | rfl
  · exact ⟨41, 9, by decide +kernel, by decide +kernel, by decide +kernel⟩
  · exact ⟨42, 9, by decide +kernel, by decide +kernel, by decide +kernel⟩
  · exact ⟨56, 25, by decide +kernel, by decide +kernel, by decide +kernel⟩
  · exact ⟨57, 25, by decide +kernel, by decide +kernel, by decide +kernel⟩
theorem IsaReach : letterpresslaw2_IsaReach.Pure := by
  intro a0 a1 w0 w1
  refine ⟨1200, ?_⟩
  unfold letterpresslaw2_IsaReach.f
  rw [known_is (by decide), Option.bind_some, if_pos rfl]
  simp only [Option.bind_some]
  rw [within_is _ 4 (by decide), within_is _ 67108864 (by decide), within_is _ 3 (by decide), within_is _ 600 (by decide)]
  simp only [Option.bind_some]
  have hk : 0 ≤ a1 % 4 ∧ a1 % 4 < 4 := by omega
  have hv : 0 ≤ a0 % 67108864 ∧ a0 % 67108864 < 67108864 := by omega
  have hs : 0 ≤ a0 % 600 ∧ a0 % 600 < 600 := by omega
  generalize a1 % 4 = k at *
  generalize a0 % 67108864 = p at *
  generalize a0 % 600 = q at *
  obtain ⟨i, b, e1, e2, h⟩ := four_is k hk
  have l1 : k < (([41, 42, 56, 57] : List Int).length : Int) := by simp; omega
  have l2 : k < (([9, 9, 25, 25] : List Int).length : Int) := by simp; omega
  by_cases c : a0 % 3 = 0
  · rw [if_pos c, if_pos hk.1, if_pos l1]; simp only [l2, if_true]
    rw [e1]
    exact reach_is i b _ (by rw [wrap64_id (by omega) (by omega)]; omega) h e2 (by decide) rfl
  · rw [if_neg c, if_pos hk.1, if_pos l1]; simp only [l2, if_true]
    rw [e1]
    exact reach_is i b _ (by rw [wrap64_id (by omega) (by omega)]; omega) h e2 (by decide) rfl
end Go.Proofs.YticofbaajdgabaaDoor.Pure

namespace Go.Proofs.YticofbaajdgabaaDoor.X
open Go.RowKit
theorem tSpace : (Tryd.prog.globals[0]?).map (·.type) = some 96 := by kernel_rfl
theorem cells_u8 : Tryd.prog.cellsOf 5 = 1 := by kernel_rfl
theorem cells_tab : Tryd.prog.cellsOf 96 = 256 := by kernel_rfl
theorem datum {H : Type} : (Rows.laid_strings_asciiSpace : DataW H) = Lib.tabData .u8 Lib.asciiSpaceTab := by kernel_rfl
theorem LaidW.of {W : World} (h : laidMetH Tryd.prog [("unicode.White_Space", Rows.laid_unicode_White_Space), ("strings.asciiSpace", Rows.laid_strings_asciiSpace)] W) : LaidW W := by
  rw [MakeChecks.laidMetH_plain _ _ _ (by kernel_rfl)] at h
  obtain ⟨ps, ⟨g0, t0, cs0, f0, p0, q0, hg0, ht0, hv0, hd0, ⟨g1, t1, cs1, f1, p1, q1, hg1, ht1, hv1, hd1, _, _⟩, _⟩, _, _⟩ := h
  obtain rfl := Option.some.inj (gSpace.symm.trans hg1)
  obtain rfl := Option.some.inj (tSpace.symm.trans ht1)
  rw [datum] at hd1
  unfold LaidW Lib.TabIs
  rw [hv1, ← Lib.cells_of_tab Tryd.underlying96 Tryd.underlying5 cells_u8 cells_tab hd1]
/-- The door's own heap meets the condition. -/
theorem door_met (os : Os) (args : Array Value) : laidMetH Tryd.prog [("unicode.White_Space", Rows.laid_unicode_White_Space), ("strings.asciiSpace", Rows.laid_strings_asciiSpace)] ((World.doorLaid Tryd.prog 33 os).forCall (fun _ _ => 0) ⟨#[], args, []⟩).memory :=
  laidMetH_of_parts3 (fuel := 8) (laidMet_of_run' 8 (by kernel_rfl) (by kernel_rfl)) (by kernel_rfl) (by kernel_rfl)
end Go.Proofs.YticofbaajdgabaaDoor.X

namespace Go.Proofs.YticofbaajdgabaaDoor.isaReach
open Go.ChangeShapes Go.WideShapes Go.ChangeAt Go.RowKit
open Go.ChangeMaps (open_string shut_string)
set_option linter.unusedVariables false
theorem own : ownKnob Tryd.prog.godebug = none := by kernel_rfl
set_option maxRecDepth 100000 in
theorem lifted (os : Os) (started : os.Started) (H : Type) (enc : TypeId × Value → H) :
    ReturnsInHanded {} Tryd.checked os 12 .any (fun w args => (Rows.isaReachSpec.pre enc Tryd.prog Tryd.f12 [] false w args ∧ laidMetH Tryd.prog [("unicode.White_Space", Rows.laid_unicode_White_Space), ("strings.asciiSpace", Rows.laid_strings_asciiSpace)] w) ∧ sizedMet enc Tryd.prog Tryd.f12 (OpenSpec.ofChange Rows.isaReachSpec) false w args) (Rows.isaReachSpec.post enc Tryd.prog Tryd.f12 false true false false) := by
  refine returnsInHanded_of_change_and (C := Tryd.checked) (X := fun w _ => laidMetH Tryd.prog [("unicode.White_Space", Rows.laid_unicode_White_Space), ("strings.asciiSpace", Rows.laid_strings_asciiSpace)] w) (fun _ _ _ hh h => h.of_heap hh) own started (by kernel_rfl) Tryd.func12
    (ChangeSpec.witness_shaped (enc := enc) (C := Tryd.checked) (os := os) (X := fun w _ => laidMetH Tryd.prog [("unicode.White_Space", Rows.laid_unicode_White_Space), ("strings.asciiSpace", Rows.laid_strings_asciiSpace)] w) false (World.doorLaid Tryd.prog 33 os) #[.int .i64 0, .int .i64 0] 8 rfl (World.shaped_of_RefB (by kernel_rfl) (by kernel_rfl)) (by kernel_rfl) (by kernel_rfl) (by kernel_rfl) (X.door_met os _)) ?_
  intro W base args ds gs before hval0 hW hcnd hsz0 hL _
  have hLw := X.LaidW.of hL
  clear hL
  have hsz : (DataW.weightsEach Tryd.prog (Tryd.f12.params.toList ++ Rows.isaReachSpec.plain.varTypes Tryd.prog) (ds ++ gs)).all (· ≤ reachBytes) = true := hsz0
  have hval : ∀ (j : Nat) t v, Tryd.f12.params[j]? = some t → args[j]? = some v → Value.okWide Tryd.prog W .any base t v := hval0
  have hW' := hW
  obtain ⟨p, q, hA0, hV, rfl, hfz, hnd⟩ := hW
  have hA : DataW.TrodAll enc Tryd.prog W 0 (fun _ => true) true Tryd.f12.params.toList args.toList ds p := hA0
  rw [Tryd.params12] at hA hval hsz
  obtain ⟨v0, vs0, d0, ds0, p0, q0, hargs, rfl, rfl, h0, r0⟩ := trodAll_cons hA
  obtain ⟨v1, vs1, d1, ds1, p1, q1, rfl, rfl, rfl, h1, r1⟩ := trodAll_cons r0
  obtain ⟨rfl, rfl, rfl⟩ := trodAll_nil r1
  obtain rfl : args = #[v0, v1] := by cases args; simp_all
  obtain ⟨rfl, rfl⟩ := trodVars_none hV
  obtain ⟨a0, rfl, rfl, rfl, w0⟩ := open_int Tryd.underlying3 (hval 0 3 v0 rfl rfl) h0
  obtain ⟨a1, rfl, rfl, rfl, w1⟩ := open_int Tryd.underlying3 (hval 1 3 v1 rfl rfl) h1
  clear hA0 hval0 hsz0 hsz
  refine (X.letterpresslaw2_IsaReach.walk Pure.IsaReach a0 a1 W hLw w0 w1).mono fun e W' ⟨he, bel⟩ => ?_
  subst he
  exact ⟨_, rfl, _, _, _, [], _, [], hW', trodAll_mk1 (shut_bool Tryd.underlying4 _), (trodAll_cons_mk (shut_int Tryd.underlying3 w0) (trodAll_cons_mk (shut_int Tryd.underlying3 w1) trodAll_mk0)), rfl, bel.frame _, fun h => by cases h⟩
theorem over : Rows.isaReachRow.holds Tryd.pinned (OpenSpec.ofChange Rows.isaReachSpec) :=
  OpenClaim.holds_of_wide 12 Tryd.f12 rfl rfl rfl rfl rfl rfl rfl ⟨rfl, rfl, rfl, rfl, rfl⟩ rfl rfl rfl rfl rfl (by kernel_rfl) Tryd.func12 (by kernel_rfl)
    (of_decide_eq_true (by kernel_rfl)) (by unfold Func.isWrapper; first | (rw [if_pos (by decide +kernel)]; kernel_rfl) | (rw [if_neg (by decide +kernel)]; exact ⟨rfl, rfl⟩))
    (fun os started H enc _ => lifted os started H enc)
theorem proved : Rows.IsaReachSaid := over
theorem card : Rows.IsaReachCardSaid :=
  Claim7.holds_tied_plain_at .later [] [.listed, .data] true (true, "9e0941a3bed8b5483a3837efef2f762ae578b94fd63546c8948659d19f0475ca") false
    proved (fun _ h => by cases h) (by kernel_rfl) (fun _ h => by cases h) isaReach_row_tie rfl ⟨rfl, rfl⟩ (by kernel_rfl) rfl
    (fun f fn hf hfn => by
      obtain rfl : f = 12 := Option.some.inj ((show Tryd.prog.funcNamed Tryd.f12.name = some 12 by kernel_rfl).symm.trans hf) |>.symm
      obtain rfl : fn = Tryd.f12 := (Option.some.inj (Tryd.func12.symm.trans hfn)).symm
      exact ⟨by kernel_rfl, fun j t ht => by
        rw [Tryd.params12] at ht
        have hm : t ∈ [3, 3] := by simpa using Array.mem_of_getElem? ht
        have hall : ([3, 3].all fun u => !Tryd.prog.wantsStandIn u) = true := by kernel_rfl
        exact (show Tryd.prog.wantsStandIn t = false by simpa using List.all_eq_true.1 hall t hm)⟩)
    (by kernel_rfl)
end Go.Proofs.YticofbaajdgabaaDoor.isaReach
namespace Go.Proofs.YticofbaajdgabaaDoor
/-- The row, under a short name, for the claim. -/
theorem isaReach_holds : Rows.IsaReachCardSaid := isaReach.card
end Go.Proofs.YticofbaajdgabaaDoor
