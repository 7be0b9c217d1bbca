/- Plain facts on wrapped numbers, bits and signs (no program here). -/
import Derived.RowKit
import Derived.Laws.BitsLemmas
import Derived.Test.YteoacclnndbcfaaWMore
namespace Go.PA
open Go.RowKit Go.Proofs.YteoacclnndbcfaaW.PrintMore Go.Proofs.YteoacclnndbcfaaW.PrintWords

theorem wrap_u64 (n : Int) : IntKind.u64.wrap n = n % 18446744073709551616 := by simp [IntKind.wrap, IntKind.bits, IntKind.signed]

theorem wrap64_id {n : Int} (h0 : -9223372036854775808 ≤ n) (h1 : n < 9223372036854775808) : wrap64 n = n := by unfold wrap64; omega

theorem i64_wrap (n : Int) : IntKind.i64.wrap n = wrap64 n := by rw [IntKind.wrap_i64]; unfold wrap64; rfl

theorem wf_i64 {n : Int} (h : (Lit.int .i64 n).wf = true) : -9223372036854775808 ≤ n ∧ n < 9223372036854775808 := by
  simp [Lit.wf, IntKind.min, IntKind.max, IntKind.signed, IntKind.bits] at h
  omega

/-- 'a & (2^j - 1)', of any int. -/
theorem and_mask (a : Int) (j : Nat) (hj : j ≤ 62) : bits .and .i64 a (2 ^ j - 1) = a % 2 ^ j := by
  have hp : (1 : Int) ≤ 2 ^ j := by have := Nat.two_pow_pos j; exact_mod_cast this
  have hlt : (2 : Nat) ^ j ≤ 2 ^ 62 := Nat.pow_le_pow_right (by decide) hj
  have hc : ((2 : Int) ^ j - 1) = ((2 ^ j - 1 : Nat) : Int) := by rw [Int.natCast_sub (Nat.two_pow_pos j)]; simp
  have hnn : 0 ≤ a % 2 ^ j := Int.emod_nonneg _ (by omega)
  have hl : a % 2 ^ j < 2 ^ j := Int.emod_lt_of_pos _ (by omega)
  have hm : ((2 ^ j - 1 : Nat)) % 2 ^ 64 = 2 ^ j - 1 := Nat.mod_eq_of_lt (by have := Nat.two_pow_pos j; omega)
  have h64 : (2 : Int) ^ j ∣ 2 ^ 64 := ⟨2 ^ (64 - j), by rw [← Int.pow_add, show j + (64 - j) = 64 by omega]⟩
  rw [show bits .and .i64 a (2 ^ j - 1) = IntKind.i64.wrap ((BitVec.ofInt 64 a &&& BitVec.ofInt 64 (2 ^ j - 1)).toNat : Int) from rfl]
  rw [hc, BitVec.ofInt_natCast, BitVec.toNat_and, BitVec.toNat_ofNat, hm, BitVec.toNat_ofInt, Nat.and_two_pow_sub_one_eq_mod, i64_wrap]
  have e : (((a % ((2 ^ 64 : Nat) : Int)).toNat % 2 ^ j : Nat) : Int) = a % 2 ^ j := by
    rw [Int.natCast_emod, Int.toNat_of_nonneg (Int.emod_nonneg _ (by decide))]
    rw [show (((2 : Nat) ^ j : Nat) : Int) = 2 ^ j by simp, show (((2 : Nat) ^ 64 : Nat) : Int) = 2 ^ 64 by decide]
    exact Int.emod_emod_of_dvd a h64
  rw [e]
  have : (2 : Int) ^ j ≤ 2 ^ 62 := by exact_mod_cast hlt
  exact wrap64_id (by omega) (by omega)

theorem and15 (a : Int) : bits .and .i64 a 15 = a % 16 := and_mask a 4 (by decide)
theorem and31 (a : Int) : bits .and .i64 a 31 = a % 32 := and_mask a 5 (by decide)
theorem and255 (a : Int) : bits .and .i64 a 255 = a % 256 := and_mask a 8 (by decide)
theorem and2047 (a : Int) : bits .and .i64 a 2047 = a % 2048 := and_mask a 11 (by decide)

theorem wraps_i64 (n : Int) (h0 : 0 ≤ n) (h1 : n < 2 ^ 62) : IntKind.i64.wrap n = n := by rw [i64_wrap]; exact wrap64_id (by omega) (by omega)

/-- 'x | y' where y lies below x's lowest bit. -/
theorem or_join (i : Nat) (x y : Int) (hx0 : 0 ≤ x) (hx : x % 2 ^ i = 0) (hx1 : x < 4611686018427387904) (hy0 : 0 ≤ y) (hy : y < 2 ^ i) (hy1 : y < 4611686018427387904) : bits .or .i64 x y = x + y :=
  bits_join .i64 62 (by decide) wraps_i64 i x y hx0 hx (by omega) hy0 hy (by omega)

/-- The number that the lowest bits of v are, with a sign; m = 2 ^ bits. -/
def sg (v m : Int) : Int := (v + m / 2) % m - m / 2

theorem sg_def (v m : Int) : sg v m = (v + m / 2) % m - m / 2 := rfl

theorem sg_of (v h : Int) (hh : 0 < h) : sg v (2 * h) = if v % (2 * h) ≥ h then v % (2 * h) - 2 * h else v % (2 * h) := by
  have hr0 : 0 ≤ v % (2 * h) := Int.emod_nonneg _ (by omega)
  have hr1 : v % (2 * h) < 2 * h := Int.emod_lt_of_pos _ (by omega)
  have hd := Int.emod_add_mul_ediv v (2 * h)
  unfold sg
  rw [show 2 * h / 2 = h by omega]
  generalize v % (2 * h) = r at *
  generalize v / (2 * h) = q at *
  subst hd
  by_cases c : r ≥ h
  · rw [if_pos c, show r + 2 * h * q + h = (r + h - 2 * h) + 2 * h * (q + 1) by rw [Int.mul_add]; omega, Int.add_mul_emod_self_left, Int.emod_eq_of_lt (by omega) (by omega)]; omega
  · rw [if_neg c, show r + 2 * h * q + h = (r + h) + 2 * h * q by omega, Int.add_mul_emod_self_left, Int.emod_eq_of_lt (by omega) (by omega)]; omega

theorem pow_half (b : Nat) (hb : 1 ≤ b) : (2 : Int) ^ b = 2 * 2 ^ (b - 1) := by
  obtain ⟨c, rfl⟩ : ∃ c, b = c + 1 := ⟨b - 1, by omega⟩
  rw [Int.pow_succ]; simp; omega

theorem pow_pos (b : Nat) : (0 : Int) < 2 ^ b := Int.pow_pos (by decide)

theorem pow_le {a b : Nat} (h : a ≤ b) : (2 : Int) ^ a ≤ 2 ^ b := by exact_mod_cast Nat.pow_le_pow_right (n := 2) (by decide) h

/-- imm.Sign's own way. -/
theorem sg_shift (v : Int) (b : Nat) (h1 : 1 ≤ b) (h2 : b ≤ 64) : wrap64 (v * 2 ^ (64 - b)) / 2 ^ (64 - b) = sg v (2 ^ b) := by
  have hc : (0 : Int) < 2 ^ (64 - b) := pow_pos _
  have hm : (2 : Int) ^ (64 - b) * 2 ^ b = 18446744073709551616 := by rw [← Int.pow_add, show 64 - b + b = 64 by omega]; decide
  have hh : (2 : Int) ^ b / 2 = 2 ^ (b - 1) := by rw [pow_half b h1]; omega
  have hm2 : (2 : Int) ^ (64 - b) * 2 ^ (b - 1) = 9223372036854775808 := by rw [← Int.pow_add, show 64 - b + (b - 1) = 63 by omega]; decide
  unfold wrap64 sg
  rw [hh, ← hm2, ← hm]
  generalize (2 : Int) ^ (64 - b) = c at *
  generalize (2 : Int) ^ b = m at *
  generalize (2 : Int) ^ (b - 1) = h at *
  rw [Int.mul_comm v c, ← Int.mul_add, Int.mul_emod_mul_of_pos _ _ hc, ← Int.mul_sub, Int.mul_ediv_cancel_left _ (by omega)]

theorem sg_bounds (v : Int) (b : Nat) (h1 : 1 ≤ b) : -(2 ^ (b - 1)) ≤ sg v (2 ^ b) ∧ sg v (2 ^ b) < 2 ^ (b - 1) := by
  have hp := pow_pos (b - 1)
  rw [pow_half b h1]
  generalize (2 : Int) ^ (b - 1) = h at *
  unfold sg
  have h0 := Int.emod_nonneg (v + 2 * h / 2) (show 2 * h ≠ 0 by omega)
  have h3 := Int.emod_lt_of_pos (v + 2 * h / 2) (show 0 < 2 * h by omega)
  omega

theorem sg_id (v : Int) (b : Nat) (h1 : 1 ≤ b) (h2 : -(2 ^ (b - 1)) ≤ v) (h3 : v < 2 ^ (b - 1)) : sg v (2 ^ b) = v := by
  have hp := pow_pos (b - 1)
  rw [pow_half b h1]
  generalize (2 : Int) ^ (b - 1) = h at *
  unfold sg
  rw [Int.emod_eq_of_lt (by omega) (by omega)]; omega

theorem sg_mod (v : Int) (m : Int) : ∃ q, v - sg v m = m * q := by
  unfold sg
  have := Int.emod_add_mul_ediv (v + m / 2) m
  exact ⟨(v + m / 2) / m, by omega⟩

/-- More rounds tell the same. -/
theorem more {α : Type} {g : Nat → Option α} (hm : ∀ k, LeO (g k) (g (k + 1))) {k k' : Nat} (h : k ≤ k') {r : α} (e : g k = some r) : g k' = some r := by
  obtain ⟨d, rfl⟩ : ∃ d, k' = k + d := ⟨k' - k, by omega⟩
  clear h
  induction d with
  | zero => exact e
  | succ d ih => exact hm _ _ ih
end Go.PA
