/- Of a whole number made a float: how it stands to a power of two (no program here). -/
import GoSem.Core.Float
namespace Go.Fl
open Ieee

/-- The word of 2 ^ k. -/
def ldw (k : Int) : Nat := ((k + 1023) * 4503599627370496).toNat

theorem read_pos : ∀ n : Fin 41, double.read (ldw n.val) = .number false 4503599627370496 ((n.val : Int) - 52) := by decide +kernel
theorem read_neg : ∀ n : Fin 41, double.read (9223372036854775808 + ldw n.val) = .number true 4503599627370496 ((n.val : Int) - 52) := by decide +kernel

/-- A word of the second half of the binades, read. -/
theorem read_word (neg : Bool) (e f : Nat) (hf : f < 4503599627370496) (h0 : 1 ≤ e) (h1 : e < 2047) :
    double.read (double.word neg (e * 4503599627370496 + f)) = .number neg (4503599627370496 + f) ((e : Int) - 1075) := by
  have hs : double.signWeight = 9223372036854775808 := by decide
  have hb : double.binade = 4503599627370496 := by decide
  have hi : double.infRung = 2047 * 4503599627370496 := by decide
  have hl : double.leastPlace = -1074 := by decide
  have hr : e * 4503599627370496 + f < 9223372036854775808 := by omega
  have h2 : ∀ b : Bool, (double.word b (e * 4503599627370496 + f)) % 9223372036854775808 = e * 4503599627370496 + f := by
    intro b; cases b <;> simp only [Format.word, hs] <;> simp <;> omega
  have h3 : (double.word neg (e * 4503599627370496 + f)) / 9223372036854775808 % 2 = neg.toNat := by
    cases neg <;> simp only [Format.word, hs] <;> simp <;> omega
  simp only [Format.read, hs, hb, hi, hl, h2, h3]
  rw [if_neg (by omega), if_pos (by omega)]
  have e1 : (e * 4503599627370496 + f) % 4503599627370496 = f := by omega
  have e2 : (e * 4503599627370496 + f) / 4503599627370496 = e := by omega
  rw [e1, e2]
  congr 1
  · cases neg <;> rfl
  · omega

theorem cut_zero (neg : Bool) (n : Nat) : Toward.even.cut neg n 0 = n := by
  simp [Toward.cut, Nat.mod_one]

/-- A number below 2 ^ 53 is told exactly. -/
theorem read_small (neg : Bool) (m : Nat) (h0 : m ≠ 0) (h1 : m < 2 ^ 53) :
    double.read (double.nearest neg m 0) = .number neg (m * 2 ^ (52 - m.log2)) ((m.log2 : Int) - 52) := by
  have hL : m.log2 < 53 := (Nat.log2_lt h0).2 h1
  have hlo : 2 ^ m.log2 ≤ m := Nat.log2_self_le h0
  have hhi : m < 2 ^ (m.log2 + 1) := Nat.lt_log2_self
  have hfb : double.fractionBits = 52 := rfl
  have hl : double.leastPlace = -1074 := by decide
  have hb : double.binade = 4503599627370496 := by decide
  have hi : double.infRung = 2047 * 4503599627370496 := by decide
  simp only [Format.nearest, if_neg h0, hfb, hl, hb, hi]
  generalize m.log2 = L at *
  have hp : 2 ^ L * 2 ^ (52 - L) = 4503599627370496 := by rw [← Nat.pow_add, show L + (52 - L) = 52 by omega]
  have hm1 : 4503599627370496 ≤ m * 2 ^ (52 - L) := by rw [← hp]; exact Nat.mul_le_mul_right _ hlo
  have hm2 : m * 2 ^ (52 - L) < 2 * 4503599627370496 := by
    have : m * 2 ^ (52 - L) < 2 ^ (L + 1) * 2 ^ (52 - L) := Nat.mul_lt_mul_of_pos_right hhi (Nat.two_pow_pos _)
    rw [Nat.pow_succ, Nat.mul_comm (2 ^ L) 2, Nat.mul_assoc, hp] at this; exact this
  have hmax : max ((0 : Int) + L - (52 : Nat)) (-1074) = (L : Int) - 52 := by omega
  rw [hmax, show ((0 : Int) - ((L : Int) - 52)).toNat = 52 - L by omega, show ((L : Int) - 52 - 0).toNat = 0 by omega, show ((L : Int) - 52 - -1074).toNat = L + 1022 by omega, cut_zero, Nat.shiftLeft_eq]
  rw [Nat.min_eq_left (by omega), show (L + 1022) * 4503599627370496 + m * 2 ^ (52 - L) = (L + 1023) * 4503599627370496 + (m * 2 ^ (52 - L) - 4503599627370496) by omega, read_word _ _ _ (by omega) (by omega) (by omega)]
  rw [show 4503599627370496 + (m * 2 ^ (52 - L) - 4503599627370496) = m * 2 ^ (52 - L) by omega, show ((L + 1023 : Nat) : Int) - 1075 = (L : Int) - 52 by omega]

/-- A greater one is told as one of at least 2 ^ 53, or as infinity. -/
theorem read_great (neg : Bool) (m : Nat) (h1 : 2 ^ 53 ≤ m) :
    (∃ q e : Nat, 4503599627370496 ≤ q ∧ double.read (double.nearest neg m 0) = .number neg q ((e : Int) + 1)) ∨ double.read (double.nearest neg m 0) = .infinity neg := by
  have h0 : m ≠ 0 := by rintro rfl; simp at h1
  have hL : 53 ≤ m.log2 := (Nat.le_log2 h0).2 h1
  have hlo : 2 ^ m.log2 ≤ m := Nat.log2_self_le h0
  have hhi : m < 2 ^ (m.log2 + 1) := Nat.lt_log2_self
  have hfb : double.fractionBits = 52 := rfl
  have hl : double.leastPlace = -1074 := by decide
  have hb : double.binade = 4503599627370496 := by decide
  have hi : double.infRung = 2047 * 4503599627370496 := by decide
  have hcut : ∀ d, Toward.even.cut neg m d = m / (1 <<< min d (m.log2 + 2)) ∨ Toward.even.cut neg m d = m / (1 <<< min d (m.log2 + 2)) + 1 := by
    intro d; simp only [Toward.cut]; cases (_ || _ : Bool) <;> simp
  simp only [Format.nearest, if_neg h0, hfb, hl, hb, hi]
  generalize m.log2 = L at *
  have hmax : max ((0 : Int) + L - (52 : Nat)) (-1074) = (L : Int) - 52 := by omega
  rw [hmax, show ((0 : Int) - ((L : Int) - 52)).toNat = 0 by omega, show ((L : Int) - 52 - 0).toNat = L - 52 by omega, show ((L : Int) - 52 - -1074).toNat = L + 1022 by omega, Nat.shiftLeft_zero]
  have hc := hcut (L - 52)
  rw [Nat.min_eq_left (by omega), Nat.shiftLeft_eq, Nat.one_mul] at hc
  have hq1 : 4503599627370496 ≤ m / 2 ^ (L - 52) := by
    rw [Nat.le_div_iff_mul_le (Nat.two_pow_pos _)]
    have : (4503599627370496 : Nat) * 2 ^ (L - 52) = 2 ^ L := by rw [show (4503599627370496 : Nat) = 2 ^ 52 by decide, ← Nat.pow_add, show 52 + (L - 52) = L by omega]
    omega
  have hq2 : m / 2 ^ (L - 52) < 2 * 4503599627370496 := by
    rw [Nat.div_lt_iff_lt_mul (Nat.two_pow_pos _)]
    have : (2 * 4503599627370496 : Nat) * 2 ^ (L - 52) = 2 ^ (L + 1) := by rw [show (2 * 4503599627370496 : Nat) = 2 ^ 53 by decide, ← Nat.pow_add, show 53 + (L - 52) = L + 1 by omega]
    omega
  obtain ⟨c, hc'⟩ : ∃ c, Toward.even.cut neg m (L - 52) = c := ⟨_, rfl⟩
  rw [hc'] at hc ⊢
  have hc1 : 4503599627370496 ≤ c ∧ c ≤ 2 * 4503599627370496 := by omega
  by_cases hb2 : (L + 1022) * 4503599627370496 + c < 2047 * 4503599627370496
  · left
    rw [Nat.min_eq_left (by omega)]
    by_cases he : c = 2 * 4503599627370496
    · refine ⟨4503599627370496, L - 52, Nat.le_refl _, ?_⟩
      rw [he, show (L + 1022) * 4503599627370496 + 2 * 4503599627370496 = (L + 1024) * 4503599627370496 + 0 by omega, read_word _ _ _ (by omega) (by omega) (by omega)]
      rw [show ((L + 1024 : Nat) : Int) - 1075 = ((L - 52 : Nat) : Int) + 1 by omega]
    · refine ⟨c, L - 53, hc1.1, ?_⟩
      rw [show (L + 1022) * 4503599627370496 + c = (L + 1023) * 4503599627370496 + (c - 4503599627370496) by omega, read_word _ _ _ (by omega) (by omega) (by omega)]
      rw [show 4503599627370496 + (c - 4503599627370496) = c by omega, show ((L + 1023 : Nat) : Int) - 1075 = ((L - 53 : Nat) : Int) + 1 by omega]
  · right
    rw [Nat.min_eq_right (by omega)]
    cases neg <;> decide

theorem signed_eq (neg : Bool) (m u : Nat) : signed neg m u = (if neg then -1 else 1) * ((m : Int) * 2 ^ u) := by
  cases neg <;> simp [signed, Nat.shiftLeft_eq]

theorem compare_mul (a b c : Int) (hc : 0 < c) : compare (a * c) (b * c) = compare a b := by
  have h1 : a * c < b * c ↔ a < b := Int.mul_lt_mul_right hc
  have h2 : a * c = b * c ↔ a = b := ⟨fun h => Int.eq_of_mul_eq_mul_right (by omega) h, fun h => by rw [h]⟩
  simp only [compare, compareOfLessAndEq, h1, h2]

theorem compare_lt {a b : Int} (h : a < b) : compare a b = .lt := by simp only [compare, compareOfLessAndEq]; rw [if_pos h]
theorem compare_gt {a b : Int} (h : b < a) : compare a b = .gt := by simp only [compare, compareOfLessAndEq]; rw [if_neg (by omega), if_neg (by omega)]

/-- How a whole number, as a float, stands to 2 ^ k, with a sign. -/
theorem order_pow (v : Int) (k : Nat) (hk : k ≤ 40) (t : Bool) :
    Datum.order (double.read (double.nearest (v < 0) v.natAbs 0)) (.number t 4503599627370496 ((k : Int) - 52)) = some (compare v ((if t then -1 else 1) * 2 ^ k)) := by
  have hsm : (2 : Nat) ^ k < 2 ^ 53 := Nat.pow_lt_pow_right (by decide) (by omega)
  have hkz : ((2 : Int) ^ k) = ((2 ^ k : Nat) : Int) := by simp
  have hP : (2 : Int) ^ k < 9007199254740992 ∧ 0 < (2 : Int) ^ k := by rw [hkz]; have := Nat.two_pow_pos k; omega
  have hscale : ∀ u d : Nat, 52 + d = k + u → (4503599627370496 : Int) * 2 ^ d = 2 ^ k * 2 ^ u := by
    intro u d h
    rw [show (4503599627370496 : Int) = 2 ^ 52 by decide, ← Int.pow_add, ← Int.pow_add, h]
  by_cases hz : v = 0
  · subst hz
    have : double.read (double.nearest (decide ((0 : Int) < 0)) (0 : Int).natAbs 0) = .number false 0 (-1074) := by decide
    rw [this]
    simp only [Datum.order, signed_eq]
    have hmin : min (-1074 : Int) ((k : Int) - 52) = -1074 := by omega
    rw [hmin]
    have hd := hscale 1074 ((k : Int) - 52 - -1074).toNat (by omega)
    have e4 : ((4503599627370496 : Nat) : Int) = 4503599627370496 := rfl
    generalize (2 : Int) ^ (-1074 - -1074 : Int).toNat = q0
    have hq : (0 : Int) < 2 ^ 1074 := Int.pow_pos (by decide)
    generalize (2 : Int) ^ 1074 = u at *
    rw [e4, hd, show (if false = true then (-1 : Int) else 1) * (((0 : Nat) : Int) * q0) = 0 * u by simp, ← Int.mul_assoc, compare_mul _ _ _ hq]
  · have hv : v = (if v < 0 then -1 else 1) * (v.natAbs : Int) := by split <;> omega
    by_cases hb : v.natAbs < 2 ^ 53
    · rw [read_small _ _ (by omega) hb]
      have hL : v.natAbs.log2 < 53 := (Nat.log2_lt (by omega)).2 hb
      simp only [Datum.order, signed_eq]
      generalize v.natAbs.log2 = L at *
      obtain ⟨b, hbase⟩ : ∃ b, min ((L : Int) - 52) ((k : Int) - 52) = b := ⟨_, rfl⟩
      rw [hbase]
      have hd := hscale (-b).toNat ((k : Int) - 52 - b).toNat (by omega)
      have e4 : ((4503599627370496 : Nat) : Int) = 4503599627370496 := rfl
      have hm : ((v.natAbs * 2 ^ (52 - L) : Nat) : Int) * 2 ^ ((L : Int) - 52 - b).toNat = (v.natAbs : Int) * 2 ^ (-b).toNat := by
        rw [show (-b).toNat = (52 - L) + ((L : Int) - 52 - b).toNat by omega, Int.pow_add, ← Int.mul_assoc]
        simp
      rw [e4, hd, hm, ← Int.mul_assoc, ← Int.mul_assoc, compare_mul _ _ _ (Int.pow_pos (by decide))]
      congr 2
      by_cases hneg : v < 0
      · simp [hneg]; omega
      · simp [hneg]; omega
    · rcases read_great (v < 0) v.natAbs (by omega) with ⟨q, e, hq, hr⟩ | hr
      · rw [hr]
        simp only [Datum.order, signed_eq]
        have hmin : min ((e : Int) + 1) ((k : Int) - 52) = (k : Int) - 52 := by omega
        rw [hmin, show ((k : Int) - 52 - ((k : Int) - 52)).toNat = 0 by omega]
        have hbig : (2 : Int) * 4503599627370496 ≤ (q : Int) * 2 ^ ((e : Int) + 1 - ((k : Int) - 52)).toNat := by
          have h1 : (2 : Int) ^ 1 ≤ 2 ^ ((e : Int) + 1 - ((k : Int) - 52)).toNat := by
            have := Nat.pow_le_pow_right (n := 2) (by decide) (show 1 ≤ ((e : Int) + 1 - ((k : Int) - 52)).toNat by omega)
            exact_mod_cast this
          have h2 : (4503599627370496 : Int) ≤ q := by omega
          have := Int.mul_le_mul h2 h1 (by decide) (by omega)
          omega
        generalize (q : Int) * 2 ^ ((e : Int) + 1 - ((k : Int) - 52)).toNat = z at hbig
        have e5 : ((4503599627370496 : Nat) : Int) * 2 ^ 0 = 4503599627370496 := rfl
        rw [e5]
        by_cases hneg : v < 0
        · have a1 : v < (if t then -1 else 1) * 2 ^ k := by clear hscale; generalize (2 : Int) ^ k = P at hP; cases t <;> simp <;> omega
          rw [compare_lt a1, compare_lt]
          simp only [hneg, decide_true, if_true]
          cases t <;> simp <;> omega
        · have a1 : (if t then -1 else 1) * 2 ^ k < v := by clear hscale; generalize (2 : Int) ^ k = P at hP; cases t <;> simp <;> omega
          rw [compare_gt a1, compare_gt]
          simp only [hneg, decide_false]
          cases t <;> simp <;> omega
      · rw [hr]
        simp only [Datum.order]
        by_cases hneg : v < 0
        · have a1 : v < (if t then -1 else 1) * 2 ^ k := by clear hscale; generalize (2 : Int) ^ k = P at hP; cases t <;> simp <;> omega
          rw [compare_lt a1]; simp [hneg]
        · have a1 : (if t then -1 else 1) * 2 ^ k < v := by clear hscale; generalize (2 : Int) ^ k = P at hP; cases t <;> simp <;> omega
          rw [compare_gt a1]; simp [hneg]

/-- As imm.Fits asks it. -/
theorem fits_is (v : Int) (k : Nat) (hk : k ≤ 40) :
    ((FloatKind.f64.format.order (FloatKind.f64.nearest v) (9223372036854775808 + ldw k) == some .gt || FloatKind.f64.format.order (FloatKind.f64.nearest v) (9223372036854775808 + ldw k) == some .eq) && FloatKind.f64.format.order (FloatKind.f64.nearest v) (ldw k) == some .lt) = decide (-(2 ^ k) ≤ v ∧ v < 2 ^ k) := by
  have h1 : FloatKind.f64.format.order (FloatKind.f64.nearest v) (9223372036854775808 + ldw k) = some (compare v (-(2 ^ k))) := by
    have h := order_pow v k hk true
    rw [show (if true then (-1 : Int) else 1) * 2 ^ k = -(2 ^ k) by simp] at h
    rw [← h, ← read_neg ⟨k, by omega⟩]; rfl
  have h2 : FloatKind.f64.format.order (FloatKind.f64.nearest v) (ldw k) = some (compare v (2 ^ k)) := by
    have h := order_pow v k hk false
    rw [show (if false = true then (-1 : Int) else 1) * 2 ^ k = 2 ^ k by simp] at h
    rw [← h, ← read_pos ⟨k, by omega⟩]; rfl
  rw [h1, h2]
  rcases Int.lt_trichotomy v (-(2 ^ k)) with a | a | a
  · rw [compare_lt a, Bool.eq_iff_iff]; simp; omega
  · have hp : (0 : Int) < 2 ^ k := Int.pow_pos (by decide)
    have b : v < 2 ^ k := by omega
    rw [compare_lt b, a]; simp [compare, compareOfLessAndEq]; omega
  · rw [compare_gt a]
    rcases Int.lt_trichotomy v (2 ^ k) with b | b | b
    · rw [compare_lt b]; simp; omega
    · rw [b]; simp [compare, compareOfLessAndEq]
    · rw [compare_gt b]; simp; omega
end Go.Fl
