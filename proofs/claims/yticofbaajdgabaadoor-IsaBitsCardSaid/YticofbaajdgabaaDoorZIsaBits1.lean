/- IsaBits: part 1: the written functions, their contracts, and what is said of them. -/
import Derived.Test.YticofbaajdgabaaDoorZIsaBits0
import GoSem.Core.Float
import Derived.Test.YticofbaajdgabaaDoorProg
import Derived.Lib.LaidTab
import Derived.Lib.SmallJoins
import Derived.Lib.Space
import Derived.Shelf.Strings.Fields
import Derived.Shelf.LaysM
import Derived.Shelf.Strings.SplitShaped
import Derived.Shelf.Unicode.Latin
import Derived.Shelf.Unicode.Is16White
import Derived.Shelf.Unicode.IsSpaceAny
import Derived.Shelf.Unicode.Is16Any
import Derived.Shelf.Unicode.Is32Any
import Derived.Shelf.Unicode.ExclAny
import Derived.Ground.Names2Prog
import Derived.Shelf.Slices.Clone
import Derived.Ground.SlgnProg
import Derived.Shelf.SlicesE.Clone
import Derived.Calls
import Derived.WalkLawsBesides
import Derived.WalkSpells
set_option linter.unusedVariables false
set_option linter.unusedSimpArgs false
namespace Go.Fl
open Ieee
/-- The word of 2 ^ k. -/
def ldw (k : Int) : Nat := ((k + 1023) * 4503599627370496).toNat
theorem read_pos : ∀ n : Fin 41, double.read (ldw n.val) = .number false 4503599627370496 ((n.val : Int) - 52) := by decide +kernel
theorem read_neg : ∀ n : Fin 41, double.read (9223372036854775808 + ldw n.val) = .number true 4503599627370496 ((n.val : Int) - 52) := by decide +kernel
/-- A word of the second half of the binades, read. -/
theorem read_word (neg : Bool) (e f : Nat) (hf : f < 4503599627370496) (h0 : 1 ≤ e) (h1 : e < 2047) :
    double.read (double.word neg (e * 4503599627370496 + f)) = .number neg (4503599627370496 + f) ((e : Int) - 1075) := by
  have hs : double.signWeight = 9223372036854775808 := by decide
  have hb : double.binade = 4503599627370496 := by decide
  have hi : double.infRung = 2047 * 4503599627370496 := by decide
  have hl : double.leastPlace = -1074 := by decide
  have hr : e * 4503599627370496 + f < 9223372036854775808 := by omega
  have h2 : ∀ b : Bool, (double.word b (e * 4503599627370496 + f)) % 9223372036854775808 = e * 4503599627370496 + f := by
    intro b; cases b <;> simp only [Format.word, hs] <;> simp <;> omega
  have h3 : (double.word neg (e * 4503599627370496 + f)) / 9223372036854775808 % 2 = neg.toNat := by
    cases neg <;> simp only [Format.word, hs] <;> simp <;> omega
  simp only [Format.read, hs, hb, hi, hl, h2, h3]
  rw [if_neg (by omega), if_pos (by omega)]
  have e1 : (e * 4503599627370496 + f) % 4503599627370496 = f := by omega
  have e2 : (e * 4503599627370496 + f) / 4503599627370496 = e := by omega
  rw [e1, e2]
  congr 1
  · cases neg <;> rfl
  · omega
theorem cut_zero (neg : Bool) (n : Nat) : Toward.even.cut neg n 0 = n := by
  simp [Toward.cut, Nat.mod_one]
/-- A number below 2 ^ 53 is told exactly. -/
theorem read_small (neg : Bool) (m : Nat) (h0 : m ≠ 0) (h1 : m < 2 ^ 53) :
    double.read (double.nearest neg m 0) = .number neg (m * 2 ^ (52 - m.log2)) ((m.log2 : Int) - 52) := by
  have hL : m.log2 < 53 := (Nat.log2_lt h0).2 h1
  have hlo : 2 ^ m.log2 ≤ m := Nat.log2_self_le h0
  have hhi : m < 2 ^ (m.log2 + 1) := Nat.lt_log2_self
  have hfb : double.fractionBits = 52 := rfl
  have hl : double.leastPlace = -1074 := by decide
  have hb : double.binade = 4503599627370496 := by decide
  have hi : double.infRung = 2047 * 4503599627370496 := by decide
  simp only [Format.nearest, if_neg h0, hfb, hl, hb, hi]
  generalize m.log2 = L at *
  have hp : 2 ^ L * 2 ^ (52 - L) = 4503599627370496 := by rw [← Nat.pow_add, show L + (52 - L) = 52 by omega]
  have hm1 : 4503599627370496 ≤ m * 2 ^ (52 - L) := by rw [← hp]; exact Nat.mul_le_mul_right _ hlo
  have hm2 : m * 2 ^ (52 - L) < 2 * 4503599627370496 := by
    have : m * 2 ^ (52 - L) < 2 ^ (L + 1) * 2 ^ (52 - L) := Nat.mul_lt_mul_of_pos_right hhi (Nat.two_pow_pos _)
    rw [Nat.pow_succ, Nat.mul_comm (2 ^ L) 2, Nat.mul_assoc, hp] at this; exact this
  have hmax : max ((0 : Int) + L - (52 : Nat)) (-1074) = (L : Int) - 52 := by omega
  rw [hmax, show ((0 : Int) - ((L : Int) - 52)).toNat = 52 - L by omega, show ((L : Int) - 52 - 0).toNat = 0 by omega, show ((L : Int) - 52 - -1074).toNat = L + 1022 by omega, cut_zero, Nat.shiftLeft_eq]
  rw [Nat.min_eq_left (by omega), show (L + 1022) * 4503599627370496 + m * 2 ^ (52 - L) = (L + 1023) * 4503599627370496 + (m * 2 ^ (52 - L) - 4503599627370496) by omega, read_word _ _ _ (by omega) (by omega) (by omega)]
  rw [show 4503599627370496 + (m * 2 ^ (52 - L) - 4503599627370496) = m * 2 ^ (52 - L) by omega, show ((L + 1023 : Nat) : Int) - 1075 = (L : Int) - 52 by omega]
/-- A greater one is told as one of at least 2 ^ 53, or as infinity. -/
theorem read_great (neg : Bool) (m : Nat) (h1 : 2 ^ 53 ≤ m) :
    (∃ q e : Nat, 4503599627370496 ≤ q ∧ double.read (double.nearest neg m 0) = .number neg q ((e : Int) + 1)) ∨ double.read (double.nearest neg m 0) = .infinity neg := by
  have h0 : m ≠ 0 := by rintro rfl; simp at h1
  have hL : 53 ≤ m.log2 := (Nat.le_log2 h0).2 h1
  have hlo : 2 ^ m.log2 ≤ m := Nat.log2_self_le h0
  have hhi : m < 2 ^ (m.log2 + 1) := Nat.lt_log2_self
  have hfb : double.fractionBits = 52 := rfl
  have hl : double.leastPlace = -1074 := by decide
  have hb : double.binade = 4503599627370496 := by decide
  have hi : double.infRung = 2047 * 4503599627370496 := by decide
  have hcut : ∀ d, Toward.even.cut neg m d = m / (1 <<< min d (m.log2 + 2)) ∨ Toward.even.cut neg m d = m / (1 <<< min d (m.log2 + 2)) + 1 := by
    intro d; simp only [Toward.cut]; cases (_ || _ : Bool) <;> simp
  simp only [Format.nearest, if_neg h0, hfb, hl, hb, hi]
  generalize m.log2 = L at *
  have hmax : max ((0 : Int) + L - (52 : Nat)) (-1074) = (L : Int) - 52 := by omega
  rw [hmax, show ((0 : Int) - ((L : Int) - 52)).toNat = 0 by omega, show ((L : Int) - 52 - 0).toNat = L - 52 by omega, show ((L : Int) - 52 - -1074).toNat = L + 1022 by omega, Nat.shiftLeft_zero]
  have hc := hcut (L - 52)
  rw [Nat.min_eq_left (by omega), Nat.shiftLeft_eq, Nat.one_mul] at hc
  have hq1 : 4503599627370496 ≤ m / 2 ^ (L - 52) := by
    rw [Nat.le_div_iff_mul_le (Nat.two_pow_pos _)]
    have : (4503599627370496 : Nat) * 2 ^ (L - 52) = 2 ^ L := by rw [show (4503599627370496 : Nat) = 2 ^ 52 by decide, ← Nat.pow_add, show 52 + (L - 52) = L by omega]
    omega
  have hq2 : m / 2 ^ (L - 52) < 2 * 4503599627370496 := by
    rw [Nat.div_lt_iff_lt_mul (Nat.two_pow_pos _)]
    have : (2 * 4503599627370496 : Nat) * 2 ^ (L - 52) = 2 ^ (L + 1) := by rw [show (2 * 4503599627370496 : Nat) = 2 ^ 53 by decide, ← Nat.pow_add, show 53 + (L - 52) = L + 1 by omega]
    omega
  obtain ⟨c, hc'⟩ : ∃ c, Toward.even.cut neg m (L - 52) = c := ⟨_, rfl⟩
  rw [hc'] at hc ⊢
  have hc1 : 4503599627370496 ≤ c ∧ c ≤ 2 * 4503599627370496 := by omega
  by_cases hb2 : (L + 1022) * 4503599627370496 + c < 2047 * 4503599627370496
  · left
    rw [Nat.min_eq_left (by omega)]
    by_cases he : c = 2 * 4503599627370496
    · refine ⟨4503599627370496, L - 52, Nat.le_refl _, ?_⟩
      rw [he, show (L + 1022) * 4503599627370496 + 2 * 4503599627370496 = (L + 1024) * 4503599627370496 + 0 by omega, read_word _ _ _ (by omega) (by omega) (by omega)]
      rw [show ((L + 1024 : Nat) : Int) - 1075 = ((L - 52 : Nat) : Int) + 1 by omega]
    · refine ⟨c, L - 53, hc1.1, ?_⟩
      rw [show (L + 1022) * 4503599627370496 + c = (L + 1023) * 4503599627370496 + (c - 4503599627370496) by omega, read_word _ _ _ (by omega) (by omega) (by omega)]
      rw [show 4503599627370496 + (c - 4503599627370496) = c by omega, show ((L + 1023 : Nat) : Int) - 1075 = ((L - 53 : Nat) : Int) + 1 by omega]
  · right
    rw [Nat.min_eq_right (by omega)]
    cases neg <;> decide
theorem signed_eq (neg : Bool) (m u : Nat) : signed neg m u = (if neg then -1 else 1) * ((m : Int) * 2 ^ u) := by
  cases neg <;> simp [signed, Nat.shiftLeft_eq]
theorem compare_mul (a b c : Int) (hc : 0 < c) : compare (a * c) (b * c) = compare a b := by
  have h1 : a * c < b * c ↔ a < b := Int.mul_lt_mul_right hc
  have h2 : a * c = b * c ↔ a = b := ⟨fun h => Int.eq_of_mul_eq_mul_right (by omega) h, fun h => by rw [h]⟩
  simp only [compare, compareOfLessAndEq, h1, h2]
theorem compare_lt {a b : Int} (h : a < b) : compare a b = .lt := by simp only [compare, compareOfLessAndEq]; rw [if_pos h]
theorem compare_gt {a b : Int} (h : b < a) : compare a b = .gt := by simp only [compare, compareOfLessAndEq]; rw [if_neg (by omega), if_neg (by omega)]
/-- How a whole number, as a float, stands to 2 ^ k, with a sign. -/
theorem order_pow (v : Int) (k : Nat) (hk : k ≤ 40) (t : Bool) :
    Datum.order (double.read (double.nearest (v < 0) v.natAbs 0)) (.number t 4503599627370496 ((k : Int) - 52)) = some (compare v ((if t then -1 else 1) * 2 ^ k)) := by
  have hsm : (2 : Nat) ^ k < 2 ^ 53 := Nat.pow_lt_pow_right (by decide) (by omega)
  have hkz : ((2 : Int) ^ k) = ((2 ^ k : Nat) : Int) := by simp
  have hP : (2 : Int) ^ k < 9007199254740992 ∧ 0 < (2 : Int) ^ k := by rw [hkz]; have := Nat.two_pow_pos k; omega
  have hscale : ∀ u d : Nat, 52 + d = k + u → (4503599627370496 : Int) * 2 ^ d = 2 ^ k * 2 ^ u := by
    intro u d h
    rw [show (4503599627370496 : Int) = 2 ^ 52 by decide, ← Int.pow_add, ← Int.pow_add, h]
  by_cases hz : v = 0
  · subst hz
    have : double.read (double.nearest (decide ((0 : Int) < 0)) (0 : Int).natAbs 0) = .number false 0 (-1074) := by decide
    rw [this]
    simp only [Datum.order, signed_eq]
    have hmin : min (-1074 : Int) ((k : Int) - 52) = -1074 := by omega
    rw [hmin]
    have hd := hscale 1074 ((k : Int) - 52 - -1074).toNat (by omega)
    have e4 : ((4503599627370496 : Nat) : Int) = 4503599627370496 := rfl
    generalize (2 : Int) ^ (-1074 - -1074 : Int).toNat = q0
    have hq : (0 : Int) < 2 ^ 1074 := Int.pow_pos (by decide)
    generalize (2 : Int) ^ 1074 = u at *
    rw [e4, hd, show (if false = true then (-1 : Int) else 1) * (((0 : Nat) : Int) * q0) = 0 * u by simp, ← Int.mul_assoc, compare_mul _ _ _ hq]
  · have hv : v = (if v < 0 then -1 else 1) * (v.natAbs : Int) := by split <;> omega
    by_cases hb : v.natAbs < 2 ^ 53
    · rw [read_small _ _ (by omega) hb]
      have hL : v.natAbs.log2 < 53 := (Nat.log2_lt (by omega)).2 hb
      simp only [Datum.order, signed_eq]
      generalize v.natAbs.log2 = L at *
      obtain ⟨b, hbase⟩ : ∃ b, min ((L : Int) - 52) ((k : Int) - 52) = b := ⟨_, rfl⟩
      rw [hbase]
      have hd := hscale (-b).toNat ((k : Int) - 52 - b).toNat (by omega)
      have e4 : ((4503599627370496 : Nat) : Int) = 4503599627370496 := rfl
      have hm : ((v.natAbs * 2 ^ (52 - L) : Nat) : Int) * 2 ^ ((L : Int) - 52 - b).toNat = (v.natAbs : Int) * 2 ^ (-b).toNat := by
        rw [show (-b).toNat = (52 - L) + ((L : Int) - 52 - b).toNat by omega, Int.pow_add, ← Int.mul_assoc]
        simp
      rw [e4, hd, hm, ← Int.mul_assoc, ← Int.mul_assoc, compare_mul _ _ _ (Int.pow_pos (by decide))]
      congr 2
      by_cases hneg : v < 0
      · simp [hneg]; omega
      · simp [hneg]; omega
    · rcases read_great (v < 0) v.natAbs (by omega) with ⟨q, e, hq, hr⟩ | hr
      · rw [hr]
        simp only [Datum.order, signed_eq]
        have hmin : min ((e : Int) + 1) ((k : Int) - 52) = (k : Int) - 52 := by omega
        rw [hmin, show ((k : Int) - 52 - ((k : Int) - 52)).toNat = 0 by omega]
        have hbig : (2 : Int) * 4503599627370496 ≤ (q : Int) * 2 ^ ((e : Int) + 1 - ((k : Int) - 52)).toNat := by
          have h1 : (2 : Int) ^ 1 ≤ 2 ^ ((e : Int) + 1 - ((k : Int) - 52)).toNat := by
            have := Nat.pow_le_pow_right (n := 2) (by decide) (show 1 ≤ ((e : Int) + 1 - ((k : Int) - 52)).toNat by omega)
            exact_mod_cast this
          have h2 : (4503599627370496 : Int) ≤ q := by omega
          have := Int.mul_le_mul h2 h1 (by decide) (by omega)
          omega
        generalize (q : Int) * 2 ^ ((e : Int) + 1 - ((k : Int) - 52)).toNat = z at hbig
        have e5 : ((4503599627370496 : Nat) : Int) * 2 ^ 0 = 4503599627370496 := rfl
        rw [e5]
        by_cases hneg : v < 0
        · have a1 : v < (if t then -1 else 1) * 2 ^ k := by clear hscale; generalize (2 : Int) ^ k = P at hP; cases t <;> simp <;> omega
          rw [compare_lt a1, compare_lt]
          simp only [hneg, decide_true, if_true]
          cases t <;> simp <;> omega
        · have a1 : (if t then -1 else 1) * 2 ^ k < v := by clear hscale; generalize (2 : Int) ^ k = P at hP; cases t <;> simp <;> omega
          rw [compare_gt a1, compare_gt]
          simp only [hneg, decide_false]
          cases t <;> simp <;> omega
      · rw [hr]
        simp only [Datum.order]
        by_cases hneg : v < 0
        · have a1 : v < (if t then -1 else 1) * 2 ^ k := by clear hscale; generalize (2 : Int) ^ k = P at hP; cases t <;> simp <;> omega
          rw [compare_lt a1]; simp [hneg]
        · have a1 : (if t then -1 else 1) * 2 ^ k < v := by clear hscale; generalize (2 : Int) ^ k = P at hP; cases t <;> simp <;> omega
          rw [compare_gt a1]; simp [hneg]
/-- As imm.Fits asks it. -/
theorem fits_is (v : Int) (k : Nat) (hk : k ≤ 40) :
    ((FloatKind.f64.format.order (FloatKind.f64.nearest v) (9223372036854775808 + ldw k) == some .gt || FloatKind.f64.format.order (FloatKind.f64.nearest v) (9223372036854775808 + ldw k) == some .eq) && FloatKind.f64.format.order (FloatKind.f64.nearest v) (ldw k) == some .lt) = decide (-(2 ^ k) ≤ v ∧ v < 2 ^ k) := by
  have h1 : FloatKind.f64.format.order (FloatKind.f64.nearest v) (9223372036854775808 + ldw k) = some (compare v (-(2 ^ k))) := by
    have h := order_pow v k hk true
    rw [show (if true then (-1 : Int) else 1) * 2 ^ k = -(2 ^ k) by simp] at h
    rw [← h, ← read_neg ⟨k, by omega⟩]; rfl
  have h2 : FloatKind.f64.format.order (FloatKind.f64.nearest v) (ldw k) = some (compare v (2 ^ k)) := by
    have h := order_pow v k hk false
    rw [show (if false = true then (-1 : Int) else 1) * 2 ^ k = 2 ^ k by simp] at h
    rw [← h, ← read_pos ⟨k, by omega⟩]; rfl
  rw [h1, h2]
  rcases Int.lt_trichotomy v (-(2 ^ k)) with a | a | a
  · rw [compare_lt a, Bool.eq_iff_iff]; simp; omega
  · have hp : (0 : Int) < 2 ^ k := Int.pow_pos (by decide)
    have b : v < 2 ^ k := by omega
    rw [compare_lt b, a]; simp [compare, compareOfLessAndEq]; omega
  · rw [compare_gt a]
    rcases Int.lt_trichotomy v (2 ^ k) with b | b | b
    · rw [compare_lt b]; simp; omega
    · rw [b]; simp [compare, compareOfLessAndEq]
    · rw [compare_gt b]; simp; omega
end Go.Fl

namespace Go.Proofs.YticofbaajdgabaaDoor.X
open Go.RowKit
def LaidW (w : World) : Prop := Lib.TabIs Tryd.prog w "strings.asciiSpace" .u8 Lib.asciiSpaceTab
theorem gSpace : Tryd.prog.globalNamed "strings.asciiSpace" = some 0 := by kernel_rfl
theorem LaidW.below {w w' : World} (h : LaidW w) (hb : Below w.heap.size w w') : LaidW w' := Joins.tab_stays gSpace h hb (Nat.le_refl _)
end Go.Proofs.YticofbaajdgabaaDoor.X

namespace Go.Proofs
open Go.Shelf
def Tryd.laysM157_ren : Go.Shelf.Ren := ⟨fun | 157 => 55 | 229 => 73 | 199 => 74 | 261 => 82 | 311 => 87 | 312 => 88 | n => n, fun | 9 => 9 | 31 => 43 | 3 => 3 | 5 => 5 | 4 => 4 | 119 => 96 | 0 => 0 | 40 => 98 | 152 => 100 | 21 => 21 | 154 => 102 | 51 => 61 | 141 => 104 | 196 => 115 | 193 => 112 | 198 => 118 | 49 => 116 | 194 => 113 | 201 => 121 | 226 => 123 | 46 => 31 | 227 => 124 | n => n, fun | 0 => 0 | 6 => 1 | n => n⟩
theorem Tryd.laysM157 : Go.Proofs.LaysM.n157 Tryd.prog Tryd.laysM157_ren := {
  mixed := by kernel_rfl
  f157 := Tryd.func55.trans (congrArg some (by kernel_rfl))
  f199 := Tryd.func74.trans (congrArg some (by kernel_rfl))
  f229 := Tryd.func73.trans (congrArg some (by kernel_rfl))
  f261 := Tryd.func82.trans (congrArg some (by kernel_rfl))
  f311 := Tryd.func87.trans (congrArg some (by kernel_rfl))
  f312 := Tryd.func88.trans (congrArg some (by kernel_rfl))
  t0 := Tryd.underlying0
  a0 := Tryd.isAgg0
  z0 := Tryd.sizeOf0
  v0 := Tryd.zeroValue0
  t3 := Tryd.underlying3
  a3 := Tryd.isAgg3
  z3 := Tryd.sizeOf3
  v3 := Tryd.zeroValue3
  t4 := Tryd.underlying4
  a4 := Tryd.isAgg4
  z4 := Tryd.sizeOf4
  v4 := Tryd.zeroValue4
  t5 := Tryd.underlying5
  a5 := Tryd.isAgg5
  z5 := Tryd.sizeOf5
  v5 := Tryd.zeroValue5
  t9 := Tryd.underlying9
  a9 := Tryd.isAgg9
  z9 := Tryd.sizeOf9
  v9 := Tryd.zeroValue9
  t21 := Tryd.underlying21
  a21 := Tryd.isAgg21
  z21 := Tryd.sizeOf21
  v21 := Tryd.zeroValue21
  t31 := Tryd.underlying43
  a31 := Tryd.isAgg43
  z31 := Tryd.sizeOf43
  v31 := Tryd.zeroValue43
  t40 := Tryd.underlying98
  a40 := Tryd.isAgg98
  z40 := Tryd.sizeOf98
  v40 := Tryd.zeroValue98
  t46 := Tryd.underlying31
  a46 := Tryd.isAgg31
  z46 := Tryd.sizeOf31
  v46 := Tryd.zeroValue31
  t49 := Tryd.underlying116
  a49 := Tryd.isAgg116
  z49 := Tryd.sizeOf116
  v49 := Tryd.zeroValue116
  t51 := Tryd.underlying61
  a51 := Tryd.isAgg61
  z51 := Tryd.sizeOf61
  v51 := Tryd.zeroValue61
  t119 := Tryd.underlying96
  a119 := Tryd.isAgg96
  z119 := Tryd.sizeOf96
  t141 := Tryd.underlying104
  a141 := Tryd.isAgg104
  z141 := Tryd.sizeOf104
  v141 := Tryd.zeroValue104
  t152 := Tryd.underlying100
  a152 := Tryd.isAgg100
  z152 := Tryd.sizeOf100
  v152 := Tryd.zeroValue100
  t154 := Tryd.underlying102
  a154 := Tryd.isAgg102
  z154 := Tryd.sizeOf102
  v154 := Tryd.zeroValue102
  t193 := Tryd.underlying112
  a193 := Tryd.isAgg112
  z193 := Tryd.sizeOf112
  v193 := Tryd.zeroValue112
  t194 := Tryd.underlying113
  a194 := Tryd.isAgg113
  z194 := Tryd.sizeOf113
  v194 := Tryd.zeroValue113
  t196 := Tryd.underlying115
  a196 := Tryd.isAgg115
  z196 := Tryd.sizeOf115
  v196 := Tryd.zeroValue115
  t198 := Tryd.underlying118
  a198 := Tryd.isAgg118
  z198 := Tryd.sizeOf118
  v198 := Tryd.zeroValue118
  t201 := Tryd.underlying121
  a201 := Tryd.isAgg121
  z201 := Tryd.sizeOf121
  v201 := Tryd.zeroValue121
  t226 := Tryd.underlying123
  a226 := Tryd.isAgg123
  z226 := Tryd.sizeOf123
  v226 := Tryd.zeroValue123
  t227 := Tryd.underlying124
  a227 := Tryd.isAgg124
  z227 := Tryd.sizeOf124
  v227 := Tryd.zeroValue124
  g0 := by kernel_rfl
  g6 := by kernel_rfl
  i0 := by kernel_rfl
  i3 := by kernel_rfl
  i4 := by kernel_rfl
  i5 := by kernel_rfl
  i9 := by kernel_rfl
  i21 := by kernel_rfl
  i31 := by kernel_rfl
  i40 := by kernel_rfl
  i46 := by kernel_rfl
  i49 := by kernel_rfl
  i51 := by kernel_rfl
  i141 := by kernel_rfl
  i152 := by kernel_rfl
  i154 := by kernel_rfl
  i193 := by kernel_rfl
  i194 := by kernel_rfl
  i196 := by kernel_rfl
  i198 := by kernel_rfl
  i201 := by kernel_rfl
  i226 := by kernel_rfl
  i227 := by kernel_rfl
  m0 := by kernel_rfl
  m6 := by kernel_rfl }
open Go.RowKit Go.Lib in
/-- strings.Fields on ASCII bytes. (The table: 'Lib.TabIs', as strings.TrimSpace's contract asks it.) (LAID: no walk: one application.) -/
theorem Tryd.strings_Fields_laid (s : ByteArray) (w : World) (hs : s.size < 4294967281) (hascii : ∀ (j : Nat) b, s.data.toList[j]? = some b → b.toNat < 128) (htab : Lib.TabIs Tryd.prog w "strings.asciiSpace" .u8 Lib.asciiSpaceTab) :
    Calls Tryd.prog 55 #[.string s] w fun e w' =>
      e = .returned (.slice (some ⟨w.heap.size, 0, none⟩) (Lib.fields s.data.toList).length (Lib.fields s.data.toList).length) ∧ w' = w.alloc (.cells ((Lib.fields s.data.toList).map fun l => Value.string ⟨l.toArray⟩).toArray 9) := Any.strings_Fields_laid Tryd.laysM157 s w hs hascii htab
end Go.Proofs

namespace Go.PR
def frameOf : Stepped → Frame
  | .next m => match m.gs[0]? with
    | some g => g.frame
    | none => default
  | _ => default
theorem calls_of_run {P : Program} {f : FuncId} {args : Array Value} {w w' : World} {v : Value} (n : Nat) (fr : Frame)
    (h : ∀ cs, runN P n (lone (Frame.enter P f args .normal) cs w) = .next (lone fr cs w')) (hf : fr.fn = f) (hm : fr.mode = .returning) (hd : fr.defers = []) (hk : fr.kind = .normal)
    {fn : Func} (hfn : P.funcs[f]? = some fn) (hr : (results fn fr.tmps).run P w' = .ok v w') : Calls P f args w fun e W => e = .returned v ∧ W = w' := by
  intro cs
  refine ⟨.returned v, w', fr, ⟨rfl, rfl⟩, ⟨n, h cs⟩, hf, hm, hd, hk, fn, ?_, hr⟩
  rw [hf]; exact hfn
end Go.PR

namespace Go.Proofs.YticofbaajdgabaaDoor.X
open Go.RowKit Go.Proofs.YticofbaajdgabaaDoorW.PrintWords Go.Proofs.YticofbaajdgabaaDoorW.PrintLast Go.Proofs.YticofbaajdgabaaDoorW.PrintMore
attribute [local go_sem] max2_int min2_int max_two min_two
set_option linter.unusedVariables false
set_option linter.unusedSimpArgs false
def errW : Option Int → Value
  | none => .nilIface
  | some c => .iface 0 (.int .i64 c)
theorem errW_none : errW none = .nilIface := rfl
theorem errW_some (c : Int) : errW (some c) = .iface 0 (.int .i64 c) := rfl
theorem info3 : (Tryd.prog.info? 3).map (fun i => (i.zero, i.size, i.bytes)) = some (some (.int .i64 0), 1, 8) := by kernel_rfl
theorem info5 : (Tryd.prog.info? 5).map (fun i => (i.zero, i.size, i.bytes)) = some (some (.int .u8 0), 1, 1) := by kernel_rfl
theorem info9 : (Tryd.prog.info? 9).map (fun i => (i.zero, i.size, i.bytes)) = some (some (.string ⟨#[]⟩), 1, 16) := by kernel_rfl
structure S68 where
  f0 : ByteArray
  f1 : Int
  f2 : ByteArray
def z68 : S68 := ⟨(⟨#[]⟩ : ByteArray), (0 : Int), (⟨#[]⟩ : ByteArray)⟩
def k68 : Kd S68 := Kd.iso (Kd.pair Kd.string (Kd.pair (Kd.int .u32) Kd.string)) (fun x : S68 => (x.f0, x.f1, x.f2))
theorem k68_open {w : World} {x : S68} {cs : List Value} (h : k68.K w x cs) : cs = [.string x.f0, .int .u32 x.f1, .string x.f2] := by
  obtain ⟨_, _, rfl, rfl, ⟨_, _, rfl, rfl, rfl⟩⟩ := h
  exact rfl
theorem k68_mkM (w : World) (base : Nat) (ok : Nat → Prop) (x : S68)  : k68.M w base ok x [.string x.f0, .int .u32 x.f1, .string x.f2] := ⟨[.string x.f0], [.int .u32 x.f1, .string x.f2], rfl, rfl, ⟨[.int .u32 x.f1], [.string x.f2], rfl, rfl, rfl⟩⟩
def rd_T68 (xs : List S68) (i : Int) : S68 := xs.getD i.toNat z68
theorem at_T68 {w : World} {A : Option Addr} {n : Nat} {xs : List S68} (h : Kd.C k68 w A n xs) (i : Int) (h0 : 0 ≤ i) (h1 : i < n) : ∃ ad , A = some ad ∧ w.cell? (ad.add (i.toNat * 3)) = some (.string (rd_T68 xs i).f0) ∧ w.cell? ⟨(ad.add (i.toNat * 3)).block, (ad.add (i.toNat * 3)).off + 1, none⟩ = some (.int .u32 (rd_T68 xs i).f1) ∧ w.cell? ⟨(ad.add (i.toNat * 3)).block, (ad.add (i.toNat * 3)).off + 2, none⟩ = some (.string (rd_T68 xs i).f2) := by
  obtain ⟨ad, c, e, _, hK, hc0⟩ := Kd.C_get h z68 i h0 h1
  have hc : ∀ j u, c[j]? = some u → w.cell? (ad.add (i.toNat * 3 + j)) = some u := hc0
  obtain rfl := k68_open hK
  exact ⟨ad, e, hc 0 _ rfl, by rw [← add_field _ _ 1 (by omega)]; exact hc 1 _ rfl, by rw [← add_field _ _ 2 (by omega)]; exact hc 2 _ rfl⟩
structure S110 where
  f0 : Int
  f1 : Int
def z110 : S110 := ⟨(0 : Int), (0 : Int)⟩
def k110 : Kd S110 := Kd.iso (Kd.pair (Kd.int .i64) (Kd.int .i64)) (fun x : S110 => (x.f0, x.f1))
theorem k110_open {w : World} {x : S110} {cs : List Value} (h : k110.K w x cs) : cs = [.int .i64 x.f0, .int .i64 x.f1] := by
  obtain ⟨_, _, rfl, rfl, rfl⟩ := h
  exact rfl
theorem k110_mkM (w : World) (base : Nat) (ok : Nat → Prop) (x : S110)  : k110.M w base ok x [.int .i64 x.f0, .int .i64 x.f1] := ⟨[.int .i64 x.f0], [.int .i64 x.f1], rfl, rfl, rfl⟩
def rd_T110 (xs : List S110) (i : Int) : S110 := xs.getD i.toNat z110
theorem at_T110 {w : World} {A : Option Addr} {n : Nat} {xs : List S110} (h : Kd.C k110 w A n xs) (i : Int) (h0 : 0 ≤ i) (h1 : i < n) : ∃ ad , A = some ad ∧ w.cell? (ad.add (i.toNat * 2)) = some (.int .i64 (rd_T110 xs i).f0) ∧ w.cell? ⟨(ad.add (i.toNat * 2)).block, (ad.add (i.toNat * 2)).off + 1, none⟩ = some (.int .i64 (rd_T110 xs i).f1) := by
  obtain ⟨ad, c, e, _, hK, hc0⟩ := Kd.C_get h z110 i h0 h1
  have hc : ∀ j u, c[j]? = some u → w.cell? (ad.add (i.toNat * 2 + j)) = some u := hc0
  obtain rfl := k110_open hK
  exact ⟨ad, e, hc 0 _ rfl, by rw [← add_field _ _ 1 (by omega)]; exact hc 1 _ rfl⟩
structure S28 where
  f0 : Int
  f1 : (List Int)
def z28 : S28 := ⟨(0 : Int), ([] : List Int)⟩
def rd_T28 (xs : List S28) (i : Int) : S28 := xs.getD i.toNat z28
def rd_L13 (xs : List (List Int)) (i : Int) : (List Int) := xs.getD i.toNat ([] : List Int)
end Go.Proofs.YticofbaajdgabaaDoor.X

namespace Go.Proofs.YticofbaajdgabaaDoor.X
open Go.RowKit Go.Proofs.YticofbaajdgabaaDoorW.PrintWords Go.Proofs.YticofbaajdgabaaDoorW.PrintLast Go.Proofs.YticofbaajdgabaaDoorW.PrintMore
set_option linter.unusedVariables false
set_option linter.unusedSimpArgs false
def tableL : List S68 := [
  ⟨(⟨#[115, 101, 95, 105, 108, 108, 101, 103, 97, 108]⟩ : ByteArray), 0, (⟨#[]⟩ : ByteArray)⟩,
  ⟨(⟨#[115, 101, 95, 105, 115, 121, 110, 99]⟩ : ByteArray), 1, (⟨#[]⟩ : ByteArray)⟩,
  ⟨(⟨#[115, 101, 95, 115, 99]⟩ : ByteArray), 2, (⟨#[]⟩ : ByteArray)⟩,
  ⟨(⟨#[115, 101, 95, 98, 108, 114]⟩ : ByteArray), 4, (⟨#[]⟩ : ByteArray)⟩,
  ⟨(⟨#[115, 101, 95, 98, 99, 116, 114]⟩ : ByteArray), 6, (⟨#[]⟩ : ByteArray)⟩,
  ⟨(⟨#[115, 101, 95, 110, 111, 116]⟩ : ByteArray), 32, (⟨#[88]⟩ : ByteArray)⟩,
  ⟨(⟨#[115, 101, 95, 110, 101, 103]⟩ : ByteArray), 48, (⟨#[88]⟩ : ByteArray)⟩,
  ⟨(⟨#[115, 101, 95, 109, 102, 108, 114]⟩ : ByteArray), 128, (⟨#[88]⟩ : ByteArray)⟩,
  ⟨(⟨#[115, 101, 95, 109, 116, 108, 114]⟩ : ByteArray), 144, (⟨#[88]⟩ : ByteArray)⟩,
  ⟨(⟨#[115, 101, 95, 109, 102, 99, 116, 114]⟩ : ByteArray), 160, (⟨#[88]⟩ : ByteArray)⟩,
  ⟨(⟨#[115, 101, 95, 109, 116, 99, 116, 114]⟩ : ByteArray), 176, (⟨#[88]⟩ : ByteArray)⟩,
  ⟨(⟨#[115, 101, 95, 101, 120, 116, 122, 98]⟩ : ByteArray), 192, (⟨#[88]⟩ : ByteArray)⟩,
  ⟨(⟨#[115, 101, 95, 101, 120, 116, 115, 98]⟩ : ByteArray), 208, (⟨#[88]⟩ : ByteArray)⟩,
  ⟨(⟨#[115, 101, 95, 101, 120, 116, 122, 104]⟩ : ByteArray), 224, (⟨#[88]⟩ : ByteArray)⟩,
  ⟨(⟨#[115, 101, 95, 101, 120, 116, 115, 104]⟩ : ByteArray), 240, (⟨#[88]⟩ : ByteArray)⟩,
  ⟨(⟨#[115, 101, 95, 109, 114]⟩ : ByteArray), 256, (⟨#[88, 32, 89]⟩ : ByteArray)⟩,
  ⟨(⟨#[115, 101, 95, 97, 100, 100]⟩ : ByteArray), 1024, (⟨#[88, 32, 89]⟩ : ByteArray)⟩,
  ⟨(⟨#[115, 101, 95, 109, 117, 108, 108, 119]⟩ : ByteArray), 1280, (⟨#[88, 32, 89]⟩ : ByteArray)⟩,
  ⟨(⟨#[115, 101, 95, 115, 117, 98]⟩ : ByteArray), 1536, (⟨#[88, 32, 89]⟩ : ByteArray)⟩,
  ⟨(⟨#[115, 101, 95, 99, 109, 112]⟩ : ByteArray), 3072, (⟨#[88, 32, 89]⟩ : ByteArray)⟩,
  ⟨(⟨#[115, 101, 95, 99, 109, 112, 108]⟩ : ByteArray), 3328, (⟨#[88, 32, 89]⟩ : ByteArray)⟩,
  ⟨(⟨#[115, 101, 95, 97, 100, 100, 105]⟩ : ByteArray), 8192, (⟨#[88, 32, 79, 53]⟩ : ByteArray)⟩,
  ⟨(⟨#[115, 101, 95, 99, 109, 112, 108, 105]⟩ : ByteArray), 8704, (⟨#[88, 32, 79, 53]⟩ : ByteArray)⟩,
  ⟨(⟨#[115, 101, 95, 115, 117, 98, 105]⟩ : ByteArray), 9216, (⟨#[88, 32, 79, 53]⟩ : ByteArray)⟩,
  ⟨(⟨#[115, 101, 95, 99, 109, 112, 105]⟩ : ByteArray), 10752, (⟨#[88, 32, 85, 53]⟩ : ByteArray)⟩,
  ⟨(⟨#[115, 101, 95, 111, 114]⟩ : ByteArray), 17408, (⟨#[88, 32, 89]⟩ : ByteArray)⟩,
  ⟨(⟨#[115, 101, 95, 97, 110, 100, 99]⟩ : ByteArray), 17664, (⟨#[88, 32, 89]⟩ : ByteArray)⟩,
  ⟨(⟨#[115, 101, 95, 97, 110, 100]⟩ : ByteArray), 17920, (⟨#[88, 32, 89]⟩ : ByteArray)⟩,
  ⟨(⟨#[115, 101, 95, 108, 105]⟩ : ByteArray), 18432, (⟨#[88, 32, 85, 55]⟩ : ByteArray)⟩,
  ⟨(⟨#[115, 101, 95, 98, 99, 108, 114, 105]⟩ : ByteArray), 24576, (⟨#[88, 32, 85, 53]⟩ : ByteArray)⟩,
  ⟨(⟨#[115, 101, 95, 98, 115, 101, 116, 105]⟩ : ByteArray), 25600, (⟨#[88, 32, 85, 53]⟩ : ByteArray)⟩,
  ⟨(⟨#[115, 101, 95, 98, 116, 115, 116, 105]⟩ : ByteArray), 26112, (⟨#[88, 32, 85, 53]⟩ : ByteArray)⟩,
  ⟨(⟨#[115, 101, 95, 115, 114, 119, 105]⟩ : ByteArray), 26624, (⟨#[88, 32, 85, 53]⟩ : ByteArray)⟩,
  ⟨(⟨#[115, 101, 95, 115, 108, 119, 105]⟩ : ByteArray), 27648, (⟨#[88, 32, 85, 53]⟩ : ByteArray)⟩,
  ⟨(⟨#[115, 101, 95, 108, 98, 122]⟩ : ByteArray), 32768, (⟨#[89, 32, 77, 49, 32, 88]⟩ : ByteArray)⟩,
  ⟨(⟨#[115, 101, 95, 115, 116, 98]⟩ : ByteArray), 36864, (⟨#[89, 32, 77, 49, 32, 88]⟩ : ByteArray)⟩,
  ⟨(⟨#[115, 101, 95, 108, 104, 122]⟩ : ByteArray), 40960, (⟨#[89, 32, 77, 50, 32, 88]⟩ : ByteArray)⟩,
  ⟨(⟨#[115, 101, 95, 115, 116, 104]⟩ : ByteArray), 45056, (⟨#[89, 32, 77, 50, 32, 88]⟩ : ByteArray)⟩,
  ⟨(⟨#[115, 101, 95, 108, 119, 122]⟩ : ByteArray), 49152, (⟨#[89, 32, 77, 52, 32, 88]⟩ : ByteArray)⟩,
  ⟨(⟨#[115, 101, 95, 115, 116, 119]⟩ : ByteArray), 53248, (⟨#[89, 32, 77, 52, 32, 88]⟩ : ByteArray)⟩,
  ⟨(⟨#[115, 101, 95, 98, 99]⟩ : ByteArray), 57344, (⟨#[79, 49, 32, 73, 50, 32, 84, 56]⟩ : ByteArray)⟩,
  ⟨(⟨#[115, 101, 95, 98]⟩ : ByteArray), 59392, (⟨#[84, 56]⟩ : ByteArray)⟩,
  ⟨(⟨#[115, 101, 95, 98, 108]⟩ : ByteArray), 59648, (⟨#[84, 56]⟩ : ByteArray)⟩,
  ⟨(⟨#[101, 95, 97, 100, 100, 49, 54, 105]⟩ : ByteArray), 469762048, (⟨#[68, 32, 65, 32, 83, 49, 54]⟩ : ByteArray)⟩,
  ⟨(⟨#[101, 95, 97, 100, 100, 105]⟩ : ByteArray), 402685952, (⟨#[68, 32, 65, 32, 67, 56]⟩ : ByteArray)⟩,
  ⟨(⟨#[101, 95, 97, 110, 100, 105]⟩ : ByteArray), 402702336, (⟨#[65, 32, 68, 32, 67, 56]⟩ : ByteArray)⟩,
  ⟨(⟨#[101, 95, 111, 114, 105]⟩ : ByteArray), 402706432, (⟨#[65, 32, 68, 32, 67, 56]⟩ : ByteArray)⟩,
  ⟨(⟨#[101, 95, 120, 111, 114, 105]⟩ : ByteArray), 402710528, (⟨#[65, 32, 68, 32, 67, 56]⟩ : ByteArray)⟩,
  ⟨(⟨#[101, 95, 108, 105]⟩ : ByteArray), 1879048192, (⟨#[68, 32, 76, 50, 48]⟩ : ByteArray)⟩,
  ⟨(⟨#[101, 95, 108, 98, 122]⟩ : ByteArray), 805306368, (⟨#[68, 32, 83, 49, 54, 32, 65]⟩ : ByteArray)⟩,
  ⟨(⟨#[101, 95, 115, 116, 98]⟩ : ByteArray), 872415232, (⟨#[68, 32, 83, 49, 54, 32, 65]⟩ : ByteArray)⟩,
  ⟨(⟨#[101, 95, 108, 104, 97]⟩ : ByteArray), 939524096, (⟨#[68, 32, 83, 49, 54, 32, 65]⟩ : ByteArray)⟩,
  ⟨(⟨#[101, 95, 108, 119, 122]⟩ : ByteArray), 1342177280, (⟨#[68, 32, 83, 49, 54, 32, 65]⟩ : ByteArray)⟩,
  ⟨(⟨#[101, 95, 115, 116, 119]⟩ : ByteArray), 1409286144, (⟨#[68, 32, 83, 49, 54, 32, 65]⟩ : ByteArray)⟩,
  ⟨(⟨#[101, 95, 108, 104, 122]⟩ : ByteArray), 1476395008, (⟨#[68, 32, 83, 49, 54, 32, 65]⟩ : ByteArray)⟩,
  ⟨(⟨#[101, 95, 115, 116, 104]⟩ : ByteArray), 1543503872, (⟨#[68, 32, 83, 49, 54, 32, 65]⟩ : ByteArray)⟩,
  ⟨(⟨#[101, 95, 98]⟩ : ByteArray), 2013265920, (⟨#[84, 50, 52]⟩ : ByteArray)⟩,
  ⟨(⟨#[101, 95, 98, 108]⟩ : ByteArray), 2013265921, (⟨#[84, 50, 52]⟩ : ByteArray)⟩,
  ⟨(⟨#[101, 95, 98, 99]⟩ : ByteArray), 2046820352, (⟨#[79, 50, 32, 73, 52, 32, 84, 49, 53]⟩ : ByteArray)⟩,
  ⟨(⟨#[101, 95, 98, 99, 108]⟩ : ByteArray), 2046820353, (⟨#[79, 50, 32, 73, 52, 32, 84, 49, 53]⟩ : ByteArray)⟩,
  ⟨(⟨#[97, 100, 100]⟩ : ByteArray), 2080375316, (⟨#[68, 32, 65, 32, 66]⟩ : ByteArray)⟩,
  ⟨(⟨#[115, 117, 98, 102]⟩ : ByteArray), 2080374864, (⟨#[68, 32, 65, 32, 66]⟩ : ByteArray)⟩,
  ⟨(⟨#[109, 117, 108, 108, 119]⟩ : ByteArray), 2080375254, (⟨#[68, 32, 65, 32, 66]⟩ : ByteArray)⟩,
  ⟨(⟨#[97, 110, 100]⟩ : ByteArray), 2080374840, (⟨#[65, 32, 68, 32, 66]⟩ : ByteArray)⟩,
  ⟨(⟨#[111, 114]⟩ : ByteArray), 2080375672, (⟨#[65, 32, 68, 32, 66]⟩ : ByteArray)⟩,
  ⟨(⟨#[120, 111, 114]⟩ : ByteArray), 2080375416, (⟨#[65, 32, 68, 32, 66]⟩ : ByteArray)⟩]
def isa_table.f : Option (List (S68)) := some tableL
def tableEnc (r : S68) : List Value := [.string r.f0, .int .u32 r.f1, .string r.f2]
def isa_row_title.f (a0_0 : ByteArray) (a0_1 : Int) (a0_2 : ByteArray) : Option (ByteArray) := some a0_0
def isa_of_string_48__isa_row_title.f (a0 : Int)  : Option (ByteArray) := (isa_table.f).bind fun t102 => (if a0 ≥ 0 then (if a0 < (t102.length : Int) then (if 0 ≤ a0 then ((isa_row_title.f ((rd_T68 t102 a0).f0) ((rd_T68 t102 a0).f1) ((rd_T68 t102 a0).f2)).bind fun t106 => (some t106)) else (none)) else (some (⟨#[]⟩ : ByteArray))) else (some (⟨#[]⟩ : ByteArray)))
def isa_Name.f (a0 : Int) : Option (ByteArray) := (isa_of_string_48__isa_row_title.f a0).bind fun t107 => (some t107)
def isa_Size.f (a0 : Int) : Option (Int) := (isa_Name.f a0).bind fun t108 => (if t108.toList = ([] : List UInt8) then (some 0) else (if a0 < 43 then (some 2) else (some 4)))
def isa_size.f (a0 : Int) : Option (Int) := if (a0 / 16) < 8 then (if (Go.bits .and .u8 (a0 / 16) 1) = 1 then (some 4) else (some 2)) else (some 2)
def wordsOf (s : ByteArray) : List ByteArray := (Lib.fields s.data.toList).map fun l => ⟨l.toArray⟩
def strings_Fields.f (a0 : ByteArray) : Option (List ByteArray) := if a0.size < 4294967281 then (if a0.data.toList.all (fun b => decide (b.toNat < 128)) = true then some (wordsOf a0) else none) else none
def isa_row_list.f (a0_0 : ByteArray) (a0_1 : Int) (a0_2 : ByteArray) : Option (List ByteArray) := (strings_Fields.f a0_2).bind fun t113 => (some t113)
def isa_plains.f (a0 : ByteArray) : Option (Int × Int × Int × Int × Bool) := if a0.toList = ([85, 53] : List UInt8) then (some (4, 5, 1, 0, true)) else (if a0.toList = ([85, 55] : List UInt8) then (some (4, 7, 1, 0, true)) else (if a0.toList = ([79, 53] : List UInt8) then (some (4, 5, 1, 1, true)) else (if a0.toList = ([77, 49] : List UInt8) then (some (8, 4, 1, 0, true)) else (if a0.toList = ([77, 50] : List UInt8) then (some (8, 4, 2, 0, true)) else (if a0.toList = ([77, 52] : List UInt8) then (some (8, 4, 4, 0, true)) else (if a0.toList = ([79, 49] : List UInt8) then (some (10, 1, 1, 0, true)) else (if a0.toList = ([73, 50] : List UInt8) then (some (8, 2, 1, 0, true)) else (if a0.toList = ([68] : List UInt8) then (some (21, 5, 1, 0, true)) else (if a0.toList = ([65] : List UInt8) then (some (16, 5, 1, 0, true)) else (if a0.toList = ([66] : List UInt8) then (some (11, 5, 1, 0, true)) else (if a0.toList = ([79, 50] : List UInt8) then (some (20, 2, 1, 0, true)) else (if a0.toList = ([73, 52] : List UInt8) then (some (16, 4, 1, 0, true)) else (some (0, 0, 0, 0, false))))))))))))))
def isa_plain_get.f (a0_0 : Int) (a0_1 : Int) (a0_2 : Int) (a0_3 : Int) (a1 : Int) : Option (Int) := if 0 ≤ a0_0 then (if 0 ≤ a0_1 then (some (wrap64 ((wrap64 ((wrap64 (Go.bits .and .u32 (shr .u32 a1 a0_0) (((shl .u32 1 a0_1) - 1) % 4294967296))) * a0_2)) + a0_3))) else (none)) else (none)
def isa_place.f (a0 : ByteArray) : Option (Int) := if a0.toList = ([89] : List UInt8) then (some 4) else (some 0)
def imm_Sign.f (a0 : Int) (a1 : Int) : Option (Int) := some ((wrap64 (a0 * 2 ^ (64 - (mn (mx a1 1) 64)).toNat)) / 2 ^ (64 - (mn (mx a1 1) 64)).toNat)
def imm_Joined.f (a0 : Int) (a1 : Int) (a2 : Int) : Option (Int) := (imm_Sign.f (Go.bits .or .i64 (Go.bits .or .i64 (wrap64 (a0 * 65536)) (wrap64 (a1 * 2048))) a2) 20).bind fun t118 => (some t118)
def imm_Back.l0 : Nat → Int → Int → Int → Int → Int → Option (Int)
  | 0, _, _, _, _, _ => none
  | k + 1, x0, x1, x2, x7, x8 => if x8 ≥ 0 then (if x0 = 1 then (if x8 = x1 then (imm_Back.l0 k x0 x1 x2 (Go.bits .or .i64 (wrap64 (x7 * 256)) (Go.bits .and .i64 x2 255)) (wrap64 (x8 - 1))) else (imm_Back.l0 k x0 x1 x2 (Go.bits .or .i64 (wrap64 (x7 * 256)) 255) (wrap64 (x8 - 1)))) else (if x8 = x1 then (imm_Back.l0 k x0 x1 x2 (Go.bits .or .i64 (wrap64 (x7 * 256)) (Go.bits .and .i64 x2 255)) (wrap64 (x8 - 1))) else (imm_Back.l0 k x0 x1 x2 (Go.bits .or .i64 (wrap64 (x7 * 256)) 0) (wrap64 (x8 - 1))))) else ((imm_Sign.f x7 32).bind fun t119 => (some t119))
def imm_Back.f (k : Nat) (a0 : Int) (a1 : Int) (a2 : Int) : Option (Int) := imm_Back.l0 k a0 a1 a2 0 3
theorem imm_Back.mono_l : ∀ k, (∀ y0 y1 y2 y3 y4, LeO (imm_Back.l0 k y0 y1 y2 y3 y4) (imm_Back.l0 (k + 1) y0 y1 y2 y3 y4))
  | 0 => fun _ _ _ _ _ r h => by simp [imm_Back.l0] at h
  | k + 1 => by
    have ih0 := imm_Back.mono_l k
    · intro y0 y1 y2 y3 y4
      unfold imm_Back.l0
      repeat' first
      | (with_reducible exact ih0 _ _ _ _ _)
      | (with_reducible exact LeO.refl _)
      | (with_reducible exact LeO.none _)
      | (with_reducible refine LeO.ite ?_ ?_)
      | (with_reducible refine LeO.bind ?_ (fun _ => ?_))
      | exact ih0 _ _ _ _ _
      | exact LeO.none _
      | refine LeO.ite ?_ ?_
      | refine LeO.bind ?_ (fun _ => ?_)
theorem imm_Back.mono : ∀ a0 a1 a2 k, LeO (imm_Back.f k a0 a1 a2) (imm_Back.f (k + 1) a0 a1 a2) := by
  intro a0 a1 a2 k
  have ih0 := imm_Back.mono_l k
  unfold imm_Back.f
  repeat' first
      | (with_reducible exact ih0 _ _ _ _ _)
      | (with_reducible exact LeO.refl _)
      | (with_reducible exact LeO.none _)
      | (with_reducible refine LeO.ite ?_ ?_)
      | (with_reducible refine LeO.bind ?_ (fun _ => ?_))
      | exact ih0 _ _ _ _ _
      | exact LeO.none _
      | refine LeO.ite ?_ ?_
      | refine LeO.bind ?_ (fun _ => ?_)
def isa_wide.f (a0 : ByteArray) : Option (Int) := if a0.toList = ([84, 56] : List UInt8) then (some 9) else (if a0.toList = ([84, 50, 52] : List UInt8) then (some 25) else (some 16))
def isa_get.j0 : Nat → ByteArray → Int → ByteArray → Bool → Option (Int)
  | 0, _, _, _, _ => none
  | k + 1, x0, x7, x20, x21 => if x21 = true then ((isa_place.f x0).bind fun t127 => (if 0 ≤ t127 then (some (wrap64 ((Go.bits .and .i64 (shr .i64 x7 t127) 15) + (wrap64 ((wrap64 (Int.tdiv (Go.bits .and .i64 (shr .i64 x7 t127) 15) 8)) * 16))))) else (none))) else (if x20.toList = ([76, 50, 48] : List UInt8) then ((imm_Joined.f (Go.bits .and .i64 (x7 / 2048) 15) (Go.bits .and .i64 (x7 / 65536) 31) (Go.bits .and .i64 x7 2047)).bind fun t128 => (some t128)) else (if x20.toList = ([67, 56] : List UInt8) then ((imm_Back.f k (Go.bits .and .i64 (x7 / 1024) 1) (Go.bits .and .i64 (x7 / 256) 3) (Go.bits .and .i64 x7 255)).bind fun t129 => (some t129)) else (if x20.toList = ([83, 49, 54] : List UInt8) then ((imm_Sign.f x7 16).bind fun t130 => (some t130)) else (if x20.toList = ([84, 56] : List UInt8) then ((imm_Sign.f x7 8).bind fun t131 => (some (wrap64 (2 * t131)))) else ((isa_wide.f x0).bind fun t132 => ((imm_Sign.f (Go.bits .andNot .i64 x7 1) t132).bind fun t133 => (some t133)))))))
def isa_get.f (k : Nat) (a0 : ByteArray) (a1 : Int) : Option (Int) := (isa_plains.f a0).bind fun bt120 => (if bt120.2.2.2.2 = true then ((isa_plain_get.f bt120.1 bt120.2.1 bt120.2.2.1 bt120.2.2.2.1 a1).bind fun t126 => (some t126)) else (if a0.toList = ([88] : List UInt8) then (isa_get.j0 k a0 (wrap64 (a1)) a0 (a0.toList == ([88] : List UInt8))) else (isa_get.j0 k a0 (wrap64 (a1)) a0 (a0.toList == ([89] : List UInt8)))))
theorem isa_get.mono_l : ∀ k, (∀ y0 y1 y2 y3, LeO (isa_get.j0 k y0 y1 y2 y3) (isa_get.j0 (k + 1) y0 y1 y2 y3))
  | 0 => fun _ _ _ _ r h => by simp [isa_get.j0] at h
  | k + 1 => by
    have ih0 := isa_get.mono_l k
    · intro y0 y1 y2 y3
      unfold isa_get.j0
      repeat' first
      | (with_reducible exact ih0 _ _ _ _)
      | (with_reducible exact imm_Back.mono _ _ _ _)
      | (with_reducible exact LeO.refl _)
      | (with_reducible exact LeO.none _)
      | (with_reducible refine LeO.ite ?_ ?_)
      | (with_reducible refine LeO.bind ?_ (fun _ => ?_))
      | exact ih0 _ _ _ _
      | exact imm_Back.mono _ _ _ _
      | exact LeO.none _
      | refine LeO.ite ?_ ?_
      | refine LeO.bind ?_ (fun _ => ?_)
theorem isa_get.mono : ∀ a0 a1 k, LeO (isa_get.f k a0 a1) (isa_get.f (k + 1) a0 a1) := by
  intro a0 a1 k
  have ih0 := isa_get.mono_l k
  unfold isa_get.f
  repeat' first
      | (with_reducible exact ih0 _ _ _ _)
      | (with_reducible exact imm_Back.mono _ _ _ _)
      | (with_reducible exact LeO.refl _)
      | (with_reducible exact LeO.none _)
      | (with_reducible refine LeO.ite ?_ ?_)
      | (with_reducible refine LeO.bind ?_ (fun _ => ?_))
      | exact ih0 _ _ _ _
      | exact imm_Back.mono _ _ _ _
      | exact LeO.none _
      | refine LeO.ite ?_ ?_
      | refine LeO.bind ?_ (fun _ => ?_)
def isa_code_1.f (a0_0 : ByteArray) (a0_1 : Int) (a0_2 : ByteArray) : Option (Int) := some a0_1
def isa_plain_put.f (a0_0 : Int) (a0_1 : Int) (a0_2 : Int) (a0_3 : Int) (a1 : Int) : Option (Int × Bool) := if a1 < a0_3 then (some (0, false)) else (if 0 ≤ a0_1 then (if (wrap64 (a1 - a0_3)) ≥ (shl .i64 a0_2 a0_1) then (some (0, false)) else (if a0_2 = 0 then (none) else (if (Int.tmod (wrap64 (a1 - a0_3)) a0_2) = 0 then (if 0 ≤ a0_0 then (some (shl .u32 ((wrap64 (Int.tdiv (wrap64 (a1 - a0_3)) a0_2)) % 4294967296) a0_0, true)) else (none)) else (some (0, false))))) else (none))
def imm_Split.f (a0 : Int) : Option (Int × Int × Int) := some (Go.bits .and .i64 (a0 / 65536) 15, Go.bits .and .i64 (a0 / 2048) 31, Go.bits .and .i64 a0 2047)
def imm_Fits.f (a0 : Int) (a1 : Int) : Option Bool := if 1 ≤ a1 then (if a1 ≤ 41 then some (decide (-(2 ^ (a1 - 1).toNat) ≤ a0 ∧ a0 < 2 ^ (a1 - 1).toNat)) else none) else none
def imm_forms.f  : Option ((List (S110))) := some (([(⟨0, 0⟩ : S110), (⟨0, 1⟩ : S110), (⟨0, 2⟩ : S110), (⟨0, 3⟩ : S110), (⟨1, 0⟩ : S110), (⟨1, 1⟩ : S110), (⟨1, 2⟩ : S110), (⟨1, 3⟩ : S110)] : List (S110)))
def imm_form_of.f (k : Nat) (a0_0 : Int) (a0_1 : Int) (a1 : Int) : Option (Int) := (imm_Back.f k a0_0 a0_1 a1).bind fun t140 => (some t140)
theorem imm_form_of.mono : ∀ a0 a1 a2 k, LeO (imm_form_of.f k a0 a1 a2) (imm_form_of.f (k + 1) a0 a1 a2) := by
  intro a0 a1 a2 k
  unfold imm_form_of.f
  repeat' first
      | (with_reducible exact imm_Back.mono _ _ _ _)
      | (with_reducible exact LeO.refl _)
      | (with_reducible exact LeO.none _)
      | (with_reducible refine LeO.ite ?_ ?_)
      | (with_reducible refine LeO.bind ?_ (fun _ => ?_))
      | exact imm_Back.mono _ _ _ _
      | exact LeO.none _
      | refine LeO.ite ?_ ?_
      | refine LeO.bind ?_ (fun _ => ?_)
def imm_found__imm_form_of.l0 : Nat → Int → Int → Int → Int → Option (Int)
  | 0, _, _, _, _ => none
  | k + 1, x0, x6, x820, x821 => if x6 < 256 then ((imm_form_of.f k x820 x821 x6).bind fun t141 => (if t141 = x0 then (some x6) else (imm_found__imm_form_of.l0 k x0 (wrap64 (x6 + 1)) x820 x821))) else (some (-1))
def imm_found__imm_form_of.f (k : Nat) (a0 : Int) (a1_0 : Int) (a1_1 : Int) : Option (Int) := imm_found__imm_form_of.l0 k a0 0 a1_0 a1_1
theorem imm_found__imm_form_of.mono_l : ∀ k, (∀ y0 y1 y2 y3, LeO (imm_found__imm_form_of.l0 k y0 y1 y2 y3) (imm_found__imm_form_of.l0 (k + 1) y0 y1 y2 y3))
  | 0 => fun _ _ _ _ r h => by simp [imm_found__imm_form_of.l0] at h
  | k + 1 => by
    have ih0 := imm_found__imm_form_of.mono_l k
    · intro y0 y1 y2 y3
      unfold imm_found__imm_form_of.l0
      repeat' first
      | (with_reducible exact ih0 _ _ _ _)
      | (with_reducible exact imm_form_of.mono _ _ _ _)
      | (with_reducible exact LeO.refl _)
      | (with_reducible exact LeO.none _)
      | (with_reducible refine LeO.ite ?_ ?_)
      | (with_reducible refine LeO.bind ?_ (fun _ => ?_))
      | exact ih0 _ _ _ _
      | exact imm_form_of.mono _ _ _ _
      | exact LeO.none _
      | refine LeO.ite ?_ ?_
      | refine LeO.bind ?_ (fun _ => ?_)
theorem imm_found__imm_form_of.mono : ∀ a0 a1 a2 k, LeO (imm_found__imm_form_of.f k a0 a1 a2) (imm_found__imm_form_of.f (k + 1) a0 a1 a2) := by
  intro a0 a1 a2 k
  have ih0 := imm_found__imm_form_of.mono_l k
  unfold imm_found__imm_form_of.f
  repeat' first
      | (with_reducible exact ih0 _ _ _ _)
      | (with_reducible exact imm_form_of.mono _ _ _ _)
      | (with_reducible exact LeO.refl _)
      | (with_reducible exact LeO.none _)
      | (with_reducible refine LeO.ite ?_ ?_)
      | (with_reducible refine LeO.bind ?_ (fun _ => ?_))
      | exact ih0 _ _ _ _
      | exact imm_form_of.mono _ _ _ _
      | exact LeO.none _
      | refine LeO.ite ?_ ?_
      | refine LeO.bind ?_ (fun _ => ?_)
def imm_Sci8.l0 : Nat → Int → List (S110) → Int → Int → Option (Int × Int × Int × Bool)
  | 0, _, _, _, _ => none
  | k + 1, x0, x8, x9, x10 => if x10 < x9 then (if 0 ≤ x10 then (if x10 < (x8.length : Int) then ((imm_found__imm_form_of.f k x0 ((rd_T110 x8 x10).f0) ((rd_T110 x8 x10).f1)).bind fun t147 => (if t147 ≥ 0 then (some ((rd_T110 x8 x10).f0, (rd_T110 x8 x10).f1, t147, true)) else (imm_Sci8.l0 k x0 x8 x9 (wrap64 (x10 + 1))))) else (none)) else (none)) else (some (0, 0, 0, false))
def imm_Sci8.f (k : Nat) (a0 : Int) : Option (Int × Int × Int × Bool) := (imm_forms.f).bind fun t142 => (imm_Sci8.l0 k a0 t142 (t142.length : Int) 0)
theorem imm_Sci8.mono_l : ∀ k, (∀ y0 y1 y2 y3, LeO (imm_Sci8.l0 k y0 y1 y2 y3) (imm_Sci8.l0 (k + 1) y0 y1 y2 y3))
  | 0 => fun _ _ _ _ r h => by simp [imm_Sci8.l0] at h
  | k + 1 => by
    have ih0 := imm_Sci8.mono_l k
    · intro y0 y1 y2 y3
      unfold imm_Sci8.l0
      repeat' first
      | (with_reducible exact ih0 _ _ _ _)
      | (with_reducible exact imm_found__imm_form_of.mono _ _ _ _)
      | (with_reducible exact LeO.refl _)
      | (with_reducible exact LeO.none _)
      | (with_reducible refine LeO.ite ?_ ?_)
      | (with_reducible refine LeO.bind ?_ (fun _ => ?_))
      | exact ih0 _ _ _ _
      | exact imm_found__imm_form_of.mono _ _ _ _
      | exact LeO.none _
      | refine LeO.ite ?_ ?_
      | refine LeO.bind ?_ (fun _ => ?_)
theorem imm_Sci8.mono : ∀ a0 k, LeO (imm_Sci8.f k a0) (imm_Sci8.f (k + 1) a0) := by
  intro a0 k
  have ih0 := imm_Sci8.mono_l k
  unfold imm_Sci8.f
  repeat' first
      | (with_reducible exact ih0 _ _ _ _)
      | (with_reducible exact imm_found__imm_form_of.mono _ _ _ _)
      | (with_reducible exact LeO.refl _)
      | (with_reducible exact LeO.none _)
      | (with_reducible refine LeO.ite ?_ ?_)
      | (with_reducible refine LeO.bind ?_ (fun _ => ?_))
      | exact ih0 _ _ _ _
      | exact imm_found__imm_form_of.mono _ _ _ _
      | exact LeO.none _
      | refine LeO.ite ?_ ?_
      | refine LeO.bind ?_ (fun _ => ?_)
mutual
def isa_put.j0 : Nat → ByteArray → Int → ByteArray → Bool → Option (Int × Bool)
  | 0, _, _, _, _ => none
  | k + 1, x0, x1, x26, x27 => if x27 = true then (if x1 < 0 then (some (0, false)) else (if x1 > 7 then (if x1 < 24 then (some (0, false)) else (if x1 > 31 then (some (0, false)) else ((isa_place.f x0).bind fun t156 => (if 0 ≤ t156 then (some (shl .u32 ((wrap64 (x1 - (wrap64 ((wrap64 (Int.tdiv x1 24)) * 16)))) % 4294967296) t156, true)) else (none))))) else (if x1 > 31 then (some (0, false)) else ((isa_place.f x0).bind fun t157 => (if 0 ≤ t157 then (some (shl .u32 ((wrap64 (x1 - (wrap64 ((wrap64 (Int.tdiv x1 24)) * 16)))) % 4294967296) t157, true)) else (none)))))) else (if x26.toList = ([76, 50, 48] : List UInt8) then ((imm_Split.f x1).bind fun bt158 => ((imm_Fits.f x1 20).bind fun t161 => (some ((Go.bits .or .i64 (Go.bits .or .i64 (wrap64 (bt158.1 * 2048)) (wrap64 (bt158.2.1 * 65536))) bt158.2.2) % 4294967296, t161)))) else (if x26.toList = ([67, 56] : List UInt8) then ((imm_Sci8.f k x1).bind fun bt162 => (some ((Go.bits .or .i64 (Go.bits .or .i64 (wrap64 (bt162.1 * 1024)) (wrap64 (bt162.2.1 * 256))) bt162.2.2.1) % 4294967296, bt162.2.2.2))) else (if x26.toList = ([83, 49, 54] : List UInt8) then ((imm_Fits.f x1 16).bind fun t166 => (some ((Go.bits .and .i64 x1 65535) % 4294967296, t166))) else (if (Int.tmod x1 2) = 0 then ((isa_wide.f x0).bind fun t167 => ((imm_Fits.f x1 t167).bind fun t168 => (isa_put.j1 k x0 x1 (!t168)))) else (isa_put.j1 k x0 x1 true)))))
def isa_put.j1 : Nat → ByteArray → Int → Bool → Option (Int × Bool)
  | 0, _, _, _ => none
  | k + 1, x0, x1, x105 => if x105 = true then (some (0, false)) else (if x0.toList = ([84, 56] : List UInt8) then (some ((Go.bits .and .i64 (wrap64 (Int.tdiv x1 2)) 255) % 4294967296, true)) else ((isa_wide.f x0).bind fun t169 => (if 0 ≤ t169 then (some ((Go.bits .and .i64 x1 (wrap64 ((shl .i64 1 t169) - 1))) % 4294967296, true)) else (none))))
end
def isa_put.f (k : Nat) (a0 : ByteArray) (a1 : Int) : Option (Int × Bool) := (isa_plains.f a0).bind fun bt148 => (if bt148.2.2.2.2 = true then ((isa_plain_put.f bt148.1 bt148.2.1 bt148.2.2.1 bt148.2.2.2.1 a1).bind fun bt154 => (some (bt154.1, bt154.2))) else (if a0.toList = ([88] : List UInt8) then (isa_put.j0 k a0 a1 a0 (a0.toList == ([88] : List UInt8))) else (isa_put.j0 k a0 a1 a0 (a0.toList == ([89] : List UInt8)))))
theorem isa_put.mono_l : ∀ k, (∀ y0 y1 y2 y3, LeO (isa_put.j0 k y0 y1 y2 y3) (isa_put.j0 (k + 1) y0 y1 y2 y3)) ∧ (∀ y0 y1 y2, LeO (isa_put.j1 k y0 y1 y2) (isa_put.j1 (k + 1) y0 y1 y2))
  | 0 => ⟨fun _ _ _ _ r h => by simp [isa_put.j0] at h, fun _ _ _ r h => by simp [isa_put.j1] at h⟩
  | k + 1 => by
    obtain ⟨ih0, ih1⟩ := isa_put.mono_l k
    refine ⟨?_, ?_⟩
    · intro y0 y1 y2 y3
      unfold isa_put.j0
      repeat' first
      | (with_reducible exact ih0 _ _ _ _)
      | (with_reducible exact ih1 _ _ _)
      | (with_reducible exact imm_Sci8.mono _ _)
      | (with_reducible exact LeO.refl _)
      | (with_reducible exact LeO.none _)
      | (with_reducible refine LeO.ite ?_ ?_)
      | (with_reducible refine LeO.bind ?_ (fun _ => ?_))
      | exact ih0 _ _ _ _
      | exact ih1 _ _ _
      | exact imm_Sci8.mono _ _
      | exact LeO.none _
      | refine LeO.ite ?_ ?_
      | refine LeO.bind ?_ (fun _ => ?_)
    · intro y0 y1 y2
      unfold isa_put.j1
      repeat' first
      | (with_reducible exact ih0 _ _ _ _)
      | (with_reducible exact ih1 _ _ _)
      | (with_reducible exact imm_Sci8.mono _ _)
      | (with_reducible exact LeO.refl _)
      | (with_reducible exact LeO.none _)
      | (with_reducible refine LeO.ite ?_ ?_)
      | (with_reducible refine LeO.bind ?_ (fun _ => ?_))
      | exact ih0 _ _ _ _
      | exact ih1 _ _ _
      | exact imm_Sci8.mono _ _
      | exact LeO.none _
      | refine LeO.ite ?_ ?_
      | refine LeO.bind ?_ (fun _ => ?_)
theorem isa_put.mono : ∀ a0 a1 k, LeO (isa_put.f k a0 a1) (isa_put.f (k + 1) a0 a1) := by
  intro a0 a1 k
  obtain ⟨ih0, ih1⟩ := isa_put.mono_l k
  unfold isa_put.f
  repeat' first
      | (with_reducible exact ih0 _ _ _ _)
      | (with_reducible exact ih1 _ _ _)
      | (with_reducible exact imm_Sci8.mono _ _)
      | (with_reducible exact LeO.refl _)
      | (with_reducible exact LeO.none _)
      | (with_reducible refine LeO.ite ?_ ?_)
      | (with_reducible refine LeO.bind ?_ (fun _ => ?_))
      | exact ih0 _ _ _ _
      | exact ih1 _ _ _
      | exact imm_Sci8.mono _ _
      | exact LeO.none _
      | refine LeO.ite ?_ ?_
      | refine LeO.bind ?_ (fun _ => ?_)
def isa_of_uint32__isa_code_1.f (a0 : Int)  : Option (Int) := (isa_table.f).bind fun t170 => (if a0 ≥ 0 then (if a0 < (t170.length : Int) then (if 0 ≤ a0 then ((isa_code_1.f ((rd_T68 t170 a0).f0) ((rd_T68 t170 a0).f1) ((rd_T68 t170 a0).f2)).bind fun t174 => (some t174)) else (none)) else (some 0)) else (some 0))
def isa_of_string_40__isa_row_list.f (a0 : Int)  : Option (List ByteArray) := (isa_table.f).bind fun t175 => (if a0 ≥ 0 then (if a0 < (t175.length : Int) then (if 0 ≤ a0 then ((isa_row_list.f ((rd_T68 t175 a0).f0) ((rd_T68 t175 a0).f1) ((rd_T68 t175 a0).f2)).bind fun t179 => (some t179)) else (none)) else (some ([] : List ByteArray))) else (some ([] : List ByteArray)))
def isa_code.l0 : Nat → Int → List ByteArray → Int → Int → Int → List Int → Option (Int × Bool)
  | 0, _, _, _, _, _, _ => none
  | k + 1, x4, x26, x27, x28, x183000, x183001 => if x28 < x27 then (if 0 ≤ x28 then (if x28 < (x26.length : Int) then (if x28 < (x183001.length : Int) then ((isa_put.f k (rdOf ByteArray.empty x26 x28) (rd x183001 x28)).bind fun bt190 => (if bt190.2 = true then (isa_code.l0 k (Go.bits .or .u32 x4 bt190.1) x26 x27 (wrap64 (x28 + 1)) x183000 x183001) else (some (0, false)))) else (none)) else (none)) else (none)) else (some (x4, true))
def isa_code.f (k : Nat) (a0_0 : Int) (l0_1 : List Int) : Option (Int × Bool) := (isa_Name.f a0_0).bind fun t183 => (if t183.toList = ([] : List UInt8) then (some (0, false)) else ((isa_of_uint32__isa_code_1.f a0_0).bind fun t184 => ((isa_of_string_40__isa_row_list.f a0_0).bind fun t185 => (if (t185.length : Int) = (l0_1.length : Int) then (isa_code.l0 k t184 t185 (t185.length : Int) 0 a0_0 l0_1) else (some (0, false))))))
theorem isa_code.mono_l : ∀ k, (∀ y0 y1 y2 y3 y4 y5, LeO (isa_code.l0 k y0 y1 y2 y3 y4 y5) (isa_code.l0 (k + 1) y0 y1 y2 y3 y4 y5))
  | 0 => fun _ _ _ _ _ _ r h => by simp [isa_code.l0] at h
  | k + 1 => by
    have ih0 := isa_code.mono_l k
    · intro y0 y1 y2 y3 y4 y5
      unfold isa_code.l0
      repeat' first
      | (with_reducible exact ih0 _ _ _ _ _ _)
      | (with_reducible exact isa_put.mono _ _ _)
      | (with_reducible exact LeO.refl _)
      | (with_reducible exact LeO.none _)
      | (with_reducible refine LeO.ite ?_ ?_)
      | (with_reducible refine LeO.bind ?_ (fun _ => ?_))
      | exact ih0 _ _ _ _ _ _
      | exact isa_put.mono _ _ _
      | exact LeO.none _
      | refine LeO.ite ?_ ?_
      | refine LeO.bind ?_ (fun _ => ?_)
theorem isa_code.mono : ∀ a0 a1 k, LeO (isa_code.f k a0 a1) (isa_code.f (k + 1) a0 a1) := by
  intro a0 a1 k
  have ih0 := isa_code.mono_l k
  unfold isa_code.f
  repeat' first
      | (with_reducible exact ih0 _ _ _ _ _ _)
      | (with_reducible exact isa_put.mono _ _ _)
      | (with_reducible exact LeO.refl _)
      | (with_reducible exact LeO.none _)
      | (with_reducible refine LeO.ite ?_ ?_)
      | (with_reducible refine LeO.bind ?_ (fun _ => ?_))
      | exact ih0 _ _ _ _ _ _
      | exact isa_put.mono _ _ _
      | exact LeO.none _
      | refine LeO.ite ?_ ?_
      | refine LeO.bind ?_ (fun _ => ?_)
def slices_Clone_int_int.f (l0 : List Int) : Option (List Int) := (some (([] : List Int) : List Int)).bind fun y192 => (if y192.length + l0.length < 17592186044416 then (some (y192 ++ l0)) else (none))
mutual
def isa_Decode.j0 : Nat → List Int → Bool → Option (Int × List Int × Int × Bool)
  | 0, _, _ => none
  | k + 1, x0, x25 => if x25 = true then (some (0, ([] : List Int), 0, false)) else (if 0 < (x0.length : Int) then ((isa_size.f (rd x0 0)).bind fun t202 => (if 0 ≤ t202 then (if t202 ≤ (x0.length : Int) then (isa_Decode.l0 k t202 0 (x0.take (t202 : Int).toNat) ((x0.take (t202 : Int).toNat).length : Int) 0) else (none)) else (none))) else (none))
def isa_Decode.l0 : Nat → Int → Int → List Int → Int → Int → Option (Int × List Int × Int × Bool)
  | 0, _, _, _, _, _ => none
  | k + 1, x3, x5, x33, x34, x35 => if x35 < x34 then (if 0 ≤ x35 then (if x35 < (x33.length : Int) then (isa_Decode.l0 k x3 (Go.bits .or .u32 ((x5 * 256) % 4294967296) ((rd x33 x35) % 4294967296)) x33 x34 (wrap64 (x35 + 1))) else (none)) else (none)) else ((isa_table.f).bind fun t205 => (isa_Decode.l1 k x3 x5 (t205.length : Int) 0))
def isa_Decode.l1 : Nat → Int → Int → Int → Int → Option (Int × List Int × Int × Bool)
  | 0, _, _, _, _ => none
  | k + 1, x3, x5, x46, x47 => if x47 < x46 then ((isa_Size.f x47).bind fun t208 => (if t208 = x3 then ((isa_of_string_40__isa_row_list.f x47).bind fun t210 => (isa_Decode.l2 k x3 x5 x46 x47 t210 (t210.length : Int) 0 x47 ([] : List Int))) else (isa_Decode.l1 k x3 x5 x46 (wrap64 (x47 + 1))))) else (some (0, ([] : List Int), 0, false))
def isa_Decode.l2 : Nat → Int → Int → Int → Int → List ByteArray → Int → Int → Int → List Int → Option (Int × List Int × Int × Bool)
  | 0, _, _, _, _, _, _, _, _, _ => none
  | k + 1, x3, x5, x46, x47, x57, x58, x59, x210000, x210001 => if x59 < x58 then (if 0 ≤ x59 then (if x59 < (x57.length : Int) then ((isa_get.f k (rdOf ByteArray.empty x57 x59) x5).bind fun t214 => (if x210001.length < 17592186044416 then (isa_Decode.l2 k x3 x5 x46 x47 x57 x58 (wrap64 (x59 + 1)) x210000 (x210001 ++ [t214])) else (none))) else (none)) else (none)) else ((isa_code.f k x210000 x210001).bind fun bt218 => (if bt218.2 = true then (if bt218.1 = x5 then ((slices_Clone_int_int.f x210001).bind fun t220 => (some (x210000, t220, x3, true))) else (isa_Decode.l1 k x3 x5 x46 (wrap64 (x47 + 1)))) else (isa_Decode.l1 k x3 x5 x46 (wrap64 (x47 + 1)))))
end
def isa_Decode.f (k : Nat) (l0 : List Int) : Option (Int × List Int × Int × Bool) := if (l0.length : Int) < 2 then (isa_Decode.j0 k l0 true) else (if 0 < (l0.length : Int) then ((isa_size.f (rd l0 0)).bind fun t200 => (isa_Decode.j0 k l0 (decide ((l0.length : Int) < t200)))) else (none))
theorem isa_Decode.mono_l : ∀ k, (∀ y0 y1, LeO (isa_Decode.j0 k y0 y1) (isa_Decode.j0 (k + 1) y0 y1)) ∧ (∀ y0 y1 y2 y3 y4, LeO (isa_Decode.l0 k y0 y1 y2 y3 y4) (isa_Decode.l0 (k + 1) y0 y1 y2 y3 y4)) ∧ (∀ y0 y1 y2 y3, LeO (isa_Decode.l1 k y0 y1 y2 y3) (isa_Decode.l1 (k + 1) y0 y1 y2 y3)) ∧ (∀ y0 y1 y2 y3 y4 y5 y6 y7 y8, LeO (isa_Decode.l2 k y0 y1 y2 y3 y4 y5 y6 y7 y8) (isa_Decode.l2 (k + 1) y0 y1 y2 y3 y4 y5 y6 y7 y8))
  | 0 => ⟨fun _ _ r h => by simp [isa_Decode.j0] at h, fun _ _ _ _ _ r h => by simp [isa_Decode.l0] at h, fun _ _ _ _ r h => by simp [isa_Decode.l1] at h, fun _ _ _ _ _ _ _ _ _ r h => by simp [isa_Decode.l2] at h⟩
  | k + 1 => by
    obtain ⟨ih0, ih1, ih2, ih3⟩ := isa_Decode.mono_l k
    refine ⟨?_, ?_, ?_, ?_⟩
    · intro y0 y1
      unfold isa_Decode.j0
      repeat' first
      | (with_reducible exact ih0 _ _)
      | (with_reducible exact ih1 _ _ _ _ _)
      | (with_reducible exact ih2 _ _ _ _)
      | (with_reducible exact ih3 _ _ _ _ _ _ _ _ _)
      | (with_reducible exact isa_code.mono _ _ _)
      | (with_reducible exact isa_get.mono _ _ _)
      | (with_reducible exact LeO.refl _)
      | (with_reducible exact LeO.none _)
      | (with_reducible refine LeO.ite ?_ ?_)
      | (with_reducible refine LeO.bind ?_ (fun _ => ?_))
      | exact ih0 _ _
      | exact ih1 _ _ _ _ _
      | exact ih2 _ _ _ _
      | exact ih3 _ _ _ _ _ _ _ _ _
      | exact isa_code.mono _ _ _
      | exact isa_get.mono _ _ _
      | exact LeO.none _
      | refine LeO.ite ?_ ?_
      | refine LeO.bind ?_ (fun _ => ?_)
    · intro y0 y1 y2 y3 y4
      unfold isa_Decode.l0
      repeat' first
      | (with_reducible exact ih0 _ _)
      | (with_reducible exact ih1 _ _ _ _ _)
      | (with_reducible exact ih2 _ _ _ _)
      | (with_reducible exact ih3 _ _ _ _ _ _ _ _ _)
      | (with_reducible exact isa_code.mono _ _ _)
      | (with_reducible exact isa_get.mono _ _ _)
      | (with_reducible exact LeO.refl _)
      | (with_reducible exact LeO.none _)
      | (with_reducible refine LeO.ite ?_ ?_)
      | (with_reducible refine LeO.bind ?_ (fun _ => ?_))
      | exact ih0 _ _
      | exact ih1 _ _ _ _ _
      | exact ih2 _ _ _ _
      | exact ih3 _ _ _ _ _ _ _ _ _
      | exact isa_code.mono _ _ _
      | exact isa_get.mono _ _ _
      | exact LeO.none _
      | refine LeO.ite ?_ ?_
      | refine LeO.bind ?_ (fun _ => ?_)
    · intro y0 y1 y2 y3
      unfold isa_Decode.l1
      repeat' first
      | (with_reducible exact ih0 _ _)
      | (with_reducible exact ih1 _ _ _ _ _)
      | (with_reducible exact ih2 _ _ _ _)
      | (with_reducible exact ih3 _ _ _ _ _ _ _ _ _)
      | (with_reducible exact isa_code.mono _ _ _)
      | (with_reducible exact isa_get.mono _ _ _)
      | (with_reducible exact LeO.refl _)
      | (with_reducible exact LeO.none _)
      | (with_reducible refine LeO.ite ?_ ?_)
      | (with_reducible refine LeO.bind ?_ (fun _ => ?_))
      | exact ih0 _ _
      | exact ih1 _ _ _ _ _
      | exact ih2 _ _ _ _
      | exact ih3 _ _ _ _ _ _ _ _ _
      | exact isa_code.mono _ _ _
      | exact isa_get.mono _ _ _
      | exact LeO.none _
      | refine LeO.ite ?_ ?_
      | refine LeO.bind ?_ (fun _ => ?_)
    · intro y0 y1 y2 y3 y4 y5 y6 y7 y8
      unfold isa_Decode.l2
      repeat' first
      | (with_reducible exact ih0 _ _)
      | (with_reducible exact ih1 _ _ _ _ _)
      | (with_reducible exact ih2 _ _ _ _)
      | (with_reducible exact ih3 _ _ _ _ _ _ _ _ _)
      | (with_reducible exact isa_code.mono _ _ _)
      | (with_reducible exact isa_get.mono _ _ _)
      | (with_reducible exact LeO.refl _)
      | (with_reducible exact LeO.none _)
      | (with_reducible refine LeO.ite ?_ ?_)
      | (with_reducible refine LeO.bind ?_ (fun _ => ?_))
      | exact ih0 _ _
      | exact ih1 _ _ _ _ _
      | exact ih2 _ _ _ _
      | exact ih3 _ _ _ _ _ _ _ _ _
      | exact isa_code.mono _ _ _
      | exact isa_get.mono _ _ _
      | exact LeO.none _
      | refine LeO.ite ?_ ?_
      | refine LeO.bind ?_ (fun _ => ?_)
theorem isa_Decode.mono : ∀ a0 k, LeO (isa_Decode.f k a0) (isa_Decode.f (k + 1) a0) := by
  intro a0 k
  obtain ⟨ih0, ih1, ih2, ih3⟩ := isa_Decode.mono_l k
  unfold isa_Decode.f
  repeat' first
      | (with_reducible exact ih0 _ _)
      | (with_reducible exact ih1 _ _ _ _ _)
      | (with_reducible exact ih2 _ _ _ _)
      | (with_reducible exact ih3 _ _ _ _ _ _ _ _ _)
      | (with_reducible exact isa_code.mono _ _ _)
      | (with_reducible exact isa_get.mono _ _ _)
      | (with_reducible exact LeO.refl _)
      | (with_reducible exact LeO.none _)
      | (with_reducible refine LeO.ite ?_ ?_)
      | (with_reducible refine LeO.bind ?_ (fun _ => ?_))
      | exact ih0 _ _
      | exact ih1 _ _ _ _ _
      | exact ih2 _ _ _ _
      | exact ih3 _ _ _ _ _ _ _ _ _
      | exact isa_code.mono _ _ _
      | exact isa_get.mono _ _ _
      | exact LeO.none _
      | refine LeO.ite ?_ ?_
      | refine LeO.bind ?_ (fun _ => ?_)
def slices_Clone_byte_byte.f (l0 : List Int) : Option (List Int) := (some (([] : List Int) : List Int)).bind fun y223 => (if y223.length + l0.length < 140737488355328 then (some (y223 ++ l0)) else (none))
def isa_Encode.f (k : Nat) (a0_0 : Int) (l0_1 : List Int) : Option (List Int × Bool) := (isa_code.f k a0_0 l0_1).bind fun bt230 => (if bt230.2 = true then ((some (([(bt230.1 / 16777216) % 256, (bt230.1 / 65536) % 256, (bt230.1 / 256) % 256, (bt230.1) % 256] : List Int) : List Int)).bind fun y232 => ((isa_Size.f a0_0).bind fun t235 => (if 0 ≤ (wrap64 (4 - t235)) then (if (wrap64 (4 - t235)) ≤ (y232.length : Int) then ((slices_Clone_byte_byte.f (y232.drop ((wrap64 (4 - t235)) : Int).toNat)).bind fun t240 => (some (t240, true))) else (none)) else (none)))) else (some (([] : List Int), false)))
theorem isa_Encode.mono : ∀ a0 a1 k, LeO (isa_Encode.f k a0 a1) (isa_Encode.f (k + 1) a0 a1) := by
  intro a0 a1 k
  unfold isa_Encode.f
  repeat' first
      | (with_reducible exact isa_code.mono _ _ _)
      | (with_reducible exact LeO.refl _)
      | (with_reducible exact LeO.none _)
      | (with_reducible refine LeO.ite ?_ ?_)
      | (with_reducible refine LeO.bind ?_ (fun _ => ?_))
      | exact isa_code.mono _ _ _
      | exact LeO.none _
      | refine LeO.ite ?_ ?_
      | refine LeO.bind ?_ (fun _ => ?_)
def isa_row_operands.f (a0_0 : ByteArray) (a0_1 : Int) (a0_2 : ByteArray) : Option (ByteArray) := some a0_2
def isa_of_string_48__isa_row_operands.f (a0 : Int)  : Option (ByteArray) := (isa_table.f).bind fun t244 => (if a0 ≥ 0 then (if a0 < (t244.length : Int) then (if 0 ≤ a0 then ((isa_row_operands.f ((rd_T68 t244 a0).f0) ((rd_T68 t244 a0).f1) ((rd_T68 t244 a0).f2)).bind fun t248 => (some t248)) else (none)) else (some (⟨#[]⟩ : ByteArray))) else (some (⟨#[]⟩ : ByteArray)))
def isa_Kinds.f (a0 : Int) : Option (ByteArray) := (isa_of_string_48__isa_row_operands.f a0).bind fun t249 => (some t249)
def letterpresslaw2_known.f (k : Nat)  : Option (Bool) := (isa_Encode.f k 3 ([] : List Int)).bind fun bt250 => ((isa_Decode.f k (([0, 4, 9] : List Int))).bind fun bt257 => (if bt250.2 = true then (if (bt250.1.length : Int) = 2 then (if 1 < (bt250.1.length : Int) then (if (rd bt250.1 1) = 4 then (if bt257.2.2.2 = true then (if bt257.2.2.1 = 2 then (if bt257.1 = 3 then ((isa_Name.f 3).bind fun t265 => (if t265.toList = ([115, 101, 95, 98, 108, 114] : List UInt8) then ((isa_Kinds.f 15).bind fun t266 => (if t266.toList = ([88, 32, 89] : List UInt8) then ((isa_Size.f 48).bind fun t267 => (some (t267 == 4))) else (some false))) else (some false))) else (some false)) else (some false)) else (some false)) else (some false)) else (none)) else (some false)) else (some false)))
theorem letterpresslaw2_known.mono : ∀ k, LeO (letterpresslaw2_known.f k ) (letterpresslaw2_known.f (k + 1) ) := by
  intro  k
  unfold letterpresslaw2_known.f
  repeat' first
      | (with_reducible exact isa_Decode.mono _ _)
      | (with_reducible exact isa_Encode.mono _ _ _)
      | (with_reducible exact LeO.refl _)
      | (with_reducible exact LeO.none _)
      | (with_reducible refine LeO.ite ?_ ?_)
      | (with_reducible refine LeO.bind ?_ (fun _ => ?_))
      | exact isa_Decode.mono _ _
      | exact isa_Encode.mono _ _ _
      | exact LeO.none _
      | refine LeO.ite ?_ ?_
      | refine LeO.bind ?_ (fun _ => ?_)
mutual
def letterpressref2_Words.l0 : Nat → ByteArray → List ByteArray → Int → Int → Option (List ByteArray)
  | 0, _, _, _, _ => none
  | k + 1, x0, x3, x4, x5 => if x5 ≤ (x0.size : Int) then (if x5 = (x0.size : Int) then (letterpressref2_Words.j1 k x0 x3 x4 x5 true) else (if 0 ≤ x5 then (if x5 < (x0.size : Int) then (letterpressref2_Words.j1 k x0 x3 x4 x5 ((bt x0 x5) == 32)) else (none)) else (none))) else (some x3)
def letterpressref2_Words.j1 : Nat → ByteArray → List ByteArray → Int → Int → Bool → Option (List ByteArray)
  | 0, _, _, _, _, _ => none
  | k + 1, x0, x3, x4, x5, x21 => if x21 = true then (if x5 > x4 then (if 0 ≤ x4 then (if x4 ≤ x5 then (if x5 ≤ (x0.size : Int) then (if x3.length < 8796093022208 then (letterpressref2_Words.l0 k x0 (x3 ++ [x0.extract (x4 : Int).toNat (x5 : Int).toNat]) (wrap64 (x5 + 1)) (wrap64 (x5 + 1))) else (none)) else (none)) else (none)) else (none)) else (letterpressref2_Words.l0 k x0 x3 (wrap64 (x5 + 1)) (wrap64 (x5 + 1)))) else (letterpressref2_Words.l0 k x0 x3 x4 (wrap64 (x5 + 1)))
end
def letterpressref2_Words.f (k : Nat) (a0 : ByteArray) : Option (List ByteArray) := letterpressref2_Words.l0 k a0 ([] : List ByteArray) 0 0
theorem letterpressref2_Words.mono_l : ∀ k, (∀ y0 y1 y2 y3, LeO (letterpressref2_Words.l0 k y0 y1 y2 y3) (letterpressref2_Words.l0 (k + 1) y0 y1 y2 y3)) ∧ (∀ y0 y1 y2 y3 y4, LeO (letterpressref2_Words.j1 k y0 y1 y2 y3 y4) (letterpressref2_Words.j1 (k + 1) y0 y1 y2 y3 y4))
  | 0 => ⟨fun _ _ _ _ r h => by simp [letterpressref2_Words.l0] at h, fun _ _ _ _ _ r h => by simp [letterpressref2_Words.j1] at h⟩
  | k + 1 => by
    obtain ⟨ih0, ih1⟩ := letterpressref2_Words.mono_l k
    refine ⟨?_, ?_⟩
    · intro y0 y1 y2 y3
      unfold letterpressref2_Words.l0
      repeat' first
      | (with_reducible exact ih0 _ _ _ _)
      | (with_reducible exact ih1 _ _ _ _ _)
      | (with_reducible exact LeO.refl _)
      | (with_reducible exact LeO.none _)
      | (with_reducible refine LeO.ite ?_ ?_)
      | (with_reducible refine LeO.bind ?_ (fun _ => ?_))
      | exact ih0 _ _ _ _
      | exact ih1 _ _ _ _ _
      | exact LeO.none _
      | refine LeO.ite ?_ ?_
      | refine LeO.bind ?_ (fun _ => ?_)
    · intro y0 y1 y2 y3 y4
      unfold letterpressref2_Words.j1
      repeat' first
      | (with_reducible exact ih0 _ _ _ _)
      | (with_reducible exact ih1 _ _ _ _ _)
      | (with_reducible exact LeO.refl _)
      | (with_reducible exact LeO.none _)
      | (with_reducible refine LeO.ite ?_ ?_)
      | (with_reducible refine LeO.bind ?_ (fun _ => ?_))
      | exact ih0 _ _ _ _
      | exact ih1 _ _ _ _ _
      | exact LeO.none _
      | refine LeO.ite ?_ ?_
      | refine LeO.bind ?_ (fun _ => ?_)
theorem letterpressref2_Words.mono : ∀ a0 k, LeO (letterpressref2_Words.f k a0) (letterpressref2_Words.f (k + 1) a0) := by
  intro a0 k
  obtain ⟨ih0, ih1⟩ := letterpressref2_Words.mono_l k
  unfold letterpressref2_Words.f
  repeat' first
      | (with_reducible exact ih0 _ _ _ _)
      | (with_reducible exact ih1 _ _ _ _ _)
      | (with_reducible exact LeO.refl _)
      | (with_reducible exact LeO.none _)
      | (with_reducible refine LeO.ite ?_ ?_)
      | (with_reducible refine LeO.bind ?_ (fun _ => ?_))
      | exact ih0 _ _ _ _
      | exact ih1 _ _ _ _ _
      | exact LeO.none _
      | refine LeO.ite ?_ ?_
      | refine LeO.bind ?_ (fun _ => ?_)
def tbl : ByteArray := ⟨#[115, 101, 95, 105, 108, 108, 101, 103, 97, 108, 58, 48, 48, 48, 48, 58, 124, 115, 101, 95, 105, 115, 121, 110, 99, 58, 48, 48, 48, 49, 58, 124, 115, 101, 95, 115, 99, 58, 48, 48, 48, 50, 58, 124, 115, 101, 95, 98, 108, 114, 58, 48, 48, 48, 52, 58, 124, 115, 101, 95, 98, 99, 116, 114, 58, 48, 48, 48, 54, 58, 124, 115, 101, 95, 110, 111, 116, 58, 48, 48, 50, 48, 58, 88, 124, 115, 101, 95, 110, 101, 103, 58, 48, 48, 51, 48, 58, 88, 124, 115, 101, 95, 109, 102, 108, 114, 58, 48, 48, 56, 48, 58, 88, 124, 115, 101, 95, 109, 116, 108, 114, 58, 48, 48, 57, 48, 58, 88, 124, 115, 101, 95, 109, 102, 99, 116, 114, 58, 48, 48, 97, 48, 58, 88, 124, 115, 101, 95, 109, 116, 99, 116, 114, 58, 48, 48, 98, 48, 58, 88, 124, 115, 101, 95, 101, 120, 116, 122, 98, 58, 48, 48, 99, 48, 58, 88, 124, 115, 101, 95, 101, 120, 116, 115, 98, 58, 48, 48, 100, 48, 58, 88, 124, 115, 101, 95, 101, 120, 116, 122, 104, 58, 48, 48, 101, 48, 58, 88, 124, 115, 101, 95, 101, 120, 116, 115, 104, 58, 48, 48, 102, 48, 58, 88, 124, 115, 101, 95, 109, 114, 58, 48, 49, 48, 48, 58, 88, 32, 89, 124, 115, 101, 95, 97, 100, 100, 58, 48, 52, 48, 48, 58, 88, 32, 89, 124, 115, 101, 95, 109, 117, 108, 108, 119, 58, 48, 53, 48, 48, 58, 88, 32, 89, 124, 115, 101, 95, 115, 117, 98, 58, 48, 54, 48, 48, 58, 88, 32, 89, 124, 115, 101, 95, 99, 109, 112, 58, 48, 99, 48, 48, 58, 88, 32, 89, 124, 115, 101, 95, 99, 109, 112, 108, 58, 48, 100, 48, 48, 58, 88, 32, 89, 124, 115, 101, 95, 97, 100, 100, 105, 58, 50, 48, 48, 48, 58, 88, 32, 79, 53, 124, 115, 101, 95, 99, 109, 112, 108, 105, 58, 50, 50, 48, 48, 58, 88, 32, 79, 53, 124, 115, 101, 95, 115, 117, 98, 105, 58, 50, 52, 48, 48, 58, 88, 32, 79, 53, 124, 115, 101, 95, 99, 109, 112, 105, 58, 50, 97, 48, 48, 58, 88, 32, 85, 53, 124, 115, 101, 95, 111, 114, 58, 52, 52, 48, 48, 58, 88, 32, 89, 124, 115, 101, 95, 97, 110, 100, 99, 58, 52, 53, 48, 48, 58, 88, 32, 89, 124, 115, 101, 95, 97, 110, 100, 58, 52, 54, 48, 48, 58, 88, 32, 89, 124, 115, 101, 95, 108, 105, 58, 52, 56, 48, 48, 58, 88, 32, 85, 55, 124, 115, 101, 95, 98, 99, 108, 114, 105, 58, 54, 48, 48, 48, 58, 88, 32, 85, 53, 124, 115, 101, 95, 98, 115, 101, 116, 105, 58, 54, 52, 48, 48, 58, 88, 32, 85, 53, 124, 115, 101, 95, 98, 116, 115, 116, 105, 58, 54, 54, 48, 48, 58, 88, 32, 85, 53, 124, 115, 101, 95, 115, 114, 119, 105, 58, 54, 56, 48, 48, 58, 88, 32, 85, 53, 124, 115, 101, 95, 115, 108, 119, 105, 58, 54, 99, 48, 48, 58, 88, 32, 85, 53, 124, 115, 101, 95, 108, 98, 122, 58, 56, 48, 48, 48, 58, 89, 32, 77, 49, 32, 88, 124, 115, 101, 95, 115, 116, 98, 58, 57, 48, 48, 48, 58, 89, 32, 77, 49, 32, 88, 124, 115, 101, 95, 108, 104, 122, 58, 97, 48, 48, 48, 58, 89, 32, 77, 50, 32, 88, 124, 115, 101, 95, 115, 116, 104, 58, 98, 48, 48, 48, 58, 89, 32, 77, 50, 32, 88, 124, 115, 101, 95, 108, 119, 122, 58, 99, 48, 48, 48, 58, 89, 32, 77, 52, 32, 88, 124, 115, 101, 95, 115, 116, 119, 58, 100, 48, 48, 48, 58, 89, 32, 77, 52, 32, 88, 124, 115, 101, 95, 98, 99, 58, 101, 48, 48, 48, 58, 79, 49, 32, 73, 50, 32, 84, 56, 124, 115, 101, 95, 98, 58, 101, 56, 48, 48, 58, 84, 56, 124, 115, 101, 95, 98, 108, 58, 101, 57, 48, 48, 58, 84, 56, 124, 101, 95, 97, 100, 100, 49, 54, 105, 58, 49, 99, 48, 48, 48, 48, 48, 48, 58, 68, 32, 65, 32, 83, 49, 54, 124, 101, 95, 97, 100, 100, 105, 58, 49, 56, 48, 48, 56, 48, 48, 48, 58, 68, 32, 65, 32, 67, 56, 124, 101, 95, 97, 110, 100, 105, 58, 49, 56, 48, 48, 99, 48, 48, 48, 58, 65, 32, 68, 32, 67, 56, 124, 101, 95, 111, 114, 105, 58, 49, 56, 48, 48, 100, 48, 48, 48, 58, 65, 32, 68, 32, 67, 56, 124, 101, 95, 120, 111, 114, 105, 58, 49, 56, 48, 48, 101, 48, 48, 48, 58, 65, 32, 68, 32, 67, 56, 124, 101, 95, 108, 105, 58, 55, 48, 48, 48, 48, 48, 48, 48, 58, 68, 32, 76, 50, 48, 124, 101, 95, 108, 98, 122, 58, 51, 48, 48, 48, 48, 48, 48, 48, 58, 68, 32, 83, 49, 54, 32, 65, 124, 101, 95, 115, 116, 98, 58, 51, 52, 48, 48, 48, 48, 48, 48, 58, 68, 32, 83, 49, 54, 32, 65, 124, 101, 95, 108, 104, 97, 58, 51, 56, 48, 48, 48, 48, 48, 48, 58, 68, 32, 83, 49, 54, 32, 65, 124, 101, 95, 108, 119, 122, 58, 53, 48, 48, 48, 48, 48, 48, 48, 58, 68, 32, 83, 49, 54, 32, 65, 124, 101, 95, 115, 116, 119, 58, 53, 52, 48, 48, 48, 48, 48, 48, 58, 68, 32, 83, 49, 54, 32, 65, 124, 101, 95, 108, 104, 122, 58, 53, 56, 48, 48, 48, 48, 48, 48, 58, 68, 32, 83, 49, 54, 32, 65, 124, 101, 95, 115, 116, 104, 58, 53, 99, 48, 48, 48, 48, 48, 48, 58, 68, 32, 83, 49, 54, 32, 65, 124, 101, 95, 98, 58, 55, 56, 48, 48, 48, 48, 48, 48, 58, 84, 50, 52, 124, 101, 95, 98, 108, 58, 55, 56, 48, 48, 48, 48, 48, 49, 58, 84, 50, 52, 124, 101, 95, 98, 99, 58, 55, 97, 48, 48, 48, 48, 48, 48, 58, 79, 50, 32, 73, 52, 32, 84, 49, 53, 124, 101, 95, 98, 99, 108, 58, 55, 97, 48, 48, 48, 48, 48, 49, 58, 79, 50, 32, 73, 52, 32, 84, 49, 53, 124, 97, 100, 100, 58, 55, 99, 48, 48, 48, 50, 49, 52, 58, 68, 32, 65, 32, 66, 124, 115, 117, 98, 102, 58, 55, 99, 48, 48, 48, 48, 53, 48, 58, 68, 32, 65, 32, 66, 124, 109, 117, 108, 108, 119, 58, 55, 99, 48, 48, 48, 49, 100, 54, 58, 68, 32, 65, 32, 66, 124, 97, 110, 100, 58, 55, 99, 48, 48, 48, 48, 51, 56, 58, 65, 32, 68, 32, 66, 124, 111, 114, 58, 55, 99, 48, 48, 48, 51, 55, 56, 58, 65, 32, 68, 32, 66, 124, 120, 111, 114, 58, 55, 99, 48, 48, 48, 50, 55, 56, 58, 65, 32, 68, 32, 66, 124]⟩
def rows2 : List (ByteArray × ByteArray × ByteArray) := [
  (⟨#[115, 101, 95, 105, 108, 108, 101, 103, 97, 108]⟩, ⟨#[48, 48, 48, 48]⟩, ⟨#[]⟩),
  (⟨#[115, 101, 95, 105, 115, 121, 110, 99]⟩, ⟨#[48, 48, 48, 49]⟩, ⟨#[]⟩),
  (⟨#[115, 101, 95, 115, 99]⟩, ⟨#[48, 48, 48, 50]⟩, ⟨#[]⟩),
  (⟨#[115, 101, 95, 98, 108, 114]⟩, ⟨#[48, 48, 48, 52]⟩, ⟨#[]⟩),
  (⟨#[115, 101, 95, 98, 99, 116, 114]⟩, ⟨#[48, 48, 48, 54]⟩, ⟨#[]⟩),
  (⟨#[115, 101, 95, 110, 111, 116]⟩, ⟨#[48, 48, 50, 48]⟩, ⟨#[88]⟩),
  (⟨#[115, 101, 95, 110, 101, 103]⟩, ⟨#[48, 48, 51, 48]⟩, ⟨#[88]⟩),
  (⟨#[115, 101, 95, 109, 102, 108, 114]⟩, ⟨#[48, 48, 56, 48]⟩, ⟨#[88]⟩),
  (⟨#[115, 101, 95, 109, 116, 108, 114]⟩, ⟨#[48, 48, 57, 48]⟩, ⟨#[88]⟩),
  (⟨#[115, 101, 95, 109, 102, 99, 116, 114]⟩, ⟨#[48, 48, 97, 48]⟩, ⟨#[88]⟩),
  (⟨#[115, 101, 95, 109, 116, 99, 116, 114]⟩, ⟨#[48, 48, 98, 48]⟩, ⟨#[88]⟩),
  (⟨#[115, 101, 95, 101, 120, 116, 122, 98]⟩, ⟨#[48, 48, 99, 48]⟩, ⟨#[88]⟩),
  (⟨#[115, 101, 95, 101, 120, 116, 115, 98]⟩, ⟨#[48, 48, 100, 48]⟩, ⟨#[88]⟩),
  (⟨#[115, 101, 95, 101, 120, 116, 122, 104]⟩, ⟨#[48, 48, 101, 48]⟩, ⟨#[88]⟩),
  (⟨#[115, 101, 95, 101, 120, 116, 115, 104]⟩, ⟨#[48, 48, 102, 48]⟩, ⟨#[88]⟩),
  (⟨#[115, 101, 95, 109, 114]⟩, ⟨#[48, 49, 48, 48]⟩, ⟨#[88, 32, 89]⟩),
  (⟨#[115, 101, 95, 97, 100, 100]⟩, ⟨#[48, 52, 48, 48]⟩, ⟨#[88, 32, 89]⟩),
  (⟨#[115, 101, 95, 109, 117, 108, 108, 119]⟩, ⟨#[48, 53, 48, 48]⟩, ⟨#[88, 32, 89]⟩),
  (⟨#[115, 101, 95, 115, 117, 98]⟩, ⟨#[48, 54, 48, 48]⟩, ⟨#[88, 32, 89]⟩),
  (⟨#[115, 101, 95, 99, 109, 112]⟩, ⟨#[48, 99, 48, 48]⟩, ⟨#[88, 32, 89]⟩),
  (⟨#[115, 101, 95, 99, 109, 112, 108]⟩, ⟨#[48, 100, 48, 48]⟩, ⟨#[88, 32, 89]⟩),
  (⟨#[115, 101, 95, 97, 100, 100, 105]⟩, ⟨#[50, 48, 48, 48]⟩, ⟨#[88, 32, 79, 53]⟩),
  (⟨#[115, 101, 95, 99, 109, 112, 108, 105]⟩, ⟨#[50, 50, 48, 48]⟩, ⟨#[88, 32, 79, 53]⟩),
  (⟨#[115, 101, 95, 115, 117, 98, 105]⟩, ⟨#[50, 52, 48, 48]⟩, ⟨#[88, 32, 79, 53]⟩),
  (⟨#[115, 101, 95, 99, 109, 112, 105]⟩, ⟨#[50, 97, 48, 48]⟩, ⟨#[88, 32, 85, 53]⟩),
  (⟨#[115, 101, 95, 111, 114]⟩, ⟨#[52, 52, 48, 48]⟩, ⟨#[88, 32, 89]⟩),
  (⟨#[115, 101, 95, 97, 110, 100, 99]⟩, ⟨#[52, 53, 48, 48]⟩, ⟨#[88, 32, 89]⟩),
  (⟨#[115, 101, 95, 97, 110, 100]⟩, ⟨#[52, 54, 48, 48]⟩, ⟨#[88, 32, 89]⟩),
  (⟨#[115, 101, 95, 108, 105]⟩, ⟨#[52, 56, 48, 48]⟩, ⟨#[88, 32, 85, 55]⟩),
  (⟨#[115, 101, 95, 98, 99, 108, 114, 105]⟩, ⟨#[54, 48, 48, 48]⟩, ⟨#[88, 32, 85, 53]⟩),
  (⟨#[115, 101, 95, 98, 115, 101, 116, 105]⟩, ⟨#[54, 52, 48, 48]⟩, ⟨#[88, 32, 85, 53]⟩),
  (⟨#[115, 101, 95, 98, 116, 115, 116, 105]⟩, ⟨#[54, 54, 48, 48]⟩, ⟨#[88, 32, 85, 53]⟩),
  (⟨#[115, 101, 95, 115, 114, 119, 105]⟩, ⟨#[54, 56, 48, 48]⟩, ⟨#[88, 32, 85, 53]⟩),
  (⟨#[115, 101, 95, 115, 108, 119, 105]⟩, ⟨#[54, 99, 48, 48]⟩, ⟨#[88, 32, 85, 53]⟩),
  (⟨#[115, 101, 95, 108, 98, 122]⟩, ⟨#[56, 48, 48, 48]⟩, ⟨#[89, 32, 77, 49, 32, 88]⟩),
  (⟨#[115, 101, 95, 115, 116, 98]⟩, ⟨#[57, 48, 48, 48]⟩, ⟨#[89, 32, 77, 49, 32, 88]⟩),
  (⟨#[115, 101, 95, 108, 104, 122]⟩, ⟨#[97, 48, 48, 48]⟩, ⟨#[89, 32, 77, 50, 32, 88]⟩),
  (⟨#[115, 101, 95, 115, 116, 104]⟩, ⟨#[98, 48, 48, 48]⟩, ⟨#[89, 32, 77, 50, 32, 88]⟩),
  (⟨#[115, 101, 95, 108, 119, 122]⟩, ⟨#[99, 48, 48, 48]⟩, ⟨#[89, 32, 77, 52, 32, 88]⟩),
  (⟨#[115, 101, 95, 115, 116, 119]⟩, ⟨#[100, 48, 48, 48]⟩, ⟨#[89, 32, 77, 52, 32, 88]⟩),
  (⟨#[115, 101, 95, 98, 99]⟩, ⟨#[101, 48, 48, 48]⟩, ⟨#[79, 49, 32, 73, 50, 32, 84, 56]⟩),
  (⟨#[115, 101, 95, 98]⟩, ⟨#[101, 56, 48, 48]⟩, ⟨#[84, 56]⟩),
  (⟨#[115, 101, 95, 98, 108]⟩, ⟨#[101, 57, 48, 48]⟩, ⟨#[84, 56]⟩),
  (⟨#[101, 95, 97, 100, 100, 49, 54, 105]⟩, ⟨#[49, 99, 48, 48, 48, 48, 48, 48]⟩, ⟨#[68, 32, 65, 32, 83, 49, 54]⟩),
  (⟨#[101, 95, 97, 100, 100, 105]⟩, ⟨#[49, 56, 48, 48, 56, 48, 48, 48]⟩, ⟨#[68, 32, 65, 32, 67, 56]⟩),
  (⟨#[101, 95, 97, 110, 100, 105]⟩, ⟨#[49, 56, 48, 48, 99, 48, 48, 48]⟩, ⟨#[65, 32, 68, 32, 67, 56]⟩),
  (⟨#[101, 95, 111, 114, 105]⟩, ⟨#[49, 56, 48, 48, 100, 48, 48, 48]⟩, ⟨#[65, 32, 68, 32, 67, 56]⟩),
  (⟨#[101, 95, 120, 111, 114, 105]⟩, ⟨#[49, 56, 48, 48, 101, 48, 48, 48]⟩, ⟨#[65, 32, 68, 32, 67, 56]⟩),
  (⟨#[101, 95, 108, 105]⟩, ⟨#[55, 48, 48, 48, 48, 48, 48, 48]⟩, ⟨#[68, 32, 76, 50, 48]⟩),
  (⟨#[101, 95, 108, 98, 122]⟩, ⟨#[51, 48, 48, 48, 48, 48, 48, 48]⟩, ⟨#[68, 32, 83, 49, 54, 32, 65]⟩),
  (⟨#[101, 95, 115, 116, 98]⟩, ⟨#[51, 52, 48, 48, 48, 48, 48, 48]⟩, ⟨#[68, 32, 83, 49, 54, 32, 65]⟩),
  (⟨#[101, 95, 108, 104, 97]⟩, ⟨#[51, 56, 48, 48, 48, 48, 48, 48]⟩, ⟨#[68, 32, 83, 49, 54, 32, 65]⟩),
  (⟨#[101, 95, 108, 119, 122]⟩, ⟨#[53, 48, 48, 48, 48, 48, 48, 48]⟩, ⟨#[68, 32, 83, 49, 54, 32, 65]⟩),
  (⟨#[101, 95, 115, 116, 119]⟩, ⟨#[53, 52, 48, 48, 48, 48, 48, 48]⟩, ⟨#[68, 32, 83, 49, 54, 32, 65]⟩),
  (⟨#[101, 95, 108, 104, 122]⟩, ⟨#[53, 56, 48, 48, 48, 48, 48, 48]⟩, ⟨#[68, 32, 83, 49, 54, 32, 65]⟩),
  (⟨#[101, 95, 115, 116, 104]⟩, ⟨#[53, 99, 48, 48, 48, 48, 48, 48]⟩, ⟨#[68, 32, 83, 49, 54, 32, 65]⟩),
  (⟨#[101, 95, 98]⟩, ⟨#[55, 56, 48, 48, 48, 48, 48, 48]⟩, ⟨#[84, 50, 52]⟩),
  (⟨#[101, 95, 98, 108]⟩, ⟨#[55, 56, 48, 48, 48, 48, 48, 49]⟩, ⟨#[84, 50, 52]⟩),
  (⟨#[101, 95, 98, 99]⟩, ⟨#[55, 97, 48, 48, 48, 48, 48, 48]⟩, ⟨#[79, 50, 32, 73, 52, 32, 84, 49, 53]⟩),
  (⟨#[101, 95, 98, 99, 108]⟩, ⟨#[55, 97, 48, 48, 48, 48, 48, 49]⟩, ⟨#[79, 50, 32, 73, 52, 32, 84, 49, 53]⟩),
  (⟨#[97, 100, 100]⟩, ⟨#[55, 99, 48, 48, 48, 50, 49, 52]⟩, ⟨#[68, 32, 65, 32, 66]⟩),
  (⟨#[115, 117, 98, 102]⟩, ⟨#[55, 99, 48, 48, 48, 48, 53, 48]⟩, ⟨#[68, 32, 65, 32, 66]⟩),
  (⟨#[109, 117, 108, 108, 119]⟩, ⟨#[55, 99, 48, 48, 48, 49, 100, 54]⟩, ⟨#[68, 32, 65, 32, 66]⟩),
  (⟨#[97, 110, 100]⟩, ⟨#[55, 99, 48, 48, 48, 48, 51, 56]⟩, ⟨#[65, 32, 68, 32, 66]⟩),
  (⟨#[111, 114]⟩, ⟨#[55, 99, 48, 48, 48, 51, 55, 56]⟩, ⟨#[65, 32, 68, 32, 66]⟩),
  (⟨#[120, 111, 114]⟩, ⟨#[55, 99, 48, 48, 48, 50, 55, 56]⟩, ⟨#[65, 32, 68, 32, 66]⟩)]
def posL : List (Nat × Nat × Nat × Nat) := [(0, 10, 15, 16), (17, 25, 30, 31), (32, 37, 42, 43), (44, 50, 55, 56), (57, 64, 69, 70), (71, 77, 82, 84), (85, 91, 96, 98), (99, 106, 111, 113), (114, 121, 126, 128), (129, 137, 142, 144), (145, 153, 158, 160), (161, 169, 174, 176), (177, 185, 190, 192), (193, 201, 206, 208), (209, 217, 222, 224), (225, 230, 235, 239), (240, 246, 251, 255), (256, 264, 269, 273), (274, 280, 285, 289), (290, 296, 301, 305), (306, 313, 318, 322), (323, 330, 335, 340), (341, 349, 354, 359), (360, 367, 372, 377), (378, 385, 390, 395), (396, 401, 406, 410), (411, 418, 423, 427), (428, 434, 439, 443), (444, 449, 454, 459), (460, 468, 473, 478), (479, 487, 492, 497), (498, 506, 511, 516), (517, 524, 529, 534), (535, 542, 547, 552), (553, 559, 564, 571), (572, 578, 583, 590), (591, 597, 602, 609), (610, 616, 621, 628), (629, 635, 640, 647), (648, 654, 659, 666), (667, 672, 677, 686), (687, 691, 696, 699), (700, 705, 710, 713), (714, 722, 731, 739), (740, 746, 755, 762), (763, 769, 778, 785), (786, 791, 800, 807), (808, 814, 823, 830), (831, 835, 844, 850), (851, 856, 865, 873), (874, 879, 888, 896), (897, 902, 911, 919), (920, 925, 934, 942), (943, 948, 957, 965), (966, 971, 980, 988), (989, 994, 1003, 1011), (1012, 1015, 1024, 1028), (1029, 1033, 1042, 1046), (1047, 1051, 1060, 1070), (1071, 1076, 1085, 1095), (1096, 1099, 1108, 1114), (1115, 1119, 1128, 1134), (1135, 1140, 1149, 1155), (1156, 1159, 1168, 1174), (1175, 1177, 1186, 1192), (1193, 1196, 1205, 1211)]
def pp (r : Nat) : Nat := (posL.getD r (1212, 0, 0, 0)).1
def pa (r : Nat) : Nat := (posL.getD r (1212, 0, 0, 0)).2.1
def pb (r : Nat) : Nat := (posL.getD r (1212, 0, 0, 0)).2.2.1
def pc (r : Nat) : Nat := (posL.getD r (1212, 0, 0, 0)).2.2.2
def rn (r : Nat) : ByteArray := (rows2.getD r (⟨#[]⟩, ⟨#[]⟩, ⟨#[]⟩)).1
def rb (r : Nat) : ByteArray := (rows2.getD r (⟨#[]⟩, ⟨#[]⟩, ⟨#[]⟩)).2.1
def rk (r : Nat) : ByteArray := (rows2.getD r (⟨#[]⟩, ⟨#[]⟩, ⟨#[]⟩)).2.2
def tblL : List UInt8 := tbl.data.toList
def segOk (r : Nat) : Bool :=
  let s := (tblL.drop (pp r)).take 40
  (List.range (pc r - pp r + 1)).all fun d =>
    let c := (s.getD d 0).toNat
    if pp r + d == pa r then c == 58 else if pp r + d == pb r then c == 58 else if pp r + d == pc r then c == 124 else c != 58 && c != 124
def exOk (r : Nat) : Bool :=
  (tblL.drop (pp r)).take (pa r - pp r) == (rn r).data.toList && (tblL.drop (pa r + 1)).take (pb r - (pa r + 1)) == (rb r).data.toList && (tblL.drop (pb r + 1)).take (pc r - (pb r + 1)) == (rk r).data.toList
/-- The first row of a number, or a name. -/
def findGo (op : Int) (name : ByteArray) : Nat → List (ByteArray × ByteArray × ByteArray) → ByteArray × ByteArray × ByteArray × Int × Bool
  | _, [] => (⟨#[]⟩, ⟨#[]⟩, ⟨#[]⟩, 0, false)
  | n, (a, b, c) :: l => if (n : Int) = op ∨ a.toList = name.toList then (a, b, c, (n : Int), true) else findGo op name (n + 1) l
def letterpressref2_find.f (a0 : Int) (a1 : ByteArray) : Option (ByteArray × ByteArray × ByteArray × Int × Bool) := some (findGo a0 a1 0 rows2)
/-- No row ahead of r is meant. -/
def noRow (op : Int) (name : ByteArray) (r : Nat) : Prop := ∀ m, m < r → ¬ ((m : Int) = op ∨ (rn m).toList = name.toList)
/-- Where the loop stands: in row r, at byte j. -/
def Stands (op : Int) (name : ByteArray) (r j : Nat) (k a : Int) (f0 f1 : ByteArray) : Prop :=
  r ≤ 66 ∧ noRow op name r ∧ (r = 66 ∧ j = 1212 ∧ k = 0 ∨ r < 66 ∧ pp r ≤ j ∧ j ≤ pc r ∧
    (j ≤ pa r ∧ k = 0 ∧ a = pp r ∨ pa r < j ∧ j ≤ pb r ∧ k = 1 ∧ a = pa r + 1 ∧ f0 = rn r ∨ pb r < j ∧ k = 2 ∧ a = pb r + 1 ∧ f0 = rn r ∧ f1 = rb r))
def FindIs (op : Int) (name : ByteArray) (w : World) (e : Ending) (w' : World) : Prop :=
  e = .returned (.tuple #[.agg #[.string (findGo op name 0 rows2).1, .string (findGo op name 0 rows2).2.1, .string (findGo op name 0 rows2).2.2.1], .int .i64 (findGo op name 0 rows2).2.2.2.1, .bool (findGo op name 0 rows2).2.2.2.2]) ∧ Below w.heap.size w w'
def letterpressref2_in.f (a0 : Int) (a1 : Int) (a2 : Int) : Option (Bool) := if a0 ≥ 0 then (if a0 < (wrap64 (a1 * a2)) then (if a2 = 0 then (none) else (some ((Int.tmod a0 a2) == 0))) else (some false)) else (some false)
def letterpressref1_Fits.f (a0 : Int) (a1 : Int) : Option (Bool) := if 0 ≤ (IntKind.u64.wrap (wrap64 (a1 - 1))) then (if a0 ≥ (wrap64 (-(shl .i64 1 (IntKind.u64.wrap (wrap64 (a1 - 1)))))) then (some (decide (a0 < (shl .i64 1 (IntKind.u64.wrap (wrap64 (a1 - 1))))))) else (some false)) else (none)
def letterpressref1_Sign.f (a0 : Int) (a1 : Int) : Option (Int) := if 0 ≤ (IntKind.u64.wrap (a1)) then (if (Go.bits .and .i64 a0 (wrap64 ((shl .i64 1 (IntKind.u64.wrap (a1))) - 1))) ≥ (wrap64 (Int.tdiv (shl .i64 1 (IntKind.u64.wrap (a1))) 2)) then (some (wrap64 ((Go.bits .and .i64 a0 (wrap64 ((shl .i64 1 (IntKind.u64.wrap (a1))) - 1))) - (shl .i64 1 (IntKind.u64.wrap (a1)))))) else (some (Go.bits .and .i64 a0 (wrap64 ((shl .i64 1 (IntKind.u64.wrap (a1))) - 1))))) else (none)
def letterpressref1_Back.l0 : Nat → Int → Int → Int → Int → Int → Option (Int)
  | 0, _, _, _, _, _ => none
  | k + 1, x0, x1, x2, x7, x8 => if x8 ≥ 0 then (if x8 = x1 then (letterpressref1_Back.l0 k x0 x1 x2 (wrap64 ((wrap64 (x7 * 256)) + x2)) (wrap64 (x8 - 1))) else (letterpressref1_Back.l0 k x0 x1 x2 (wrap64 ((wrap64 (x7 * 256)) + (wrap64 (255 * x0)))) (wrap64 (x8 - 1)))) else ((letterpressref1_Sign.f x7 32).bind fun t271 => (some t271))
def letterpressref1_Back.f (k : Nat) (a0 : Int) (a1 : Int) (a2 : Int) : Option (Int) := letterpressref1_Back.l0 k a0 a1 a2 0 3
theorem letterpressref1_Back.mono_l : ∀ k, (∀ y0 y1 y2 y3 y4, LeO (letterpressref1_Back.l0 k y0 y1 y2 y3 y4) (letterpressref1_Back.l0 (k + 1) y0 y1 y2 y3 y4))
  | 0 => fun _ _ _ _ _ r h => by simp [letterpressref1_Back.l0] at h
  | k + 1 => by
    have ih0 := letterpressref1_Back.mono_l k
    · intro y0 y1 y2 y3 y4
      unfold letterpressref1_Back.l0
      repeat' first
      | (with_reducible exact ih0 _ _ _ _ _)
      | (with_reducible exact LeO.refl _)
      | (with_reducible exact LeO.none _)
      | (with_reducible refine LeO.ite ?_ ?_)
      | (with_reducible refine LeO.bind ?_ (fun _ => ?_))
      | exact ih0 _ _ _ _ _
      | exact LeO.none _
      | refine LeO.ite ?_ ?_
      | refine LeO.bind ?_ (fun _ => ?_)
theorem letterpressref1_Back.mono : ∀ a0 a1 a2 k, LeO (letterpressref1_Back.f k a0 a1 a2) (letterpressref1_Back.f (k + 1) a0 a1 a2) := by
  intro a0 a1 a2 k
  have ih0 := letterpressref1_Back.mono_l k
  unfold letterpressref1_Back.f
  repeat' first
      | (with_reducible exact ih0 _ _ _ _ _)
      | (with_reducible exact LeO.refl _)
      | (with_reducible exact LeO.none _)
      | (with_reducible refine LeO.ite ?_ ?_)
      | (with_reducible refine LeO.bind ?_ (fun _ => ?_))
      | exact ih0 _ _ _ _ _
      | exact LeO.none _
      | refine LeO.ite ?_ ?_
      | refine LeO.bind ?_ (fun _ => ?_)
mutual
def letterpressref1_Sci8.l0 : Nat → Int → Int → Option (Int × Int × Int × Bool)
  | 0, _, _ => none
  | k + 1, x0, x6 => if x6 < 2 then (letterpressref1_Sci8.l1 k x0 x6 0) else (some (0, 0, 0, false))
def letterpressref1_Sci8.l1 : Nat → Int → Int → Int → Option (Int × Int × Int × Bool)
  | 0, _, _, _ => none
  | k + 1, x0, x6, x7 => if x7 < 4 then (if 0 ≤ (IntKind.u64.wrap (wrap64 (8 * x7))) then ((letterpressref1_Back.f k x6 x7 (Go.bits .and .i64 (shr .i64 x0 (IntKind.u64.wrap (wrap64 (8 * x7)))) 255)).bind fun t273 => (if t273 = x0 then (some (x6, x7, Go.bits .and .i64 (shr .i64 x0 (IntKind.u64.wrap (wrap64 (8 * x7)))) 255, true)) else (letterpressref1_Sci8.l1 k x0 x6 (wrap64 (x7 + 1))))) else (none)) else (letterpressref1_Sci8.l0 k x0 (wrap64 (x6 + 1)))
end
def letterpressref1_Sci8.f (k : Nat) (a0 : Int) : Option (Int × Int × Int × Bool) := (letterpressref1_Fits.f a0 32).bind fun t272 => (if t272 = true then (letterpressref1_Sci8.l0 k a0 0) else (some (0, 0, 0, false)))
theorem letterpressref1_Sci8.mono_l : ∀ k, (∀ y0 y1, LeO (letterpressref1_Sci8.l0 k y0 y1) (letterpressref1_Sci8.l0 (k + 1) y0 y1)) ∧ (∀ y0 y1 y2, LeO (letterpressref1_Sci8.l1 k y0 y1 y2) (letterpressref1_Sci8.l1 (k + 1) y0 y1 y2))
  | 0 => ⟨fun _ _ r h => by simp [letterpressref1_Sci8.l0] at h, fun _ _ _ r h => by simp [letterpressref1_Sci8.l1] at h⟩
  | k + 1 => by
    obtain ⟨ih0, ih1⟩ := letterpressref1_Sci8.mono_l k
    refine ⟨?_, ?_⟩
    · intro y0 y1
      unfold letterpressref1_Sci8.l0
      repeat' first
      | (with_reducible exact ih0 _ _)
      | (with_reducible exact ih1 _ _ _)
      | (with_reducible exact letterpressref1_Back.mono _ _ _ _)
      | (with_reducible exact LeO.refl _)
      | (with_reducible exact LeO.none _)
      | (with_reducible refine LeO.ite ?_ ?_)
      | (with_reducible refine LeO.bind ?_ (fun _ => ?_))
      | exact ih0 _ _
      | exact ih1 _ _ _
      | exact letterpressref1_Back.mono _ _ _ _
      | exact LeO.none _
      | refine LeO.ite ?_ ?_
      | refine LeO.bind ?_ (fun _ => ?_)
    · intro y0 y1 y2
      unfold letterpressref1_Sci8.l1
      repeat' first
      | (with_reducible exact ih0 _ _)
      | (with_reducible exact ih1 _ _ _)
      | (with_reducible exact letterpressref1_Back.mono _ _ _ _)
      | (with_reducible exact LeO.refl _)
      | (with_reducible exact LeO.none _)
      | (with_reducible refine LeO.ite ?_ ?_)
      | (with_reducible refine LeO.bind ?_ (fun _ => ?_))
      | exact ih0 _ _
      | exact ih1 _ _ _
      | exact letterpressref1_Back.mono _ _ _ _
      | exact LeO.none _
      | refine LeO.ite ?_ ?_
      | refine LeO.bind ?_ (fun _ => ?_)
theorem letterpressref1_Sci8.mono : ∀ a0 k, LeO (letterpressref1_Sci8.f k a0) (letterpressref1_Sci8.f (k + 1) a0) := by
  intro a0 k
  obtain ⟨ih0, ih1⟩ := letterpressref1_Sci8.mono_l k
  unfold letterpressref1_Sci8.f
  repeat' first
      | (with_reducible exact ih0 _ _)
      | (with_reducible exact ih1 _ _ _)
      | (with_reducible exact letterpressref1_Back.mono _ _ _ _)
      | (with_reducible exact LeO.refl _)
      | (with_reducible exact LeO.none _)
      | (with_reducible refine LeO.ite ?_ ?_)
      | (with_reducible refine LeO.bind ?_ (fun _ => ?_))
      | exact ih0 _ _
      | exact ih1 _ _ _
      | exact letterpressref1_Back.mono _ _ _ _
      | exact LeO.none _
      | refine LeO.ite ?_ ?_
      | refine LeO.bind ?_ (fun _ => ?_)
def letterpressref2_even.f (a0 : Int) (a1 : Int) : Option (Bool) := if (Int.tmod a0 2) = 0 then ((letterpressref1_Fits.f a0 a1).bind fun t274 => (some t274)) else (some false)
def letterpressref2_wide.f (k : Nat) (a0 : ByteArray) (a1 : Int) : Option (Bool) := if a0.toList = ([84, 56] : List UInt8) then ((letterpressref2_even.f a1 9).bind fun t275 => (some t275)) else (if a0.toList = ([83, 49, 54] : List UInt8) then ((letterpressref1_Fits.f a1 16).bind fun t276 => (some t276)) else (if a0.toList = ([76, 50, 48] : List UInt8) then ((letterpressref1_Fits.f a1 20).bind fun t277 => (some t277)) else (if a0.toList = ([84, 49, 53] : List UInt8) then ((letterpressref2_even.f a1 16).bind fun t278 => (some t278)) else (if a0.toList = ([84, 50, 52] : List UInt8) then ((letterpressref2_even.f a1 25).bind fun t279 => (some t279)) else ((letterpressref1_Sci8.f k a1).bind fun bt280 => (if a0.toList = ([67, 56] : List UInt8) then (some bt280.2.2.2) else (some false)))))))
theorem letterpressref2_wide.mono : ∀ a0 a1 k, LeO (letterpressref2_wide.f k a0 a1) (letterpressref2_wide.f (k + 1) a0 a1) := by
  intro a0 a1 k
  unfold letterpressref2_wide.f
  repeat' first
      | (with_reducible exact letterpressref1_Sci8.mono _ _)
      | (with_reducible exact LeO.refl _)
      | (with_reducible exact LeO.none _)
      | (with_reducible refine LeO.ite ?_ ?_)
      | (with_reducible refine LeO.bind ?_ (fun _ => ?_))
      | exact letterpressref1_Sci8.mono _ _
      | exact LeO.none _
      | refine LeO.ite ?_ ?_
      | refine LeO.bind ?_ (fun _ => ?_)
mutual
def letterpressref2_May.j0 : Nat → ByteArray → Int → ByteArray → Bool → Option (Bool)
  | 0, _, _, _, _ => none
  | k + 1, x0, x1, x5, x6 => if x6 = true then (if x1 ≥ 0 then (if x1 ≤ 7 then (some true) else (if x1 ≥ 24 then (some (decide (x1 ≤ 31))) else (some false))) else (if x1 ≥ 24 then (some (decide (x1 ≤ 31))) else (some false))) else (if x5.toList = ([85, 53] : List UInt8) then (letterpressref2_May.j1 k x0 x1 x5 (x5.toList == ([85, 53] : List UInt8))) else (if x5.toList = ([68] : List UInt8) then (letterpressref2_May.j1 k x0 x1 x5 (x5.toList == ([68] : List UInt8))) else (if x5.toList = ([65] : List UInt8) then (letterpressref2_May.j1 k x0 x1 x5 (x5.toList == ([65] : List UInt8))) else (letterpressref2_May.j1 k x0 x1 x5 (x5.toList == ([66] : List UInt8))))))
def letterpressref2_May.j1 : Nat → ByteArray → Int → ByteArray → Bool → Option (Bool)
  | 0, _, _, _, _ => none
  | k + 1, x0, x1, x5, x23 => if x23 = true then ((letterpressref2_in.f x1 32 1).bind fun t284 => (some t284)) else (if x5.toList = ([85, 55] : List UInt8) then ((letterpressref2_in.f x1 128 1).bind fun t285 => (some t285)) else (if x5.toList = ([79, 53] : List UInt8) then ((letterpressref2_in.f (wrap64 (x1 - 1)) 32 1).bind fun t286 => (some t286)) else (if x5.toList = ([77, 49] : List UInt8) then (letterpressref2_May.j2 k x0 x1 x5 (x5.toList == ([77, 49] : List UInt8))) else (letterpressref2_May.j2 k x0 x1 x5 (x5.toList == ([73, 52] : List UInt8))))))
def letterpressref2_May.j2 : Nat → ByteArray → Int → ByteArray → Bool → Option (Bool)
  | 0, _, _, _, _ => none
  | k + 1, x0, x1, x5, x39 => if x39 = true then ((letterpressref2_in.f x1 16 1).bind fun t287 => (some t287)) else (if x5.toList = ([77, 50] : List UInt8) then ((letterpressref2_in.f x1 16 2).bind fun t288 => (some t288)) else (if x5.toList = ([77, 52] : List UInt8) then ((letterpressref2_in.f x1 16 4).bind fun t289 => (some t289)) else (if x5.toList = ([79, 49] : List UInt8) then ((letterpressref2_in.f x1 2 1).bind fun t290 => (some t290)) else (if x5.toList = ([73, 50] : List UInt8) then (letterpressref2_May.j3 k x0 x1 (x5.toList == ([73, 50] : List UInt8))) else (letterpressref2_May.j3 k x0 x1 (x5.toList == ([79, 50] : List UInt8)))))))
def letterpressref2_May.j3 : Nat → ByteArray → Int → Bool → Option (Bool)
  | 0, _, _, _ => none
  | k + 1, x0, x1, x56 => if x56 = true then ((letterpressref2_in.f x1 4 1).bind fun t291 => (some t291)) else ((letterpressref2_wide.f k x0 x1).bind fun t292 => (some t292))
end
def letterpressref2_May.f (k : Nat) (a0 : ByteArray) (a1 : Int) : Option (Bool) := if a0.toList = ([88] : List UInt8) then (letterpressref2_May.j0 k a0 a1 a0 (a0.toList == ([88] : List UInt8))) else (letterpressref2_May.j0 k a0 a1 a0 (a0.toList == ([89] : List UInt8)))
theorem letterpressref2_May.mono_l : ∀ k, (∀ y0 y1 y2 y3, LeO (letterpressref2_May.j0 k y0 y1 y2 y3) (letterpressref2_May.j0 (k + 1) y0 y1 y2 y3)) ∧ (∀ y0 y1 y2 y3, LeO (letterpressref2_May.j1 k y0 y1 y2 y3) (letterpressref2_May.j1 (k + 1) y0 y1 y2 y3)) ∧ (∀ y0 y1 y2 y3, LeO (letterpressref2_May.j2 k y0 y1 y2 y3) (letterpressref2_May.j2 (k + 1) y0 y1 y2 y3)) ∧ (∀ y0 y1 y2, LeO (letterpressref2_May.j3 k y0 y1 y2) (letterpressref2_May.j3 (k + 1) y0 y1 y2))
  | 0 => ⟨fun _ _ _ _ r h => by simp [letterpressref2_May.j0] at h, fun _ _ _ _ r h => by simp [letterpressref2_May.j1] at h, fun _ _ _ _ r h => by simp [letterpressref2_May.j2] at h, fun _ _ _ r h => by simp [letterpressref2_May.j3] at h⟩
  | k + 1 => by
    obtain ⟨ih0, ih1, ih2, ih3⟩ := letterpressref2_May.mono_l k
    refine ⟨?_, ?_, ?_, ?_⟩
    · intro y0 y1 y2 y3
      unfold letterpressref2_May.j0
      repeat' first
      | (with_reducible exact ih0 _ _ _ _)
      | (with_reducible exact ih1 _ _ _ _)
      | (with_reducible exact ih2 _ _ _ _)
      | (with_reducible exact ih3 _ _ _)
      | (with_reducible exact letterpressref2_wide.mono _ _ _)
      | (with_reducible exact LeO.refl _)
      | (with_reducible exact LeO.none _)
      | (with_reducible refine LeO.ite ?_ ?_)
      | (with_reducible refine LeO.bind ?_ (fun _ => ?_))
      | exact ih0 _ _ _ _
      | exact ih1 _ _ _ _
      | exact ih2 _ _ _ _
      | exact ih3 _ _ _
      | exact letterpressref2_wide.mono _ _ _
      | exact LeO.none _
      | refine LeO.ite ?_ ?_
      | refine LeO.bind ?_ (fun _ => ?_)
    · intro y0 y1 y2 y3
      unfold letterpressref2_May.j1
      repeat' first
      | (with_reducible exact ih0 _ _ _ _)
      | (with_reducible exact ih1 _ _ _ _)
      | (with_reducible exact ih2 _ _ _ _)
      | (with_reducible exact ih3 _ _ _)
      | (with_reducible exact letterpressref2_wide.mono _ _ _)
      | (with_reducible exact LeO.refl _)
      | (with_reducible exact LeO.none _)
      | (with_reducible refine LeO.ite ?_ ?_)
      | (with_reducible refine LeO.bind ?_ (fun _ => ?_))
      | exact ih0 _ _ _ _
      | exact ih1 _ _ _ _
      | exact ih2 _ _ _ _
      | exact ih3 _ _ _
      | exact letterpressref2_wide.mono _ _ _
      | exact LeO.none _
      | refine LeO.ite ?_ ?_
      | refine LeO.bind ?_ (fun _ => ?_)
    · intro y0 y1 y2 y3
      unfold letterpressref2_May.j2
      repeat' first
      | (with_reducible exact ih0 _ _ _ _)
      | (with_reducible exact ih1 _ _ _ _)
      | (with_reducible exact ih2 _ _ _ _)
      | (with_reducible exact ih3 _ _ _)
      | (with_reducible exact letterpressref2_wide.mono _ _ _)
      | (with_reducible exact LeO.refl _)
      | (with_reducible exact LeO.none _)
      | (with_reducible refine LeO.ite ?_ ?_)
      | (with_reducible refine LeO.bind ?_ (fun _ => ?_))
      | exact ih0 _ _ _ _
      | exact ih1 _ _ _ _
      | exact ih2 _ _ _ _
      | exact ih3 _ _ _
      | exact letterpressref2_wide.mono _ _ _
      | exact LeO.none _
      | refine LeO.ite ?_ ?_
      | refine LeO.bind ?_ (fun _ => ?_)
    · intro y0 y1 y2
      unfold letterpressref2_May.j3
      repeat' first
      | (with_reducible exact ih0 _ _ _ _)
      | (with_reducible exact ih1 _ _ _ _)
      | (with_reducible exact ih2 _ _ _ _)
      | (with_reducible exact ih3 _ _ _)
      | (with_reducible exact letterpressref2_wide.mono _ _ _)
      | (with_reducible exact LeO.refl _)
      | (with_reducible exact LeO.none _)
      | (with_reducible refine LeO.ite ?_ ?_)
      | (with_reducible refine LeO.bind ?_ (fun _ => ?_))
      | exact ih0 _ _ _ _
      | exact ih1 _ _ _ _
      | exact ih2 _ _ _ _
      | exact ih3 _ _ _
      | exact letterpressref2_wide.mono _ _ _
      | exact LeO.none _
      | refine LeO.ite ?_ ?_
      | refine LeO.bind ?_ (fun _ => ?_)
theorem letterpressref2_May.mono : ∀ a0 a1 k, LeO (letterpressref2_May.f k a0 a1) (letterpressref2_May.f (k + 1) a0 a1) := by
  intro a0 a1 k
  obtain ⟨ih0, ih1, ih2, ih3⟩ := letterpressref2_May.mono_l k
  unfold letterpressref2_May.f
  repeat' first
      | (with_reducible exact ih0 _ _ _ _)
      | (with_reducible exact ih1 _ _ _ _)
      | (with_reducible exact ih2 _ _ _ _)
      | (with_reducible exact ih3 _ _ _)
      | (with_reducible exact letterpressref2_wide.mono _ _ _)
      | (with_reducible exact LeO.refl _)
      | (with_reducible exact LeO.none _)
      | (with_reducible refine LeO.ite ?_ ?_)
      | (with_reducible refine LeO.bind ?_ (fun _ => ?_))
      | exact ih0 _ _ _ _
      | exact ih1 _ _ _ _
      | exact ih2 _ _ _ _
      | exact ih3 _ _ _
      | exact letterpressref2_wide.mono _ _ _
      | exact LeO.none _
      | refine LeO.ite ?_ ?_
      | refine LeO.bind ?_ (fun _ => ?_)
mutual
def letterpressref2_Right.j0 : Nat → List ByteArray → Bool → Int → List Int → Option (Bool)
  | 0, _, _, _, _ => none
  | k + 1, x6, x27, x294000, x294001 => if x27 = true then (some false) else (letterpressref2_Right.l0 k x6 0 x294000 x294001)
def letterpressref2_Right.l0 : Nat → List ByteArray → Int → Int → List Int → Option (Bool)
  | 0, _, _, _, _ => none
  | k + 1, x6, x7, x294000, x294001 => if x7 < (x6.length : Int) then (if 0 ≤ x7 then (if x7 < (x294001.length : Int) then ((letterpressref2_May.f k (rdOf ByteArray.empty x6 x7) (rd x294001 x7)).bind fun t305 => (if t305 = true then (letterpressref2_Right.l0 k x6 (wrap64 (x7 + 1)) x294000 x294001) else (some false))) else (none)) else (none)) else (some true)
end
def letterpressref2_Right.f (k : Nat) (a0_0 : Int) (l0_1 : List Int) : Option (Bool) := (letterpressref2_find.f a0_0 (⟨#[32]⟩ : ByteArray)).bind fun bt294 => ((letterpressref2_Words.f k bt294.2.2.1).bind fun t300 => (if bt294.2.2.2.2 = true then (letterpressref2_Right.j0 k t300 ((l0_1.length : Int) != (t300.length : Int)) a0_0 l0_1) else (letterpressref2_Right.j0 k t300 true a0_0 l0_1)))
theorem letterpressref2_Right.mono_l : ∀ k, (∀ y0 y1 y2 y3, LeO (letterpressref2_Right.j0 k y0 y1 y2 y3) (letterpressref2_Right.j0 (k + 1) y0 y1 y2 y3)) ∧ (∀ y0 y1 y2 y3, LeO (letterpressref2_Right.l0 k y0 y1 y2 y3) (letterpressref2_Right.l0 (k + 1) y0 y1 y2 y3))
  | 0 => ⟨fun _ _ _ _ r h => by simp [letterpressref2_Right.j0] at h, fun _ _ _ _ r h => by simp [letterpressref2_Right.l0] at h⟩
  | k + 1 => by
    obtain ⟨ih0, ih1⟩ := letterpressref2_Right.mono_l k
    refine ⟨?_, ?_⟩
    · intro y0 y1 y2 y3
      unfold letterpressref2_Right.j0
      repeat' first
      | (with_reducible exact ih0 _ _ _ _)
      | (with_reducible exact ih1 _ _ _ _)
      | (with_reducible exact letterpressref2_May.mono _ _ _)
      | (with_reducible exact letterpressref2_Words.mono _ _)
      | (with_reducible exact LeO.refl _)
      | (with_reducible exact LeO.none _)
      | (with_reducible refine LeO.ite ?_ ?_)
      | (with_reducible refine LeO.bind ?_ (fun _ => ?_))
      | exact ih0 _ _ _ _
      | exact ih1 _ _ _ _
      | exact letterpressref2_May.mono _ _ _
      | exact letterpressref2_Words.mono _ _
      | exact LeO.none _
      | refine LeO.ite ?_ ?_
      | refine LeO.bind ?_ (fun _ => ?_)
    · intro y0 y1 y2 y3
      unfold letterpressref2_Right.l0
      repeat' first
      | (with_reducible exact ih0 _ _ _ _)
      | (with_reducible exact ih1 _ _ _ _)
      | (with_reducible exact letterpressref2_May.mono _ _ _)
      | (with_reducible exact letterpressref2_Words.mono _ _)
      | (with_reducible exact LeO.refl _)
      | (with_reducible exact LeO.none _)
      | (with_reducible refine LeO.ite ?_ ?_)
      | (with_reducible refine LeO.bind ?_ (fun _ => ?_))
      | exact ih0 _ _ _ _
      | exact ih1 _ _ _ _
      | exact letterpressref2_May.mono _ _ _
      | exact letterpressref2_Words.mono _ _
      | exact LeO.none _
      | refine LeO.ite ?_ ?_
      | refine LeO.bind ?_ (fun _ => ?_)
theorem letterpressref2_Right.mono : ∀ a0 a1 k, LeO (letterpressref2_Right.f k a0 a1) (letterpressref2_Right.f (k + 1) a0 a1) := by
  intro a0 a1 k
  obtain ⟨ih0, ih1⟩ := letterpressref2_Right.mono_l k
  unfold letterpressref2_Right.f
  repeat' first
      | (with_reducible exact ih0 _ _ _ _)
      | (with_reducible exact ih1 _ _ _ _)
      | (with_reducible exact letterpressref2_May.mono _ _ _)
      | (with_reducible exact letterpressref2_Words.mono _ _)
      | (with_reducible exact LeO.refl _)
      | (with_reducible exact LeO.none _)
      | (with_reducible refine LeO.ite ?_ ?_)
      | (with_reducible refine LeO.bind ?_ (fun _ => ?_))
      | exact ih0 _ _ _ _
      | exact ih1 _ _ _ _
      | exact letterpressref2_May.mono _ _ _
      | exact letterpressref2_Words.mono _ _
      | exact LeO.none _
      | refine LeO.ite ?_ ?_
      | refine LeO.bind ?_ (fun _ => ?_)
def letterpressref2_hex.l0 : Nat → ByteArray → Int → Int → Option (Int)
  | 0, _, _, _ => none
  | k + 1, x0, x3, x4 => if x4 < (x0.size : Int) then (if 0 ≤ x4 then (if (bt x0 x4) ≥ 97 then (letterpressref2_hex.l0 k x0 (wrap64 ((wrap64 (16 * x3)) + ((((bt x0 x4) - 97) % 256) + 10))) (wrap64 (x4 + 1))) else (letterpressref2_hex.l0 k x0 (wrap64 ((wrap64 (16 * x3)) + (((bt x0 x4) - 48) % 256))) (wrap64 (x4 + 1)))) else (none)) else (some x3)
def letterpressref2_hex.f (k : Nat) (a0 : ByteArray) : Option (Int) := letterpressref2_hex.l0 k a0 0 0
theorem letterpressref2_hex.mono_l : ∀ k, (∀ y0 y1 y2, LeO (letterpressref2_hex.l0 k y0 y1 y2) (letterpressref2_hex.l0 (k + 1) y0 y1 y2))
  | 0 => fun _ _ _ r h => by simp [letterpressref2_hex.l0] at h
  | k + 1 => by
    have ih0 := letterpressref2_hex.mono_l k
    · intro y0 y1 y2
      unfold letterpressref2_hex.l0
      repeat' first
      | (with_reducible exact ih0 _ _ _)
      | (with_reducible exact LeO.refl _)
      | (with_reducible exact LeO.none _)
      | (with_reducible refine LeO.ite ?_ ?_)
      | (with_reducible refine LeO.bind ?_ (fun _ => ?_))
      | exact ih0 _ _ _
      | exact LeO.none _
      | refine LeO.ite ?_ ?_
      | refine LeO.bind ?_ (fun _ => ?_)
theorem letterpressref2_hex.mono : ∀ a0 k, LeO (letterpressref2_hex.f k a0) (letterpressref2_hex.f (k + 1) a0) := by
  intro a0 k
  have ih0 := letterpressref2_hex.mono_l k
  unfold letterpressref2_hex.f
  repeat' first
      | (with_reducible exact ih0 _ _ _)
      | (with_reducible exact LeO.refl _)
      | (with_reducible exact LeO.none _)
      | (with_reducible refine LeO.ite ?_ ?_)
      | (with_reducible refine LeO.bind ?_ (fun _ => ?_))
      | exact ih0 _ _ _
      | exact LeO.none _
      | refine LeO.ite ?_ ?_
      | refine LeO.bind ?_ (fun _ => ?_)
def letterpressref2_four.f (a0 : Int) : Option (Int) := if a0 > 7 then (some (wrap64 (a0 - 16))) else (some a0)
def letterpressref1_Split.f (a0 : Int) : Option (Int × Int × Int) := some (Go.bits .and .i64 (a0 / 65536) 15, Go.bits .and .i64 (a0 / 2048) 31, Go.bits .and .i64 a0 2047)
mutual
def letterpressref2_long.j0 : Nat → Int → ByteArray → Bool → Option (Int)
  | 0, _, _, _ => none
  | k + 1, x1, x12, x17 => if x17 = true then (some (wrap64 (x1 * 65536))) else (if x12.toList = ([66] : List UInt8) then (some (wrap64 (x1 * 2048))) else (if x12.toList = ([83, 49, 54] : List UInt8) then (letterpressref2_long.j1 k x1 x12 (x12.toList == ([83, 49, 54] : List UInt8))) else (letterpressref2_long.j1 k x1 x12 (x12.toList == ([84, 49, 53] : List UInt8)))))
def letterpressref2_long.j1 : Nat → Int → ByteArray → Bool → Option (Int)
  | 0, _, _, _ => none
  | k + 1, x1, x12, x26 => if x26 = true then (some (Go.bits .and .i64 x1 65535)) else (if x12.toList = ([84, 50, 52] : List UInt8) then (some (Go.bits .and .i64 x1 33554431)) else (if x12.toList = ([79, 50] : List UInt8) then (some (wrap64 (x1 * 1048576))) else (if x12.toList = ([76, 50, 48] : List UInt8) then ((letterpressref1_Split.f x1).bind fun bt306 => (some (Go.bits .or .i64 (Go.bits .or .i64 (wrap64 (bt306.1 * 2048)) (wrap64 (bt306.2.1 * 65536))) bt306.2.2))) else ((letterpressref1_Sci8.f k x1).bind fun bt309 => (some (Go.bits .or .i64 (Go.bits .or .i64 (wrap64 (bt309.1 * 1024)) (wrap64 (bt309.2.1 * 256))) bt309.2.2.1))))))
end
def letterpressref2_long.f (k : Nat) (a0 : ByteArray) (a1 : Int) : Option (Int) := if a0.toList = ([68] : List UInt8) then (some (wrap64 (a1 * 2097152))) else (if a0.toList = ([65] : List UInt8) then (letterpressref2_long.j0 k a1 a0 (a0.toList == ([65] : List UInt8))) else (letterpressref2_long.j0 k a1 a0 (a0.toList == ([73, 52] : List UInt8))))
theorem letterpressref2_long.mono_l : ∀ k, (∀ y0 y1 y2, LeO (letterpressref2_long.j0 k y0 y1 y2) (letterpressref2_long.j0 (k + 1) y0 y1 y2)) ∧ (∀ y0 y1 y2, LeO (letterpressref2_long.j1 k y0 y1 y2) (letterpressref2_long.j1 (k + 1) y0 y1 y2))
  | 0 => ⟨fun _ _ _ r h => by simp [letterpressref2_long.j0] at h, fun _ _ _ r h => by simp [letterpressref2_long.j1] at h⟩
  | k + 1 => by
    obtain ⟨ih0, ih1⟩ := letterpressref2_long.mono_l k
    refine ⟨?_, ?_⟩
    · intro y0 y1 y2
      unfold letterpressref2_long.j0
      repeat' first
      | (with_reducible exact ih0 _ _ _)
      | (with_reducible exact ih1 _ _ _)
      | (with_reducible exact letterpressref1_Sci8.mono _ _)
      | (with_reducible exact LeO.refl _)
      | (with_reducible exact LeO.none _)
      | (with_reducible refine LeO.ite ?_ ?_)
      | (with_reducible refine LeO.bind ?_ (fun _ => ?_))
      | exact ih0 _ _ _
      | exact ih1 _ _ _
      | exact letterpressref1_Sci8.mono _ _
      | exact LeO.none _
      | refine LeO.ite ?_ ?_
      | refine LeO.bind ?_ (fun _ => ?_)
    · intro y0 y1 y2
      unfold letterpressref2_long.j1
      repeat' first
      | (with_reducible exact ih0 _ _ _)
      | (with_reducible exact ih1 _ _ _)
      | (with_reducible exact letterpressref1_Sci8.mono _ _)
      | (with_reducible exact LeO.refl _)
      | (with_reducible exact LeO.none _)
      | (with_reducible refine LeO.ite ?_ ?_)
      | (with_reducible refine LeO.bind ?_ (fun _ => ?_))
      | exact ih0 _ _ _
      | exact ih1 _ _ _
      | exact letterpressref1_Sci8.mono _ _
      | exact LeO.none _
      | refine LeO.ite ?_ ?_
      | refine LeO.bind ?_ (fun _ => ?_)
theorem letterpressref2_long.mono : ∀ a0 a1 k, LeO (letterpressref2_long.f k a0 a1) (letterpressref2_long.f (k + 1) a0 a1) := by
  intro a0 a1 k
  obtain ⟨ih0, ih1⟩ := letterpressref2_long.mono_l k
  unfold letterpressref2_long.f
  repeat' first
      | (with_reducible exact ih0 _ _ _)
      | (with_reducible exact ih1 _ _ _)
      | (with_reducible exact letterpressref1_Sci8.mono _ _)
      | (with_reducible exact LeO.refl _)
      | (with_reducible exact LeO.none _)
      | (with_reducible refine LeO.ite ?_ ?_)
      | (with_reducible refine LeO.bind ?_ (fun _ => ?_))
      | exact ih0 _ _ _
      | exact ih1 _ _ _
      | exact letterpressref1_Sci8.mono _ _
      | exact LeO.none _
      | refine LeO.ite ?_ ?_
      | refine LeO.bind ?_ (fun _ => ?_)
mutual
def letterpressref2_put.j0 : Nat → ByteArray → Int → ByteArray → Bool → Option (Int)
  | 0, _, _, _, _ => none
  | k + 1, x0, x1, x5, x15 => if x15 = true then (some (wrap64 (x1 * 16))) else (if x5.toList = ([79, 53] : List UInt8) then (some (wrap64 ((wrap64 (x1 - 1)) * 16))) else (if x5.toList = ([77, 49] : List UInt8) then (letterpressref2_put.j1 k x0 x1 x5 (x5.toList == ([77, 49] : List UInt8))) else (letterpressref2_put.j1 k x0 x1 x5 (x5.toList == ([73, 50] : List UInt8)))))
def letterpressref2_put.j1 : Nat → ByteArray → Int → ByteArray → Bool → Option (Int)
  | 0, _, _, _, _ => none
  | k + 1, x0, x1, x5, x25 => if x25 = true then (some (wrap64 (x1 * 256))) else (if x5.toList = ([77, 50] : List UInt8) then (some (wrap64 ((wrap64 (Int.tdiv x1 2)) * 256))) else (if x5.toList = ([77, 52] : List UInt8) then (some (wrap64 ((wrap64 (Int.tdiv x1 4)) * 256))) else (if x5.toList = ([79, 49] : List UInt8) then (some (wrap64 (x1 * 1024))) else (if x5.toList = ([84, 56] : List UInt8) then (some (Go.bits .and .i64 (wrap64 (Int.tdiv x1 2)) 255)) else ((letterpressref2_long.f k x0 x1).bind fun t315 => (some t315))))))
end
def letterpressref2_put.f (k : Nat) (a0 : ByteArray) (a1 : Int) : Option (Int) := if a0.toList = ([88] : List UInt8) then ((letterpressref2_four.f a1).bind fun t313 => (some t313)) else (if a0.toList = ([89] : List UInt8) then ((letterpressref2_four.f a1).bind fun t314 => (some (wrap64 (t314 * 16)))) else (if a0.toList = ([85, 53] : List UInt8) then (letterpressref2_put.j0 k a0 a1 a0 (a0.toList == ([85, 53] : List UInt8))) else (letterpressref2_put.j0 k a0 a1 a0 (a0.toList == ([85, 55] : List UInt8)))))
theorem letterpressref2_put.mono_l : ∀ k, (∀ y0 y1 y2 y3, LeO (letterpressref2_put.j0 k y0 y1 y2 y3) (letterpressref2_put.j0 (k + 1) y0 y1 y2 y3)) ∧ (∀ y0 y1 y2 y3, LeO (letterpressref2_put.j1 k y0 y1 y2 y3) (letterpressref2_put.j1 (k + 1) y0 y1 y2 y3))
  | 0 => ⟨fun _ _ _ _ r h => by simp [letterpressref2_put.j0] at h, fun _ _ _ _ r h => by simp [letterpressref2_put.j1] at h⟩
  | k + 1 => by
    obtain ⟨ih0, ih1⟩ := letterpressref2_put.mono_l k
    refine ⟨?_, ?_⟩
    · intro y0 y1 y2 y3
      unfold letterpressref2_put.j0
      repeat' first
      | (with_reducible exact ih0 _ _ _ _)
      | (with_reducible exact ih1 _ _ _ _)
      | (with_reducible exact letterpressref2_long.mono _ _ _)
      | (with_reducible exact LeO.refl _)
      | (with_reducible exact LeO.none _)
      | (with_reducible refine LeO.ite ?_ ?_)
      | (with_reducible refine LeO.bind ?_ (fun _ => ?_))
      | exact ih0 _ _ _ _
      | exact ih1 _ _ _ _
      | exact letterpressref2_long.mono _ _ _
      | exact LeO.none _
      | refine LeO.ite ?_ ?_
      | refine LeO.bind ?_ (fun _ => ?_)
    · intro y0 y1 y2 y3
      unfold letterpressref2_put.j1
      repeat' first
      | (with_reducible exact ih0 _ _ _ _)
      | (with_reducible exact ih1 _ _ _ _)
      | (with_reducible exact letterpressref2_long.mono _ _ _)
      | (with_reducible exact LeO.refl _)
      | (with_reducible exact LeO.none _)
      | (with_reducible refine LeO.ite ?_ ?_)
      | (with_reducible refine LeO.bind ?_ (fun _ => ?_))
      | exact ih0 _ _ _ _
      | exact ih1 _ _ _ _
      | exact letterpressref2_long.mono _ _ _
      | exact LeO.none _
      | refine LeO.ite ?_ ?_
      | refine LeO.bind ?_ (fun _ => ?_)
theorem letterpressref2_put.mono : ∀ a0 a1 k, LeO (letterpressref2_put.f k a0 a1) (letterpressref2_put.f (k + 1) a0 a1) := by
  intro a0 a1 k
  obtain ⟨ih0, ih1⟩ := letterpressref2_put.mono_l k
  unfold letterpressref2_put.f
  repeat' first
      | (with_reducible exact ih0 _ _ _ _)
      | (with_reducible exact ih1 _ _ _ _)
      | (with_reducible exact letterpressref2_long.mono _ _ _)
      | (with_reducible exact LeO.refl _)
      | (with_reducible exact LeO.none _)
      | (with_reducible refine LeO.ite ?_ ?_)
      | (with_reducible refine LeO.bind ?_ (fun _ => ?_))
      | exact ih0 _ _ _ _
      | exact ih1 _ _ _ _
      | exact letterpressref2_long.mono _ _ _
      | exact LeO.none _
      | refine LeO.ite ?_ ?_
      | refine LeO.bind ?_ (fun _ => ?_)
def letterpressref2_Encode.l0 : Nat → List ByteArray → Int → Int → Int → List Int → ByteArray → ByteArray → ByteArray → Option (List Int × Bool)
  | 0, _, _, _, _, _, _, _, _ => none
  | k + 1, x7, x8, x9, x317000, x317001, x324000, x324001, x324002 => if x9 < (x7.length : Int) then (if 0 ≤ x9 then (if x9 < (x317001.length : Int) then ((letterpressref2_put.f k (rdOf ByteArray.empty x7 x9) (rd x317001 x9)).bind fun t330 => (letterpressref2_Encode.l0 k x7 (Go.bits .or .i64 x8 t330) (wrap64 (x9 + 1)) x317000 x317001 x324000 x324001 x324002)) else (none)) else (none)) else (if (x324001.size : Int) = 4 then (some ((([(x8 / 256) % 256, (x8) % 256] : List Int)), true)) else (some ((([(x8 / 16777216) % 256, (x8 / 65536) % 256, (x8 / 256) % 256, (x8) % 256] : List Int)), true)))
def letterpressref2_Encode.f (k : Nat) (a0_0 : Int) (l0_1 : List Int) : Option (List Int × Bool) := (letterpressref2_Right.f k a0_0 l0_1).bind fun t317 => (if t317 = true then ((letterpressref2_find.f a0_0 (⟨#[32]⟩ : ByteArray)).bind fun bt318 => ((letterpressref2_Words.f k bt318.2.2.1).bind fun t324 => ((letterpressref2_hex.f k bt318.2.1).bind fun t327 => (letterpressref2_Encode.l0 k t324 t327 0 a0_0 l0_1 bt318.1 bt318.2.1 bt318.2.2.1)))) else (some (([] : List Int), false)))
theorem letterpressref2_Encode.mono_l : ∀ k, (∀ y0 y1 y2 y3 y4 y5 y6 y7, LeO (letterpressref2_Encode.l0 k y0 y1 y2 y3 y4 y5 y6 y7) (letterpressref2_Encode.l0 (k + 1) y0 y1 y2 y3 y4 y5 y6 y7))
  | 0 => fun _ _ _ _ _ _ _ _ r h => by simp [letterpressref2_Encode.l0] at h
  | k + 1 => by
    have ih0 := letterpressref2_Encode.mono_l k
    · intro y0 y1 y2 y3 y4 y5 y6 y7
      unfold letterpressref2_Encode.l0
      repeat' first
      | (with_reducible exact ih0 _ _ _ _ _ _ _ _)
      | (with_reducible exact letterpressref2_Right.mono _ _ _)
      | (with_reducible exact letterpressref2_Words.mono _ _)
      | (with_reducible exact letterpressref2_hex.mono _ _)
      | (with_reducible exact letterpressref2_put.mono _ _ _)
      | (with_reducible exact LeO.refl _)
      | (with_reducible exact LeO.none _)
      | (with_reducible refine LeO.ite ?_ ?_)
      | (with_reducible refine LeO.bind ?_ (fun _ => ?_))
      | exact ih0 _ _ _ _ _ _ _ _
      | exact letterpressref2_Right.mono _ _ _
      | exact letterpressref2_Words.mono _ _
      | exact letterpressref2_hex.mono _ _
      | exact letterpressref2_put.mono _ _ _
      | exact LeO.none _
      | refine LeO.ite ?_ ?_
      | refine LeO.bind ?_ (fun _ => ?_)
theorem letterpressref2_Encode.mono : ∀ a0 a1 k, LeO (letterpressref2_Encode.f k a0 a1) (letterpressref2_Encode.f (k + 1) a0 a1) := by
  intro a0 a1 k
  have ih0 := letterpressref2_Encode.mono_l k
  unfold letterpressref2_Encode.f
  repeat' first
      | (with_reducible exact ih0 _ _ _ _ _ _ _ _)
      | (with_reducible exact letterpressref2_Right.mono _ _ _)
      | (with_reducible exact letterpressref2_Words.mono _ _)
      | (with_reducible exact letterpressref2_hex.mono _ _)
      | (with_reducible exact letterpressref2_put.mono _ _ _)
      | (with_reducible exact LeO.refl _)
      | (with_reducible exact LeO.none _)
      | (with_reducible refine LeO.ite ?_ ?_)
      | (with_reducible refine LeO.bind ?_ (fun _ => ?_))
      | exact ih0 _ _ _ _ _ _ _ _
      | exact letterpressref2_Right.mono _ _ _
      | exact letterpressref2_Words.mono _ _
      | exact letterpressref2_hex.mono _ _
      | exact letterpressref2_put.mono _ _ _
      | exact LeO.none _
      | refine LeO.ite ?_ ?_
      | refine LeO.bind ?_ (fun _ => ?_)
def letterpresslaw2_within.f (a0 : Int) (a1 : Int) : Option (Int) := if a1 = 0 then (none) else (if (Int.tmod a0 a1) < 0 then (some (wrap64 ((Int.tmod a0 a1) + a1))) else (some (Int.tmod a0 a1)))
mutual
def letterpresslaw2_Operand.j0 : Nat → Int → Int → ByteArray → Bool → Option (Int)
  | 0, _, _, _, _ => none
  | k + 1, x1, x5, x8, x9 => if x9 = true then ((some (([0, 1, 7, 24, 31, 5, 28, 3, 30] : List Int) : List Int)).bind fun y338 => (if 0 ≤ x5 then (if x5 < (y338.length : Int) then (some (rd y338 x5)) else (none)) else (none))) else (if x8.toList = ([68] : List UInt8) then (letterpresslaw2_Operand.j1 k x1 x5 x8 (x8.toList == ([68] : List UInt8))) else (if x8.toList = ([65] : List UInt8) then (letterpresslaw2_Operand.j1 k x1 x5 x8 (x8.toList == ([65] : List UInt8))) else (if x8.toList = ([66] : List UInt8) then (letterpresslaw2_Operand.j1 k x1 x5 x8 (x8.toList == ([66] : List UInt8))) else (letterpresslaw2_Operand.j1 k x1 x5 x8 (x8.toList == ([85, 53] : List UInt8))))))
def letterpresslaw2_Operand.j1 : Nat → Int → Int → ByteArray → Bool → Option (Int)
  | 0, _, _, _, _ => none
  | k + 1, x1, x5, x8, x16 => if x16 = true then ((some (([0, 31, 1, 15, 16, 7, 30, 12, 3] : List Int) : List Int)).bind fun y342 => (if 0 ≤ x5 then (if x5 < (y342.length : Int) then (some (rd y342 x5)) else (none)) else (none))) else (if x8.toList = ([85, 55] : List UInt8) then ((some (([0, 127, 64, 1, 63, 100, 7, 15, 16] : List Int) : List Int)).bind fun y346 => (if 0 ≤ x5 then (if x5 < (y346.length : Int) then (some (rd y346 x5)) else (none)) else (none))) else (if x8.toList = ([79, 53] : List UInt8) then ((some (([1, 32, 2, 16, 31, 17, 8, 5, 30] : List Int) : List Int)).bind fun y350 => (if 0 ≤ x5 then (if x5 < (y350.length : Int) then (some (rd y350 x5)) else (none)) else (none))) else (if x8.toList = ([77, 49] : List UInt8) then (letterpresslaw2_Operand.j2 k x1 x5 x8 (x8.toList == ([77, 49] : List UInt8))) else (letterpresslaw2_Operand.j2 k x1 x5 x8 (x8.toList == ([73, 52] : List UInt8))))))
def letterpresslaw2_Operand.j2 : Nat → Int → Int → ByteArray → Bool → Option (Int)
  | 0, _, _, _, _ => none
  | k + 1, x1, x5, x8, x37 => if x37 = true then ((some (([0, 15, 1, 7, 8, 4, 12, 3, 14] : List Int) : List Int)).bind fun y354 => (if 0 ≤ x5 then (if x5 < (y354.length : Int) then (some (rd y354 x5)) else (none)) else (none))) else (if x8.toList = ([77, 50] : List UInt8) then ((some (([0, 15, 1, 7, 8, 4, 12, 3, 14] : List Int) : List Int)).bind fun y358 => (if 0 ≤ x5 then (if x5 < (y358.length : Int) then (some (wrap64 (2 * (rd y358 x5)))) else (none)) else (none))) else (if x8.toList = ([77, 52] : List UInt8) then ((some (([0, 15, 1, 7, 8, 4, 12, 3, 14] : List Int) : List Int)).bind fun y362 => (if 0 ≤ x5 then (if x5 < (y362.length : Int) then (some (wrap64 (4 * (rd y362 x5)))) else (none)) else (none))) else (if x8.toList = ([79, 49] : List UInt8) then ((letterpresslaw2_within.f x1 2).bind fun t366 => (some t366)) else (if x8.toList = ([73, 50] : List UInt8) then (letterpresslaw2_Operand.j3 k x1 x5 x8 (x8.toList == ([73, 50] : List UInt8))) else (letterpresslaw2_Operand.j3 k x1 x5 x8 (x8.toList == ([79, 50] : List UInt8)))))))
def letterpresslaw2_Operand.j3 : Nat → Int → Int → ByteArray → Bool → Option (Int)
  | 0, _, _, _, _ => none
  | k + 1, x1, x5, x8, x62 => if x62 = true then ((letterpresslaw2_within.f x1 4).bind fun t367 => (some t367)) else (if x8.toList = ([84, 56] : List UInt8) then ((letterpresslaw2_within.f x1 256).bind fun t368 => (some (wrap64 (2 * (wrap64 (t368 - 128)))))) else (if x8.toList = ([83, 49, 54] : List UInt8) then ((some (([0, 32767, (-32768), (-1), 1, 255, (-256), 4660, (-4660)] : List Int) : List Int)).bind fun y369 => (if 0 ≤ x5 then (if x5 < (y369.length : Int) then (some (rd y369 x5)) else (none)) else (none))) else (if x8.toList = ([76, 50, 48] : List UInt8) then ((letterpresslaw2_within.f x1 1048576).bind fun t373 => (some (wrap64 (t373 - 524288)))) else (if x8.toList = ([84, 49, 53] : List UInt8) then ((letterpresslaw2_within.f x1 32768).bind fun t374 => (some (wrap64 (2 * (wrap64 (t374 - 16384)))))) else (if x8.toList = ([84, 50, 52] : List UInt8) then ((letterpresslaw2_within.f x1 16777216).bind fun t375 => (some (wrap64 (2 * (wrap64 (t375 - 8388608)))))) else ((some (([0, 255, 256, 65280, (-1), (-2), 16711680, (-256), 2130706432] : List Int) : List Int)).bind fun y376 => (if 0 ≤ x5 then (if x5 < (y376.length : Int) then (some (rd y376 x5)) else (none)) else (none))))))))
end
def letterpresslaw2_Operand.f (k : Nat) (a0 : ByteArray) (a1 : Int) : Option (Int) := (letterpresslaw2_within.f a1 9).bind fun t337 => (if a0.toList = ([88] : List UInt8) then (letterpresslaw2_Operand.j0 k a1 t337 a0 (a0.toList == ([88] : List UInt8))) else (letterpresslaw2_Operand.j0 k a1 t337 a0 (a0.toList == ([89] : List UInt8))))
theorem letterpresslaw2_Operand.mono_l : ∀ k, (∀ y0 y1 y2 y3, LeO (letterpresslaw2_Operand.j0 k y0 y1 y2 y3) (letterpresslaw2_Operand.j0 (k + 1) y0 y1 y2 y3)) ∧ (∀ y0 y1 y2 y3, LeO (letterpresslaw2_Operand.j1 k y0 y1 y2 y3) (letterpresslaw2_Operand.j1 (k + 1) y0 y1 y2 y3)) ∧ (∀ y0 y1 y2 y3, LeO (letterpresslaw2_Operand.j2 k y0 y1 y2 y3) (letterpresslaw2_Operand.j2 (k + 1) y0 y1 y2 y3)) ∧ (∀ y0 y1 y2 y3, LeO (letterpresslaw2_Operand.j3 k y0 y1 y2 y3) (letterpresslaw2_Operand.j3 (k + 1) y0 y1 y2 y3))
  | 0 => ⟨fun _ _ _ _ r h => by simp [letterpresslaw2_Operand.j0] at h, fun _ _ _ _ r h => by simp [letterpresslaw2_Operand.j1] at h, fun _ _ _ _ r h => by simp [letterpresslaw2_Operand.j2] at h, fun _ _ _ _ r h => by simp [letterpresslaw2_Operand.j3] at h⟩
  | k + 1 => by
    obtain ⟨ih0, ih1, ih2, ih3⟩ := letterpresslaw2_Operand.mono_l k
    refine ⟨?_, ?_, ?_, ?_⟩
    · intro y0 y1 y2 y3
      unfold letterpresslaw2_Operand.j0
      repeat' first
      | (with_reducible exact ih0 _ _ _ _)
      | (with_reducible exact ih1 _ _ _ _)
      | (with_reducible exact ih2 _ _ _ _)
      | (with_reducible exact ih3 _ _ _ _)
      | (with_reducible exact LeO.refl _)
      | (with_reducible exact LeO.none _)
      | (with_reducible refine LeO.ite ?_ ?_)
      | (with_reducible refine LeO.bind ?_ (fun _ => ?_))
      | exact ih0 _ _ _ _
      | exact ih1 _ _ _ _
      | exact ih2 _ _ _ _
      | exact ih3 _ _ _ _
      | exact LeO.none _
      | refine LeO.ite ?_ ?_
      | refine LeO.bind ?_ (fun _ => ?_)
    · intro y0 y1 y2 y3
      unfold letterpresslaw2_Operand.j1
      repeat' first
      | (with_reducible exact ih0 _ _ _ _)
      | (with_reducible exact ih1 _ _ _ _)
      | (with_reducible exact ih2 _ _ _ _)
      | (with_reducible exact ih3 _ _ _ _)
      | (with_reducible exact LeO.refl _)
      | (with_reducible exact LeO.none _)
      | (with_reducible refine LeO.ite ?_ ?_)
      | (with_reducible refine LeO.bind ?_ (fun _ => ?_))
      | exact ih0 _ _ _ _
      | exact ih1 _ _ _ _
      | exact ih2 _ _ _ _
      | exact ih3 _ _ _ _
      | exact LeO.none _
      | refine LeO.ite ?_ ?_
      | refine LeO.bind ?_ (fun _ => ?_)
    · intro y0 y1 y2 y3
      unfold letterpresslaw2_Operand.j2
      repeat' first
      | (with_reducible exact ih0 _ _ _ _)
      | (with_reducible exact ih1 _ _ _ _)
      | (with_reducible exact ih2 _ _ _ _)
      | (with_reducible exact ih3 _ _ _ _)
      | (with_reducible exact LeO.refl _)
      | (with_reducible exact LeO.none _)
      | (with_reducible refine LeO.ite ?_ ?_)
      | (with_reducible refine LeO.bind ?_ (fun _ => ?_))
      | exact ih0 _ _ _ _
      | exact ih1 _ _ _ _
      | exact ih2 _ _ _ _
      | exact ih3 _ _ _ _
      | exact LeO.none _
      | refine LeO.ite ?_ ?_
      | refine LeO.bind ?_ (fun _ => ?_)
    · intro y0 y1 y2 y3
      unfold letterpresslaw2_Operand.j3
      repeat' first
      | (with_reducible exact ih0 _ _ _ _)
      | (with_reducible exact ih1 _ _ _ _)
      | (with_reducible exact ih2 _ _ _ _)
      | (with_reducible exact ih3 _ _ _ _)
      | (with_reducible exact LeO.refl _)
      | (with_reducible exact LeO.none _)
      | (with_reducible refine LeO.ite ?_ ?_)
      | (with_reducible refine LeO.bind ?_ (fun _ => ?_))
      | exact ih0 _ _ _ _
      | exact ih1 _ _ _ _
      | exact ih2 _ _ _ _
      | exact ih3 _ _ _ _
      | exact LeO.none _
      | refine LeO.ite ?_ ?_
      | refine LeO.bind ?_ (fun _ => ?_)
theorem letterpresslaw2_Operand.mono : ∀ a0 a1 k, LeO (letterpresslaw2_Operand.f k a0 a1) (letterpresslaw2_Operand.f (k + 1) a0 a1) := by
  intro a0 a1 k
  obtain ⟨ih0, ih1, ih2, ih3⟩ := letterpresslaw2_Operand.mono_l k
  unfold letterpresslaw2_Operand.f
  repeat' first
      | (with_reducible exact ih0 _ _ _ _)
      | (with_reducible exact ih1 _ _ _ _)
      | (with_reducible exact ih2 _ _ _ _)
      | (with_reducible exact ih3 _ _ _ _)
      | (with_reducible exact LeO.refl _)
      | (with_reducible exact LeO.none _)
      | (with_reducible refine LeO.ite ?_ ?_)
      | (with_reducible refine LeO.bind ?_ (fun _ => ?_))
      | exact ih0 _ _ _ _
      | exact ih1 _ _ _ _
      | exact ih2 _ _ _ _
      | exact ih3 _ _ _ _
      | exact LeO.none _
      | refine LeO.ite ?_ ?_
      | refine LeO.bind ?_ (fun _ => ?_)
def letterpressref2_Kinds.f (a0 : Int) : Option (ByteArray) := (letterpressref2_find.f a0 (⟨#[32]⟩ : ByteArray)).bind fun bt380 => (some bt380.2.2.1)
def letterpresslaw2_Make.l0 : Nat → List Int → List ByteArray → Int → Int → List Int → Option (Int × List Int)
  | 0, _, _, _, _, _ => none
  | k + 1, x1, x6, x7, x389000, x389001 => if x7 < (x6.length : Int) then (if x7 < (x1.length : Int) then (if 0 ≤ x7 then ((letterpresslaw2_Operand.f k (rdOf ByteArray.empty x6 x7) (rd x1 x7)).bind fun t395 => (if x389001.length < 17592186044416 then (letterpresslaw2_Make.l0 k x1 x6 (wrap64 (x7 + 1)) x389000 (x389001 ++ [t395])) else (none))) else (none)) else (if 0 ≤ x7 then ((letterpresslaw2_Operand.f k (rdOf ByteArray.empty x6 x7) x7).bind fun t400 => (if x389001.length < 17592186044416 then (letterpresslaw2_Make.l0 k x1 x6 (wrap64 (x7 + 1)) x389000 (x389001 ++ [t400])) else (none))) else (none))) else (some (x389000, x389001))
def letterpresslaw2_Make.f (k : Nat) (a0 : Int) (l1 : List Int) : Option (Int × List Int) := (letterpresslaw2_within.f a0 66).bind fun t387 => ((letterpressref2_Kinds.f t387).bind fun t389 => ((letterpressref2_Words.f k t389).bind fun t390 => (letterpresslaw2_Make.l0 k l1 t390 0 t387 ([] : List Int))))
theorem letterpresslaw2_Make.mono_l : ∀ k, (∀ y0 y1 y2 y3 y4, LeO (letterpresslaw2_Make.l0 k y0 y1 y2 y3 y4) (letterpresslaw2_Make.l0 (k + 1) y0 y1 y2 y3 y4))
  | 0 => fun _ _ _ _ _ r h => by simp [letterpresslaw2_Make.l0] at h
  | k + 1 => by
    have ih0 := letterpresslaw2_Make.mono_l k
    · intro y0 y1 y2 y3 y4
      unfold letterpresslaw2_Make.l0
      repeat' first
      | (with_reducible exact ih0 _ _ _ _ _)
      | (with_reducible exact letterpresslaw2_Operand.mono _ _ _)
      | (with_reducible exact letterpressref2_Words.mono _ _)
      | (with_reducible exact LeO.refl _)
      | (with_reducible exact LeO.none _)
      | (with_reducible refine LeO.ite ?_ ?_)
      | (with_reducible refine LeO.bind ?_ (fun _ => ?_))
      | exact ih0 _ _ _ _ _
      | exact letterpresslaw2_Operand.mono _ _ _
      | exact letterpressref2_Words.mono _ _
      | exact LeO.none _
      | refine LeO.ite ?_ ?_
      | refine LeO.bind ?_ (fun _ => ?_)
theorem letterpresslaw2_Make.mono : ∀ a0 a1 k, LeO (letterpresslaw2_Make.f k a0 a1) (letterpresslaw2_Make.f (k + 1) a0 a1) := by
  intro a0 a1 k
  have ih0 := letterpresslaw2_Make.mono_l k
  unfold letterpresslaw2_Make.f
  repeat' first
      | (with_reducible exact ih0 _ _ _ _ _)
      | (with_reducible exact letterpresslaw2_Operand.mono _ _ _)
      | (with_reducible exact letterpressref2_Words.mono _ _)
      | (with_reducible exact LeO.refl _)
      | (with_reducible exact LeO.none _)
      | (with_reducible refine LeO.ite ?_ ?_)
      | (with_reducible refine LeO.bind ?_ (fun _ => ?_))
      | exact ih0 _ _ _ _ _
      | exact letterpresslaw2_Operand.mono _ _ _
      | exact letterpressref2_Words.mono _ _
      | exact LeO.none _
      | refine LeO.ite ?_ ?_
      | refine LeO.bind ?_ (fun _ => ?_)
def letterpressref2_Name.f (a0 : Int) : Option (ByteArray) := (letterpressref2_find.f a0 (⟨#[32]⟩ : ByteArray)).bind fun bt404 => (some bt404.1)
def letterpressref2_Size.f (a0 : Int) : Option (Int) := (letterpressref2_find.f a0 (⟨#[32]⟩ : ByteArray)).bind fun bt410 => (some (wrap64 ((bt410.2.1.size : Int) / 2)))
def letterpressref2_eight.f (a0 : Int) : Option (Int) := if (Go.bits .and .i64 a0 15) > 7 then (some (wrap64 ((Go.bits .and .i64 a0 15) + 16))) else (some (Go.bits .and .i64 a0 15))
def letterpressref1_Joined.f (a0 : Int) (a1 : Int) (a2 : Int) : Option (Int) := (letterpressref1_Sign.f (Go.bits .or .i64 (Go.bits .or .i64 (wrap64 (a0 * 65536)) (wrap64 (a1 * 2048))) a2) 20).bind fun t416 => (some t416)
def letterpressref2_takes.f (k : Nat) (a0 : ByteArray) (a1 : Int) : Option (Int) := if a0.toList = ([68] : List UInt8) then (some (Go.bits .and .i64 (a1 / 2097152) 31)) else (if a0.toList = ([65] : List UInt8) then (some (Go.bits .and .i64 (a1 / 65536) 31)) else (if a0.toList = ([66] : List UInt8) then (some (Go.bits .and .i64 (a1 / 2048) 31)) else (if a0.toList = ([83, 49, 54] : List UInt8) then ((letterpressref1_Sign.f a1 16).bind fun t417 => (some t417)) else (if a0.toList = ([84, 49, 53] : List UInt8) then ((letterpressref1_Sign.f (Go.bits .and .i64 a1 65534) 16).bind fun t418 => (some t418)) else (if a0.toList = ([84, 50, 52] : List UInt8) then ((letterpressref1_Sign.f (Go.bits .and .i64 a1 33554430) 25).bind fun t419 => (some t419)) else (if a0.toList = ([79, 50] : List UInt8) then (some (Go.bits .and .i64 (a1 / 1048576) 3)) else (if a0.toList = ([73, 52] : List UInt8) then (some (Go.bits .and .i64 (a1 / 65536) 15)) else (if a0.toList = ([76, 50, 48] : List UInt8) then ((letterpressref1_Joined.f (Go.bits .and .i64 (a1 / 2048) 15) (Go.bits .and .i64 (a1 / 65536) 31) (Go.bits .and .i64 a1 2047)).bind fun t420 => (some t420)) else ((letterpressref1_Back.f k (Go.bits .and .i64 (a1 / 1024) 1) (Go.bits .and .i64 (a1 / 256) 3) (Go.bits .and .i64 a1 255)).bind fun t421 => (some t421))))))))))
theorem letterpressref2_takes.mono : ∀ a0 a1 k, LeO (letterpressref2_takes.f k a0 a1) (letterpressref2_takes.f (k + 1) a0 a1) := by
  intro a0 a1 k
  unfold letterpressref2_takes.f
  repeat' first
      | (with_reducible exact letterpressref1_Back.mono _ _ _ _)
      | (with_reducible exact LeO.refl _)
      | (with_reducible exact LeO.none _)
      | (with_reducible refine LeO.ite ?_ ?_)
      | (with_reducible refine LeO.bind ?_ (fun _ => ?_))
      | exact letterpressref1_Back.mono _ _ _ _
      | exact LeO.none _
      | refine LeO.ite ?_ ?_
      | refine LeO.bind ?_ (fun _ => ?_)
def letterpressref2_take.f (k : Nat) (a0 : ByteArray) (a1 : Int) : Option (Int) := if a0.toList = ([88] : List UInt8) then ((letterpressref2_eight.f a1).bind fun t422 => (some t422)) else (if a0.toList = ([89] : List UInt8) then ((letterpressref2_eight.f (a1 / 16)).bind fun t423 => (some t423)) else (if a0.toList = ([85, 53] : List UInt8) then (some (Go.bits .and .i64 (a1 / 16) 31)) else (if a0.toList = ([85, 55] : List UInt8) then (some (Go.bits .and .i64 (a1 / 16) 127)) else (if a0.toList = ([79, 53] : List UInt8) then (some (wrap64 ((Go.bits .and .i64 (a1 / 16) 31) + 1))) else (if a0.toList = ([77, 49] : List UInt8) then (some (Go.bits .and .i64 (a1 / 256) 15)) else (if a0.toList = ([77, 50] : List UInt8) then (some (wrap64 (2 * (Go.bits .and .i64 (a1 / 256) 15)))) else (if a0.toList = ([77, 52] : List UInt8) then (some (wrap64 (4 * (Go.bits .and .i64 (a1 / 256) 15)))) else (if a0.toList = ([79, 49] : List UInt8) then (some (Go.bits .and .i64 (a1 / 1024) 1)) else (if a0.toList = ([73, 50] : List UInt8) then (some (Go.bits .and .i64 (a1 / 256) 3)) else (if a0.toList = ([84, 56] : List UInt8) then ((letterpressref1_Sign.f a1 8).bind fun t424 => (some (wrap64 (2 * t424)))) else ((letterpressref2_takes.f k a0 a1).bind fun t425 => (some t425))))))))))))
theorem letterpressref2_take.mono : ∀ a0 a1 k, LeO (letterpressref2_take.f k a0 a1) (letterpressref2_take.f (k + 1) a0 a1) := by
  intro a0 a1 k
  unfold letterpressref2_take.f
  repeat' first
      | (with_reducible exact letterpressref2_takes.mono _ _ _)
      | (with_reducible exact LeO.refl _)
      | (with_reducible exact LeO.none _)
      | (with_reducible refine LeO.ite ?_ ?_)
      | (with_reducible refine LeO.bind ?_ (fun _ => ?_))
      | exact letterpressref2_takes.mono _ _ _
      | exact LeO.none _
      | refine LeO.ite ?_ ?_
      | refine LeO.bind ?_ (fun _ => ?_)
mutual
def letterpressref2_Decode.j0 : Nat → List Int → Int → Bool → Option (Int × List Int × Int × Bool)
  | 0, _, _, _ => none
  | k + 1, x0, x5, x31 => if x31 = true then (letterpressref2_Decode.j1 k x0 4) else (letterpressref2_Decode.j1 k x0 x5)
def letterpressref2_Decode.j1 : Nat → List Int → Int → Option (Int × List Int × Int × Bool)
  | 0, _, _ => none
  | k + 1, x0, x5 => if (x0.length : Int) < x5 then (some (0, ([] : List Int), 0, false)) else (letterpressref2_Decode.l0 k x0 x5 0 0)
def letterpressref2_Decode.l0 : Nat → List Int → Int → Int → Int → Option (Int × List Int × Int × Bool)
  | 0, _, _, _, _ => none
  | k + 1, x0, x5, x6, x7 => if x7 < x5 then (if 0 ≤ x7 then (if x7 < (x0.length : Int) then (letterpressref2_Decode.l0 k x0 x5 (Go.bits .or .i64 (wrap64 (x6 * 256)) (wrap64 (rd x0 x7))) (wrap64 (x7 + 1))) else (none)) else (none)) else (letterpressref2_Decode.l1 k x0 x5 x6 0)
def letterpressref2_Decode.l1 : Nat → List Int → Int → Int → Int → Option (Int × List Int × Int × Bool)
  | 0, _, _, _, _ => none
  | k + 1, x0, x5, x6, x8 => (letterpressref2_Name.f x8).bind fun t430 => (if t430.toList = ([] : List UInt8) then (some (0, ([] : List Int), 0, false)) else ((letterpressref2_Size.f x8).bind fun t431 => (if t431 = x5 then ((letterpressref2_Kinds.f x8).bind fun t433 => ((letterpressref2_Words.f k t433).bind fun t434 => (letterpressref2_Decode.l2 k x0 x5 x6 x8 t434 0 x8 ([] : List Int)))) else (letterpressref2_Decode.l1 k x0 x5 x6 (wrap64 (x8 + 1))))))
def letterpressref2_Decode.l2 : Nat → List Int → Int → Int → Int → List ByteArray → Int → Int → List Int → Option (Int × List Int × Int × Bool)
  | 0, _, _, _, _, _, _, _, _ => none
  | k + 1, x0, x5, x6, x8, x10, x11, x433000, x433001 => if x11 < (x10.length : Int) then (if 0 ≤ x11 then ((letterpressref2_take.f k (rdOf ByteArray.empty x10 x11) x6).bind fun t438 => (if x433001.length < 17592186044416 then (letterpressref2_Decode.l2 k x0 x5 x6 x8 x10 (wrap64 (x11 + 1)) x433000 (x433001 ++ [t438])) else (none))) else (none)) else ((letterpressref2_Encode.f k x433000 x433001).bind fun bt442 => (if bt442.2 = true then (if 0 ≤ x5 then (if x5 ≤ (x0.length : Int) then (if (strOfNums bt442.1).toList = (strOfNums (x0.take (x5 : Int).toNat)).toList then (some (x433000, x433001, x5, true)) else (letterpressref2_Decode.l1 k x0 x5 x6 (wrap64 (x8 + 1)))) else (none)) else (none)) else (letterpressref2_Decode.l1 k x0 x5 x6 (wrap64 (x8 + 1)))))
end
def letterpressref2_Decode.f (k : Nat) (l0 : List Int) : Option (Int × List Int × Int × Bool) := if (l0.length : Int) > 0 then (if 0 < (l0.length : Int) then (if ((rd l0 0) / 16) < 8 then (letterpressref2_Decode.j0 k l0 2 ((Go.bits .and .u8 ((rd l0 0) / 16) 1) == 1)) else (letterpressref2_Decode.j0 k l0 2 false)) else (none)) else (letterpressref2_Decode.j0 k l0 2 false)
theorem letterpressref2_Decode.mono_l : ∀ k, (∀ y0 y1 y2, LeO (letterpressref2_Decode.j0 k y0 y1 y2) (letterpressref2_Decode.j0 (k + 1) y0 y1 y2)) ∧ (∀ y0 y1, LeO (letterpressref2_Decode.j1 k y0 y1) (letterpressref2_Decode.j1 (k + 1) y0 y1)) ∧ (∀ y0 y1 y2 y3, LeO (letterpressref2_Decode.l0 k y0 y1 y2 y3) (letterpressref2_Decode.l0 (k + 1) y0 y1 y2 y3)) ∧ (∀ y0 y1 y2 y3, LeO (letterpressref2_Decode.l1 k y0 y1 y2 y3) (letterpressref2_Decode.l1 (k + 1) y0 y1 y2 y3)) ∧ (∀ y0 y1 y2 y3 y4 y5 y6 y7, LeO (letterpressref2_Decode.l2 k y0 y1 y2 y3 y4 y5 y6 y7) (letterpressref2_Decode.l2 (k + 1) y0 y1 y2 y3 y4 y5 y6 y7))
  | 0 => ⟨fun _ _ _ r h => by simp [letterpressref2_Decode.j0] at h, fun _ _ r h => by simp [letterpressref2_Decode.j1] at h, fun _ _ _ _ r h => by simp [letterpressref2_Decode.l0] at h, fun _ _ _ _ r h => by simp [letterpressref2_Decode.l1] at h, fun _ _ _ _ _ _ _ _ r h => by simp [letterpressref2_Decode.l2] at h⟩
  | k + 1 => by
    obtain ⟨ih0, ih1, ih2, ih3, ih4⟩ := letterpressref2_Decode.mono_l k
    refine ⟨?_, ?_, ?_, ?_, ?_⟩
    · intro y0 y1 y2
      unfold letterpressref2_Decode.j0
      repeat' first
      | (with_reducible exact ih0 _ _ _)
      | (with_reducible exact ih1 _ _)
      | (with_reducible exact ih2 _ _ _ _)
      | (with_reducible exact ih3 _ _ _ _)
      | (with_reducible exact ih4 _ _ _ _ _ _ _ _)
      | (with_reducible exact letterpressref2_Encode.mono _ _ _)
      | (with_reducible exact letterpressref2_Words.mono _ _)
      | (with_reducible exact letterpressref2_take.mono _ _ _)
      | (with_reducible exact LeO.refl _)
      | (with_reducible exact LeO.none _)
      | (with_reducible refine LeO.ite ?_ ?_)
      | (with_reducible refine LeO.bind ?_ (fun _ => ?_))
      | exact ih0 _ _ _
      | exact ih1 _ _
      | exact ih2 _ _ _ _
      | exact ih3 _ _ _ _
      | exact ih4 _ _ _ _ _ _ _ _
      | exact letterpressref2_Encode.mono _ _ _
      | exact letterpressref2_Words.mono _ _
      | exact letterpressref2_take.mono _ _ _
      | exact LeO.none _
      | refine LeO.ite ?_ ?_
      | refine LeO.bind ?_ (fun _ => ?_)
    · intro y0 y1
      unfold letterpressref2_Decode.j1
      repeat' first
      | (with_reducible exact ih0 _ _ _)
      | (with_reducible exact ih1 _ _)
      | (with_reducible exact ih2 _ _ _ _)
      | (with_reducible exact ih3 _ _ _ _)
      | (with_reducible exact ih4 _ _ _ _ _ _ _ _)
      | (with_reducible exact letterpressref2_Encode.mono _ _ _)
      | (with_reducible exact letterpressref2_Words.mono _ _)
      | (with_reducible exact letterpressref2_take.mono _ _ _)
      | (with_reducible exact LeO.refl _)
      | (with_reducible exact LeO.none _)
      | (with_reducible refine LeO.ite ?_ ?_)
      | (with_reducible refine LeO.bind ?_ (fun _ => ?_))
      | exact ih0 _ _ _
      | exact ih1 _ _
      | exact ih2 _ _ _ _
      | exact ih3 _ _ _ _
      | exact ih4 _ _ _ _ _ _ _ _
      | exact letterpressref2_Encode.mono _ _ _
      | exact letterpressref2_Words.mono _ _
      | exact letterpressref2_take.mono _ _ _
      | exact LeO.none _
      | refine LeO.ite ?_ ?_
      | refine LeO.bind ?_ (fun _ => ?_)
    · intro y0 y1 y2 y3
      unfold letterpressref2_Decode.l0
      repeat' first
      | (with_reducible exact ih0 _ _ _)
      | (with_reducible exact ih1 _ _)
      | (with_reducible exact ih2 _ _ _ _)
      | (with_reducible exact ih3 _ _ _ _)
      | (with_reducible exact ih4 _ _ _ _ _ _ _ _)
      | (with_reducible exact letterpressref2_Encode.mono _ _ _)
      | (with_reducible exact letterpressref2_Words.mono _ _)
      | (with_reducible exact letterpressref2_take.mono _ _ _)
      | (with_reducible exact LeO.refl _)
      | (with_reducible exact LeO.none _)
      | (with_reducible refine LeO.ite ?_ ?_)
      | (with_reducible refine LeO.bind ?_ (fun _ => ?_))
      | exact ih0 _ _ _
      | exact ih1 _ _
      | exact ih2 _ _ _ _
      | exact ih3 _ _ _ _
      | exact ih4 _ _ _ _ _ _ _ _
      | exact letterpressref2_Encode.mono _ _ _
      | exact letterpressref2_Words.mono _ _
      | exact letterpressref2_take.mono _ _ _
      | exact LeO.none _
      | refine LeO.ite ?_ ?_
      | refine LeO.bind ?_ (fun _ => ?_)
    · intro y0 y1 y2 y3
      unfold letterpressref2_Decode.l1
      repeat' first
      | (with_reducible exact ih0 _ _ _)
      | (with_reducible exact ih1 _ _)
      | (with_reducible exact ih2 _ _ _ _)
      | (with_reducible exact ih3 _ _ _ _)
      | (with_reducible exact ih4 _ _ _ _ _ _ _ _)
      | (with_reducible exact letterpressref2_Encode.mono _ _ _)
      | (with_reducible exact letterpressref2_Words.mono _ _)
      | (with_reducible exact letterpressref2_take.mono _ _ _)
      | (with_reducible exact LeO.refl _)
      | (with_reducible exact LeO.none _)
      | (with_reducible refine LeO.ite ?_ ?_)
      | (with_reducible refine LeO.bind ?_ (fun _ => ?_))
      | exact ih0 _ _ _
      | exact ih1 _ _
      | exact ih2 _ _ _ _
      | exact ih3 _ _ _ _
      | exact ih4 _ _ _ _ _ _ _ _
      | exact letterpressref2_Encode.mono _ _ _
      | exact letterpressref2_Words.mono _ _
      | exact letterpressref2_take.mono _ _ _
      | exact LeO.none _
      | refine LeO.ite ?_ ?_
      | refine LeO.bind ?_ (fun _ => ?_)
    · intro y0 y1 y2 y3 y4 y5 y6 y7
      unfold letterpressref2_Decode.l2
      repeat' first
      | (with_reducible exact ih0 _ _ _)
      | (with_reducible exact ih1 _ _)
      | (with_reducible exact ih2 _ _ _ _)
      | (with_reducible exact ih3 _ _ _ _)
      | (with_reducible exact ih4 _ _ _ _ _ _ _ _)
      | (with_reducible exact letterpressref2_Encode.mono _ _ _)
      | (with_reducible exact letterpressref2_Words.mono _ _)
      | (with_reducible exact letterpressref2_take.mono _ _ _)
      | (with_reducible exact LeO.refl _)
      | (with_reducible exact LeO.none _)
      | (with_reducible refine LeO.ite ?_ ?_)
      | (with_reducible refine LeO.bind ?_ (fun _ => ?_))
      | exact ih0 _ _ _
      | exact ih1 _ _
      | exact ih2 _ _ _ _
      | exact ih3 _ _ _ _
      | exact ih4 _ _ _ _ _ _ _ _
      | exact letterpressref2_Encode.mono _ _ _
      | exact letterpressref2_Words.mono _ _
      | exact letterpressref2_take.mono _ _ _
      | exact LeO.none _
      | refine LeO.ite ?_ ?_
      | refine LeO.bind ?_ (fun _ => ?_)
theorem letterpressref2_Decode.mono : ∀ a0 k, LeO (letterpressref2_Decode.f k a0) (letterpressref2_Decode.f (k + 1) a0) := by
  intro a0 k
  obtain ⟨ih0, ih1, ih2, ih3, ih4⟩ := letterpressref2_Decode.mono_l k
  unfold letterpressref2_Decode.f
  repeat' first
      | (with_reducible exact ih0 _ _ _)
      | (with_reducible exact ih1 _ _)
      | (with_reducible exact ih2 _ _ _ _)
      | (with_reducible exact ih3 _ _ _ _)
      | (with_reducible exact ih4 _ _ _ _ _ _ _ _)
      | (with_reducible exact letterpressref2_Encode.mono _ _ _)
      | (with_reducible exact letterpressref2_Words.mono _ _)
      | (with_reducible exact letterpressref2_take.mono _ _ _)
      | (with_reducible exact LeO.refl _)
      | (with_reducible exact LeO.none _)
      | (with_reducible refine LeO.ite ?_ ?_)
      | (with_reducible refine LeO.bind ?_ (fun _ => ?_))
      | exact ih0 _ _ _
      | exact ih1 _ _
      | exact ih2 _ _ _ _
      | exact ih3 _ _ _ _
      | exact ih4 _ _ _ _ _ _ _ _
      | exact letterpressref2_Encode.mono _ _ _
      | exact letterpressref2_Words.mono _ _
      | exact letterpressref2_take.mono _ _ _
      | exact LeO.none _
      | refine LeO.ite ?_ ?_
      | refine LeO.bind ?_ (fun _ => ?_)
mutual
def letterpressref2_Same.j0 : Nat → Bool → Int → List Int → Int → List Int → Option (Bool)
  | 0, _, _, _, _, _ => none
  | k + 1, x19, x448000, x448001, x449000, x449001 => if x19 = true then (some false) else (letterpressref2_Same.l0 k 0 x448000 x448001 x449000 x449001)
def letterpressref2_Same.l0 : Nat → Int → Int → List Int → Int → List Int → Option (Bool)
  | 0, _, _, _, _, _ => none
  | k + 1, x5, x448000, x448001, x449000, x449001 => if x5 < (x448001.length : Int) then (if 0 ≤ x5 then (if x5 < (x449001.length : Int) then (if (rd x448001 x5) = (rd x449001 x5) then (letterpressref2_Same.l0 k (wrap64 (x5 + 1)) x448000 x448001 x449000 x449001) else (some false)) else (none)) else (none)) else (some true)
end
def letterpressref2_Same.f (k : Nat) (a0_0 : Int) (l0_1 : List Int) (a1_0 : Int) (l1_1 : List Int) : Option (Bool) := if a0_0 = a1_0 then (letterpressref2_Same.j0 k ((l0_1.length : Int) != (l1_1.length : Int)) a0_0 l0_1 a1_0 l1_1) else (letterpressref2_Same.j0 k true a0_0 l0_1 a1_0 l1_1)
theorem letterpressref2_Same.mono_l : ∀ k, (∀ y0 y1 y2 y3 y4, LeO (letterpressref2_Same.j0 k y0 y1 y2 y3 y4) (letterpressref2_Same.j0 (k + 1) y0 y1 y2 y3 y4)) ∧ (∀ y0 y1 y2 y3 y4, LeO (letterpressref2_Same.l0 k y0 y1 y2 y3 y4) (letterpressref2_Same.l0 (k + 1) y0 y1 y2 y3 y4))
  | 0 => ⟨fun _ _ _ _ _ r h => by simp [letterpressref2_Same.j0] at h, fun _ _ _ _ _ r h => by simp [letterpressref2_Same.l0] at h⟩
  | k + 1 => by
    obtain ⟨ih0, ih1⟩ := letterpressref2_Same.mono_l k
    refine ⟨?_, ?_⟩
    · intro y0 y1 y2 y3 y4
      unfold letterpressref2_Same.j0
      repeat' first
      | (with_reducible exact ih0 _ _ _ _ _)
      | (with_reducible exact ih1 _ _ _ _ _)
      | (with_reducible exact LeO.refl _)
      | (with_reducible exact LeO.none _)
      | (with_reducible refine LeO.ite ?_ ?_)
      | (with_reducible refine LeO.bind ?_ (fun _ => ?_))
      | exact ih0 _ _ _ _ _
      | exact ih1 _ _ _ _ _
      | exact LeO.none _
      | refine LeO.ite ?_ ?_
      | refine LeO.bind ?_ (fun _ => ?_)
    · intro y0 y1 y2 y3 y4
      unfold letterpressref2_Same.l0
      repeat' first
      | (with_reducible exact ih0 _ _ _ _ _)
      | (with_reducible exact ih1 _ _ _ _ _)
      | (with_reducible exact LeO.refl _)
      | (with_reducible exact LeO.none _)
      | (with_reducible refine LeO.ite ?_ ?_)
      | (with_reducible refine LeO.bind ?_ (fun _ => ?_))
      | exact ih0 _ _ _ _ _
      | exact ih1 _ _ _ _ _
      | exact LeO.none _
      | refine LeO.ite ?_ ?_
      | refine LeO.bind ?_ (fun _ => ?_)
theorem letterpressref2_Same.mono : ∀ a0 a1 a2 a3 k, LeO (letterpressref2_Same.f k a0 a1 a2 a3) (letterpressref2_Same.f (k + 1) a0 a1 a2 a3) := by
  intro a0 a1 a2 a3 k
  obtain ⟨ih0, ih1⟩ := letterpressref2_Same.mono_l k
  unfold letterpressref2_Same.f
  repeat' first
      | (with_reducible exact ih0 _ _ _ _ _)
      | (with_reducible exact ih1 _ _ _ _ _)
      | (with_reducible exact LeO.refl _)
      | (with_reducible exact LeO.none _)
      | (with_reducible refine LeO.ite ?_ ?_)
      | (with_reducible refine LeO.bind ?_ (fun _ => ?_))
      | exact ih0 _ _ _ _ _
      | exact ih1 _ _ _ _ _
      | exact LeO.none _
      | refine LeO.ite ?_ ?_
      | refine LeO.bind ?_ (fun _ => ?_)
def letterpresslaw2_IsaKnown.f (k : Nat) (a0 : Int) : Option (Bool) := (letterpresslaw2_known.f k).bind fun t507 => (if t507 = true then ((some (([(⟨0, ([] : List Int)⟩ : S28), (⟨15, (([3, 4] : List Int))⟩ : S28), (⟨16, (([24, 31] : List Int))⟩ : S28), (⟨21, (([5, 32] : List Int))⟩ : S28), (⟨28, (([7, 127] : List Int))⟩ : S28), (⟨38, (([3, 60, 1] : List Int))⟩ : S28), (⟨40, (([1, 2, (-2)] : List Int))⟩ : S28), (⟨41, (([(-256)] : List Int))⟩ : S28), (⟨42, (([254] : List Int))⟩ : S28), (⟨43, (([3, 4, (-1)] : List Int))⟩ : S28), (⟨44, (([31, 0, 256] : List Int))⟩ : S28), (⟨48, (([3, (-1)] : List Int))⟩ : S28), (⟨48, (([31, 2049] : List Int))⟩ : S28), (⟨52, (([1, (-4), 2] : List Int))⟩ : S28), (⟨56, (([(-2)] : List Int))⟩ : S28), (⟨57, (([4] : List Int))⟩ : S28), (⟨58, (([2, 5, (-32768)] : List Int))⟩ : S28), (⟨60, (([1, 2, 3] : List Int))⟩ : S28), (⟨63, (([1, 2, 3] : List Int))⟩ : S28)] : List (S28)) : List (S28))).bind fun y562 => ((some (([(([0, 0] : List Int)), (([1, 67] : List Int)), (([4, 248] : List Int)), (([33, 245] : List Int)), (([79, 247] : List Int)), (([207, 49] : List Int)), (([230, 255] : List Int)), (([232, 128] : List Int)), (([233, 127] : List Int)), (([28, 100, 255, 255] : List Int)), (([27, 224, 129, 1] : List Int)), (([112, 127, 127, 255] : List Int)), (([115, 225, 0, 1] : List Int)), (([80, 34, 255, 252] : List Int)), (([121, 255, 255, 254] : List Int)), (([120, 0, 0, 5] : List Int)), (([122, 37, 128, 0] : List Int)), (([124, 34, 26, 20] : List Int)), (([124, 65, 24, 56] : List Int))] : List (List Int)) : List (List Int))).bind fun y622 => ((letterpresslaw2_within.f a0 (y562.length : Int)).bind fun t625 => (if 0 ≤ t625 then (if t625 < (y562.length : Int) then ((isa_Encode.f k ((rd_T28 y562 t625).f0) ((rd_T28 y562 t625).f1)).bind fun bt627 => (if bt627.2 = true then (if t625 < (y622.length : Int) then (some ((strOfNums bt627.1).toList == (strOfNums (rd_L13 y622 t625)).toList)) else (none)) else (some false))) else (none)) else (none))))) else (some false))
theorem letterpresslaw2_IsaKnown.mono : ∀ a0 k, LeO (letterpresslaw2_IsaKnown.f k a0) (letterpresslaw2_IsaKnown.f (k + 1) a0) := by
  intro a0 k
  unfold letterpresslaw2_IsaKnown.f
  repeat' first
      | (with_reducible exact isa_Encode.mono _ _ _)
      | (with_reducible exact letterpresslaw2_known.mono _)
      | (with_reducible exact LeO.refl _)
      | (with_reducible exact LeO.none _)
      | (with_reducible refine LeO.ite ?_ ?_)
      | (with_reducible refine LeO.bind ?_ (fun _ => ?_))
      | exact isa_Encode.mono _ _ _
      | exact letterpresslaw2_known.mono _
      | exact LeO.none _
      | refine LeO.ite ?_ ?_
      | refine LeO.bind ?_ (fun _ => ?_)
/-- THE ONE PURE STATEMENT of letterpresslaw2_IsaKnown: yours. -/
def letterpresslaw2_IsaKnown.Pure : Prop := ∀ (a0 : Int), (Lit.int .i64 a0).wf = true → ∃ k, letterpresslaw2_IsaKnown.f k a0 = some true
def letterpresslaw2_IsaBits.f (k : Nat) (a0 : Int) (l1 : List Int) (a2 : Int) (a3 : Int) : Option (Bool) := (letterpresslaw2_known.f k).bind fun t658 => (if t658 = true then ((letterpresslaw2_Make.f k a0 l1).bind fun bt659 => (if (bt659.2.length : Int) = 0 then (some true) else ((letterpresslaw2_within.f a2 (bt659.2.length : Int)).bind fun t664 => ((some (([] : List Int) : List Int)).bind fun y665 => (if y665.length + bt659.2.length < 17592186044416 then ((some (y665 ++ bt659.2 : List Int)).bind fun y668 => ((letterpressref2_Kinds.f bt659.1).bind fun t672 => ((letterpressref2_Words.f k t672).bind fun t673 => (if 0 ≤ t664 then (if t664 < (t673.length : Int) then ((letterpresslaw2_Operand.f k (rdOf ByteArray.empty t673 t664) a3).bind fun t677 => (if t664 < (y668.length : Int) then ((some (y668.set (t664 : Int).toNat t677 : List Int)).bind fun y678 => ((isa_Encode.f k bt659.1 bt659.2).bind fun bt679 => ((isa_Encode.f k bt659.1 y678).bind fun bt683 => ((isa_Decode.f k bt683.1).bind fun bt687 => (if (bt679.1.length : Int) = (bt683.1.length : Int) then (if bt687.2.2.2 = true then (if bt687.2.2.1 = (bt683.1.length : Int) then ((letterpressref2_Same.f k bt687.1 bt687.2.1 bt659.1 y678).bind fun t694 => (if t694 = true then (if t664 < (bt659.2.length : Int) then (some (((strOfNums bt679.1).toList == (strOfNums bt683.1).toList) == ((rd bt659.2 t664) == (rd y678 t664)))) else (none)) else (some false))) else (some false)) else (some false)) else (some false)))))) else (none))) else (none)) else (none))))) else (none)))))) else (some false))
theorem letterpresslaw2_IsaBits.mono : ∀ a0 a1 a2 a3 k, LeO (letterpresslaw2_IsaBits.f k a0 a1 a2 a3) (letterpresslaw2_IsaBits.f (k + 1) a0 a1 a2 a3) := by
  intro a0 a1 a2 a3 k
  unfold letterpresslaw2_IsaBits.f
  repeat' first
      | (with_reducible exact isa_Decode.mono _ _)
      | (with_reducible exact isa_Encode.mono _ _ _)
      | (with_reducible exact letterpresslaw2_Make.mono _ _ _)
      | (with_reducible exact letterpresslaw2_Operand.mono _ _ _)
      | (with_reducible exact letterpresslaw2_known.mono _)
      | (with_reducible exact letterpressref2_Same.mono _ _ _ _ _)
      | (with_reducible exact letterpressref2_Words.mono _ _)
      | (with_reducible exact LeO.refl _)
      | (with_reducible exact LeO.none _)
      | (with_reducible refine LeO.ite ?_ ?_)
      | (with_reducible refine LeO.bind ?_ (fun _ => ?_))
      | exact isa_Decode.mono _ _
      | exact isa_Encode.mono _ _ _
      | exact letterpresslaw2_Make.mono _ _ _
      | exact letterpresslaw2_Operand.mono _ _ _
      | exact letterpresslaw2_known.mono _
      | exact letterpressref2_Same.mono _ _ _ _ _
      | exact letterpressref2_Words.mono _ _
      | exact LeO.none _
      | refine LeO.ite ?_ ?_
      | refine LeO.bind ?_ (fun _ => ?_)
/-- THE ONE PURE STATEMENT of letterpresslaw2_IsaBits: yours. -/
def letterpresslaw2_IsaBits.Pure : Prop := ∀ (a0 : Int) (l1 : List Int) (a2 : Int) (a3 : Int), (Lit.int .i64 a0).wf = true → l1.length ≤ maxLen → l1.length * 8 ≤ 140737488351232 → (∀ x ∈ l1, (Lit.int .i64 x).wf = true) → (Lit.int .i64 a2).wf = true → (Lit.int .i64 a3).wf = true → ∃ k, letterpresslaw2_IsaBits.f k a0 l1 a2 a3 = some true
def letterpresslaw2_IsaRegs.f (k : Nat) (a0 : Int) (a1 : Int) : Option (Bool) := (letterpresslaw2_known.f k).bind fun t697 => (if t697 = true then ((letterpresslaw2_within.f a0 40).bind fun t698 => ((letterpresslaw2_within.f a1 40).bind fun t699 => ((some (([wrap64 (t698 - 4), wrap64 (t699 - 4)] : List Int) : List Int)).bind fun y700 => (if (wrap64 (t698 - 4)) ≥ 0 then (if (wrap64 (t698 - 4)) ≤ 7 then (if (wrap64 (t699 - 4)) ≥ 0 then (if (wrap64 (t699 - 4)) ≤ 7 then ((isa_Encode.f k 15 y700).bind fun bt704 => (if (bt704.2 != true) = true then (if (bt704.2 == true) = true then (some ((bt704.1.length : Int) == 0)) else (some false)) else (if (bt704.1.length : Int) = 2 then (if 1 < (bt704.1.length : Int) then (if (Go.bits .and .i64 (wrap64 (rd bt704.1 1)) 15) = (wrap64 ((wrap64 (t698 - 4)) - (wrap64 (16 * (wrap64 (Int.tdiv (wrap64 (t698 - 4)) 24)))))) then (if ((wrap64 (rd bt704.1 1)) / 16) = (wrap64 ((wrap64 (t699 - 4)) - (wrap64 (16 * (wrap64 (Int.tdiv (wrap64 (t699 - 4)) 24)))))) then (if 0 < (bt704.1.length : Int) then (some ((rd bt704.1 0) == 1)) else (none)) else (some false)) else (some false)) else (none)) else (some false)))) else (if (wrap64 (t699 - 4)) ≥ 24 then ((isa_Encode.f k 15 y700).bind fun bt711 => (if (bt711.2 != (decide ((wrap64 (t699 - 4)) ≤ 31))) = true then (if (bt711.2 == (decide ((wrap64 (t699 - 4)) ≤ 31))) = true then (some ((bt711.1.length : Int) == 0)) else (some false)) else (if ((wrap64 (t699 - 4)) ≤ 31) then (if (bt711.1.length : Int) = 2 then (if 1 < (bt711.1.length : Int) then (if (Go.bits .and .i64 (wrap64 (rd bt711.1 1)) 15) = (wrap64 ((wrap64 (t698 - 4)) - (wrap64 (16 * (wrap64 (Int.tdiv (wrap64 (t698 - 4)) 24)))))) then (if ((wrap64 (rd bt711.1 1)) / 16) = (wrap64 ((wrap64 (t699 - 4)) - (wrap64 (16 * (wrap64 (Int.tdiv (wrap64 (t699 - 4)) 24)))))) then (if 0 < (bt711.1.length : Int) then (some ((rd bt711.1 0) == 1)) else (none)) else (some false)) else (some false)) else (none)) else (some false)) else (if (bt711.2 == (decide ((wrap64 (t699 - 4)) ≤ 31))) = true then (some ((bt711.1.length : Int) == 0)) else (some false))))) else ((isa_Encode.f k 15 y700).bind fun bt718 => (if (bt718.2 != false) = true then (if (bt718.2 == false) = true then (some ((bt718.1.length : Int) == 0)) else (some false)) else (if (bt718.2 == false) = true then (some ((bt718.1.length : Int) == 0)) else (some false)))))) else (if (wrap64 (t699 - 4)) ≥ 24 then ((isa_Encode.f k 15 y700).bind fun bt722 => (if (bt722.2 != (decide ((wrap64 (t699 - 4)) ≤ 31))) = true then (if (bt722.2 == (decide ((wrap64 (t699 - 4)) ≤ 31))) = true then (some ((bt722.1.length : Int) == 0)) else (some false)) else (if ((wrap64 (t699 - 4)) ≤ 31) then (if (bt722.1.length : Int) = 2 then (if 1 < (bt722.1.length : Int) then (if (Go.bits .and .i64 (wrap64 (rd bt722.1 1)) 15) = (wrap64 ((wrap64 (t698 - 4)) - (wrap64 (16 * (wrap64 (Int.tdiv (wrap64 (t698 - 4)) 24)))))) then (if ((wrap64 (rd bt722.1 1)) / 16) = (wrap64 ((wrap64 (t699 - 4)) - (wrap64 (16 * (wrap64 (Int.tdiv (wrap64 (t699 - 4)) 24)))))) then (if 0 < (bt722.1.length : Int) then (some ((rd bt722.1 0) == 1)) else (none)) else (some false)) else (some false)) else (none)) else (some false)) else (if (bt722.2 == (decide ((wrap64 (t699 - 4)) ≤ 31))) = true then (some ((bt722.1.length : Int) == 0)) else (some false))))) else ((isa_Encode.f k 15 y700).bind fun bt729 => (if (bt729.2 != false) = true then (if (bt729.2 == false) = true then (some ((bt729.1.length : Int) == 0)) else (some false)) else (if (bt729.2 == false) = true then (some ((bt729.1.length : Int) == 0)) else (some false)))))) else (if (wrap64 (t698 - 4)) ≥ 24 then (if (wrap64 (t698 - 4)) ≤ 31 then (if (wrap64 (t699 - 4)) ≥ 0 then (if (wrap64 (t699 - 4)) ≤ 7 then ((isa_Encode.f k 15 y700).bind fun bt733 => (if (bt733.2 != true) = true then (if (bt733.2 == true) = true then (some ((bt733.1.length : Int) == 0)) else (some false)) else (if (bt733.1.length : Int) = 2 then (if 1 < (bt733.1.length : Int) then (if (Go.bits .and .i64 (wrap64 (rd bt733.1 1)) 15) = (wrap64 ((wrap64 (t698 - 4)) - (wrap64 (16 * (wrap64 (Int.tdiv (wrap64 (t698 - 4)) 24)))))) then (if ((wrap64 (rd bt733.1 1)) / 16) = (wrap64 ((wrap64 (t699 - 4)) - (wrap64 (16 * (wrap64 (Int.tdiv (wrap64 (t699 - 4)) 24)))))) then (if 0 < (bt733.1.length : Int) then (some ((rd bt733.1 0) == 1)) else (none)) else (some false)) else (some false)) else (none)) else (some false)))) else (if (wrap64 (t699 - 4)) ≥ 24 then ((isa_Encode.f k 15 y700).bind fun bt740 => (if (bt740.2 != (decide ((wrap64 (t699 - 4)) ≤ 31))) = true then (if (bt740.2 == (decide ((wrap64 (t699 - 4)) ≤ 31))) = true then (some ((bt740.1.length : Int) == 0)) else (some false)) else (if ((wrap64 (t699 - 4)) ≤ 31) then (if (bt740.1.length : Int) = 2 then (if 1 < (bt740.1.length : Int) then (if (Go.bits .and .i64 (wrap64 (rd bt740.1 1)) 15) = (wrap64 ((wrap64 (t698 - 4)) - (wrap64 (16 * (wrap64 (Int.tdiv (wrap64 (t698 - 4)) 24)))))) then (if ((wrap64 (rd bt740.1 1)) / 16) = (wrap64 ((wrap64 (t699 - 4)) - (wrap64 (16 * (wrap64 (Int.tdiv (wrap64 (t699 - 4)) 24)))))) then (if 0 < (bt740.1.length : Int) then (some ((rd bt740.1 0) == 1)) else (none)) else (some false)) else (some false)) else (none)) else (some false)) else (if (bt740.2 == (decide ((wrap64 (t699 - 4)) ≤ 31))) = true then (some ((bt740.1.length : Int) == 0)) else (some false))))) else ((isa_Encode.f k 15 y700).bind fun bt747 => (if (bt747.2 != false) = true then (if (bt747.2 == false) = true then (some ((bt747.1.length : Int) == 0)) else (some false)) else (if (bt747.2 == false) = true then (some ((bt747.1.length : Int) == 0)) else (some false)))))) else (if (wrap64 (t699 - 4)) ≥ 24 then ((isa_Encode.f k 15 y700).bind fun bt751 => (if (bt751.2 != (decide ((wrap64 (t699 - 4)) ≤ 31))) = true then (if (bt751.2 == (decide ((wrap64 (t699 - 4)) ≤ 31))) = true then (some ((bt751.1.length : Int) == 0)) else (some false)) else (if ((wrap64 (t699 - 4)) ≤ 31) then (if (bt751.1.length : Int) = 2 then (if 1 < (bt751.1.length : Int) then (if (Go.bits .and .i64 (wrap64 (rd bt751.1 1)) 15) = (wrap64 ((wrap64 (t698 - 4)) - (wrap64 (16 * (wrap64 (Int.tdiv (wrap64 (t698 - 4)) 24)))))) then (if ((wrap64 (rd bt751.1 1)) / 16) = (wrap64 ((wrap64 (t699 - 4)) - (wrap64 (16 * (wrap64 (Int.tdiv (wrap64 (t699 - 4)) 24)))))) then (if 0 < (bt751.1.length : Int) then (some ((rd bt751.1 0) == 1)) else (none)) else (some false)) else (some false)) else (none)) else (some false)) else (if (bt751.2 == (decide ((wrap64 (t699 - 4)) ≤ 31))) = true then (some ((bt751.1.length : Int) == 0)) else (some false))))) else ((isa_Encode.f k 15 y700).bind fun bt758 => (if (bt758.2 != false) = true then (if (bt758.2 == false) = true then (some ((bt758.1.length : Int) == 0)) else (some false)) else (if (bt758.2 == false) = true then (some ((bt758.1.length : Int) == 0)) else (some false)))))) else ((isa_Encode.f k 15 y700).bind fun bt762 => (if (bt762.2 != false) = true then (if (bt762.2 == false) = true then (some ((bt762.1.length : Int) == 0)) else (some false)) else (if (bt762.2 == false) = true then (some ((bt762.1.length : Int) == 0)) else (some false))))) else ((isa_Encode.f k 15 y700).bind fun bt766 => (if (bt766.2 != false) = true then (if (bt766.2 == false) = true then (some ((bt766.1.length : Int) == 0)) else (some false)) else (if (bt766.2 == false) = true then (some ((bt766.1.length : Int) == 0)) else (some false)))))) else (if (wrap64 (t698 - 4)) ≥ 24 then (if (wrap64 (t698 - 4)) ≤ 31 then (if (wrap64 (t699 - 4)) ≥ 0 then (if (wrap64 (t699 - 4)) ≤ 7 then ((isa_Encode.f k 15 y700).bind fun bt770 => (if (bt770.2 != true) = true then (if (bt770.2 == true) = true then (some ((bt770.1.length : Int) == 0)) else (some false)) else (if (bt770.1.length : Int) = 2 then (if 1 < (bt770.1.length : Int) then (if (Go.bits .and .i64 (wrap64 (rd bt770.1 1)) 15) = (wrap64 ((wrap64 (t698 - 4)) - (wrap64 (16 * (wrap64 (Int.tdiv (wrap64 (t698 - 4)) 24)))))) then (if ((wrap64 (rd bt770.1 1)) / 16) = (wrap64 ((wrap64 (t699 - 4)) - (wrap64 (16 * (wrap64 (Int.tdiv (wrap64 (t699 - 4)) 24)))))) then (if 0 < (bt770.1.length : Int) then (some ((rd bt770.1 0) == 1)) else (none)) else (some false)) else (some false)) else (none)) else (some false)))) else (if (wrap64 (t699 - 4)) ≥ 24 then ((isa_Encode.f k 15 y700).bind fun bt777 => (if (bt777.2 != (decide ((wrap64 (t699 - 4)) ≤ 31))) = true then (if (bt777.2 == (decide ((wrap64 (t699 - 4)) ≤ 31))) = true then (some ((bt777.1.length : Int) == 0)) else (some false)) else (if ((wrap64 (t699 - 4)) ≤ 31) then (if (bt777.1.length : Int) = 2 then (if 1 < (bt777.1.length : Int) then (if (Go.bits .and .i64 (wrap64 (rd bt777.1 1)) 15) = (wrap64 ((wrap64 (t698 - 4)) - (wrap64 (16 * (wrap64 (Int.tdiv (wrap64 (t698 - 4)) 24)))))) then (if ((wrap64 (rd bt777.1 1)) / 16) = (wrap64 ((wrap64 (t699 - 4)) - (wrap64 (16 * (wrap64 (Int.tdiv (wrap64 (t699 - 4)) 24)))))) then (if 0 < (bt777.1.length : Int) then (some ((rd bt777.1 0) == 1)) else (none)) else (some false)) else (some false)) else (none)) else (some false)) else (if (bt777.2 == (decide ((wrap64 (t699 - 4)) ≤ 31))) = true then (some ((bt777.1.length : Int) == 0)) else (some false))))) else ((isa_Encode.f k 15 y700).bind fun bt784 => (if (bt784.2 != false) = true then (if (bt784.2 == false) = true then (some ((bt784.1.length : Int) == 0)) else (some false)) else (if (bt784.2 == false) = true then (some ((bt784.1.length : Int) == 0)) else (some false)))))) else (if (wrap64 (t699 - 4)) ≥ 24 then ((isa_Encode.f k 15 y700).bind fun bt788 => (if (bt788.2 != (decide ((wrap64 (t699 - 4)) ≤ 31))) = true then (if (bt788.2 == (decide ((wrap64 (t699 - 4)) ≤ 31))) = true then (some ((bt788.1.length : Int) == 0)) else (some false)) else (if ((wrap64 (t699 - 4)) ≤ 31) then (if (bt788.1.length : Int) = 2 then (if 1 < (bt788.1.length : Int) then (if (Go.bits .and .i64 (wrap64 (rd bt788.1 1)) 15) = (wrap64 ((wrap64 (t698 - 4)) - (wrap64 (16 * (wrap64 (Int.tdiv (wrap64 (t698 - 4)) 24)))))) then (if ((wrap64 (rd bt788.1 1)) / 16) = (wrap64 ((wrap64 (t699 - 4)) - (wrap64 (16 * (wrap64 (Int.tdiv (wrap64 (t699 - 4)) 24)))))) then (if 0 < (bt788.1.length : Int) then (some ((rd bt788.1 0) == 1)) else (none)) else (some false)) else (some false)) else (none)) else (some false)) else (if (bt788.2 == (decide ((wrap64 (t699 - 4)) ≤ 31))) = true then (some ((bt788.1.length : Int) == 0)) else (some false))))) else ((isa_Encode.f k 15 y700).bind fun bt795 => (if (bt795.2 != false) = true then (if (bt795.2 == false) = true then (some ((bt795.1.length : Int) == 0)) else (some false)) else (if (bt795.2 == false) = true then (some ((bt795.1.length : Int) == 0)) else (some false)))))) else ((isa_Encode.f k 15 y700).bind fun bt799 => (if (bt799.2 != false) = true then (if (bt799.2 == false) = true then (some ((bt799.1.length : Int) == 0)) else (some false)) else (if (bt799.2 == false) = true then (some ((bt799.1.length : Int) == 0)) else (some false))))) else ((isa_Encode.f k 15 y700).bind fun bt803 => (if (bt803.2 != false) = true then (if (bt803.2 == false) = true then (some ((bt803.1.length : Int) == 0)) else (some false)) else (if (bt803.2 == false) = true then (some ((bt803.1.length : Int) == 0)) else (some false))))))))) else (some false))
theorem letterpresslaw2_IsaRegs.mono : ∀ a0 a1 k, LeO (letterpresslaw2_IsaRegs.f k a0 a1) (letterpresslaw2_IsaRegs.f (k + 1) a0 a1) := by
  intro a0 a1 k
  unfold letterpresslaw2_IsaRegs.f
  repeat' first
      | (with_reducible exact isa_Encode.mono _ _ _)
      | (with_reducible exact letterpresslaw2_known.mono _)
      | (with_reducible exact LeO.refl _)
      | (with_reducible exact LeO.none _)
      | (with_reducible refine LeO.ite ?_ ?_)
      | (with_reducible refine LeO.bind ?_ (fun _ => ?_))
      | exact isa_Encode.mono _ _ _
      | exact letterpresslaw2_known.mono _
      | exact LeO.none _
      | refine LeO.ite ?_ ?_
      | refine LeO.bind ?_ (fun _ => ?_)
/-- THE ONE PURE STATEMENT of letterpresslaw2_IsaRegs: yours. -/
def letterpresslaw2_IsaRegs.Pure : Prop := ∀ (a0 : Int) (a1 : Int), (Lit.int .i64 a0).wf = true → (Lit.int .i64 a1).wf = true → ∃ k, letterpresslaw2_IsaRegs.f k a0 a1 = some true
def isa_Right.f (k : Nat) (a0_0 : Int) (l0_1 : List Int) : Option (Bool) := (isa_code.f k a0_0 l0_1).bind fun bt808 => (some bt808.2)
theorem isa_Right.mono : ∀ a0 a1 k, LeO (isa_Right.f k a0 a1) (isa_Right.f (k + 1) a0 a1) := by
  intro a0 a1 k
  unfold isa_Right.f
  repeat' first
      | (with_reducible exact isa_code.mono _ _ _)
      | (with_reducible exact LeO.refl _)
      | (with_reducible exact LeO.none _)
      | (with_reducible refine LeO.ite ?_ ?_)
      | (with_reducible refine LeO.bind ?_ (fun _ => ?_))
      | exact isa_code.mono _ _ _
      | exact LeO.none _
      | refine LeO.ite ?_ ?_
      | refine LeO.bind ?_ (fun _ => ?_)
def letterpresslaw2_IsaBack.j0 : Nat → List Int → List Int → Bool → Int → List Int → Option (Bool)
  | 0, _, _, _, _, _ => none
  | k + 1, x2, x8, x58, x816000, x816001 => if x58 = true then (some false) else ((some (([] : List Int) : List Int)).bind fun y826 => (if y826.length + x8.length < 140737488355328 then ((some (y826 ++ x8 : List Int)).bind fun y829 => (if y829.length + x2.length < 140737488355328 then ((isa_Decode.f k (y829 ++ x2)).bind fun bt835 => (if bt835.2.2.2 = true then (if bt835.2.2.1 = (x8.length : Int) then ((letterpressref2_Same.f k x816000 x816001 bt835.1 bt835.2.1).bind fun t842 => (some t842)) else (some false)) else (some false))) else (none))) else (none)))
def letterpresslaw2_IsaBack.f (k : Nat) (a0 : Int) (l1 : List Int) (l2 : List Int) : Option (Bool) := (letterpresslaw2_known.f k).bind fun t810 => (if t810 = true then (if (l2.length : Int) > 100 then (some true) else ((letterpresslaw2_Make.f k a0 l1).bind fun bt811 => ((isa_Encode.f k bt811.1 bt811.2).bind fun bt816 => ((letterpressref2_Encode.f k bt811.1 bt811.2).bind fun bt820 => (if bt816.2 = true then (if bt820.2 = true then (if (strOfNums bt816.1).toList = (strOfNums bt820.1).toList then ((isa_Right.f k bt811.1 bt811.2).bind fun t824 => (if t824 = true then ((isa_Size.f bt811.1).bind fun t825 => (letterpresslaw2_IsaBack.j0 k l2 bt816.1 ((bt816.1.length : Int) != t825) bt811.1 bt811.2)) else (letterpresslaw2_IsaBack.j0 k l2 bt816.1 true bt811.1 bt811.2))) else (letterpresslaw2_IsaBack.j0 k l2 bt816.1 true bt811.1 bt811.2)) else (letterpresslaw2_IsaBack.j0 k l2 bt816.1 true bt811.1 bt811.2)) else (letterpresslaw2_IsaBack.j0 k l2 bt816.1 true bt811.1 bt811.2)))))) else (some false))
theorem letterpresslaw2_IsaBack.mono_l : ∀ k, (∀ y0 y1 y2 y3 y4, LeO (letterpresslaw2_IsaBack.j0 k y0 y1 y2 y3 y4) (letterpresslaw2_IsaBack.j0 (k + 1) y0 y1 y2 y3 y4))
  | 0 => fun _ _ _ _ _ r h => by simp [letterpresslaw2_IsaBack.j0] at h
  | k + 1 => by
    have ih0 := letterpresslaw2_IsaBack.mono_l k
    · intro y0 y1 y2 y3 y4
      unfold letterpresslaw2_IsaBack.j0
      repeat' first
      | (with_reducible exact ih0 _ _ _ _ _)
      | (with_reducible exact isa_Decode.mono _ _)
      | (with_reducible exact isa_Encode.mono _ _ _)
      | (with_reducible exact isa_Right.mono _ _ _)
      | (with_reducible exact letterpresslaw2_Make.mono _ _ _)
      | (with_reducible exact letterpresslaw2_known.mono _)
      | (with_reducible exact letterpressref2_Encode.mono _ _ _)
      | (with_reducible exact letterpressref2_Same.mono _ _ _ _ _)
      | (with_reducible exact LeO.refl _)
      | (with_reducible exact LeO.none _)
      | (with_reducible refine LeO.ite ?_ ?_)
      | (with_reducible refine LeO.bind ?_ (fun _ => ?_))
      | exact ih0 _ _ _ _ _
      | exact isa_Decode.mono _ _
      | exact isa_Encode.mono _ _ _
      | exact isa_Right.mono _ _ _
      | exact letterpresslaw2_Make.mono _ _ _
      | exact letterpresslaw2_known.mono _
      | exact letterpressref2_Encode.mono _ _ _
      | exact letterpressref2_Same.mono _ _ _ _ _
      | exact LeO.none _
      | refine LeO.ite ?_ ?_
      | refine LeO.bind ?_ (fun _ => ?_)
theorem letterpresslaw2_IsaBack.mono : ∀ a0 a1 a2 k, LeO (letterpresslaw2_IsaBack.f k a0 a1 a2) (letterpresslaw2_IsaBack.f (k + 1) a0 a1 a2) := by
  intro a0 a1 a2 k
  have ih0 := letterpresslaw2_IsaBack.mono_l k
  unfold letterpresslaw2_IsaBack.f
  repeat' first
      | (with_reducible exact ih0 _ _ _ _ _)
      | (with_reducible exact isa_Decode.mono _ _)
      | (with_reducible exact isa_Encode.mono _ _ _)
      | (with_reducible exact isa_Right.mono _ _ _)
      | (with_reducible exact letterpresslaw2_Make.mono _ _ _)
      | (with_reducible exact letterpresslaw2_known.mono _)
      | (with_reducible exact letterpressref2_Encode.mono _ _ _)
      | (with_reducible exact letterpressref2_Same.mono _ _ _ _ _)
      | (with_reducible exact LeO.refl _)
      | (with_reducible exact LeO.none _)
      | (with_reducible refine LeO.ite ?_ ?_)
      | (with_reducible refine LeO.bind ?_ (fun _ => ?_))
      | exact ih0 _ _ _ _ _
      | exact isa_Decode.mono _ _
      | exact isa_Encode.mono _ _ _
      | exact isa_Right.mono _ _ _
      | exact letterpresslaw2_Make.mono _ _ _
      | exact letterpresslaw2_known.mono _
      | exact letterpressref2_Encode.mono _ _ _
      | exact letterpressref2_Same.mono _ _ _ _ _
      | exact LeO.none _
      | refine LeO.ite ?_ ?_
      | refine LeO.bind ?_ (fun _ => ?_)
/-- THE ONE PURE STATEMENT of letterpresslaw2_IsaBack: yours. -/
def letterpresslaw2_IsaBack.Pure : Prop := ∀ (a0 : Int) (l1 : List Int) (l2 : List Int), (Lit.int .i64 a0).wf = true → l1.length ≤ maxLen → l1.length * 8 ≤ 140737488351232 → (∀ x ∈ l1, (Lit.int .i64 x).wf = true) → l2.length ≤ maxLen → l2.length * 1 ≤ 140737488351232 → (∀ x ∈ l2, (Lit.int .u8 x).wf = true) → ∃ k, letterpresslaw2_IsaBack.f k a0 l1 l2 = some true
def letterpresslaw2_IsaKinds.j0 : Nat → Bool → Int → List Int → Option (Bool)
  | 0, _, _, _ => none
  | k + 1, x27, x876000, x876001 => if x27 = true then (some false) else ((some (([] : List Int) : List Int)).bind fun y881 => (if y881.length + x876001.length < 17592186044416 then ((some (y881 ++ x876001 : List Int)).bind fun y884 => ((some (([0] : List Int) : List Int)).bind fun y887 => (if y884.length + y887.length < 17592186044416 then ((isa_Right.f k x876000 (y884 ++ y887)).bind fun t894 => (if t894 = true then (some false) else (if (x876001.length : Int) = 0 then (some true) else (if 1 ≤ (x876001.length : Int) then ((isa_Right.f k x876000 (x876001.drop 1)).bind fun t899 => (some (!t899))) else (none))))) else (none)))) else (none)))
def letterpresslaw2_IsaKinds.f (k : Nat) (a0 : Int) (l1 : List Int) : Option (Bool) := (letterpresslaw2_known.f k).bind fun t870 => (if t870 = true then ((letterpresslaw2_Make.f k a0 l1).bind fun bt871 => ((isa_Kinds.f bt871.1).bind fun t876 => ((letterpressref2_Words.f k t876).bind fun t877 => (if (t877.length : Int) = (bt871.2.length : Int) then ((isa_Right.f k bt871.1 bt871.2).bind fun t880 => (letterpresslaw2_IsaKinds.j0 k (!t880) bt871.1 bt871.2)) else (letterpresslaw2_IsaKinds.j0 k true bt871.1 bt871.2))))) else (some false))
theorem letterpresslaw2_IsaKinds.mono_l : ∀ k, (∀ y0 y1 y2, LeO (letterpresslaw2_IsaKinds.j0 k y0 y1 y2) (letterpresslaw2_IsaKinds.j0 (k + 1) y0 y1 y2))
  | 0 => fun _ _ _ r h => by simp [letterpresslaw2_IsaKinds.j0] at h
  | k + 1 => by
    have ih0 := letterpresslaw2_IsaKinds.mono_l k
    · intro y0 y1 y2
      unfold letterpresslaw2_IsaKinds.j0
      repeat' first
      | (with_reducible exact ih0 _ _ _)
      | (with_reducible exact isa_Right.mono _ _ _)
      | (with_reducible exact letterpresslaw2_Make.mono _ _ _)
      | (with_reducible exact letterpresslaw2_known.mono _)
      | (with_reducible exact letterpressref2_Words.mono _ _)
      | (with_reducible exact LeO.refl _)
      | (with_reducible exact LeO.none _)
      | (with_reducible refine LeO.ite ?_ ?_)
      | (with_reducible refine LeO.bind ?_ (fun _ => ?_))
      | exact ih0 _ _ _
      | exact isa_Right.mono _ _ _
      | exact letterpresslaw2_Make.mono _ _ _
      | exact letterpresslaw2_known.mono _
      | exact letterpressref2_Words.mono _ _
      | exact LeO.none _
      | refine LeO.ite ?_ ?_
      | refine LeO.bind ?_ (fun _ => ?_)
theorem letterpresslaw2_IsaKinds.mono : ∀ a0 a1 k, LeO (letterpresslaw2_IsaKinds.f k a0 a1) (letterpresslaw2_IsaKinds.f (k + 1) a0 a1) := by
  intro a0 a1 k
  have ih0 := letterpresslaw2_IsaKinds.mono_l k
  unfold letterpresslaw2_IsaKinds.f
  repeat' first
      | (with_reducible exact ih0 _ _ _)
      | (with_reducible exact isa_Right.mono _ _ _)
      | (with_reducible exact letterpresslaw2_Make.mono _ _ _)
      | (with_reducible exact letterpresslaw2_known.mono _)
      | (with_reducible exact letterpressref2_Words.mono _ _)
      | (with_reducible exact LeO.refl _)
      | (with_reducible exact LeO.none _)
      | (with_reducible refine LeO.ite ?_ ?_)
      | (with_reducible refine LeO.bind ?_ (fun _ => ?_))
      | exact ih0 _ _ _
      | exact isa_Right.mono _ _ _
      | exact letterpresslaw2_Make.mono _ _ _
      | exact letterpresslaw2_known.mono _
      | exact letterpressref2_Words.mono _ _
      | exact LeO.none _
      | refine LeO.ite ?_ ?_
      | refine LeO.bind ?_ (fun _ => ?_)
/-- THE ONE PURE STATEMENT of letterpresslaw2_IsaKinds: yours. -/
def letterpresslaw2_IsaKinds.Pure : Prop := ∀ (a0 : Int) (l1 : List Int), (Lit.int .i64 a0).wf = true → l1.length ≤ maxLen → l1.length * 8 ≤ 140737488351232 → (∀ x ∈ l1, (Lit.int .i64 x).wf = true) → ∃ k, letterpresslaw2_IsaKinds.f k a0 l1 = some true
def letterpresslaw2_IsaReach.f (k : Nat) (a0 : Int) (a1 : Int) : Option (Bool) := (letterpresslaw2_known.f k).bind fun t900 => (if t900 = true then ((some (([41, 42, 56, 57] : List Int) : List Int)).bind fun y901 => ((some (([9, 9, 25, 25] : List Int) : List Int)).bind fun y904 => ((letterpresslaw2_within.f a1 4).bind fun t907 => ((letterpresslaw2_within.f a0 67108864).bind fun t908 => ((letterpresslaw2_within.f a0 3).bind fun t909 => (if t909 = 0 then ((letterpresslaw2_within.f a0 600).bind fun t910 => (if 0 ≤ t907 then (if t907 < (y901.length : Int) then ((isa_Right.f k (rd y901 t907) (([wrap64 (t910 - 300)] : List Int))).bind fun t915 => (if (Int.tmod (wrap64 (t910 - 300)) 2) = 0 then (if t907 < (y904.length : Int) then ((letterpressref1_Fits.f (wrap64 (t910 - 300)) (rd y904 t907)).bind fun t917 => (some (t915 == t917))) else (none)) else (some (t915 == false)))) else (none)) else (none))) else (if 0 ≤ t907 then (if t907 < (y901.length : Int) then ((isa_Right.f k (rd y901 t907) (([wrap64 (t908 - 33554432)] : List Int))).bind fun t922 => (if (Int.tmod (wrap64 (t908 - 33554432)) 2) = 0 then (if t907 < (y904.length : Int) then ((letterpressref1_Fits.f (wrap64 (t908 - 33554432)) (rd y904 t907)).bind fun t924 => (some (t922 == t924))) else (none)) else (some (t922 == false)))) else (none)) else (none)))))))) else (some false))
theorem letterpresslaw2_IsaReach.mono : ∀ a0 a1 k, LeO (letterpresslaw2_IsaReach.f k a0 a1) (letterpresslaw2_IsaReach.f (k + 1) a0 a1) := by
  intro a0 a1 k
  unfold letterpresslaw2_IsaReach.f
  repeat' first
      | (with_reducible exact isa_Right.mono _ _ _)
      | (with_reducible exact letterpresslaw2_known.mono _)
      | (with_reducible exact LeO.refl _)
      | (with_reducible exact LeO.none _)
      | (with_reducible refine LeO.ite ?_ ?_)
      | (with_reducible refine LeO.bind ?_ (fun _ => ?_))
      | exact isa_Right.mono _ _ _
      | exact letterpresslaw2_known.mono _
      | exact LeO.none _
      | refine LeO.ite ?_ ?_
      | refine LeO.bind ?_ (fun _ => ?_)
/-- THE ONE PURE STATEMENT of letterpresslaw2_IsaReach: yours. -/
def letterpresslaw2_IsaReach.Pure : Prop := ∀ (a0 : Int) (a1 : Int), (Lit.int .i64 a0).wf = true → (Lit.int .i64 a1).wf = true → ∃ k, letterpresslaw2_IsaReach.f k a0 a1 = some true
def letterpressref2_Find.f (a0 : ByteArray) : Option (Int × Bool) := (letterpressref2_find.f (-1) a0).bind fun bt926 => (some (bt926.2.2.2.1, bt926.2.2.2.2))
end Go.Proofs.YticofbaajdgabaaDoor.X

namespace Go.Proofs.YticofbaajdgabaaDoor.X
open Go.RowKit Go.Proofs.YticofbaajdgabaaDoorW.PrintWords Go.Proofs.YticofbaajdgabaaDoorW.PrintLast Go.Proofs.YticofbaajdgabaaDoorW.PrintMore
attribute [local go_sem] max2_int min2_int max_two min_two
set_option linter.unusedVariables false
set_option linter.unusedSimpArgs false
theorem reps_flat {α : Type} {R : α → List Value → Prop} {size : Nat} (enc : α → List Value) (hl : ∀ p, (enc p).length = size) (hR : ∀ p, R p (enc p)) : ∀ ps : List α, Reps R size ps (ps.flatMap enc)
  | [] => Reps.none _ _
  | p :: ps => by
    have h1 : Reps R size ([] ++ [p]) ([] ++ enc p) := (Reps.none R size).snoc (hR p) (hl p)
    have h2 := Kd.reps_append h1 (reps_flat enc hl hR ps)
    simpa using h2
set_option maxRecDepth 100000 in
theorem isa_table.run (w : World) (cs : List Frame) : runN Tryd.prog 76 (lone (Frame.enter Tryd.prog 39 #[] .normal) cs w) = .next (lone (Go.PR.frameOf (runN Tryd.prog 76 (lone (Frame.enter Tryd.prog 39 #[] .normal) [] w))) cs (w.alloc (.cells (tableL.flatMap tableEnc).toArray 68))) := by kernel_rfl
set_option maxRecDepth 100000 in
theorem isa_table.calls (r : List (S68)) (w : World) (h : isa_table.f = some r) :
    Calls Tryd.prog 39 #[] w fun e w' => ∃ v0_ : Value, e = .returned (v0_) ∧ Kd.R k68 68 w' w.heap.size (fun _ => True) v0_ r ∧ Below w.heap.size w w' := by
  obtain rfl := Option.some.inj h
  refine (Go.PR.calls_of_run (w' := w.alloc (.cells (tableL.flatMap tableEnc).toArray 68)) (v := .slice (some ⟨w.heap.size, 0, none⟩) 66 66) 76 _ (isa_table.run w) (by kernel_rfl) (by kernel_rfl) (by kernel_rfl) (by kernel_rfl) Tryd.func39 (by kernel_rfl)).mono ?_
  rintro e w' ⟨rfl, rfl⟩
  have ho := World.ownsRow_lit (base := w.heap.size) (e := 68) (size := 3) w (tableL.flatMap tableEnc).toArray 66 (Nat.le_refl _) (by decide) (by decide +kernel)
  have ho' : (w.alloc (.cells (tableL.flatMap tableEnc).toArray 68)).ownsRow w.heap.size 68 3 (.slice (some ⟨w.heap.size, 0, none⟩) 66 66) 66 (tableL.flatMap tableEnc) := by simpa using ho
  have hn : (66 : Nat) = tableL.length := by decide
  rw [hn] at ho'
  exact ⟨_, rfl, ⟨fun _ _ => trivial, tableL.flatMap tableEnc, ho', reps_flat tableEnc (fun _ => rfl) (fun p => k68_mkM _ _ _ p) tableL⟩, below_alloc (Below.refl _ _) _⟩
set_option maxHeartbeats 8000000 in
set_option maxRecDepth 100000 in
theorem isa_row_title.calls (a0_0 : ByteArray) (a0_1 : Int) (a0_2 : ByteArray) (r : ByteArray) (w : World) (h : isa_row_title.f a0_0 a0_1 a0_2 = some r) :
    Calls Tryd.prog 50 #[.agg #[.string a0_0, .int .u32 a0_1, .string a0_2]] w fun e w' => e = .returned (.string r) ∧ Below w.heap.size w w' := by
  have hu68 := Tryd.underlying68
  have HB := Aside0.mk (Below.refl w.heap.size w)
  have H : (some a0_0) = some r := h
  clear h
  obtain rfl := Option.some.inj H
  go_enter Tryd.func50, Tryd.ntmps50
  go_wp2_with (first | ((with_reducible refine gate_dst (N := 1) rfl ?_); refine box_event ?hg (N := 1) ?hd (cs := #[.string a0_0, .int .u32 a0_1, .string a0_2]) (t := 68) ?hr ?_; (case hd => rfl); (case hg => rfl); (case hr => first | (go_simp; done) | (go_simp; rfl)); intro gb101 hg w2 hbox hb; have n0_ := Aside0.mk (below_step (by repeat (first | (with_reducible first | exact HB.out | apply below_alloc | apply pw_below_drewN | apply below_drew1) | exact HB.out)) hb); have n1_ := Aside0.mk (hbox); have n2_ := Aside0.mk ((by rw [hg]; exact (below_size (by repeat (first | (with_reducible first | exact HB.out | apply below_alloc | apply pw_below_drewN | apply below_drew1) | exact HB.out))) : w.heap.size ≤ gb101)); have n3_ := Aside0.mk ((by rw [hg]; exact (below_size (by repeat (first | (with_reducible first | exact HB.out | apply below_alloc | apply pw_below_drewN | apply below_drew1) | exact HB.out))) : w.heap.size ≤ gb101)); clear HB; have HB := n0_; have BK101 := n1_; have GW101 := n2_; have GE101 := n3_; clear n0_ n1_ n2_ n3_; clear hb hbox hg; have hcz3_0 : w2.cell? ⟨gb101, 0, none⟩ = some (.string a0_0) := (blk_cell BK101.out 0).trans rfl; have hcz3_1 : w2.cell? ⟨gb101, 1, none⟩ = some (.int .u32 a0_1) := (blk_cell BK101.out 1).trans rfl; have hcz3_2 : w2.cell? ⟨gb101, 2, none⟩ = some (.string a0_2) := (blk_cell BK101.out 2).trans rfl; have hfz3_0 := blk_frozen BK101.out 0; have hfz3_1 := blk_frozen BK101.out 1; have hfz3_2 := blk_frozen BK101.out 2))
  go_ret
  exact ⟨by first | rfl | (simp [errW_none, errW_some] <;> rfl) | (simp [*, errW_none, errW_some] <;> rfl), by repeat (first | (with_reducible first | exact HB.out | apply below_alloc | apply pw_below_drewN | apply below_drew1 | refine below_set ?_ GE101.out) | exact HB.out)⟩
set_option maxHeartbeats 8000000 in
set_option maxRecDepth 100000 in
theorem isa_of_string_48__isa_row_title.calls (a0 : Int)  (r : ByteArray) (w : World) (h : isa_of_string_48__isa_row_title.f a0 = some r) :
    Calls Tryd.prog 48 #[.int .i64 a0, .func (.func 50) #[] #[]] w fun e w' => e = .returned (.string r) ∧ Below w.heap.size w w' := by
  have hu68 := Tryd.underlying68
  have HB := Aside0.mk (Below.refl w.heap.size w)
  have H : ((isa_table.f).bind fun t102 => (if a0 ≥ 0 then (if a0 < (t102.length : Int) then (if 0 ≤ a0 then ((isa_row_title.f ((rd_T68 t102 a0).f0) ((rd_T68 t102 a0).f1) ((rd_T68 t102 a0).f2)).bind fun t106 => (some t106)) else (none)) else (some (⟨#[]⟩ : ByteArray))) else (some (⟨#[]⟩ : ByteArray)))) = some r := h
  clear h
  replace H := Option.bind_eq_some_iff.mp H
  obtain ⟨t102, A30, H⟩ := H
  replace H : (if a0 ≥ 0 then (if a0 < (t102.length : Int) then (if 0 ≤ a0 then ((isa_row_title.f ((rd_T68 t102 a0).f0) ((rd_T68 t102 a0).f1) ((rd_T68 t102 a0).f2)).bind fun t106 => (some t106)) else (none)) else (some (⟨#[]⟩ : ByteArray))) else (some (⟨#[]⟩ : ByteArray))) = some r := H
  have A3 := Aside0.mk A30
  clear A30
  by_cases c4 : a0 ≥ 0
  · rw [if_pos c4] at H
    have c4b0 : decide (0 ≤ a0) = true := decide_eq_true c4
    clear c4
    by_cases c5 : a0 < (t102.length : Int)
    · rw [if_pos c5] at H
      have c5b0 : decide (a0 < (t102.length : Int)) = true := decide_eq_true c5
      clear c5
      by_cases c6 : 0 ≤ a0
      · rw [if_pos c6] at H
        have c6b0 : decide (0 ≤ a0) = true := decide_eq_true c6
        clear c6
        replace H := Option.bind_eq_some_iff.mp H
        obtain ⟨t106, A70, H⟩ := H
        replace H : (some t106) = some r := H
        have A7 := Aside0.mk A70
        clear A70
        obtain rfl := Option.some.inj H
        go_enter Tryd.func48, Tryd.ntmps48
        go_wp2_with (first | ((with_reducible refine gate_callee (f := 39) rfl ?_); refine goesL_ (some 6) rfl rfl Tryd.func39 (by kernel_rfl) rfl #[] rfl (by (try simp only [List.map_toArray, List.map_cons, List.map_nil]); first | done | rfl | (simp only [List.length_drop, List.length_take]; rfl)) ?_; (with_reducible refine (isa_table.calls  t102 _ A3.out).mono ?_); rintro e w8 ⟨v103, rfl, ho0, hb⟩; refine ⟨_, rfl, ?_⟩; have n0_ := Aside0.mk (Kd.R_lower ho0 (below_size (by repeat (first | (with_reducible first | exact HB.out | apply below_alloc | apply pw_below_drewN | apply below_drew1) | exact HB.out)))); have n1_ := Aside0.mk (below_step (by repeat (first | (with_reducible first | exact HB.out | apply below_alloc | apply pw_below_drewN | apply below_drew1) | exact HB.out)) hb); clear HB; have HO104 := n0_; have HB := n1_; clear n0_ n1_; (try clear hb); (try clear hb2); (try clear hk); (try clear hi); (try clear ho0); obtain ⟨Ao9, co9, eo9⟩ := Kd.R_slice HO104.out; subst eo9; have p105 : 0 ≤ (a0 : Int) := of_decide_eq_true (by first | (with_reducible assumption) | assumption); have q105 : a0 < (t102.length : Int) := of_decide_eq_true (by first | (with_reducible assumption) | assumption); obtain ⟨ad105, e105, hx105_0, hx105_1, hx105_2⟩ := at_T68 (Kd.R_reads' HO104.out).2.2 a0 p105 q105; cases e105; replace p105 := eq_true p105; replace q105 := eq_true q105) | (go_at_call 50; (with_reducible refine (isa_row_title.calls ((rd_T68 t102 a0).f0) ((rd_T68 t102 a0).f1) ((rd_T68 t102 a0).f2) t106 _ A7.out).mono ?_); rintro e w10 ⟨rfl, hb⟩; have n0_ := Aside0.mk (Kd.R_below (by (with_reducible repeat (first | apply Kd.R_alloc | apply Kd.R_drewN | apply Kd.R_drew)); exact HO104.out) hb); have n1_ := Aside0.mk (below_step (by repeat (first | (with_reducible first | exact HB.out | apply below_alloc | apply pw_below_drewN | apply below_drew1) | exact HB.out)) hb); clear HO104; clear HB; have HO104 := n0_; have HB := n1_; clear n0_ n1_; (try clear hb); (try clear hb2); (try clear hk); (try clear hi)))
        go_ret
        exact ⟨by first | rfl | (simp [errW_none, errW_some] <;> rfl) | (simp [*, errW_none, errW_some] <;> rfl), by repeat (first | (with_reducible first | exact HB.out | apply below_alloc | apply pw_below_drewN | apply below_drew1) | exact HB.out)⟩
      · rw [if_neg c6] at H
        exact absurd H (by simp)
    · rw [if_neg c5] at H
      have c5b0 : decide (a0 < (t102.length : Int)) = false := decide_eq_false c5
      clear c5
      obtain rfl := Option.some.inj H
      go_enter Tryd.func48, Tryd.ntmps48
      go_wp2_with (first | ((with_reducible refine gate_callee (f := 39) rfl ?_); refine goesL_ (some 6) rfl rfl Tryd.func39 (by kernel_rfl) rfl #[] rfl (by (try simp only [List.map_toArray, List.map_cons, List.map_nil]); first | done | rfl | (simp only [List.length_drop, List.length_take]; rfl)) ?_; (with_reducible refine (isa_table.calls  t102 _ A3.out).mono ?_); rintro e w11 ⟨v103, rfl, ho0, hb⟩; refine ⟨_, rfl, ?_⟩; have n0_ := Aside0.mk (Kd.R_lower ho0 (below_size (by repeat (first | (with_reducible first | exact HB.out | apply below_alloc | apply pw_below_drewN | apply below_drew1) | exact HB.out)))); have n1_ := Aside0.mk (below_step (by repeat (first | (with_reducible first | exact HB.out | apply below_alloc | apply pw_below_drewN | apply below_drew1) | exact HB.out)) hb); clear HB; have HO104 := n0_; have HB := n1_; clear n0_ n1_; (try clear hb); (try clear hb2); (try clear hk); (try clear hi); (try clear ho0); obtain ⟨Ao12, co12, eo12⟩ := Kd.R_slice HO104.out; subst eo12))
      go_ret
      exact ⟨by first | rfl | (simp [errW_none, errW_some] <;> rfl) | (simp [*, errW_none, errW_some] <;> rfl), by repeat (first | (with_reducible first | exact HB.out | apply below_alloc | apply pw_below_drewN | apply below_drew1) | exact HB.out)⟩
  · rw [if_neg c4] at H
    have c4b0 : decide (0 ≤ a0) = false := decide_eq_false c4
    clear c4
    obtain rfl := Option.some.inj H
    go_enter Tryd.func48, Tryd.ntmps48
    go_wp2_with (first | ((with_reducible refine gate_callee (f := 39) rfl ?_); refine goesL_ (some 6) rfl rfl Tryd.func39 (by kernel_rfl) rfl #[] rfl (by (try simp only [List.map_toArray, List.map_cons, List.map_nil]); first | done | rfl | (simp only [List.length_drop, List.length_take]; rfl)) ?_; (with_reducible refine (isa_table.calls  t102 _ A3.out).mono ?_); rintro e w13 ⟨v103, rfl, ho0, hb⟩; refine ⟨_, rfl, ?_⟩; have n0_ := Aside0.mk (Kd.R_lower ho0 (below_size (by repeat (first | (with_reducible first | exact HB.out | apply below_alloc | apply pw_below_drewN | apply below_drew1) | exact HB.out)))); have n1_ := Aside0.mk (below_step (by repeat (first | (with_reducible first | exact HB.out | apply below_alloc | apply pw_below_drewN | apply below_drew1) | exact HB.out)) hb); clear HB; have HO104 := n0_; have HB := n1_; clear n0_ n1_; (try clear hb); (try clear hb2); (try clear hk); (try clear hi); (try clear ho0)))
    go_ret
    exact ⟨by first | rfl | (simp [errW_none, errW_some] <;> rfl) | (simp [*, errW_none, errW_some] <;> rfl), by repeat (first | (with_reducible first | exact HB.out | apply below_alloc | apply pw_below_drewN | apply below_drew1) | exact HB.out)⟩
set_option maxHeartbeats 8000000 in
set_option maxRecDepth 100000 in
theorem isa_Name.calls (a0 : Int) (r : ByteArray) (w : World) (h : isa_Name.f a0 = some r) :
    Calls Tryd.prog 30 #[.int .i64 a0] w fun e w' => e = .returned (.string r) ∧ Below w.heap.size w w' := by
  have HB := Aside0.mk (Below.refl w.heap.size w)
  have H : ((isa_of_string_48__isa_row_title.f a0).bind fun t107 => (some t107)) = some r := h
  clear h
  replace H := Option.bind_eq_some_iff.mp H
  obtain ⟨t107, A20, H⟩ := H
  replace H : (some t107) = some r := H
  have A2 := Aside0.mk A20
  clear A20
  obtain rfl := Option.some.inj H
  go_enter Tryd.func30, Tryd.ntmps30
  go_wp2_with (first | ((with_reducible refine gate_callee (f := 48) rfl ?_); refine goesL_ (some 4) rfl rfl Tryd.func48 (by kernel_rfl) rfl #[.int .i64 a0, .func (.func 50) #[] #[]] rfl (by (try simp only [List.map_toArray, List.map_cons, List.map_nil]); first | done | rfl | (simp only [List.length_drop, List.length_take]; rfl)) ?_; (with_reducible refine (isa_of_string_48__isa_row_title.calls a0  t107 _ A2.out).mono ?_); rintro e w3 ⟨rfl, hb⟩; refine ⟨_, rfl, ?_⟩; have n0_ := Aside0.mk (below_step (by repeat (first | (with_reducible first | exact HB.out | apply below_alloc | apply pw_below_drewN | apply below_drew1) | exact HB.out)) hb); clear HB; have HB := n0_; clear n0_; (try clear hb); (try clear hb2); (try clear hk); (try clear hi)))
  go_ret
  exact ⟨by first | rfl | (simp [errW_none, errW_some] <;> rfl) | (simp [*, errW_none, errW_some] <;> rfl), by repeat (first | (with_reducible first | exact HB.out | apply below_alloc | apply pw_below_drewN | apply below_drew1) | exact HB.out)⟩
set_option maxHeartbeats 8000000 in
set_option maxRecDepth 100000 in
theorem isa_Size.calls (a0 : Int) (r : Int) (w : World) (h : isa_Size.f a0 = some r) :
    Calls Tryd.prog 22 #[.int .i64 a0] w fun e w' => e = .returned (.int .i64 r) ∧ Below w.heap.size w w' := by
  have HB := Aside0.mk (Below.refl w.heap.size w)
  have H : ((isa_Name.f a0).bind fun t108 => (if t108.toList = ([] : List UInt8) then (some 0) else (if a0 < 43 then (some 2) else (some 4)))) = some r := h
  clear h
  replace H := Option.bind_eq_some_iff.mp H
  obtain ⟨t108, A20, H⟩ := H
  replace H : (if t108.toList = ([] : List UInt8) then (some 0) else (if a0 < 43 then (some 2) else (some 4))) = some r := H
  have A2 := Aside0.mk A20
  clear A20
  by_cases c3 : t108.toList = ([] : List UInt8)
  · rw [if_pos c3] at H
    have c3b0 : (t108.toList == ([] : List UInt8)) = true := beq_iff_eq.mpr c3
    have c3b1 : (t108.toList != ([] : List UInt8)) = false := bne_eq_false_iff_eq.mpr c3
    clear c3
    obtain rfl := Option.some.inj H
    go_enter Tryd.func22, Tryd.ntmps22
    go_wp2_with (first | ((with_reducible refine gate_callee (f := 30) rfl ?_); refine goesL_ (some 5) rfl rfl Tryd.func30 (by kernel_rfl) rfl #[.int .i64 a0] rfl (by (try simp only [List.map_toArray, List.map_cons, List.map_nil]); first | done | rfl | (simp only [List.length_drop, List.length_take]; rfl)) ?_; (with_reducible refine (isa_Name.calls a0 t108 _ A2.out).mono ?_); rintro e w4 ⟨rfl, hb⟩; refine ⟨_, rfl, ?_⟩; have n0_ := Aside0.mk (below_step (by repeat (first | (with_reducible first | exact HB.out | apply below_alloc | apply pw_below_drewN | apply below_drew1) | exact HB.out)) hb); clear HB; have HB := n0_; clear n0_; (try clear hb); (try clear hb2); (try clear hk); (try clear hi)))
    go_ret
    exact ⟨by first | rfl | (simp [errW_none, errW_some] <;> rfl) | (simp [*, errW_none, errW_some] <;> rfl), by repeat (first | (with_reducible first | exact HB.out | apply below_alloc | apply pw_below_drewN | apply below_drew1) | exact HB.out)⟩
  · rw [if_neg c3] at H
    have c3b0 : (t108.toList == ([] : List UInt8)) = false := beq_eq_false_iff_ne.mpr c3
    have c3b1 : (t108.toList != ([] : List UInt8)) = true := bne_iff_ne.mpr c3
    by_cases c5 : a0 < 43
    · rw [if_pos c5] at H
      have c5b0 : decide (a0 < 43) = true := decide_eq_true c5
      clear c5
      obtain rfl := Option.some.inj H
      go_enter Tryd.func22, Tryd.ntmps22
      go_wp2_with (first | ((with_reducible refine gate_callee (f := 30) rfl ?_); refine goesL_ (some 5) rfl rfl Tryd.func30 (by kernel_rfl) rfl #[.int .i64 a0] rfl (by (try simp only [List.map_toArray, List.map_cons, List.map_nil]); first | done | rfl | (simp only [List.length_drop, List.length_take]; rfl)) ?_; (with_reducible refine (isa_Name.calls a0 t108 _ A2.out).mono ?_); rintro e w6 ⟨rfl, hb⟩; refine ⟨_, rfl, ?_⟩; have n0_ := Aside0.mk (below_step (by repeat (first | (with_reducible first | exact HB.out | apply below_alloc | apply pw_below_drewN | apply below_drew1) | exact HB.out)) hb); clear HB; have HB := n0_; clear n0_; (try clear hb); (try clear hb2); (try clear hk); (try clear hi)))
      go_ret
      exact ⟨by first | rfl | (simp [errW_none, errW_some] <;> rfl) | (simp [*, errW_none, errW_some] <;> rfl), by repeat (first | (with_reducible first | exact HB.out | apply below_alloc | apply pw_below_drewN | apply below_drew1) | exact HB.out)⟩
    · rw [if_neg c5] at H
      have c5b0 : decide (a0 < 43) = false := decide_eq_false c5
      clear c5
      obtain rfl := Option.some.inj H
      go_enter Tryd.func22, Tryd.ntmps22
      go_wp2_with (first | ((with_reducible refine gate_callee (f := 30) rfl ?_); refine goesL_ (some 5) rfl rfl Tryd.func30 (by kernel_rfl) rfl #[.int .i64 a0] rfl (by (try simp only [List.map_toArray, List.map_cons, List.map_nil]); first | done | rfl | (simp only [List.length_drop, List.length_take]; rfl)) ?_; (with_reducible refine (isa_Name.calls a0 t108 _ A2.out).mono ?_); rintro e w7 ⟨rfl, hb⟩; refine ⟨_, rfl, ?_⟩; have n0_ := Aside0.mk (below_step (by repeat (first | (with_reducible first | exact HB.out | apply below_alloc | apply pw_below_drewN | apply below_drew1) | exact HB.out)) hb); clear HB; have HB := n0_; clear n0_; (try clear hb); (try clear hb2); (try clear hk); (try clear hi)))
      go_ret
      exact ⟨by first | rfl | (simp [errW_none, errW_some] <;> rfl) | (simp [*, errW_none, errW_some] <;> rfl), by repeat (first | (with_reducible first | exact HB.out | apply below_alloc | apply pw_below_drewN | apply below_drew1) | exact HB.out)⟩
set_option maxHeartbeats 8000000 in
set_option maxRecDepth 100000 in
theorem isa_size.calls (a0 : Int) (r : Int) (w : World) (h : isa_size.f a0 = some r) :
    Calls Tryd.prog 38 #[.int .u8 a0] w fun e w' => e = .returned (.int .i64 r) ∧ Drawn0 w w' := by
  have H : (if (a0 / 16) < 8 then (if (Go.bits .and .u8 (a0 / 16) 1) = 1 then (some 4) else (some 2)) else (some 2)) = some r := h
  clear h
  by_cases c2 : (a0 / 16) < 8
  · rw [if_pos c2] at H
    have c2b0 : decide ((a0 / 16) < 8) = true := decide_eq_true c2
    clear c2
    by_cases c3 : (Go.bits .and .u8 (a0 / 16) 1) = 1
    · rw [if_pos c3] at H
      have c3b0 : ((Go.bits .and .u8 (a0 / 16) 1) == 1) = true := beq_iff_eq.mpr c3
      have c3b1 : ((Go.bits .and .u8 (a0 / 16) 1) != 1) = false := bne_eq_false_iff_eq.mpr c3
      clear c3
      obtain rfl := Option.some.inj H
      go_enter Tryd.func38, Tryd.ntmps38
      go_wp2
      go_ret
      exact ⟨by first | rfl | (simp; done) | (simp [*]; done), by repeat (first | exact Drawn0.refl _ | apply Drawn0.step)⟩
    · rw [if_neg c3] at H
      have c3b0 : ((Go.bits .and .u8 (a0 / 16) 1) == 1) = false := beq_eq_false_iff_ne.mpr c3
      have c3b1 : ((Go.bits .and .u8 (a0 / 16) 1) != 1) = true := bne_iff_ne.mpr c3
      obtain rfl := Option.some.inj H
      go_enter Tryd.func38, Tryd.ntmps38
      go_wp2
      go_ret
      exact ⟨by first | rfl | (simp; done) | (simp [*]; done), by repeat (first | exact Drawn0.refl _ | apply Drawn0.step)⟩
  · rw [if_neg c2] at H
    have c2b0 : decide ((a0 / 16) < 8) = false := decide_eq_false c2
    clear c2
    obtain rfl := Option.some.inj H
    go_enter Tryd.func38, Tryd.ntmps38
    go_wp2
    go_ret
    exact ⟨by first | rfl | (simp; done) | (simp [*]; done), by repeat (first | exact Drawn0.refl _ | apply Drawn0.step)⟩
theorem cntF_le : ∀ (l : List UInt8) (b : Bool), Lib.cntF b l ≤ l.length
  | [], b => by simp [Lib.cntF]
  | c :: l, b => by
    have h1 := cntF_le l true
    have h2 := cntF_le l false
    simp only [Lib.cntF, List.length_cons]
    cases b <;> cases Lib.isSp c <;> simp <;> omega
theorem fields_len (l : List UInt8) : (Lib.fields l).length ≤ l.length + 1 := by
  rw [Lib.fields_length]
  have := cntF_le l true
  omega
theorem strings_Fields.calls (a0 : ByteArray) (r : List ByteArray) (w : World) (hLaid_ : LaidW w) (h : strings_Fields.f a0 = some r) :
    Calls Tryd.prog 55 #[.string a0] w fun e w' => ∃ v0_ : Value, e = .returned (v0_) ∧ Kd.R Kd.string 9 w' w.heap.size (fun _ => True) v0_ r ∧ Below w.heap.size w w' := by
  unfold strings_Fields.f at h
  by_cases h0 : a0.size < 4294967281
  · rw [if_pos h0] at h
    by_cases h1 : a0.data.toList.all (fun b => decide (b.toNat < 128)) = true
    · rw [if_pos h1] at h
      obtain rfl := Option.some.inj h
      clear h
      refine (Tryd.strings_Fields_laid a0 w h0 ?_ hLaid_).mono ?_
      · intro j b hb
        have := List.all_eq_true.1 h1 b (List.mem_of_getElem? hb)
        simpa using this
      · rintro e w' ⟨rfl, rfl⟩
        have hl := fields_len a0.data.toList
        have hs : a0.data.toList.length = a0.size := rfl
        have ho := own_lit_of (enc := Value.string) w w.heap.size 9 (wordsOf a0) (Nat.le_refl _) (by simp only [wordsOf, List.length_map]; omega)
        have e1 : (wordsOf a0).length = (Lib.fields a0.data.toList).length := by simp [wordsOf]
        have e2 : (encs Value.string (wordsOf a0)) = ((Lib.fields a0.data.toList).map fun l => Value.string ⟨l.toArray⟩) := by simp [wordsOf, encs]
        rw [e1, e2] at ho
        exact ⟨_, rfl, ⟨fun _ _ => trivial, (Lib.fields a0.data.toList).map fun l => Value.string ⟨l.toArray⟩, by rw [e1]; exact ho, by rw [← e2]; exact Kd.reps_scalar _⟩, below_alloc (Below.refl _ _) _⟩
    · rw [if_neg h1] at h; cases h
  · rw [if_neg h0] at h; cases h
set_option maxHeartbeats 8000000 in
set_option maxRecDepth 100000 in
theorem isa_row_list.calls (a0_0 : ByteArray) (a0_1 : Int) (a0_2 : ByteArray) (r : List ByteArray) (w : World) (hLaid_ : LaidW w) (h : isa_row_list.f a0_0 a0_1 a0_2 = some r) :
    Calls Tryd.prog 41 #[.agg #[.string a0_0, .int .u32 a0_1, .string a0_2]] w fun e w' => ∃ v0_ : Value, e = .returned (v0_) ∧ Kd.R Kd.string 9 w' w.heap.size (fun _ => True) v0_ r ∧ Below w.heap.size w w' := by
  have hu68 := Tryd.underlying68
  have HB := Aside0.mk (Below.refl w.heap.size w)
  have H : ((strings_Fields.f a0_2).bind fun t113 => (some t113)) = some r := h
  clear h
  replace H := Option.bind_eq_some_iff.mp H
  obtain ⟨t113, A20, H⟩ := H
  replace H : (some t113) = some r := H
  have A2 := Aside0.mk A20
  clear A20
  obtain rfl := Option.some.inj H
  go_enter Tryd.func41, Tryd.ntmps41
  go_wp2_with (first | ((with_reducible refine gate_dst (N := 1) rfl ?_); refine box_event ?hg (N := 1) ?hd (cs := #[.string a0_0, .int .u32 a0_1, .string a0_2]) (t := 68) ?hr ?_; (case hd => rfl); (case hg => rfl); (case hr => first | (go_simp; done) | (go_simp; rfl)); intro gb112 hg w3 hbox hb; have n0_ := Aside0.mk (below_step (by repeat (first | (with_reducible first | exact HB.out | apply below_alloc | apply pw_below_drewN | apply below_drew1) | exact HB.out)) hb); have n1_ := Aside0.mk (hbox); have n2_ := Aside0.mk ((by rw [hg]; exact (below_size (by repeat (first | (with_reducible first | exact HB.out | apply below_alloc | apply pw_below_drewN | apply below_drew1) | exact HB.out))) : w.heap.size ≤ gb112)); have n3_ := Aside0.mk ((by rw [hg]; exact (below_size (by repeat (first | (with_reducible first | exact HB.out | apply below_alloc | apply pw_below_drewN | apply below_drew1) | exact HB.out))) : w.heap.size ≤ gb112)); clear HB; have HB := n0_; have BK112 := n1_; have GW112 := n2_; have GE112 := n3_; clear n0_ n1_ n2_ n3_; clear hb hbox hg; have hcz4_0 : w3.cell? ⟨gb112, 0, none⟩ = some (.string a0_0) := (blk_cell BK112.out 0).trans rfl; have hcz4_1 : w3.cell? ⟨gb112, 1, none⟩ = some (.int .u32 a0_1) := (blk_cell BK112.out 1).trans rfl; have hcz4_2 : w3.cell? ⟨gb112, 2, none⟩ = some (.string a0_2) := (blk_cell BK112.out 2).trans rfl; have hfz4_0 := blk_frozen BK112.out 0; have hfz4_1 := blk_frozen BK112.out 1; have hfz4_2 := blk_frozen BK112.out 2) | ((with_reducible refine gate_callee (f := 55) rfl ?_); refine goesL_ (some 5) rfl rfl Tryd.func55 (by kernel_rfl) rfl #[.string a0_2] rfl (by (try simp only [List.map_toArray, List.map_cons, List.map_nil]); first | done | rfl | (simp only [List.length_drop, List.length_take]; rfl)) ?_; (with_reducible refine (strings_Fields.calls a0_2 t113 _ ?side1 A2.out).mono ?_); (case side1 => exact LaidW.below hLaid_ (by repeat (first | (with_reducible first | exact HB.out | apply below_alloc | apply pw_below_drewN | apply below_drew1 | refine below_set ?_ GE112.out) | exact HB.out))); rintro e w5 ⟨v114, rfl, ho0, hb⟩; refine ⟨_, rfl, ?_⟩; have n0_ := Aside0.mk (Kd.R_lower ho0 (below_size (by repeat (first | (with_reducible first | exact HB.out | apply below_alloc | apply pw_below_drewN | apply below_drew1 | refine below_set ?_ GE112.out) | exact HB.out)))); have n1_ := Aside0.mk (blk_below (g := gb112) (o := .cells #[.string a0_0, .int .u32 a0_1, .string a0_2] 68 (0, 0)) (by (with_reducible repeat (first | refine blk_drewN ?_ _ | refine blk_drew ?_ | refine blk_alloc ?_ _)); exact BK112.out) hb); have n2_ := Aside0.mk (below_step (by repeat (first | (with_reducible first | exact HB.out | apply below_alloc | apply pw_below_drewN | apply below_drew1 | refine below_set ?_ GE112.out) | exact HB.out)) hb); clear BK112; clear HB; have HO115 := n0_; have BK112 := n1_; have HB := n2_; clear n0_ n1_ n2_; (try clear hb); (try clear hb2); (try clear hk); (try clear hi); (try clear ho0)))
  go_ret
  exact ⟨_, by first | rfl | (simp [errW_none, errW_some] <;> rfl) | (simp [*, errW_none, errW_some] <;> rfl), by (with_reducible repeat (first | apply Kd.R_alloc | apply Kd.R_drewN | apply Kd.R_drew)); exact HO115.out, by repeat (first | (with_reducible first | exact HB.out | apply below_alloc | apply pw_below_drewN | apply below_drew1 | refine below_set ?_ GE112.out) | exact HB.out)⟩
set_option maxHeartbeats 8000000 in
set_option maxRecDepth 100000 in
theorem isa_plains.calls (a0 : ByteArray) (r1 : Int) (r2 : Int) (r3 : Int) (r4 : Int) (r5 : Bool) (w : World) (h : isa_plains.f a0 = some (r1, r2, r3, r4, r5)) :
    Calls Tryd.prog 56 #[.string a0] w fun e w' => e = .returned (.tuple #[.agg #[.int .u64 r1, .int .u64 r2, .int .i64 r3, .int .i64 r4], .bool r5]) ∧ Below w.heap.size w w' := by
  have hu82 := Tryd.underlying82
  have HB := Aside0.mk (Below.refl w.heap.size w)
  have H : (if a0.toList = ([85, 53] : List UInt8) then (some (4, 5, 1, 0, true)) else (if a0.toList = ([85, 55] : List UInt8) then (some (4, 7, 1, 0, true)) else (if a0.toList = ([79, 53] : List UInt8) then (some (4, 5, 1, 1, true)) else (if a0.toList = ([77, 49] : List UInt8) then (some (8, 4, 1, 0, true)) else (if a0.toList = ([77, 50] : List UInt8) then (some (8, 4, 2, 0, true)) else (if a0.toList = ([77, 52] : List UInt8) then (some (8, 4, 4, 0, true)) else (if a0.toList = ([79, 49] : List UInt8) then (some (10, 1, 1, 0, true)) else (if a0.toList = ([73, 50] : List UInt8) then (some (8, 2, 1, 0, true)) else (if a0.toList = ([68] : List UInt8) then (some (21, 5, 1, 0, true)) else (if a0.toList = ([65] : List UInt8) then (some (16, 5, 1, 0, true)) else (if a0.toList = ([66] : List UInt8) then (some (11, 5, 1, 0, true)) else (if a0.toList = ([79, 50] : List UInt8) then (some (20, 2, 1, 0, true)) else (if a0.toList = ([73, 52] : List UInt8) then (some (16, 4, 1, 0, true)) else (some (0, 0, 0, 0, false))))))))))))))) = some (r1, r2, r3, r4, r5) := h
  clear h
  by_cases c2 : a0.toList = ([85, 53] : List UInt8)
  · rw [if_pos c2] at H
    have c2b0 : (a0.toList == ([85, 53] : List UInt8)) = true := beq_iff_eq.mpr c2
    have c2b1 : (a0.toList != ([85, 53] : List UInt8)) = false := bne_eq_false_iff_eq.mpr c2
    clear c2
    simp only [Option.some.injEq, Prod.mk.injEq] at H
    obtain ⟨rfl, rfl, rfl, rfl, rfl⟩ := H
    go_enter Tryd.func56, Tryd.ntmps56
    go_wp2_with (first | ((with_reducible refine gate_dst (N := 2) rfl ?_); refine box_event ?hg (N := 2) ?hd (cs := #[.int .u64 0, .int .u64 0, .int .i64 0, .int .i64 0]) (t := 82) ?hr ?_; (case hd => rfl); (case hg => rfl); (case hr => first | (go_simp; done) | (go_simp; rfl)); intro gb116 hg w3 hbox hb; have n0_ := Aside0.mk (below_step (by repeat (first | (with_reducible first | exact HB.out | apply below_alloc | apply pw_below_drewN | apply below_drew1) | exact HB.out)) hb); have n1_ := Aside0.mk (hbox); have n2_ := Aside0.mk ((by rw [hg]; exact (below_size (by repeat (first | (with_reducible first | exact HB.out | apply below_alloc | apply pw_below_drewN | apply below_drew1) | exact HB.out))) : w.heap.size ≤ gb116)); have n3_ := Aside0.mk ((by rw [hg]; exact (below_size (by repeat (first | (with_reducible first | exact HB.out | apply below_alloc | apply pw_below_drewN | apply below_drew1) | exact HB.out))) : w.heap.size ≤ gb116)); clear HB; have HB := n0_; have BK116 := n1_; have GW116 := n2_; have GE116 := n3_; clear n0_ n1_ n2_ n3_; clear hb hbox hg; have hcz4_0 : w3.cell? ⟨gb116, 0, none⟩ = some (.int .u64 0) := (blk_cell BK116.out 0).trans rfl; have hcz4_1 : w3.cell? ⟨gb116, 1, none⟩ = some (.int .u64 0) := (blk_cell BK116.out 1).trans rfl; have hcz4_2 : w3.cell? ⟨gb116, 2, none⟩ = some (.int .i64 0) := (blk_cell BK116.out 2).trans rfl; have hcz4_3 : w3.cell? ⟨gb116, 3, none⟩ = some (.int .i64 0) := (blk_cell BK116.out 3).trans rfl; have hfz4_0 := blk_frozen BK116.out 0; have hfz4_1 := blk_frozen BK116.out 1; have hfz4_2 := blk_frozen BK116.out 2; have hfz4_3 := blk_frozen BK116.out 3))
    refine bodyPost_ret (results_ct rfl _ _ gb116 82 #[.int .u64 4, .int .u64 5, .int .i64 1, .int .i64 0] (0, 0) _ rfl (by (with_reducible repeat (first | refine blk_drewN ?_ _ | refine blk_drew ?_ | refine blk_alloc ?_ _)); refine blk_put (cs := #[.int .u64 4, .int .u64 5, .int .i64 1, .int .i64 0]) ?_ 3 _ rfl; (with_reducible repeat (first | refine blk_drewN ?_ _ | refine blk_drew ?_ | refine blk_alloc ?_ _)); refine blk_put (cs := #[.int .u64 4, .int .u64 5, .int .i64 0, .int .i64 0]) ?_ 2 _ rfl; (with_reducible repeat (first | refine blk_drewN ?_ _ | refine blk_drew ?_ | refine blk_alloc ?_ _)); refine blk_put (cs := #[.int .u64 4, .int .u64 0, .int .i64 0, .int .i64 0]) ?_ 1 _ rfl; (with_reducible repeat (first | refine blk_drewN ?_ _ | refine blk_drew ?_ | refine blk_alloc ?_ _)); refine blk_put (cs := #[.int .u64 0, .int .u64 0, .int .i64 0, .int .i64 0]) ?_ 0 _ rfl; (with_reducible repeat (first | refine blk_drewN ?_ _ | refine blk_drew ?_ | refine blk_alloc ?_ _)); exact BK116.out) Tryd.underlying82 rfl (by kernel_rfl)) rfl ?_
    exact ⟨by first | rfl | (simp [errW_none, errW_some] <;> rfl) | (simp [*, errW_none, errW_some] <;> rfl), by repeat (first | (with_reducible first | exact HB.out | apply below_alloc | apply pw_below_drewN | apply below_drew1 | refine below_set ?_ GE116.out) | exact HB.out)⟩
  · rw [if_neg c2] at H
    have c2b0 : (a0.toList == ([85, 53] : List UInt8)) = false := beq_eq_false_iff_ne.mpr c2
    have c2b1 : (a0.toList != ([85, 53] : List UInt8)) = true := bne_iff_ne.mpr c2
    by_cases c5 : a0.toList = ([85, 55] : List UInt8)
    · rw [if_pos c5] at H
      have c5b0 : (a0.toList == ([85, 55] : List UInt8)) = true := beq_iff_eq.mpr c5
      have c5b1 : (a0.toList != ([85, 55] : List UInt8)) = false := bne_eq_false_iff_eq.mpr c5
      clear c5
      simp only [Option.some.injEq, Prod.mk.injEq] at H
      obtain ⟨rfl, rfl, rfl, rfl, rfl⟩ := H
      go_enter Tryd.func56, Tryd.ntmps56
      go_wp2_with (first | ((with_reducible refine gate_dst (N := 2) rfl ?_); refine box_event ?hg (N := 2) ?hd (cs := #[.int .u64 0, .int .u64 0, .int .i64 0, .int .i64 0]) (t := 82) ?hr ?_; (case hd => rfl); (case hg => rfl); (case hr => first | (go_simp; done) | (go_simp; rfl)); intro gb116 hg w6 hbox hb; have n0_ := Aside0.mk (below_step (by repeat (first | (with_reducible first | exact HB.out | apply below_alloc | apply pw_below_drewN | apply below_drew1) | exact HB.out)) hb); have n1_ := Aside0.mk (hbox); have n2_ := Aside0.mk ((by rw [hg]; exact (below_size (by repeat (first | (with_reducible first | exact HB.out | apply below_alloc | apply pw_below_drewN | apply below_drew1) | exact HB.out))) : w.heap.size ≤ gb116)); have n3_ := Aside0.mk ((by rw [hg]; exact (below_size (by repeat (first | (with_reducible first | exact HB.out | apply below_alloc | apply pw_below_drewN | apply below_drew1) | exact HB.out))) : w.heap.size ≤ gb116)); clear HB; have HB := n0_; have BK116 := n1_; have GW116 := n2_; have GE116 := n3_; clear n0_ n1_ n2_ n3_; clear hb hbox hg; have hcz7_0 : w6.cell? ⟨gb116, 0, none⟩ = some (.int .u64 0) := (blk_cell BK116.out 0).trans rfl; have hcz7_1 : w6.cell? ⟨gb116, 1, none⟩ = some (.int .u64 0) := (blk_cell BK116.out 1).trans rfl; have hcz7_2 : w6.cell? ⟨gb116, 2, none⟩ = some (.int .i64 0) := (blk_cell BK116.out 2).trans rfl; have hcz7_3 : w6.cell? ⟨gb116, 3, none⟩ = some (.int .i64 0) := (blk_cell BK116.out 3).trans rfl; have hfz7_0 := blk_frozen BK116.out 0; have hfz7_1 := blk_frozen BK116.out 1; have hfz7_2 := blk_frozen BK116.out 2; have hfz7_3 := blk_frozen BK116.out 3))
      refine bodyPost_ret (results_ct rfl _ _ gb116 82 #[.int .u64 4, .int .u64 7, .int .i64 1, .int .i64 0] (0, 0) _ rfl (by (with_reducible repeat (first | refine blk_drewN ?_ _ | refine blk_drew ?_ | refine blk_alloc ?_ _)); refine blk_put (cs := #[.int .u64 4, .int .u64 7, .int .i64 1, .int .i64 0]) ?_ 3 _ rfl; (with_reducible repeat (first | refine blk_drewN ?_ _ | refine blk_drew ?_ | refine blk_alloc ?_ _)); refine blk_put (cs := #[.int .u64 4, .int .u64 7, .int .i64 0, .int .i64 0]) ?_ 2 _ rfl; (with_reducible repeat (first | refine blk_drewN ?_ _ | refine blk_drew ?_ | refine blk_alloc ?_ _)); refine blk_put (cs := #[.int .u64 4, .int .u64 0, .int .i64 0, .int .i64 0]) ?_ 1 _ rfl; (with_reducible repeat (first | refine blk_drewN ?_ _ | refine blk_drew ?_ | refine blk_alloc ?_ _)); refine blk_put (cs := #[.int .u64 0, .int .u64 0, .int .i64 0, .int .i64 0]) ?_ 0 _ rfl; (with_reducible repeat (first | refine blk_drewN ?_ _ | refine blk_drew ?_ | refine blk_alloc ?_ _)); exact BK116.out) Tryd.underlying82 rfl (by kernel_rfl)) rfl ?_
      exact ⟨by first | rfl | (simp [errW_none, errW_some] <;> rfl) | (simp [*, errW_none, errW_some] <;> rfl), by repeat (first | (with_reducible first | exact HB.out | apply below_alloc | apply pw_below_drewN | apply below_drew1 | refine below_set ?_ GE116.out) | exact HB.out)⟩
    · rw [if_neg c5] at H
      have c5b0 : (a0.toList == ([85, 55] : List UInt8)) = false := beq_eq_false_iff_ne.mpr c5
      have c5b1 : (a0.toList != ([85, 55] : List UInt8)) = true := bne_iff_ne.mpr c5
      by_cases c8 : a0.toList = ([79, 53] : List UInt8)
      · rw [if_pos c8] at H
        have c8b0 : (a0.toList == ([79, 53] : List UInt8)) = true := beq_iff_eq.mpr c8
        have c8b1 : (a0.toList != ([79, 53] : List UInt8)) = false := bne_eq_false_iff_eq.mpr c8
        clear c8
        simp only [Option.some.injEq, Prod.mk.injEq] at H
        obtain ⟨rfl, rfl, rfl, rfl, rfl⟩ := H
        go_enter Tryd.func56, Tryd.ntmps56
        go_wp2_with (first | ((with_reducible refine gate_dst (N := 2) rfl ?_); refine box_event ?hg (N := 2) ?hd (cs := #[.int .u64 0, .int .u64 0, .int .i64 0, .int .i64 0]) (t := 82) ?hr ?_; (case hd => rfl); (case hg => rfl); (case hr => first | (go_simp; done) | (go_simp; rfl)); intro gb116 hg w9 hbox hb; have n0_ := Aside0.mk (below_step (by repeat (first | (with_reducible first | exact HB.out | apply below_alloc | apply pw_below_drewN | apply below_drew1) | exact HB.out)) hb); have n1_ := Aside0.mk (hbox); have n2_ := Aside0.mk ((by rw [hg]; exact (below_size (by repeat (first | (with_reducible first | exact HB.out | apply below_alloc | apply pw_below_drewN | apply below_drew1) | exact HB.out))) : w.heap.size ≤ gb116)); have n3_ := Aside0.mk ((by rw [hg]; exact (below_size (by repeat (first | (with_reducible first | exact HB.out | apply below_alloc | apply pw_below_drewN | apply below_drew1) | exact HB.out))) : w.heap.size ≤ gb116)); clear HB; have HB := n0_; have BK116 := n1_; have GW116 := n2_; have GE116 := n3_; clear n0_ n1_ n2_ n3_; clear hb hbox hg; have hcz10_0 : w9.cell? ⟨gb116, 0, none⟩ = some (.int .u64 0) := (blk_cell BK116.out 0).trans rfl; have hcz10_1 : w9.cell? ⟨gb116, 1, none⟩ = some (.int .u64 0) := (blk_cell BK116.out 1).trans rfl; have hcz10_2 : w9.cell? ⟨gb116, 2, none⟩ = some (.int .i64 0) := (blk_cell BK116.out 2).trans rfl; have hcz10_3 : w9.cell? ⟨gb116, 3, none⟩ = some (.int .i64 0) := (blk_cell BK116.out 3).trans rfl; have hfz10_0 := blk_frozen BK116.out 0; have hfz10_1 := blk_frozen BK116.out 1; have hfz10_2 := blk_frozen BK116.out 2; have hfz10_3 := blk_frozen BK116.out 3))
        refine bodyPost_ret (results_ct rfl _ _ gb116 82 #[.int .u64 4, .int .u64 5, .int .i64 1, .int .i64 1] (0, 0) _ rfl (by (with_reducible repeat (first | refine blk_drewN ?_ _ | refine blk_drew ?_ | refine blk_alloc ?_ _)); refine blk_put (cs := #[.int .u64 4, .int .u64 5, .int .i64 1, .int .i64 0]) ?_ 3 _ rfl; (with_reducible repeat (first | refine blk_drewN ?_ _ | refine blk_drew ?_ | refine blk_alloc ?_ _)); refine blk_put (cs := #[.int .u64 4, .int .u64 5, .int .i64 0, .int .i64 0]) ?_ 2 _ rfl; (with_reducible repeat (first | refine blk_drewN ?_ _ | refine blk_drew ?_ | refine blk_alloc ?_ _)); refine blk_put (cs := #[.int .u64 4, .int .u64 0, .int .i64 0, .int .i64 0]) ?_ 1 _ rfl; (with_reducible repeat (first | refine blk_drewN ?_ _ | refine blk_drew ?_ | refine blk_alloc ?_ _)); refine blk_put (cs := #[.int .u64 0, .int .u64 0, .int .i64 0, .int .i64 0]) ?_ 0 _ rfl; (with_reducible repeat (first | refine blk_drewN ?_ _ | refine blk_drew ?_ | refine blk_alloc ?_ _)); exact BK116.out) Tryd.underlying82 rfl (by kernel_rfl)) rfl ?_
        exact ⟨by first | rfl | (simp [errW_none, errW_some] <;> rfl) | (simp [*, errW_none, errW_some] <;> rfl), by repeat (first | (with_reducible first | exact HB.out | apply below_alloc | apply pw_below_drewN | apply below_drew1 | refine below_set ?_ GE116.out) | exact HB.out)⟩
      · rw [if_neg c8] at H
        have c8b0 : (a0.toList == ([79, 53] : List UInt8)) = false := beq_eq_false_iff_ne.mpr c8
        have c8b1 : (a0.toList != ([79, 53] : List UInt8)) = true := bne_iff_ne.mpr c8
        by_cases c11 : a0.toList = ([77, 49] : List UInt8)
        · rw [if_pos c11] at H
          have c11b0 : (a0.toList == ([77, 49] : List UInt8)) = true := beq_iff_eq.mpr c11
          have c11b1 : (a0.toList != ([77, 49] : List UInt8)) = false := bne_eq_false_iff_eq.mpr c11
          clear c11
          simp only [Option.some.injEq, Prod.mk.injEq] at H
          obtain ⟨rfl, rfl, rfl, rfl, rfl⟩ := H
          go_enter Tryd.func56, Tryd.ntmps56
          go_wp2_with (first | ((with_reducible refine gate_dst (N := 2) rfl ?_); refine box_event ?hg (N := 2) ?hd (cs := #[.int .u64 0, .int .u64 0, .int .i64 0, .int .i64 0]) (t := 82) ?hr ?_; (case hd => rfl); (case hg => rfl); (case hr => first | (go_simp; done) | (go_simp; rfl)); intro gb116 hg w12 hbox hb; have n0_ := Aside0.mk (below_step (by repeat (first | (with_reducible first | exact HB.out | apply below_alloc | apply pw_below_drewN | apply below_drew1) | exact HB.out)) hb); have n1_ := Aside0.mk (hbox); have n2_ := Aside0.mk ((by rw [hg]; exact (below_size (by repeat (first | (with_reducible first | exact HB.out | apply below_alloc | apply pw_below_drewN | apply below_drew1) | exact HB.out))) : w.heap.size ≤ gb116)); have n3_ := Aside0.mk ((by rw [hg]; exact (below_size (by repeat (first | (with_reducible first | exact HB.out | apply below_alloc | apply pw_below_drewN | apply below_drew1) | exact HB.out))) : w.heap.size ≤ gb116)); clear HB; have HB := n0_; have BK116 := n1_; have GW116 := n2_; have GE116 := n3_; clear n0_ n1_ n2_ n3_; clear hb hbox hg; have hcz13_0 : w12.cell? ⟨gb116, 0, none⟩ = some (.int .u64 0) := (blk_cell BK116.out 0).trans rfl; have hcz13_1 : w12.cell? ⟨gb116, 1, none⟩ = some (.int .u64 0) := (blk_cell BK116.out 1).trans rfl; have hcz13_2 : w12.cell? ⟨gb116, 2, none⟩ = some (.int .i64 0) := (blk_cell BK116.out 2).trans rfl; have hcz13_3 : w12.cell? ⟨gb116, 3, none⟩ = some (.int .i64 0) := (blk_cell BK116.out 3).trans rfl; have hfz13_0 := blk_frozen BK116.out 0; have hfz13_1 := blk_frozen BK116.out 1; have hfz13_2 := blk_frozen BK116.out 2; have hfz13_3 := blk_frozen BK116.out 3))
          refine bodyPost_ret (results_ct rfl _ _ gb116 82 #[.int .u64 8, .int .u64 4, .int .i64 1, .int .i64 0] (0, 0) _ rfl (by (with_reducible repeat (first | refine blk_drewN ?_ _ | refine blk_drew ?_ | refine blk_alloc ?_ _)); refine blk_put (cs := #[.int .u64 8, .int .u64 4, .int .i64 1, .int .i64 0]) ?_ 3 _ rfl; (with_reducible repeat (first | refine blk_drewN ?_ _ | refine blk_drew ?_ | refine blk_alloc ?_ _)); refine blk_put (cs := #[.int .u64 8, .int .u64 4, .int .i64 0, .int .i64 0]) ?_ 2 _ rfl; (with_reducible repeat (first | refine blk_drewN ?_ _ | refine blk_drew ?_ | refine blk_alloc ?_ _)); refine blk_put (cs := #[.int .u64 8, .int .u64 0, .int .i64 0, .int .i64 0]) ?_ 1 _ rfl; (with_reducible repeat (first | refine blk_drewN ?_ _ | refine blk_drew ?_ | refine blk_alloc ?_ _)); refine blk_put (cs := #[.int .u64 0, .int .u64 0, .int .i64 0, .int .i64 0]) ?_ 0 _ rfl; (with_reducible repeat (first | refine blk_drewN ?_ _ | refine blk_drew ?_ | refine blk_alloc ?_ _)); exact BK116.out) Tryd.underlying82 rfl (by kernel_rfl)) rfl ?_
          exact ⟨by first | rfl | (simp [errW_none, errW_some] <;> rfl) | (simp [*, errW_none, errW_some] <;> rfl), by repeat (first | (with_reducible first | exact HB.out | apply below_alloc | apply pw_below_drewN | apply below_drew1 | refine below_set ?_ GE116.out) | exact HB.out)⟩
        · rw [if_neg c11] at H
          have c11b0 : (a0.toList == ([77, 49] : List UInt8)) = false := beq_eq_false_iff_ne.mpr c11
          have c11b1 : (a0.toList != ([77, 49] : List UInt8)) = true := bne_iff_ne.mpr c11
          by_cases c14 : a0.toList = ([77, 50] : List UInt8)
          · rw [if_pos c14] at H
            have c14b0 : (a0.toList == ([77, 50] : List UInt8)) = true := beq_iff_eq.mpr c14
            have c14b1 : (a0.toList != ([77, 50] : List UInt8)) = false := bne_eq_false_iff_eq.mpr c14
            clear c14
            simp only [Option.some.injEq, Prod.mk.injEq] at H
            obtain ⟨rfl, rfl, rfl, rfl, rfl⟩ := H
            go_enter Tryd.func56, Tryd.ntmps56
            go_wp2_with (first | ((with_reducible refine gate_dst (N := 2) rfl ?_); refine box_event ?hg (N := 2) ?hd (cs := #[.int .u64 0, .int .u64 0, .int .i64 0, .int .i64 0]) (t := 82) ?hr ?_; (case hd => rfl); (case hg => rfl); (case hr => first | (go_simp; done) | (go_simp; rfl)); intro gb116 hg w15 hbox hb; have n0_ := Aside0.mk (below_step (by repeat (first | (with_reducible first | exact HB.out | apply below_alloc | apply pw_below_drewN | apply below_drew1) | exact HB.out)) hb); have n1_ := Aside0.mk (hbox); have n2_ := Aside0.mk ((by rw [hg]; exact (below_size (by repeat (first | (with_reducible first | exact HB.out | apply below_alloc | apply pw_below_drewN | apply below_drew1) | exact HB.out))) : w.heap.size ≤ gb116)); have n3_ := Aside0.mk ((by rw [hg]; exact (below_size (by repeat (first | (with_reducible first | exact HB.out | apply below_alloc | apply pw_below_drewN | apply below_drew1) | exact HB.out))) : w.heap.size ≤ gb116)); clear HB; have HB := n0_; have BK116 := n1_; have GW116 := n2_; have GE116 := n3_; clear n0_ n1_ n2_ n3_; clear hb hbox hg; have hcz16_0 : w15.cell? ⟨gb116, 0, none⟩ = some (.int .u64 0) := (blk_cell BK116.out 0).trans rfl; have hcz16_1 : w15.cell? ⟨gb116, 1, none⟩ = some (.int .u64 0) := (blk_cell BK116.out 1).trans rfl; have hcz16_2 : w15.cell? ⟨gb116, 2, none⟩ = some (.int .i64 0) := (blk_cell BK116.out 2).trans rfl; have hcz16_3 : w15.cell? ⟨gb116, 3, none⟩ = some (.int .i64 0) := (blk_cell BK116.out 3).trans rfl; have hfz16_0 := blk_frozen BK116.out 0; have hfz16_1 := blk_frozen BK116.out 1; have hfz16_2 := blk_frozen BK116.out 2; have hfz16_3 := blk_frozen BK116.out 3))
            refine bodyPost_ret (results_ct rfl _ _ gb116 82 #[.int .u64 8, .int .u64 4, .int .i64 2, .int .i64 0] (0, 0) _ rfl (by (with_reducible repeat (first | refine blk_drewN ?_ _ | refine blk_drew ?_ | refine blk_alloc ?_ _)); refine blk_put (cs := #[.int .u64 8, .int .u64 4, .int .i64 2, .int .i64 0]) ?_ 3 _ rfl; (with_reducible repeat (first | refine blk_drewN ?_ _ | refine blk_drew ?_ | refine blk_alloc ?_ _)); refine blk_put (cs := #[.int .u64 8, .int .u64 4, .int .i64 0, .int .i64 0]) ?_ 2 _ rfl; (with_reducible repeat (first | refine blk_drewN ?_ _ | refine blk_drew ?_ | refine blk_alloc ?_ _)); refine blk_put (cs := #[.int .u64 8, .int .u64 0, .int .i64 0, .int .i64 0]) ?_ 1 _ rfl; (with_reducible repeat (first | refine blk_drewN ?_ _ | refine blk_drew ?_ | refine blk_alloc ?_ _)); refine blk_put (cs := #[.int .u64 0, .int .u64 0, .int .i64 0, .int .i64 0]) ?_ 0 _ rfl; (with_reducible repeat (first | refine blk_drewN ?_ _ | refine blk_drew ?_ | refine blk_alloc ?_ _)); exact BK116.out) Tryd.underlying82 rfl (by kernel_rfl)) rfl ?_
            exact ⟨by first | rfl | (simp [errW_none, errW_some] <;> rfl) | (simp [*, errW_none, errW_some] <;> rfl), by repeat (first | (with_reducible first | exact HB.out | apply below_alloc | apply pw_below_drewN | apply below_drew1 | refine below_set ?_ GE116.out) | exact HB.out)⟩
          · rw [if_neg c14] at H
            have c14b0 : (a0.toList == ([77, 50] : List UInt8)) = false := beq_eq_false_iff_ne.mpr c14
            have c14b1 : (a0.toList != ([77, 50] : List UInt8)) = true := bne_iff_ne.mpr c14
            by_cases c17 : a0.toList = ([77, 52] : List UInt8)
            · rw [if_pos c17] at H
              have c17b0 : (a0.toList == ([77, 52] : List UInt8)) = true := beq_iff_eq.mpr c17
              have c17b1 : (a0.toList != ([77, 52] : List UInt8)) = false := bne_eq_false_iff_eq.mpr c17
              clear c17
              simp only [Option.some.injEq, Prod.mk.injEq] at H
              obtain ⟨rfl, rfl, rfl, rfl, rfl⟩ := H
              go_enter Tryd.func56, Tryd.ntmps56
              go_wp2_with (first | ((with_reducible refine gate_dst (N := 2) rfl ?_); refine box_event ?hg (N := 2) ?hd (cs := #[.int .u64 0, .int .u64 0, .int .i64 0, .int .i64 0]) (t := 82) ?hr ?_; (case hd => rfl); (case hg => rfl); (case hr => first | (go_simp; done) | (go_simp; rfl)); intro gb116 hg w18 hbox hb; have n0_ := Aside0.mk (below_step (by repeat (first | (with_reducible first | exact HB.out | apply below_alloc | apply pw_below_drewN | apply below_drew1) | exact HB.out)) hb); have n1_ := Aside0.mk (hbox); have n2_ := Aside0.mk ((by rw [hg]; exact (below_size (by repeat (first | (with_reducible first | exact HB.out | apply below_alloc | apply pw_below_drewN | apply below_drew1) | exact HB.out))) : w.heap.size ≤ gb116)); have n3_ := Aside0.mk ((by rw [hg]; exact (below_size (by repeat (first | (with_reducible first | exact HB.out | apply below_alloc | apply pw_below_drewN | apply below_drew1) | exact HB.out))) : w.heap.size ≤ gb116)); clear HB; have HB := n0_; have BK116 := n1_; have GW116 := n2_; have GE116 := n3_; clear n0_ n1_ n2_ n3_; clear hb hbox hg; have hcz19_0 : w18.cell? ⟨gb116, 0, none⟩ = some (.int .u64 0) := (blk_cell BK116.out 0).trans rfl; have hcz19_1 : w18.cell? ⟨gb116, 1, none⟩ = some (.int .u64 0) := (blk_cell BK116.out 1).trans rfl; have hcz19_2 : w18.cell? ⟨gb116, 2, none⟩ = some (.int .i64 0) := (blk_cell BK116.out 2).trans rfl; have hcz19_3 : w18.cell? ⟨gb116, 3, none⟩ = some (.int .i64 0) := (blk_cell BK116.out 3).trans rfl; have hfz19_0 := blk_frozen BK116.out 0; have hfz19_1 := blk_frozen BK116.out 1; have hfz19_2 := blk_frozen BK116.out 2; have hfz19_3 := blk_frozen BK116.out 3))
              refine bodyPost_ret (results_ct rfl _ _ gb116 82 #[.int .u64 8, .int .u64 4, .int .i64 4, .int .i64 0] (0, 0) _ rfl (by (with_reducible repeat (first | refine blk_drewN ?_ _ | refine blk_drew ?_ | refine blk_alloc ?_ _)); refine blk_put (cs := #[.int .u64 8, .int .u64 4, .int .i64 4, .int .i64 0]) ?_ 3 _ rfl; (with_reducible repeat (first | refine blk_drewN ?_ _ | refine blk_drew ?_ | refine blk_alloc ?_ _)); refine blk_put (cs := #[.int .u64 8, .int .u64 4, .int .i64 0, .int .i64 0]) ?_ 2 _ rfl; (with_reducible repeat (first | refine blk_drewN ?_ _ | refine blk_drew ?_ | refine blk_alloc ?_ _)); refine blk_put (cs := #[.int .u64 8, .int .u64 0, .int .i64 0, .int .i64 0]) ?_ 1 _ rfl; (with_reducible repeat (first | refine blk_drewN ?_ _ | refine blk_drew ?_ | refine blk_alloc ?_ _)); refine blk_put (cs := #[.int .u64 0, .int .u64 0, .int .i64 0, .int .i64 0]) ?_ 0 _ rfl; (with_reducible repeat (first | refine blk_drewN ?_ _ | refine blk_drew ?_ | refine blk_alloc ?_ _)); exact BK116.out) Tryd.underlying82 rfl (by kernel_rfl)) rfl ?_
              exact ⟨by first | rfl | (simp [errW_none, errW_some] <;> rfl) | (simp [*, errW_none, errW_some] <;> rfl), by repeat (first | (with_reducible first | exact HB.out | apply below_alloc | apply pw_below_drewN | apply below_drew1 | refine below_set ?_ GE116.out) | exact HB.out)⟩
            · rw [if_neg c17] at H
              have c17b0 : (a0.toList == ([77, 52] : List UInt8)) = false := beq_eq_false_iff_ne.mpr c17
              have c17b1 : (a0.toList != ([77, 52] : List UInt8)) = true := bne_iff_ne.mpr c17
              by_cases c20 : a0.toList = ([79, 49] : List UInt8)
              · rw [if_pos c20] at H
                have c20b0 : (a0.toList == ([79, 49] : List UInt8)) = true := beq_iff_eq.mpr c20
                have c20b1 : (a0.toList != ([79, 49] : List UInt8)) = false := bne_eq_false_iff_eq.mpr c20
                clear c20
                simp only [Option.some.injEq, Prod.mk.injEq] at H
                obtain ⟨rfl, rfl, rfl, rfl, rfl⟩ := H
                go_enter Tryd.func56, Tryd.ntmps56
                go_wp2_with (first | ((with_reducible refine gate_dst (N := 2) rfl ?_); refine box_event ?hg (N := 2) ?hd (cs := #[.int .u64 0, .int .u64 0, .int .i64 0, .int .i64 0]) (t := 82) ?hr ?_; (case hd => rfl); (case hg => rfl); (case hr => first | (go_simp; done) | (go_simp; rfl)); intro gb116 hg w21 hbox hb; have n0_ := Aside0.mk (below_step (by repeat (first | (with_reducible first | exact HB.out | apply below_alloc | apply pw_below_drewN | apply below_drew1) | exact HB.out)) hb); have n1_ := Aside0.mk (hbox); have n2_ := Aside0.mk ((by rw [hg]; exact (below_size (by repeat (first | (with_reducible first | exact HB.out | apply below_alloc | apply pw_below_drewN | apply below_drew1) | exact HB.out))) : w.heap.size ≤ gb116)); have n3_ := Aside0.mk ((by rw [hg]; exact (below_size (by repeat (first | (with_reducible first | exact HB.out | apply below_alloc | apply pw_below_drewN | apply below_drew1) | exact HB.out))) : w.heap.size ≤ gb116)); clear HB; have HB := n0_; have BK116 := n1_; have GW116 := n2_; have GE116 := n3_; clear n0_ n1_ n2_ n3_; clear hb hbox hg; have hcz22_0 : w21.cell? ⟨gb116, 0, none⟩ = some (.int .u64 0) := (blk_cell BK116.out 0).trans rfl; have hcz22_1 : w21.cell? ⟨gb116, 1, none⟩ = some (.int .u64 0) := (blk_cell BK116.out 1).trans rfl; have hcz22_2 : w21.cell? ⟨gb116, 2, none⟩ = some (.int .i64 0) := (blk_cell BK116.out 2).trans rfl; have hcz22_3 : w21.cell? ⟨gb116, 3, none⟩ = some (.int .i64 0) := (blk_cell BK116.out 3).trans rfl; have hfz22_0 := blk_frozen BK116.out 0; have hfz22_1 := blk_frozen BK116.out 1; have hfz22_2 := blk_frozen BK116.out 2; have hfz22_3 := blk_frozen BK116.out 3))
                refine bodyPost_ret (results_ct rfl _ _ gb116 82 #[.int .u64 10, .int .u64 1, .int .i64 1, .int .i64 0] (0, 0) _ rfl (by (with_reducible repeat (first | refine blk_drewN ?_ _ | refine blk_drew ?_ | refine blk_alloc ?_ _)); refine blk_put (cs := #[.int .u64 10, .int .u64 1, .int .i64 1, .int .i64 0]) ?_ 3 _ rfl; (with_reducible repeat (first | refine blk_drewN ?_ _ | refine blk_drew ?_ | refine blk_alloc ?_ _)); refine blk_put (cs := #[.int .u64 10, .int .u64 1, .int .i64 0, .int .i64 0]) ?_ 2 _ rfl; (with_reducible repeat (first | refine blk_drewN ?_ _ | refine blk_drew ?_ | refine blk_alloc ?_ _)); refine blk_put (cs := #[.int .u64 10, .int .u64 0, .int .i64 0, .int .i64 0]) ?_ 1 _ rfl; (with_reducible repeat (first | refine blk_drewN ?_ _ | refine blk_drew ?_ | refine blk_alloc ?_ _)); refine blk_put (cs := #[.int .u64 0, .int .u64 0, .int .i64 0, .int .i64 0]) ?_ 0 _ rfl; (with_reducible repeat (first | refine blk_drewN ?_ _ | refine blk_drew ?_ | refine blk_alloc ?_ _)); exact BK116.out) Tryd.underlying82 rfl (by kernel_rfl)) rfl ?_
                exact ⟨by first | rfl | (simp [errW_none, errW_some] <;> rfl) | (simp [*, errW_none, errW_some] <;> rfl), by repeat (first | (with_reducible first | exact HB.out | apply below_alloc | apply pw_below_drewN | apply below_drew1 | refine below_set ?_ GE116.out) | exact HB.out)⟩
              · rw [if_neg c20] at H
                have c20b0 : (a0.toList == ([79, 49] : List UInt8)) = false := beq_eq_false_iff_ne.mpr c20
                have c20b1 : (a0.toList != ([79, 49] : List UInt8)) = true := bne_iff_ne.mpr c20
                by_cases c23 : a0.toList = ([73, 50] : List UInt8)
                · rw [if_pos c23] at H
                  have c23b0 : (a0.toList == ([73, 50] : List UInt8)) = true := beq_iff_eq.mpr c23
                  have c23b1 : (a0.toList != ([73, 50] : List UInt8)) = false := bne_eq_false_iff_eq.mpr c23
                  clear c23
                  simp only [Option.some.injEq, Prod.mk.injEq] at H
                  obtain ⟨rfl, rfl, rfl, rfl, rfl⟩ := H
                  go_enter Tryd.func56, Tryd.ntmps56
                  go_wp2_with (first | ((with_reducible refine gate_dst (N := 2) rfl ?_); refine box_event ?hg (N := 2) ?hd (cs := #[.int .u64 0, .int .u64 0, .int .i64 0, .int .i64 0]) (t := 82) ?hr ?_; (case hd => rfl); (case hg => rfl); (case hr => first | (go_simp; done) | (go_simp; rfl)); intro gb116 hg w24 hbox hb; have n0_ := Aside0.mk (below_step (by repeat (first | (with_reducible first | exact HB.out | apply below_alloc | apply pw_below_drewN | apply below_drew1) | exact HB.out)) hb); have n1_ := Aside0.mk (hbox); have n2_ := Aside0.mk ((by rw [hg]; exact (below_size (by repeat (first | (with_reducible first | exact HB.out | apply below_alloc | apply pw_below_drewN | apply below_drew1) | exact HB.out))) : w.heap.size ≤ gb116)); have n3_ := Aside0.mk ((by rw [hg]; exact (below_size (by repeat (first | (with_reducible first | exact HB.out | apply below_alloc | apply pw_below_drewN | apply below_drew1) | exact HB.out))) : w.heap.size ≤ gb116)); clear HB; have HB := n0_; have BK116 := n1_; have GW116 := n2_; have GE116 := n3_; clear n0_ n1_ n2_ n3_; clear hb hbox hg; have hcz25_0 : w24.cell? ⟨gb116, 0, none⟩ = some (.int .u64 0) := (blk_cell BK116.out 0).trans rfl; have hcz25_1 : w24.cell? ⟨gb116, 1, none⟩ = some (.int .u64 0) := (blk_cell BK116.out 1).trans rfl; have hcz25_2 : w24.cell? ⟨gb116, 2, none⟩ = some (.int .i64 0) := (blk_cell BK116.out 2).trans rfl; have hcz25_3 : w24.cell? ⟨gb116, 3, none⟩ = some (.int .i64 0) := (blk_cell BK116.out 3).trans rfl; have hfz25_0 := blk_frozen BK116.out 0; have hfz25_1 := blk_frozen BK116.out 1; have hfz25_2 := blk_frozen BK116.out 2; have hfz25_3 := blk_frozen BK116.out 3))
                  refine bodyPost_ret (results_ct rfl _ _ gb116 82 #[.int .u64 8, .int .u64 2, .int .i64 1, .int .i64 0] (0, 0) _ rfl (by (with_reducible repeat (first | refine blk_drewN ?_ _ | refine blk_drew ?_ | refine blk_alloc ?_ _)); refine blk_put (cs := #[.int .u64 8, .int .u64 2, .int .i64 1, .int .i64 0]) ?_ 3 _ rfl; (with_reducible repeat (first | refine blk_drewN ?_ _ | refine blk_drew ?_ | refine blk_alloc ?_ _)); refine blk_put (cs := #[.int .u64 8, .int .u64 2, .int .i64 0, .int .i64 0]) ?_ 2 _ rfl; (with_reducible repeat (first | refine blk_drewN ?_ _ | refine blk_drew ?_ | refine blk_alloc ?_ _)); refine blk_put (cs := #[.int .u64 8, .int .u64 0, .int .i64 0, .int .i64 0]) ?_ 1 _ rfl; (with_reducible repeat (first | refine blk_drewN ?_ _ | refine blk_drew ?_ | refine blk_alloc ?_ _)); refine blk_put (cs := #[.int .u64 0, .int .u64 0, .int .i64 0, .int .i64 0]) ?_ 0 _ rfl; (with_reducible repeat (first | refine blk_drewN ?_ _ | refine blk_drew ?_ | refine blk_alloc ?_ _)); exact BK116.out) Tryd.underlying82 rfl (by kernel_rfl)) rfl ?_
                  exact ⟨by first | rfl | (simp [errW_none, errW_some] <;> rfl) | (simp [*, errW_none, errW_some] <;> rfl), by repeat (first | (with_reducible first | exact HB.out | apply below_alloc | apply pw_below_drewN | apply below_drew1 | refine below_set ?_ GE116.out) | exact HB.out)⟩
                · rw [if_neg c23] at H
                  have c23b0 : (a0.toList == ([73, 50] : List UInt8)) = false := beq_eq_false_iff_ne.mpr c23
                  have c23b1 : (a0.toList != ([73, 50] : List UInt8)) = true := bne_iff_ne.mpr c23
                  by_cases c26 : a0.toList = ([68] : List UInt8)
                  · rw [if_pos c26] at H
                    have c26b0 : (a0.toList == ([68] : List UInt8)) = true := beq_iff_eq.mpr c26
                    have c26b1 : (a0.toList != ([68] : List UInt8)) = false := bne_eq_false_iff_eq.mpr c26
                    clear c26
                    simp only [Option.some.injEq, Prod.mk.injEq] at H
                    obtain ⟨rfl, rfl, rfl, rfl, rfl⟩ := H
                    go_enter Tryd.func56, Tryd.ntmps56
                    go_wp2_with (first | ((with_reducible refine gate_dst (N := 2) rfl ?_); refine box_event ?hg (N := 2) ?hd (cs := #[.int .u64 0, .int .u64 0, .int .i64 0, .int .i64 0]) (t := 82) ?hr ?_; (case hd => rfl); (case hg => rfl); (case hr => first | (go_simp; done) | (go_simp; rfl)); intro gb116 hg w27 hbox hb; have n0_ := Aside0.mk (below_step (by repeat (first | (with_reducible first | exact HB.out | apply below_alloc | apply pw_below_drewN | apply below_drew1) | exact HB.out)) hb); have n1_ := Aside0.mk (hbox); have n2_ := Aside0.mk ((by rw [hg]; exact (below_size (by repeat (first | (with_reducible first | exact HB.out | apply below_alloc | apply pw_below_drewN | apply below_drew1) | exact HB.out))) : w.heap.size ≤ gb116)); have n3_ := Aside0.mk ((by rw [hg]; exact (below_size (by repeat (first | (with_reducible first | exact HB.out | apply below_alloc | apply pw_below_drewN | apply below_drew1) | exact HB.out))) : w.heap.size ≤ gb116)); clear HB; have HB := n0_; have BK116 := n1_; have GW116 := n2_; have GE116 := n3_; clear n0_ n1_ n2_ n3_; clear hb hbox hg; have hcz28_0 : w27.cell? ⟨gb116, 0, none⟩ = some (.int .u64 0) := (blk_cell BK116.out 0).trans rfl; have hcz28_1 : w27.cell? ⟨gb116, 1, none⟩ = some (.int .u64 0) := (blk_cell BK116.out 1).trans rfl; have hcz28_2 : w27.cell? ⟨gb116, 2, none⟩ = some (.int .i64 0) := (blk_cell BK116.out 2).trans rfl; have hcz28_3 : w27.cell? ⟨gb116, 3, none⟩ = some (.int .i64 0) := (blk_cell BK116.out 3).trans rfl; have hfz28_0 := blk_frozen BK116.out 0; have hfz28_1 := blk_frozen BK116.out 1; have hfz28_2 := blk_frozen BK116.out 2; have hfz28_3 := blk_frozen BK116.out 3))
                    refine bodyPost_ret (results_ct rfl _ _ gb116 82 #[.int .u64 21, .int .u64 5, .int .i64 1, .int .i64 0] (0, 0) _ rfl (by (with_reducible repeat (first | refine blk_drewN ?_ _ | refine blk_drew ?_ | refine blk_alloc ?_ _)); refine blk_put (cs := #[.int .u64 21, .int .u64 5, .int .i64 1, .int .i64 0]) ?_ 3 _ rfl; (with_reducible repeat (first | refine blk_drewN ?_ _ | refine blk_drew ?_ | refine blk_alloc ?_ _)); refine blk_put (cs := #[.int .u64 21, .int .u64 5, .int .i64 0, .int .i64 0]) ?_ 2 _ rfl; (with_reducible repeat (first | refine blk_drewN ?_ _ | refine blk_drew ?_ | refine blk_alloc ?_ _)); refine blk_put (cs := #[.int .u64 21, .int .u64 0, .int .i64 0, .int .i64 0]) ?_ 1 _ rfl; (with_reducible repeat (first | refine blk_drewN ?_ _ | refine blk_drew ?_ | refine blk_alloc ?_ _)); refine blk_put (cs := #[.int .u64 0, .int .u64 0, .int .i64 0, .int .i64 0]) ?_ 0 _ rfl; (with_reducible repeat (first | refine blk_drewN ?_ _ | refine blk_drew ?_ | refine blk_alloc ?_ _)); exact BK116.out) Tryd.underlying82 rfl (by kernel_rfl)) rfl ?_
                    exact ⟨by first | rfl | (simp [errW_none, errW_some] <;> rfl) | (simp [*, errW_none, errW_some] <;> rfl), by repeat (first | (with_reducible first | exact HB.out | apply below_alloc | apply pw_below_drewN | apply below_drew1 | refine below_set ?_ GE116.out) | exact HB.out)⟩
                  · rw [if_neg c26] at H
                    have c26b0 : (a0.toList == ([68] : List UInt8)) = false := beq_eq_false_iff_ne.mpr c26
                    have c26b1 : (a0.toList != ([68] : List UInt8)) = true := bne_iff_ne.mpr c26
                    by_cases c29 : a0.toList = ([65] : List UInt8)
                    · rw [if_pos c29] at H
                      have c29b0 : (a0.toList == ([65] : List UInt8)) = true := beq_iff_eq.mpr c29
                      have c29b1 : (a0.toList != ([65] : List UInt8)) = false := bne_eq_false_iff_eq.mpr c29
                      clear c29
                      simp only [Option.some.injEq, Prod.mk.injEq] at H
                      obtain ⟨rfl, rfl, rfl, rfl, rfl⟩ := H
                      go_enter Tryd.func56, Tryd.ntmps56
                      go_wp2_with (first | ((with_reducible refine gate_dst (N := 2) rfl ?_); refine box_event ?hg (N := 2) ?hd (cs := #[.int .u64 0, .int .u64 0, .int .i64 0, .int .i64 0]) (t := 82) ?hr ?_; (case hd => rfl); (case hg => rfl); (case hr => first | (go_simp; done) | (go_simp; rfl)); intro gb116 hg w30 hbox hb; have n0_ := Aside0.mk (below_step (by repeat (first | (with_reducible first | exact HB.out | apply below_alloc | apply pw_below_drewN | apply below_drew1) | exact HB.out)) hb); have n1_ := Aside0.mk (hbox); have n2_ := Aside0.mk ((by rw [hg]; exact (below_size (by repeat (first | (with_reducible first | exact HB.out | apply below_alloc | apply pw_below_drewN | apply below_drew1) | exact HB.out))) : w.heap.size ≤ gb116)); have n3_ := Aside0.mk ((by rw [hg]; exact (below_size (by repeat (first | (with_reducible first | exact HB.out | apply below_alloc | apply pw_below_drewN | apply below_drew1) | exact HB.out))) : w.heap.size ≤ gb116)); clear HB; have HB := n0_; have BK116 := n1_; have GW116 := n2_; have GE116 := n3_; clear n0_ n1_ n2_ n3_; clear hb hbox hg; have hcz31_0 : w30.cell? ⟨gb116, 0, none⟩ = some (.int .u64 0) := (blk_cell BK116.out 0).trans rfl; have hcz31_1 : w30.cell? ⟨gb116, 1, none⟩ = some (.int .u64 0) := (blk_cell BK116.out 1).trans rfl; have hcz31_2 : w30.cell? ⟨gb116, 2, none⟩ = some (.int .i64 0) := (blk_cell BK116.out 2).trans rfl; have hcz31_3 : w30.cell? ⟨gb116, 3, none⟩ = some (.int .i64 0) := (blk_cell BK116.out 3).trans rfl; have hfz31_0 := blk_frozen BK116.out 0; have hfz31_1 := blk_frozen BK116.out 1; have hfz31_2 := blk_frozen BK116.out 2; have hfz31_3 := blk_frozen BK116.out 3))
                      refine bodyPost_ret (results_ct rfl _ _ gb116 82 #[.int .u64 16, .int .u64 5, .int .i64 1, .int .i64 0] (0, 0) _ rfl (by (with_reducible repeat (first | refine blk_drewN ?_ _ | refine blk_drew ?_ | refine blk_alloc ?_ _)); refine blk_put (cs := #[.int .u64 16, .int .u64 5, .int .i64 1, .int .i64 0]) ?_ 3 _ rfl; (with_reducible repeat (first | refine blk_drewN ?_ _ | refine blk_drew ?_ | refine blk_alloc ?_ _)); refine blk_put (cs := #[.int .u64 16, .int .u64 5, .int .i64 0, .int .i64 0]) ?_ 2 _ rfl; (with_reducible repeat (first | refine blk_drewN ?_ _ | refine blk_drew ?_ | refine blk_alloc ?_ _)); refine blk_put (cs := #[.int .u64 16, .int .u64 0, .int .i64 0, .int .i64 0]) ?_ 1 _ rfl; (with_reducible repeat (first | refine blk_drewN ?_ _ | refine blk_drew ?_ | refine blk_alloc ?_ _)); refine blk_put (cs := #[.int .u64 0, .int .u64 0, .int .i64 0, .int .i64 0]) ?_ 0 _ rfl; (with_reducible repeat (first | refine blk_drewN ?_ _ | refine blk_drew ?_ | refine blk_alloc ?_ _)); exact BK116.out) Tryd.underlying82 rfl (by kernel_rfl)) rfl ?_
                      exact ⟨by first | rfl | (simp [errW_none, errW_some] <;> rfl) | (simp [*, errW_none, errW_some] <;> rfl), by repeat (first | (with_reducible first | exact HB.out | apply below_alloc | apply pw_below_drewN | apply below_drew1 | refine below_set ?_ GE116.out) | exact HB.out)⟩
                    · rw [if_neg c29] at H
                      have c29b0 : (a0.toList == ([65] : List UInt8)) = false := beq_eq_false_iff_ne.mpr c29
                      have c29b1 : (a0.toList != ([65] : List UInt8)) = true := bne_iff_ne.mpr c29
                      by_cases c32 : a0.toList = ([66] : List UInt8)
                      · rw [if_pos c32] at H
                        have c32b0 : (a0.toList == ([66] : List UInt8)) = true := beq_iff_eq.mpr c32
                        have c32b1 : (a0.toList != ([66] : List UInt8)) = false := bne_eq_false_iff_eq.mpr c32
                        clear c32
                        simp only [Option.some.injEq, Prod.mk.injEq] at H
                        obtain ⟨rfl, rfl, rfl, rfl, rfl⟩ := H
                        go_enter Tryd.func56, Tryd.ntmps56
                        go_wp2_with (first | ((with_reducible refine gate_dst (N := 2) rfl ?_); refine box_event ?hg (N := 2) ?hd (cs := #[.int .u64 0, .int .u64 0, .int .i64 0, .int .i64 0]) (t := 82) ?hr ?_; (case hd => rfl); (case hg => rfl); (case hr => first | (go_simp; done) | (go_simp; rfl)); intro gb116 hg w33 hbox hb; have n0_ := Aside0.mk (below_step (by repeat (first | (with_reducible first | exact HB.out | apply below_alloc | apply pw_below_drewN | apply below_drew1) | exact HB.out)) hb); have n1_ := Aside0.mk (hbox); have n2_ := Aside0.mk ((by rw [hg]; exact (below_size (by repeat (first | (with_reducible first | exact HB.out | apply below_alloc | apply pw_below_drewN | apply below_drew1) | exact HB.out))) : w.heap.size ≤ gb116)); have n3_ := Aside0.mk ((by rw [hg]; exact (below_size (by repeat (first | (with_reducible first | exact HB.out | apply below_alloc | apply pw_below_drewN | apply below_drew1) | exact HB.out))) : w.heap.size ≤ gb116)); clear HB; have HB := n0_; have BK116 := n1_; have GW116 := n2_; have GE116 := n3_; clear n0_ n1_ n2_ n3_; clear hb hbox hg; have hcz34_0 : w33.cell? ⟨gb116, 0, none⟩ = some (.int .u64 0) := (blk_cell BK116.out 0).trans rfl; have hcz34_1 : w33.cell? ⟨gb116, 1, none⟩ = some (.int .u64 0) := (blk_cell BK116.out 1).trans rfl; have hcz34_2 : w33.cell? ⟨gb116, 2, none⟩ = some (.int .i64 0) := (blk_cell BK116.out 2).trans rfl; have hcz34_3 : w33.cell? ⟨gb116, 3, none⟩ = some (.int .i64 0) := (blk_cell BK116.out 3).trans rfl; have hfz34_0 := blk_frozen BK116.out 0; have hfz34_1 := blk_frozen BK116.out 1; have hfz34_2 := blk_frozen BK116.out 2; have hfz34_3 := blk_frozen BK116.out 3))
                        refine bodyPost_ret (results_ct rfl _ _ gb116 82 #[.int .u64 11, .int .u64 5, .int .i64 1, .int .i64 0] (0, 0) _ rfl (by (with_reducible repeat (first | refine blk_drewN ?_ _ | refine blk_drew ?_ | refine blk_alloc ?_ _)); refine blk_put (cs := #[.int .u64 11, .int .u64 5, .int .i64 1, .int .i64 0]) ?_ 3 _ rfl; (with_reducible repeat (first | refine blk_drewN ?_ _ | refine blk_drew ?_ | refine blk_alloc ?_ _)); refine blk_put (cs := #[.int .u64 11, .int .u64 5, .int .i64 0, .int .i64 0]) ?_ 2 _ rfl; (with_reducible repeat (first | refine blk_drewN ?_ _ | refine blk_drew ?_ | refine blk_alloc ?_ _)); refine blk_put (cs := #[.int .u64 11, .int .u64 0, .int .i64 0, .int .i64 0]) ?_ 1 _ rfl; (with_reducible repeat (first | refine blk_drewN ?_ _ | refine blk_drew ?_ | refine blk_alloc ?_ _)); refine blk_put (cs := #[.int .u64 0, .int .u64 0, .int .i64 0, .int .i64 0]) ?_ 0 _ rfl; (with_reducible repeat (first | refine blk_drewN ?_ _ | refine blk_drew ?_ | refine blk_alloc ?_ _)); exact BK116.out) Tryd.underlying82 rfl (by kernel_rfl)) rfl ?_
                        exact ⟨by first | rfl | (simp [errW_none, errW_some] <;> rfl) | (simp [*, errW_none, errW_some] <;> rfl), by repeat (first | (with_reducible first | exact HB.out | apply below_alloc | apply pw_below_drewN | apply below_drew1 | refine below_set ?_ GE116.out) | exact HB.out)⟩
                      · rw [if_neg c32] at H
                        have c32b0 : (a0.toList == ([66] : List UInt8)) = false := beq_eq_false_iff_ne.mpr c32
                        have c32b1 : (a0.toList != ([66] : List UInt8)) = true := bne_iff_ne.mpr c32
                        by_cases c35 : a0.toList = ([79, 50] : List UInt8)
                        · rw [if_pos c35] at H
                          have c35b0 : (a0.toList == ([79, 50] : List UInt8)) = true := beq_iff_eq.mpr c35
                          have c35b1 : (a0.toList != ([79, 50] : List UInt8)) = false := bne_eq_false_iff_eq.mpr c35
                          clear c35
                          simp only [Option.some.injEq, Prod.mk.injEq] at H
                          obtain ⟨rfl, rfl, rfl, rfl, rfl⟩ := H
                          go_enter Tryd.func56, Tryd.ntmps56
                          go_wp2_with (first | ((with_reducible refine gate_dst (N := 2) rfl ?_); refine box_event ?hg (N := 2) ?hd (cs := #[.int .u64 0, .int .u64 0, .int .i64 0, .int .i64 0]) (t := 82) ?hr ?_; (case hd => rfl); (case hg => rfl); (case hr => first | (go_simp; done) | (go_simp; rfl)); intro gb116 hg w36 hbox hb; have n0_ := Aside0.mk (below_step (by repeat (first | (with_reducible first | exact HB.out | apply below_alloc | apply pw_below_drewN | apply below_drew1) | exact HB.out)) hb); have n1_ := Aside0.mk (hbox); have n2_ := Aside0.mk ((by rw [hg]; exact (below_size (by repeat (first | (with_reducible first | exact HB.out | apply below_alloc | apply pw_below_drewN | apply below_drew1) | exact HB.out))) : w.heap.size ≤ gb116)); have n3_ := Aside0.mk ((by rw [hg]; exact (below_size (by repeat (first | (with_reducible first | exact HB.out | apply below_alloc | apply pw_below_drewN | apply below_drew1) | exact HB.out))) : w.heap.size ≤ gb116)); clear HB; have HB := n0_; have BK116 := n1_; have GW116 := n2_; have GE116 := n3_; clear n0_ n1_ n2_ n3_; clear hb hbox hg; have hcz37_0 : w36.cell? ⟨gb116, 0, none⟩ = some (.int .u64 0) := (blk_cell BK116.out 0).trans rfl; have hcz37_1 : w36.cell? ⟨gb116, 1, none⟩ = some (.int .u64 0) := (blk_cell BK116.out 1).trans rfl; have hcz37_2 : w36.cell? ⟨gb116, 2, none⟩ = some (.int .i64 0) := (blk_cell BK116.out 2).trans rfl; have hcz37_3 : w36.cell? ⟨gb116, 3, none⟩ = some (.int .i64 0) := (blk_cell BK116.out 3).trans rfl; have hfz37_0 := blk_frozen BK116.out 0; have hfz37_1 := blk_frozen BK116.out 1; have hfz37_2 := blk_frozen BK116.out 2; have hfz37_3 := blk_frozen BK116.out 3))
                          refine bodyPost_ret (results_ct rfl _ _ gb116 82 #[.int .u64 20, .int .u64 2, .int .i64 1, .int .i64 0] (0, 0) _ rfl (by (with_reducible repeat (first | refine blk_drewN ?_ _ | refine blk_drew ?_ | refine blk_alloc ?_ _)); refine blk_put (cs := #[.int .u64 20, .int .u64 2, .int .i64 1, .int .i64 0]) ?_ 3 _ rfl; (with_reducible repeat (first | refine blk_drewN ?_ _ | refine blk_drew ?_ | refine blk_alloc ?_ _)); refine blk_put (cs := #[.int .u64 20, .int .u64 2, .int .i64 0, .int .i64 0]) ?_ 2 _ rfl; (with_reducible repeat (first | refine blk_drewN ?_ _ | refine blk_drew ?_ | refine blk_alloc ?_ _)); refine blk_put (cs := #[.int .u64 20, .int .u64 0, .int .i64 0, .int .i64 0]) ?_ 1 _ rfl; (with_reducible repeat (first | refine blk_drewN ?_ _ | refine blk_drew ?_ | refine blk_alloc ?_ _)); refine blk_put (cs := #[.int .u64 0, .int .u64 0, .int .i64 0, .int .i64 0]) ?_ 0 _ rfl; (with_reducible repeat (first | refine blk_drewN ?_ _ | refine blk_drew ?_ | refine blk_alloc ?_ _)); exact BK116.out) Tryd.underlying82 rfl (by kernel_rfl)) rfl ?_
                          exact ⟨by first | rfl | (simp [errW_none, errW_some] <;> rfl) | (simp [*, errW_none, errW_some] <;> rfl), by repeat (first | (with_reducible first | exact HB.out | apply below_alloc | apply pw_below_drewN | apply below_drew1 | refine below_set ?_ GE116.out) | exact HB.out)⟩
                        · rw [if_neg c35] at H
                          have c35b0 : (a0.toList == ([79, 50] : List UInt8)) = false := beq_eq_false_iff_ne.mpr c35
                          have c35b1 : (a0.toList != ([79, 50] : List UInt8)) = true := bne_iff_ne.mpr c35
                          by_cases c38 : a0.toList = ([73, 52] : List UInt8)
                          · rw [if_pos c38] at H
                            have c38b0 : (a0.toList == ([73, 52] : List UInt8)) = true := beq_iff_eq.mpr c38
                            have c38b1 : (a0.toList != ([73, 52] : List UInt8)) = false := bne_eq_false_iff_eq.mpr c38
                            clear c38
                            simp only [Option.some.injEq, Prod.mk.injEq] at H
                            obtain ⟨rfl, rfl, rfl, rfl, rfl⟩ := H
                            go_enter Tryd.func56, Tryd.ntmps56
                            go_wp2_with (first | ((with_reducible refine gate_dst (N := 2) rfl ?_); refine box_event ?hg (N := 2) ?hd (cs := #[.int .u64 0, .int .u64 0, .int .i64 0, .int .i64 0]) (t := 82) ?hr ?_; (case hd => rfl); (case hg => rfl); (case hr => first | (go_simp; done) | (go_simp; rfl)); intro gb116 hg w39 hbox hb; have n0_ := Aside0.mk (below_step (by repeat (first | (with_reducible first | exact HB.out | apply below_alloc | apply pw_below_drewN | apply below_drew1) | exact HB.out)) hb); have n1_ := Aside0.mk (hbox); have n2_ := Aside0.mk ((by rw [hg]; exact (below_size (by repeat (first | (with_reducible first | exact HB.out | apply below_alloc | apply pw_below_drewN | apply below_drew1) | exact HB.out))) : w.heap.size ≤ gb116)); have n3_ := Aside0.mk ((by rw [hg]; exact (below_size (by repeat (first | (with_reducible first | exact HB.out | apply below_alloc | apply pw_below_drewN | apply below_drew1) | exact HB.out))) : w.heap.size ≤ gb116)); clear HB; have HB := n0_; have BK116 := n1_; have GW116 := n2_; have GE116 := n3_; clear n0_ n1_ n2_ n3_; clear hb hbox hg; have hcz40_0 : w39.cell? ⟨gb116, 0, none⟩ = some (.int .u64 0) := (blk_cell BK116.out 0).trans rfl; have hcz40_1 : w39.cell? ⟨gb116, 1, none⟩ = some (.int .u64 0) := (blk_cell BK116.out 1).trans rfl; have hcz40_2 : w39.cell? ⟨gb116, 2, none⟩ = some (.int .i64 0) := (blk_cell BK116.out 2).trans rfl; have hcz40_3 : w39.cell? ⟨gb116, 3, none⟩ = some (.int .i64 0) := (blk_cell BK116.out 3).trans rfl; have hfz40_0 := blk_frozen BK116.out 0; have hfz40_1 := blk_frozen BK116.out 1; have hfz40_2 := blk_frozen BK116.out 2; have hfz40_3 := blk_frozen BK116.out 3))
                            refine bodyPost_ret (results_ct rfl _ _ gb116 82 #[.int .u64 16, .int .u64 4, .int .i64 1, .int .i64 0] (0, 0) _ rfl (by (with_reducible repeat (first | refine blk_drewN ?_ _ | refine blk_drew ?_ | refine blk_alloc ?_ _)); refine blk_put (cs := #[.int .u64 16, .int .u64 4, .int .i64 1, .int .i64 0]) ?_ 3 _ rfl; (with_reducible repeat (first | refine blk_drewN ?_ _ | refine blk_drew ?_ | refine blk_alloc ?_ _)); refine blk_put (cs := #[.int .u64 16, .int .u64 4, .int .i64 0, .int .i64 0]) ?_ 2 _ rfl; (with_reducible repeat (first | refine blk_drewN ?_ _ | refine blk_drew ?_ | refine blk_alloc ?_ _)); refine blk_put (cs := #[.int .u64 16, .int .u64 0, .int .i64 0, .int .i64 0]) ?_ 1 _ rfl; (with_reducible repeat (first | refine blk_drewN ?_ _ | refine blk_drew ?_ | refine blk_alloc ?_ _)); refine blk_put (cs := #[.int .u64 0, .int .u64 0, .int .i64 0, .int .i64 0]) ?_ 0 _ rfl; (with_reducible repeat (first | refine blk_drewN ?_ _ | refine blk_drew ?_ | refine blk_alloc ?_ _)); exact BK116.out) Tryd.underlying82 rfl (by kernel_rfl)) rfl ?_
                            exact ⟨by first | rfl | (simp [errW_none, errW_some] <;> rfl) | (simp [*, errW_none, errW_some] <;> rfl), by repeat (first | (with_reducible first | exact HB.out | apply below_alloc | apply pw_below_drewN | apply below_drew1 | refine below_set ?_ GE116.out) | exact HB.out)⟩
                          · rw [if_neg c38] at H
                            have c38b0 : (a0.toList == ([73, 52] : List UInt8)) = false := beq_eq_false_iff_ne.mpr c38
                            have c38b1 : (a0.toList != ([73, 52] : List UInt8)) = true := bne_iff_ne.mpr c38
                            simp only [Option.some.injEq, Prod.mk.injEq] at H
                            obtain ⟨rfl, rfl, rfl, rfl, rfl⟩ := H
                            go_enter Tryd.func56, Tryd.ntmps56
                            go_wp2_with (first | ((with_reducible refine gate_dst (N := 2) rfl ?_); refine box_event ?hg (N := 2) ?hd (cs := #[.int .u64 0, .int .u64 0, .int .i64 0, .int .i64 0]) (t := 82) ?hr ?_; (case hd => rfl); (case hg => rfl); (case hr => first | (go_simp; done) | (go_simp; rfl)); intro gb116 hg w41 hbox hb; have n0_ := Aside0.mk (below_step (by repeat (first | (with_reducible first | exact HB.out | apply below_alloc | apply pw_below_drewN | apply below_drew1) | exact HB.out)) hb); have n1_ := Aside0.mk (hbox); have n2_ := Aside0.mk ((by rw [hg]; exact (below_size (by repeat (first | (with_reducible first | exact HB.out | apply below_alloc | apply pw_below_drewN | apply below_drew1) | exact HB.out))) : w.heap.size ≤ gb116)); have n3_ := Aside0.mk ((by rw [hg]; exact (below_size (by repeat (first | (with_reducible first | exact HB.out | apply below_alloc | apply pw_below_drewN | apply below_drew1) | exact HB.out))) : w.heap.size ≤ gb116)); clear HB; have HB := n0_; have BK116 := n1_; have GW116 := n2_; have GE116 := n3_; clear n0_ n1_ n2_ n3_; clear hb hbox hg; have hcz42_0 : w41.cell? ⟨gb116, 0, none⟩ = some (.int .u64 0) := (blk_cell BK116.out 0).trans rfl; have hcz42_1 : w41.cell? ⟨gb116, 1, none⟩ = some (.int .u64 0) := (blk_cell BK116.out 1).trans rfl; have hcz42_2 : w41.cell? ⟨gb116, 2, none⟩ = some (.int .i64 0) := (blk_cell BK116.out 2).trans rfl; have hcz42_3 : w41.cell? ⟨gb116, 3, none⟩ = some (.int .i64 0) := (blk_cell BK116.out 3).trans rfl; have hfz42_0 := blk_frozen BK116.out 0; have hfz42_1 := blk_frozen BK116.out 1; have hfz42_2 := blk_frozen BK116.out 2; have hfz42_3 := blk_frozen BK116.out 3))
                            refine bodyPost_ret (results_ct rfl _ _ gb116 82 #[.int .u64 0, .int .u64 0, .int .i64 0, .int .i64 0] (0, 0) _ rfl (by (with_reducible repeat (first | refine blk_drewN ?_ _ | refine blk_drew ?_ | refine blk_alloc ?_ _)); refine blk_put (cs := #[.int .u64 0, .int .u64 0, .int .i64 0, .int .i64 0]) ?_ 3 _ rfl; (with_reducible repeat (first | refine blk_drewN ?_ _ | refine blk_drew ?_ | refine blk_alloc ?_ _)); refine blk_put (cs := #[.int .u64 0, .int .u64 0, .int .i64 0, .int .i64 0]) ?_ 2 _ rfl; (with_reducible repeat (first | refine blk_drewN ?_ _ | refine blk_drew ?_ | refine blk_alloc ?_ _)); refine blk_put (cs := #[.int .u64 0, .int .u64 0, .int .i64 0, .int .i64 0]) ?_ 1 _ rfl; (with_reducible repeat (first | refine blk_drewN ?_ _ | refine blk_drew ?_ | refine blk_alloc ?_ _)); refine blk_put (cs := #[.int .u64 0, .int .u64 0, .int .i64 0, .int .i64 0]) ?_ 0 _ rfl; (with_reducible repeat (first | refine blk_drewN ?_ _ | refine blk_drew ?_ | refine blk_alloc ?_ _)); exact BK116.out) Tryd.underlying82 rfl (by kernel_rfl)) rfl ?_
                            exact ⟨by first | rfl | (simp [errW_none, errW_some] <;> rfl) | (simp [*, errW_none, errW_some] <;> rfl), by repeat (first | (with_reducible first | exact HB.out | apply below_alloc | apply pw_below_drewN | apply below_drew1 | refine below_set ?_ GE116.out) | exact HB.out)⟩
set_option maxHeartbeats 8000000 in
set_option maxRecDepth 100000 in
theorem isa_plain_get.calls (a0_0 : Int) (a0_1 : Int) (a0_2 : Int) (a0_3 : Int) (a1 : Int) (r : Int) (w : World) (h : isa_plain_get.f a0_0 a0_1 a0_2 a0_3 a1 = some r) :
    Calls Tryd.prog 57 #[.agg #[.int .u64 a0_0, .int .u64 a0_1, .int .i64 a0_2, .int .i64 a0_3], .int .u32 a1] w fun e w' => e = .returned (.int .i64 r) ∧ Below w.heap.size w w' := by
  have hu82 := Tryd.underlying82
  have HB := Aside0.mk (Below.refl w.heap.size w)
  have H : (if 0 ≤ a0_0 then (if 0 ≤ a0_1 then (some (wrap64 ((wrap64 ((wrap64 (Go.bits .and .u32 (shr .u32 a1 a0_0) (((shl .u32 1 a0_1) - 1) % 4294967296))) * a0_2)) + a0_3))) else (none)) else (none)) = some r := h
  clear h
  by_cases c3 : 0 ≤ a0_0
  · rw [if_pos c3] at H
    have c3b0 := eq_true c3
    have c3b1 : decide (0 ≤ a0_0) = true := decide_eq_true c3
    clear c3
    obtain ⟨ji4, hji4⟩ : ∃ j_ : Int, (shr .u32 a1 a0_0) = j_ := ⟨_, rfl⟩
    replace H : (if 0 ≤ a0_1 then (some (wrap64 ((wrap64 ((wrap64 (Go.bits .and .u32 (ji4) (((shl .u32 1 a0_1) - 1) % 4294967296))) * a0_2)) + a0_3))) else (none)) = some r := by first | (rw [hji4] at H; exact H) | (simp only [hji4] at H ⊢; exact H)
    have hji4_ : (a1 / 2 ^ min a0_0.toNat 32) = ji4 := hji4
    have hji4z : a0_0 ≤ 32 → (a1 / 2 ^ a0_0.toNat) = ji4 := shr_small hji4
    by_cases c5 : 0 ≤ a0_1
    · rw [if_pos c5] at H
      have c5b0 := eq_true c5
      have c5b1 : decide (0 ≤ a0_1) = true := decide_eq_true c5
      clear c5
      obtain ⟨ji6, hji6⟩ : ∃ j_ : Int, (shl .u32 1 a0_1) = j_ := ⟨_, rfl⟩
      replace H : (some (wrap64 ((wrap64 ((wrap64 (Go.bits .and .u32 (ji4) (((ji6) - 1) % 4294967296))) * a0_2)) + a0_3))) = some r := by first | (rw [hji6] at H; exact H) | (simp only [hji6] at H ⊢; exact H)
      have hji6_ : (IntKind.u32.wrap (1 * 2 ^ min a0_1.toNat 32)) = ji6 := hji6
      have hji6z : a0_1 ≤ 32 → (IntKind.u32.wrap (1 * 2 ^ a0_1.toNat)) = ji6 := shl_small hji6
      have hji6u : (IntKind.u32.wrap (2 ^ min a0_1.toNat 32)) = ji6 := by have h_ := hji6_; rw [Int.one_mul] at h_; exact h_
      have hji6v : a0_1 ≤ 32 → (IntKind.u32.wrap (2 ^ a0_1.toNat)) = ji6 := fun hle_ => by have h_ := hji6z hle_; rw [Int.one_mul] at h_; exact h_
      obtain rfl := Option.some.inj H
      go_enter Tryd.func57, Tryd.ntmps57
      go_wp2_with (first | ((with_reducible refine gate_dst (N := 2) rfl ?_); refine box_event ?hg (N := 2) ?hd (cs := #[.int .u64 a0_0, .int .u64 a0_1, .int .i64 a0_2, .int .i64 a0_3]) (t := 82) ?hr ?_; (case hd => rfl); (case hg => rfl); (case hr => first | (go_simp; done) | (go_simp; rfl)); intro gb117 hg w7 hbox hb; have n0_ := Aside0.mk (below_step (by repeat (first | (with_reducible first | exact HB.out | apply below_alloc | apply pw_below_drewN | apply below_drew1) | exact HB.out)) hb); have n1_ := Aside0.mk (hbox); have n2_ := Aside0.mk ((by rw [hg]; exact (below_size (by repeat (first | (with_reducible first | exact HB.out | apply below_alloc | apply pw_below_drewN | apply below_drew1) | exact HB.out))) : w.heap.size ≤ gb117)); have n3_ := Aside0.mk ((by rw [hg]; exact (below_size (by repeat (first | (with_reducible first | exact HB.out | apply below_alloc | apply pw_below_drewN | apply below_drew1) | exact HB.out))) : w.heap.size ≤ gb117)); clear HB; have HB := n0_; have BK117 := n1_; have GW117 := n2_; have GE117 := n3_; clear n0_ n1_ n2_ n3_; clear hb hbox hg; have hcz8_0 : w7.cell? ⟨gb117, 0, none⟩ = some (.int .u64 a0_0) := (blk_cell BK117.out 0).trans rfl; have hcz8_1 : w7.cell? ⟨gb117, 1, none⟩ = some (.int .u64 a0_1) := (blk_cell BK117.out 1).trans rfl; have hcz8_2 : w7.cell? ⟨gb117, 2, none⟩ = some (.int .i64 a0_2) := (blk_cell BK117.out 2).trans rfl; have hcz8_3 : w7.cell? ⟨gb117, 3, none⟩ = some (.int .i64 a0_3) := (blk_cell BK117.out 3).trans rfl; have hfz8_0 := blk_frozen BK117.out 0; have hfz8_1 := blk_frozen BK117.out 1; have hfz8_2 := blk_frozen BK117.out 2; have hfz8_3 := blk_frozen BK117.out 3))
      go_ret
      exact ⟨by first | rfl | (simp [errW_none, errW_some] <;> rfl) | (simp only [← hji4, ← hji6]; first | rfl | (simp [errW_none, errW_some] <;> rfl)) | (simp [*, errW_none, errW_some] <;> rfl), by repeat (first | (with_reducible first | exact HB.out | apply below_alloc | apply pw_below_drewN | apply below_drew1 | refine below_set ?_ GE117.out) | exact HB.out)⟩
    · rw [if_neg c5] at H
      exact absurd H (by simp)
  · rw [if_neg c3] at H
    exact absurd H (by simp)
set_option maxHeartbeats 8000000 in
set_option maxRecDepth 100000 in
theorem isa_place.calls (a0 : ByteArray) (r : Int) (w : World) (h : isa_place.f a0 = some r) :
    Calls Tryd.prog 58 #[.string a0] w fun e w' => e = .returned (.int .u64 r) ∧ Drawn0 w w' := by
  have H : (if a0.toList = ([89] : List UInt8) then (some 4) else (some 0)) = some r := h
  clear h
  by_cases c2 : a0.toList = ([89] : List UInt8)
  · rw [if_pos c2] at H
    have c2b0 : (a0.toList == ([89] : List UInt8)) = true := beq_iff_eq.mpr c2
    have c2b1 : (a0.toList != ([89] : List UInt8)) = false := bne_eq_false_iff_eq.mpr c2
    clear c2
    obtain rfl := Option.some.inj H
    go_enter Tryd.func58, Tryd.ntmps58
    go_wp2
    go_ret
    exact ⟨by first | rfl | (simp; done) | (simp [*]; done), by repeat (first | exact Drawn0.refl _ | apply Drawn0.step)⟩
  · rw [if_neg c2] at H
    have c2b0 : (a0.toList == ([89] : List UInt8)) = false := beq_eq_false_iff_ne.mpr c2
    have c2b1 : (a0.toList != ([89] : List UInt8)) = true := bne_iff_ne.mpr c2
    obtain rfl := Option.some.inj H
    go_enter Tryd.func58, Tryd.ntmps58
    go_wp2
    go_ret
    exact ⟨by first | rfl | (simp; done) | (simp [*]; done), by repeat (first | exact Drawn0.refl _ | apply Drawn0.step)⟩
set_option maxHeartbeats 8000000 in
set_option maxRecDepth 100000 in
theorem imm_Sign.calls (a0 : Int) (a1 : Int) (r : Int) (w : World) (h : imm_Sign.f a0 a1 = some r) :
    Calls Tryd.prog 61 #[.int .i64 a0, .int .i64 a1] w fun e w' => e = .returned (.int .i64 r) ∧ Below w.heap.size w w' := by
  have HB := Aside0.mk (Below.refl w.heap.size w)
  have H : (some ((wrap64 (a0 * 2 ^ (64 - (mn (mx a1 1) 64)).toNat)) / 2 ^ (64 - (mn (mx a1 1) 64)).toNat)) = some r := h
  clear h
  obtain ⟨ji3, hji3⟩ : ∃ j_ : Int, (mx a1 1) = j_ := ⟨_, rfl⟩
  replace H : (some ((wrap64 (a0 * 2 ^ (64 - (mn (ji3) 64)).toNat)) / 2 ^ (64 - (mn (ji3) 64)).toNat)) = some r := by first | (rw [hji3] at H; exact H) | (simp only [hji3] at H ⊢; exact H)
  (try (have hji3l : 1 ≤ ji3 := by (rw [← hji3]; unfold mx; (repeat' split) <;> omega)))
  (try (have hji3m : 0 ≤ ji3 := by omega))
  have hji3_ : (if a1 < 1 then 1 else a1) = ji3 := hji3
  obtain ⟨ji4, hji4⟩ : ∃ j_ : Int, (mn (ji3) 64) = j_ := ⟨_, rfl⟩
  replace H : (some ((wrap64 (a0 * 2 ^ (64 - (ji4)).toNat)) / 2 ^ (64 - (ji4)).toNat)) = some r := by first | (rw [hji4] at H; exact H) | (simp only [hji4] at H ⊢; exact H)
  have hji4_ : (if 64 < (ji3) then 64 else (ji3)) = ji4 := hji4
  obtain rfl := Option.some.inj H
  go_enter Tryd.func61, Tryd.ntmps61
  go_wp2
  go_ret
  exact ⟨by first | rfl | (simp [errW_none, errW_some] <;> rfl) | (simp only [← hji3, ← hji4]; first | rfl | (simp [errW_none, errW_some] <;> rfl)) | (simp [*, errW_none, errW_some] <;> rfl), by repeat (first | (with_reducible first | exact HB.out | apply below_alloc | apply pw_below_drewN | apply below_drew1) | exact HB.out)⟩
set_option maxHeartbeats 8000000 in
set_option maxRecDepth 100000 in
theorem imm_Joined.calls (a0 : Int) (a1 : Int) (a2 : Int) (r : Int) (w : World) (h : imm_Joined.f a0 a1 a2 = some r) :
    Calls Tryd.prog 59 #[.int .i64 a0, .int .i64 a1, .int .i64 a2] w fun e w' => e = .returned (.int .i64 r) ∧ Below w.heap.size w w' := by
  have HB := Aside0.mk (Below.refl w.heap.size w)
  have H : ((imm_Sign.f (Go.bits .or .i64 (Go.bits .or .i64 (wrap64 (a0 * 65536)) (wrap64 (a1 * 2048))) a2) 20).bind fun t118 => (some t118)) = some r := h
  clear h
  replace H := Option.bind_eq_some_iff.mp H
  obtain ⟨t118, A40, H⟩ := H
  replace H : (some t118) = some r := H
  have A4 := Aside0.mk A40
  clear A40
  obtain rfl := Option.some.inj H
  go_enter Tryd.func59, Tryd.ntmps59
  go_wp2_with (first | ((with_reducible refine gate_callee (f := 61) rfl ?_); refine goesL_ (some 14) rfl rfl Tryd.func61 (by kernel_rfl) rfl #[.int .i64 (Go.bits .or .i64 (Go.bits .or .i64 (wrap64 (a0 * 65536)) (wrap64 (a1 * 2048))) a2), .int .i64 20] rfl (by (try simp only [List.map_toArray, List.map_cons, List.map_nil]); first | done | rfl | (simp only [List.length_drop, List.length_take]; rfl)) ?_; (with_reducible refine (imm_Sign.calls (Go.bits .or .i64 (Go.bits .or .i64 (wrap64 (a0 * 65536)) (wrap64 (a1 * 2048))) a2) 20 t118 _ A4.out).mono ?_); rintro e w5 ⟨rfl, hb⟩; refine ⟨_, rfl, ?_⟩; have n0_ := Aside0.mk (below_step (by repeat (first | (with_reducible first | exact HB.out | apply below_alloc | apply pw_below_drewN | apply below_drew1) | exact HB.out)) hb); clear HB; have HB := n0_; clear n0_; (try clear hb); (try clear hb2); (try clear hk); (try clear hi)))
  go_ret
  exact ⟨by first | rfl | (simp [errW_none, errW_some] <;> rfl) | (simp [*, errW_none, errW_some] <;> rfl), by repeat (first | (with_reducible first | exact HB.out | apply below_alloc | apply pw_below_drewN | apply below_drew1) | exact HB.out)⟩
set_option maxHeartbeats 8000000 in
set_option maxRecDepth 100000 in
theorem imm_Back.calls (k : Nat) (a0 : Int) (a1 : Int) (a2 : Int) (r : Int) (w : World) (h : imm_Back.f k a0 a1 a2 = some r) :
    Calls Tryd.prog 60 #[.int .i64 a0, .int .i64 a1, .int .i64 a2] w fun e w' => e = .returned (.int .i64 r) ∧ Below w.heap.size w w' := by
  have HB := Aside0.mk (Below.refl w.heap.size w)
  have H : (imm_Back.l0 k a0 a1 a2 0 3) = some r := h
  clear h
  have H' := Aside0.mk H
  clear H
  go_enter Tryd.func60, Tryd.ntmps60
  go_wp2
  go_loopg [7, 8] k (fun kq v7 v8 w' => ∃ (x7_1 : Int) (x8_1 : Int), v7 = .int .i64 x7_1 ∧ v8 = .int .i64 x8_1 ∧ Aside0 (imm_Back.l0 kq a0 a1 a2 x7_1 x8_1 = some r) ∧ Aside0 (kq ≤ k) ∧ Aside0 (Below w.heap.size w w'))
  case atStart => exact ⟨(0), (3), (by first | rfl | (simp; done) | (simp [*]; done)), (by first | rfl | (simp; done) | (simp [*]; done)), H', ⟨Nat.le_refl _⟩, ⟨by repeat (first | (with_reducible first | exact HB.out | apply below_alloc | apply pw_below_drewN | apply below_drew1) | exact HB.out)⟩⟩
  case round =>
    clear H'
    try clear p2
    obtain ⟨x7_1, x8_1, rfl, rfl, HA, HK1, HB⟩ := hrel
    cases gk with
    | zero => exact absurd HA.out (by simp [imm_Back.l0])
    | succ k1 =>
      have H := HA.out
      clear HA
      simp only [imm_Back.l0] at H
      by_cases c4 : x8_1 ≥ 0
      · rw [if_pos c4] at H
        have c4b0 : decide (0 ≤ x8_1) = true := decide_eq_true c4
        clear c4
        by_cases c5 : a0 = 1
        · rw [if_pos c5] at H
          have c5b0 : (a0 == 1) = true := beq_iff_eq.mpr c5
          have c5b1 : (a0 != 1) = false := bne_eq_false_iff_eq.mpr c5
          clear c5
          by_cases c6 : x8_1 = a1
          · rw [if_pos c6] at H
            have c6b0 : (x8_1 == a1) = true := beq_iff_eq.mpr c6
            have c6b1 : (x8_1 != a1) = false := bne_eq_false_iff_eq.mpr c6
            clear c6
            have H' := Aside0.mk H
            clear H
            go_wp2
            go_roundg k1
            case measure => have := HK1.out; omega
            case rel => exact ⟨(Go.bits .or .i64 (wrap64 (x7_1 * 256)) (Go.bits .and .i64 a2 255)), (wrap64 (x8_1 - 1)), (by first | rfl | (simp; done) | (simp [*]; done)), (by first | rfl | (simp; done) | (simp [*]; done)), H', ⟨by have := HK1.out; omega⟩, ⟨by repeat (first | (with_reducible first | exact HB.out | apply below_alloc | apply pw_below_drewN | apply below_drew1) | exact HB.out)⟩⟩
          · rw [if_neg c6] at H
            have c6b0 : (x8_1 == a1) = false := beq_eq_false_iff_ne.mpr c6
            have c6b1 : (x8_1 != a1) = true := bne_iff_ne.mpr c6
            have H' := Aside0.mk H
            clear H
            go_wp2
            go_roundg k1
            case measure => have := HK1.out; omega
            case rel => exact ⟨(Go.bits .or .i64 (wrap64 (x7_1 * 256)) 255), (wrap64 (x8_1 - 1)), (by first | rfl | (simp; done) | (simp [*]; done)), (by first | rfl | (simp; done) | (simp [*]; done)), H', ⟨by have := HK1.out; omega⟩, ⟨by repeat (first | (with_reducible first | exact HB.out | apply below_alloc | apply pw_below_drewN | apply below_drew1) | exact HB.out)⟩⟩
        · rw [if_neg c5] at H
          have c5b0 : (a0 == 1) = false := beq_eq_false_iff_ne.mpr c5
          have c5b1 : (a0 != 1) = true := bne_iff_ne.mpr c5
          by_cases c7 : x8_1 = a1
          · rw [if_pos c7] at H
            have c7b0 : (x8_1 == a1) = true := beq_iff_eq.mpr c7
            have c7b1 : (x8_1 != a1) = false := bne_eq_false_iff_eq.mpr c7
            clear c7
            have H' := Aside0.mk H
            clear H
            go_wp2
            go_roundg k1
            case measure => have := HK1.out; omega
            case rel => exact ⟨(Go.bits .or .i64 (wrap64 (x7_1 * 256)) (Go.bits .and .i64 a2 255)), (wrap64 (x8_1 - 1)), (by first | rfl | (simp; done) | (simp [*]; done)), (by first | rfl | (simp; done) | (simp [*]; done)), H', ⟨by have := HK1.out; omega⟩, ⟨by repeat (first | (with_reducible first | exact HB.out | apply below_alloc | apply pw_below_drewN | apply below_drew1) | exact HB.out)⟩⟩
          · rw [if_neg c7] at H
            have c7b0 : (x8_1 == a1) = false := beq_eq_false_iff_ne.mpr c7
            have c7b1 : (x8_1 != a1) = true := bne_iff_ne.mpr c7
            have H' := Aside0.mk H
            clear H
            go_wp2
            go_roundg k1
            case measure => have := HK1.out; omega
            case rel => exact ⟨(Go.bits .or .i64 (wrap64 (x7_1 * 256)) 0), (wrap64 (x8_1 - 1)), (by first | rfl | (simp; done) | (simp [*]; done)), (by first | rfl | (simp; done) | (simp [*]; done)), H', ⟨by have := HK1.out; omega⟩, ⟨by repeat (first | (with_reducible first | exact HB.out | apply below_alloc | apply pw_below_drewN | apply below_drew1) | exact HB.out)⟩⟩
      · rw [if_neg c4] at H
        have c4b0 : decide (0 ≤ x8_1) = false := decide_eq_false c4
        clear c4
        replace H := Option.bind_eq_some_iff.mp H
        obtain ⟨t119, A80, H⟩ := H
        replace H : (some t119) = some r := H
        have A8 := Aside0.mk A80
        clear A80
        obtain rfl := Option.some.inj H
        go_wp2_with (first | ((with_reducible refine gate_callee (f := 61) rfl ?_); refine goesL_ (some 26) rfl rfl Tryd.func61 (by kernel_rfl) rfl #[.int .i64 x7_1, .int .i64 32] rfl (by (try simp only [List.map_toArray, List.map_cons, List.map_nil]); first | done | rfl | (simp only [List.length_drop, List.length_take]; rfl)) ?_; (with_reducible refine (imm_Sign.calls x7_1 32 t119 _ A8.out).mono ?_); rintro e w9 ⟨rfl, hb⟩; refine ⟨_, rfl, ?_⟩; have n0_ := Aside0.mk (below_step (by repeat (first | (with_reducible first | exact HB.out | apply below_alloc | apply pw_below_drewN | apply below_drew1) | exact HB.out)) hb); clear HB; have HB := n0_; clear n0_; (try clear hb); (try clear hb2); (try clear hk); (try clear hi)))
        go_ret
        exact ⟨by first | rfl | (simp [errW_none, errW_some] <;> rfl) | (simp [*, errW_none, errW_some] <;> rfl), by repeat (first | (with_reducible first | exact HB.out | apply below_alloc | apply pw_below_drewN | apply below_drew1) | exact HB.out)⟩
set_option maxHeartbeats 8000000 in
set_option maxRecDepth 100000 in
theorem isa_wide.calls (a0 : ByteArray) (r : Int) (w : World) (h : isa_wide.f a0 = some r) :
    Calls Tryd.prog 62 #[.string a0] w fun e w' => e = .returned (.int .i64 r) ∧ Drawn0 w w' := by
  have H : (if a0.toList = ([84, 56] : List UInt8) then (some 9) else (if a0.toList = ([84, 50, 52] : List UInt8) then (some 25) else (some 16))) = some r := h
  clear h
  by_cases c2 : a0.toList = ([84, 56] : List UInt8)
  · rw [if_pos c2] at H
    have c2b0 : (a0.toList == ([84, 56] : List UInt8)) = true := beq_iff_eq.mpr c2
    have c2b1 : (a0.toList != ([84, 56] : List UInt8)) = false := bne_eq_false_iff_eq.mpr c2
    clear c2
    obtain rfl := Option.some.inj H
    go_enter Tryd.func62, Tryd.ntmps62
    go_wp2
    go_ret
    exact ⟨by first | rfl | (simp; done) | (simp [*]; done), by repeat (first | exact Drawn0.refl _ | apply Drawn0.step)⟩
  · rw [if_neg c2] at H
    have c2b0 : (a0.toList == ([84, 56] : List UInt8)) = false := beq_eq_false_iff_ne.mpr c2
    have c2b1 : (a0.toList != ([84, 56] : List UInt8)) = true := bne_iff_ne.mpr c2
    by_cases c3 : a0.toList = ([84, 50, 52] : List UInt8)
    · rw [if_pos c3] at H
      have c3b0 : (a0.toList == ([84, 50, 52] : List UInt8)) = true := beq_iff_eq.mpr c3
      have c3b1 : (a0.toList != ([84, 50, 52] : List UInt8)) = false := bne_eq_false_iff_eq.mpr c3
      clear c3
      obtain rfl := Option.some.inj H
      go_enter Tryd.func62, Tryd.ntmps62
      go_wp2
      go_ret
      exact ⟨by first | rfl | (simp; done) | (simp [*]; done), by repeat (first | exact Drawn0.refl _ | apply Drawn0.step)⟩
    · rw [if_neg c3] at H
      have c3b0 : (a0.toList == ([84, 50, 52] : List UInt8)) = false := beq_eq_false_iff_ne.mpr c3
      have c3b1 : (a0.toList != ([84, 50, 52] : List UInt8)) = true := bne_iff_ne.mpr c3
      obtain rfl := Option.some.inj H
      go_enter Tryd.func62, Tryd.ntmps62
      go_wp2
      go_ret
      exact ⟨by first | rfl | (simp; done) | (simp [*]; done), by repeat (first | exact Drawn0.refl _ | apply Drawn0.step)⟩
end Go.Proofs.YticofbaajdgabaaDoor.X
