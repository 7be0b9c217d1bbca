/- DisOne: part 5 of the proof that, whatever the input, the law returns true and the input reads as it did; its conditions are those of the given row. -/
import Derived.Test.YtpebnjoklniikaaGreatDoorZDisOne4
import Derived.Test.YtpebnjoklniikaaGreatDoorTie
import Derived.Test.YtpebnjoklniikaaGreatDoorCards
import Derived.ProofKit
import Derived.OpenShut
import Derived.Stop.Joined
import Derived.Lay
import Derived.SevenTiedAt
set_option linter.unusedVariables false
set_option linter.unusedSimpArgs false
set_option maxRecDepth 100000
namespace Go.Ab
def sg (v m : Int) : Int := (v + m / 2) % m - m / 2
theorem sciL_back (v : Int) : ∀ l : List (Bool × Nat), (∀ p ∈ l, p.2 < 4) → (sciL v l).2.2.2 = true → ∃ (f : Bool) (s : Nat) (u : Int), sciL v l = (if f then 1 else 0, (s : Int), u, true) ∧ s < 4 ∧ byt u ∧ sgn32 (bk f s u) = v
  | [], _, h => nomatch h
  | p :: l, hl, h => by
    rw [sciL_cons] at h ⊢
    by_cases c : sgn32 (bk p.1 p.2 (ub v p.2)) = v
    · rw [if_pos c]; exact ⟨p.1, p.2, _, rfl, hl p (List.mem_cons_self ..), ub_byt _ _, c⟩
    · rw [if_neg c] at h ⊢
      exact sciL_back v l (fun p hp => hl p (List.mem_cons_of_mem _ hp)) h
def sci8 (v : Int) : Int × Int × Int × Bool := sciL v forms8
def bkN (f s u : Int) : Int := sgn32 (bk (decide (f = 1)) s.toNat u)
theorem sci8_back (v : Int) (h : (sci8 v).2.2.2 = true) : ((sci8 v).1 = 0 ∨ (sci8 v).1 = 1) ∧ (0 ≤ (sci8 v).2.1 ∧ (sci8 v).2.1 < 4) ∧ (0 ≤ (sci8 v).2.2.1 ∧ (sci8 v).2.2.1 < 256) ∧ bkN (sci8 v).1 (sci8 v).2.1 (sci8 v).2.2.1 = v := by
  obtain ⟨f, s, u, e, h1, h2, h3⟩ := sciL_back v forms8 (by decide) h
  unfold sci8
  rw [e]
  refine ⟨by cases f <;> simp, ⟨by simp only []; omega, by simp only []; omega⟩, h2, ?_⟩
  unfold bkN
  rw [show decide ((if f then (1 : Int) else 0) = 1) = f by cases f <;> rfl, Int.toNat_natCast]
  exact h3
inductive Kn where
  | X | Y | U5 | U7 | O5 | M1 | M2 | M4 | O1 | I2 | T8 | D | A | B | S16 | L20 | C8 | O2 | I4 | T15 | T24
  deriving DecidableEq, Repr
def Kn.str : Kn → ByteArray
  | X => s_X | Y => s_Y | U5 => s_U5 | U7 => s_U7 | O5 => s_O5 | M1 => s_M1 | M2 => s_M2 | M4 => s_M4 | O1 => s_O1 | I2 => s_I2 | T8 => s_T8 | D => s_D | A => s_A | B => s_B | S16 => s_S16 | L20 => s_L20 | C8 => s_C8 | O2 => s_O2 | I4 => s_I4 | T15 => s_T15 | T24 => s_T24
def Kn.ok : Kn → Int → Bool
  | X, v | Y, v => decide (0 ≤ v ∧ v ≤ 7 ∨ 24 ≤ v ∧ v ≤ 31)
  | U5, v | D, v | A, v | B, v => decide (0 ≤ v ∧ v < 32)
  | U7, v => decide (0 ≤ v ∧ v < 128)
  | O5, v => decide (1 ≤ v ∧ v < 33)
  | M1, v | I4, v => decide (0 ≤ v ∧ v < 16)
  | M2, v => decide (0 ≤ v ∧ v < 32 ∧ v % 2 = 0)
  | M4, v => decide (0 ≤ v ∧ v < 64 ∧ v % 4 = 0)
  | O1, v => decide (0 ≤ v ∧ v < 2)
  | I2, v | O2, v => decide (0 ≤ v ∧ v < 4)
  | T8, v => decide (v % 2 = 0 ∧ -256 ≤ v ∧ v < 256)
  | S16, v => decide (-32768 ≤ v ∧ v < 32768)
  | L20, v => decide (-524288 ≤ v ∧ v < 524288)
  | C8, v => (sci8 v).2.2.2
  | T15, v => decide (v % 2 = 0 ∧ -32768 ≤ v ∧ v < 32768)
  | T24, v => decide (v % 2 = 0 ∧ -16777216 ≤ v ∧ v < 16777216)
def Kn.bit : Kn → Int → Int
  | X, v => v - v / 24 * 16
  | Y, v => (v - v / 24 * 16) * 16
  | U5, v | U7, v => v * 16
  | O5, v => (v - 1) * 16
  | M1, v | I2, v => v * 256
  | M2, v => v / 2 * 256
  | M4, v => v / 4 * 256
  | O1, v => v * 1024
  | T8, v => v / 2 % 256
  | D, v => v * 2097152
  | A, v | I4, v => v * 65536
  | B, v => v * 2048
  | S16, v | T15, v => v % 65536
  | T24, v => v % 33554432
  | O2, v => v * 1048576
  | L20, v => v / 65536 % 16 * 2048 + v / 2048 % 32 * 65536 + v % 2048
  | C8, v => (sci8 v).1 * 1024 + (sci8 v).2.1 * 256 + (sci8 v).2.2.1
def Kn.val : Kn → Int → Int
  | X, n => n % 16 + n % 16 / 8 * 16
  | Y, n => n / 16 % 16 + n / 16 % 16 / 8 * 16
  | U5, n => n / 16 % 32
  | U7, n => n / 16 % 128
  | O5, n => n / 16 % 32 + 1
  | M1, n => n / 256 % 16
  | M2, n => n / 256 % 16 * 2
  | M4, n => n / 256 % 16 * 4
  | O1, n => n / 1024 % 2
  | I2, n => n / 256 % 4
  | T8, n => 2 * sg n 256
  | D, n => n / 2097152 % 32
  | A, n => n / 65536 % 32
  | B, n => n / 2048 % 32
  | S16, n => sg n 65536
  | L20, n => sg (n / 2048 % 16 * 65536 + n / 65536 % 32 * 2048 + n % 2048) 1048576
  | C8, n => bkN (n / 1024 % 2) (n / 256 % 4) (n % 256)
  | O2, n => n / 1048576 % 4
  | I4, n => n / 65536 % 16
  | T15, n => sg (n / 2 * 2) 65536
  | T24, n => sg (n / 2 * 2) 33554432

theorem l20_back (v : Int) (h : -524288 ≤ v ∧ v < 524288) (n : Int) (hn : n = v / 65536 % 16 * 2048 + v / 2048 % 32 * 65536 + v % 2048) :
    n / 2048 % 16 = v / 65536 % 16 ∧ n / 65536 % 32 = v / 2048 % 32 ∧ n % 2048 = v % 2048 := by
  have h0 : 0 ≤ v / 65536 % 16 ∧ v / 65536 % 16 < 16 := by omega
  have h1 : 0 ≤ v / 2048 % 32 ∧ v / 2048 % 32 < 32 := by omega
  have h2 : 0 ≤ v % 2048 ∧ v % 2048 < 2048 := by omega
  generalize v / 65536 % 16 = a at *
  generalize v / 2048 % 32 = b at *
  generalize v % 2048 = c at *
  omega
theorem Kn.val_bit (K : Kn) (v : Int) (h : K.ok v = true) : K.val (K.bit v) = v := by
  cases K
  case C8 =>
    obtain ⟨h1, h2, h3, h4⟩ := sci8_back v h
    simp only [Kn.val, Kn.bit]
    have e1 : ((sci8 v).1 * 1024 + (sci8 v).2.1 * 256 + (sci8 v).2.2.1) / 1024 % 2 = (sci8 v).1 := by omega
    have e2 : ((sci8 v).1 * 1024 + (sci8 v).2.1 * 256 + (sci8 v).2.2.1) / 256 % 4 = (sci8 v).2.1 := by omega
    have e3 : ((sci8 v).1 * 1024 + (sci8 v).2.1 * 256 + (sci8 v).2.2.1) % 256 = (sci8 v).2.2.1 := by omega
    rw [e1, e2, e3]; exact h4
  case L20 =>
    simp only [Kn.ok, decide_eq_true_eq] at h
    simp only [Kn.val, Kn.bit]
    obtain ⟨e1, e2, e3⟩ := l20_back v h _ rfl
    rw [e1, e2, e3]; unfold sg; omega
  all_goals
    simp only [Kn.ok, decide_eq_true_eq] at h
    simp only [Kn.val, Kn.bit, sg]
    omega

def Kn.at_ : Kn → Nat × Nat
  | X => (0, 4) | Y => (4, 4) | U5 => (4, 5) | U7 => (4, 7) | O5 => (4, 5) | M1 => (8, 4) | M2 => (8, 4) | M4 => (8, 4) | O1 => (10, 1) | I2 => (8, 2) | T8 => (0, 8)
  | D => (21, 5) | A => (16, 5) | B => (11, 5) | S16 => (0, 16) | L20 => (0, 21) | C8 => (0, 11) | O2 => (20, 2) | I4 => (16, 4) | T15 => (1, 15) | T24 => (1, 24)
def Kn.fm (K : Kn) : Nat := (2 ^ K.at_.2 - 1) * 2 ^ K.at_.1
theorem nat_field (n a b : Nat) : n &&& ((2 ^ b - 1) * 2 ^ a) = n / 2 ^ a % 2 ^ b * 2 ^ a := by
  have e : n &&& ((2 ^ b - 1) * 2 ^ a) = ((n / 2 ^ a) &&& (2 ^ b - 1)) * 2 ^ a := by
    apply Nat.eq_of_testBit_eq
    intro i
    rw [Nat.testBit_and, Nat.testBit_mul_two_pow, Nat.testBit_mul_two_pow, Nat.testBit_and, Nat.testBit_div_two_pow]
    by_cases h : a ≤ i
    · simp [h]
    · simp [h]
  rw [e, Nat.and_two_pow_sub_one_eq_mod]
theorem Kn.val_fm (K : Kn) (n : Nat) : K.val ((n &&& K.fm : Nat) : Int) = K.val (n : Int) := by
  unfold Kn.fm
  rw [nat_field]
  cases K
  case C8 =>
    simp only [Kn.val, Kn.at_]
    have e1 : (((n / 2 ^ 0 % 2 ^ 11 * 2 ^ 0 : Nat)) : Int) / 1024 % 2 = (n : Int) / 1024 % 2 := by omega
    have e2 : (((n / 2 ^ 0 % 2 ^ 11 * 2 ^ 0 : Nat)) : Int) / 256 % 4 = (n : Int) / 256 % 4 := by omega
    have e3 : (((n / 2 ^ 0 % 2 ^ 11 * 2 ^ 0 : Nat)) : Int) % 256 = (n : Int) % 256 := by omega
    rw [e1, e2, e3]
  case L20 =>
    simp only [Kn.val, Kn.at_]
    have e1 : (((n / 2 ^ 0 % 2 ^ 21 * 2 ^ 0 : Nat)) : Int) / 2048 % 16 = (n : Int) / 2048 % 16 := by omega
    have e2 : (((n / 2 ^ 0 % 2 ^ 21 * 2 ^ 0 : Nat)) : Int) / 65536 % 32 = (n : Int) / 65536 % 32 := by omega
    have e3 : (((n / 2 ^ 0 % 2 ^ 21 * 2 ^ 0 : Nat)) : Int) % 2048 = (n : Int) % 2048 := by omega
    rw [e1, e2, e3]
  all_goals
    simp only [Kn.val, Kn.at_, sg]
    omega
theorem Kn.bit_in (K : Kn) (v : Int) (h : K.ok v = true) : 0 ≤ K.bit v ∧ (K.bit v).toNat &&& K.fm = (K.bit v).toNat := by
  unfold Kn.fm
  rw [nat_field]
  cases K
  case C8 =>
    obtain ⟨h1, h2, h3, _⟩ := sci8_back v h
    simp only [Kn.bit, Kn.at_]
    omega
  all_goals
    simp only [Kn.ok, decide_eq_true_eq] at h
    simp only [Kn.bit, Kn.at_]
    omega
def okA : List Kn → List Int → Bool
  | [], [] => true
  | K :: Ks, v :: l => K.ok v && okA Ks l
  | _, _ => false
def orA : Nat → List Kn → List Int → Nat
  | n, K :: Ks, v :: l => orA (n ||| (K.bit v).toNat) Ks l
  | n, _, _ => n
theorem okA_len : ∀ {Ks : List Kn} {l : List Int}, okA Ks l = true → l.length = Ks.length
  | [], [], _ => rfl
  | K :: Ks, v :: l, h => by
    simp only [okA, Bool.and_eq_true] at h
    simp [okA_len h.2]
  | [], _ :: _, h => by simp [okA] at h
  | _ :: _, [], h => by simp [okA] at h
theorem fm_lt (K : Kn) : K.fm < 4294967296 := by cases K <;> decide
theorem and_le {a b : Nat} (h : a &&& b = a) : a ≤ b := by rw [← h]; exact Nat.and_le_right
theorem bit_lt (K : Kn) (v : Int) (h : K.ok v = true) : 0 ≤ K.bit v ∧ K.bit v < 4294967296 := by
  obtain ⟨h0, h1⟩ := K.bit_in v h
  have := and_le h1
  have := fm_lt K
  omega
theorem orA_lt : ∀ {Ks : List Kn} {l : List Int} {n : Nat}, n < 4294967296 → okA Ks l = true → orA n Ks l < 4294967296
  | [], [], n, h, _ => h
  | K :: Ks, v :: l, n, h, ho => by
    simp only [okA, Bool.and_eq_true] at ho
    have := bit_lt K v ho.1
    show orA (n ||| (K.bit v).toNat) Ks l < 4294967296
    exact orA_lt (Nat.or_lt_two_pow (n := 32) h (by omega : (K.bit v).toNat < 2 ^ 32)) ho.2
  | [], _ :: _, n, h, _ => h
  | _ :: _, [], n, h, _ => h
end Go.Ab
set_option maxRecDepth 100000
namespace Go.Ab
theorem in_is (v : Int) (n s : Int) (hn : 0 ≤ n ∧ n ≤ 128) (hs : s = 1 ∨ s = 2 ∨ s = 4) : r2_in v n s = some (decide (0 ≤ v ∧ v < n * s ∧ v % s = 0)) := by
  rw [r2_in.eq]; unfold r2_in_b
  have e : w64 (n * s) = n * s := by rcases hs with rfl | rfl | rfl <;> exact w64_in (by omega) (by omega)
  have hs0 : decide (s ≠ 0) = true := decide_eq_true (by rcases hs with rfl | rfl | rfl <;> decide)
  rw [e]
  by_cases c : v ≥ 0
  · rw [decide_eq_true c, cond_true]
    by_cases d : v < n * s
    · rw [decide_eq_true d, cond_true, hs0, cond_true, Int.tmod_eq_emod_of_nonneg (by omega)]
      congr 1
      rw [Bool.eq_iff_iff, beq_iff_eq, decide_eq_true_iff]; omega
    · rw [decide_eq_false d, cond_false]
      congr 1; symm; exact decide_eq_false (fun h => d h.2.1)
  · rw [decide_eq_false c, cond_false]; congr 1; symm; exact decide_eq_false (fun h => c h.1)
theorem fits_is (v : Int) (b : Int) (m : Int) (h : (b = 9 ∧ m = 256) ∨ (b = 16 ∧ m = 32768) ∨ (b = 20 ∧ m = 524288) ∨ (b = 25 ∧ m = 16777216)) : r1_Fits v b = some (decide (-m ≤ v ∧ v < m)) := by
  rcases h with ⟨rfl, rfl⟩ | ⟨rfl, rfl⟩ | ⟨rfl, rfl⟩ | ⟨rfl, rfl⟩
  · exact (r1_fits v 9 256 (by decide) (by decide) (by decide) rfl).trans rfl
  · exact (r1_fits v 16 32768 (by decide) (by decide) (by decide) rfl).trans rfl
  · exact (r1_fits v 20 524288 (by decide) (by decide) (by decide) rfl).trans rfl
  · exact (r1_fits v 25 16777216 (by decide) (by decide) (by decide) rfl).trans rfl
theorem tmod2 (v : Int) : Int.tmod v 2 = 0 ↔ v % 2 = 0 := by
  rw [Int.tmod_eq_emod]; split <;> omega
theorem even_is (v : Int) (b : Int) (m : Int) (h : (b = 9 ∧ m = 256) ∨ (b = 16 ∧ m = 32768) ∨ (b = 20 ∧ m = 524288) ∨ (b = 25 ∧ m = 16777216)) : r2_even v b = some (decide (v % 2 = 0 ∧ -m ≤ v ∧ v < m)) := by
  rw [r2_even.eq]; unfold r2_even_b
  rw [fits_is v b m h]
  by_cases c : v % 2 = 0
  · rw [show (Int.tmod v 2 == 0) = true from beq_iff_eq.2 ((tmod2 v).2 c)]
    simp [c]
  · rw [show (Int.tmod v 2 == 0) = false from beq_eq_false_iff_ne.2 (fun h => c ((tmod2 v).1 h))]
    simp [c]
theorem shl_i (x : Int) (m : Nat) (hm : m ≤ 63) : shlI .i64 x (m : Int) = w64 (x * 2 ^ m) := by
  unfold shlI
  rw [show min (Int.toNat (m : Int)) IntKind.i64.bits = m by simp [IntKind.bits]; omega]
theorem may_is (K : Kn) (v : Int) (w0 : inI v) : r2_May K.str v = some (K.ok v) := by
  have h0 : -9223372036854775808 ≤ v := w0.1
  have h1 : v ≤ 9223372036854775807 := w0.2
  have i1 : ∀ n, 0 ≤ n ∧ n ≤ 128 → ((r2_in v n 1).bind fun r => some r) = some (decide (0 ≤ v ∧ v < n)) := fun n hn => by
    rw [in_is v n 1 hn (.inl rfl)]; exact congrArg some (decide_eq_decide.2 (by omega))
  cases K
  case X =>
    show r2_May s_X v = _
    rw [may_X]; unfold Kn.ok
    by_cases c : v ≥ 0
    · rw [decide_eq_true c, cond_true]
      by_cases d : v ≤ 7
      · rw [decide_eq_true d, cond_true]; congr 1; symm; exact decide_eq_true (Or.inl ⟨c, d⟩)
      · rw [decide_eq_false d, cond_false]
        by_cases e : v ≥ 24
        · rw [decide_eq_true e, cond_true]; congr 1; apply decide_eq_decide.2; omega
        · rw [decide_eq_false e, cond_false]; congr 1; symm; exact decide_eq_false (by omega)
    · rw [decide_eq_false c, cond_false, decide_eq_false (by omega : ¬ v ≥ 24), cond_false]; congr 1; symm; exact decide_eq_false (by omega)
  case Y =>
    show r2_May s_Y v = _
    rw [may_Y]; unfold Kn.ok
    by_cases c : v ≥ 0
    · rw [decide_eq_true c, cond_true]
      by_cases d : v ≤ 7
      · rw [decide_eq_true d, cond_true]; congr 1; symm; exact decide_eq_true (Or.inl ⟨c, d⟩)
      · rw [decide_eq_false d, cond_false]
        by_cases e : v ≥ 24
        · rw [decide_eq_true e, cond_true]; congr 1; apply decide_eq_decide.2; omega
        · rw [decide_eq_false e, cond_false]; congr 1; symm; exact decide_eq_false (by omega)
    · rw [decide_eq_false c, cond_false, decide_eq_false (by omega : ¬ v ≥ 24), cond_false]; congr 1; symm; exact decide_eq_false (by omega)
  case U5 => exact (may_U5 v).trans (i1 32 (by decide))
  case U7 => exact (may_U7 v).trans (i1 128 (by decide))
  case D => exact (may_D v).trans (i1 32 (by decide))
  case A => exact (may_A v).trans (i1 32 (by decide))
  case B => exact (may_B v).trans (i1 32 (by decide))
  case M1 => exact (may_M1 v).trans (i1 16 (by decide))
  case I4 => exact (may_I4 v).trans (i1 16 (by decide))
  case O1 => exact (may_O1 v).trans (i1 2 (by decide))
  case I2 => exact (may_I2 v).trans (i1 4 (by decide))
  case O2 => exact (may_O2 v).trans (i1 4 (by decide))
  case O5 =>
    refine (may_O5 v).trans ?_
    rw [in_is _ 32 1 (by decide) (.inl rfl)]
    refine congrArg some (decide_eq_decide.2 ?_)
    by_cases c : v = -9223372036854775808
    · subst c; decide
    · rw [w64_in (n := v - 1) (by omega) (by omega)]; omega
  case M2 =>
    refine (may_M2 v).trans ?_
    rw [in_is _ 16 2 (by decide) (.inr (.inl rfl))]
    exact congrArg some (decide_eq_decide.2 (by omega))
  case M4 =>
    refine (may_M4 v).trans ?_
    rw [in_is _ 16 4 (by decide) (.inr (.inr rfl))]
    exact congrArg some (decide_eq_decide.2 (by omega))
  case T8 =>
    refine (r2_May.eq _ _).trans (Eq.trans (b := (r2_wide s_T8 v).bind fun r => some r) (by kernel_rfl) ?_)
    rw [show r2_wide s_T8 v = (r2_even v 9).bind fun r => some r from (r2_wide.eq _ _).trans (by kernel_rfl), even_is v 9 256 (.inl ⟨rfl, rfl⟩)]; rfl
  case T15 =>
    refine (r2_May.eq _ _).trans (Eq.trans (b := (r2_wide s_T15 v).bind fun r => some r) (by kernel_rfl) ?_)
    rw [show r2_wide s_T15 v = (r2_even v 16).bind fun r => some r from (r2_wide.eq _ _).trans (by kernel_rfl), even_is v 16 32768 (.inr (.inl ⟨rfl, rfl⟩))]; rfl
  case T24 =>
    refine (r2_May.eq _ _).trans (Eq.trans (b := (r2_wide s_T24 v).bind fun r => some r) (by kernel_rfl) ?_)
    rw [show r2_wide s_T24 v = (r2_even v 25).bind fun r => some r from (r2_wide.eq _ _).trans (by kernel_rfl), even_is v 25 16777216 (.inr (.inr (.inr ⟨rfl, rfl⟩)))]; rfl
  case S16 =>
    refine (r2_May.eq _ _).trans (Eq.trans (b := (r2_wide s_S16 v).bind fun r => some r) (by kernel_rfl) ?_)
    rw [show r2_wide s_S16 v = (r1_Fits v 16).bind fun r => some r from (r2_wide.eq _ _).trans (by kernel_rfl), fits_is v 16 32768 (.inr (.inl ⟨rfl, rfl⟩))]; rfl
  case L20 =>
    refine (r2_May.eq _ _).trans (Eq.trans (b := (r2_wide s_L20 v).bind fun r => some r) (by kernel_rfl) ?_)
    rw [show r2_wide s_L20 v = (r1_Fits v 20).bind fun r => some r from (r2_wide.eq _ _).trans (by kernel_rfl), fits_is v 20 524288 (.inr (.inr (.inl ⟨rfl, rfl⟩)))]; rfl
  case C8 =>
    refine (r2_May.eq _ _).trans (Eq.trans (b := (r2_wide s_C8 v).bind fun r => some r) (by kernel_rfl) ?_)
    rw [show r2_wide s_C8 v = (r1_Sci8 v).bind fun r => some r.2.2.2 from (r2_wide.eq _ _).trans (by kernel_rfl), sci8_r1]; rfl
theorem orI_join (j : Nat) (a b : Int) (ha : 0 ≤ a ∧ a < 4294967296) (hd : a % 2 ^ j = 0) (hb : 0 ≤ b ∧ b < 2 ^ j) (hj : j ≤ 31) : orI .i64 a b = a + b := by
  have e : orI .i64 a b = w64 ((Ui a ||| Ui b : Nat) : Int) := by
    show IntKind.i64.wrap _ = IntKind.i64.wrap _
    rw [← BitVec.toNat_or]; rfl
  have hp : (2 : Int) ^ j ≤ 2147483648 := by
    have : (2 : Nat) ^ j ≤ 2 ^ 31 := Nat.pow_le_pow_right (by decide) hj
    have h2 : ((2 ^ j : Nat) : Int) = (2 : Int) ^ j := by simp
    omega
  obtain ⟨n, rfl⟩ := Int.eq_ofNat_of_zero_le ha.1
  obtain ⟨m, rfl⟩ := Int.eq_ofNat_of_zero_le hb.1
  have e1 : Ui (n : Int) = n := by have := Ui_eq (n : Int); omega
  have e2 : Ui (m : Int) = m := by have := Ui_eq (m : Int); omega
  have hc : ((2 ^ j : Nat) : Int) = (2 : Int) ^ j := by simp
  have hd' : n % 2 ^ j = 0 := by rw [← hc] at hd; omega
  have hm : m < 2 ^ j := by rw [← hc] at hb; omega
  have e3 : n = 2 ^ j * (n / 2 ^ j) := by have := Nat.div_add_mod n (2 ^ j); omega
  have e4 : n ||| m = n + m := by
    rw [e3, Nat.two_pow_add_eq_or_of_lt hm]
  rw [e, e1, e2, e4, w64_in (by omega) (by omega)]; omega
theorem orI_comm (a b : Int) : orI .i64 a b = orI .i64 b a := by
  show IntKind.i64.wrap _ = IntKind.i64.wrap _
  rw [BitVec.or_comm]
theorem or3 (a b c : Int) (ha : 0 ≤ a ∧ a < 16) (hb : 0 ≤ b ∧ b < 32) (hc : 0 ≤ c ∧ c < 2048) : orI .i64 (orI .i64 (a * 2048) (b * 65536)) c = a * 2048 + b * 65536 + c := by
  rw [orI_comm (a * 2048), orI_join 16 (b * 65536) (a * 2048) (by omega) (by omega) (by omega) (by omega), orI_join 11 _ _ (by omega) (by omega) (by omega) (by omega)]
  omega
theorem or3c (f s u : Int) (hf : f = 0 ∨ f = 1) (hs : 0 ≤ s ∧ s < 4) (hu : 0 ≤ u ∧ u < 256) : orI .i64 (orI .i64 (f * 1024) (s * 256)) u = f * 1024 + s * 256 + u := by
  rw [orI_join 10 (f * 1024) (s * 256) (by omega) (by omega) (by omega) (by omega), orI_join 8 _ _ (by omega) (by omega) (by omega) (by omega)]
theorem andI_mask (a : Int) (j : Nat) (hj : j ≤ 31) : andI .i64 a ((2 ^ j - 1 : Nat) : Int) = a % ((2 ^ j : Nat) : Int) := by
  have e : andI .i64 a ((2 ^ j - 1 : Nat) : Int) = w64 ((Ui a &&& Ui ((2 ^ j - 1 : Nat) : Int) : Nat) : Int) := by
    show IntKind.i64.wrap _ = IntKind.i64.wrap _
    rw [← BitVec.toNat_and]; rfl
  have hp : 2 ^ j ≤ 2 ^ 31 := Nat.pow_le_pow_right (by decide) hj
  have hp0 : 0 < 2 ^ j := Nat.two_pow_pos j
  have h1 : Ui ((2 ^ j - 1 : Nat) : Int) = 2 ^ j - 1 := by have := Ui_eq ((2 ^ j - 1 : Nat) : Int); omega
  rw [e, h1, Nat.and_two_pow_sub_one_eq_mod]
  have h2 := Ui_eq a
  have hd : (((2 ^ j : Nat) : Int)) ∣ 18446744073709551616 := by
    have : (2 ^ j : Nat) ∣ 2 ^ 64 := Nat.pow_dvd_pow 2 (by omega)
    have := Int.natCast_dvd_natCast.2 this
    simpa using this
  have h3 : ((Ui a % 2 ^ j : Nat) : Int) = a % ((2 ^ j : Nat) : Int) := by
    rw [Int.natCast_emod, h2, Int.emod_emod_of_dvd _ hd]
  have h4 := Int.emod_nonneg a (by omega : ((2 ^ j : Nat) : Int) ≠ 0)
  have h5 := Int.emod_lt_of_pos a (by omega : 0 < ((2 ^ j : Nat) : Int))
  rw [h3, w64_in (by omega) (by omega)]
theorem long_L20 (v : Int) : r2_long s_L20 v = (r1_Split v).bind fun r => some (orI .i64 (orI .i64 (shlI .i64 r.1 11) (shlI .i64 r.2.1 16)) r.2.2) := (r2_long.eq _ _).trans (by kernel_rfl)
theorem split_is (v : Int) : r1_Split v = some (v / 65536 % 16, v / 2048 % 32, v % 2048) := by
  rw [r1_Split.eq]; unfold r1_Split_b
  have s16 : shrI .i64 v 16 = v / 65536 := by
    unfold shrI; rw [Int.fdiv_eq_ediv_of_nonneg _ (by decide)]; rfl
  have s11 : shrI .i64 v 11 = v / 2048 := by
    unfold shrI; rw [Int.fdiv_eq_ediv_of_nonneg _ (by decide)]; rfl
  have a15 : ∀ x, andI .i64 x 15 = x % 16 := fun x => andI_mask x 4 (by decide)
  have a31 : ∀ x, andI .i64 x 31 = x % 32 := fun x => andI_mask x 5 (by decide)
  have a2047 : ∀ x, andI .i64 x 2047 = x % 2048 := fun x => andI_mask x 11 (by decide)
  simp only [s16, s11, a15, a31, a2047]
theorem rput_is (K : Kn) (v : Int) (h : K.ok v = true) : r2_put K.str v = some (K.bit v) := by
  have sh : ∀ (x : Int) (m : Nat), m ≤ 63 → -9223372036854775808 ≤ x * 2 ^ m → x * 2 ^ m ≤ 9223372036854775807 → shlI .i64 x (m : Int) = x * 2 ^ m := fun x m hm h0 h1 => by
    rw [shl_i x m hm, w64_in h0 (by omega)]
  have et : 0 ≤ v → Int.tdiv v 2 = v / 2 ∧ Int.tdiv v 4 = v / 4 := fun h => ⟨Int.tdiv_eq_ediv_of_nonneg h, Int.tdiv_eq_ediv_of_nonneg h⟩
  have w : ∀ x : Int, -9223372036854775808 ≤ x → x ≤ 9223372036854775807 → w64 x = x := fun x h0 h1 => w64_in h0 (by omega)
  cases K
  case C8 =>
    obtain ⟨h1, h2, h3, _⟩ := sci8_back v h
    refine (r2_put.eq _ _).trans (Eq.trans (b := (r2_long s_C8 v).bind fun r => some r) (by kernel_rfl) ?_)
    rw [show r2_long s_C8 v = (r1_Sci8 v).bind fun r => some (orI .i64 (orI .i64 (shlI .i64 r.1 10) (shlI .i64 r.2.1 8)) r.2.2.1) from (r2_long.eq _ _).trans (by kernel_rfl), sci8_r1]
    show some (orI .i64 (orI .i64 (shlI .i64 (sci8 v).1 10) (shlI .i64 (sci8 v).2.1 8)) (sci8 v).2.2.1) = some (Kn.C8.bit v)
    simp only [Kn.bit]
    generalize (sci8 v).1 = a at *
    generalize (sci8 v).2.1 = b at *
    generalize (sci8 v).2.2.1 = c at *
    have e1 := sh a 10 (by decide) (by omega) (by omega)
    have e2 := sh b 8 (by decide) (by omega) (by omega)
    have e1' : shlI .i64 a 10 = a * 1024 := e1
    have e2' : shlI .i64 b 8 = b * 256 := e2
    rw [e1', e2']
    exact congrArg some (or3c _ _ _ h1 h2 h3)
  case L20 =>
    refine (r2_put.eq _ _).trans (Eq.trans (b := (r2_long s_L20 v).bind fun r => some r) (by kernel_rfl) ?_)
    rw [long_L20, split_is]
    simp only [Option.bind_some, Kn.bit]
    have e1 := sh (v / 65536 % 16) 11 (by decide) (by omega) (by omega)
    have e2 := sh (v / 2048 % 32) 16 (by decide) (by omega) (by omega)
    have e1' : shlI .i64 (v / 65536 % 16) 11 = v / 65536 % 16 * 2048 := e1
    have e2' : shlI .i64 (v / 2048 % 32) 16 = v / 2048 % 32 * 65536 := e2
    rw [e1', e2']
    exact congrArg some (or3 _ _ _ (by omega) (by omega) (by omega))
  all_goals simp only [Kn.ok, decide_eq_true_eq] at h
  case X =>
    refine (r2_put.eq _ _).trans (Eq.trans (b := (r2_four v).bind fun r => some r) (by kernel_rfl) ?_)
    rw [r2_four.eq]; unfold r2_four_b; simp only [Kn.bit]
    by_cases c : v > 7
    · rw [decide_eq_true c, cond_true, w (v - 16) (by omega) (by omega)]; exact congrArg some (by omega)
    · rw [decide_eq_false c, cond_false]; exact congrArg some (by omega)
  case Y =>
    refine (r2_put.eq _ _).trans (Eq.trans (b := (r2_four v).bind fun r => some (shlI .i64 r 4)) (by kernel_rfl) ?_)
    rw [r2_four.eq]; unfold r2_four_b; simp only [Kn.bit]
    by_cases c : v > 7
    · rw [decide_eq_true c, cond_true, w (v - 16) (by omega) (by omega)]
      exact congrArg some ((sh (v - 16) 4 (by decide) (by omega) (by omega)).trans (by omega))
    · rw [decide_eq_false c, cond_false]
      exact congrArg some ((sh v 4 (by decide) (by omega) (by omega)).trans (by omega))
  case U5 => exact (put_U5 v).trans (congrArg some ((sh v 4 (by decide) (by omega) (by omega)).trans (by simp only [Kn.bit]; omega)))
  case U7 => exact (put_U7 v).trans (congrArg some ((sh v 4 (by decide) (by omega) (by omega)).trans (by simp only [Kn.bit]; omega)))
  case O5 => exact (put_O5 v).trans (congrArg some (by rw [w (v - 1) (by omega) (by omega)]; exact (sh (v - 1) 4 (by decide) (by omega) (by omega)).trans (by simp only [Kn.bit]; omega)))
  case M1 => exact (put_M1 v).trans (congrArg some ((sh v 8 (by decide) (by omega) (by omega)).trans (by simp only [Kn.bit]; omega)))
  case I2 => exact (put_I2 v).trans (congrArg some ((sh v 8 (by decide) (by omega) (by omega)).trans (by simp only [Kn.bit]; omega)))
  case M2 => exact (put_M2 v).trans (congrArg some (by rw [(et (by omega)).1, w (v / 2) (by omega) (by omega)]; exact (sh (v / 2) 8 (by decide) (by omega) (by omega)).trans (by simp only [Kn.bit]; omega)))
  case M4 => exact (put_M4 v).trans (congrArg some (by rw [(et (by omega)).2, w (v / 4) (by omega) (by omega)]; exact (sh (v / 4) 8 (by decide) (by omega) (by omega)).trans (by simp only [Kn.bit]; omega)))
  case O1 => exact (put_O1 v).trans (congrArg some ((sh v 10 (by decide) (by omega) (by omega)).trans (by simp only [Kn.bit]; omega)))
  case D => exact (put_D v).trans (congrArg some ((sh v 21 (by decide) (by omega) (by omega)).trans (by simp only [Kn.bit]; omega)))
  case A => exact (put_A v).trans (congrArg some ((sh v 16 (by decide) (by omega) (by omega)).trans (by simp only [Kn.bit]; omega)))
  case B => exact (put_B v).trans (congrArg some ((sh v 11 (by decide) (by omega) (by omega)).trans (by simp only [Kn.bit]; omega)))
  case O2 => exact (put_O2 v).trans (congrArg some ((sh v 20 (by decide) (by omega) (by omega)).trans (by simp only [Kn.bit]; omega)))
  case I4 => exact (put_I4 v).trans (congrArg some ((sh v 16 (by decide) (by omega) (by omega)).trans (by simp only [Kn.bit]; omega)))
  case T8 =>
    have et : Int.tdiv v 2 = v / 2 := by rw [Int.tdiv_eq_ediv]; split <;> omega
    refine ((r2_put.eq _ _).trans (by kernel_rfl : _ = some (andI .i64 (w64 (Int.tdiv v 2)) 255))).trans (congrArg some ?_)
    rw [et, w (v / 2) (by omega) (by omega)]
    exact andI_mask (v / 2) 8 (by decide)
  case S16 =>
    refine (r2_put.eq _ _).trans (Eq.trans (b := (r2_long s_S16 v).bind fun r => some r) (by kernel_rfl) ?_)
    rw [show r2_long s_S16 v = some (andI .i64 v 65535) from (r2_long.eq _ _).trans (by kernel_rfl)]
    exact congrArg some (andI_mask v 16 (by decide))
  case T15 =>
    refine (r2_put.eq _ _).trans (Eq.trans (b := (r2_long s_T15 v).bind fun r => some r) (by kernel_rfl) ?_)
    rw [show r2_long s_T15 v = some (andI .i64 v 65535) from (r2_long.eq _ _).trans (by kernel_rfl)]
    exact congrArg some (andI_mask v 16 (by decide))
  case T24 =>
    refine (r2_put.eq _ _).trans (Eq.trans (b := (r2_long s_T24 v).bind fun r => some r) (by kernel_rfl) ?_)
    rw [show r2_long s_T24 v = some (andI .i64 v 33554431) from (r2_long.eq _ _).trans (by kernel_rfl)]
    exact congrArg some (andI_mask v 25 (by decide))
end Go.Ab
set_option maxRecDepth 100000
namespace Go.Ab
theorem Kn.mem (K : Kn) : (allK.any fun k => eqS K.str k) = true := by cases K <;> kernel_rfl
theorem sgB_sg (h v : Int) (hh : 0 < h) : sgB h v = sg v (2 * h) := by
  unfold sgB sg
  have h1 := Int.emod_nonneg v (by omega : 2 * h ≠ 0)
  have h2 := Int.emod_lt_of_pos v (by omega : 0 < 2 * h)
  have e : (2 * h) / 2 = h := Int.mul_ediv_cancel_left _ (by decide)
  have e2 : (v + h) % (2 * h) = (v % (2 * h) + h) % (2 * h) := by rw [Int.emod_add_emod]
  rw [e, e2]
  generalize v % (2 * h) = y at h1 h2
  split
  · rw [Int.emod_eq_of_lt (by omega) (by omega)]; omega
  · have : (y + h) % (2 * h) = y + h - 2 * h := by
      rw [← Int.sub_emod_right (y + h) (2 * h), Int.emod_eq_of_lt (by omega) (by omega)]
    rw [this]; omega
theorem shr_i (x : Int) (m : Nat) (hm : m ≤ 63) : shrI .i64 x (m : Int) = x / 2 ^ m := by
  unfold shrI
  rw [Int.fdiv_eq_ediv_of_nonneg _ (Int.le_of_lt (Int.pow_pos (by decide))), show min (Int.toNat (m : Int)) IntKind.i64.bits = m by simp [IntKind.bits]; omega]
theorem take_is (K : Kn) (n : Int) (w0 : inU n) : r2_take K.str n = some (K.val n) := by
  have a1 : ∀ x, andI .i64 x 1 = x % 2 := fun x => andI_mask x 1 (by decide)
  have a3 : ∀ x, andI .i64 x 3 = x % 4 := fun x => andI_mask x 2 (by decide)
  have a15 : ∀ x, andI .i64 x 15 = x % 16 := fun x => andI_mask x 4 (by decide)
  have a31 : ∀ x, andI .i64 x 31 = x % 32 := fun x => andI_mask x 5 (by decide)
  have a127 : ∀ x, andI .i64 x 127 = x % 128 := fun x => andI_mask x 7 (by decide)
  have a255 : ∀ x, andI .i64 x 255 = x % 256 := fun x => andI_mask x 8 (by decide)
  have a2047 : ∀ x, andI .i64 x 2047 = x % 2048 := fun x => andI_mask x 11 (by decide)
  have s4 : shrI .i64 n 4 = n / 16 := shr_i n 4 (by decide)
  have s8 : shrI .i64 n 8 = n / 256 := shr_i n 8 (by decide)
  have s10 : shrI .i64 n 10 = n / 1024 := shr_i n 10 (by decide)
  have s11 : shrI .i64 n 11 = n / 2048 := shr_i n 11 (by decide)
  have s16 : shrI .i64 n 16 = n / 65536 := shr_i n 16 (by decide)
  have s20 : shrI .i64 n 20 = n / 1048576 := shr_i n 20 (by decide)
  have s21 : shrI .i64 n 21 = n / 2097152 := shr_i n 21 (by decide)
  have w : ∀ x : Int, -9223372036854775808 ≤ x → x ≤ 9223372036854775807 → w64 x = x := fun x h0 h1 => w64_in h0 (by omega)
  cases K
  case X =>
    refine (r2_take.eq _ _).trans (Eq.trans (b := (r2_eight n).bind fun r => some r) (by kernel_rfl) ?_)
    rw [eight_ref, Option.bind_some]; simp only [Kn.val]
    exact congrArg some (by split <;> omega)
  case Y =>
    refine (r2_take.eq _ _).trans (Eq.trans (b := (r2_eight (shrI .i64 n 4)).bind fun r => some r) (by kernel_rfl) ?_)
    rw [eight_ref, Option.bind_some, s4]; simp only [Kn.val]
    exact congrArg some (by split <;> omega)
  case U5 => exact (take_U5 n).trans (congrArg some (by rw [s4, a31]; rfl))
  case U7 => exact (take_U7 n).trans (congrArg some (by rw [s4, a127]; rfl))
  case O5 => exact (take_O5 n).trans (congrArg some (by rw [s4, a31, w _ (by omega) (by omega)]; rfl))
  case M1 => exact (take_M1 n).trans (congrArg some (by rw [s8, a15]; rfl))
  case M2 => exact (take_M2 n).trans (congrArg some (by rw [s8, a15, w _ (by omega) (by omega)]; simp only [Kn.val]; omega))
  case M4 => exact (take_M4 n).trans (congrArg some (by rw [s8, a15, w _ (by omega) (by omega)]; simp only [Kn.val]; omega))
  case O1 => exact (take_O1 n).trans (congrArg some (by rw [s10, a1]; rfl))
  case I2 => exact (take_I2 n).trans (congrArg some (by rw [s8, a3]; rfl))
  case D => exact (take_D n).trans (congrArg some (by rw [s21, a31]; rfl))
  case A => exact (take_A n).trans (congrArg some (by rw [s16, a31]; rfl))
  case B => exact (take_B n).trans (congrArg some (by rw [s11, a31]; rfl))
  case O2 => exact (take_O2 n).trans (congrArg some (by rw [s20, a3]; rfl))
  case I4 => exact (take_I4 n).trans (congrArg some (by rw [s16, a15]; rfl))
  case T8 =>
    refine (r2_take.eq _ _).trans (Eq.trans (b := (r1_Sign n 8).bind fun r => some (w64 (2 * r))) (by kernel_rfl) ?_)
    have h := r1_sign_eq n 8 128 (by simp) (by decide)
    rw [sgB_sg _ _ (by decide)] at h
    have h' : r1_Sign n 8 = some (sg n 256) := h
    rw [h', Option.bind_some]
    exact congrArg some (w _ (by unfold sg; omega) (by unfold sg; omega))
  case S16 =>
    refine (r2_take.eq _ _).trans (Eq.trans (b := (r2_takes s_S16 n).bind fun r => some r) (by kernel_rfl) ?_)
    have h := r1_sign_eq n 16 32768 (by simp) (by decide)
    rw [sgB_sg _ _ (by decide)] at h
    have h' : r1_Sign n 16 = some (sg n 65536) := h
    rw [show r2_takes s_S16 n = (r1_Sign n 16).bind fun r => some r from (r2_takes.eq _ _).trans (by kernel_rfl), h']; rfl
  case T15 =>
    refine (r2_take.eq _ _).trans (Eq.trans (b := (r2_takes s_T15 n).bind fun r => some r) (by kernel_rfl) ?_)
    have h2 : r1_Sign (andI .i64 n 65534) 16 = some (sgB 32768 (n - n % 2)) := by
      rw [show some (sgB 32768 (n - n % 2)) = some (sgB 32768 (andI .i64 n 65534)) from congrArg _ (sgB_mod _ _ _ (and_even n w0 15 (.inl rfl)).symm)]
      exact r1_sign_eq _ 16 32768 (by simp) (by decide)
    rw [sgB_sg _ _ (by decide)] at h2
    rw [show r2_takes s_T15 n = (r1_Sign (andI .i64 n 65534) 16).bind fun r => some r from (r2_takes.eq _ _).trans (by kernel_rfl), h2]
    show some (sg (n - n % 2) (2 * 32768)) = some (sg (n / 2 * 2) 65536)
    rw [show n - n % 2 = n / 2 * 2 by omega]; rfl
  case T24 =>
    refine (r2_take.eq _ _).trans (Eq.trans (b := (r2_takes s_T24 n).bind fun r => some r) (by kernel_rfl) ?_)
    have h2 : r1_Sign (andI .i64 n 33554430) 25 = some (sgB 16777216 (n - n % 2)) := by
      rw [show some (sgB 16777216 (n - n % 2)) = some (sgB 16777216 (andI .i64 n 33554430)) from congrArg _ (sgB_mod _ _ _ (and_even n w0 24 (.inr rfl)).symm)]
      exact r1_sign_eq _ 25 16777216 (by simp) (by decide)
    rw [sgB_sg _ _ (by decide)] at h2
    rw [show r2_takes s_T24 n = (r1_Sign (andI .i64 n 33554430) 25).bind fun r => some r from (r2_takes.eq _ _).trans (by kernel_rfl), h2]
    show some (sg (n - n % 2) (2 * 16777216)) = some (sg (n / 2 * 2) 33554432)
    rw [show n - n % 2 = n / 2 * 2 by omega]; rfl
  case C8 =>
    refine (r2_take.eq _ _).trans (Eq.trans (b := (r2_takes s_C8 n).bind fun r => some r) (by kernel_rfl) ?_)
    rw [show r2_takes s_C8 n = (r1_Back (andI .i64 (shrI .i64 n 10) 1) (andI .i64 (shrI .i64 n 8) 3) (andI .i64 n 255)).bind fun r => some r from (r2_takes.eq _ _).trans (by kernel_rfl), s10, s8, a1, a3, a255]
    have hz : byt (n % 256) := ⟨by omega, by omega⟩
    have h' := r1_back_eq (decide (n / 1024 % 2 = 1)) (n / 256 % 4).toNat hz
    have e1 : (if decide (n / 1024 % 2 = 1) = true then (1 : Int) else 0) = n / 1024 % 2 := by
      by_cases h : n / 1024 % 2 = 1
      · rw [decide_eq_true h]; simp [h]
      · rw [decide_eq_false h]; simp; omega
    rw [e1, Int.toNat_of_nonneg (by omega)] at h'
    rw [h']; rfl
  case L20 =>
    refine (r2_take.eq _ _).trans (Eq.trans (b := (r2_takes s_L20 n).bind fun r => some r) (by kernel_rfl) ?_)
    rw [show r2_takes s_L20 n = (r1_Joined (andI .i64 (shrI .i64 n 11) 15) (andI .i64 (shrI .i64 n 16) 31) (andI .i64 n 2047)).bind fun r => some r from (r2_takes.eq _ _).trans (by kernel_rfl), s11, s16, a15, a31, a2047]
    rw [r1_Joined.eq]; unfold r1_Joined_b
    have e1 : shlI .i64 (n / 2048 % 16) 16 = n / 2048 % 16 * 65536 := (shl_i _ 16 (by decide)).trans (w64_in (by omega) (by omega))
    have e2 : shlI .i64 (n / 65536 % 32) 11 = n / 65536 % 32 * 2048 := (shl_i _ 11 (by decide)).trans (w64_in (by omega) (by omega))
    rw [e1, e2, orI_join 16 (n / 2048 % 16 * 65536) (n / 65536 % 32 * 2048) (by omega) (by omega) (by omega) (by decide), orI_join 11 (n / 2048 % 16 * 65536 + n / 65536 % 32 * 2048) (n % 2048) (by omega) (by omega) (by omega) (by decide)]
    have h := r1_sign_eq (n / 2048 % 16 * 65536 + n / 65536 % 32 * 2048 + n % 2048) 20 524288 (by simp) (by decide)
    rw [sgB_sg _ _ (by decide)] at h
    have h' : r1_Sign (n / 2048 % 16 * 65536 + n / 65536 % 32 * 2048 + n % 2048) 20 = some (sg (n / 2048 % 16 * 65536 + n / 65536 % 32 * 2048 + n % 2048) 1048576) := h
    rw [h']; rfl
theorem get_is (K : Kn) (n : Int) (w0 : inU n) : isa_get K.str n = some (K.val n) := by
  obtain ⟨v, h1, h2, _⟩ := takes_all K.mem w0
  rw [h1, ← h2, take_is K n w0]
theorem val_in (K : Kn) (n : Int) (w0 : inU n) : inI (K.val n) := by
  obtain ⟨v, h1, h2, h3⟩ := takes_all K.mem w0
  rw [take_is K n w0] at h2
  cases h2; exact h3
theorem put_is (K : Kn) (v : Int) (w0 : inI v) : ∃ g, isa_put K.str v = some (g, K.ok v) ∧ (K.ok v = true → g = K.bit v) := by
  obtain ⟨m, p, h1, h2, h3, h4⟩ := alike_all K.mem w0
  rw [may_is K v w0] at h1
  cases h1
  refine ⟨p.1, by rw [h2, ← h3], fun h => ?_⟩
  obtain ⟨q, e1, e2⟩ := h4 h
  rw [rput_is K v h] at e1
  cases e1
  have := bit_lt K v h
  rw [e2, u32_w]; omega
end Go.Ab
set_option maxRecDepth 100000
namespace Go.Ab
def ksL : List (List Kn) := [[], [], [], [], [], [.X], [.X], [.X], [.X], [.X], [.X], [.X], [.X], [.X], [.X], [.X, .Y], [.X, .Y], [.X, .Y], [.X, .Y], [.X, .Y], [.X, .Y], [.X, .O5], [.X, .O5], [.X, .O5], [.X, .U5], [.X, .Y], [.X, .Y], [.X, .Y], [.X, .U7], [.X, .U5], [.X, .U5], [.X, .U5], [.X, .U5], [.X, .U5], [.Y, .M1, .X], [.Y, .M1, .X], [.Y, .M2, .X], [.Y, .M2, .X], [.Y, .M4, .X], [.Y, .M4, .X], [.O1, .I2, .T8], [.T8], [.T8], [.D, .A, .S16], [.D, .A, .C8], [.A, .D, .C8], [.A, .D, .C8], [.A, .D, .C8], [.D, .L20], [.D, .S16, .A], [.D, .S16, .A], [.D, .S16, .A], [.D, .S16, .A], [.D, .S16, .A], [.D, .S16, .A], [.D, .S16, .A], [.T24], [.T24], [.O2, .I4, .T15], [.O2, .I4, .T15], [.D, .A, .B], [.D, .A, .B], [.D, .A, .B], [.A, .D, .B], [.A, .D, .B], [.A, .D, .B]]
def bsL : List Nat := [0, 1, 2, 4, 6, 32, 48, 128, 144, 160, 176, 192, 208, 224, 240, 256, 1024, 1280, 1536, 3072, 3328, 8192, 8704, 9216, 10752, 17408, 17664, 17920, 18432, 24576, 25600, 26112, 26624, 27648, 32768, 36864, 40960, 45056, 49152, 53248, 57344, 59392, 59648, 469762048, 402685952, 402702336, 402706432, 402710528, 1879048192, 805306368, 872415232, 939524096, 1342177280, 1409286144, 1476395008, 1543503872, 2013265920, 2013265921, 2046820352, 2046820353, 2080375316, 2080374864, 2080375254, 2080374840, 2080375672, 2080375416]
def ks (i : Nat) : List Kn := ksL.getD i []
def bs (i : Nat) : Nat := bsL.getD i 0
def sz (i : Nat) : Int := if i < 43 then 2 else 4
def tabChk (k : Nat) : Bool := match isa_of_2.s 2000 k, isa_of_3.s 2000 k, isa_Size.s 2000 k with
  | some l, some c, some z => eqL l ((ks k).map Kn.str) && (c == ((bs k : Nat) : Int)) && (z == sz k)
  | _, _, _ => false
theorem tab_all : ((List.range 66).all tabChk) = true := by kernel_rfl
theorem tab_is {i : Nat} (h : i < 66) : isa_of_2 i = some ((ks i).map Kn.str) ∧ isa_of_3 i = some ((bs i : Nat) : Int) ∧ isa_Size i = some (sz i) := by
  have h := List.all_eq_true.1 tab_all i (List.mem_range.2 h)
  unfold tabChk at h
  split at h
  · rename_i l c z e1 e2 e3
    simp only [Bool.and_eq_true, beq_iff_eq] at h
    obtain ⟨⟨h1, rfl⟩, rfl⟩ := h
    rw [eqL_eq h1] at e1
    exact ⟨cv_some (isa_of_2.cv _) _ e1, cv_some (isa_of_3.cv _) _ e2, cv_some (isa_Size.cv _) _ e3⟩
  · cases h
theorem ks_len (i : Nat) : (ks i).length ≤ 3 := by
  have h : ∀ i : Fin 66, (ks i.val).length ≤ 3 := by decide
  by_cases c : i < 66
  · exact h ⟨i, c⟩
  · have hn : ksL.length ≤ i := by rw [show ksL.length = 66 by decide]; omega
    unfold ks; rw [List.getD_eq_getElem?_getD, List.getElem?_eq_none hn]; simp
theorem bs_lt (i : Nat) : bs i < 4294967296 := by
  have h : ∀ i : Fin 66, bs i.val < 4294967296 := by decide
  by_cases c : i < 66
  · exact h ⟨i, c⟩
  · have hn : bsL.length ≤ i := by rw [show bsL.length = 66 by decide]; omega
    unfold bs; rw [List.getD_eq_getElem?_getD, List.getElem?_eq_none hn]; decide

theorem short_lt : ∀ i : Fin 66, i.val < 43 → bs i.val < 65536 ∧ ∀ K ∈ ks i.val, K.fm < 65536 := by decide
theorem orA_lt16 : ∀ {Ks : List Kn} {l : List Int} {n : Nat}, n < 65536 → (∀ K ∈ Ks, K.fm < 65536) → okA Ks l = true → orA n Ks l < 65536
  | [], [], n, h, _, _ => h
  | K :: Ks, v :: l, n, h, hm, ho => by
    simp only [okA, Bool.and_eq_true] at ho
    have h1 := and_le (K.bit_in v ho.1).2
    have h2 := hm K (List.mem_cons_self ..)
    show orA (n ||| (K.bit v).toNat) Ks l < 65536
    exact orA_lt16 (Nat.or_lt_two_pow (n := 16) h (by omega : (K.bit v).toNat < 2 ^ 16)) (fun K hK => hm K (List.mem_cons_of_mem _ hK)) ho.2
  | [], _ :: _, n, h, _, _ => h
  | _ :: _, [], n, h, _, _ => h
def enc (op : Int) (l : List Int) : Option Nat := if (0 ≤ op ∧ op < 66) ∧ okA (ks op.toNat) l = true then some (orA (bs op.toNat) (ks op.toNat) l) else none
theorem enc_lt {op : Int} {l : List Int} {n : Nat} (h : enc op l = some n) : n < 4294967296 := by
  unfold enc at h
  split at h
  · rename_i c; cases h; exact orA_lt (bs_lt _) c.2
  · cases h
theorem enc_some {op : Int} {l : List Int} {n : Nat} (h : enc op l = some n) : (0 ≤ op ∧ op < 66) ∧ okA (ks op.toNat) l = true ∧ n = orA (bs op.toNat) (ks op.toNat) l := by
  unfold enc at h
  split at h
  · rename_i c; cases h; exact ⟨c.1, c.2, rfl⟩
  · cases h
theorem enc_lt16 {i : Nat} {l : List Int} {n : Nat} (h : enc (i : Int) l = some n) (hi : i < 43) : n < 65536 := by
  obtain ⟨h1, h2, h3⟩ := enc_some h
  rw [Int.toNat_natCast] at h2 h3
  obtain ⟨a, b⟩ := short_lt ⟨i, by omega⟩ hi
  rw [h3]; exact orA_lt16 a b h2
theorem orU (a b : Nat) (ha : a < 4294967296) (hb : b < 4294967296) : orI .u32 (a : Int) (b : Int) = ((a ||| b : Nat) : Int) := by
  have hl : a ||| b < 2 ^ 32 := Nat.or_lt_two_pow (n := 32) ha hb
  show IntKind.u32.wrap ((BitVec.ofInt 32 (a : Int) ||| BitVec.ofInt 32 (b : Int)).toNat : Int) = _
  rw [BitVec.ofInt_natCast, BitVec.ofInt_natCast, BitVec.toNat_or, BitVec.toNat_ofNat, BitVec.toNat_ofNat, Nat.mod_eq_of_lt (by omega), Nat.mod_eq_of_lt (by omega), u32_w]
  omega
theorem code_l (x : T_api_Inst) (Ks : List Kn) (hK : Ks.length ≤ 8) (hl : x.F.length = Ks.length) (hw : ∀ v ∈ x.F, inI v) : ∀ (d i acc : Nat), i + d = Ks.length → acc < 4294967296 →
    isa_code_L1 ⟨(acc : Int), Ks.map Kn.str, Ks.length, i, x⟩ = if okA (Ks.drop i) (x.F.drop i) = true then some (.inr ((orA acc (Ks.drop i) (x.F.drop i) : Nat) : Int)) else some (.inl ⟨0, false⟩)
  | 0, i, acc, hd, ha => by
    rw [isa_code_L1.eq]; unfold isa_code_L1_b; simp only
    rw [show decide ((i : Int) < Ks.length) = false from decide_eq_false (by omega), List.drop_eq_nil_of_le (by omega), List.drop_eq_nil_of_le (by omega)]; rfl
  | d + 1, i, acc, hd, ha => by
    have hi : i < Ks.length := by omega
    have hi2 : i < x.F.length := by omega
    have hi3 : i < (Ks.map Kn.str).length := by rw [List.length_map]; exact hi
    have hw1 : w64 ((i : Int) + 1) = ((i + 1 : Nat) : Int) := by rw [w64_in (by omega) (by omega)]; rfl
    obtain ⟨g, e, hg⟩ := put_is Ks[i] x.F[i] (hw _ (List.getElem_mem hi2))
    rw [isa_code_L1.eq]; unfold isa_code_L1_b; simp only
    rw [show decide ((i : Int) < Ks.length) = true from decide_eq_true (by omega), cond_true, show decide (0 ≤ (i : Int)) = true from decide_eq_true (by omega), cond_true, Int.toNat_natCast, List.getElem?_eq_getElem hi3, Option.bind_some, List.getElem?_eq_getElem hi2, Option.bind_some, List.getElem_map, e, Option.bind_some, List.drop_eq_getElem_cons hi, List.drop_eq_getElem_cons hi2]
    by_cases c : Ks[i].ok x.F[i] = true
    · rw [c]
      have hb := bit_lt _ _ c
      have eb : g = (((Ks[i].bit x.F[i]).toNat : Nat) : Int) := by rw [hg c]; omega
      have ih := code_l x Ks hK hl hw d (i + 1) (acc ||| (Ks[i].bit x.F[i]).toNat) (by omega) (Nat.or_lt_two_pow (n := 32) ha (by omega : (Ks[i].bit x.F[i]).toNat < 2 ^ 32))
      simp only [Bool.not_true, cond_false, Option.bind_some, Sum.elim_inl, okA, c, Bool.true_and]
      rw [hw1, eb, orU _ _ ha (by omega)]
      exact ih
    · have c' : Ks[i].ok x.F[i] = false := Bool.eq_false_iff.2 c
      rw [c']
      simp only [Bool.not_false, cond_true, okA, c', Bool.false_and, Bool.false_eq_true, if_false]; rfl
theorem code_is (x : T_api_Inst) (hw : ∀ v ∈ x.F, inI v) (hlen : x.F.length ≤ 4611686018427387904) : ∃ g, isa_code x = some (g, (enc x.Op x.F).isSome) ∧ ∀ n, enc x.Op x.F = some n → g = (n : Int) := by
  by_cases c : 0 ≤ x.Op ∧ x.Op < 66
  rotate_left
  · obtain ⟨n1, _⟩ := name_out (k := x.Op) (by omega)
    refine ⟨0, ?_, fun n h => ?_⟩
    · rw [code_none n1]; unfold enc; rw [if_neg (fun h => c h.1)]; rfl
    · unfold enc at h; rw [if_neg (fun h => c h.1)] at h; cases h
  obtain ⟨i, hi⟩ := Int.eq_ofNat_of_zero_le c.1
  have h66 : i < 66 := by omega
  obtain ⟨t1, t2, t3⟩ := tab_is h66
  obtain ⟨nm, _, _, _, _, e1, _, _, _, _, _, _, _, _, _, _, e12, _⟩ := rows h66
  have hk := ks_len i
  have he : enc x.Op x.F = if okA (ks i) x.F = true then some (orA (bs i) (ks i) x.F) else none := by
    unfold enc; rw [hi, Int.toNat_natCast]
    by_cases h : okA (ks i) x.F = true
    · rw [if_pos ⟨by omega, h⟩, if_pos h]
    · rw [if_neg (fun q => h q.2), if_neg h]
  rw [he]
  rw [isa_code.eq]; unfold isa_code_b
  rw [hi, e1, Option.bind_some, e12, cond_false, t2, Option.bind_some, t1, Option.bind_some]
  by_cases hl : x.F.length = (ks i).length
  rotate_left
  · rw [show ((((ks i).map Kn.str).length : Int) != (x.F.length : Int)) = true by rw [bne_iff_ne, List.length_map]; omega, cond_true]
    have h : ¬ okA (ks i) x.F = true := fun h => hl (okA_len h)
    rw [if_neg h]
    exact ⟨0, rfl, fun n h => nomatch h⟩
  rw [show ((((ks i).map Kn.str).length : Int) != (x.F.length : Int)) = false by rw [List.length_map, hl]; exact bne_self_eq_false _, cond_false, List.length_map]
  have h := code_l x (ks i) (by omega) hl hw (ks i).length 0 (bs i) (by omega) (bs_lt i)
  rw [List.drop_zero, List.drop_zero] at h
  have h' : isa_code_L1 ⟨((bs i : Nat) : Int), (ks i).map Kn.str, (((ks i).length : Nat) : Int), 0, x⟩ = _ := h
  rw [h']
  by_cases hk : okA (ks i) x.F = true
  · rw [if_pos hk, if_pos hk]; exact ⟨_, rfl, fun n h => by cases h; rfl⟩
  · rw [if_neg hk, if_neg hk]; exact ⟨0, rfl, fun n h => nomatch h⟩
def byts (op : Int) (n : Nat) : List Int := if op < 43 then [(n : Int) / 256 % 256, (n : Int) % 256] else [(n : Int) / 16777216 % 256, (n : Int) / 65536 % 256, (n : Int) / 256 % 256, (n : Int) % 256]
def encB (op : Int) (l : List Int) : List Int × Bool := match enc op l with
  | some n => (byts op n, true)
  | none => ([], false)
theorem u8_w (z : Int) : IntKind.u8.wrap z = z % 256 := by unfold IntKind.wrap; simp [IntKind.bits, IntKind.signed]
theorem rencode_is (x : T_api_Inst) (hw : ∀ v ∈ x.F, inI v) (hlen : x.F.length ≤ 4611686018427387904) : r2_Encode x = some (encB x.Op x.F) ∧ r2_Right x = some (enc x.Op x.F).isSome := by
  obtain ⟨g, e, hg⟩ := code_is x hw hlen
  unfold encB
  rcases encode_ref x hw hlen with ⟨c, h1, h2, h3⟩ | ⟨n, k, s, h0, h1, h2, h3, h4⟩
  · rw [e] at h1
    cases h : enc x.Op x.F with
    | none => exact ⟨h2, h3⟩
    | some p => rw [h] at h1; simp at h1
  · rw [e] at h2
    cases h : enc x.Op x.F with
    | none => rw [h] at h2; simp at h2
    | some p =>
      obtain ⟨hop, _, _⟩ := enc_some h
      obtain ⟨_, _, t3⟩ := tab_is (i := k) (by omega)
      rw [t3] at h1; cases h1
      have hp : (p : Int) = n % 4294967296 := by
        rw [h, hg p h] at h2
        simp only [Option.some.injEq, Prod.mk.injEq] at h2
        rw [h2.1, u32_w]
      refine ⟨?_, h3⟩
      rw [h4]
      have s8 : shrI .i64 n 8 = n / 256 := shr_i n 8 (by decide)
      have s16 : shrI .i64 n 16 = n / 65536 := shr_i n 16 (by decide)
      have s24 : shrI .i64 n 24 = n / 16777216 := shr_i n 24 (by decide)
      simp only
      rw [s8, s16, s24, u8_w, u8_w, u8_w, u8_w]
      unfold sz byts
      by_cases c : k < 43
      · rw [if_pos c, if_pos rfl, if_pos (by omega), show n / 256 % 256 = (p : Int) / 256 % 256 by omega, show n % 256 = (p : Int) % 256 by omega]
      · rw [if_neg c, if_neg (by decide), if_neg (by omega), show n / 16777216 % 256 = (p : Int) / 16777216 % 256 by omega, show n / 65536 % 256 = (p : Int) / 65536 % 256 by omega, show n / 256 % 256 = (p : Int) / 256 % 256 by omega, show n % 256 = (p : Int) % 256 by omega]
end Go.Ab
set_option maxRecDepth 100000
namespace Go.Ab
abbrev z0I : T_api_Inst := ⟨0, []⟩
def U8 (l : List Int) : Prop := ∀ x ∈ l, byt x
def wd : Nat → List Int → Nat
  | n, [] => n
  | n, x :: l => wd (n * 256 + x.toNat) l
def szOf (b : Int) : Int := if b / 16 < 8 ∧ b / 16 % 2 = 1 then 4 else 2
theorem size_all : ∀ b : Fin 256, isa_size_b ((b.val : Nat) : Int) = some (szOf ((b.val : Nat) : Int)) := by decide +kernel
theorem size_is (b : Int) (h : byt b) : isa_size b = some (szOf b) := by
  have := size_all ⟨b.toNat, by have := h.1; have := h.2; omega⟩
  have e : ((b.toNat : Nat) : Int) = b := Int.toNat_of_nonneg h.1
  simp only [e] at this
  rw [isa_size.eq]; exact this
theorem szOf_two (b : Int) : szOf b = 2 ∨ szOf b = 4 := by unfold szOf; split <;> simp
def vals (i : Nat) (n : Nat) : List Int := (ks i).map (fun K => K.val (n : Int))
def dgo (n : Nat) (s : Int) : Nat → Nat → Option Nat
  | 0, _ => none
  | d + 1, i => if sz i = s ∧ enc (i : Int) (vals i n) = some n then some i else dgo n s d (i + 1)
theorem dgo_succ (n : Nat) (s : Int) (d i : Nat) : dgo n s (d + 1) i = if sz i = s ∧ enc (i : Int) (vals i n) = some n then some i else dgo n s d (i + 1) := rfl
def decW (n : Nat) (s : Int) : T_api_Inst × Int × Bool := match dgo n s 66 0 with
  | some i => (⟨(i : Int), vals i n⟩, s, true)
  | none => (z0I, 0, false)
def dec (b : List Int) : T_api_Inst × Int × Bool :=
  if 2 ≤ b.length ∧ szOf (b.headD 0) ≤ b.length then decW (wd 0 (b.take (szOf (b.headD 0)).toNat)) (szOf (b.headD 0)) else (z0I, 0, false)
theorem vals_in (i n : Nat) (h : n < 4294967296) : ∀ v ∈ vals i n, inI v := by
  intro x hx
  obtain ⟨K, _, rfl⟩ := List.mem_map.1 hx
  exact val_in K n ⟨by omega, by omega⟩
theorem vals_len (i n : Nat) : (vals i n).length = (ks i).length := by unfold vals; rw [List.length_map]
theorem wd_lt : ∀ (l : List Int) (n m : Nat), U8 l → n < 256 ^ m → wd n l < 256 ^ (m + l.length)
  | [], n, m, _, h => by simpa [wd] using h
  | x :: l, n, m, hl, h => by
    have hx : byt x := hl x (List.mem_cons_self ..)
    have e : 256 ^ (m + 1) = 256 * 256 ^ m := by rw [Nat.pow_succ, Nat.mul_comm]
    have := wd_lt l (n * 256 + x.toNat) (m + 1) (fun z hz => hl z (List.mem_cons_of_mem _ hz)) (by have := hx.1; have := hx.2; omega)
    simp only [wd, List.length_cons]
    rw [show m + (l.length + 1) = m + 1 + l.length by omega]
    exact this

theorem dl1 (s : Int) (h0 : T_api_Inst) (b : List Int) (hb : U8 b) (hl : b.length ≤ 4) : ∀ (d i acc : Nat), i + d = b.length → acc < 256 ^ i →
    isa_Decode_L1 ⟨s, (acc : Int), b, (b.length : Int), (i : Int), h0⟩ = some ⟨s, ((wd acc (b.drop i) : Nat) : Int), h0⟩
  | 0, i, acc, hd, ha => by
    rw [isa_Decode_L1.eq]; unfold isa_Decode_L1_b; simp only
    rw [show decide ((i : Int) < b.length) = false from decide_eq_false (by omega), List.drop_eq_nil_of_le (by omega)]; rfl
  | d + 1, i, acc, hd, ha => by
    have hi : i < b.length := by omega
    have hx := hb _ (List.getElem_mem hi)
    have hp : (256 : Nat) ^ i ≤ 256 ^ 3 := Nat.pow_le_pow_right (by decide) (by omega)
    have hx0 := hx.1
    have hx1 := hx.2
    have ho : orI .u32 (shlI .u32 (acc : Int) 8) (IntKind.u32.wrap b[i]) = ((acc * 256 + (b[i]).toNat : Nat) : Int) := by
      have e1 : shlI .u32 (acc : Int) 8 = ((acc * 256 : Nat) : Int) := by
        unfold shlI
        rw [u32_w, show ((2 : Int) ^ min (Int.toNat 8) IntKind.u32.bits) = 256 from rfl]; omega
      have e2 : IntKind.u32.wrap b[i] = (((b[i]).toNat : Nat) : Int) := by rw [u32_w]; omega
      rw [e1, e2, orU _ _ (by omega) (by omega)]
      congr 1
      rw [show acc * 256 = 2 ^ 8 * acc by omega, Nat.two_pow_add_eq_or_of_lt (by omega)]
    have ih := dl1 s h0 b hb hl d (i + 1) (acc * 256 + (b[i]).toNat) (by omega) (by rw [Nat.pow_succ]; omega)
    rw [isa_Decode_L1.eq]; unfold isa_Decode_L1_b; simp only
    rw [show decide ((i : Int) < b.length) = true from decide_eq_true (by omega), cond_true, show decide (0 ≤ (i : Int)) = true from decide_eq_true (by omega), cond_true, Int.toNat_natCast, List.getElem?_eq_getElem hi, Option.bind_some, ho, w64_in (n := (i : Int) + 1) (by omega) (by omega), Option.bind_some, Sum.elim_inl, List.drop_eq_getElem_cons hi]
    exact ih
theorem dl3 (s len op : Int) (h0 : T_api_Inst) (n : Nat) (hn : n < 4294967296) (K : List Kn) (hK : K.length ≤ 8) : ∀ (d j : Nat), j + d = K.length →
    isa_Decode_L3 ⟨s, (n : Int), len, op, K.map Kn.str, (K.length : Int), (j : Int), h0, ⟨op, (K.map (fun K => K.val (n : Int))).take j⟩⟩ = some ⟨s, (n : Int), len, op, h0, ⟨op, K.map (fun K => K.val (n : Int))⟩⟩
  | 0, j, hd => by
    rw [isa_Decode_L3.eq]; unfold isa_Decode_L3_b; simp only
    rw [show decide ((j : Int) < K.length) = false from decide_eq_false (by omega), List.take_of_length_le (by rw [List.length_map]; omega)]; rfl
  | d + 1, j, hd => by
    have hj : j < K.length := by omega
    have hj2 : j < (K.map Kn.str).length := by rw [List.length_map]; exact hj
    have hj3 : j < (K.map (fun K => K.val (n : Int))).length := by rw [List.length_map]; exact hj
    have ih := dl3 s len op h0 n hn K hK d (j + 1) (by omega)
    have e : (K.map (fun K => K.val (n : Int))).take j ++ [(K[j]).val (n : Int)] = (K.map (fun K => K.val (n : Int))).take (j + 1) := by
      rw [List.take_succ_eq_append_getElem hj3, List.getElem_map]
    rw [isa_Decode_L3.eq]; unfold isa_Decode_L3_b; simp only
    rw [show decide ((j : Int) < K.length) = true from decide_eq_true (by omega), cond_true, show decide (0 ≤ (j : Int)) = true from decide_eq_true (by omega), cond_true, Int.toNat_natCast, List.getElem?_eq_getElem hj2, Option.bind_some, List.getElem_map, get_is _ _ ⟨by omega, by omega⟩, Option.bind_some,
      show decide ((((K.map (fun K => K.val (n : Int))).take j).length + [(K[j]).val (n : Int)].length) * 8 ≤ most) = true from decide_eq_true (by rw [List.length_take, List.length_singleton, List.length_map]; unfold most; omega), cond_true, e, w64_in (n := (j : Int) + 1) (by omega) (by omega), Option.bind_some, Sum.elim_inl]
    exact ih
theorem dl2 (s : Int) (n : Nat) (hn : n < 4294967296) : ∀ (d i : Nat), i + d = 66 →
    isa_Decode_L2 ⟨s, (n : Int), 66, (i : Int), z0I⟩ = some (match dgo n s d i with | some i => .inl ⟨s, true, ⟨(i : Int), vals i n⟩⟩ | none => .inr z0I)
  | 0, i, hd => by
    rw [isa_Decode_L2.eq]; unfold isa_Decode_L2_b; simp only
    rw [show decide ((i : Int) < 66) = false from decide_eq_false (by omega)]; rfl
  | d + 1, i, hd => by
    have hi : i < 66 := by omega
    obtain ⟨t1, t2, t3⟩ := tab_is hi
    have hk := ks_len i
    have ih := dl2 s n hn d (i + 1) (by omega)
    have next : w64 ((i : Int) + 1) = ((i + 1 : Nat) : Int) := by rw [w64_in (by omega) (by omega)]; rfl
    rw [dgo_succ, isa_Decode_L2.eq]; unfold isa_Decode_L2_b; simp only
    rw [show decide ((i : Int) < 66) = true from decide_eq_true (by omega), cond_true, t3, Option.bind_some, next]
    by_cases c : sz i = s
    rotate_left
    · rw [show (sz i != s) = true by rw [bne_iff_ne]; exact c, cond_true, Option.bind_some, Sum.elim_inl, if_neg (fun h => c h.1)]; exact ih
    rw [show (sz i != s) = false by rw [c]; exact bne_self_eq_false s, cond_false, t1, Option.bind_some, List.length_map]
    have e := dl3 s 66 (i : Int) z0I n hn (ks i) (by omega) (ks i).length 0 (by omega)
    have e' : isa_Decode_L3 ⟨s, (n : Int), 66, (i : Int), (ks i).map Kn.str, ((ks i).length : Int), 0, z0I, ⟨(i : Int), []⟩⟩ = some ⟨s, (n : Int), 66, (i : Int), z0I, ⟨(i : Int), vals i n⟩⟩ := e
    rw [e', Option.bind_some]
    have hv := vals_in i n hn
    have hlen : (vals i n).length ≤ 8 := by rw [vals_len]; omega
    obtain ⟨g, eg, hg⟩ := code_is ⟨(i : Int), vals i n⟩ hv (by show (vals i n).length ≤ _; omega)
    simp only
    rw [eg, Option.bind_some]
    cases h : enc (i : Int) (vals i n) with
    | none =>
      simp only [Option.isSome_none, cond_false, Option.bind_some, Sum.elim_inl]
      rw [next, if_neg (by simp)]; exact ih
    | some p =>
      simp only [Option.isSome_some, cond_true]
      rw [hg p h]
      by_cases c2 : p = n
      · subst c2
        have ec : slices_Clone (vals i p) = some (vals i p) := by
          show cloneB 8 _ = _
          exact if_pos (by omega)
        rw [beq_self_eq_true, cond_true, ec, if_pos ⟨c, rfl⟩]; rfl
      · rw [show (((p : Nat) : Int) == (n : Int)) = false from beq_eq_false_iff_ne.2 (by omega), cond_false, if_neg (fun h => c2 (Option.some.inj h.2)), Option.bind_some, Sum.elim_inl, next]; exact ih
theorem take_u8 {b : List Int} (hb : U8 b) (n : Nat) : U8 (b.take n) := fun x hx => hb x (List.mem_of_mem_take hx)
theorem wd_32 {b : List Int} (hb : U8 b) {s : Int} (hs : s = 2 ∨ s = 4) (h : s ≤ b.length) : wd 0 (b.take s.toNat) < 4294967296 := by
  have h1 := wd_lt (b.take s.toNat) 0 0 (take_u8 hb _) (by decide)
  rw [List.length_take] at h1
  have h2 : (256 : Nat) ^ (0 + min s.toNat b.length) ≤ 256 ^ 4 := Nat.pow_le_pow_right (by decide) (by omega)
  omega
theorem decode_is (b : List Int) (hb : U8 b) : isa_Decode b = some (dec b) := by
  rw [isa_Decode.eq]; unfold isa_Decode_b dec
  by_cases c : 2 ≤ b.length
  rotate_left
  · rw [show decide ((b.length : Int) < 2) = true from decide_eq_true (by omega), cond_true, if_neg (fun h => c h.1)]
  have h0 : 0 < b.length := by omega
  have hx := hb _ (List.getElem_mem h0)
  have er : b.headD 0 = b[0] := by cases b with | nil => cases h0 | cons a l => rfl
  rw [show decide ((b.length : Int) < 2) = false from decide_eq_false (by omega), cond_false, show Int.toNat 0 = 0 from rfl, List.getElem?_eq_getElem h0, Option.bind_some, er]
  have hs := szOf_two b[0]
  have hsz : isa_size b[0] = some (szOf b[0]) := size_is _ hx
  generalize szOf b[0] = s at *
  rw [hsz, Option.bind_some]
  by_cases d : s ≤ b.length
  rotate_left
  · rw [show decide ((b.length : Int) < s) = true from decide_eq_true (by omega), cond_true, if_neg (fun h => d h.2)]
  rw [show decide ((b.length : Int) < s) = false from decide_eq_false (by omega), cond_false, Option.bind_some, hsz, Option.bind_some, show decide (0 ≤ (0 : Int) ∧ 0 ≤ s ∧ s ≤ (b.length : Nat)) = true from decide_eq_true (by omega), cond_true, Int.sub_zero, List.drop_zero, if_pos ⟨c, d⟩]
  have hw := wd_32 hb hs d
  have e := dl1 s z0I (b.take s.toNat) (take_u8 hb _) (by rw [List.length_take]; omega) (b.take s.toNat).length 0 0 (by omega) (by decide)
  rw [List.drop_zero] at e
  have e' : isa_Decode_L1 ⟨s, 0, b.take s.toNat, ((b.take s.toNat).length : Int), 0, z0I⟩ = _ := e
  rw [e', Option.bind_some, tab_eq, Option.bind_some, tab_len]
  have e2 := dl2 s _ hw 66 0 (by omega)
  have e2' : isa_Decode_L2 ⟨s, ((wd 0 (b.take s.toNat) : Nat) : Int), ((66 : Nat) : Int), 0, z0I⟩ = _ := e2
  rw [e2', Option.bind_some]
  unfold decW
  cases dgo (wd 0 (b.take s.toNat)) s 66 0 <;> rfl
end Go.Ab
set_option maxRecDepth 100000
namespace Go.Ab
theorem u8_num (x : Int) (h : byt x) : ((UInt8.ofNat x.toNat).toNat : Int) = x := by
  have h0 := h.1; have h1 := h.2; rw [UInt8.toNat_ofNat', Nat.mod_eq_of_lt (by omega)]; omega
theorem str_inj : ∀ {a b : List Int}, U8 a → U8 b → (a.map fun n => UInt8.ofNat n.toNat) = (b.map fun n => UInt8.ofNat n.toNat) → a = b
  | [], [], _, _, _ => rfl
  | [], _ :: _, _, _, h => by simp at h
  | _ :: _, [], _, _, h => by simp at h
  | x :: a, y :: b, ha, hb, h => by
    simp only [List.map_cons, List.cons.injEq] at h
    have e : x = y := by rw [← u8_num x (ha x (List.mem_cons_self ..)), ← u8_num y (hb y (List.mem_cons_self ..)), h.1]
    rw [e, str_inj (fun z hz => ha z (List.mem_cons_of_mem _ hz)) (fun z hz => hb z (List.mem_cons_of_mem _ hz)) h.2]
theorem listB_iff {a b : List Int} (ha : U8 a) (hb : U8 b) : eqS (⟨(listB a).toArray⟩ : ByteArray) (⟨(listB b).toArray⟩ : ByteArray) = decide (a = b) := by
  by_cases h : a = b
  · rw [decide_eq_true h, h]; exact eqS_iff.2 rfl
  · rw [decide_eq_false h, Bool.eq_false_iff]
    intro e
    have e := eqS_iff.1 e
    have e := congrArg (fun x : ByteArray => x.data.toList) e
    exact h (str_inj ha hb e)
theorem byts_len (i n : Nat) : ((byts (i : Int) n).length : Int) = sz i := by
  unfold byts sz
  by_cases c : i < 43
  · rw [if_pos (by omega), if_pos c]; rfl
  · rw [if_neg (by omega), if_neg c]; rfl
theorem byts_u8 (op : Int) (n : Nat) : U8 (byts op n) := by
  unfold byts
  intro x hx
  split at hx
  · simp only [List.mem_cons, List.not_mem_nil, or_false] at hx
    rcases hx with rfl | rfl <;> omega
  · simp only [List.mem_cons, List.not_mem_nil, or_false] at hx
    rcases hx with rfl | rfl | rfl | rfl <;> omega
theorem wd_byts {i : Nat} {l : List Int} {n : Nat} (h : enc (i : Int) l = some n) : wd 0 (byts (i : Int) n) = n := by
  unfold byts
  have h32 := enc_lt h
  by_cases c : i < 43
  · have := enc_lt16 h c
    rw [if_pos (by omega)]
    simp only [wd]; omega
  · rw [if_neg (by omega)]
    simp only [wd]; omega
theorem byts_wd {i : Nat} (b : List Int) (hb : U8 b) (hl : (b.length : Int) = sz i) : byts (i : Int) (wd 0 b) = b := by
  unfold byts sz at *
  by_cases c : i < 43
  · rw [if_pos c] at hl
    rw [if_pos (by omega)]
    match b, hl, hb with
    | [x, y], _, hb =>
      have hx := hb x (by simp)
      have hy := hb y (by simp)
      simp only [wd, List.cons.injEq, and_true]; omega
  · rw [if_neg c] at hl
    rw [if_neg (by omega)]
    match b, hl, hb with
    | [x, y, z, u], _, hb =>
      have hx := hb x (by simp)
      have hy := hb y (by simp)
      have hz := hb z (by simp)
      have hu := hb u (by simp)
      simp only [wd, List.cons.injEq, and_true]; omega
theorem byts_inj {i : Nat} {l : List Int} {p n : Nat} (h : enc (i : Int) l = some p) (hh : byts (i : Int) p = byts (i : Int) n) (hn : wd 0 (byts (i : Int) n) = n) : p = n := by
  rw [← wd_byts h, hh, hn]
theorem ref_full : (D0.all fun r => !eqS r.Name s_) = true := by kernel_rfl
theorem ref_row {i : Nat} (h : i < 66) : ∃ q : T_r2_row, r2_Name i = some q.Name ∧ eqS q.Name s_ = false ∧ r2_Size i = some (sz i) ∧ r2_Kinds i = some q.Kinds ∧ r2_Words q.Kinds = some ((ks i).map Kn.str) := by
  obtain ⟨nm, c, k, z, q, e1, e2, e3, e4, e5, e6, e7, e8, e9, _⟩ := rows h
  obtain ⟨t1, t2, t3⟩ := tab_is h
  have hf := find_at e5
  rw [t1] at e3; cases e3
  rw [t3] at e4; cases e4
  refine ⟨q, ?_, ?_, ?_, ?_, e6⟩
  · rw [r2_Name.eq]; unfold r2_Name_b; rw [hf]; rfl
  · have := List.all_eq_true.1 ref_full q (List.mem_of_getElem? e5)
    simpa using this
  · rw [r2_Size.eq]; unfold r2_Size_b; rw [hf, Option.bind_some]
    have : w64 (Int.tdiv ((q.Bits.size : Nat) : Int) 2) = sz i := by
      rw [e8, Int.mul_comm, Int.mul_tdiv_cancel _ (by decide)]
      rcases e9 with e | e <;> rw [e] <;> rfl
    exact congrArg some this
  · rw [r2_Kinds.eq]; unfold r2_Kinds_b; rw [hf]; rfl
theorem ref_out {k : Int} (h : k < 0 ∨ 66 ≤ k) : r2_Name k = some s_ := by
  rw [r2_Name.eq]; unfold r2_Name_b; rw [find_out h]; rfl
theorem rl1 (s : Int) (h0 : T_api_Inst) (b : List Int) (hb : U8 b) (hs : s ≤ 4) (hl : s ≤ b.length) : ∀ (d i acc : Nat), (i : Int) + d = s → acc < 256 ^ i →
    r2_Decode_L1 ⟨b, s, (acc : Int), (i : Int), h0⟩ = some ⟨b, s, ((wd acc ((b.take s.toNat).drop i) : Nat) : Int), h0⟩
  | 0, i, acc, hd, ha => by
    rw [r2_Decode_L1.eq]; unfold r2_Decode_L1_b; simp only
    rw [show decide ((i : Int) < s) = false from decide_eq_false (by omega), List.drop_eq_nil_of_le (by rw [List.length_take]; omega)]; rfl
  | d + 1, i, acc, hd, ha => by
    have hi : i < b.length := by omega
    have hi2 : i < (b.take s.toNat).length := by rw [List.length_take]; omega
    have hx := hb _ (List.getElem_mem hi)
    have hp : (256 : Nat) ^ i ≤ 256 ^ 3 := Nat.pow_le_pow_right (by decide) (by omega)
    have hx0 := hx.1
    have hx1 := hx.2
    have ho : orI .i64 (shlI .i64 (acc : Int) 8) (w64 b[i]) = ((acc * 256 + (b[i]).toNat : Nat) : Int) := by
      rw [w64_in (n := b[i]) (by omega) (by omega), or_byte (x := (acc : Int)) ⟨by omega, by omega⟩ hx]; omega
    have ih := rl1 s h0 b hb hs hl d (i + 1) (acc * 256 + (b[i]).toNat) (by omega) (by rw [Nat.pow_succ]; omega)
    rw [r2_Decode_L1.eq]; unfold r2_Decode_L1_b; simp only
    rw [show decide ((i : Int) < s) = true from decide_eq_true (by omega), cond_true, show decide (0 ≤ (i : Int)) = true from decide_eq_true (by omega), cond_true, Int.toNat_natCast, List.getElem?_eq_getElem hi, Option.bind_some, ho, w64_in (n := (i : Int) + 1) (by omega) (by omega), Option.bind_some, Sum.elim_inl, List.drop_eq_getElem_cons hi2, List.getElem_take]
    exact ih
theorem rl3 (b : List Int) (s op : Int) (h0 : T_api_Inst) (n : Nat) (hn : n < 4294967296) (K : List Kn) (hK : K.length ≤ 8) : ∀ (d j : Nat), j + d = K.length →
    r2_Decode_L3 ⟨b, s, (n : Int), op, K.map Kn.str, (j : Int), h0, ⟨op, (K.map (fun K => K.val (n : Int))).take j⟩⟩ = some ⟨b, s, (n : Int), op, h0, ⟨op, K.map (fun K => K.val (n : Int))⟩⟩
  | 0, j, hd => by
    rw [r2_Decode_L3.eq]; unfold r2_Decode_L3_b; simp only
    rw [List.length_map, show decide ((j : Int) < (K.length : Nat)) = false from decide_eq_false (by omega), List.take_of_length_le (by rw [List.length_map]; omega)]; rfl
  | d + 1, j, hd => by
    have hj : j < K.length := by omega
    have hj2 : j < (K.map Kn.str).length := by rw [List.length_map]; exact hj
    have hj3 : j < (K.map (fun K => K.val (n : Int))).length := by rw [List.length_map]; exact hj
    have ih := rl3 b s op h0 n hn K hK d (j + 1) (by omega)
    have e : (K.map (fun K => K.val (n : Int))).take j ++ [(K[j]).val (n : Int)] = (K.map (fun K => K.val (n : Int))).take (j + 1) := by
      rw [List.take_succ_eq_append_getElem hj3, List.getElem_map]
    rw [r2_Decode_L3.eq]; unfold r2_Decode_L3_b; simp only
    rw [show decide ((j : Int) < ((K.map Kn.str).length : Nat)) = true from decide_eq_true (by rw [List.length_map]; omega), cond_true, show decide (0 ≤ (j : Int)) = true from decide_eq_true (by omega), cond_true, Int.toNat_natCast, List.getElem?_eq_getElem hj2, Option.bind_some, List.getElem_map, take_is _ _ ⟨by omega, by omega⟩, Option.bind_some,
      show decide ((((K.map (fun K => K.val (n : Int))).take j).length + [(K[j]).val (n : Int)].length) * 8 ≤ most) = true from decide_eq_true (by rw [List.length_take, List.length_singleton, List.length_map]; unfold most; omega), cond_true, e, w64_in (n := (j : Int) + 1) (by omega) (by omega), Option.bind_some, Sum.elim_inl]
    exact ih
theorem rl2 (b : List Int) (s : Int) (hs : s = 2 ∨ s = 4) (hl : s ≤ b.length) (hb : U8 b) : ∀ (d i : Nat), i + d = 66 →
    r2_Decode_L2 ⟨b, s, ((wd 0 (b.take s.toNat) : Nat) : Int), (i : Int), z0I⟩ = some (match dgo (wd 0 (b.take s.toNat)) s d i with | some i => .inl ⟨s, true, ⟨(i : Int), vals i (wd 0 (b.take s.toNat))⟩⟩ | none => .inr z0I)
  | 0, i, hd => by
    rw [r2_Decode_L2.eq]; unfold r2_Decode_L2_b; simp only
    rw [ref_out (by omega), Option.bind_some, show eqS s_ s_ = true from eqS_iff.2 rfl]; rfl
  | d + 1, i, hd => by
    have hi : i < 66 := by omega
    have hn := wd_32 hb hs hl
    have hbt := take_u8 hb s.toNat
    have hlt : ((b.take s.toNat).length : Int) = s := by rw [List.length_take]; omega
    have hwd : ∀ (h : sz i = s), byts (i : Int) (wd 0 (b.take s.toNat)) = b.take s.toNat := fun h => byts_wd _ hbt (by rw [hlt, h])
    have hwn : ∀ (h : sz i = s), wd 0 (byts (i : Int) (wd 0 (b.take s.toNat))) = wd 0 (b.take s.toNat) := fun h => by rw [hwd h]
    obtain ⟨q, q1, q2, q3, q4, q5⟩ := ref_row hi
    have hk := ks_len i
    have ih := rl2 b s hs hl hb d (i + 1) (by omega)
    generalize wd 0 (b.take s.toNat) = n at *
    have next : w64 ((i : Int) + 1) = ((i + 1 : Nat) : Int) := by rw [w64_in (by omega) (by omega)]; rfl
    rw [dgo_succ, r2_Decode_L2.eq]; unfold r2_Decode_L2_b; simp only
    rw [q1, Option.bind_some, q2, show (!false) = true from rfl, cond_true, q3, Option.bind_some, next]
    by_cases c : sz i = s
    rotate_left
    · rw [show (sz i != s) = true by rw [bne_iff_ne]; exact c, cond_true, Option.bind_some, Sum.elim_inl, if_neg (fun h => c h.1)]; exact ih
    rw [show (sz i != s) = false by rw [c]; exact bne_self_eq_false s, cond_false, q4, Option.bind_some, q5, Option.bind_some]
    have e := rl3 b s (i : Int) z0I n hn (ks i) (by omega) (ks i).length 0 (by omega)
    have e' : r2_Decode_L3 ⟨b, s, (n : Int), (i : Int), (ks i).map Kn.str, 0, z0I, ⟨(i : Int), []⟩⟩ = some ⟨b, s, (n : Int), (i : Int), z0I, ⟨(i : Int), vals i n⟩⟩ := e
    rw [e', Option.bind_some]
    have hv := vals_in i n hn
    have hlen : (vals i n).length ≤ 8 := by rw [vals_len]; omega
    have eg := (rencode_is ⟨(i : Int), vals i n⟩ hv (by show (vals i n).length ≤ _; omega)).1
    simp only
    rw [eg, Option.bind_some]
    unfold encB
    simp only
    cases h : enc (i : Int) (vals i n) with
    | none =>
      simp only [cond_false, Option.bind_some, Sum.elim_inl]
      rw [next, if_neg (by simp)]; exact ih
    | some p =>
      simp only [cond_true, Option.bind_some]
      rw [show decide (0 ≤ (0 : Int) ∧ 0 ≤ s ∧ s ≤ (b.length : Nat)) = true from decide_eq_true (by omega), cond_true, Int.sub_zero, show Int.toNat 0 = 0 from rfl, List.drop_zero, listB_iff (byts_u8 _ _) hbt, next]
      by_cases c2 : p = n
      · subst c2
        rw [decide_eq_true (hwd c), cond_true, if_pos ⟨c, rfl⟩]; rfl
      · have hne : ¬ byts (i : Int) p = b.take s.toNat := fun hh => c2 (by
          rw [← hwd c] at hh
          exact byts_inj h hh (hwn c))
        rw [decide_eq_false hne, cond_false, if_neg (fun h => c2 (Option.some.inj h.2)), Option.bind_some, Sum.elim_inl]; exact ih
theorem rkey (b : List Int) (hb : U8 b) (s : Int) (hs : s = 2 ∨ s = 4) : (bif decide ((b.length : Int) < s) then some (z0I, 0, false) else (r2_Decode_L1 ⟨b, s, 0, 0, z0I⟩).bind fun o3 => (r2_Decode_L2 ⟨o3.x0, o3.x5, o3.x6, 0, o3.h0⟩).bind fun x => Sum.elim (fun o4 => some (o4.h0, o4.x3, o4.x4)) (fun o5 => some (z0I, 0, false)) x) = some (if s ≤ b.length then decW (wd 0 (b.take s.toNat)) s else (z0I, 0, false)) := by
  by_cases d : s ≤ b.length
  rotate_left
  · rw [show decide ((b.length : Int) < s) = true from decide_eq_true (by omega), cond_true, if_neg d]
  rw [show decide ((b.length : Int) < s) = false from decide_eq_false (by omega), cond_false, if_pos d]
  have e := rl1 s z0I b hb (by omega) d s.toNat 0 0 (by omega) (by decide)
  rw [List.drop_zero] at e
  have e' : r2_Decode_L1 ⟨b, s, 0, 0, z0I⟩ = _ := e
  rw [e', Option.bind_some]
  have e2 := rl2 b s hs d hb 66 0 (by omega)
  have e2' : r2_Decode_L2 ⟨b, s, ((wd 0 (b.take s.toNat) : Nat) : Int), 0, z0I⟩ = _ := e2
  simp only
  rw [e2', Option.bind_some]
  unfold decW
  cases dgo (wd 0 (b.take s.toNat)) s 66 0 <;> rfl
theorem and_all : ∀ b : Fin 256, (andI .u8 (shrI .u8 ((b.val : Nat) : Int) 4) 1 == 1) = decide (((b.val : Nat) : Int) / 16 % 2 = 1) ∧ shrI .u8 ((b.val : Nat) : Int) 4 = ((b.val : Nat) : Int) / 16 := by decide +kernel
theorem rdecode_is (b : List Int) (hb : U8 b) : r2_Decode b = some (dec b) := by
  rw [r2_Decode.eq]; unfold r2_Decode_b dec
  by_cases c : 0 < b.length
  rotate_left
  · rw [show decide ((b.length : Int) > 0) = false from decide_eq_false (by omega), cond_false, show decide ((b.length : Int) < 2) = true from decide_eq_true (by omega), cond_true, if_neg (by omega)]
  have hx := hb _ (List.getElem_mem c)
  have er : b.headD 0 = b[0] := by cases b with | nil => cases c | cons a l => rfl
  have ha := and_all ⟨b[0].toNat, by have := hx.1; have := hx.2; omega⟩
  have e : ((b[0].toNat : Nat) : Int) = b[0] := Int.toNat_of_nonneg hx.1
  simp only [e] at ha
  rw [show decide ((b.length : Int) > 0) = true from decide_eq_true (by omega), cond_true, show Int.toNat 0 = 0 from rfl, List.getElem?_eq_getElem c, Option.bind_some, Option.bind_some, er, ha.1, ha.2]
  have k4 := rkey b hb 4 (.inr rfl)
  have k2 := rkey b hb 2 (.inl rfl)
  by_cases c1 : b[0] / 16 < 8
  · rw [decide_eq_true c1, cond_true]
    by_cases c2 : b[0] / 16 % 2 = 1
    · rw [decide_eq_true c2, cond_true, show szOf b[0] = 4 from if_pos ⟨c1, c2⟩]
      refine k4.trans ?_
      by_cases d : (4 : Int) ≤ b.length
      · rw [if_pos d, if_pos ⟨by omega, d⟩]
      · rw [if_neg d, if_neg (fun h => d h.2)]
    · rw [decide_eq_false c2, cond_false, show szOf b[0] = 2 from if_neg (fun h => c2 h.2)]
      refine k2.trans ?_
      by_cases d : (2 : Int) ≤ b.length
      · rw [if_pos d, if_pos ⟨by omega, d⟩]
      · rw [if_neg d, if_neg (fun h => d h.2)]
  · rw [decide_eq_false c1, cond_false, show szOf b[0] = 2 from if_neg (fun h => c1 h.1)]
    refine k2.trans ?_
    by_cases d : (2 : Int) ≤ b.length
    · rw [if_pos d, if_pos ⟨by omega, d⟩]
    · rw [if_neg d, if_neg (fun h => d h.2)]
end Go.Ab
set_option maxRecDepth 100000
namespace Go.Ab
def pk9 (K : Kn) (L : List Int) (g : Int → Int) : Bool := (List.range 9).all fun t => match L[t]? with
  | some e => K.ok (g e) && decide (inI (g e))
  | none => false
theorem operand_list {K : Kn} {n : Int} (L : List Int) (g : Int → Int) (he : w2_Operand_b w2_within K.str n = (w2_within n 9).bind fun r1 => bif decide (0 ≤ r1 ∧ r1 < ((L.length : Nat) : Int)) then (L[(Int.toNat r1)]?).bind fun e => some (g e) else none) (hl : L.length = 9) (h : pk9 K L g = true) :
    ∃ v, w2_Operand K.str n = some v ∧ K.ok v = true ∧ inI v := by
  rw [w2_Operand.eq, he, w2_within_eq n 9 (by decide) (by decide), Option.bind_some]
  have h0 : 0 ≤ n % 9 ∧ n % 9 < 9 := by omega
  have h := List.all_eq_true.1 h (n % 9).toNat (List.mem_range.2 (by omega))
  rw [hl, show decide (0 ≤ n % 9 ∧ n % 9 < ((9 : Nat) : Int)) = true from decide_eq_true h0, cond_true]
  split at h
  · rename_i e h1
    rw [Bool.and_eq_true, decide_eq_true_eq] at h
    rw [h1]; exact ⟨_, rfl, h.1, h.2⟩
  · cases h
theorem operand_num {K : Kn} {n : Int} (m : Int) (g : Int → Int) (hm : 0 < m ∧ m ≤ 4611686018427387904) (he : w2_Operand_b w2_within K.str n = (w2_within n 9).bind fun _ => (w2_within n m).bind fun r => some (g r)) (h : ∀ r, 0 ≤ r → r < m → K.ok (g r) = true ∧ inI (g r)) :
    ∃ v, w2_Operand K.str n = some v ∧ K.ok v = true ∧ inI v := by
  rw [w2_Operand.eq, he, w2_within_eq n 9 (by decide) (by decide), Option.bind_some, w2_within_eq n m hm.1 hm.2, Option.bind_some]
  have h := h (n % m) (Int.emod_nonneg _ (by omega)) (Int.emod_lt_of_pos _ hm.1)
  exact ⟨_, rfl, h.1, h.2⟩
theorem in_of {v : Int} (h0 : -9223372036854775808 ≤ v) (h1 : v ≤ 9223372036854775807) : inI v := ⟨h0, h1⟩
theorem operand_is (K : Kn) (n : Int) : ∃ v, w2_Operand K.str n = some v ∧ K.ok v = true ∧ inI v := by
  cases K
  case X => exact operand_list [0, 1, 7, 24, 31, 5, 28, 3, 30] (fun e => e) (by kernel_rfl) rfl (by kernel_rfl)
  case Y => exact operand_list [0, 1, 7, 24, 31, 5, 28, 3, 30] (fun e => e) (by kernel_rfl) rfl (by kernel_rfl)
  case D => exact operand_list [0, 31, 1, 15, 16, 7, 30, 12, 3] (fun e => e) (by kernel_rfl) rfl (by kernel_rfl)
  case A => exact operand_list [0, 31, 1, 15, 16, 7, 30, 12, 3] (fun e => e) (by kernel_rfl) rfl (by kernel_rfl)
  case B => exact operand_list [0, 31, 1, 15, 16, 7, 30, 12, 3] (fun e => e) (by kernel_rfl) rfl (by kernel_rfl)
  case U5 => exact operand_list [0, 31, 1, 15, 16, 7, 30, 12, 3] (fun e => e) (by kernel_rfl) rfl (by kernel_rfl)
  case U7 => exact operand_list [0, 127, 64, 1, 63, 100, 7, 15, 16] (fun e => e) (by kernel_rfl) rfl (by kernel_rfl)
  case O5 => exact operand_list [1, 32, 2, 16, 31, 17, 8, 5, 30] (fun e => e) (by kernel_rfl) rfl (by kernel_rfl)
  case M1 => exact operand_list [0, 15, 1, 7, 8, 4, 12, 3, 14] (fun e => e) (by kernel_rfl) rfl (by kernel_rfl)
  case I4 => exact operand_list [0, 15, 1, 7, 8, 4, 12, 3, 14] (fun e => e) (by kernel_rfl) rfl (by kernel_rfl)
  case M2 => exact operand_list [0, 15, 1, 7, 8, 4, 12, 3, 14] (fun e => w64 (2 * e)) (by kernel_rfl) rfl (by kernel_rfl)
  case M4 => exact operand_list [0, 15, 1, 7, 8, 4, 12, 3, 14] (fun e => w64 (4 * e)) (by kernel_rfl) rfl (by kernel_rfl)
  case S16 => exact operand_list [0, 32767, -32768, -1, 1, 255, -256, 4660, -4660] (fun e => e) (by kernel_rfl) rfl (by kernel_rfl)
  case C8 => exact operand_list [0, 255, 256, 65280, -1, -2, 16711680, -256, 2130706432] (fun e => e) (by kernel_rfl) rfl (by kernel_rfl)
  case O1 => exact operand_num 2 (fun r => r) (by decide) (by kernel_rfl) fun r h0 h1 => ⟨by simp only [Kn.ok, decide_eq_true_eq]; omega, in_of (by omega) (by omega)⟩
  case I2 => exact operand_num 4 (fun r => r) (by decide) (by kernel_rfl) fun r h0 h1 => ⟨by simp only [Kn.ok, decide_eq_true_eq]; omega, in_of (by omega) (by omega)⟩
  case O2 => exact operand_num 4 (fun r => r) (by decide) (by kernel_rfl) fun r h0 h1 => ⟨by simp only [Kn.ok, decide_eq_true_eq]; omega, in_of (by omega) (by omega)⟩
  case T8 =>
    exact operand_num 256 (fun r => w64 (2 * (w64 (r - 128)))) (by decide) (by kernel_rfl) fun r h0 h1 => by
      rw [w64_in (n := r - 128) (by omega) (by omega), w64_in (n := 2 * (r - 128)) (by omega) (by omega)]
      exact ⟨by simp only [Kn.ok, decide_eq_true_eq]; omega, in_of (by omega) (by omega)⟩
  case L20 =>
    exact operand_num 1048576 (fun r => w64 (r - 524288)) (by decide) (by kernel_rfl) fun r h0 h1 => by
      rw [w64_in (n := r - 524288) (by omega) (by omega)]
      exact ⟨by simp only [Kn.ok, decide_eq_true_eq]; omega, in_of (by omega) (by omega)⟩
  case T15 =>
    exact operand_num 32768 (fun r => w64 (2 * (w64 (r - 16384)))) (by decide) (by kernel_rfl) fun r h0 h1 => by
      rw [w64_in (n := r - 16384) (by omega) (by omega), w64_in (n := 2 * (r - 16384)) (by omega) (by omega)]
      exact ⟨by simp only [Kn.ok, decide_eq_true_eq]; omega, in_of (by omega) (by omega)⟩
  case T24 =>
    exact operand_num 16777216 (fun r => w64 (2 * (w64 (r - 8388608)))) (by decide) (by kernel_rfl) fun r h0 h1 => by
      rw [w64_in (n := r - 8388608) (by omega) (by omega), w64_in (n := 2 * (r - 8388608)) (by omega) (by omega)]
      exact ⟨by simp only [Kn.ok, decide_eq_true_eq]; omega, in_of (by omega) (by omega)⟩
theorem make_l (Ks : List Kn) (ns : List Int) (op : Int) (h0 : T_api_Inst) (hK : Ks.length ≤ 8) : ∀ (d j : Nat) (F : List Int), j + d = Ks.length → F.length = j → (∀ v ∈ F, inI v) →
    ∃ l, w2_Make_L1 ⟨ns, Ks.map Kn.str, (j : Int), h0, ⟨op, F⟩⟩ = some ⟨h0, ⟨op, F ++ l⟩⟩ ∧ okA (Ks.drop j) l = true ∧ ∀ v ∈ F ++ l, inI v
  | 0, j, F, hd, hF, hw => by
    refine ⟨[], ?_, ?_, by simpa using hw⟩
    · rw [w2_Make_L1.eq]; unfold w2_Make_L1_b; simp only
      rw [List.length_map, show decide ((j : Int) < (Ks.length : Nat)) = false from decide_eq_false (by omega), List.append_nil]; rfl
    · rw [List.drop_eq_nil_of_le (by omega)]; rfl
  | d + 1, j, F, hd, hF, hw => by
    have hj : j < Ks.length := by omega
    have hj2 : j < (Ks.map Kn.str).length := by rw [List.length_map]; exact hj
    have next : w64 ((j : Int) + 1) = ((j + 1 : Nat) : Int) := by rw [w64_in (by omega) (by omega)]; rfl
    have key : ∀ n : Int, ∃ l, ((w2_Operand (Ks[j]).str n).bind fun r3 => (bif decide ((F.length + [r3].length) * 8 ≤ most) then some (.inl (⟨ns, Ks.map Kn.str, ((j + 1 : Nat) : Int), h0, ⟨op, F ++ [r3]⟩⟩ : w2_Make_L1_A)) else none : Option (w2_Make_L1_A ⊕ w2_Make_L1_O0))).bind (Sum.elim w2_Make_L1 some) = some ⟨h0, ⟨op, F ++ l⟩⟩ ∧ okA (Ks.drop j) l = true ∧ ∀ v ∈ F ++ l, inI v := by
      intro n
      obtain ⟨v, e, hv, hb⟩ := operand_is (Ks[j]) n
      obtain ⟨l, e2, ho, hw2⟩ := make_l Ks ns op h0 hK d (j + 1) (F ++ [v]) (by omega) (by simp [hF]) (by
        intro x hx
        rcases List.mem_append.1 hx with h | h
        · exact hw x h
        · rw [List.mem_singleton.1 h]; exact hb)
      rw [e, Option.bind_some, show decide ((F.length + [v].length) * 8 ≤ most) = true from decide_eq_true (by rw [List.length_singleton]; unfold most; omega), cond_true, Option.bind_some, Sum.elim_inl]
      refine ⟨v :: l, ?_, ?_, ?_⟩
      · rw [e2, List.append_assoc]; rfl
      · rw [List.drop_eq_getElem_cons hj]; simp only [okA, hv, ho, Bool.and_self]
      · rw [List.append_assoc] at hw2; exact hw2
    rw [w2_Make_L1.eq]; unfold w2_Make_L1_b; simp only
    rw [show decide ((j : Int) < ((Ks.map Kn.str).length : Nat)) = true from decide_eq_true (by omega), cond_true, show decide (0 ≤ (j : Int)) = true from decide_eq_true (by omega), cond_true, cond_true, Int.toNat_natCast, List.getElem?_eq_getElem hj2, List.getElem_map, next]
    by_cases c : (j : Int) < (ns.length : Nat)
    · rw [decide_eq_true c, cond_true, List.getElem?_eq_getElem (show j < ns.length by omega), Option.bind_some, Option.bind_some]
      exact key _
    · rw [decide_eq_false c, cond_false, Option.bind_some]
      exact key _
theorem fin_op (op : Int) : ∃ i : Nat, op % 66 = (i : Int) ∧ i < 66 := ⟨(op % 66).toNat, by omega, by omega⟩
theorem make_is (op : Int) (ns : List Int) : ∃ (i : Nat) (l : List Int), i < 66 ∧ w2_Make op ns = some ((i : Int), l) ∧ okA (ks i) l = true ∧ ∀ v ∈ l, inI v := by
  obtain ⟨i, hi, h66⟩ := fin_op op
  obtain ⟨q, q1, q2, q3, q4, q5⟩ := ref_row h66
  have hk := ks_len i
  obtain ⟨l, e, ho, hw⟩ := make_l (ks i) ns (i : Int) ⟨0, []⟩ (by omega) (ks i).length 0 [] (by omega) rfl (fun v hv => nomatch hv)
  refine ⟨i, l, h66, ?_, ho, by simpa using hw⟩
  rw [w2_Make.eq]; unfold w2_Make_b
  rw [w2_within_eq op 66 (by decide) (by decide), Option.bind_some, hi, q4, Option.bind_some, q5, Option.bind_some]
  have e' : w2_Make_L1 ⟨ns, (ks i).map Kn.str, 0, ⟨0, []⟩, ⟨(i : Int), []⟩⟩ = some ⟨⟨0, []⟩, ⟨(i : Int), [] ++ l⟩⟩ := e
  rw [e', Option.bind_some, List.nil_append]
theorem enc_of {i : Nat} {l : List Int} (h : i < 66) (ho : okA (ks i) l = true) : enc (i : Int) l = some (orA (bs i) (ks i) l) := by
  unfold enc; rw [Int.toNat_natCast, if_pos ⟨by omega, ho⟩]
end Go.Ab
set_option maxRecDepth 100000
namespace Go.Ab
def fmA : List Kn → Nat
  | [] => 0
  | K :: Ks => K.fm ||| fmA Ks
def disj : List Kn → Bool
  | [] => true
  | K :: Ks => K.fm &&& fmA Ks == 0 && disj Ks
theorem orA_or : ∀ (Ks : List Kn) (l : List Int) (n : Nat), orA n Ks l = n ||| orA 0 Ks l
  | [], l, n => by simp [orA]
  | K :: Ks, [], n => by simp [orA]
  | K :: Ks, v :: l, n => by
    simp only [orA]
    rw [orA_or Ks l (n ||| (K.bit v).toNat), orA_or Ks l (0 ||| (K.bit v).toNat), Nat.zero_or, Nat.or_assoc]
theorem orA_in : ∀ {Ks : List Kn} {l : List Int}, okA Ks l = true → orA 0 Ks l &&& fmA Ks = orA 0 Ks l
  | [], [], _ => rfl
  | K :: Ks, v :: l, ho => by
    simp only [okA, Bool.and_eq_true] at ho
    simp only [orA, fmA]
    rw [orA_or, Nat.zero_or, Nat.and_or_distrib_right, Nat.and_or_distrib_left, Nat.and_or_distrib_left, (K.bit_in v ho.1).2, orA_in ho.2]
    apply Nat.eq_of_testBit_eq
    intro i
    simp only [Nat.testBit_or, Nat.testBit_and]
    cases (K.bit v).toNat.testBit i <;> cases (orA 0 Ks l).testBit i <;> cases K.fm.testBit i <;> cases (fmA Ks).testBit i <;> rfl
  | [], _ :: _, h => by simp [okA] at h
  | _ :: _, [], h => by simp [okA] at h
theorem in_zero {x m c : Nat} (h : x &&& m = x) (hc : m &&& c = 0) : x &&& c = 0 := by
  rw [← h, Nat.and_assoc, hc, Nat.and_zero]
theorem vals_back : ∀ (Ks : List Kn) (l : List Int) (b : Nat), b &&& fmA Ks = 0 → disj Ks = true → okA Ks l = true → Ks.map (fun K => K.val ((orA b Ks l : Nat) : Int)) = l
  | [], [], b, _, _, _ => rfl
  | K :: Ks, v :: l, b, hb, hd, ho => by
    simp only [okA, Bool.and_eq_true] at ho
    simp only [disj, Bool.and_eq_true, beq_iff_eq] at hd
    simp only [fmA, Nat.and_or_distrib_left] at hb
    have hb1 : b &&& K.fm = 0 := by have := Nat.left_le_or (n := b &&& K.fm) (m := b &&& fmA Ks); omega
    have hb2 : b &&& fmA Ks = 0 := by have := Nat.right_le_or (n := b &&& K.fm) (m := b &&& fmA Ks); omega
    have hv := K.bit_in v ho.1
    have h1 : (b ||| (K.bit v).toNat) &&& fmA Ks = 0 := by
      rw [Nat.and_or_distrib_right, hb2, in_zero hv.2 hd.1]; rfl
    have ih := vals_back Ks l (b ||| (K.bit v).toNat) h1 hd.2 ho.2
    have hT : orA (b ||| (K.bit v).toNat) Ks l &&& K.fm = (K.bit v).toNat := by
      rw [orA_or, Nat.and_or_distrib_right, Nat.and_or_distrib_right, hb1, hv.2, in_zero (orA_in ho.2) (by rw [Nat.and_comm]; exact hd.1)]
      simp
    have hval : K.val ((orA (b ||| (K.bit v).toNat) Ks l : Nat) : Int) = v := by
      rw [← K.val_fm, hT, show (((K.bit v).toNat : Nat) : Int) = K.bit v by omega]
      exact K.val_bit v ho.1
    simp only [List.map_cons, orA, hval, ih]
  | [], _ :: _, b, _, _, h => by simp [okA] at h
  | _ :: _, [], b, _, _, h => by simp [okA] at h
theorem rows_disj : ∀ i : Fin 66, disj (ks i.val) = true ∧ bs i.val &&& fmA (ks i.val) = 0 := by decide +kernel
def cm (i j : Nat) : Nat := 4294967295 ^^^ (fmA (ks i) ||| fmA (ks j))
theorem rows_apart : ∀ i : Fin 66, ∀ j : Fin 66, (fmA (ks i.val) &&& cm i.val j.val = 0 ∧ fmA (ks j.val) &&& cm i.val j.val = 0) ∧ (i.val = j.val ∨ sz i.val ≠ sz j.val ∨ bs i.val &&& cm i.val j.val ≠ bs j.val &&& cm i.val j.val) := by decide +kernel
theorem vals_enc {i : Nat} {l : List Int} {n : Nat} (h : enc (i : Int) l = some n) : vals i n = l := by
  obtain ⟨h1, h2, h3⟩ := enc_some h
  rw [Int.toNat_natCast] at h2 h3
  obtain ⟨a, b⟩ := rows_disj ⟨i, by omega⟩
  rw [h3]
  exact vals_back _ _ _ b a h2
theorem enc_apart {i j : Nat} {l m : List Int} {n : Nat} (h : enc (i : Int) l = some n) (h' : enc (j : Int) m = some n) (hs : sz i = sz j) : i = j := by
  obtain ⟨h1, h2, h3⟩ := enc_some h
  obtain ⟨g1, g2, g3⟩ := enc_some h'
  rw [Int.toNat_natCast] at h2 h3 g2 g3
  obtain ⟨⟨a, b⟩, c⟩ := rows_apart ⟨i, by omega⟩ ⟨j, by omega⟩
  rcases c with c | c | c
  · exact c
  · exact absurd hs c
  · exfalso
    apply c
    have e1 : n &&& cm i j = bs i &&& cm i j := by
      rw [h3, orA_or, Nat.and_or_distrib_right, in_zero (orA_in h2) a, Nat.or_zero]
    have e2 : n &&& cm i j = bs j &&& cm i j := by
      rw [g3, orA_or, Nat.and_or_distrib_right, in_zero (orA_in g2) b, Nat.or_zero]
    exact e1.symm.trans e2
theorem dgo_enc {o : Nat} {l : List Int} {n : Nat} (h : enc (o : Int) l = some n) : ∀ d i : Nat, i + d = 66 → i ≤ o → dgo n (sz o) d i = some o
  | 0, i, hd, hi => by have := (enc_some h).1; omega
  | d + 1, i, hd, hi => by
    unfold dgo
    by_cases c : i = o
    · subst c
      rw [if_pos ⟨rfl, by rw [vals_enc h]; exact h⟩]
    · rw [if_neg (fun hh => c (enc_apart hh.2 h hh.1))]
      exact dgo_enc h d (i + 1) (by omega) (by omega)
theorem rows_top : ∀ i : Fin 66, if i.val < 43 then fmA (ks i.val) &&& ((2 ^ 4 - 1) * 2 ^ 12) = 0 ∧ ¬ (bs i.val / 2 ^ 12 % 2 ^ 4 < 8 ∧ bs i.val / 2 ^ 12 % 2 ^ 4 % 2 = 1) else fmA (ks i.val) &&& ((2 ^ 4 - 1) * 2 ^ 28) = 0 ∧ (bs i.val / 2 ^ 28 % 2 ^ 4 < 8 ∧ bs i.val / 2 ^ 28 % 2 ^ 4 % 2 = 1) := by decide +kernel
theorem top_is {i a : Nat} {l : List Int} {n : Nat} (h : enc (i : Int) l = some n) (hf : fmA (ks i) &&& ((2 ^ 4 - 1) * 2 ^ a) = 0) : n / 2 ^ a % 2 ^ 4 = bs i / 2 ^ a % 2 ^ 4 := by
  obtain ⟨h1, h2, h3⟩ := enc_some h
  rw [Int.toNat_natCast] at h2 h3
  have e : n &&& ((2 ^ 4 - 1) * 2 ^ a) = bs i &&& ((2 ^ 4 - 1) * 2 ^ a) := by
    rw [h3, orA_or, Nat.and_or_distrib_right, in_zero (orA_in h2) hf, Nat.or_zero]
  rw [nat_field, nat_field] at e
  exact Nat.eq_of_mul_eq_mul_right (Nat.two_pow_pos a) e
theorem first_is {i : Nat} {l : List Int} {n : Nat} (h : enc (i : Int) l = some n) (more : List Int) : szOf ((byts (i : Int) n ++ more).headD 0) = sz i := by
  have hi := (enc_some h).1
  have ht := rows_top ⟨i, by omega⟩
  have h32 := enc_lt h
  unfold byts sz
  by_cases c : i < 43
  · have h16 := enc_lt16 h c
    simp only [c, if_true] at ht
    have e := top_is h ht.1
    rw [if_pos (by omega), if_pos c]
    show szOf ((n : Int) / 256 % 256) = 2
    unfold szOf
    exact if_neg (by have h2 := ht.2; rw [← e] at h2; omega)
  · simp only [c, if_false] at ht
    have e := top_is h ht.1
    rw [if_neg (by omega), if_neg c]
    show szOf ((n : Int) / 16777216 % 256) = 4
    unfold szOf
    exact if_pos (by have h2 := ht.2; rw [← e] at h2; omega)
theorem dec_enc {i : Nat} {l : List Int} {n : Nat} (h : enc (i : Int) l = some n) (more : List Int) : dec (byts (i : Int) n ++ more) = (⟨(i : Int), l⟩, sz i, true) := by
  have hs : sz i = 2 ∨ sz i = 4 := by unfold sz; split <;> simp
  have hl := byts_len i n
  unfold dec
  rw [first_is h more, if_pos ⟨by rw [List.length_append]; omega, by rw [List.length_append]; omega⟩, List.take_append_of_le_length (by omega), List.take_of_length_le (by omega), wd_byts h]
  unfold decW
  rw [dgo_enc h 66 0 (by omega) (by omega)]
  simp only [vals_enc h]
end Go.Ab
set_option maxRecDepth 100000
namespace Go.Ab
def ba (l : List UInt8) : ByteArray := ⟨l.toArray⟩
theorem bl_ba (l : List UInt8) : bl (ba l) = l := by simp [bl, ba]
theorem ba_bl (s : ByteArray) : ba (bl s) = s := by cases s; simp [bl, ba]
theorem ba_size (l : List UInt8) : (ba l).size = l.length := by rw [bl_size, bl_ba]
theorem ba_inj {a b : List UInt8} (h : ba a = ba b) : a = b := by rw [← bl_ba a, ← bl_ba b, h]
theorem ba_append (a b : List UInt8) : ba a ++ ba b = ba (a ++ b) := by rw [← ba_bl (ba a ++ ba b), bl_append, bl_ba, bl_ba]
theorem eqS_ba (a b : List UInt8) : eqS (ba a) (ba b) = decide (a = b) := by rw [eqS_decide, bl_ba, bl_ba]
theorem guard_ok {n : Nat} (h : n ≤ 1000000000) : decide (((n : Nat) : Int) ≤ IntKind.i64.max) = true := decide_eq_true (by rw [show IntKind.i64.max = 9223372036854775807 from by decide]; omega)
theorem guardS (a b : List UInt8) (h : a.length + b.length ≤ 1000000000) : decide ((((ba a).size + (ba b).size : Nat) : Int) ≤ IntKind.i64.max) = true := by rw [ba_size, ba_size]; exact guard_ok h
theorem dec_len : ∀ (g u : Nat), u < 10 ^ g → 0 < g → (Lib.decDigits u).length ≤ g
  | 0, u, h, h0 => by omega
  | g + 1, u, h, h0 => by
    rw [Lib.decDigits]
    split
    · simp
    · rename_i hu
      cases g with
      | zero => omega
      | succ g =>
        have := dec_len (g + 1) (u / 10) (by rw [Nat.pow_succ] at h; omega) (by omega)
        simp; omega
theorem u8_in {n : Int} (h1 : 0 ≤ n) (h2 : n ≤ 255) : IntKind.u8.wrap n = n := by
  have e : n % 256 = n := Int.emod_eq_of_lt h1 (by omega)
  unfold IntKind.wrap
  simp [IntKind.bits, IntKind.signed, e]
theorem r3_Digits_eq {u : Nat} (h : u < 9223372036854775808) : r3_Digits (u : Int) = some (ba (Lib.decDigits u)) := by
  induction u using Nat.strongRecOn with
  | _ u ih =>
    rw [r3_Digits.eq]; unfold r3_Digits_b
    have c1 : decide ((u : Int) < 0) = false := decide_eq_false (by omega)
    rw [c1, cond_false, Lib.decDigits]
    by_cases hu : u < 10
    · have c2 : decide ((u : Int) ≥ 10) = false := decide_eq_false (by omega)
      rw [c2, cond_false, dif_pos hu, w64_in (by omega) (by omega), u8_in (by omega) (by omega)]
      simp only [Option.bind_some, listB, List.map_cons, List.map_nil]
      rw [show ((48 : Int) + (u : Int)).toNat = 48 + u from by omega]; rfl
    · have c2 : decide ((u : Int) ≥ 10) = true := decide_eq_true (by omega)
      have e1 : w64 (Int.tdiv (u : Int) 10) = ((u / 10 : Nat) : Int) := by
        rw [show Int.tdiv (u : Int) 10 = ((u / 10 : Nat) : Int) from by rw [show (10 : Int) = ((10 : Nat) : Int) from rfl, ← Int.ofNat_tdiv]]
        exact w64_in (by omega) (by omega)
      have e2 : Int.tmod (u : Int) 10 = ((u % 10 : Nat) : Int) := by rw [show (10 : Int) = ((10 : Nat) : Int) from rfl, ← Int.ofNat_tmod]
      have hl1 := dec_len 19 (u / 10) (by simp; omega) (by omega)
      have hl2 := dec_len 19 (u % 10) (by simp; omega) (by omega)
      rw [c2, cond_true, dif_neg hu, e1, e2, ih (u / 10) (by omega) (by omega)]
      have e3 : Lib.decDigits (u % 10) = [UInt8.ofNat (48 + u % 10)] := by rw [Lib.decDigits, dif_pos (by omega)]
      simp only [Option.bind_some]
      rw [ih (u % 10) (by omega) (by omega)]
      simp only [Option.bind_some, ba_append, ba_size]
      rw [guard_ok (by omega), cond_true, e3]
def dg (v : Int) : List UInt8 := Lib.itoa v
abbrev small (v : Int) : Prop := -1099511627776 ≤ v ∧ v ≤ 1099511627776
theorem dg_len {v : Int} (h : small v) : (dg v).length ≤ 14 := by
  unfold dg Lib.itoa
  split
  · have := dec_len 13 v.natAbs (by omega) (by omega)
    simp only [List.length_cons]; omega
  · have := dec_len 13 v.toNat (by omega) (by omega)
    omega
theorem itoa_is {v : Int} (h : small v) : strconv_Itoa v = some (ba (dg v)) := by
  show itoaQ v = _
  rw [itoaQ_eq]; unfold itoaS
  rw [if_pos (by omega)]; rfl
theorem digits_is {v : Int} (h : small v) : r3_Digits v = some (ba (dg v)) := by
  by_cases c : v < 0
  · rw [r3_Digits.eq]; unfold r3_Digits_b
    have e : w64 (0 - v) = ((v.natAbs : Nat) : Int) := by rw [w64_in (by omega) (by omega)]; omega
    have hl := dec_len 13 v.natAbs (by omega) (by omega)
    rw [decide_eq_true c, cond_true, e, r3_Digits_eq (by omega), Option.bind_some, show h_2d = ba [45] from rfl, guardS _ _ (by simp only [List.length_singleton]; omega), cond_true, ba_append]
    unfold dg Lib.itoa
    rw [if_pos c]; rfl
  · have e : v = ((v.toNat : Nat) : Int) := by omega
    rw [e, r3_Digits_eq (by omega)]
    unfold dg Lib.itoa
    rw [if_neg (by omega)]; rfl
def Kn.isR : Kn → Bool
  | .X | .Y | .D | .A | .B => true
  | _ => false
def Kn.isT : Kn → Bool
  | .T8 | .T15 | .T24 => true
  | _ => false
def opT (K : Kn) (v : Int) : List UInt8 := if K.isR then 114 :: dg v else if K.isT then (if v < 0 then [46, 32, 45, 32] ++ dg (0 - v) else [46, 32, 43, 32] ++ dg v) else dg v
theorem reg_ref (K : Kn) : r4_Register K.str = some K.isR := by cases K <;> exact cv_some (r4_Register.cv _) 40 (by kernel_rfl)
theorem con_is (K : Kn) : containsS h_2058205920442041204220 ((h_20 ++ K.str) ++ h_20) = some K.isR := by cases K <;> kernel_rfl
theorem str_small (K : Kn) : decide (((h_20.size + K.str.size : Nat) : Int) ≤ IntKind.i64.max) = true ∧ decide ((((h_20 ++ K.str).size + h_20.size : Nat) : Int) ≤ IntKind.i64.max) = true ∧ decide (0 ≤ (0 : Int) ∧ 0 < ((K.str.size : Nat) : Int)) = true ∧ (((K.str.data.getD (Int.toNat 0) 0).toNat : Int) == 84) = K.isT := by cases K <;> exact ⟨by kernel_rfl, by kernel_rfl, by kernel_rfl, by kernel_rfl⟩
theorem operand_prog (K : Kn) (v : Int) (h : small v) : dis_operand K.str v = some (ba (opT K v)) := by
  obtain ⟨h1, h2, h3, h4⟩ := str_small K
  have hl := dg_len h
  rw [dis_operand.eq]; unfold dis_operand_b
  rw [h1, cond_true, h2, cond_true, show strings_Contains h_2058205920442041204220 ((h_20 ++ K.str) ++ h_20) = _ from con_is K, Option.bind_some]
  unfold opT
  cases K.isR with
  | true => rw [cond_true, itoa_is h, Option.bind_some, show s_r = ba [114] from rfl, guardS _ _ (by simp only [List.length_singleton]; omega), cond_true, ba_append, if_pos rfl]; rfl
  | false =>
    rw [cond_false, h3, cond_true, h4, if_neg (by decide)]
    cases K.isT with
    | false => rw [cond_false, itoa_is h, Option.bind_some, if_neg (by decide)]
    | true =>
      rw [cond_true, if_pos rfl]
      by_cases c : v < 0
      · have hl' := dg_len (v := 0 - v) (by omega)
        rw [decide_eq_true c, cond_true, if_pos c, w64_in (n := 0 - v) (by omega) (by omega), itoa_is (v := 0 - v) (by omega), Option.bind_some, show h_2e202d20 = ba [46, 32, 45, 32] from rfl, guardS _ _ (by simp only [List.length_cons, List.length_nil]; omega), cond_true, ba_append]
      · rw [decide_eq_false c, cond_false, if_neg c, itoa_is h, Option.bind_some, show h_2e202b20 = ba [46, 32, 43, 32] from rfl, guardS _ _ (by simp only [List.length_cons, List.length_nil]; omega), cond_true, ba_append]
theorem operand_ref (K : Kn) (v : Int) (h : small v) : r6_operand K.str v = some (ba (opT K v)) := by
  obtain ⟨h1, h2, h3, h4⟩ := str_small K
  have hl := dg_len h
  rw [r6_operand.eq]; unfold r6_operand_b
  rw [reg_ref K, Option.bind_some]
  unfold opT
  cases K.isR with
  | true => rw [cond_true, digits_is h, Option.bind_some, show s_r = ba [114] from rfl, guardS _ _ (by simp only [List.length_singleton]; omega), cond_true, ba_append, if_pos rfl]; rfl
  | false =>
    rw [cond_false, h3, cond_true, if_neg (by decide), show (((K.str.data.getD (Int.toNat 0) 0).toNat : Int) != 84) = !K.isT by rw [bne, h4]]
    cases K.isT with
    | false => rw [show (!false) = true from rfl, cond_true, digits_is h, Option.bind_some, if_neg (by decide)]
    | true =>
      rw [show (!true) = false from rfl, cond_false, if_pos rfl]
      by_cases c : v < 0
      · have hl' := dg_len (v := 0 - v) (by omega)
        rw [decide_eq_true c, cond_true, if_pos c, w64_in (n := 0 - v) (by omega) (by omega), digits_is (v := 0 - v) (by omega), Option.bind_some, show h_2e202d20 = ba [46, 32, 45, 32] from rfl, guardS _ _ (by simp only [List.length_cons, List.length_nil]; omega), cond_true, ba_append]
      · rw [decide_eq_false c, cond_false, if_neg c, digits_is h, Option.bind_some, show h_2e202b20 = ba [46, 32, 43, 32] from rfl, guardS _ _ (by simp only [List.length_cons, List.length_nil]; omega), cond_true, ba_append]
theorem opT_len (K : Kn) (v : Int) (h : small v) : (opT K v).length ≤ 18 := by
  have h1 := dg_len h
  have h2 := dg_len (v := 0 - v) (by omega)
  unfold opT
  split
  · simp only [List.length_cons]; omega
  · split
    · split <;> simp only [List.length_append, List.length_cons, List.length_nil] <;> omega
    · omega
/-! ### An instruction -/
def nmL : List (List UInt8) := [[115, 101, 95, 105, 108, 108, 101, 103, 97, 108], [115, 101, 95, 105, 115, 121, 110, 99], [115, 101, 95, 115, 99], [115, 101, 95, 98, 108, 114], [115, 101, 95, 98, 99, 116, 114], [115, 101, 95, 110, 111, 116], [115, 101, 95, 110, 101, 103], [115, 101, 95, 109, 102, 108, 114], [115, 101, 95, 109, 116, 108, 114], [115, 101, 95, 109, 102, 99, 116, 114], [115, 101, 95, 109, 116, 99, 116, 114], [115, 101, 95, 101, 120, 116, 122, 98], [115, 101, 95, 101, 120, 116, 115, 98], [115, 101, 95, 101, 120, 116, 122, 104], [115, 101, 95, 101, 120, 116, 115, 104], [115, 101, 95, 109, 114], [115, 101, 95, 97, 100, 100], [115, 101, 95, 109, 117, 108, 108, 119], [115, 101, 95, 115, 117, 98], [115, 101, 95, 99, 109, 112], [115, 101, 95, 99, 109, 112, 108], [115, 101, 95, 97, 100, 100, 105], [115, 101, 95, 99, 109, 112, 108, 105], [115, 101, 95, 115, 117, 98, 105], [115, 101, 95, 99, 109, 112, 105], [115, 101, 95, 111, 114], [115, 101, 95, 97, 110, 100, 99], [115, 101, 95, 97, 110, 100], [115, 101, 95, 108, 105], [115, 101, 95, 98, 99, 108, 114, 105], [115, 101, 95, 98, 115, 101, 116, 105], [115, 101, 95, 98, 116, 115, 116, 105], [115, 101, 95, 115, 114, 119, 105], [115, 101, 95, 115, 108, 119, 105], [115, 101, 95, 108, 98, 122], [115, 101, 95, 115, 116, 98], [115, 101, 95, 108, 104, 122], [115, 101, 95, 115, 116, 104], [115, 101, 95, 108, 119, 122], [115, 101, 95, 115, 116, 119], [115, 101, 95, 98, 99], [115, 101, 95, 98], [115, 101, 95, 98, 108], [101, 95, 97, 100, 100, 49, 54, 105], [101, 95, 97, 100, 100, 105], [101, 95, 97, 110, 100, 105], [101, 95, 111, 114, 105], [101, 95, 120, 111, 114, 105], [101, 95, 108, 105], [101, 95, 108, 98, 122], [101, 95, 115, 116, 98], [101, 95, 108, 104, 97], [101, 95, 108, 119, 122], [101, 95, 115, 116, 119], [101, 95, 108, 104, 122], [101, 95, 115, 116, 104], [101, 95, 98], [101, 95, 98, 108], [101, 95, 98, 99], [101, 95, 98, 99, 108], [97, 100, 100], [115, 117, 98, 102], [109, 117, 108, 108, 119], [97, 110, 100], [111, 114], [120, 111, 114]]
def nmB (k : Nat) : List UInt8 := nmL.getD k []
def nmChk (k : Nat) : Bool := match isa_Name.s 2000 k, isa_Kinds.s 2000 k, D0[k]? with
  | some n, some kd, some q => eqS n (ba (nmB k)) && eqS q.Name n && decide ((nmB k).length ≤ 10) && (match fieldsS kd with | some l => eqL l ((ks k).map Kn.str) | none => false)
  | _, _, _ => false
theorem nm_all : ((List.range 66).all nmChk) = true := by kernel_rfl
theorem nm_is {k : Nat} (h : k < 66) : isa_Name k = some (ba (nmB k)) ∧ r2_Name k = some (ba (nmB k)) ∧ (nmB k).length ≤ 10 ∧ ∃ kd, isa_Kinds k = some kd ∧ strings_Fields kd = some ((ks k).map Kn.str) := by
  have h' := List.all_eq_true.1 nm_all k (List.mem_range.2 h)
  unfold nmChk at h'
  split at h'
  · rename_i n kd q e1 e2 e3
    simp only [Bool.and_eq_true, decide_eq_true_eq] at h'
    obtain ⟨⟨⟨h1, h2⟩, h3⟩, h4⟩ := h'
    split at h4
    · rename_i l hl
      have a1 := eqS_iff.1 h1
      have a2 := eqS_iff.1 h2
      refine ⟨by rw [← a1]; exact cv_some (isa_Name.cv _) _ e1, ?_, h3, kd, cv_some (isa_Kinds.cv _) _ e2, ?_⟩
      · rw [r2_Name.eq]; unfold r2_Name_b
        rw [find_at e3, Option.bind_some, ← a1, ← a2]
      · show fieldsS kd = _
        rw [hl, eqL_eq h4]
    · cases h4
  · cases h'
def opsL (k : Nat) (l : List Int) : List (List UInt8) := List.zipWith opT (ks k) l
def lineI (k : Nat) (l : List Int) : List UInt8 := nmB k ++ (match opsL k l with | [] => [] | a :: t => 32 :: (a ++ (t.flatMap fun x => 44 :: 32 :: x)))
theorem join_is (a : List UInt8) : ∀ t : List (List UInt8), Lib.join (a :: t) [44, 32] = a ++ (t.flatMap fun x => 44 :: 32 :: x)
  | [] => by simp [Lib.join]
  | b :: t => by
    have ih := join_is b t
    unfold Lib.join at ih ⊢
    rw [List.intercalate_cons_cons, ih]; simp
end Go.Ab
set_option maxRecDepth 100000
namespace Go.Ab
theorem ins_l (Ks : List Kn) (x : T_api_Inst) (hK : Ks.length ≤ 8) (hl : x.F.length = Ks.length) (hs : ∀ v ∈ x.F, small v) : ∀ (d j : Nat) (out : List ByteArray), j + d = Ks.length → out.length = j →
    dis_instruction_L1 ⟨Ks.map Kn.str, Ks.length, j, x, out⟩ = some ⟨x, out ++ ((List.zipWith opT (Ks.drop j) (x.F.drop j)).map ba)⟩
  | 0, j, out, hd, ho => by
    rw [dis_instruction_L1.eq]; unfold dis_instruction_L1_b; simp only
    rw [show decide ((j : Int) < Ks.length) = false from decide_eq_false (by omega), List.drop_eq_nil_of_le (by omega), List.drop_eq_nil_of_le (by omega)]; simp
  | d + 1, j, out, hd, ho => by
    have hj : j < Ks.length := by omega
    have hj2 : j < x.F.length := by omega
    have hj3 : j < (Ks.map Kn.str).length := by rw [List.length_map]; exact hj
    have ih := ins_l Ks x hK hl hs d (j + 1) (out ++ [ba (opT Ks[j] x.F[j])]) (by omega) (by simp [ho])
    rw [dis_instruction_L1.eq]; unfold dis_instruction_L1_b; simp only
    rw [show decide ((j : Int) < Ks.length) = true from decide_eq_true (by omega), cond_true, show decide (0 ≤ (j : Int)) = true from decide_eq_true (by omega), cond_true, Int.toNat_natCast, List.getElem?_eq_getElem hj3, Option.bind_some, List.getElem?_eq_getElem hj2, Option.bind_some, List.getElem_map, operand_prog _ _ (hs _ (List.getElem_mem hj2)), Option.bind_some,
      show decide ((out.length + [ba (opT Ks[j] x.F[j])].length) * 16 ≤ most) = true from decide_eq_true (by rw [List.length_singleton]; unfold most; omega), cond_true, w64_in (n := (j : Int) + 1) (by omega) (by omega), Option.bind_some, Sum.elim_inl, List.drop_eq_getElem_cons hj, List.drop_eq_getElem_cons hj2]
    refine Eq.trans ih ?_
    rw [List.zipWith_cons_cons, List.map_cons, List.append_assoc]; rfl
def sepT (j : Nat) : List UInt8 := if j = 0 then [32] else [44, 32]
def goT : Nat → List (List UInt8) → List UInt8
  | _, [] => []
  | j, a :: t => sepT j ++ a ++ goT (j + 1) t
theorem goT_succ (j : Nat) : ∀ t : List (List UInt8), goT (j + 1) t = t.flatMap fun x => 44 :: 32 :: x
  | [] => rfl
  | a :: t => by
    unfold goT
    rw [goT_succ (j + 1) t, List.flatMap_cons]; simp [sepT]
theorem line_go (k : Nat) (l : List Int) : lineI k l = nmB k ++ goT 0 (opsL k l) := by
  unfold lineI
  cases opsL k l with
  | nil => rfl
  | cons a t =>
    unfold goT
    rw [goT_succ]; simp [sepT]
theorem zip_len {n : Nat} : ∀ {Ks : List Kn} {l : List Int}, (∀ v ∈ l, small v) → ∀ y ∈ List.zipWith opT Ks l, y.length ≤ 18
  | [], _, _, y, h => by simp at h
  | K :: Ks, [], _, y, h => by simp at h
  | K :: Ks, v :: l, hs, y, h => by
    rw [List.zipWith_cons_cons] at h
    rcases List.mem_cons.1 h with rfl | h
    · exact opT_len K v (hs v (List.mem_cons_self ..))
    · exact zip_len (n := n) (fun v hv => hs v (List.mem_cons_of_mem _ hv)) y h
theorem goT_len : ∀ (t : List (List UInt8)) (j : Nat), (∀ y ∈ t, y.length ≤ 18) → (goT j t).length ≤ 20 * t.length
  | [], _, _ => by simp [goT]
  | a :: t, j, h => by
    have ih := goT_len t (j + 1) (fun y hy => h y (List.mem_cons_of_mem _ hy))
    have := h a (List.mem_cons_self ..)
    have hs : (sepT j).length ≤ 2 := by unfold sepT; split <;> simp
    unfold goT
    simp only [List.length_append, List.length_cons]; omega
theorem ref_l (Ks : List Kn) (x : T_api_Inst) (b : List Int) (n : Int) (r0 : List ByteArray) (hK : Ks.length ≤ 8) (hl : x.F.length = Ks.length) (hs : ∀ v ∈ x.F, small v) : ∀ (d j : Nat) (s : List UInt8), j + d = Ks.length → s.length ≤ 1000000 + 20 * j →
    r6_List_L2 ⟨b, n, ba s, Ks.map Kn.str, j, x, r0⟩ = some ⟨b, n, ba (s ++ goT j (List.zipWith opT (Ks.drop j) (x.F.drop j))), r0⟩
  | 0, j, s, hd, ho => by
    rw [r6_List_L2.eq]; unfold r6_List_L2_b; simp only
    rw [show decide ((j : Int) < ((Ks.map Kn.str).length : Nat)) = false from decide_eq_false (by rw [List.length_map]; omega), List.drop_eq_nil_of_le (by omega), List.drop_eq_nil_of_le (by omega)]; simp [goT]
  | d + 1, j, s, hd, ho => by
    have hj : j < Ks.length := by omega
    have hj2 : j < x.F.length := by omega
    have hj3 : j < (Ks.map Kn.str).length := by rw [List.length_map]; exact hj
    have hsm := hs _ (List.getElem_mem hj2)
    have hlen := opT_len Ks[j] x.F[j] hsm
    have next : w64 ((j : Int) + 1) = ((j + 1 : Nat) : Int) := by rw [w64_in (by omega) (by omega)]; rfl
    have hsep : (sepT j).length ≤ 2 := by unfold sepT; split <;> simp
    have ih := ref_l Ks x b n r0 hK hl hs d (j + 1) (s ++ sepT j ++ opT Ks[j] x.F[j]) (by omega) (by simp only [List.length_append]; omega)
    rw [r6_List_L2.eq]; unfold r6_List_L2_b; simp only
    rw [show decide ((j : Int) < ((Ks.map Kn.str).length : Nat)) = true from decide_eq_true (by omega), cond_true, List.drop_eq_getElem_cons hj, List.drop_eq_getElem_cons hj2, List.zipWith_cons_cons]
    have hgo : s ++ goT j (opT Ks[j] x.F[j] :: List.zipWith opT (Ks.drop (j + 1)) (x.F.drop (j + 1))) = s ++ sepT j ++ opT Ks[j] x.F[j] ++ goT (j + 1) (List.zipWith opT (Ks.drop (j + 1)) (x.F.drop (j + 1))) := by
      rw [goT]; simp
    rw [hgo]
    by_cases c : j = 0
    · have e : sepT j = [32] := if_pos c
      rw [e] at ih ⊢
      rw [show decide ((j : Int) > 0) = false from decide_eq_false (by omega), cond_false, show h_20 = ba [32] from rfl, guardS s [32] (by simp only [List.length_singleton]; omega), cond_true, show decide (0 ≤ (j : Int)) = true from decide_eq_true (by omega), cond_true, Int.toNat_natCast, List.getElem?_eq_getElem hj3, Option.bind_some, List.getElem?_eq_getElem hj2, Option.bind_some, List.getElem_map, operand_ref _ _ hsm, Option.bind_some, ba_append, guardS _ _ (by simp only [List.length_append, List.length_singleton]; omega), cond_true, ba_append, next, Option.bind_some, Sum.elim_inl]
      exact ih
    · have e : sepT j = [44, 32] := if_neg c
      rw [e] at ih ⊢
      rw [show decide ((j : Int) > 0) = true from decide_eq_true (by omega), cond_true, show h_2c = ba [44] from rfl, show h_20 = ba [32] from rfl, guardS s [44] (by simp only [List.length_singleton]; omega), cond_true, ba_append, guardS _ _ (by simp only [List.length_append, List.length_singleton]; omega), cond_true, show decide (0 ≤ (j : Int)) = true from decide_eq_true (by omega), cond_true, Int.toNat_natCast, List.getElem?_eq_getElem hj3, Option.bind_some, List.getElem?_eq_getElem hj2, Option.bind_some, List.getElem_map, operand_ref _ _ hsm, Option.bind_some, ba_append, guardS _ _ (by simp only [List.length_append, List.length_singleton]; omega), cond_true, ba_append, next, Option.bind_some, Sum.elim_inl]
      rw [List.append_assoc s [44] [32]]
      exact ih
def okLn (k : Nat) (l : List Int) : Prop := k < 66 ∧ l.length = (ks k).length ∧ ∀ v ∈ l, small v
theorem ops_len {k : Nat} {l : List Int} (h : okLn k l) : (opsL k l).length = (ks k).length ∧ ∀ y ∈ opsL k l, y.length ≤ 18 := by
  refine ⟨?_, zip_len (n := 0) h.2.2⟩
  unfold opsL; rw [List.length_zipWith, h.2.1]; omega
theorem line_len {k : Nat} {l : List Int} (h : okLn k l) : (lineI k l).length ≤ 70 := by
  obtain ⟨h1, h2⟩ := ops_len h
  have := goT_len (opsL k l) 0 h2
  have hk := ks_len k
  have hn := (nm_is h.1).2.2.1
  rw [line_go, List.length_append]; omega
theorem maps_ba (t : List (List UInt8)) : (t.map ba).map (fun s : ByteArray => s.data.toList) = t := by
  rw [List.map_map]
  conv => rhs; rw [← List.map_id t]
  exact List.map_congr_left fun a _ => bl_ba a
theorem instr_a {k : Nat} {l : List Int} (h : okLn k l) : ∃ kd, isa_Kinds k = some kd ∧ strings_Fields kd = some ((ks k).map Kn.str) := (nm_is h.1).2.2.2
theorem instr_b {k : Nat} {l : List Int} (h : okLn k l) : dis_instruction ⟨(k : Int), l⟩ = (bif ((((((opsL k l).map ba).length) : Nat) : Int) == 0) then (isa_Name k).bind fun r4 => some r4 else (isa_Name k).bind fun r5 => bif (decide (((r5.size + h_20.size : Nat) : Int) ≤ IntKind.i64.max)) then (strings_Join ((opsL k l).map ba) h_2c20).bind fun r6 => (bif (decide ((((r5 ++ h_20).size + r6.size : Nat) : Int) ≤ IntKind.i64.max)) then some ((r5 ++ h_20) ++ r6) else none) else none) := by
  obtain ⟨kd, n4, n5⟩ := instr_a h
  have hk := ks_len k
  rw [dis_instruction.eq]; unfold dis_instruction_b
  simp only
  rw [n4, Option.bind_some, n5, Option.bind_some, List.length_map]
  have e := ins_l (ks k) ⟨(k : Int), l⟩ (by omega) h.2.1 h.2.2 (ks k).length 0 [] (by omega) rfl
  rw [List.drop_zero, List.drop_zero, List.nil_append] at e
  have e' : dis_instruction_L1 ⟨(ks k).map Kn.str, (((ks k).length : Nat) : Int), 0, ⟨(k : Int), l⟩, []⟩ = some ⟨⟨(k : Int), l⟩, (opsL k l).map ba⟩ := e
  rw [e', Option.bind_some]
theorem jn (a : List UInt8) (t : List (List UInt8)) (h1 : (a :: t).length ≤ 100) (hq : (a ++ (t.flatMap fun x => 44 :: 32 :: x)).length ≤ 100) : strings_Join ((a :: t).map ba) h_2c20 = some (ba (a ++ (t.flatMap fun x => 44 :: 32 :: x))) := by
  show joinS _ _ = _
  unfold joinS
  have hs : h_2c20.data.toList = [44, 32] := rfl
  rw [maps_ba, hs, join_is, if_pos ⟨by rw [List.length_map]; omega, by omega⟩]; rfl
theorem tl (N : List UInt8) (a : List UInt8) (t : List (List UInt8)) (hN : N.length ≤ 10) (h1 : (a :: t).length ≤ 100) (hq : (a ++ (t.flatMap fun x => 44 :: 32 :: x)).length ≤ 100) (hj : strings_Join ((a :: t).map ba) h_2c20 = some (ba (a ++ (t.flatMap fun x => 44 :: 32 :: x)))) (k : Int) (n1 : isa_Name k = some (ba N)) :
  (bif ((((((a :: t).map ba).length) : Nat) : Int) == 0) then (isa_Name k).bind fun r4 => some r4 else (isa_Name k).bind fun r5 => bif (decide (((r5.size + h_20.size : Nat) : Int) ≤ IntKind.i64.max)) then (strings_Join ((a :: t).map ba) h_2c20).bind fun r6 => (bif (decide ((((r5 ++ h_20).size + r6.size : Nat) : Int) ≤ IntKind.i64.max)) then some ((r5 ++ h_20) ++ r6) else none) else none) = some (ba (N ++ [32] ++ (a ++ (t.flatMap fun x => 44 :: 32 :: x)))) := by
  rw [show (((((a :: t).map ba).length : Nat) : Int) == 0) = false from beq_eq_false_iff_ne.2 (by simp only [List.length_map, List.length_cons]; omega), cond_false, n1, Option.bind_some, show h_20 = ba [32] from rfl, guardS N [32] (by simp only [List.length_singleton]; omega), cond_true, hj, Option.bind_some, ba_append, guardS _ _ (by simp only [List.length_append, List.length_singleton] at hq ⊢; omega), cond_true, ba_append]
theorem instr_nil (N : List UInt8) (k : Int) (n1 : isa_Name k = some (ba N)) :
  (bif (((((([] : List (List UInt8)).map ba).length) : Nat) : Int) == 0) then (isa_Name k).bind fun r4 => some r4 else (isa_Name k).bind fun r5 => bif (decide (((r5.size + h_20.size : Nat) : Int) ≤ IntKind.i64.max)) then (strings_Join (([] : List (List UInt8)).map ba) h_2c20).bind fun r6 => (bif (decide ((((r5 ++ h_20).size + r6.size : Nat) : Int) ≤ IntKind.i64.max)) then some ((r5 ++ h_20) ++ r6) else none) else none) = some (ba N) := by
  rw [n1]; rfl
theorem go_len (a : List UInt8) (t : List (List UInt8)) : goT 0 (a :: t) = 32 :: (a ++ (t.flatMap fun x => 44 :: 32 :: x)) := by
  unfold goT; rw [goT_succ]; simp [sepT]
theorem instr_prog {k : Nat} {l : List Int} (h : okLn k l) : dis_instruction ⟨(k : Int), l⟩ = some (ba (lineI k l)) := by
  have n1 := (nm_is h.1).1
  have n3 := (nm_is h.1).2.2.1
  have hk := ks_len k
  obtain ⟨o1, o2⟩ := ops_len h
  have hg := goT_len (opsL k l) 0 o2
  rw [instr_b h, line_go]
  generalize nmB k = N at n1 n3
  generalize opsL k l = L at o1 hg
  cases L with
  | nil =>
    have e : N ++ goT 0 [] = N := by rw [goT, List.append_nil]
    rw [e]; exact instr_nil N k n1
  | cons a t =>
    rw [go_len] at hg ⊢
    simp only [List.length_cons] at o1 hg
    have hq : (a ++ (t.flatMap fun x => 44 :: 32 :: x)).length ≤ 100 := by omega
    have hj := jn a t (by simp only [List.length_cons]; omega) hq
    have e := tl N a t n3 (by simp only [List.length_cons]; omega) hq hj k n1
    rw [List.append_assoc] at e
    exact e
end Go.Ab
set_option maxRecDepth 100000
namespace Go.Ab
theorem dgo_spec (n : Nat) (s : Int) : ∀ (d i k : Nat), i + d = 66 → dgo n s d i = some k → k < 66 ∧ sz k = s ∧ enc (k : Int) (vals k n) = some n
  | 0, i, k, hd, h => nomatch h
  | d + 1, i, k, hd, h => by
    rw [dgo_succ] at h
    split at h
    · rename_i c; cases h; exact ⟨by omega, c.1, c.2⟩
    · exact dgo_spec n s d (i + 1) k (by omega) h
theorem drop_u8 {b : List Int} (hb : U8 b) (n : Nat) : U8 (b.drop n) := fun x hx => hb x (List.mem_of_mem_drop hx)
theorem sgn32_small {x : Int} (h : 0 ≤ x ∧ x < 4294967296) : small (sgn32 x) := by
  unfold sgn32; split <;> constructor <;> omega
theorem bkN_small (f s u : Int) (hu : byt u) : small (bkN f s u) := sgn32_small (bk_range _ _ hu)
theorem val_small (K : Kn) (n : Int) (w0 : inU n) : small (K.val n) := by
  cases K
  case C8 => exact bkN_small _ _ _ ⟨by omega, by omega⟩
  all_goals
    show -1099511627776 ≤ _ ∧ _ ≤ 1099511627776
    simp only [Kn.val, sg]
    omega
theorem ok_small (K : Kn) (v : Int) (h : K.ok v = true) : small v := by
  cases K
  case C8 =>
    obtain ⟨_, _, h3, h4⟩ := sci8_back v h
    rw [← h4]; exact bkN_small _ _ _ h3
  all_goals
    simp only [Kn.ok, decide_eq_true_eq] at h
    show -1099511627776 ≤ v ∧ v ≤ 1099511627776
    omega
theorem okA_small : ∀ {Ks : List Kn} {l : List Int}, okA Ks l = true → ∀ v ∈ l, small v
  | [], [], _, v, h => nomatch h
  | K :: Ks, x :: l, ho, v, h => by
    simp only [okA, Bool.and_eq_true] at ho
    rcases List.mem_cons.1 h with rfl | h
    · exact ok_small K v ho.1
    · exact okA_small ho.2 v h
  | [], _ :: _, h, _, _ => by simp [okA] at h
  | _ :: _, [], h, _, _ => by simp [okA] at h
theorem vals_ok {k n : Nat} (hk : k < 66) (hn : n < 4294967296) : okLn k (vals k n) := by
  refine ⟨hk, vals_len k n, fun v hv => ?_⟩
  obtain ⟨K, _, rfl⟩ := List.mem_map.1 hv
  exact val_small K _ ⟨by omega, by omega⟩
def step (b : List Int) : List UInt8 × Nat :=
  match dec b with
  | (x, m, true) => (lineI x.Op.toNat x.F, m.toNat)
  | _ => if b.length = 1 then ([46, 98, 121, 116, 101, 32] ++ dg (b.headD 0), 1) else ([46, 104, 97, 108, 102, 32] ++ dg (b.headD 0 * 256 + (b.drop 1).headD 0), 2)
def lsF : Nat → List Int → List (List UInt8)
  | 0, _ => []
  | n + 1, b => if b = [] then [] else (step b).1 :: lsF n (b.drop (step b).2)
def listing (b : List Int) : List (List UInt8) := lsF b.length b
theorem dec_cases (b : List Int) (hb : U8 b) : (∃ (k n : Nat) (s : Int), dec b = (⟨(k : Int), vals k n⟩, s, true) ∧ n < 4294967296 ∧ k < 66 ∧ (s = 2 ∨ s = 4) ∧ s = sz k ∧ s ≤ b.length ∧ enc (k : Int) (vals k n) = some n) ∨ dec b = (z0I, 0, false) := by
  unfold dec
  split
  · rename_i c
    have hs := szOf_two (b.headD 0)
    generalize szOf (b.headD 0) = s at *
    have hn := wd_32 hb hs c.2
    generalize wd 0 (b.take s.toNat) = n at *
    unfold decW
    cases h : dgo n s 66 0 with
    | none => exact .inr rfl
    | some k =>
      obtain ⟨k1, k2, k3⟩ := dgo_spec n s 66 0 k (by omega) h
      exact .inl ⟨k, n, s, rfl, hn, k1, hs, k2.symm, c.2, k3⟩
  · exact .inr rfl
theorem step_is (b : List Int) (hb : U8 b) (h0 : b ≠ []) : 1 ≤ (step b).2 ∧ (step b).2 ≤ b.length ∧ (step b).1.length ≤ 70 := by
  have hpos : 0 < b.length := List.length_pos_iff.2 h0
  unfold step
  rcases dec_cases b hb with ⟨k, n, s, h, h1, h2, h3, h3', h4, _⟩ | h
  · rw [h]; simp only
    rw [Int.toNat_natCast]
    exact ⟨by omega, by omega, line_len (vals_ok h2 h1)⟩
  · rw [h]; simp only
    have hx : ∀ l : List Int, U8 l → byt (l.headD 0) := fun l hl => by
      cases l with
      | nil => exact ⟨by decide, by decide⟩
      | cons a t => exact hl a (List.mem_cons_self ..)
    have hx0 := hx b hb
    have hx1 := hx (b.drop 1) (drop_u8 hb 1)
    have a0 := hx0.1; have a1 := hx0.2; have a2 := hx1.1; have a3 := hx1.2
    by_cases c : b.length = 1
    · rw [if_pos c]
      have := dg_len (v := b.headD 0) (by omega)
      simp only [List.length_append, List.length_cons, List.length_nil]; omega
    · rw [if_neg c]
      have := dg_len (v := b.headD 0 * 256 + (b.drop 1).headD 0) (by omega)
      simp only [List.length_append, List.length_cons, List.length_nil]; omega
theorem lsF_any : ∀ (n m : Nat) (b : List Int), U8 b → b.length ≤ n → b.length ≤ m → lsF n b = lsF m b
  | 0, 0, _, _, _, _ => rfl
  | 0, m + 1, b, _, h, _ => by
    have : b = [] := List.eq_nil_of_length_eq_zero (by omega)
    subst this; rfl
  | n + 1, 0, b, _, _, h => by
    have : b = [] := List.eq_nil_of_length_eq_zero (by omega)
    subst this; rfl
  | n + 1, m + 1, b, hb, h1, h2 => by
    unfold lsF
    by_cases c : b = []
    · rw [if_pos c, if_pos c]
    · obtain ⟨s1, s2, _⟩ := step_is b hb c
      rw [if_neg c, if_neg c, lsF_any n m (b.drop (step b).2) (drop_u8 hb _) (by rw [List.length_drop]; omega) (by rw [List.length_drop]; omega)]
theorem listing_cons {b : List Int} (hb : U8 b) (h : b ≠ []) : listing b = (step b).1 :: listing (b.drop (step b).2) := by
  obtain ⟨s1, s2, _⟩ := step_is b hb h
  have hpos : 0 < b.length := List.length_pos_iff.2 h
  obtain ⟨n, hn⟩ : ∃ n, b.length = n + 1 := ⟨b.length - 1, by omega⟩
  unfold listing
  rw [hn, lsF, if_neg h, lsF_any n (b.drop (step b).2).length (b.drop (step b).2) (drop_u8 hb _) (by rw [List.length_drop]; omega) (Nat.le_refl _)]
theorem listing_nil : listing [] = [] := rfl
theorem orI_half {x y : Int} (hx : byt x) (hy : byt y) : orI .i64 (shlI .i64 (w64 x) 8) (w64 y) = x * 256 + y := by
  have a0 := hx.1; have a1 := hx.2; have b0 := hy.1; have b1 := hy.2
  rw [w64_in (n := x) (by omega) (by omega), w64_in (n := y) (by omega) (by omega), or_byte (x := x) ⟨by omega, by omega⟩ hy]
theorem next_end : dis_reader_next ⟨[]⟩ = some (s_, false, ⟨[]⟩) := by
  rw [dis_reader_next.eq]; rfl
theorem next_1 (n : Nat) (s : ByteArray) (b : List Int) (h : n ≤ b.length) : dis_reader_next_1 (n : Int) s ⟨b⟩ = some (s, true, ⟨b.drop n⟩) := by
  rw [dis_reader_next_1.eq]; unfold dis_reader_next_1_b
  simp only
  rw [show decide (0 ≤ (n : Int) ∧ (n : Int) ≤ (b.length : Nat) ∧ ((b.length : Nat) : Int) ≤ (b.length : Nat)) = true from decide_eq_true (by omega), cond_true, Int.toNat_natCast, List.take_of_length_le (by rw [List.length_drop]; omega)]
theorem heads {b : List Int} (h : 1 < b.length) : b[0]? = some (b.headD 0) ∧ b[1]? = some ((b.drop 1).headD 0) := by
  match b, h with
  | x :: y :: t, _ => exact ⟨rfl, rfl⟩
theorem byt_head {b : List Int} (hb : U8 b) : byt (b.headD 0) := by
  cases b with
  | nil => exact ⟨by decide, by decide⟩
  | cons a t => exact hb a (List.mem_cons_self ..)
theorem next_is (b : List Int) (hb : U8 b) (h0 : b ≠ []) : dis_reader_next ⟨b⟩ = some (ba (step b).1, true, ⟨b.drop (step b).2⟩) := by
  have hpos : 0 < b.length := List.length_pos_iff.2 h0
  rw [dis_reader_next.eq]; unfold dis_reader_next_b
  simp only
  rw [show (((b.length : Nat) : Int) == 0) = false from beq_eq_false_iff_ne.2 (by omega), cond_false, decode_is b hb, Option.bind_some]
  unfold step
  rcases dec_cases b hb with ⟨k, n, s, h, h1, h2, h3, h3', h4, _⟩ | h
  · rw [h]; simp only
    rw [cond_true, instr_prog (vals_ok h2 h1), Option.bind_some, Int.toNat_natCast]
    have hs : s = ((s.toNat : Nat) : Int) := by omega
    have e := next_1 s.toNat (ba (lineI k (vals k n))) b (by omega)
    rw [← hs] at e
    rw [e]; rfl
  · rw [h]; simp only
    have hx0 := byt_head hb
    have hx1 := byt_head (drop_u8 hb 1)
    have a0 := hx0.1; have a1 := hx0.2; have a2 := hx1.1; have a3 := hx1.2
    rw [cond_false]
    by_cases c : b.length = 1
    · have e0 : b[0]? = some (b.headD 0) := by
        cases b with
        | nil => cases c
        | cons a t => rfl
      have hl := dg_len (v := b.headD 0) (by omega)
      rw [show (((b.length : Nat) : Int) == 1) = true from beq_iff_eq.2 (by omega), cond_true, show Int.toNat 0 = 0 from rfl, e0, Option.bind_some, w64_in (n := b.headD 0) (by omega) (by omega), itoa_is (by omega), Option.bind_some, show h_2e6279746520 = ba [46, 98, 121, 116, 101, 32] from rfl, guardS _ _ (by simp only [List.length_cons, List.length_nil]; omega), cond_true, ba_append, if_pos c]
      have e := next_1 1 (ba ([46, 98, 121, 116, 101, 32] ++ dg (b.headD 0))) b (by omega)
      rw [show ((1 : Nat) : Int) = 1 from rfl] at e
      rw [e]; rfl
    · obtain ⟨e0, e1⟩ := heads (b := b) (by omega)
      have hl := dg_len (v := b.headD 0 * 256 + (b.drop 1).headD 0) (by omega)
      rw [show (((b.length : Nat) : Int) == 1) = false from beq_eq_false_iff_ne.2 (by omega), cond_false, show Int.toNat 0 = 0 from rfl, show Int.toNat 1 = 1 from rfl, e0, Option.bind_some, e1, Option.bind_some, orI_half hx0 hx1, itoa_is (by omega), Option.bind_some, show h_2e68616c6620 = ba [46, 104, 97, 108, 102, 32] from rfl, guardS _ _ (by simp only [List.length_cons, List.length_nil]; omega), cond_true, ba_append, if_neg c]
      have e := next_1 2 (ba ([46, 104, 97, 108, 102, 32] ++ dg (b.headD 0 * 256 + (b.drop 1).headD 0))) b (by omega)
      rw [show ((2 : Nat) : Int) = 2 from rfl] at e
      rw [e]; rfl
end Go.Ab
set_option maxRecDepth 100000
namespace Go.Ab
theorem lsF_len : ∀ (n : Nat) (b : List Int), U8 b → (lsF n b).length ≤ b.length
  | 0, b, _ => Nat.zero_le _
  | n + 1, b, hb => by
    unfold lsF
    by_cases c : b = []
    · rw [if_pos c]; exact Nat.zero_le _
    · obtain ⟨s1, s2, _⟩ := step_is b hb c
      have := lsF_len n (b.drop (step b).2) (drop_u8 hb _)
      rw [List.length_drop] at this
      rw [if_neg c, List.length_cons]; omega
theorem listing_len {b : List Int} (hb : U8 b) : (listing b).length ≤ b.length := lsF_len _ b hb
theorem row_room {n : Nat} (h : n ≤ 1000000) (k : Nat) (hk : k ≤ 32) : decide (n * k ≤ most) = true := decide_eq_true (by
  have := Nat.mul_le_mul h hk
  unfold most; omega)
theorem each_end (s : ByteArray) (out : List ByteArray) (r : T_dis_reader) : dis_each_L1 ⟨s, false, r, out⟩ = some ⟨r, out⟩ := by
  rw [dis_each_L1.eq]; rfl
theorem each_l : ∀ (n : Nat) (b : List Int) (s : ByteArray) (out : List ByteArray), b.length ≤ n → U8 b → out.length + b.length < 1000000 → dis_each_L1 ⟨s, true, ⟨b⟩, out⟩ = some ⟨⟨[]⟩, out ++ s :: (listing b).map ba⟩ := by
  intro n
  induction n with
  | zero =>
    intro b s out h hb hl
    have : b = [] := List.eq_nil_of_length_eq_zero (by omega)
    subst this
    rw [dis_each_L1.eq]; unfold dis_each_L1_b; simp only
    have e1 : dis_List_1 s out = some (out ++ [s]) := by
      rw [dis_List_1.eq]; unfold dis_List_1_b
      rw [row_room (by rw [List.length_singleton]; omega) 16 (by omega), cond_true]
    rw [cond_true, e1, Option.bind_some, next_end, Option.bind_some, Option.bind_some, Sum.elim_inl, each_end, listing_nil]; rfl
  | succ n ih =>
    intro b s out h hb hl
    have e1 : dis_List_1 s out = some (out ++ [s]) := by
      rw [dis_List_1.eq]; unfold dis_List_1_b
      rw [row_room (by rw [List.length_singleton]; omega) 16 (by omega), cond_true]
    rw [dis_each_L1.eq]; unfold dis_each_L1_b; simp only
    rw [cond_true, e1, Option.bind_some]
    by_cases c : b = []
    · subst c
      rw [next_end, Option.bind_some, Option.bind_some, Sum.elim_inl, each_end, listing_nil]; rfl
    · obtain ⟨s1, s2, _⟩ := step_is b hb c
      rw [next_is b hb c, Option.bind_some, Option.bind_some, Sum.elim_inl]
      have e := ih (b.drop (step b).2) (ba (step b).1) (out ++ [s]) (by rw [List.length_drop]; omega) (drop_u8 hb _) (by rw [List.length_append, List.length_drop, List.length_singleton]; omega)
      refine Eq.trans e ?_
      rw [listing_cons hb c, List.map_cons, List.append_assoc]; rfl
theorem maxLen_big {n : Nat} (h : n ≤ 1000000) : n ≤ maxLen := by rw [maxLen_lt]; omega
theorem clone_16 {l : List ByteArray} (h : l.length ≤ 1000000) : slices_Clone_2 l = some l := by
  show cloneT 16 l = _
  unfold cloneT
  rw [if_pos ⟨by omega, maxLen_big h⟩]
theorem list_prog (b : List Int) (hb : U8 b) (hl : b.length < 1000000) : dis_List b = some ((listing b).map ba) := by
  have hlen := listing_len hb
  have hc := clone_16 (l := (listing b).map ba) (by rw [List.length_map]; omega)
  rw [dis_List.eq]; unfold dis_List_b
  have e : dis_each ⟨b⟩ [] = some (⟨[]⟩, (listing b).map ba) := by
    rw [dis_each.eq]; unfold dis_each_b
    by_cases c : b = []
    · subst c
      rw [next_end, Option.bind_some, each_end]; rfl
    · obtain ⟨s1, s2, _⟩ := step_is b hb c
      rw [next_is b hb c, Option.bind_some]
      have e := each_l b.length (b.drop (step b).2) (ba (step b).1) [] (by rw [List.length_drop]; omega) (drop_u8 hb _) (by rw [List.length_nil, List.length_drop]; omega)
      simp only
      rw [e, listing_cons hb c]; rfl
  rw [e, Option.bind_some]
  simp only
  rw [hc, Option.bind_some]
theorem ref_row_l : ∀ (n : Nat) (b : List Int) (out : List ByteArray), b.length ≤ n → U8 b → out.length + b.length < 1000000 → r6_List_L1 ⟨b, out⟩ = some (out ++ (listing b).map ba) := by
  intro n
  induction n with
  | zero =>
    intro b out h hb hl
    have : b = [] := List.eq_nil_of_length_eq_zero (by omega)
    subst this
    rw [r6_List_L1.eq]; unfold r6_List_L1_b; simp only
    rw [listing_nil]; simp
  | succ n ih =>
    intro b out h hb hl
    by_cases c : b = []
    · subst c
      rw [r6_List_L1.eq]; unfold r6_List_L1_b; simp only
      rw [listing_nil]; simp
    have hpos : 0 < b.length := List.length_pos_iff.2 c
    obtain ⟨s1, s2, _⟩ := step_is b hb c
    have e := ih (b.drop (step b).2) (out ++ [ba (step b).1]) (by rw [List.length_drop]; omega) (drop_u8 hb _) (by rw [List.length_append, List.length_drop, List.length_singleton]; omega)
    have hfin : out ++ (listing b).map ba = out ++ [ba (step b).1] ++ (listing (b.drop (step b).2)).map ba := by
      rw [listing_cons hb c, List.map_cons, List.append_assoc]; rfl
    have cut : ∀ m : Nat, m ≤ b.length → decide (0 ≤ (m : Int) ∧ (m : Int) ≤ ((b.length : Nat) : Int) ∧ ((b.length : Nat) : Int) ≤ ((b.length : Nat) : Int)) = true ∧ (b.drop (Int.toNat (m : Int))).take (Int.toNat (((b.length : Nat) : Int) - (m : Int))) = b.drop m := fun m hm => ⟨decide_eq_true (by omega), by rw [Int.toNat_natCast, List.take_of_length_le (by rw [List.length_drop]; omega)]⟩
    have room := row_room (n := out.length + [ba (step b).1].length) (by rw [List.length_singleton]; omega) 16 (by omega)
    rw [hfin, ← e, r6_List_L1.eq]; unfold r6_List_L1_b; simp only
    rw [show decide (((b.length : Nat) : Int) > 0) = true from decide_eq_true (by omega), cond_true, rdecode_is b hb, Option.bind_some]
    rcases dec_cases b hb with ⟨k, m, s, h, h1, h2, h3, h3', h4, _⟩ | h
    · have hst : step b = (lineI k (vals k m), s.toNat) := by unfold step; rw [h]; simp only [Int.toNat_natCast]
      rw [hst] at room ⊢
      rw [h]; simp only at room ⊢
      obtain ⟨q, q1, q2, q3, q4, q5⟩ := ref_row h2
      have hv := vals_ok h2 h1
      have hk := ks_len k
      have hn := (nm_is h2).2.1
      rw [hn, Option.bind_some, cond_true, q4, Option.bind_some, q5, Option.bind_some]
      have el := ref_l (ks k) ⟨(k : Int), vals k m⟩ b s out (by omega) hv.2.1 hv.2.2 (ks k).length 0 (nmB k) (by omega) (by have := (nm_is h2).2.2.1; omega)
      rw [List.drop_zero, List.drop_zero] at el
      have el' : r6_List_L2 ⟨b, s, ba (nmB k), (ks k).map Kn.str, 0, ⟨(k : Int), vals k m⟩, out⟩ = some ⟨b, s, ba (lineI k (vals k m)), out⟩ := by rw [line_go]; exact el
      rw [el', Option.bind_some]
      simp only
      have hs : s = ((s.toNat : Nat) : Int) := by omega
      obtain ⟨c1, c2⟩ := cut s.toNat (by omega)
      rw [← hs] at c1 c2
      rw [room, cond_true, c1, cond_true, c2, Option.bind_some, Sum.elim_inl]
    · rw [h]; simp only
      have hn := (nm_is (k := 0) (by omega)).2.1
      have hn' : r2_Name 0 = _ := hn
      have hx0 := byt_head hb
      have hx1 := byt_head (drop_u8 hb 1)
      have a0 := hx0.1; have a1 := hx0.2; have a2 := hx1.1; have a3 := hx1.2
      rw [hn', Option.bind_some, cond_false]
      by_cases c1 : b.length = 1
      · have hst : step b = ([46, 98, 121, 116, 101, 32] ++ dg (b.headD 0), 1) := by unfold step; rw [h]; simp only [c1, if_true]
        rw [hst] at room ⊢
        have e0 : b[0]? = some (b.headD 0) := by
          cases b with
          | nil => cases c1
          | cons a t => rfl
        have hl := dg_len (v := b.headD 0) (by omega)
        obtain ⟨g1, g2⟩ := cut 1 (by omega)
        have g1' : decide (0 ≤ (1 : Int) ∧ (1 : Int) ≤ ((b.length : Nat) : Int) ∧ ((b.length : Nat) : Int) ≤ ((b.length : Nat) : Int)) = true := g1
        have g2' : (b.drop (Int.toNat 1)).take (Int.toNat (((b.length : Nat) : Int) - 1)) = b.drop 1 := g2
        rw [show decide (((b.length : Nat) : Int) > 1) = false from decide_eq_false (by omega), cond_false, show Int.toNat 0 = 0 from rfl, e0, Option.bind_some, w64_in (n := b.headD 0) (by omega) (by omega), digits_is (by omega), Option.bind_some, show h_2e6279746520 = ba [46, 98, 121, 116, 101, 32] from rfl, guardS _ _ (by simp only [List.length_cons, List.length_nil]; omega), cond_true, ba_append, room, cond_true, g1', cond_true, g2', Option.bind_some, Sum.elim_inl]
      · have hst : step b = ([46, 104, 97, 108, 102, 32] ++ dg (b.headD 0 * 256 + (b.drop 1).headD 0), 2) := by unfold step; rw [h]; simp only [c1, if_false]
        rw [hst] at room ⊢
        obtain ⟨e0, e1⟩ := heads (b := b) (by omega)
        have hl := dg_len (v := b.headD 0 * 256 + (b.drop 1).headD 0) (by omega)
        obtain ⟨g1, g2⟩ := cut 2 (by omega)
        have g1' : decide (0 ≤ (2 : Int) ∧ (2 : Int) ≤ ((b.length : Nat) : Int) ∧ ((b.length : Nat) : Int) ≤ ((b.length : Nat) : Int)) = true := g1
        have g2' : (b.drop (Int.toNat 2)).take (Int.toNat (((b.length : Nat) : Int) - 2)) = b.drop 2 := g2
        rw [show decide (((b.length : Nat) : Int) > 1) = true from decide_eq_true (by omega), cond_true, show Int.toNat 0 = 0 from rfl, show Int.toNat 1 = 1 from rfl, e0, Option.bind_some, e1, Option.bind_some, orI_half hx0 hx1, digits_is (by omega), Option.bind_some, show h_2e68616c6620 = ba [46, 104, 97, 108, 102, 32] from rfl, guardS _ _ (by simp only [List.length_cons, List.length_nil]; omega), cond_true, ba_append, room, cond_true, g1', cond_true, g2', Option.bind_some, Sum.elim_inl]
theorem list_ref (b : List Int) (hb : U8 b) (hl : b.length < 1000000) : r6_List b = some ((listing b).map ba) := by
  rw [r6_List.eq]; unfold r6_List_b
  rw [ref_row_l b.length b [] (Nat.le_refl _) hb (by rw [List.length_nil]; omega), List.nil_append]; rfl
/-! ### Rows of texts compared -/
theorem words_l (l m : List ByteArray) (hl : l.length = m.length) (hs : l.length ≤ 1000000) : ∀ (d i : Nat), i + d = l.length → r6_Words_L1 ⟨l, m, (i : Int)⟩ = some (if l.drop i = m.drop i then .inr () else .inl false)
  | 0, i, hd => by
    rw [r6_Words_L1.eq]; unfold r6_Words_L1_b; simp only
    rw [show decide ((i : Int) < (l.length : Nat)) = false from decide_eq_false (by omega), List.drop_eq_nil_of_le (by omega), List.drop_eq_nil_of_le (by omega), if_pos rfl]; rfl
  | d + 1, i, hd => by
    have hi : i < l.length := by omega
    have hi2 : i < m.length := by omega
    have ih := words_l l m hl hs d (i + 1) (by omega)
    rw [r6_Words_L1.eq]; unfold r6_Words_L1_b; simp only
    rw [show decide ((i : Int) < (l.length : Nat)) = true from decide_eq_true (by omega), cond_true, show decide (0 ≤ (i : Int)) = true from decide_eq_true (by omega), cond_true, Int.toNat_natCast, List.getElem?_eq_getElem hi, Option.bind_some, List.getElem?_eq_getElem hi2, Option.bind_some, List.drop_eq_getElem_cons hi, List.drop_eq_getElem_cons hi2, w64_in (n := (i : Int) + 1) (by omega) (by omega)]
    by_cases c : l[i] = m[i]
    · rw [show eqS l[i] m[i] = true from eqS_iff.2 c, show (!true) = false from rfl, cond_false, Option.bind_some, Sum.elim_inl, c]
      refine Eq.trans ih ?_
      congr 1
      by_cases e : l.drop (i + 1) = m.drop (i + 1)
      · rw [if_pos e, if_pos (by rw [e])]
      · rw [if_neg e, if_neg (fun h => e (List.cons.inj h).2)]
    · rw [show eqS l[i] m[i] = false from Bool.eq_false_iff.2 (fun h => c (eqS_iff.1 h)), show (!false) = true from rfl, cond_true, if_neg (fun h => c (List.cons.inj h).1)]; rfl
theorem words_is (l m : List ByteArray) (hs : l.length ≤ 1000000) : r6_Words l m = some (decide (l = m)) := by
  rw [r6_Words.eq]; unfold r6_Words_b
  by_cases d : l.length = m.length
  rotate_left
  · rw [show (((l.length : Nat) : Int) != ((m.length : Nat) : Int)) = true by rw [bne_iff_ne]; omega, cond_true, decide_eq_false (fun h => d (by rw [h]))]
  rw [show (((l.length : Nat) : Int) != ((m.length : Nat) : Int)) = false by rw [d]; exact bne_self_eq_false _, cond_false]
  have e := words_l l m d hs l.length 0 (by omega)
  rw [List.drop_zero, List.drop_zero] at e
  have e' : r6_Words_L1 ⟨l, m, 0⟩ = _ := e
  rw [e', Option.bind_some]
  by_cases f : l = m
  · rw [if_pos f, decide_eq_true f]; rfl
  · rw [if_neg f, decide_eq_false f]; rfl
end Go.Ab
set_option maxRecDepth 100000
namespace Go.Ab
theorem w6_within_eq (a n : Int) (hn : 0 < n) (hn2 : n ≤ 4611686018427387904) : w6_within a n = some (a % n) := by
  rw [w6_within.eq]; exact withinV_eq a n hn hn2
theorem w6_known_true : w6_known = some true := cv_some w6_known.cv 2000 (by kernel_rfl)
inductive Encs : List Int → Prop
  | nil : Encs []
  | cons {k n : Nat} {l : List Int} {r : List Int} (h : enc (k : Int) l = some n) (t : Encs r) : Encs (byts (k : Int) n ++ r)
theorem Encs.app {a b : List Int} (ha : Encs a) (hb : Encs b) : Encs (a ++ b) := by
  induction ha with
  | nil => exact hb
  | cons h t ih => rw [List.append_assoc]; exact .cons h ih
theorem Encs.snoc {a : List Int} (ha : Encs a) {k n : Nat} {l : List Int} (h : enc (k : Int) l = some n) : Encs (a ++ byts (k : Int) n) := by
  have := ha.app (.cons h .nil)
  rwa [List.append_nil] at this
theorem nil_u8 : U8 [] := fun x hx => nomatch hx
theorem app_u8 {a b : List Int} (ha : U8 a) (hb : U8 b) : U8 (a ++ b) := fun x hx => by
  rcases List.mem_append.1 hx with h | h
  · exact ha x h
  · exact hb x h
theorem bytes_2 (ops ns raw : List Int) (i : Nat) (hi : i < 30) (b : List Int) : ∀ (d k : Nat) (m : List Int), k + d = 3 → m.length ≤ k → ∃ m', w6_Bytes_L2 ⟨ops, ns, raw, (i : Int), (k : Int), b, m⟩ = some ⟨ops, ns, raw, (i : Int), b, m'⟩
  | 0, k, m, hk, hm => by
    rw [w6_Bytes_L2.eq]; unfold w6_Bytes_L2_b; simp only
    rw [show decide ((k : Int) < 3) = false from decide_eq_false (by omega)]
    exact ⟨m, rfl⟩
  | d + 1, k, m, hk, hm => by
    rw [w6_Bytes_L2.eq]; unfold w6_Bytes_L2_b; simp only
    rw [show decide ((k : Int) < 3) = true from decide_eq_true (by omega), cond_true]
    by_cases c : ns = []
    · subst c
      rw [show decide (((([] : List Int).length : Nat) : Int) > 0) = false from rfl]
      exact ⟨m, rfl⟩
    · have hpos : 0 < ns.length := List.length_pos_iff.2 c
      have hw : w64 ((i : Int) + (k : Int)) = ((i + k : Nat) : Int) := by rw [w64_in (by omega) (by omega)]; omega
      have ht : Int.tmod ((i + k : Nat) : Int) ((ns.length : Nat) : Int) = (((i + k) % ns.length : Nat) : Int) := by rw [← Int.ofNat_tmod]
      have hlt : (i + k) % ns.length < ns.length := Nat.mod_lt _ hpos
      obtain ⟨m', e⟩ := bytes_2 ops ns raw i hi b d (k + 1) (m ++ [ns[(i + k) % ns.length]]) (by omega) (by rw [List.length_append, List.length_singleton]; omega)
      rw [show decide (((ns.length : Nat) : Int) > 0) = true from decide_eq_true (by omega), cond_true, show decide (((ns.length : Nat) : Int) ≠ 0) = true from decide_eq_true (by omega), cond_true, hw, ht, show decide (0 ≤ (((i + k) % ns.length : Nat) : Int)) = true from decide_eq_true (by omega), cond_true, Int.toNat_natCast, List.getElem?_eq_getElem hlt, Option.bind_some,
        show decide ((m.length + [ns[(i + k) % ns.length]].length) * 8 ≤ most) = true from decide_eq_true (by rw [List.length_singleton]; unfold most; omega), cond_true, w64_in (n := (k : Int) + 1) (by omega) (by omega), Option.bind_some, Sum.elim_inl]
      exact ⟨m', e⟩
theorem bytes_l (ops ns raw : List Int) (hr : raw.length ≤ 10000) (hu : U8 raw) : ∀ (d i : Nat) (b : List Int), i + d = 30 → U8 b → b.length ≤ i * (4 + raw.length) →
    ∃ r, w6_Bytes_L1 ⟨ops, ns, raw, (i : Int), b⟩ = some (b ++ r) ∧ U8 r ∧ r.length ≤ d * (4 + raw.length) ∧ (raw = [] → Encs r)
  | 0, i, b, hi, hb, hl => by
    rw [w6_Bytes_L1.eq]; unfold w6_Bytes_L1_b; simp only
    refine ⟨[], ?_, nil_u8, Nat.zero_le _, fun _ => .nil⟩
    rw [show decide ((i : Int) < 30) = false from decide_eq_false (by omega), List.append_nil]
    cases decide ((i : Int) < ((ops.length : Nat) : Int)) <;> rfl
  | d + 1, i, b, hi, hb, hl => by
    rw [w6_Bytes_L1.eq]; unfold w6_Bytes_L1_b; simp only
    by_cases c : i < ops.length
    rotate_left
    · rw [show decide ((i : Int) < ((ops.length : Nat) : Int)) = false from decide_eq_false (by omega)]
      exact ⟨[], by rw [List.append_nil]; rfl, nil_u8, Nat.zero_le _, fun _ => .nil⟩
    have hb30 : i * (4 + raw.length) ≤ 30 * (4 + raw.length) := Nat.mul_le_mul_right _ (by omega)
    have hblen : b.length ≤ 400000 := by omega
    obtain ⟨m', e2⟩ := bytes_2 ops ns raw i (by omega) b 3 0 [] rfl (Nat.le_refl _)
    have e2' : w6_Bytes_L2 ⟨ops, ns, raw, (i : Int), 0, b, []⟩ = some ⟨ops, ns, raw, (i : Int), b, m'⟩ := e2
    obtain ⟨k, l, hk, hm, ho, hw⟩ := make_is ops[i] m'
    have hlen := okA_len ho
    have hks := ks_len k
    have he := enc_of hk ho
    have eR := (rencode_is ⟨(k : Int), l⟩ hw (by show l.length ≤ _; omega)).1
    simp only [encB] at eR
    rw [he] at eR
    simp only at eR
    have hby := byts_len k (orA (bs k) (ks k) l)
    have hbu := byts_u8 (k : Int) (orA (bs k) (ks k) l)
    generalize orA (bs k) (ks k) l = n at *
    have hsz : sz k = 2 ∨ sz k = 4 := by unfold sz; split <;> simp
    have next : w64 ((i : Int) + 1) = ((i + 1 : Nat) : Int) := by rw [w64_in (by omega) (by omega)]; rfl
    have hmul : (i + 1) * (4 + raw.length) = i * (4 + raw.length) + (4 + raw.length) := Nat.succ_mul _ _
    have hmul2 : (d + 1) * (4 + raw.length) = d * (4 + raw.length) + (4 + raw.length) := Nat.succ_mul _ _
    rw [show decide ((i : Int) < ((ops.length : Nat) : Int)) = true from decide_eq_true (by omega), cond_true, show decide ((i : Int) < 30) = true from decide_eq_true (by omega), cond_true, e2', Option.bind_some]
    simp only
    rw [show decide (0 ≤ (i : Int)) = true from decide_eq_true (by omega), cond_true, Int.toNat_natCast, List.getElem?_eq_getElem c, Option.bind_some, hm, Option.bind_some]
    simp only
    rw [eR, Option.bind_some]
    simp only
    rw [show decide ((b.length + (byts (k : Int) n).length) * 1 ≤ most) = true from decide_eq_true (by unfold most; omega), cond_true, Option.bind_some, w6_within_eq _ 5 (by decide) (by decide), Option.bind_some]
    by_cases f : w64 (Int.tdiv ops[i] 70) % 5 = 0
    · have hk0 := Int.emod_nonneg ops[i] (by omega : ((raw.length : Nat) : Int) + 1 ≠ 0)
      have hk1 := Int.emod_lt_of_pos ops[i] (by omega : 0 < ((raw.length : Nat) : Int) + 1)
      rw [show (w64 (Int.tdiv ops[i] 70) % 5 == 0) = true from beq_iff_eq.2 f, cond_true, Option.bind_some, w64_in (n := ((raw.length : Nat) : Int) + 1) (by omega) (by omega), w6_within_eq _ _ (by omega) (by omega), Option.bind_some]
      generalize ops[i] % (((raw.length : Nat) : Int) + 1) = q at *
      have htl : (raw.take q.toNat).length ≤ raw.length := by rw [List.length_take]; omega
      rw [show decide (0 ≤ (0 : Int) ∧ 0 ≤ q ∧ q ≤ ((raw.length : Nat) : Int)) = true from decide_eq_true (by omega), cond_true, Int.sub_zero, show Int.toNat 0 = 0 from rfl, List.drop_zero,
        show decide (((b ++ byts (k : Int) n).length + (raw.take q.toNat).length) * 1 ≤ most) = true from decide_eq_true (by rw [List.length_append]; unfold most; omega), cond_true, next, Option.bind_some, Sum.elim_inl]
      obtain ⟨r, g1, g2, g3, g4⟩ := bytes_l ops ns raw hr hu d (i + 1) (b ++ byts (k : Int) n ++ raw.take q.toNat) (by omega) (app_u8 (app_u8 hb hbu) (take_u8 hu _)) (by rw [List.length_append, List.length_append]; omega)
      refine ⟨byts (k : Int) n ++ raw.take q.toNat ++ r, ?_, app_u8 (app_u8 hbu (take_u8 hu _)) g2, ?_, fun hz => ?_⟩
      · rw [g1]; simp only [List.append_assoc]
      · simp only [List.length_append]; omega
      · have e0 : raw.take q.toNat = [] := by rw [hz]; simp
        rw [e0, List.append_nil]
        exact .cons he (g4 hz)
    · rw [show (w64 (Int.tdiv ops[i] 70) % 5 == 0) = false from beq_eq_false_iff_ne.2 f, cond_false, next, Option.bind_some, Sum.elim_inl]
      obtain ⟨r, g1, g2, g3, g4⟩ := bytes_l ops ns raw hr hu d (i + 1) (b ++ byts (k : Int) n) (by omega) (app_u8 hb hbu) (by rw [List.length_append]; omega)
      refine ⟨byts (k : Int) n ++ r, ?_, app_u8 hbu g2, ?_, fun hz => .cons he (g4 hz)⟩
      · rw [g1]; simp only [List.append_assoc]
      · simp only [List.length_append]; omega
theorem bytes_is (ops ns raw : List Int) (hr : raw.length ≤ 10000) (hu : U8 raw) : ∃ r, w6_Bytes ops ns raw = some r ∧ U8 r ∧ r.length ≤ 30 * (4 + raw.length) ∧ (raw = [] → Encs r) := by
  obtain ⟨r, g1, g2, g3, g4⟩ := bytes_l ops ns raw hr hu 30 0 [] rfl nil_u8 (Nat.zero_le _)
  refine ⟨r, ?_, g2, g3, g4⟩
  have g1' : w6_Bytes_L1 ⟨ops, ns, raw, 0, []⟩ = some ([] ++ r) := g1
  rw [w6_Bytes.eq]; unfold w6_Bytes_b
  rw [g1']; rfl
theorem step_enc {k n : Nat} {l : List Int} (h : enc (k : Int) l = some n) (r : List Int) : step (byts (k : Int) n ++ r) = (lineI k l, (byts (k : Int) n).length) := by
  have hl := byts_len k n
  unfold step
  rw [dec_enc h r]
  simp only [Int.toNat_natCast]
  rw [show (sz k).toNat = (byts (k : Int) n).length by omega]
theorem byts_ne {k n : Nat} (r : List Int) : byts (k : Int) n ++ r ≠ [] := by
  have h := byts_len k n
  have hs : sz k = 2 ∨ sz k = 4 := by unfold sz; split <;> simp
  intro e
  have := congrArg List.length e
  rw [List.length_append, List.length_nil] at this
  omega
theorem listing_enc {k n : Nat} {l : List Int} (h : enc (k : Int) l = some n) {r : List Int} (hr : U8 r) : listing (byts (k : Int) n ++ r) = lineI k l :: listing r := by
  rw [listing_cons (app_u8 (byts_u8 _ _) hr) (byts_ne r), step_enc h r]
  simp only
  rw [List.drop_left]
theorem listing_app {a b : List Int} (ha : Encs a) (hb : U8 b) : listing (a ++ b) = listing a ++ listing b := by
  have key : ∀ a, Encs a → U8 a ∧ listing (a ++ b) = listing a ++ listing b := by
    intro a ha
    induction ha with
    | nil => exact ⟨nil_u8, rfl⟩
    | cons h t ih =>
      obtain ⟨h1, h2⟩ := ih
      refine ⟨app_u8 (byts_u8 _ _) h1, ?_⟩
      rw [List.append_assoc, listing_enc h (app_u8 h1 hb), listing_enc h h1, h2]; rfl
  exact (key a ha).2
end Go.Ab
set_option maxRecDepth 100000
namespace Go.Ab
theorem dec_no (u : Nat) : (44 : UInt8) ∉ Lib.decDigits u := by
  have dig : ∀ d : Nat, d < 10 → (44 : UInt8) ≠ UInt8.ofNat (48 + d) := by
    intro d hd e
    have : ∀ d : Fin 10, (44 : UInt8) ≠ UInt8.ofNat (48 + d.val) := by decide
    exact this ⟨d, hd⟩ e
  induction u using Nat.strongRecOn with
  | _ u ih =>
    rw [Lib.decDigits]
    by_cases c : u < 10
    · rw [dif_pos c]
      intro h
      exact dig u c (List.mem_singleton.1 h)
    · rw [dif_neg c]
      intro h
      rcases List.mem_append.1 h with h | h
      · exact ih (u / 10) (by omega) h
      · exact dig (u % 10) (Nat.mod_lt _ (by decide)) (List.mem_singleton.1 h)
theorem dg_no (v : Int) : (44 : UInt8) ∉ dg v := by
  unfold dg Lib.itoa
  split
  · intro h
    rcases List.mem_cons.1 h with h | h
    · exact absurd h (by decide)
    · exact dec_no _ h
  · exact dec_no _
theorem opT_no (K : Kn) (v : Int) : (44 : UInt8) ∉ opT K v := by
  unfold opT
  split
  · intro h
    rcases List.mem_cons.1 h with h | h
    · exact absurd h (by decide)
    · exact dg_no _ h
  · split
    · split
      · intro h
        rcases List.mem_append.1 h with h | h
        · exact absurd h (by decide)
        · exact dg_no _ h
      · intro h
        rcases List.mem_append.1 h with h | h
        · exact absurd h (by decide)
        · exact dg_no _ h
    · exact dg_no _
theorem nm_no : ∀ i : Fin 66, (44 : UInt8) ∉ nmB i.val ∧ nmB i.val ≠ [] := by decide +kernel
def cnt (s : List UInt8) : Nat := s.count 44
theorem cnt_app (a b : List UInt8) : cnt (a ++ b) = cnt a + cnt b := List.count_append
theorem cnt_0 {a : List UInt8} (h : (44 : UInt8) ∉ a) : cnt a = 0 := List.count_eq_zero.2 h
theorem go_cnt : ∀ (t : List (List UInt8)) (j : Nat), (∀ y ∈ t, (44 : UInt8) ∉ y) → cnt (goT (j + 1) t) = t.length
  | [], _, _ => rfl
  | a :: t, j, h => by
    rw [goT, cnt_app, cnt_app, cnt_0 (h a (List.mem_cons_self ..)), go_cnt t (j + 1) (fun y hy => h y (List.mem_cons_of_mem _ hy))]
    have : cnt (sepT (j + 1)) = 1 := by rw [sepT, if_neg (by omega)]; decide
    rw [this, List.length_cons]; omega
theorem zip_no : ∀ (Ks : List Kn) (l : List Int), ∀ y ∈ List.zipWith opT Ks l, (44 : UInt8) ∉ y
  | [], _, y, h => by simp at h
  | K :: Ks, [], y, h => by simp at h
  | K :: Ks, v :: l, y, h => by
    rw [List.zipWith_cons_cons] at h
    rcases List.mem_cons.1 h with rfl | h
    · exact opT_no K v
    · exact zip_no Ks l y h
theorem line_cnt {k : Nat} (hk : k < 66) (l : List Int) : cnt (lineI k l) = (opsL k l).length - 1 := by
  have hz := zip_no (ks k) l
  rw [line_go, cnt_app, cnt_0 (nm_no ⟨k, hk⟩).1]
  have hz' : ∀ y ∈ opsL k l, (44 : UInt8) ∉ y := hz
  generalize opsL k l = t at hz'
  cases t with
  | nil => rfl
  | cons a t =>
    rw [goT, cnt_app, cnt_app, cnt_0 (hz' a (List.mem_cons_self ..)), go_cnt t 0 (fun y hy => hz' y (List.mem_cons_of_mem _ hy))]
    have : cnt (sepT 0) = 0 := by decide
    rw [this, List.length_cons]; omega
theorem ba_at (s : List UInt8) {i : Nat} (h : i < s.length) : (ba s).data.getD i 0 = s[i] := by
  unfold ba
  simp [Array.getD, h]
theorem one_l (s : List UInt8) (nm : ByteArray) (x : T_api_Inst) (hs : s.length ≤ 1000) : ∀ (d i c : Nat), i + d = s.length → c ≤ i → w6_DisOne_L1 ⟨[ba s], nm, (c : Int), (i : Int), x⟩ = some ⟨[ba s], nm, ((c + cnt (s.drop i) : Nat) : Int), x⟩
  | 0, i, c, hd, hc => by
    rw [w6_DisOne_L1.eq]; unfold w6_DisOne_L1_b; simp only
    rw [show ([ba s] : List ByteArray)[(Int.toNat 0)]? = some (ba s) from rfl, Option.bind_some, ba_size, show decide ((i : Int) < ((s.length : Nat) : Int)) = false from decide_eq_false (by omega), List.drop_eq_nil_of_le (by omega)]; rfl
  | d + 1, i, c, hd, hc => by
    have hi : i < s.length := by omega
    have next : w64 ((i : Int) + 1) = ((i + 1 : Nat) : Int) := by rw [w64_in (by omega) (by omega)]; rfl
    have nextc : w64 ((c : Int) + 1) = ((c + 1 : Nat) : Int) := by rw [w64_in (by omega) (by omega)]; rfl
    rw [w6_DisOne_L1.eq]; unfold w6_DisOne_L1_b; simp only
    rw [show ([ba s] : List ByteArray)[(Int.toNat 0)]? = some (ba s) from rfl, Option.bind_some, ba_size, show decide ((i : Int) < ((s.length : Nat) : Int)) = true from decide_eq_true (by omega), cond_true, Option.bind_some, ba_size, show decide (0 ≤ (i : Int) ∧ (i : Int) < ((s.length : Nat) : Int)) = true from decide_eq_true (by omega), cond_true, Int.toNat_natCast, ba_at s hi, next, nextc, List.drop_eq_getElem_cons hi]
    have hcnt : cnt (s[i] :: s.drop (i + 1)) = (if s[i] = 44 then 1 else 0) + cnt (s.drop (i + 1)) := by
      unfold cnt
      rw [List.count_cons]
      by_cases e : s[i] = 44
      · rw [if_pos e, if_pos (beq_iff_eq.2 e)]; omega
      · rw [if_neg e, if_neg (fun h => e (beq_iff_eq.1 h))]; omega
    rw [hcnt]
    by_cases e : s[i] = 44
    · have ih := one_l s nm x hs d (i + 1) (c + 1) (by omega) (by omega)
      rw [show (((s[i].toNat : Nat) : Int) == 44) = true by rw [e]; rfl, cond_true, if_pos e, Option.bind_some, Sum.elim_inl]
      refine Eq.trans ih ?_
      rw [Nat.add_assoc]
    · have ih := one_l s nm x hs d (i + 1) c (by omega) (by omega)
      rw [show (((s[i].toNat : Nat) : Int) == 44) = false from beq_eq_false_iff_ne.2 (fun h => e (by
        have h' : s[i].toNat = 44 := by omega
        exact UInt8.toNat_inj.1 h')), cond_false, if_neg e, Option.bind_some, Sum.elim_inl, Nat.zero_add]
      exact ih
theorem w6_DisOne_true (a0 : Int) (a1 : List Int) (w0 : IntKind.i64.min ≤ a0 ∧ a0 ≤ IntKind.i64.max) (w1 : a1.length ≤ maxLen ∧ ∀ y ∈ a1, IntKind.i64.min ≤ y ∧ y ≤ IntKind.i64.max) : w6_DisOne a0 a1 = some true := by
  rw [w6_DisOne.eq]; unfold w6_DisOne_b
  rw [w6_known_true, Option.bind_some, show (!true) = false from rfl, cond_false]
  obtain ⟨k, l, hk, hm, ho, hw⟩ := make_is a0 a1
  have hlen := okA_len ho
  have hks := ks_len k
  have he := enc_of hk ho
  have eR := (rencode_is ⟨(k : Int), l⟩ hw (by show l.length ≤ _; omega)).1
  simp only [encB] at eR
  rw [he] at eR
  simp only at eR
  have hby := byts_len k (orA (bs k) (ks k) l)
  have hbu := byts_u8 (k : Int) (orA (bs k) (ks k) l)
  generalize orA (bs k) (ks k) l = n at *
  have hsz : sz k = 2 ∨ sz k = 4 := by unfold sz; split <;> simp
  have hL : listing (byts (k : Int) n) = [lineI k l] := by
    have := listing_enc he nil_u8
    rw [List.append_nil] at this
    exact this
  have e1 := list_prog (byts (k : Int) n) hbu (by omega)
  rw [hL] at e1
  have hok : okLn k l := ⟨hk, hlen, okA_small ho⟩
  have hll := line_len hok
  obtain ⟨o1, o2⟩ := ops_len hok
  have hn := (nm_is hk).2.1
  have hc := line_cnt hk l
  rw [hm, Option.bind_some]
  simp only
  rw [eR, Option.bind_some]
  simp only
  rw [e1, Option.bind_some]
  simp only [List.map_cons, List.map_nil]
  rw [show ((((([ba (lineI k l)] : List ByteArray).length : Nat)) : Int) != 1) = false from rfl, cond_false, hn, Option.bind_some]
  have e2 := one_l (lineI k l) (ba (nmB k)) ⟨(k : Int), l⟩ (by omega) (lineI k l).length 0 0 (by omega) (Nat.le_refl _)
  rw [List.drop_zero, Nat.zero_add] at e2
  have e2' : w6_DisOne_L1 ⟨[ba (lineI k l)], ba (nmB k), 0, 0, ⟨(k : Int), l⟩⟩ = _ := e2
  rw [e2', Option.bind_some]
  simp only
  rw [show ([ba (lineI k l)] : List ByteArray)[(Int.toNat 0)]? = some (ba (lineI k l)) from rfl, Option.bind_some, ba_size, ba_size, Option.bind_some, Option.bind_some, ba_size]
  have hN := (nm_no ⟨k, hk⟩).2
  simp only at hN
  have hgo : lineI k l = nmB k ++ goT 0 (opsL k l) := line_go k l
  have hge : (nmB k).length ≤ (lineI k l).length := by rw [hgo, List.length_append]; omega
  have hex : (ba (lineI k l)).extract (Int.toNat 0) (Int.toNat (((nmB k).length : Nat) : Int)) = ba (nmB k) := by
    rw [Int.toNat_natCast, show Int.toNat 0 = 0 from rfl, hgo]
    rw [← ba_bl ((ba (nmB k ++ goT 0 (opsL k l))).extract 0 (nmB k).length), bl_extract, bl_ba]
    simp
  rw [show decide ((((lineI k l).length : Nat) : Int) < (((nmB k).length : Nat) : Int)) = false from decide_eq_false (by omega), cond_false,
    show decide (0 ≤ (0 : Int) ∧ 0 ≤ (((nmB k).length : Nat) : Int) ∧ (((nmB k).length : Nat) : Int) ≤ (((lineI k l).length : Nat) : Int)) = true from decide_eq_true (by omega), cond_true, hex, show eqS (ba (nmB k)) (ba (nmB k)) = true from eqS_iff.2 rfl, show (!true) = false from rfl, cond_false, hc, w64_in (n := ((l.length : Nat) : Int) - 1) (by omega) (by omega)]
  have hm1 : (((((opsL k l).length - 1 : Nat)) : Int) == (if ((l.length : Nat) : Int) - 1 > 0 then ((l.length : Nat) : Int) - 1 else 0)) = true := by
    rw [beq_iff_eq]; split <;> omega
  rw [hm1, cond_true, eqS_ba]
  have hlast : (((l.length : Nat) : Int) == 0) = decide (lineI k l = nmB k) := by
    rw [Bool.eq_iff_iff, beq_iff_eq, decide_eq_true_iff, hgo]
    constructor
    · intro h
      have : opsL k l = [] := List.eq_nil_of_length_eq_zero (by omega)
      rw [this, goT, List.append_nil]
    · intro h
      have hg : goT 0 (opsL k l) = [] := by
        have := congrArg List.length h
        rw [List.length_append] at this
        exact List.eq_nil_of_length_eq_zero (by omega)
      cases ht : opsL k l with
      | nil => rw [ht] at o1; simp at o1; omega
      | cons a t => rw [ht, go_len] at hg; cases hg
  rw [hlast]
  exact congrArg some (beq_self_eq_true _)
end Go.Ab
namespace Go.Proofs.YtpebnjoklniikaaGreatDoor
open Go Go.Ab Go.ChangeShapes Go.WideShapes Go.ChangeAt Go.RowKit
open Go.ChangeMaps (open_string shut_string)
theorem repL_one {c : Ctx} {w : World} {a : AV} {v : Value} (h : RepL c w [a] [v]) : Rep c w a v := by cases h; assumption
theorem laidOut : laidOutB Tryz.prog = true := by kernel_rfl
theorem own : ownKnob Tryz.prog.godebug = none := by kernel_rfl
theorem door_met (os : Os) (args : Array Value) : laidMetH Tryz.prog [("math/bits.deBruijn32tab", Rows.laid_math_bits_deBruijn32tab), ("math/bits.deBruijn64tab", Rows.laid_math_bits_deBruijn64tab), ("internal/strconv.uint64pow10", Rows.laid_internal_strconv_uint64pow10), ("unicode.White_Space", Rows.laid_unicode_White_Space), ("strings.asciiSpace", Rows.laid_strings_asciiSpace)] ((World.doorLaid Tryz.prog 48 os).forCall (fun _ _ => 0) ⟨#[], args, []⟩).memory :=
  laidMetH_of_parts3 (fuel := 8) (laidMet_of_run' 8 (by kernel_rfl) (by kernel_rfl)) (by kernel_rfl) (by kernel_rfl)
namespace disOne
set_option maxRecDepth 100000 in
theorem lifted (os : Os) (started : os.Started) (H : Type) (enc : TypeId × Value → H) :
    ReturnsInHanded {} Tryz.checked os 5 .any (fun w args => (Rows.disOneSpec.pre enc Tryz.prog Tryz.f5 [] false w args ∧ laidMetH Tryz.prog [("math/bits.deBruijn32tab", Rows.laid_math_bits_deBruijn32tab), ("math/bits.deBruijn64tab", Rows.laid_math_bits_deBruijn64tab), ("internal/strconv.uint64pow10", Rows.laid_internal_strconv_uint64pow10), ("unicode.White_Space", Rows.laid_unicode_White_Space), ("strings.asciiSpace", Rows.laid_strings_asciiSpace)] w) ∧ sizedMet enc Tryz.prog Tryz.f5 (OpenSpec.ofChange Rows.disOneSpec) false w args) (Rows.disOneSpec.post enc Tryz.prog Tryz.f5 false true false false) := by
  refine returns_shaped (C := Tryz.checked) (X := fun w _ => laidMetH Tryz.prog [("math/bits.deBruijn32tab", Rows.laid_math_bits_deBruijn32tab), ("math/bits.deBruijn64tab", Rows.laid_math_bits_deBruijn64tab), ("internal/strconv.uint64pow10", Rows.laid_internal_strconv_uint64pow10), ("unicode.White_Space", Rows.laid_unicode_White_Space), ("strings.asciiSpace", Rows.laid_strings_asciiSpace)] w) (fun _ _ _ hh h => h.of_heap hh) own started (by kernel_rfl) Tryz.func5
    (ChangeSpec.witness_shaped (enc := enc) (C := Tryz.checked) (os := os) (X := fun w _ => laidMetH Tryz.prog [("math/bits.deBruijn32tab", Rows.laid_math_bits_deBruijn32tab), ("math/bits.deBruijn64tab", Rows.laid_math_bits_deBruijn64tab), ("internal/strconv.uint64pow10", Rows.laid_internal_strconv_uint64pow10), ("unicode.White_Space", Rows.laid_unicode_White_Space), ("strings.asciiSpace", Rows.laid_strings_asciiSpace)] w) false (World.doorLaid Tryz.prog 48 os) #[.int .i64 0, .slice none 0 0] 8 rfl (World.shaped_of_RefB (by kernel_rfl) (by kernel_rfl)) (by kernel_rfl) (by kernel_rfl) (by kernel_rfl) (door_met os _)) ?_
  intro W base args ds gs before hval0 hW hcnd hsz0 hL _
  have hT := told_of hL
  have hW' := hW
  obtain ⟨p, q, hA0, hV, rfl, hfz, hnd⟩ := hW
  have hA : DataW.TrodAll enc Tryz.prog W 0 (fun _ => true) true Tryz.f5.params.toList args.toList ds p := hA0
  rw [Tryz.params5] at hA
  obtain ⟨v0, vs0, d0, ds0, p0, q0, hargs, rfl, rfl, h0, r0⟩ := trodAll_cons hA
  obtain ⟨v1, vs1, d1, ds1, p1, q1, rfl, rfl, rfl, h1, r1⟩ := trodAll_cons r0
  obtain ⟨rfl, rfl, rfl⟩ := trodAll_nil r1
  obtain rfl : args = #[v0, v1] := by cases args; simp_all
  obtain ⟨rfl, rfl⟩ := trodVars_none hV
  obtain ⟨u0, rfl⟩ := okWide_int Tryz.underlying3 (hval0 0 3 v0 rfl rfl)
  obtain ⟨a0, w0, y0⟩ := rd_fuel (enc := enc) (P := Tryz.prog) (W := W) (fun fuel => (rd_int Tryz.underlying3 fuel)) h0
  replace y0 := repL_one (show RepL (oldCtx W) W [_] [_] from y0)
  obtain ⟨u1, len1, cap1, rfl⟩ := okWide_slice Tryz.underlying22 (hval0 1 22 v1 rfl rfl)
  obtain ⟨a1, w1, y1⟩ := rd_fuel (enc := enc) (P := Tryz.prog) (W := W) (fun fuel => (show Rd enc Tryz.prog W fuel 22 (fun l : List Int => [.sl (l.map C_i64)]) (fun l => l.length ≤ maxLen ∧ ∀ y ∈ l, IntKind.i64.min ≤ y ∧ y ≤ IntKind.i64.max) from by
      cases fuel with
      | zero => exact rd_zero _ _
      | succ m => exact rd_slice (s := 1) Tryz.underlying22 (by kernel_rfl) (by decide) (fun _ => rfl) (rd_int Tryz.underlying3 m))) h1
  replace y1 := repL_one (show RepL (oldCtx W) W [_] [_] from y1)
  obtain ⟨k, hk⟩ := w6_DisOne.run a0 a1 (w6_DisOne_true a0 a1 w0 w1)
  rw [R_i64_map] at y1
  have lt0 : ∀ x ∈ p0, x.block < W.heap.size := by obtain ⟨m, hm⟩ := h0; exact DataW.trod_lt m _ _ _ hm
  have lt1 : ∀ x ∈ p1, x.block < W.heap.size := by obtain ⟨m, hm⟩ := h1; exact DataW.trod_lt m _ _ _ hm
  refine (calls_of_eval (T := told) (by kernel_rfl) ext_ok hk hT (.cons _ _ _ _ y0 (.cons _ _ _ _ y1 .nil))).mono fun e W' ⟨he, bel⟩ => ?_
  subst he
  exact ⟨_, rfl, _, _, _, [], _, [], hW', trodAll_mk1 (shut_bool Tryz.underlying4 _), (trodAll_cons_mk (Below.trod laidOut (by kernel_rfl) (of_decide_eq_true (by kernel_rfl)) h0 bel lt0) (trodAll_cons_mk (Below.trod laidOut (by kernel_rfl) (of_decide_eq_true (by kernel_rfl)) h1 bel lt1) trodAll_mk0)), rfl, bel.frame _, fun h => by cases h⟩
theorem over : Rows.disOneRow.holds Tryz.pinned (OpenSpec.ofChange Rows.disOneSpec) :=
  OpenClaim.holds_of_wide 5 Tryz.f5 rfl rfl rfl rfl rfl rfl rfl ⟨rfl, rfl, rfl, rfl, rfl⟩ rfl rfl rfl rfl rfl (by kernel_rfl) Tryz.func5 (by kernel_rfl)
    (of_decide_eq_true (by kernel_rfl)) (by unfold Func.isWrapper; first | (rw [if_pos (by decide +kernel)]; kernel_rfl) | (rw [if_neg (by decide +kernel)]; exact ⟨rfl, rfl⟩))
    (fun os started H enc _ => lifted os started H enc)
theorem proved : Rows.DisOneSaid := over
theorem card : Rows.DisOneCardSaid :=
  Claim7.holds_tied_plain_at .later [] [.data, .data, .data, .listed, .data] true (true, "c6665a5671b2589f65b76f32388a5d43b9129fe7c56d5e2eb1ee1a399ca42f6a") false
    proved (fun _ h => by cases h) (by kernel_rfl) (fun _ h => by cases h) disOne_row_tie rfl ⟨rfl, rfl⟩ (by kernel_rfl) rfl
    (fun f fn hf hfn => by
      obtain rfl : f = 5 := Option.some.inj ((show Tryz.prog.funcNamed Tryz.f5.name = some 5 by kernel_rfl).symm.trans hf) |>.symm
      obtain rfl : fn = Tryz.f5 := (Option.some.inj (Tryz.func5.symm.trans hfn)).symm
      exact ⟨by kernel_rfl, fun j t ht => by
        rw [Tryz.params5] at ht
        have hm : t ∈ [3, 22] := by simpa using Array.mem_of_getElem? ht
        have hall : ([3, 22].all fun u => !Tryz.prog.wantsStandIn u) = true := by kernel_rfl
        exact (show Tryz.prog.wantsStandIn t = false by simpa using List.all_eq_true.1 hall t hm)⟩)
    (by kernel_rfl)
end disOne
theorem disOne_holds : Rows.DisOneCardSaid := disOne.card
end Go.Proofs.YtpebnjoklniikaaGreatDoor
