/- IsaKinds: part 6: the written functions, their contracts, and what is said of them. -/
import Derived.Test.YticofbaajdgabaaDoorZIsaKinds5
import Derived.Laws.Strings
import Derived.Test.YticofbaajdgabaaDoorRows
import Derived.LaidMore
import Derived.ProofKit
import Derived.OpenShut
import Derived.Stop.Joined
import Derived.Test.YticofbaajdgabaaDoorTie
import Derived.Test.YticofbaajdgabaaDoorCards
import Derived.SevenTiedAt
import Derived.Handed
import Derived.ShutString
import Derived.ChangeOld
set_option linter.unusedVariables false
set_option linter.unusedSimpArgs false
namespace Go.Proofs.YticofbaajdgabaaDoor.X
set_option linter.unusedVariables false
set_option linter.unusedSimpArgs false
open Go.RowKit Go.PA Go.Proofs.YticofbaajdgabaaDoorW.PrintWords Go.Proofs.YticofbaajdgabaaDoorW.PrintLast Go.Proofs.YticofbaajdgabaaDoorW.PrintMore
/-- Each instruction's kinds; its bits. -/
def ksL : List (List Kn) := [[], [], [], [], [], [.X], [.X], [.X], [.X], [.X], [.X], [.X], [.X], [.X], [.X], [.X, .Y], [.X, .Y], [.X, .Y], [.X, .Y], [.X, .Y], [.X, .Y], [.X, .O5], [.X, .O5], [.X, .O5], [.X, .U5], [.X, .Y], [.X, .Y], [.X, .Y], [.X, .U7], [.X, .U5], [.X, .U5], [.X, .U5], [.X, .U5], [.X, .U5], [.Y, .M1, .X], [.Y, .M1, .X], [.Y, .M2, .X], [.Y, .M2, .X], [.Y, .M4, .X], [.Y, .M4, .X], [.O1, .I2, .T8], [.T8], [.T8], [.D, .A, .S16], [.D, .A, .C8], [.A, .D, .C8], [.A, .D, .C8], [.A, .D, .C8], [.D, .L20], [.D, .S16, .A], [.D, .S16, .A], [.D, .S16, .A], [.D, .S16, .A], [.D, .S16, .A], [.D, .S16, .A], [.D, .S16, .A], [.T24], [.T24], [.O2, .I4, .T15], [.O2, .I4, .T15], [.D, .A, .B], [.D, .A, .B], [.D, .A, .B], [.A, .D, .B], [.A, .D, .B], [.A, .D, .B]]
def bsL : List Nat := [0, 1, 2, 4, 6, 32, 48, 128, 144, 160, 176, 192, 208, 224, 240, 256, 1024, 1280, 1536, 3072, 3328, 8192, 8704, 9216, 10752, 17408, 17664, 17920, 18432, 24576, 25600, 26112, 26624, 27648, 32768, 36864, 40960, 45056, 49152, 53248, 57344, 59392, 59648, 469762048, 402685952, 402702336, 402706432, 402710528, 1879048192, 805306368, 872415232, 939524096, 1342177280, 1409286144, 1476395008, 1543503872, 2013265920, 2013265921, 2046820352, 2046820353, 2080375316, 2080374864, 2080375254, 2080374840, 2080375672, 2080375416]
def ks (i : Nat) : List Kn := ksL.getD i []
def bs (i : Nat) : Nat := bsL.getD i 0
def nm (i : Nat) : ByteArray := (rows2.getD i (⟨#[]⟩, ⟨#[]⟩, ⟨#[]⟩)).1
def kd (i : Nat) : ByteArray := (rows2.getD i (⟨#[]⟩, ⟨#[]⟩, ⟨#[]⟩)).2.2
def hx (i : Nat) : ByteArray := (rows2.getD i (⟨#[]⟩, ⟨#[]⟩, ⟨#[]⟩)).2.1
def sz (i : Nat) : Int := if i < 43 then 2 else 4
theorem p_list : ∀ i : Fin 66, isa_of_string_40__isa_row_list.f ((i.val : Nat) : Int) = some ((ks i.val).map Kn.str) := by decide +kernel
theorem p_bits : ∀ i : Fin 66, isa_of_uint32__isa_code_1.f ((i.val : Nat) : Int) = some ((bs i.val : Nat) : Int) := by decide +kernel
theorem p_name : ∀ i : Fin 66, isa_Name.f ((i.val : Nat) : Int) = some (nm i.val) := by decide +kernel
theorem p_kinds : ∀ i : Fin 66, isa_Kinds.f ((i.val : Nat) : Int) = some (kd i.val) := by decide +kernel
theorem p_size : ∀ i : Fin 66, isa_Size.f ((i.val : Nat) : Int) = some (sz i.val) := by decide +kernel
theorem p_full : ∀ i : Fin 66, (nm i.val).toList ≠ [] := by decide +kernel
theorem r_words : ∀ i : Fin 66, letterpressref2_Words.f 24 (kd i.val) = some ((ks i.val).map Kn.str) := by decide +kernel
theorem r_find : ∀ i : Fin 66, letterpressref2_find.f ((i.val : Nat) : Int) (⟨#[32]⟩ : ByteArray) = some (nm i.val, hx i.val, kd i.val, ((i.val : Nat) : Int), true) := by decide +kernel
theorem p_len : (tableL.length : Int) = 66 := by decide +kernel
theorem p_out (op : Int) (h : ¬ (0 ≤ op ∧ op < 66)) : isa_Name.f op = some (⟨#[]⟩ : ByteArray) ∧ isa_Kinds.f op = some (⟨#[]⟩ : ByteArray) ∧ isa_Size.f op = some 0 := by
  have e1 : isa_Name.f op = some (⟨#[]⟩ : ByteArray) := by
    unfold isa_Name.f isa_of_string_48__isa_row_title.f isa_table.f
    simp only [Option.bind_some, p_len]
    by_cases c : op ≥ 0
    · rw [if_pos c, if_neg (by omega)]; rfl
    · rw [if_neg c]; rfl
  refine ⟨e1, ?_, ?_⟩
  · unfold isa_Kinds.f isa_of_string_48__isa_row_operands.f isa_table.f
    simp only [Option.bind_some, p_len]
    by_cases c : op ≥ 0
    · rw [if_pos c, if_neg (by omega)]; rfl
    · rw [if_neg c]; rfl
  · unfold isa_Size.f
    rw [e1, Option.bind_some, if_pos (by decide +kernel)]
theorem words_up {k : Nat} (hk : 24 ≤ k) {s : ByteArray} {r : List ByteArray} (h : letterpressref2_Words.f 24 s = some r) : letterpressref2_Words.f k s = some r := by
  induction hk with
  | refl => exact h
  | step _ ih => exact letterpressref2_Words.mono _ _ _ ih
/-- A kind's field: from a bit on, so many bits. -/
def Kn.at_ : Kn → Nat × Nat
  | X => (0, 4) | Y => (4, 4) | U5 => (4, 5) | U7 => (4, 7) | O5 => (4, 5) | M1 => (8, 4) | M2 => (8, 4) | M4 => (8, 4) | O1 => (10, 1) | I2 => (8, 2) | T8 => (0, 8)
  | D => (21, 5) | A => (16, 5) | B => (11, 5) | S16 => (0, 16) | L20 => (0, 21) | C8 => (0, 11) | O2 => (20, 2) | I4 => (16, 4) | T15 => (1, 15) | T24 => (1, 24)
def Kn.fm (K : Kn) : Nat := (2 ^ K.at_.2 - 1) * 2 ^ K.at_.1
theorem nat_field (n a b : Nat) : n &&& ((2 ^ b - 1) * 2 ^ a) = n / 2 ^ a % 2 ^ b * 2 ^ a := by
  have e : n &&& ((2 ^ b - 1) * 2 ^ a) = ((n / 2 ^ a) &&& (2 ^ b - 1)) * 2 ^ a := by
    apply Nat.eq_of_testBit_eq
    intro i
    rw [Nat.testBit_and, Nat.testBit_mul_two_pow, Nat.testBit_mul_two_pow, Nat.testBit_and, Nat.testBit_div_two_pow]
    by_cases h : a ≤ i
    · simp [h]
    · simp [h]
  rw [e, Nat.and_two_pow_sub_one_eq_mod]
/-- An operand's bits lie in its field. -/
theorem Kn.bit_in (K : Kn) (v : Int) (h : K.ok v = true) : 0 ≤ K.bit v ∧ (K.bit v).toNat &&& K.fm = (K.bit v).toNat := by
  unfold Kn.fm
  rw [nat_field]
  cases K
  case C8 =>
    obtain ⟨h1, h2, h3, _⟩ := sci8_back v h
    simp only [Kn.bit, Kn.at_]
    omega
  all_goals
    simp only [Kn.ok, decide_eq_true_eq] at h
    simp only [Kn.bit, Kn.at_]
    omega
end Go.Proofs.YticofbaajdgabaaDoor.X

namespace Go.Proofs.YticofbaajdgabaaDoor.X
set_option linter.unusedVariables false
set_option linter.unusedSimpArgs false
open Go.RowKit Go.PA Go.Proofs.YticofbaajdgabaaDoorW.PrintWords Go.Proofs.YticofbaajdgabaaDoorW.PrintLast Go.Proofs.YticofbaajdgabaaDoorW.PrintMore
/-- Each operand may be. -/
def okA : List Kn → List Int → Bool
  | [], [] => true
  | K :: Ks, v :: l => K.ok v && okA Ks l
  | _, _ => false
/-- All bits. -/
def orA : Nat → List Kn → List Int → Nat
  | n, K :: Ks, v :: l => orA (n ||| (K.bit v).toNat) Ks l
  | n, _, _ => n
def I64 (l : List Int) : Prop := ∀ x ∈ l, -9223372036854775808 ≤ x ∧ x < 9223372036854775808
theorem okA_len : ∀ {Ks : List Kn} {l : List Int}, okA Ks l = true → l.length = Ks.length
  | [], [], _ => rfl
  | K :: Ks, v :: l, h => by
    simp only [okA, Bool.and_eq_true] at h
    simp [okA_len h.2]
  | [], _ :: _, h => by simp [okA] at h
  | _ :: _, [], h => by simp [okA] at h
theorem fm_lt (K : Kn) : K.fm < 4294967296 := by cases K <;> decide
theorem and_le {a b : Nat} (h : a &&& b = a) : a ≤ b := by rw [← h]; exact Nat.and_le_right
theorem bit_lt (K : Kn) (v : Int) (h : K.ok v = true) : 0 ≤ K.bit v ∧ K.bit v < 4294967296 := by
  obtain ⟨h0, h1⟩ := K.bit_in v h
  have := and_le h1
  have := fm_lt K
  omega
theorem or_u32 (a b : Nat) (ha : a < 4294967296) (hb : b < 4294967296) : Go.bits .or .u32 (a : Int) (b : Int) = ((a ||| b : Nat) : Int) := by
  have hl : a ||| b < 2 ^ 32 := Nat.or_lt_two_pow (n := 32) ha hb
  rw [show Go.bits .or .u32 (a : Int) (b : Int) = IntKind.u32.wrap ((BitVec.ofInt 32 (a : Int) ||| BitVec.ofInt 32 (b : Int)).toNat : Int) from rfl]
  rw [BitVec.ofInt_natCast, BitVec.ofInt_natCast, BitVec.toNat_or, BitVec.toNat_ofNat, BitVec.toNat_ofNat, Nat.mod_eq_of_lt (by omega), Nat.mod_eq_of_lt (by omega), IntKind.wrap_u32]
  omega
theorem rd_at {l : List Int} {i : Nat} (h : i < l.length) : rd l (i : Int) = l[i] := by
  unfold rd; simp [h]
theorem str_at {K : List Kn} {i : Nat} (h : i < K.length) : rdOf ByteArray.empty (K.map Kn.str) (i : Int) = (K[i]).str := by
  unfold rdOf; simp [h]
theorem succ_w {i : Nat} (h : i < 1000000) : wrap64 ((i : Int) + 1) = ((i + 1 : Nat) : Int) := by
  rw [wrap64_id (by omega) (by omega)]; omega
theorem ks_len (i : Nat) : (ks i).length ≤ 3 := by
  have h : ∀ i : Fin 66, (ks i.val).length ≤ 3 := by decide +kernel
  by_cases c : i < 66
  · exact h ⟨i, c⟩
  · have hn : ksL.length ≤ i := by rw [show ksL.length = 66 by decide +kernel]; omega
    unfold ks; rw [List.getD_eq_getElem?_getD, List.getElem?_eq_none hn]; simp
theorem bs_lt (i : Nat) : bs i < 4294967296 := by
  have h : ∀ i : Fin 66, bs i.val < 4294967296 := by decide +kernel
  by_cases c : i < 66
  · exact h ⟨i, c⟩
  · have hn : bsL.length ≤ i := by rw [show bsL.length = 66 by decide +kernel]; omega
    unfold bs; rw [List.getD_eq_getElem?_getD, List.getElem?_eq_none hn]; decide
theorem code_l0 (K : List Kn) (op : Int) (l : List Int) (hl : l.length = K.length) (hw : I64 l) (hK : K.length ≤ 10) : ∀ (d i k acc : Nat), i + d = K.length → d + 320 ≤ k → acc < 4294967296 →
    ∃ g, isa_code.l0 k (acc : Int) (K.map Kn.str) (K.length : Int) (i : Int) op l = some (g, okA (K.drop i) (l.drop i)) ∧ (okA (K.drop i) (l.drop i) = true → g = ((orA acc (K.drop i) (l.drop i) : Nat) : Int))
  | 0, i, k, acc, hd, hk, ha => by
    obtain ⟨k, rfl⟩ : ∃ m, k = m + 1 := ⟨k - 1, by omega⟩
    unfold isa_code.l0
    rw [if_neg (by omega), List.drop_eq_nil_of_le (by omega), List.drop_eq_nil_of_le (by omega)]
    exact ⟨_, rfl, fun _ => rfl⟩
  | d + 1, i, k, acc, hd, hk, ha => by
    obtain ⟨k, rfl⟩ : ∃ m, k = m + 1 := ⟨k - 1, by omega⟩
    have hi : i < K.length := by omega
    have hi2 : i < l.length := by omega
    unfold isa_code.l0
    rw [if_pos (by omega), if_pos (by omega), if_pos (by rw [List.length_map]; omega), if_pos (by omega), str_at hi, rd_at hi2, List.drop_eq_getElem_cons hi, List.drop_eq_getElem_cons hi2]
    obtain ⟨g, e, hg⟩ := put_is (K[i]) (l[i]) (hw _ (List.getElem_mem hi2)) (k := k) (by omega)
    rw [e, Option.bind_some]
    by_cases c : (K[i]).ok (l[i]) = true
    · rw [if_pos c, hg c]
      have hb := bit_lt _ _ c
      have eb : (K[i]).bit (l[i]) = (((K[i]).bit (l[i])).toNat : Int) := by omega
      rw [eb, or_u32 _ _ ha (by omega), succ_w (by omega)]
      obtain ⟨g', e', hg'⟩ := code_l0 K op l hl hw hK d (i + 1) k _ (by omega) (by omega) (Nat.or_lt_two_pow (n := 32) ha (by omega : ((K[i]).bit (l[i])).toNat < 2 ^ 32))
      refine ⟨g', ?_, ?_⟩
      · rw [e']; simp only [okA, c, Bool.true_and]
      · intro h; simp only [okA, c, Bool.true_and] at h; rw [hg' h]; rfl
    · rw [if_neg c]
      have c' : (K[i]).ok (l[i]) = false := Bool.eq_false_iff.2 c
      refine ⟨0, ?_, ?_⟩
      · simp only [okA, c', Bool.false_and]
      · intro h; simp only [okA, c', Bool.false_and] at h; cases h
/-- An instruction's bits, if it may be. -/
def enc (op : Int) (l : List Int) : Option Nat := if (0 ≤ op ∧ op < 66) ∧ okA (ks op.toNat) l = true then some (orA (bs op.toNat) (ks op.toNat) l) else none
theorem fin_of {op : Int} (h : 0 ≤ op ∧ op < 66) : ∃ i : Fin 66, op = ((i.val : Nat) : Int) := ⟨⟨op.toNat, by omega⟩, by simp; omega⟩
theorem code_is (op : Int) (l : List Int) (hw : I64 l) {k : Nat} (hk : 400 ≤ k) : ∃ g, isa_code.f k op l = some (g, (enc op l).isSome) ∧ ∀ n, enc op l = some n → g = (n : Int) := by
  unfold isa_code.f
  by_cases c : 0 ≤ op ∧ op < 66
  · obtain ⟨i, rfl⟩ := fin_of c
    rw [p_name i, Option.bind_some, if_neg (p_full i), p_bits i, Option.bind_some, p_list i, Option.bind_some, List.length_map]
    unfold enc
    rw [Int.toNat_natCast]
    by_cases c2 : l.length = (ks i.val).length
    · rw [if_pos (by omega)]
      obtain ⟨g, e, hg⟩ := code_l0 (ks i.val) ((i.val : Nat) : Int) l c2 hw (by have := ks_len i.val; omega) (ks i.val).length 0 k (bs i.val) (by omega) (by have := ks_len i.val; omega) (bs_lt _)
      rw [List.drop_zero, List.drop_zero] at e hg
      refine ⟨g, ?_, ?_⟩
      · rw [show ((0 : Nat) : Int) = 0 from rfl] at e
        rw [e]
        by_cases c3 : okA (ks i.val) l = true
        · rw [if_pos ⟨c, c3⟩, c3]; rfl
        · rw [if_neg (fun h => c3 h.2), Bool.eq_false_iff.2 c3]; rfl
      · intro n h
        split at h
        · rename_i c4; cases h; exact hg c4.2
        · cases h
    · rw [if_neg (by omega), if_neg (fun h => c2 (okA_len h.2))]
      exact ⟨0, rfl, fun n h => by cases h⟩
  · rw [(p_out op c).1, Option.bind_some, if_pos (by decide +kernel)]
    unfold enc
    rw [if_neg (fun h => c h.1)]
    exact ⟨0, rfl, fun n h => by cases h⟩
theorem right_is (op : Int) (l : List Int) (hw : I64 l) {k : Nat} (hk : 400 ≤ k) : isa_Right.f k op l = some (enc op l).isSome := by
  unfold isa_Right.f
  obtain ⟨g, e, _⟩ := code_is op l hw hk
  rw [e]; rfl
/-- The bytes of bits. -/
def byts (op : Int) (n : Nat) : List Int := if op < 43 then [(n : Int) / 256 % 256, (n : Int) % 256] else [(n : Int) / 16777216 % 256, (n : Int) / 65536 % 256, (n : Int) / 256 % 256, (n : Int) % 256]
def encB (op : Int) (l : List Int) : List Int × Bool := match enc op l with
  | some n => (byts op n, true)
  | none => ([], false)
theorem encode_is (op : Int) (l : List Int) (hw : I64 l) {k : Nat} (hk : 400 ≤ k) : isa_Encode.f k op l = some (encB op l) := by
  unfold isa_Encode.f encB
  obtain ⟨g, e, hg⟩ := code_is op l hw hk
  rw [e, Option.bind_some]
  cases h : enc op l with
  | none => rfl
  | some n =>
    have hop : 0 ≤ op ∧ op < 66 := by
      unfold enc at h
      split at h
      · rename_i c; exact c.1
      · cases h
    obtain ⟨i, rfl⟩ := fin_of hop
    rw [hg n h]
    simp only [Option.isSome_some, if_true, Option.bind_some]
    rw [p_size i, Option.bind_some]
    unfold sz byts
    by_cases c : i.val < 43
    · rw [if_pos c, if_pos (by omega : ((i.val : Nat) : Int) < 43), show wrap64 (4 - 2) = 2 from wrap64_id (by decide) (by decide)]
      rfl
    · rw [if_neg c, if_neg (by omega : ¬ ((i.val : Nat) : Int) < 43), show wrap64 (4 - 4) = 0 from wrap64_id (by decide) (by decide)]
      rfl
end Go.Proofs.YticofbaajdgabaaDoor.X

namespace Go.Proofs.YticofbaajdgabaaDoor.X
set_option linter.unusedVariables false
set_option linter.unusedSimpArgs false
open Go.RowKit Go.PA Go.Proofs.YticofbaajdgabaaDoorW.PrintWords Go.Proofs.YticofbaajdgabaaDoorW.PrintLast Go.Proofs.YticofbaajdgabaaDoorW.PrintMore
theorem within_is (a n : Int) (hn : 0 < n ∧ n < 4611686018427387904) : letterpresslaw2_within.f a n = some (a % n) := by
  unfold letterpresslaw2_within.f
  rw [if_neg (by omega)]
  have hm0 : 0 ≤ a % n := Int.emod_nonneg _ (by omega)
  have hm1 : a % n < n := Int.emod_lt_of_pos _ hn.1
  have ht : Int.tmod a n = if 0 ≤ a then a % n else if a % n = 0 then 0 else a % n - n := by
    rw [Int.tmod_eq_emod]
    by_cases h0 : 0 ≤ a
    · simp [h0]
    · by_cases hd : n ∣ a
      · rw [if_pos (Or.inr hd), if_neg h0, Int.emod_eq_zero_of_dvd hd]; simp
      · have : a % n ≠ 0 := fun h => hd (Int.dvd_of_emod_eq_zero h)
        rw [if_neg (by rintro (h | h); exact h0 h; exact hd h), if_neg h0, if_neg this]
        omega
  rw [ht]
  by_cases h0 : 0 ≤ a
  · rw [if_pos h0, if_neg (by omega)]
  · rw [if_neg h0]
    by_cases h1 : a % n = 0
    · rw [if_pos h1, if_neg (by omega), h1]
    · rw [if_neg h1, if_pos (by omega), wrap64_id (by omega) (by omega)]
      congr 1; omega
theorem pick9 {l : List Int} (hl : l.length = 9) {K : Kn} {g : Int → Int} (h : ∀ t : Fin 9, K.ok (g (rd l ((t.val : Nat) : Int))) = true ∧ -9223372036854775808 ≤ g (rd l ((t.val : Nat) : Int)) ∧ g (rd l ((t.val : Nat) : Int)) < 9223372036854775808) (n : Int) :
    ∃ v, (if 0 ≤ n % 9 then (if n % 9 < (l.length : Int) then (some (g (rd l (n % 9)))) else none) else none) = some v ∧ K.ok v = true ∧ -9223372036854775808 ≤ v ∧ v < 9223372036854775808 := by
  have h0 : 0 ≤ n % 9 ∧ n % 9 < 9 := by omega
  rw [if_pos h0.1, if_pos (by rw [hl]; omega)]
  have e : n % 9 = (((⟨(n % 9).toNat, by omega⟩ : Fin 9).val : Nat) : Int) := by simp; omega
  refine ⟨_, rfl, ?_⟩
  rw [e]
  exact h _
/-- An operand of the law may be. -/
theorem operand_is (K : Kn) (n : Int) {k : Nat} (hk : 10 ≤ k) : ∃ v, letterpresslaw2_Operand.f k K.str n = some v ∧ K.ok v = true ∧ -9223372036854775808 ≤ v ∧ v < 9223372036854775808 := by
  obtain ⟨k, rfl⟩ : ∃ m, k = m + 10 := ⟨k - 10, by omega⟩
  cases K
  all_goals
    simp (decide := true) only [letterpresslaw2_Operand.f, letterpresslaw2_Operand.j0, letterpresslaw2_Operand.j1, letterpresslaw2_Operand.j2, letterpresslaw2_Operand.j3, Kn.toL, Kn.lst, if_true, if_false, Bool.true_eq_false, Bool.false_eq_true, within_is, (Option.bind_some : ∀ {α β} (a : α) (f : α → Option β), (some a).bind f = f a)]
  case O1 => exact ⟨_, rfl, by simp only [Kn.ok, decide_eq_true_eq]; omega, by omega, by omega⟩
  case I2 | O2 => exact ⟨_, rfl, by simp only [Kn.ok, decide_eq_true_eq]; omega, by omega, by omega⟩
  case T8 =>
    rw [wrap64_id (n := n % 256 - 128) (by omega) (by omega), wrap64_id (n := 2 * (n % 256 - 128)) (by omega) (by omega)]
    exact ⟨_, rfl, by simp only [Kn.ok, decide_eq_true_eq]; omega, by omega, by omega⟩
  case L20 =>
    rw [wrap64_id (by omega) (by omega)]
    exact ⟨_, rfl, by simp only [Kn.ok, decide_eq_true_eq]; omega, by omega, by omega⟩
  case T15 =>
    rw [wrap64_id (n := n % 32768 - 16384) (by omega) (by omega), wrap64_id (n := 2 * (n % 32768 - 16384)) (by omega) (by omega)]
    exact ⟨_, rfl, by simp only [Kn.ok, decide_eq_true_eq]; omega, by omega, by omega⟩
  case T24 =>
    rw [wrap64_id (n := n % 16777216 - 8388608) (by omega) (by omega), wrap64_id (n := 2 * (n % 16777216 - 8388608)) (by omega) (by omega)]
    exact ⟨_, rfl, by simp only [Kn.ok, decide_eq_true_eq]; omega, by omega, by omega⟩
  case M2 => exact pick9 rfl (g := fun x => wrap64 (2 * x)) (by decide +kernel) n
  case M4 => exact pick9 rfl (g := fun x => wrap64 (4 * x)) (by decide +kernel) n
  all_goals exact pick9 rfl (g := fun x => x) (by decide +kernel) n
theorem make_l0 (K : List Kn) (ns : List Int) (hK : K.length ≤ 10) : ∀ (d i k : Nat) (op : Int) (acc : List Int), i + d = K.length → d + 20 ≤ k → acc.length = i → I64 acc →
    ∃ l, letterpresslaw2_Make.l0 k ns (K.map Kn.str) (i : Int) op acc = some (op, acc ++ l) ∧ okA (K.drop i) l = true ∧ I64 (acc ++ l)
  | 0, i, k, op, acc, hd, hk, ha, hw => by
    obtain ⟨k, rfl⟩ : ∃ m, k = m + 1 := ⟨k - 1, by omega⟩
    rw [letterpresslaw2_Make.l0, if_neg (by rw [List.length_map]; omega), List.drop_eq_nil_of_le (by omega)]
    exact ⟨[], by simp, rfl, by simpa using hw⟩
  | d + 1, i, k, op, acc, hd, hk, ha, hw => by
    obtain ⟨k, rfl⟩ : ∃ m, k = m + 1 := ⟨k - 1, by omega⟩
    have hi : i < K.length := by omega
    have key : ∀ n : Int, ∃ l, ((letterpresslaw2_Operand.f k (K[i]).str n).bind fun t => (if acc.length < 17592186044416 then (letterpresslaw2_Make.l0 k ns (K.map Kn.str) (wrap64 ((i : Int) + 1)) op (acc ++ [t])) else none)) = some (op, acc ++ l) ∧ okA (K.drop i) l = true ∧ I64 (acc ++ l) := by
      intro n
      obtain ⟨v, e, hv, hb⟩ := operand_is (K[i]) n (k := k) (by omega)
      rw [e, Option.bind_some, if_pos (by omega), succ_w (by omega)]
      obtain ⟨l, e2, ho, hw2⟩ := make_l0 K ns hK d (i + 1) k op (acc ++ [v]) (by omega) (by omega) (by simp [ha]) (by
        intro x hx
        rcases List.mem_append.1 hx with h | h
        · exact hw x h
        · rw [List.mem_singleton.1 h]; exact hb)
      refine ⟨v :: l, ?_, ?_, ?_⟩
      · rw [e2]; simp
      · rw [List.drop_eq_getElem_cons hi]; simp only [okA, hv, ho, Bool.and_self]
      · simpa using hw2
    rw [letterpresslaw2_Make.l0, if_pos (by rw [List.length_map]; omega)]
    by_cases c : (i : Int) < (ns.length : Int)
    · rw [if_pos c, if_pos (by omega), str_at hi]; exact key _
    · rw [if_neg c, if_pos (by omega), str_at hi]; exact key _
/-- An instruction of the law's: one that may be. -/
theorem make_is (op : Int) (ns : List Int) {k : Nat} (hk : 100 ≤ k) : ∃ l, letterpresslaw2_Make.f k op ns = some (op % 66, l) ∧ (0 ≤ op % 66 ∧ op % 66 < 66) ∧ okA (ks (op % 66).toNat) l = true ∧ I64 l := by
  have hr : 0 ≤ op % 66 ∧ op % 66 < 66 := by omega
  unfold letterpresslaw2_Make.f letterpressref2_Kinds.f
  rw [within_is op 66 (by decide), Option.bind_some]
  generalize op % 66 = o at *
  obtain ⟨i, rfl⟩ := fin_of hr
  rw [r_find i, Option.bind_some]
  simp only [Option.bind_some]
  rw [words_up (by omega) (r_words i), Option.bind_some, Int.toNat_natCast]
  obtain ⟨l, e, ho, hw⟩ := make_l0 (ks i.val) ns (by have := ks_len i.val; omega) (ks i.val).length 0 k ((i.val : Nat) : Int) [] (by omega) (by have := ks_len i.val; omega) rfl (fun x hx => by cases hx)
  rw [show ((0 : Nat) : Int) = 0 from rfl] at e
  exact ⟨l, by rw [e]; rfl, hr, ho, by simpa using hw⟩
theorem make_enc {o : Int} {l : List Int} (h : 0 ≤ o ∧ o < 66) (ho : okA (ks o.toNat) l = true) : enc o l = some (orA (bs o.toNat) (ks o.toNat) l) := by
  unfold enc; rw [if_pos ⟨h, ho⟩]
end Go.Proofs.YticofbaajdgabaaDoor.X

namespace Go.Proofs.YticofbaajdgabaaDoor.X
set_option linter.unusedVariables false
set_option linter.unusedSimpArgs false
open Go.RowKit Go.PA Go.Proofs.YticofbaajdgabaaDoorW.PrintWords Go.Proofs.YticofbaajdgabaaDoorW.PrintLast Go.Proofs.YticofbaajdgabaaDoorW.PrintMore
def U8 (l : List Int) : Prop := ∀ x ∈ l, 0 ≤ x ∧ x < 256
/-- The word that bytes are. -/
def wd : Nat → List Int → Nat
  | n, [] => n
  | n, x :: l => wd (n * 256 + x.toNat) l
def szOf (b : Int) : Int := if b / 16 < 8 ∧ b / 16 % 2 = 1 then 4 else 2
theorem and1_u8 (b : Int) (h : 0 ≤ b ∧ b < 256) : Go.bits .and .u8 (b / 16) 1 = b / 16 % 2 := by
  have h : ∀ c : Fin 16, Go.bits .and .u8 ((c.val : Nat) : Int) 1 = ((c.val : Nat) : Int) % 2 := by decide +kernel
  have e : b / 16 = (((⟨(b / 16).toNat, by omega⟩ : Fin 16).val : Nat) : Int) := by simp; omega
  rw [e]; exact h _
theorem size_is (b : Int) (h : 0 ≤ b ∧ b < 256) : isa_size.f b = some (szOf b) := by
  unfold isa_size.f szOf
  have e := and1_u8 b h
  rw [e]
  by_cases c : b / 16 < 8
  · rw [if_pos c]
    by_cases d : b / 16 % 2 = 1
    · rw [if_pos d, if_pos ⟨c, d⟩]
    · rw [if_neg d, if_neg (fun h => d h.2)]
  · rw [if_neg c, if_neg (fun h => c h.1)]
def vals (i : Nat) (n : Nat) : List Int := (ks i).map (fun K => K.val (n : Int))
def dgo (n : Nat) (s : Int) : Nat → Nat → Option Nat
  | 0, _ => none
  | d + 1, i => if sz i = s ∧ enc (i : Int) (vals i n) = some n then some i else dgo n s d (i + 1)
def decW (n : Nat) (s : Int) : Int × List Int × Int × Bool := match dgo n s 66 0 with
  | some i => ((i : Int), vals i n, s, true)
  | none => (0, [], 0, false)
/-- What bytes are. -/
def dec (b : List Int) : Int × List Int × Int × Bool :=
  if 2 ≤ b.length ∧ szOf (rd b 0) ≤ b.length then decW (wd 0 (b.take (szOf (rd b 0)).toNat)) (szOf (rd b 0)) else (0, [], 0, false)
theorem val_wide (K : Kn) (n : Nat) (h : n < 4294967296) : -9223372036854775808 ≤ K.val (n : Int) ∧ K.val (n : Int) < 9223372036854775808 := by
  cases K
  case C8 => simp only [Kn.val]; have := @B_wide ((n : Int) / 1024 % 2) ((n : Int) / 256 % 4) ((n : Int) % 256); omega
  all_goals
    simp only [Kn.val, sg]
    omega
theorem vals_wide (i n : Nat) (h : n < 4294967296) : I64 (vals i n) := by
  intro x hx
  obtain ⟨K, _, rfl⟩ := List.mem_map.1 hx
  exact val_wide K n h
theorem wd_lt : ∀ (l : List Int) (n m : Nat), U8 l → n < 256 ^ m → wd n l < 256 ^ (m + l.length)
  | [], n, m, _, h => by simpa [wd] using h
  | x :: l, n, m, hl, h => by
    have hx := hl x (List.mem_cons_self ..)
    have e : 256 ^ (m + 1) = 256 * 256 ^ m := by rw [Nat.pow_succ, Nat.mul_comm]
    have := wd_lt l (n * 256 + x.toNat) (m + 1) (fun z hz => hl z (List.mem_cons_of_mem _ hz)) (by omega)
    simp only [wd, List.length_cons]
    rw [show m + (l.length + 1) = m + 1 + l.length by omega]
    exact this
theorem dl0 (s : Int) (b : List Int) (hb : U8 b) (hl : b.length ≤ 4) : ∀ (d i k acc : Nat), i + d = b.length → d + 2 ≤ k → acc < 256 ^ i →
    isa_Decode.l0 k s (acc : Int) b (b.length : Int) (i : Int) = isa_Decode.l0 (k - d) s ((wd acc (b.drop i) : Nat) : Int) b (b.length : Int) (b.length : Int)
  | 0, i, k, acc, hd, hk, ha => by
    rw [List.drop_eq_nil_of_le (by omega), show i = b.length by omega]; rfl
  | d + 1, i, k, acc, hd, hk, ha => by
    obtain ⟨k, rfl⟩ : ∃ m, k = m + 1 := ⟨k - 1, by omega⟩
    have hi : i < b.length := by omega
    have hx := hb _ (List.getElem_mem hi)
    have hp : (256 : Nat) ^ i ≤ 256 ^ 3 := Nat.pow_le_pow_right (by decide) (by omega)
    have ho : Go.bits .or .u32 (((acc : Int) * 256) % 4294967296) (b[i] % 4294967296) = ((acc * 256 + (b[i]).toNat : Nat) : Int) := by
      have e1 : (acc : Int) * 256 % 4294967296 = ((acc * 256 : Nat) : Int) := by omega
      have e2 : b[i] % 4294967296 = (((b[i]).toNat : Nat) : Int) := by omega
      rw [e1, e2, or_u32 _ _ (by omega) (by omega)]
      congr 1
      rw [show acc * 256 = 2 ^ 8 * acc by omega, Nat.two_pow_add_eq_or_of_lt (by omega)]
    rw [isa_Decode.l0, if_pos (by omega), if_pos (by omega), if_pos (by omega), rd_at hi, ho, succ_w (by omega), dl0 s b hb hl d (i + 1) k _ (by omega) (by omega) (by rw [Nat.pow_succ]; omega), show k + 1 - (d + 1) = k - d by omega, List.drop_eq_getElem_cons hi]
    rfl
theorem dl2 (s : Int) (n : Nat) (hn : n < 4294967296) (i : Nat) (K : List Kn) (hK : K.length ≤ 10) : ∀ (d j k : Nat), j + d = K.length → d + 20 ≤ k →
    isa_Decode.l2 k s (n : Int) 66 (i : Int) (K.map Kn.str) (K.length : Int) (j : Int) (i : Int) ((K.map (fun K => K.val (n : Int))).take j) = isa_Decode.l2 (k - d) s (n : Int) 66 (i : Int) (K.map Kn.str) (K.length : Int) (K.length : Int) (i : Int) (K.map (fun K => K.val (n : Int)))
  | 0, j, k, hd, hk => by
    rw [List.take_of_length_le (by rw [List.length_map]; omega), show j = K.length by omega]; rfl
  | d + 1, j, k, hd, hk => by
    obtain ⟨k, rfl⟩ : ∃ m, k = m + 1 := ⟨k - 1, by omega⟩
    have hj : j < K.length := by omega
    rw [isa_Decode.l2, if_pos (by omega), if_pos (by omega), if_pos (by rw [List.length_map]; omega), str_at hj, get_is _ _ (by omega) (by omega), Option.bind_some, if_pos (by rw [List.length_take]; omega), succ_w (by omega)]
    have e : (K.map (fun K => K.val (n : Int))).take j ++ [(K[j]).val (n : Int)] = (K.map (fun K => K.val (n : Int))).take (j + 1) := by
      rw [List.take_succ_eq_append_getElem (by rw [List.length_map]; omega), List.getElem_map]
    rw [e, dl2 s n hn i K hK d (j + 1) k (by omega) (by omega), show k + 1 - (d + 1) = k - d by omega]
theorem dl1 (s : Int) (n : Nat) (hn : n < 4294967296) : ∀ (d i k : Nat), i + d = 66 → 6 * d + 500 ≤ k →
    isa_Decode.l1 k s (n : Int) 66 (i : Int) = some (match dgo n s d i with | some i => ((i : Int), vals i n, s, true) | none => (0, [], 0, false))
  | 0, i, k, hd, hk => by
    obtain ⟨k, rfl⟩ : ∃ m, k = m + 1 := ⟨k - 1, by omega⟩
    rw [isa_Decode.l1, if_neg (by omega)]; rfl
  | d + 1, i, k, hd, hk => by
    obtain ⟨k, rfl⟩ : ∃ m, k = m + 1 := ⟨k - 1, by omega⟩
    have hi : i < 66 := by omega
    rw [isa_Decode.l1, if_pos (by omega), p_size ⟨i, hi⟩, Option.bind_some]
    by_cases c : sz i = s
    · rw [if_pos c, p_list ⟨i, hi⟩, Option.bind_some, List.length_map]
      have hk3 := ks_len i
      have e := dl2 s n hn i (ks i) (by omega) (ks i).length 0 k (by omega) (by omega)
      rw [List.take_zero, show ((0 : Nat) : Int) = 0 from rfl] at e
      rw [e]
      obtain ⟨m, hm⟩ : ∃ m, k - (ks i).length = m + 1 := ⟨k - (ks i).length - 1, by omega⟩
      obtain ⟨g, eg, hg⟩ := code_is (i : Int) (vals i n) (vals_wide i n hn) (k := m) (by omega)
      rw [hm, isa_Decode.l2, if_neg (by omega), show (ks i).map (fun K => K.val (n : Int)) = vals i n from rfl, eg, Option.bind_some]
      have ih := dl1 s n hn d (i + 1) m (by omega) (by omega)
      simp only []
      unfold dgo
      cases h : enc (i : Int) (vals i n) with
      | none =>
        rw [if_neg (by simp), if_neg (by simp), succ_w (by omega), ih]
      | some p =>
        rw [if_pos (by simp), hg p h]
        by_cases c2 : p = n
        · subst c2
          rw [if_pos rfl, if_pos ⟨c, rfl⟩]
          unfold slices_Clone_int_int.f
          simp only [Option.bind_some]
          rw [if_pos (by simp [vals]; omega), Option.bind_some]; rfl
        · rw [if_neg (by omega), if_neg (fun h => c2 (Option.some.inj h.2)), succ_w (by omega), ih]
    · rw [if_neg c, succ_w (by omega), dl1 s n hn d (i + 1) k (by omega) (by omega), show dgo n s (d + 1) i = dgo n s d (i + 1) from if_neg (fun h => c h.1)]
theorem szOf_two (b : Int) : szOf b = 2 ∨ szOf b = 4 := by unfold szOf; split <;> simp
theorem decode_is (b : List Int) (hb : U8 b) (hl : b.length < 1000000) {k : Nat} (hk : 1000 ≤ k) : isa_Decode.f k b = some (dec b) := by
  obtain ⟨k, rfl⟩ : ∃ m, k = m + 1 := ⟨k - 1, by omega⟩
  unfold isa_Decode.f dec
  by_cases c : (b.length : Int) < 2
  · rw [if_pos c, isa_Decode.j0, if_pos rfl, if_neg (by omega)]
  · have h0 : 0 < b.length := by omega
    have hx := hb _ (List.getElem_mem h0)
    have er : rd b 0 = b[0] := rd_at h0
    rw [if_neg c, if_pos (by omega), er, size_is _ hx, Option.bind_some]
    have hs := szOf_two (b[0])
    generalize hs0 : szOf (b[0]) = s at *
    by_cases d : (b.length : Int) < s
    · rw [isa_Decode.j0, if_pos (decide_eq_true d), if_neg (by omega)]
    · rw [isa_Decode.j0, if_neg (by rw [decide_eq_false d]; decide), if_pos (by omega), er, size_is _ hx, hs0, Option.bind_some, if_pos (by omega), if_pos (by omega), if_pos (by omega)]
      have hbt : U8 (b.take s.toNat) := fun x hx => hb x (List.mem_of_mem_take hx)
      have hlt : (b.take s.toNat).length = s.toNat := by rw [List.length_take]; omega
      have e := dl0 s (b.take s.toNat) hbt (by omega) (b.take s.toNat).length 0 k 0 (by omega) (by omega) (by decide)
      rw [List.drop_zero, show ((0 : Nat) : Int) = 0 from rfl] at e
      rw [e]
      obtain ⟨m, hm⟩ : ∃ m, k - (b.take s.toNat).length = m + 1 := ⟨k - (b.take s.toNat).length - 1, by omega⟩
      have hw : wd 0 (b.take s.toNat) < 4294967296 := by
        have h1 := wd_lt (b.take s.toNat) 0 0 hbt (by decide)
        rw [hlt] at h1
        have h2 : (256 : Nat) ^ (0 + s.toNat) ≤ 256 ^ 4 := Nat.pow_le_pow_right (by decide) (by omega)
        omega
      rw [hm, isa_Decode.l0, if_neg (by omega), show isa_table.f = some tableL from rfl, Option.bind_some, p_len, show (0 : Int) = ((0 : Nat) : Int) from rfl, dl1 s _ hw 66 0 m (by omega) (by omega)]
      rfl
theorem enc_some {op : Int} {l : List Int} {n : Nat} (h : enc op l = some n) : (0 ≤ op ∧ op < 66) ∧ okA (ks op.toNat) l = true ∧ n = orA (bs op.toNat) (ks op.toNat) l := by
  unfold enc at h
  split at h
  · rename_i c; cases h; exact ⟨c.1, c.2, rfl⟩
  · cases h
end Go.Proofs.YticofbaajdgabaaDoor.X

namespace Go.Proofs.YticofbaajdgabaaDoor.X
set_option linter.unusedVariables false
set_option linter.unusedSimpArgs false
open Go.RowKit Go.PA Go.Proofs.YticofbaajdgabaaDoorW.PrintWords Go.Proofs.YticofbaajdgabaaDoorW.PrintLast Go.Proofs.YticofbaajdgabaaDoorW.PrintMore
theorem known_is {k : Nat} (hk : 1100 ≤ k) : letterpresslaw2_known.f k = some true := by
  unfold letterpresslaw2_known.f
  rw [encode_is 3 [] (fun x hx => by cases hx) (by omega), Option.bind_some, decode_is [0, 4, 9] (by unfold U8; decide) (by decide) (by omega), Option.bind_some]
  rw [show encB 3 [] = ([0, 4], true) by decide +kernel, show dec [0, 4, 9] = (3, [], 2, true) by decide +kernel]
  decide +kernel
/-- The law's instruction, all that is known of it. -/
theorem made (op : Int) (ns : List Int) : ∃ (i : Fin 66) (l : List Int) (n : Nat), (∀ k, 100 ≤ k → letterpresslaw2_Make.f k op ns = some (((i.val : Nat) : Int), l)) ∧ enc ((i.val : Nat) : Int) l = some n ∧ I64 l ∧ l.length = (ks i.val).length := by
  obtain ⟨l, e, hr, ho, hw⟩ := make_is op ns (k := 100) (by decide)
  have hup : ∀ k, 100 ≤ k → letterpresslaw2_Make.f k op ns = some (op % 66, l) := by
    intro k hk
    induction hk with
    | refl => exact e
    | step _ ih => exact letterpresslaw2_Make.mono _ _ _ _ ih
  have he := make_enc hr ho
  have hl := okA_len ho
  generalize op % 66 = o at *
  obtain ⟨i, rfl⟩ := fin_of hr
  rw [Int.toNat_natCast] at hl
  exact ⟨i, l, _, hup, he, hw, hl⟩
end Go.Proofs.YticofbaajdgabaaDoor.X

namespace Go.Proofs.YticofbaajdgabaaDoor.Pure
set_option linter.unusedVariables false
set_option linter.unusedSimpArgs false
open Go.RowKit Go.PA Go.Proofs.YticofbaajdgabaaDoor.X Go.Proofs.YticofbaajdgabaaDoorW.PrintWords Go.Proofs.YticofbaajdgabaaDoorW.PrintLast Go.Proofs.YticofbaajdgabaaDoorW.PrintMore
theorem enc_len {i : Fin 66} {m : List Int} (h : m.length ≠ (ks i.val).length) : enc ((i.val : Nat) : Int) m = none := by
  cases he : enc ((i.val : Nat) : Int) m with
  | none => rfl
  | some n =>
    obtain ⟨_, h2, _⟩ := enc_some he
    rw [Int.toNat_natCast] at h2
    exact absurd (okA_len h2) h
theorem IsaKinds : letterpresslaw2_IsaKinds.Pure := by
  intro a0 l1 w0 _ _ w1
  refine ⟨1200, ?_⟩
  unfold letterpresslaw2_IsaKinds.f
  obtain ⟨i, l, n, hm, he, hw, hl⟩ := made a0 l1
  have hk := ks_len i.val
  rw [known_is (by decide), Option.bind_some, if_pos rfl, hm 1200 (by decide), Option.bind_some]
  simp only []
  rw [p_kinds i, Option.bind_some, words_up (by decide) (r_words i), Option.bind_some, List.length_map, if_pos (by rw [hl]), right_is _ l hw (by decide), Option.bind_some, he, Option.isSome_some]
  have he' := he
  have hne : ∀ m : List Int, m.length ≠ l.length → enc ((i.val : Nat) : Int) m = none := fun m h => enc_len (by rw [← hl]; exact h)
  rw [letterpresslaw2_IsaKinds.j0, if_neg (by decide)]
  simp only [Option.bind_some, List.nil_append]
  rw [if_pos (by simp only [List.length_nil]; omega), if_pos (by simp only [List.length_cons, List.length_nil]; omega), right_is _ (l ++ [0]) (fun x hx => by
    rcases List.mem_append.1 hx with h | h
    · exact hw x h
    · rw [List.mem_singleton.1 h]; decide) (by decide), Option.bind_some, hne _ (by simp), if_neg (by decide)]
  by_cases c : (l.length : Int) = 0
  · rw [if_pos c]
  · rw [if_neg c, if_pos (by omega), right_is _ (l.drop 1) (fun x hx => hw x (List.mem_of_mem_drop hx)) (by decide), Option.bind_some, hne _ (by rw [List.length_drop]; omega)]
    rfl
end Go.Proofs.YticofbaajdgabaaDoor.Pure

namespace Go.Proofs.YticofbaajdgabaaDoor.X
open Go.RowKit
theorem tSpace : (Tryd.prog.globals[0]?).map (·.type) = some 96 := by kernel_rfl
theorem cells_u8 : Tryd.prog.cellsOf 5 = 1 := by kernel_rfl
theorem cells_tab : Tryd.prog.cellsOf 96 = 256 := by kernel_rfl
theorem datum {H : Type} : (Rows.laid_strings_asciiSpace : DataW H) = Lib.tabData .u8 Lib.asciiSpaceTab := by kernel_rfl
theorem LaidW.of {W : World} (h : laidMetH Tryd.prog [("unicode.White_Space", Rows.laid_unicode_White_Space), ("strings.asciiSpace", Rows.laid_strings_asciiSpace)] W) : LaidW W := by
  rw [MakeChecks.laidMetH_plain _ _ _ (by kernel_rfl)] at h
  obtain ⟨ps, ⟨g0, t0, cs0, f0, p0, q0, hg0, ht0, hv0, hd0, ⟨g1, t1, cs1, f1, p1, q1, hg1, ht1, hv1, hd1, _, _⟩, _⟩, _, _⟩ := h
  obtain rfl := Option.some.inj (gSpace.symm.trans hg1)
  obtain rfl := Option.some.inj (tSpace.symm.trans ht1)
  rw [datum] at hd1
  unfold LaidW Lib.TabIs
  rw [hv1, ← Lib.cells_of_tab Tryd.underlying96 Tryd.underlying5 cells_u8 cells_tab hd1]
/-- The door's own heap meets the condition. -/
theorem door_met (os : Os) (args : Array Value) : laidMetH Tryd.prog [("unicode.White_Space", Rows.laid_unicode_White_Space), ("strings.asciiSpace", Rows.laid_strings_asciiSpace)] ((World.doorLaid Tryd.prog 33 os).forCall (fun _ _ => 0) ⟨#[], args, []⟩).memory :=
  laidMetH_of_parts3 (fuel := 8) (laidMet_of_run' 8 (by kernel_rfl) (by kernel_rfl)) (by kernel_rfl) (by kernel_rfl)
end Go.Proofs.YticofbaajdgabaaDoor.X

namespace Go.Proofs.YticofbaajdgabaaDoor.isaKinds
open Go.ChangeShapes Go.WideShapes Go.ChangeAt Go.RowKit
open Go.ChangeMaps (open_string shut_string)
set_option linter.unusedVariables false
theorem own : ownKnob Tryd.prog.godebug = none := by kernel_rfl
theorem laidOut : laidOutB Tryd.prog = true := by kernel_rfl
def IsRow (k : IntKind) (w : World) (a : Option Addr) (len cap : Nat) (zs : List Int) : Prop :=
  (a = none ∧ len = 0 ∧ cap = 0 ∧ zs = []) ∨
  ∃ x, a = some x ∧ len ≤ cap ∧ cap ≤ maxLen ∧ zs.length = cap ∧ (∀ i, i < zs.length → w.cell? (x.add i) = some (.int k (zs.getD i 0))) ∧ ∀ n ∈ zs, (Lit.int k n).wf = true
set_option maxRecDepth 100000 in
theorem lifted (os : Os) (started : os.Started) (H : Type) (enc : TypeId × Value → H) :
    ReturnsInHanded {} Tryd.checked os 11 .any (fun w args => (Rows.isaKindsSpec.pre enc Tryd.prog Tryd.f11 [] false w args ∧ laidMetH Tryd.prog [("unicode.White_Space", Rows.laid_unicode_White_Space), ("strings.asciiSpace", Rows.laid_strings_asciiSpace)] w) ∧ sizedMet enc Tryd.prog Tryd.f11 (OpenSpec.ofChange Rows.isaKindsSpec) false w args) (Rows.isaKindsSpec.post enc Tryd.prog Tryd.f11 false true false false) := by
  refine returnsInHanded_of_change_and (C := Tryd.checked) (X := fun w _ => laidMetH Tryd.prog [("unicode.White_Space", Rows.laid_unicode_White_Space), ("strings.asciiSpace", Rows.laid_strings_asciiSpace)] w) (fun _ _ _ hh h => h.of_heap hh) own started (by kernel_rfl) Tryd.func11
    (ChangeSpec.witness_shaped (enc := enc) (C := Tryd.checked) (os := os) (X := fun w _ => laidMetH Tryd.prog [("unicode.White_Space", Rows.laid_unicode_White_Space), ("strings.asciiSpace", Rows.laid_strings_asciiSpace)] w) false (World.doorLaid Tryd.prog 33 os) #[.int .i64 0, .slice none 0 0] 8 rfl (World.shaped_of_RefB (by kernel_rfl) (by kernel_rfl)) (by kernel_rfl) (by kernel_rfl) (by kernel_rfl) (X.door_met os _)) ?_
  intro W base args ds gs before hval0 hW hcnd hsz0 hL _
  have hLw := X.LaidW.of hL
  clear hL
  have hsz : (DataW.weightsEach Tryd.prog (Tryd.f11.params.toList ++ Rows.isaKindsSpec.plain.varTypes Tryd.prog) (ds ++ gs)).all (· ≤ reachBytes) = true := hsz0
  have hval : ∀ (j : Nat) t v, Tryd.f11.params[j]? = some t → args[j]? = some v → Value.okWide Tryd.prog W .any base t v := hval0
  have hW' := hW
  obtain ⟨p, q, hA0, hV, rfl, hfz, hnd⟩ := hW
  have hA : DataW.TrodAll enc Tryd.prog W 0 (fun _ => true) true Tryd.f11.params.toList args.toList ds p := hA0
  rw [Tryd.params11] at hA hval hsz
  obtain ⟨v0, vs0, d0, ds0, p0, q0, hargs, rfl, rfl, h0, r0⟩ := trodAll_cons hA
  obtain ⟨v1, vs1, d1, ds1, p1, q1, rfl, rfl, rfl, h1, r1⟩ := trodAll_cons r0
  obtain ⟨rfl, rfl, rfl⟩ := trodAll_nil r1
  obtain rfl : args = #[v0, v1] := by cases args; simp_all
  obtain ⟨rfl, rfl⟩ := trodVars_none hV
  obtain ⟨a0, rfl, rfl, rfl, w0⟩ := open_int Tryd.underlying3 (hval 0 3 v0 rfl rfl) h0
  obtain ⟨a1, len1, cap1, rfl⟩ := okWide_slice Tryd.underlying23 (hval 1 23 v1 rfl rfl)
  have k1 := h1
  have lt1 : ∀ x ∈ p1, x.block < W.heap.size := by obtain ⟨m, hm⟩ := k1; exact DataW.trod_lt m _ _ _ hm
  obtain ⟨z1, w1⟩ : ∃ zs, IsRow .i64 W a1 len1 cap1 zs := by
    obtain ⟨fuel, hf⟩ := h1
    rcases open_ints Tryd.underlying23 Tryd.underlying3 (by kernel_rfl) hf with ⟨hcs, _⟩ | ⟨x, l, c, zs, hcs, _, hl, hm, hz, _, hcell, hwz⟩
    · simp [Value.cells] at hcs
      obtain ⟨rfl, rfl, rfl⟩ := hcs
      exact ⟨[], .inl ⟨rfl, rfl, rfl, rfl⟩⟩
    · simp [Value.cells] at hcs
      obtain ⟨rfl, rfl, rfl⟩ := hcs
      exact ⟨zs, .inr ⟨_, rfl, hl, hm, by simpa using hz, hcell, hwz⟩⟩
  have y1 : len1 * 8 ≤ 140737488351232 := Go.Proofs.YticofbaajdgabaaDoorW.PrintWords.sized_ints hsz (j := 1) (t := 23) rfl rfl Tryd.underlying23 Tryd.underlying3 (by kernel_rfl) (by kernel_rfl) h1
  clear hA0 hval0 hsz0 hsz
  refine (X.letterpresslaw2_IsaKinds.walk Pure.IsaKinds a0 a1 len1 cap1 z1 W hLw w0 w1 y1).mono fun e W' ⟨he, bel⟩ => ?_
  subst he
  exact ⟨_, rfl, _, _, _, [], _, [], hW', trodAll_mk1 (shut_bool Tryd.underlying4 _), (trodAll_cons_mk (shut_int Tryd.underlying3 w0) (trodAll_cons_mk (Below.trod laidOut (by kernel_rfl) (of_decide_eq_true (by kernel_rfl)) k1 bel lt1) trodAll_mk0)), rfl, bel.frame _, fun h => by cases h⟩
theorem over : Rows.isaKindsRow.holds Tryd.pinned (OpenSpec.ofChange Rows.isaKindsSpec) :=
  OpenClaim.holds_of_wide 11 Tryd.f11 rfl rfl rfl rfl rfl rfl rfl ⟨rfl, rfl, rfl, rfl, rfl⟩ rfl rfl rfl rfl rfl (by kernel_rfl) Tryd.func11 (by kernel_rfl)
    (of_decide_eq_true (by kernel_rfl)) (by unfold Func.isWrapper; first | (rw [if_pos (by decide +kernel)]; kernel_rfl) | (rw [if_neg (by decide +kernel)]; exact ⟨rfl, rfl⟩))
    (fun os started H enc _ => lifted os started H enc)
theorem proved : Rows.IsaKindsSaid := over
theorem card : Rows.IsaKindsCardSaid :=
  Claim7.holds_tied_plain_at .later [] [.listed, .data] true (true, "9e0941a3bed8b5483a3837efef2f762ae578b94fd63546c8948659d19f0475ca") false
    proved (fun _ h => by cases h) (by kernel_rfl) (fun _ h => by cases h) isaKinds_row_tie rfl ⟨rfl, rfl⟩ (by kernel_rfl) rfl
    (fun f fn hf hfn => by
      obtain rfl : f = 11 := Option.some.inj ((show Tryd.prog.funcNamed Tryd.f11.name = some 11 by kernel_rfl).symm.trans hf) |>.symm
      obtain rfl : fn = Tryd.f11 := (Option.some.inj (Tryd.func11.symm.trans hfn)).symm
      exact ⟨by kernel_rfl, fun j t ht => by
        rw [Tryd.params11] at ht
        have hm : t ∈ [3, 23] := by simpa using Array.mem_of_getElem? ht
        have hall : ([3, 23].all fun u => !Tryd.prog.wantsStandIn u) = true := by kernel_rfl
        exact (show Tryd.prog.wantsStandIn t = false by simpa using List.all_eq_true.1 hall t hm)⟩)
    (by kernel_rfl)
end Go.Proofs.YticofbaajdgabaaDoor.isaKinds
namespace Go.Proofs.YticofbaajdgabaaDoor
/-- The row, under a short name, for the claim. -/
theorem isaKinds_holds : Rows.IsaKindsCardSaid := isaKinds.card
end Go.Proofs.YticofbaajdgabaaDoor
