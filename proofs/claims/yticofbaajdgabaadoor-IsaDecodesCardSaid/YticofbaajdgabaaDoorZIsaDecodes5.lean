/- IsaDecodes: part 5 of the proof that, whatever the input, the law returns true and the input reads as it did; its conditions are those of the given row. -/
import Derived.Test.YticofbaajdgabaaDoorZIsaDecodes4
import Derived.Test.YticofbaajdgabaaDoorTie
import Derived.Test.YticofbaajdgabaaDoorCards
import Derived.ProofKit
import Derived.OpenShut
import Derived.Stop.Joined
import Derived.Lay
import Derived.SevenTiedAt
set_option linter.unusedVariables false
set_option linter.unusedSimpArgs false
set_option maxRecDepth 100000
namespace Go.Ab
def ksL : List (List Kn) := [[], [], [], [], [], [.X], [.X], [.X], [.X], [.X], [.X], [.X], [.X], [.X], [.X], [.X, .Y], [.X, .Y], [.X, .Y], [.X, .Y], [.X, .Y], [.X, .Y], [.X, .O5], [.X, .O5], [.X, .O5], [.X, .U5], [.X, .Y], [.X, .Y], [.X, .Y], [.X, .U7], [.X, .U5], [.X, .U5], [.X, .U5], [.X, .U5], [.X, .U5], [.Y, .M1, .X], [.Y, .M1, .X], [.Y, .M2, .X], [.Y, .M2, .X], [.Y, .M4, .X], [.Y, .M4, .X], [.O1, .I2, .T8], [.T8], [.T8], [.D, .A, .S16], [.D, .A, .C8], [.A, .D, .C8], [.A, .D, .C8], [.A, .D, .C8], [.D, .L20], [.D, .S16, .A], [.D, .S16, .A], [.D, .S16, .A], [.D, .S16, .A], [.D, .S16, .A], [.D, .S16, .A], [.D, .S16, .A], [.T24], [.T24], [.O2, .I4, .T15], [.O2, .I4, .T15], [.D, .A, .B], [.D, .A, .B], [.D, .A, .B], [.A, .D, .B], [.A, .D, .B], [.A, .D, .B]]
def bsL : List Nat := [0, 1, 2, 4, 6, 32, 48, 128, 144, 160, 176, 192, 208, 224, 240, 256, 1024, 1280, 1536, 3072, 3328, 8192, 8704, 9216, 10752, 17408, 17664, 17920, 18432, 24576, 25600, 26112, 26624, 27648, 32768, 36864, 40960, 45056, 49152, 53248, 57344, 59392, 59648, 469762048, 402685952, 402702336, 402706432, 402710528, 1879048192, 805306368, 872415232, 939524096, 1342177280, 1409286144, 1476395008, 1543503872, 2013265920, 2013265921, 2046820352, 2046820353, 2080375316, 2080374864, 2080375254, 2080374840, 2080375672, 2080375416]
def ks (i : Nat) : List Kn := ksL.getD i []
def bs (i : Nat) : Nat := bsL.getD i 0
def sz (i : Nat) : Int := if i < 43 then 2 else 4
def tabChk (k : Nat) : Bool := match isa_of_3.s 2000 k, isa_of_2.s 2000 k, isa_Size.s 2000 k with
  | some l, some c, some z => eqL l ((ks k).map Kn.str) && (c == ((bs k : Nat) : Int)) && (z == sz k)
  | _, _, _ => false
theorem tab_all : ((List.range 66).all tabChk) = true := by kernel_rfl
theorem tab_is {i : Nat} (h : i < 66) : isa_of_3 i = some ((ks i).map Kn.str) ∧ isa_of_2 i = some ((bs i : Nat) : Int) ∧ isa_Size i = some (sz i) := by
  have h := List.all_eq_true.1 tab_all i (List.mem_range.2 h)
  unfold tabChk at h
  split at h
  · rename_i l c z e1 e2 e3
    simp only [Bool.and_eq_true, beq_iff_eq] at h
    obtain ⟨⟨h1, rfl⟩, rfl⟩ := h
    rw [eqL_eq h1] at e1
    exact ⟨cv_some (isa_of_3.cv _) _ e1, cv_some (isa_of_2.cv _) _ e2, cv_some (isa_Size.cv _) _ e3⟩
  · cases h
theorem ks_len (i : Nat) : (ks i).length ≤ 3 := by
  have h : ∀ i : Fin 66, (ks i.val).length ≤ 3 := by decide
  by_cases c : i < 66
  · exact h ⟨i, c⟩
  · have hn : ksL.length ≤ i := by rw [show ksL.length = 66 by decide]; omega
    unfold ks; rw [List.getD_eq_getElem?_getD, List.getElem?_eq_none hn]; simp
theorem bs_lt (i : Nat) : bs i < 4294967296 := by
  have h : ∀ i : Fin 66, bs i.val < 4294967296 := by decide
  by_cases c : i < 66
  · exact h ⟨i, c⟩
  · have hn : bsL.length ≤ i := by rw [show bsL.length = 66 by decide]; omega
    unfold bs; rw [List.getD_eq_getElem?_getD, List.getElem?_eq_none hn]; decide

theorem short_lt : ∀ i : Fin 66, i.val < 43 → bs i.val < 65536 ∧ ∀ K ∈ ks i.val, K.fm < 65536 := by decide
theorem orA_lt16 : ∀ {Ks : List Kn} {l : List Int} {n : Nat}, n < 65536 → (∀ K ∈ Ks, K.fm < 65536) → okA Ks l = true → orA n Ks l < 65536
  | [], [], n, h, _, _ => h
  | K :: Ks, v :: l, n, h, hm, ho => by
    simp only [okA, Bool.and_eq_true] at ho
    have h1 := and_le (K.bit_in v ho.1).2
    have h2 := hm K (List.mem_cons_self ..)
    show orA (n ||| (K.bit v).toNat) Ks l < 65536
    exact orA_lt16 (Nat.or_lt_two_pow (n := 16) h (by omega : (K.bit v).toNat < 2 ^ 16)) (fun K hK => hm K (List.mem_cons_of_mem _ hK)) ho.2
  | [], _ :: _, n, h, _, _ => h
  | _ :: _, [], n, h, _, _ => h
/-- An instruction's bits, if it may be. -/
def enc (op : Int) (l : List Int) : Option Nat := if (0 ≤ op ∧ op < 66) ∧ okA (ks op.toNat) l = true then some (orA (bs op.toNat) (ks op.toNat) l) else none
theorem enc_lt {op : Int} {l : List Int} {n : Nat} (h : enc op l = some n) : n < 4294967296 := by
  unfold enc at h
  split at h
  · rename_i c; cases h; exact orA_lt (bs_lt _) c.2
  · cases h
theorem enc_some {op : Int} {l : List Int} {n : Nat} (h : enc op l = some n) : (0 ≤ op ∧ op < 66) ∧ okA (ks op.toNat) l = true ∧ n = orA (bs op.toNat) (ks op.toNat) l := by
  unfold enc at h
  split at h
  · rename_i c; cases h; exact ⟨c.1, c.2, rfl⟩
  · cases h
theorem enc_lt16 {i : Nat} {l : List Int} {n : Nat} (h : enc (i : Int) l = some n) (hi : i < 43) : n < 65536 := by
  obtain ⟨h1, h2, h3⟩ := enc_some h
  rw [Int.toNat_natCast] at h2 h3
  obtain ⟨a, b⟩ := short_lt ⟨i, by omega⟩ hi
  rw [h3]; exact orA_lt16 a b h2
theorem orU (a b : Nat) (ha : a < 4294967296) (hb : b < 4294967296) : orI .u32 (a : Int) (b : Int) = ((a ||| b : Nat) : Int) := by
  have hl : a ||| b < 2 ^ 32 := Nat.or_lt_two_pow (n := 32) ha hb
  show IntKind.u32.wrap ((BitVec.ofInt 32 (a : Int) ||| BitVec.ofInt 32 (b : Int)).toNat : Int) = _
  rw [BitVec.ofInt_natCast, BitVec.ofInt_natCast, BitVec.toNat_or, BitVec.toNat_ofNat, BitVec.toNat_ofNat, Nat.mod_eq_of_lt (by omega), Nat.mod_eq_of_lt (by omega), u32_w]
  omega
theorem code_l (x : T_api_Inst) (Ks : List Kn) (hK : Ks.length ≤ 8) (hl : x.F.length = Ks.length) (hw : ∀ v ∈ x.F, inI v) : ∀ (d i acc : Nat), i + d = Ks.length → acc < 4294967296 →
    isa_code_L1 ⟨(acc : Int), Ks.map Kn.str, Ks.length, i, x⟩ = if okA (Ks.drop i) (x.F.drop i) = true then some (.inr ((orA acc (Ks.drop i) (x.F.drop i) : Nat) : Int)) else some (.inl ⟨0, false⟩)
  | 0, i, acc, hd, ha => by
    rw [isa_code_L1.eq]; unfold isa_code_L1_b; simp only
    rw [show decide ((i : Int) < Ks.length) = false from decide_eq_false (by omega), List.drop_eq_nil_of_le (by omega), List.drop_eq_nil_of_le (by omega)]; rfl
  | d + 1, i, acc, hd, ha => by
    have hi : i < Ks.length := by omega
    have hi2 : i < x.F.length := by omega
    have hi3 : i < (Ks.map Kn.str).length := by rw [List.length_map]; exact hi
    have hw1 : w64 ((i : Int) + 1) = ((i + 1 : Nat) : Int) := by rw [w64_in (by omega) (by omega)]; rfl
    obtain ⟨g, e, hg⟩ := put_is Ks[i] x.F[i] (hw _ (List.getElem_mem hi2))
    rw [isa_code_L1.eq]; unfold isa_code_L1_b; simp only
    rw [show decide ((i : Int) < Ks.length) = true from decide_eq_true (by omega), cond_true, show decide (0 ≤ (i : Int)) = true from decide_eq_true (by omega), cond_true, Int.toNat_natCast, List.getElem?_eq_getElem hi3, Option.bind_some, List.getElem?_eq_getElem hi2, Option.bind_some, List.getElem_map, e, Option.bind_some, List.drop_eq_getElem_cons hi, List.drop_eq_getElem_cons hi2]
    by_cases c : Ks[i].ok x.F[i] = true
    · rw [c]
      have hb := bit_lt _ _ c
      have eb : g = (((Ks[i].bit x.F[i]).toNat : Nat) : Int) := by rw [hg c]; omega
      have ih := code_l x Ks hK hl hw d (i + 1) (acc ||| (Ks[i].bit x.F[i]).toNat) (by omega) (Nat.or_lt_two_pow (n := 32) ha (by omega : (Ks[i].bit x.F[i]).toNat < 2 ^ 32))
      simp only [Bool.not_true, cond_false, Option.bind_some, Sum.elim_inl, okA, c, Bool.true_and]
      rw [hw1, eb, orU _ _ ha (by omega)]
      exact ih
    · have c' : Ks[i].ok x.F[i] = false := Bool.eq_false_iff.2 c
      rw [c']
      simp only [Bool.not_false, cond_true, okA, c', Bool.false_and, Bool.false_eq_true, if_false]; rfl
theorem code_is (x : T_api_Inst) (hw : ∀ v ∈ x.F, inI v) (hlen : x.F.length ≤ 4611686018427387904) : ∃ g, isa_code x = some (g, (enc x.Op x.F).isSome) ∧ ∀ n, enc x.Op x.F = some n → g = (n : Int) := by
  by_cases c : 0 ≤ x.Op ∧ x.Op < 66
  rotate_left
  · obtain ⟨n1, _⟩ := name_out (k := x.Op) (by omega)
    refine ⟨0, ?_, fun n h => ?_⟩
    · rw [code_none n1]; unfold enc; rw [if_neg (fun h => c h.1)]; rfl
    · unfold enc at h; rw [if_neg (fun h => c h.1)] at h; cases h
  obtain ⟨i, hi⟩ := Int.eq_ofNat_of_zero_le c.1
  have h66 : i < 66 := by omega
  obtain ⟨t1, t2, t3⟩ := tab_is h66
  obtain ⟨nm, _, _, _, _, e1, _, _, _, _, _, _, _, _, _, _, e12, _⟩ := rows h66
  have hk := ks_len i
  have he : enc x.Op x.F = if okA (ks i) x.F = true then some (orA (bs i) (ks i) x.F) else none := by
    unfold enc; rw [hi, Int.toNat_natCast]
    by_cases h : okA (ks i) x.F = true
    · rw [if_pos ⟨by omega, h⟩, if_pos h]
    · rw [if_neg (fun q => h q.2), if_neg h]
  rw [he]
  rw [isa_code.eq]; unfold isa_code_b
  rw [hi, e1, Option.bind_some, e12, cond_false, t2, Option.bind_some, t1, Option.bind_some]
  by_cases hl : x.F.length = (ks i).length
  rotate_left
  · rw [show ((((ks i).map Kn.str).length : Int) != (x.F.length : Int)) = true by rw [bne_iff_ne, List.length_map]; omega, cond_true]
    have h : ¬ okA (ks i) x.F = true := fun h => hl (okA_len h)
    rw [if_neg h]
    exact ⟨0, rfl, fun n h => nomatch h⟩
  rw [show ((((ks i).map Kn.str).length : Int) != (x.F.length : Int)) = false by rw [List.length_map, hl]; exact bne_self_eq_false _, cond_false, List.length_map]
  have h := code_l x (ks i) (by omega) hl hw (ks i).length 0 (bs i) (by omega) (bs_lt i)
  rw [List.drop_zero, List.drop_zero] at h
  have h' : isa_code_L1 ⟨((bs i : Nat) : Int), (ks i).map Kn.str, (((ks i).length : Nat) : Int), 0, x⟩ = _ := h
  rw [h']
  by_cases hk : okA (ks i) x.F = true
  · rw [if_pos hk, if_pos hk]; exact ⟨_, rfl, fun n h => by cases h; rfl⟩
  · rw [if_neg hk, if_neg hk]; exact ⟨0, rfl, fun n h => nomatch h⟩
def byts (op : Int) (n : Nat) : List Int := if op < 43 then [(n : Int) / 256 % 256, (n : Int) % 256] else [(n : Int) / 16777216 % 256, (n : Int) / 65536 % 256, (n : Int) / 256 % 256, (n : Int) % 256]
def encB (op : Int) (l : List Int) : List Int × Bool := match enc op l with
  | some n => (byts op n, true)
  | none => ([], false)
theorem u8_w (z : Int) : IntKind.u8.wrap z = z % 256 := by unfold IntKind.wrap; simp [IntKind.bits, IntKind.signed]
theorem byte_is (n : Int) : IntKind.u8.wrap (shrI .u32 n 8) = n / 256 % 256 ∧ IntKind.u8.wrap (shrI .u32 n 16) = n / 65536 % 256 ∧ IntKind.u8.wrap (shrI .u32 n 24) = n / 16777216 % 256 := by
  unfold shrI
  rw [u8_w, u8_w, u8_w, Int.fdiv_eq_ediv_of_nonneg _ (Int.le_of_lt (Int.pow_pos (by decide))), Int.fdiv_eq_ediv_of_nonneg _ (Int.le_of_lt (Int.pow_pos (by decide))), Int.fdiv_eq_ediv_of_nonneg _ (Int.le_of_lt (Int.pow_pos (by decide)))]
  exact ⟨rfl, rfl, rfl⟩
theorem encode_is (x : T_api_Inst) (hw : ∀ v ∈ x.F, inI v) (hlen : x.F.length ≤ 4611686018427387904) : isa_Encode x = some (encB x.Op x.F) := by
  obtain ⟨g, e, hg⟩ := code_is x hw hlen
  unfold encB
  cases h : enc x.Op x.F with
  | none => rw [h] at e; exact encode_false (c := g) e
  | some n =>
    rw [h] at e
    obtain ⟨hop, _, _⟩ := enc_some h
    obtain ⟨i, hi⟩ := Int.eq_ofNat_of_zero_le hop.1
    obtain ⟨_, _, t3⟩ := tab_is (i := i) (by omega)
    have e' : isa_code x = some (g, true) := e
    obtain ⟨b8, b16, b24⟩ := byte_is (n : Int)
    rw [isa_Encode.eq]; unfold isa_Encode_b
    rw [e', hg n h, Option.bind_some, hi, t3]
    simp only [Option.bind_some, Bool.not_true, cond_false]
    rw [b8, b16, b24, u8_w]
    unfold sz byts
    by_cases c : i < 43
    · rw [if_pos c, if_pos (by omega)]; rfl
    · rw [if_neg c, if_neg (by omega)]; rfl
theorem rencode_is (x : T_api_Inst) (hw : ∀ v ∈ x.F, inI v) (hlen : x.F.length ≤ 4611686018427387904) : r2_Encode x = some (encB x.Op x.F) ∧ r2_Right x = some (enc x.Op x.F).isSome := by
  obtain ⟨l, is, h1, h2, h3⟩ := encode_alike x hw hlen
  rw [encode_is x hw hlen] at h1
  have e := Option.some.inj h1
  refine ⟨by rw [h2, e], ?_⟩
  have e2 : is = (encB x.Op x.F).2 := by rw [e]
  rw [h3, e2]; unfold encB
  cases enc x.Op x.F <;> rfl
end Go.Ab
set_option maxRecDepth 100000
namespace Go.Ab
def U8 (l : List Int) : Prop := ∀ x ∈ l, byt x
/-- The word that bytes are. -/
def wd : Nat → List Int → Nat
  | n, [] => n
  | n, x :: l => wd (n * 256 + x.toNat) l
def szOf (b : Int) : Int := if b / 16 < 8 ∧ b / 16 % 2 = 1 then 4 else 2
theorem size_all : ∀ b : Fin 256, isa_size_b ((b.val : Nat) : Int) = some (szOf ((b.val : Nat) : Int)) := by decide +kernel
theorem size_is (b : Int) (h : byt b) : isa_size b = some (szOf b) := by
  have := size_all ⟨b.toNat, by have := h.1; have := h.2; omega⟩
  have e : ((b.toNat : Nat) : Int) = b := Int.toNat_of_nonneg h.1
  simp only [e] at this
  rw [isa_size.eq]; exact this
theorem szOf_two (b : Int) : szOf b = 2 ∨ szOf b = 4 := by unfold szOf; split <;> simp
def vals (i : Nat) (n : Nat) : List Int := (ks i).map (fun K => K.val (n : Int))
def dgo (n : Nat) (s : Int) : Nat → Nat → Option Nat
  | 0, _ => none
  | d + 1, i => if sz i = s ∧ enc (i : Int) (vals i n) = some n then some i else dgo n s d (i + 1)
theorem dgo_succ (n : Nat) (s : Int) (d i : Nat) : dgo n s (d + 1) i = if sz i = s ∧ enc (i : Int) (vals i n) = some n then some i else dgo n s d (i + 1) := rfl
def decW (n : Nat) (s : Int) : T_api_Inst × Int × Bool := match dgo n s 66 0 with
  | some i => (⟨(i : Int), vals i n⟩, s, true)
  | none => (z0I, 0, false)
/-- What bytes are. -/
def dec (b : List Int) : T_api_Inst × Int × Bool :=
  if 2 ≤ b.length ∧ szOf (b.headD 0) ≤ b.length then decW (wd 0 (b.take (szOf (b.headD 0)).toNat)) (szOf (b.headD 0)) else (z0I, 0, false)
theorem vals_in (i n : Nat) (h : n < 4294967296) : ∀ v ∈ vals i n, inI v := by
  intro x hx
  obtain ⟨K, _, rfl⟩ := List.mem_map.1 hx
  exact val_in K n ⟨by omega, by omega⟩
theorem vals_len (i n : Nat) : (vals i n).length = (ks i).length := by unfold vals; rw [List.length_map]
theorem wd_lt : ∀ (l : List Int) (n m : Nat), U8 l → n < 256 ^ m → wd n l < 256 ^ (m + l.length)
  | [], n, m, _, h => by simpa [wd] using h
  | x :: l, n, m, hl, h => by
    have hx : byt x := hl x (List.mem_cons_self ..)
    have e : 256 ^ (m + 1) = 256 * 256 ^ m := by rw [Nat.pow_succ, Nat.mul_comm]
    have := wd_lt l (n * 256 + x.toNat) (m + 1) (fun z hz => hl z (List.mem_cons_of_mem _ hz)) (by have := hx.1; have := hx.2; omega)
    simp only [wd, List.length_cons]
    rw [show m + (l.length + 1) = m + 1 + l.length by omega]
    exact this

theorem dl1 (s : Int) (h0 : T_api_Inst) (b : List Int) (hb : U8 b) (hl : b.length ≤ 4) : ∀ (d i acc : Nat), i + d = b.length → acc < 256 ^ i →
    isa_Decode_L1 ⟨s, (acc : Int), b, (b.length : Int), (i : Int), h0⟩ = some ⟨s, ((wd acc (b.drop i) : Nat) : Int), h0⟩
  | 0, i, acc, hd, ha => by
    rw [isa_Decode_L1.eq]; unfold isa_Decode_L1_b; simp only
    rw [show decide ((i : Int) < b.length) = false from decide_eq_false (by omega), List.drop_eq_nil_of_le (by omega)]; rfl
  | d + 1, i, acc, hd, ha => by
    have hi : i < b.length := by omega
    have hx := hb _ (List.getElem_mem hi)
    have hp : (256 : Nat) ^ i ≤ 256 ^ 3 := Nat.pow_le_pow_right (by decide) (by omega)
    have hx0 := hx.1
    have hx1 := hx.2
    have ho : orI .u32 (shlI .u32 (acc : Int) 8) (IntKind.u32.wrap b[i]) = ((acc * 256 + (b[i]).toNat : Nat) : Int) := by
      have e1 : shlI .u32 (acc : Int) 8 = ((acc * 256 : Nat) : Int) := by
        unfold shlI
        rw [u32_w, show ((2 : Int) ^ min (Int.toNat 8) IntKind.u32.bits) = 256 from rfl]; omega
      have e2 : IntKind.u32.wrap b[i] = (((b[i]).toNat : Nat) : Int) := by rw [u32_w]; omega
      rw [e1, e2, orU _ _ (by omega) (by omega)]
      congr 1
      rw [show acc * 256 = 2 ^ 8 * acc by omega, Nat.two_pow_add_eq_or_of_lt (by omega)]
    have ih := dl1 s h0 b hb hl d (i + 1) (acc * 256 + (b[i]).toNat) (by omega) (by rw [Nat.pow_succ]; omega)
    rw [isa_Decode_L1.eq]; unfold isa_Decode_L1_b; simp only
    rw [show decide ((i : Int) < b.length) = true from decide_eq_true (by omega), cond_true, show decide (0 ≤ (i : Int)) = true from decide_eq_true (by omega), cond_true, Int.toNat_natCast, List.getElem?_eq_getElem hi, Option.bind_some, ho, w64_in (n := (i : Int) + 1) (by omega) (by omega), Option.bind_some, Sum.elim_inl, List.drop_eq_getElem_cons hi]
    exact ih
theorem dl3 (s len op : Int) (h0 : T_api_Inst) (n : Nat) (hn : n < 4294967296) (K : List Kn) (hK : K.length ≤ 8) : ∀ (d j : Nat), j + d = K.length →
    isa_Decode_L3 ⟨s, (n : Int), len, op, K.map Kn.str, (K.length : Int), (j : Int), h0, ⟨op, (K.map (fun K => K.val (n : Int))).take j⟩⟩ = some ⟨s, (n : Int), len, op, h0, ⟨op, K.map (fun K => K.val (n : Int))⟩⟩
  | 0, j, hd => by
    rw [isa_Decode_L3.eq]; unfold isa_Decode_L3_b; simp only
    rw [show decide ((j : Int) < K.length) = false from decide_eq_false (by omega), List.take_of_length_le (by rw [List.length_map]; omega)]; rfl
  | d + 1, j, hd => by
    have hj : j < K.length := by omega
    have hj2 : j < (K.map Kn.str).length := by rw [List.length_map]; exact hj
    have hj3 : j < (K.map (fun K => K.val (n : Int))).length := by rw [List.length_map]; exact hj
    have ih := dl3 s len op h0 n hn K hK d (j + 1) (by omega)
    have e : (K.map (fun K => K.val (n : Int))).take j ++ [(K[j]).val (n : Int)] = (K.map (fun K => K.val (n : Int))).take (j + 1) := by
      rw [List.take_succ_eq_append_getElem hj3, List.getElem_map]
    rw [isa_Decode_L3.eq]; unfold isa_Decode_L3_b; simp only
    rw [show decide ((j : Int) < K.length) = true from decide_eq_true (by omega), cond_true, show decide (0 ≤ (j : Int)) = true from decide_eq_true (by omega), cond_true, Int.toNat_natCast, List.getElem?_eq_getElem hj2, Option.bind_some, List.getElem_map, get_is _ _ ⟨by omega, by omega⟩, Option.bind_some,
      show decide ((((K.map (fun K => K.val (n : Int))).take j).length + [(K[j]).val (n : Int)].length) * 8 ≤ most) = true from decide_eq_true (by rw [List.length_take, List.length_singleton, List.length_map]; unfold most; omega), cond_true, e, w64_in (n := (j : Int) + 1) (by omega) (by omega), Option.bind_some, Sum.elim_inl]
    exact ih
theorem dl2 (s : Int) (n : Nat) (hn : n < 4294967296) : ∀ (d i : Nat), i + d = 66 →
    isa_Decode_L2 ⟨s, (n : Int), 66, (i : Int), z0I⟩ = some (match dgo n s d i with | some i => .inl ⟨s, true, ⟨(i : Int), vals i n⟩⟩ | none => .inr z0I)
  | 0, i, hd => by
    rw [isa_Decode_L2.eq]; unfold isa_Decode_L2_b; simp only
    rw [show decide ((i : Int) < 66) = false from decide_eq_false (by omega)]; rfl
  | d + 1, i, hd => by
    have hi : i < 66 := by omega
    obtain ⟨t1, t2, t3⟩ := tab_is hi
    have hk := ks_len i
    have ih := dl2 s n hn d (i + 1) (by omega)
    have next : w64 ((i : Int) + 1) = ((i + 1 : Nat) : Int) := by rw [w64_in (by omega) (by omega)]; rfl
    rw [dgo_succ, isa_Decode_L2.eq]; unfold isa_Decode_L2_b; simp only
    rw [show decide ((i : Int) < 66) = true from decide_eq_true (by omega), cond_true, t3, Option.bind_some, next]
    by_cases c : sz i = s
    rotate_left
    · rw [show (sz i != s) = true by rw [bne_iff_ne]; exact c, cond_true, Option.bind_some, Sum.elim_inl, if_neg (fun h => c h.1)]; exact ih
    rw [show (sz i != s) = false by rw [c]; exact bne_self_eq_false s, cond_false, t1, Option.bind_some, List.length_map]
    have e := dl3 s 66 (i : Int) z0I n hn (ks i) (by omega) (ks i).length 0 (by omega)
    have e' : isa_Decode_L3 ⟨s, (n : Int), 66, (i : Int), (ks i).map Kn.str, ((ks i).length : Int), 0, z0I, ⟨(i : Int), []⟩⟩ = some ⟨s, (n : Int), 66, (i : Int), z0I, ⟨(i : Int), vals i n⟩⟩ := e
    rw [e', Option.bind_some]
    have hv := vals_in i n hn
    have hlen : (vals i n).length ≤ 8 := by rw [vals_len]; omega
    obtain ⟨g, eg, hg⟩ := code_is ⟨(i : Int), vals i n⟩ hv (by show (vals i n).length ≤ _; omega)
    simp only
    rw [eg, Option.bind_some]
    cases h : enc (i : Int) (vals i n) with
    | none =>
      simp only [Option.isSome_none, cond_false, Option.bind_some, Sum.elim_inl]
      rw [next, if_neg (by simp)]; exact ih
    | some p =>
      simp only [Option.isSome_some, cond_true]
      rw [hg p h]
      by_cases c2 : p = n
      · subst c2
        have ec : slices_Clone_2 (vals i p) = some (vals i p) := by
          show cloneB 8 _ = _
          exact if_pos (by omega)
        rw [beq_self_eq_true, cond_true, ec, if_pos ⟨c, rfl⟩]; rfl
      · rw [show (((p : Nat) : Int) == (n : Int)) = false from beq_eq_false_iff_ne.2 (by omega), cond_false, if_neg (fun h => c2 (Option.some.inj h.2)), Option.bind_some, Sum.elim_inl, next]; exact ih
theorem take_u8 {b : List Int} (hb : U8 b) (n : Nat) : U8 (b.take n) := fun x hx => hb x (List.mem_of_mem_take hx)
theorem wd_32 {b : List Int} (hb : U8 b) {s : Int} (hs : s = 2 ∨ s = 4) (h : s ≤ b.length) : wd 0 (b.take s.toNat) < 4294967296 := by
  have h1 := wd_lt (b.take s.toNat) 0 0 (take_u8 hb _) (by decide)
  rw [List.length_take] at h1
  have h2 : (256 : Nat) ^ (0 + min s.toNat b.length) ≤ 256 ^ 4 := Nat.pow_le_pow_right (by decide) (by omega)
  omega
theorem decode_is (b : List Int) (hb : U8 b) : isa_Decode b = some (dec b) := by
  rw [isa_Decode.eq]; unfold isa_Decode_b dec
  by_cases c : 2 ≤ b.length
  rotate_left
  · rw [show decide ((b.length : Int) < 2) = true from decide_eq_true (by omega), cond_true, if_neg (fun h => c h.1)]
  have h0 : 0 < b.length := by omega
  have hx := hb _ (List.getElem_mem h0)
  have er : b.headD 0 = b[0] := by cases b with | nil => cases h0 | cons a l => rfl
  rw [show decide ((b.length : Int) < 2) = false from decide_eq_false (by omega), cond_false, show Int.toNat 0 = 0 from rfl, List.getElem?_eq_getElem h0, Option.bind_some, er]
  have hs := szOf_two b[0]
  have hsz : isa_size b[0] = some (szOf b[0]) := size_is _ hx
  generalize szOf b[0] = s at *
  rw [hsz, Option.bind_some]
  by_cases d : s ≤ b.length
  rotate_left
  · rw [show decide ((b.length : Int) < s) = true from decide_eq_true (by omega), cond_true, if_neg (fun h => d h.2)]
  rw [show decide ((b.length : Int) < s) = false from decide_eq_false (by omega), cond_false, Option.bind_some, hsz, Option.bind_some, show decide (0 ≤ (0 : Int) ∧ 0 ≤ s ∧ s ≤ (b.length : Nat)) = true from decide_eq_true (by omega), cond_true, Int.sub_zero, List.drop_zero, if_pos ⟨c, d⟩]
  have hw := wd_32 hb hs d
  have e := dl1 s z0I (b.take s.toNat) (take_u8 hb _) (by rw [List.length_take]; omega) (b.take s.toNat).length 0 0 (by omega) (by decide)
  rw [List.drop_zero] at e
  have e' : isa_Decode_L1 ⟨s, 0, b.take s.toNat, ((b.take s.toNat).length : Int), 0, z0I⟩ = _ := e
  rw [e', Option.bind_some, tab_eq, Option.bind_some, tab_len]
  have e2 := dl2 s _ hw 66 0 (by omega)
  have e2' : isa_Decode_L2 ⟨s, ((wd 0 (b.take s.toNat) : Nat) : Int), ((66 : Nat) : Int), 0, z0I⟩ = _ := e2
  rw [e2', Option.bind_some]
  unfold decW
  cases dgo (wd 0 (b.take s.toNat)) s 66 0 <;> rfl
end Go.Ab
set_option maxRecDepth 100000
namespace Go.Ab
theorem u8_num (x : Int) (h : byt x) : ((UInt8.ofNat x.toNat).toNat : Int) = x := by
  have h0 := h.1; have h1 := h.2; rw [UInt8.toNat_ofNat', Nat.mod_eq_of_lt (by omega)]; omega
theorem str_inj : ∀ {a b : List Int}, U8 a → U8 b → (a.map fun n => UInt8.ofNat n.toNat) = (b.map fun n => UInt8.ofNat n.toNat) → a = b
  | [], [], _, _, _ => rfl
  | [], _ :: _, _, _, h => by simp at h
  | _ :: _, [], _, _, h => by simp at h
  | x :: a, y :: b, ha, hb, h => by
    simp only [List.map_cons, List.cons.injEq] at h
    have e : x = y := by rw [← u8_num x (ha x (List.mem_cons_self ..)), ← u8_num y (hb y (List.mem_cons_self ..)), h.1]
    rw [e, str_inj (fun z hz => ha z (List.mem_cons_of_mem _ hz)) (fun z hz => hb z (List.mem_cons_of_mem _ hz)) h.2]
theorem listB_iff {a b : List Int} (ha : U8 a) (hb : U8 b) : eqS (⟨(listB a).toArray⟩ : ByteArray) (⟨(listB b).toArray⟩ : ByteArray) = decide (a = b) := by
  by_cases h : a = b
  · rw [decide_eq_true h, h]; exact eqS_iff.2 rfl
  · rw [decide_eq_false h, Bool.eq_false_iff]
    intro e
    have e := eqS_iff.1 e
    have e := congrArg (fun x : ByteArray => x.data.toList) e
    exact h (str_inj ha hb e)
theorem byts_len (i n : Nat) : ((byts (i : Int) n).length : Int) = sz i := by
  unfold byts sz
  by_cases c : i < 43
  · rw [if_pos (by omega), if_pos c]; rfl
  · rw [if_neg (by omega), if_neg c]; rfl
theorem byts_u8 (op : Int) (n : Nat) : U8 (byts op n) := by
  unfold byts
  intro x hx
  split at hx
  · simp only [List.mem_cons, List.not_mem_nil, or_false] at hx
    rcases hx with rfl | rfl <;> omega
  · simp only [List.mem_cons, List.not_mem_nil, or_false] at hx
    rcases hx with rfl | rfl | rfl | rfl <;> omega
/-- The word of an instruction's bytes is its bits. -/
theorem wd_byts {i : Nat} {l : List Int} {n : Nat} (h : enc (i : Int) l = some n) : wd 0 (byts (i : Int) n) = n := by
  unfold byts
  have h32 := enc_lt h
  by_cases c : i < 43
  · have := enc_lt16 h c
    rw [if_pos (by omega)]
    simp only [wd]; omega
  · rw [if_neg (by omega)]
    simp only [wd]; omega
theorem byts_wd {i : Nat} (b : List Int) (hb : U8 b) (hl : (b.length : Int) = sz i) : byts (i : Int) (wd 0 b) = b := by
  unfold byts sz at *
  by_cases c : i < 43
  · rw [if_pos c] at hl
    rw [if_pos (by omega)]
    match b, hl, hb with
    | [x, y], _, hb =>
      have hx := hb x (by simp)
      have hy := hb y (by simp)
      simp only [wd, List.cons.injEq, and_true]; omega
  · rw [if_neg c] at hl
    rw [if_neg (by omega)]
    match b, hl, hb with
    | [x, y, z, u], _, hb =>
      have hx := hb x (by simp)
      have hy := hb y (by simp)
      have hz := hb z (by simp)
      have hu := hb u (by simp)
      simp only [wd, List.cons.injEq, and_true]; omega
theorem byts_inj {i : Nat} {l : List Int} {p n : Nat} (h : enc (i : Int) l = some p) (hh : byts (i : Int) p = byts (i : Int) n) (hn : wd 0 (byts (i : Int) n) = n) : p = n := by
  rw [← wd_byts h, hh, hn]
theorem ref_full : (D0.all fun r => !eqS r.Name s_) = true := by kernel_rfl
theorem ref_row {i : Nat} (h : i < 66) : ∃ q : T_r2_row, r2_Name i = some q.Name ∧ eqS q.Name s_ = false ∧ r2_Size i = some (sz i) ∧ r2_Kinds i = some q.Kinds ∧ r2_Words q.Kinds = some ((ks i).map Kn.str) := by
  obtain ⟨nm, c, k, z, q, e1, e2, e3, e4, e5, e6, e7, e8, e9, _⟩ := rows h
  obtain ⟨t1, t2, t3⟩ := tab_is h
  have hf := find_at e5
  rw [t1] at e3; cases e3
  rw [t3] at e4; cases e4
  refine ⟨q, ?_, ?_, ?_, ?_, e6⟩
  · rw [r2_Name.eq]; unfold r2_Name_b; rw [hf]; rfl
  · have := List.all_eq_true.1 ref_full q (List.mem_of_getElem? e5)
    simpa using this
  · rw [r2_Size.eq]; unfold r2_Size_b; rw [hf, Option.bind_some]
    have : w64 (Int.tdiv ((q.Bits.size : Nat) : Int) 2) = sz i := by
      rw [e8, Int.mul_comm, Int.mul_tdiv_cancel _ (by decide)]
      rcases e9 with e | e <;> rw [e] <;> rfl
    exact congrArg some this
  · rw [r2_Kinds.eq]; unfold r2_Kinds_b; rw [hf]; rfl
theorem ref_out {k : Int} (h : k < 0 ∨ 66 ≤ k) : r2_Name k = some s_ := by
  rw [r2_Name.eq]; unfold r2_Name_b; rw [find_out h]; rfl
theorem rl1 (s : Int) (h0 : T_api_Inst) (b : List Int) (hb : U8 b) (hs : s ≤ 4) (hl : s ≤ b.length) : ∀ (d i acc : Nat), (i : Int) + d = s → acc < 256 ^ i →
    r2_Decode_L1 ⟨b, s, (acc : Int), (i : Int), h0⟩ = some ⟨b, s, ((wd acc ((b.take s.toNat).drop i) : Nat) : Int), h0⟩
  | 0, i, acc, hd, ha => by
    rw [r2_Decode_L1.eq]; unfold r2_Decode_L1_b; simp only
    rw [show decide ((i : Int) < s) = false from decide_eq_false (by omega), List.drop_eq_nil_of_le (by rw [List.length_take]; omega)]; rfl
  | d + 1, i, acc, hd, ha => by
    have hi : i < b.length := by omega
    have hi2 : i < (b.take s.toNat).length := by rw [List.length_take]; omega
    have hx := hb _ (List.getElem_mem hi)
    have hp : (256 : Nat) ^ i ≤ 256 ^ 3 := Nat.pow_le_pow_right (by decide) (by omega)
    have hx0 := hx.1
    have hx1 := hx.2
    have ho : orI .i64 (shlI .i64 (acc : Int) 8) (w64 b[i]) = ((acc * 256 + (b[i]).toNat : Nat) : Int) := by
      rw [w64_in (n := b[i]) (by omega) (by omega), or_byte (x := (acc : Int)) ⟨by omega, by omega⟩ hx]; omega
    have ih := rl1 s h0 b hb hs hl d (i + 1) (acc * 256 + (b[i]).toNat) (by omega) (by rw [Nat.pow_succ]; omega)
    rw [r2_Decode_L1.eq]; unfold r2_Decode_L1_b; simp only
    rw [show decide ((i : Int) < s) = true from decide_eq_true (by omega), cond_true, show decide (0 ≤ (i : Int)) = true from decide_eq_true (by omega), cond_true, Int.toNat_natCast, List.getElem?_eq_getElem hi, Option.bind_some, ho, w64_in (n := (i : Int) + 1) (by omega) (by omega), Option.bind_some, Sum.elim_inl, List.drop_eq_getElem_cons hi2, List.getElem_take]
    exact ih
theorem rl3 (b : List Int) (s op : Int) (h0 : T_api_Inst) (n : Nat) (hn : n < 4294967296) (K : List Kn) (hK : K.length ≤ 8) : ∀ (d j : Nat), j + d = K.length →
    r2_Decode_L3 ⟨b, s, (n : Int), op, K.map Kn.str, (j : Int), h0, ⟨op, (K.map (fun K => K.val (n : Int))).take j⟩⟩ = some ⟨b, s, (n : Int), op, h0, ⟨op, K.map (fun K => K.val (n : Int))⟩⟩
  | 0, j, hd => by
    rw [r2_Decode_L3.eq]; unfold r2_Decode_L3_b; simp only
    rw [List.length_map, show decide ((j : Int) < (K.length : Nat)) = false from decide_eq_false (by omega), List.take_of_length_le (by rw [List.length_map]; omega)]; rfl
  | d + 1, j, hd => by
    have hj : j < K.length := by omega
    have hj2 : j < (K.map Kn.str).length := by rw [List.length_map]; exact hj
    have hj3 : j < (K.map (fun K => K.val (n : Int))).length := by rw [List.length_map]; exact hj
    have ih := rl3 b s op h0 n hn K hK d (j + 1) (by omega)
    have e : (K.map (fun K => K.val (n : Int))).take j ++ [(K[j]).val (n : Int)] = (K.map (fun K => K.val (n : Int))).take (j + 1) := by
      rw [List.take_succ_eq_append_getElem hj3, List.getElem_map]
    rw [r2_Decode_L3.eq]; unfold r2_Decode_L3_b; simp only
    rw [show decide ((j : Int) < ((K.map Kn.str).length : Nat)) = true from decide_eq_true (by rw [List.length_map]; omega), cond_true, show decide (0 ≤ (j : Int)) = true from decide_eq_true (by omega), cond_true, Int.toNat_natCast, List.getElem?_eq_getElem hj2, Option.bind_some, List.getElem_map, take_is _ _ ⟨by omega, by omega⟩, Option.bind_some,
      show decide ((((K.map (fun K => K.val (n : Int))).take j).length + [(K[j]).val (n : Int)].length) * 8 ≤ most) = true from decide_eq_true (by rw [List.length_take, List.length_singleton, List.length_map]; unfold most; omega), cond_true, e, w64_in (n := (j : Int) + 1) (by omega) (by omega), Option.bind_some, Sum.elim_inl]
    exact ih
theorem rl2 (b : List Int) (s : Int) (hs : s = 2 ∨ s = 4) (hl : s ≤ b.length) (hb : U8 b) : ∀ (d i : Nat), i + d = 66 →
    r2_Decode_L2 ⟨b, s, ((wd 0 (b.take s.toNat) : Nat) : Int), (i : Int), z0I⟩ = some (match dgo (wd 0 (b.take s.toNat)) s d i with | some i => .inl ⟨s, true, ⟨(i : Int), vals i (wd 0 (b.take s.toNat))⟩⟩ | none => .inr z0I)
  | 0, i, hd => by
    rw [r2_Decode_L2.eq]; unfold r2_Decode_L2_b; simp only
    rw [ref_out (by omega), Option.bind_some, show eqS s_ s_ = true from eqS_iff.2 rfl]; rfl
  | d + 1, i, hd => by
    have hi : i < 66 := by omega
    have hn := wd_32 hb hs hl
    have hbt := take_u8 hb s.toNat
    have hlt : ((b.take s.toNat).length : Int) = s := by rw [List.length_take]; omega
    have hwd : ∀ (h : sz i = s), byts (i : Int) (wd 0 (b.take s.toNat)) = b.take s.toNat := fun h => byts_wd _ hbt (by rw [hlt, h])
    have hwn : ∀ (h : sz i = s), wd 0 (byts (i : Int) (wd 0 (b.take s.toNat))) = wd 0 (b.take s.toNat) := fun h => by rw [hwd h]
    obtain ⟨q, q1, q2, q3, q4, q5⟩ := ref_row hi
    have hk := ks_len i
    have ih := rl2 b s hs hl hb d (i + 1) (by omega)
    generalize wd 0 (b.take s.toNat) = n at *
    have next : w64 ((i : Int) + 1) = ((i + 1 : Nat) : Int) := by rw [w64_in (by omega) (by omega)]; rfl
    rw [dgo_succ, r2_Decode_L2.eq]; unfold r2_Decode_L2_b; simp only
    rw [q1, Option.bind_some, q2, show (!false) = true from rfl, cond_true, q3, Option.bind_some, next]
    by_cases c : sz i = s
    rotate_left
    · rw [show (sz i != s) = true by rw [bne_iff_ne]; exact c, cond_true, Option.bind_some, Sum.elim_inl, if_neg (fun h => c h.1)]; exact ih
    rw [show (sz i != s) = false by rw [c]; exact bne_self_eq_false s, cond_false, q4, Option.bind_some, q5, Option.bind_some]
    have e := rl3 b s (i : Int) z0I n hn (ks i) (by omega) (ks i).length 0 (by omega)
    have e' : r2_Decode_L3 ⟨b, s, (n : Int), (i : Int), (ks i).map Kn.str, 0, z0I, ⟨(i : Int), []⟩⟩ = some ⟨b, s, (n : Int), (i : Int), z0I, ⟨(i : Int), vals i n⟩⟩ := e
    rw [e', Option.bind_some]
    have hv := vals_in i n hn
    have hlen : (vals i n).length ≤ 8 := by rw [vals_len]; omega
    have eg := (rencode_is ⟨(i : Int), vals i n⟩ hv (by show (vals i n).length ≤ _; omega)).1
    simp only
    rw [eg, Option.bind_some]
    unfold encB
    simp only
    cases h : enc (i : Int) (vals i n) with
    | none =>
      simp only [cond_false, Option.bind_some, Sum.elim_inl]
      rw [next, if_neg (by simp)]; exact ih
    | some p =>
      simp only [cond_true, Option.bind_some]
      rw [show decide (0 ≤ (0 : Int) ∧ 0 ≤ s ∧ s ≤ (b.length : Nat)) = true from decide_eq_true (by omega), cond_true, Int.sub_zero, show Int.toNat 0 = 0 from rfl, List.drop_zero, listB_iff (byts_u8 _ _) hbt, next]
      by_cases c2 : p = n
      · subst c2
        rw [decide_eq_true (hwd c), cond_true, if_pos ⟨c, rfl⟩]; rfl
      · have hne : ¬ byts (i : Int) p = b.take s.toNat := fun hh => c2 (by
          rw [← hwd c] at hh
          exact byts_inj h hh (hwn c))
        rw [decide_eq_false hne, cond_false, if_neg (fun h => c2 (Option.some.inj h.2)), Option.bind_some, Sum.elim_inl]; exact ih
theorem rkey (b : List Int) (hb : U8 b) (s : Int) (hs : s = 2 ∨ s = 4) : (bif decide ((b.length : Int) < s) then some (z0I, 0, false) else (r2_Decode_L1 ⟨b, s, 0, 0, z0I⟩).bind fun o3 => (r2_Decode_L2 ⟨o3.x0, o3.x5, o3.x6, 0, o3.h0⟩).bind fun x => Sum.elim (fun o4 => some (o4.h0, o4.x3, o4.x4)) (fun o5 => some (z0I, 0, false)) x) = some (if s ≤ b.length then decW (wd 0 (b.take s.toNat)) s else (z0I, 0, false)) := by
  by_cases d : s ≤ b.length
  rotate_left
  · rw [show decide ((b.length : Int) < s) = true from decide_eq_true (by omega), cond_true, if_neg d]
  rw [show decide ((b.length : Int) < s) = false from decide_eq_false (by omega), cond_false, if_pos d]
  have e := rl1 s z0I b hb (by omega) d s.toNat 0 0 (by omega) (by decide)
  rw [List.drop_zero] at e
  have e' : r2_Decode_L1 ⟨b, s, 0, 0, z0I⟩ = _ := e
  rw [e', Option.bind_some]
  have e2 := rl2 b s hs d hb 66 0 (by omega)
  have e2' : r2_Decode_L2 ⟨b, s, ((wd 0 (b.take s.toNat) : Nat) : Int), 0, z0I⟩ = _ := e2
  simp only
  rw [e2', Option.bind_some]
  unfold decW
  cases dgo (wd 0 (b.take s.toNat)) s 66 0 <;> rfl
theorem and_all : ∀ b : Fin 256, (andI .u8 (shrI .u8 ((b.val : Nat) : Int) 4) 1 == 1) = decide (((b.val : Nat) : Int) / 16 % 2 = 1) ∧ shrI .u8 ((b.val : Nat) : Int) 4 = ((b.val : Nat) : Int) / 16 := by decide +kernel
theorem rdecode_is (b : List Int) (hb : U8 b) : r2_Decode b = some (dec b) := by
  rw [r2_Decode.eq]; unfold r2_Decode_b dec
  by_cases c : 0 < b.length
  rotate_left
  · rw [show decide ((b.length : Int) > 0) = false from decide_eq_false (by omega), cond_false, show decide ((b.length : Int) < 2) = true from decide_eq_true (by omega), cond_true, if_neg (by omega)]
  have hx := hb _ (List.getElem_mem c)
  have er : b.headD 0 = b[0] := by cases b with | nil => cases c | cons a l => rfl
  have ha := and_all ⟨b[0].toNat, by have := hx.1; have := hx.2; omega⟩
  have e : ((b[0].toNat : Nat) : Int) = b[0] := Int.toNat_of_nonneg hx.1
  simp only [e] at ha
  rw [show decide ((b.length : Int) > 0) = true from decide_eq_true (by omega), cond_true, show Int.toNat 0 = 0 from rfl, List.getElem?_eq_getElem c, Option.bind_some, Option.bind_some, er, ha.1, ha.2]
  have k4 := rkey b hb 4 (.inr rfl)
  have k2 := rkey b hb 2 (.inl rfl)
  by_cases c1 : b[0] / 16 < 8
  · rw [decide_eq_true c1, cond_true]
    by_cases c2 : b[0] / 16 % 2 = 1
    · rw [decide_eq_true c2, cond_true, show szOf b[0] = 4 from if_pos ⟨c1, c2⟩]
      refine k4.trans ?_
      by_cases d : (4 : Int) ≤ b.length
      · rw [if_pos d, if_pos ⟨by omega, d⟩]
      · rw [if_neg d, if_neg (fun h => d h.2)]
    · rw [decide_eq_false c2, cond_false, show szOf b[0] = 2 from if_neg (fun h => c2 h.2)]
      refine k2.trans ?_
      by_cases d : (2 : Int) ≤ b.length
      · rw [if_pos d, if_pos ⟨by omega, d⟩]
      · rw [if_neg d, if_neg (fun h => d h.2)]
  · rw [decide_eq_false c1, cond_false, show szOf b[0] = 2 from if_neg (fun h => c1 h.1)]
    refine k2.trans ?_
    by_cases d : (2 : Int) ≤ b.length
    · rw [if_pos d, if_pos ⟨by omega, d⟩]
    · rw [if_neg d, if_neg (fun h => d h.2)]
end Go.Ab
set_option maxRecDepth 100000
namespace Go.Ab
def pk9 (K : Kn) (L : List Int) (g : Int → Int) : Bool := (List.range 9).all fun t => match L[t]? with
  | some e => K.ok (g e) && decide (inI (g e))
  | none => false
theorem operand_list {K : Kn} {n : Int} (L : List Int) (g : Int → Int) (he : w2_Operand_b w2_within K.str n = (w2_within n 9).bind fun r1 => bif decide (0 ≤ r1 ∧ r1 < ((L.length : Nat) : Int)) then (L[(Int.toNat r1)]?).bind fun e => some (g e) else none) (hl : L.length = 9) (h : pk9 K L g = true) :
    ∃ v, w2_Operand K.str n = some v ∧ K.ok v = true ∧ inI v := by
  rw [w2_Operand.eq, he, w2_within_eq n 9 (by decide) (by decide), Option.bind_some]
  have h0 : 0 ≤ n % 9 ∧ n % 9 < 9 := by omega
  have h := List.all_eq_true.1 h (n % 9).toNat (List.mem_range.2 (by omega))
  rw [hl, show decide (0 ≤ n % 9 ∧ n % 9 < ((9 : Nat) : Int)) = true from decide_eq_true h0, cond_true]
  split at h
  · rename_i e h1
    rw [Bool.and_eq_true, decide_eq_true_eq] at h
    rw [h1]; exact ⟨_, rfl, h.1, h.2⟩
  · cases h
theorem operand_num {K : Kn} {n : Int} (m : Int) (g : Int → Int) (hm : 0 < m ∧ m ≤ 4611686018427387904) (he : w2_Operand_b w2_within K.str n = (w2_within n 9).bind fun _ => (w2_within n m).bind fun r => some (g r)) (h : ∀ r, 0 ≤ r → r < m → K.ok (g r) = true ∧ inI (g r)) :
    ∃ v, w2_Operand K.str n = some v ∧ K.ok v = true ∧ inI v := by
  rw [w2_Operand.eq, he, w2_within_eq n 9 (by decide) (by decide), Option.bind_some, w2_within_eq n m hm.1 hm.2, Option.bind_some]
  have h := h (n % m) (Int.emod_nonneg _ (by omega)) (Int.emod_lt_of_pos _ hm.1)
  exact ⟨_, rfl, h.1, h.2⟩
theorem in_of {v : Int} (h0 : -9223372036854775808 ≤ v) (h1 : v ≤ 9223372036854775807) : inI v := ⟨h0, h1⟩
theorem operand_is (K : Kn) (n : Int) : ∃ v, w2_Operand K.str n = some v ∧ K.ok v = true ∧ inI v := by
  cases K
  case X => exact operand_list [0, 1, 7, 24, 31, 5, 28, 3, 30] (fun e => e) (by kernel_rfl) rfl (by kernel_rfl)
  case Y => exact operand_list [0, 1, 7, 24, 31, 5, 28, 3, 30] (fun e => e) (by kernel_rfl) rfl (by kernel_rfl)
  case D => exact operand_list [0, 31, 1, 15, 16, 7, 30, 12, 3] (fun e => e) (by kernel_rfl) rfl (by kernel_rfl)
  case A => exact operand_list [0, 31, 1, 15, 16, 7, 30, 12, 3] (fun e => e) (by kernel_rfl) rfl (by kernel_rfl)
  case B => exact operand_list [0, 31, 1, 15, 16, 7, 30, 12, 3] (fun e => e) (by kernel_rfl) rfl (by kernel_rfl)
  case U5 => exact operand_list [0, 31, 1, 15, 16, 7, 30, 12, 3] (fun e => e) (by kernel_rfl) rfl (by kernel_rfl)
  case U7 => exact operand_list [0, 127, 64, 1, 63, 100, 7, 15, 16] (fun e => e) (by kernel_rfl) rfl (by kernel_rfl)
  case O5 => exact operand_list [1, 32, 2, 16, 31, 17, 8, 5, 30] (fun e => e) (by kernel_rfl) rfl (by kernel_rfl)
  case M1 => exact operand_list [0, 15, 1, 7, 8, 4, 12, 3, 14] (fun e => e) (by kernel_rfl) rfl (by kernel_rfl)
  case I4 => exact operand_list [0, 15, 1, 7, 8, 4, 12, 3, 14] (fun e => e) (by kernel_rfl) rfl (by kernel_rfl)
  case M2 => exact operand_list [0, 15, 1, 7, 8, 4, 12, 3, 14] (fun e => w64 (2 * e)) (by kernel_rfl) rfl (by kernel_rfl)
  case M4 => exact operand_list [0, 15, 1, 7, 8, 4, 12, 3, 14] (fun e => w64 (4 * e)) (by kernel_rfl) rfl (by kernel_rfl)
  case S16 => exact operand_list [0, 32767, -32768, -1, 1, 255, -256, 4660, -4660] (fun e => e) (by kernel_rfl) rfl (by kernel_rfl)
  case C8 => exact operand_list [0, 255, 256, 65280, -1, -2, 16711680, -256, 2130706432] (fun e => e) (by kernel_rfl) rfl (by kernel_rfl)
  case O1 => exact operand_num 2 (fun r => r) (by decide) (by kernel_rfl) fun r h0 h1 => ⟨by simp only [Kn.ok, decide_eq_true_eq]; omega, in_of (by omega) (by omega)⟩
  case I2 => exact operand_num 4 (fun r => r) (by decide) (by kernel_rfl) fun r h0 h1 => ⟨by simp only [Kn.ok, decide_eq_true_eq]; omega, in_of (by omega) (by omega)⟩
  case O2 => exact operand_num 4 (fun r => r) (by decide) (by kernel_rfl) fun r h0 h1 => ⟨by simp only [Kn.ok, decide_eq_true_eq]; omega, in_of (by omega) (by omega)⟩
  case T8 =>
    exact operand_num 256 (fun r => w64 (2 * (w64 (r - 128)))) (by decide) (by kernel_rfl) fun r h0 h1 => by
      rw [w64_in (n := r - 128) (by omega) (by omega), w64_in (n := 2 * (r - 128)) (by omega) (by omega)]
      exact ⟨by simp only [Kn.ok, decide_eq_true_eq]; omega, in_of (by omega) (by omega)⟩
  case L20 =>
    exact operand_num 1048576 (fun r => w64 (r - 524288)) (by decide) (by kernel_rfl) fun r h0 h1 => by
      rw [w64_in (n := r - 524288) (by omega) (by omega)]
      exact ⟨by simp only [Kn.ok, decide_eq_true_eq]; omega, in_of (by omega) (by omega)⟩
  case T15 =>
    exact operand_num 32768 (fun r => w64 (2 * (w64 (r - 16384)))) (by decide) (by kernel_rfl) fun r h0 h1 => by
      rw [w64_in (n := r - 16384) (by omega) (by omega), w64_in (n := 2 * (r - 16384)) (by omega) (by omega)]
      exact ⟨by simp only [Kn.ok, decide_eq_true_eq]; omega, in_of (by omega) (by omega)⟩
  case T24 =>
    exact operand_num 16777216 (fun r => w64 (2 * (w64 (r - 8388608)))) (by decide) (by kernel_rfl) fun r h0 h1 => by
      rw [w64_in (n := r - 8388608) (by omega) (by omega), w64_in (n := 2 * (r - 8388608)) (by omega) (by omega)]
      exact ⟨by simp only [Kn.ok, decide_eq_true_eq]; omega, in_of (by omega) (by omega)⟩
theorem make_l (Ks : List Kn) (ns : List Int) (op : Int) (h0 : T_api_Inst) (hK : Ks.length ≤ 8) : ∀ (d j : Nat) (F : List Int), j + d = Ks.length → F.length = j → (∀ v ∈ F, inI v) →
    ∃ l, w2_Make_L1 ⟨ns, Ks.map Kn.str, (j : Int), h0, ⟨op, F⟩⟩ = some ⟨h0, ⟨op, F ++ l⟩⟩ ∧ okA (Ks.drop j) l = true ∧ ∀ v ∈ F ++ l, inI v
  | 0, j, F, hd, hF, hw => by
    refine ⟨[], ?_, ?_, by simpa using hw⟩
    · rw [w2_Make_L1.eq]; unfold w2_Make_L1_b; simp only
      rw [List.length_map, show decide ((j : Int) < (Ks.length : Nat)) = false from decide_eq_false (by omega), List.append_nil]; rfl
    · rw [List.drop_eq_nil_of_le (by omega)]; rfl
  | d + 1, j, F, hd, hF, hw => by
    have hj : j < Ks.length := by omega
    have hj2 : j < (Ks.map Kn.str).length := by rw [List.length_map]; exact hj
    have next : w64 ((j : Int) + 1) = ((j + 1 : Nat) : Int) := by rw [w64_in (by omega) (by omega)]; rfl
    have key : ∀ n : Int, ∃ l, ((w2_Operand (Ks[j]).str n).bind fun r3 => (bif decide ((F.length + [r3].length) * 8 ≤ most) then some (.inl (⟨ns, Ks.map Kn.str, ((j + 1 : Nat) : Int), h0, ⟨op, F ++ [r3]⟩⟩ : w2_Make_L1_A)) else none : Option (w2_Make_L1_A ⊕ w2_Make_L1_O0))).bind (Sum.elim w2_Make_L1 some) = some ⟨h0, ⟨op, F ++ l⟩⟩ ∧ okA (Ks.drop j) l = true ∧ ∀ v ∈ F ++ l, inI v := by
      intro n
      obtain ⟨v, e, hv, hb⟩ := operand_is (Ks[j]) n
      obtain ⟨l, e2, ho, hw2⟩ := make_l Ks ns op h0 hK d (j + 1) (F ++ [v]) (by omega) (by simp [hF]) (by
        intro x hx
        rcases List.mem_append.1 hx with h | h
        · exact hw x h
        · rw [List.mem_singleton.1 h]; exact hb)
      rw [e, Option.bind_some, show decide ((F.length + [v].length) * 8 ≤ most) = true from decide_eq_true (by rw [List.length_singleton]; unfold most; omega), cond_true, Option.bind_some, Sum.elim_inl]
      refine ⟨v :: l, ?_, ?_, ?_⟩
      · rw [e2, List.append_assoc]; rfl
      · rw [List.drop_eq_getElem_cons hj]; simp only [okA, hv, ho, Bool.and_self]
      · rw [List.append_assoc] at hw2; exact hw2
    rw [w2_Make_L1.eq]; unfold w2_Make_L1_b; simp only
    rw [show decide ((j : Int) < ((Ks.map Kn.str).length : Nat)) = true from decide_eq_true (by omega), cond_true, show decide (0 ≤ (j : Int)) = true from decide_eq_true (by omega), cond_true, cond_true, Int.toNat_natCast, List.getElem?_eq_getElem hj2, List.getElem_map, next]
    by_cases c : (j : Int) < (ns.length : Nat)
    · rw [decide_eq_true c, cond_true, List.getElem?_eq_getElem (show j < ns.length by omega), Option.bind_some, Option.bind_some]
      exact key _
    · rw [decide_eq_false c, cond_false, Option.bind_some]
      exact key _
theorem fin_op (op : Int) : ∃ i : Nat, op % 66 = (i : Int) ∧ i < 66 := ⟨(op % 66).toNat, by omega, by omega⟩
theorem make_is (op : Int) (ns : List Int) : ∃ (i : Nat) (l : List Int), i < 66 ∧ w2_Make op ns = some ((i : Int), l) ∧ okA (ks i) l = true ∧ ∀ v ∈ l, inI v := by
  obtain ⟨i, hi, h66⟩ := fin_op op
  obtain ⟨q, q1, q2, q3, q4, q5⟩ := ref_row h66
  have hk := ks_len i
  obtain ⟨l, e, ho, hw⟩ := make_l (ks i) ns (i : Int) ⟨0, []⟩ (by omega) (ks i).length 0 [] (by omega) rfl (fun v hv => nomatch hv)
  refine ⟨i, l, h66, ?_, ho, by simpa using hw⟩
  rw [w2_Make.eq]; unfold w2_Make_b
  rw [w2_within_eq op 66 (by decide) (by decide), Option.bind_some, hi, q4, Option.bind_some, q5, Option.bind_some]
  have e' : w2_Make_L1 ⟨ns, (ks i).map Kn.str, 0, ⟨0, []⟩, ⟨(i : Int), []⟩⟩ = some ⟨⟨0, []⟩, ⟨(i : Int), [] ++ l⟩⟩ := e
  rw [e', Option.bind_some, List.nil_append]
theorem enc_of {i : Nat} {l : List Int} (h : i < 66) (ho : okA (ks i) l = true) : enc (i : Int) l = some (orA (bs i) (ks i) l) := by
  unfold enc; rw [Int.toNat_natCast, if_pos ⟨by omega, ho⟩]
/-- Are two instructions the same? -/
theorem same_l (a b : T_api_Inst) (hl : a.F.length = b.F.length) (hs : a.F.length ≤ 4611686018427387904) : ∀ (d i : Nat), i + d = a.F.length → r2_Same_L1 ⟨(i : Int), a, b⟩ = some (if a.F.drop i = b.F.drop i then .inr () else .inl false)
  | 0, i, hd => by
    rw [r2_Same_L1.eq]; unfold r2_Same_L1_b; simp only
    rw [show decide ((i : Int) < (a.F.length : Nat)) = false from decide_eq_false (by omega), List.drop_eq_nil_of_le (by omega), List.drop_eq_nil_of_le (by omega), if_pos rfl]; rfl
  | d + 1, i, hd => by
    have hi : i < a.F.length := by omega
    have hi2 : i < b.F.length := by omega
    have ih := same_l a b hl hs d (i + 1) (by omega)
    rw [r2_Same_L1.eq]; unfold r2_Same_L1_b; simp only
    rw [show decide ((i : Int) < (a.F.length : Nat)) = true from decide_eq_true (by omega), cond_true, show decide (0 ≤ (i : Int)) = true from decide_eq_true (by omega), cond_true, Int.toNat_natCast, List.getElem?_eq_getElem hi, Option.bind_some, List.getElem?_eq_getElem hi2, Option.bind_some, List.drop_eq_getElem_cons hi, List.drop_eq_getElem_cons hi2, w64_in (n := (i : Int) + 1) (by omega) (by omega)]
    by_cases c : a.F[i] = b.F[i]
    · rw [show (a.F[i] != b.F[i]) = false by rw [c]; exact bne_self_eq_false _, cond_false, Option.bind_some, Sum.elim_inl, c]
      refine Eq.trans ih ?_
      congr 1
      by_cases e : a.F.drop (i + 1) = b.F.drop (i + 1)
      · rw [if_pos e, if_pos (by rw [e])]
      · rw [if_neg e, if_neg (fun h => e (List.cons.inj h).2)]
    · rw [show (a.F[i] != b.F[i]) = true from bne_iff_ne.2 c, cond_true, if_neg (fun h => c (List.cons.inj h).1)]; rfl
theorem same_is (a b : T_api_Inst) (hs : a.F.length ≤ 4611686018427387904) : r2_Same a b = some (decide (a.Op = b.Op ∧ a.F = b.F)) := by
  rw [r2_Same.eq]; unfold r2_Same_b
  by_cases c : a.Op = b.Op
  rotate_left
  · rw [show (a.Op != b.Op) = true from bne_iff_ne.2 c, cond_true, decide_eq_false (fun h => c h.1)]
  rw [show (a.Op != b.Op) = false by rw [c]; exact bne_self_eq_false _, cond_false]
  by_cases d : a.F.length = b.F.length
  rotate_left
  · rw [show (((a.F.length : Nat) : Int) != ((b.F.length : Nat) : Int)) = true by rw [bne_iff_ne]; omega, cond_true, decide_eq_false (fun h => d (by rw [h.2]))]
  rw [show (((a.F.length : Nat) : Int) != ((b.F.length : Nat) : Int)) = false by rw [d]; exact bne_self_eq_false _, cond_false]
  have e := same_l a b d hs a.F.length 0 (by omega)
  rw [List.drop_zero, List.drop_zero] at e
  have e' : r2_Same_L1 ⟨0, a, b⟩ = _ := e
  rw [e', Option.bind_some]
  by_cases f : a.F = b.F
  · rw [if_pos f, decide_eq_true ⟨c, f⟩]; rfl
  · rw [if_neg f, decide_eq_false (fun h => f h.2)]; rfl
end Go.Ab
set_option maxRecDepth 100000
namespace Go.Ab
theorem encB_of {i : Nat} {l : List Int} (h : i < 66) (ho : okA (ks i) l = true) : encB (i : Int) l = (byts (i : Int) (orA (bs i) (ks i) l), true) := by
  unfold encB; rw [enc_of h ho]
theorem dgo_spec (n : Nat) (s : Int) : ∀ (d i k : Nat), i + d = 66 → dgo n s d i = some k → k < 66 ∧ sz k = s ∧ enc (k : Int) (vals k n) = some n
  | 0, i, k, hd, h => nomatch h
  | d + 1, i, k, hd, h => by
    rw [dgo_succ] at h
    split at h
    · rename_i c; cases h; exact ⟨by omega, c.1, c.2⟩
    · exact dgo_spec n s d (i + 1) k (by omega) h
theorem set_u8 {b : List Int} (hb : U8 b) (j : Nat) {v : Int} (hv : byt v) : U8 (b.set j v) := fun x hx => by
  rcases List.mem_or_eq_of_mem_set hx with h | h
  · exact hb x h
  · rw [h]; exact hv
theorem drop_u8 {b : List Int} (hb : U8 b) (n : Nat) : U8 (b.drop n) := fun x hx => hb x (List.mem_of_mem_drop hx)
theorem xor_u8 (a b : Int) : byt (xorI .u8 a b) := by
  unfold xorI
  rw [u8_w]
  exact ⟨Int.emod_nonneg _ (by decide), Int.emod_lt_of_pos _ (by decide)⟩
/-- one of the four: all is alike -/
theorem decodes_L (l : List (List Int)) (hl : l.length ≤ 8) (hu : ∀ b ∈ l, U8 b) : ∀ (d i : Nat), i + d = l.length → w2_IsaDecodes_L1 ⟨l, (i : Int)⟩ = some (.inr ())
  | 0, i, hd => by
    rw [w2_IsaDecodes_L1.eq]; unfold w2_IsaDecodes_L1_b; simp only
    rw [show decide ((i : Int) < (l.length : Nat)) = false from decide_eq_false (by omega)]; rfl
  | d + 1, i, hd => by
    have hi : i < l.length := by omega
    have hb := hu _ (List.getElem_mem hi)
    have ih := decodes_L l hl hu d (i + 1) (by omega)
    have next : w64 ((i : Int) + 1) = ((i + 1 : Nat) : Int) := by rw [w64_in (by omega) (by omega)]; rfl
    have hg : l[i]? = some l[i] := List.getElem?_eq_getElem hi
    generalize l[i] = b at hb hg
    have e1 := decode_is b hb
    have e2 := rdecode_is b hb
    -- what it is
    have hd2 : (dec b = (z0I, 0, false)) ∨ ∃ (k n : Nat) (s : Int), dec b = (⟨(k : Int), vals k n⟩, s, true) ∧ n < 4294967296 ∧ k < 66 ∧ enc (k : Int) (vals k n) = some n ∧ 0 ≤ s ∧ s ≤ b.length ∧ byts (k : Int) n = b.take s.toNat := by
      unfold dec
      split
      · rename_i c
        have hs := szOf_two (b.headD 0)
        generalize szOf (b.headD 0) = s at *
        have hn := wd_32 hb hs c.2
        have hbt := take_u8 hb s.toNat
        have hlt : ((b.take s.toNat).length : Int) = s := by rw [List.length_take]; omega
        have hw : ∀ i : Nat, sz i = s → byts (i : Int) (wd 0 (b.take s.toNat)) = b.take s.toNat := fun i h => byts_wd _ hbt (by rw [hlt, h])
        generalize wd 0 (b.take s.toNat) = n at *
        unfold decW
        cases h : dgo n s 66 0 with
        | none => exact .inl rfl
        | some k =>
          obtain ⟨k1, k2, k3⟩ := dgo_spec n s 66 0 k (by omega) h
          exact .inr ⟨k, n, s, rfl, hn, k1, k3, by omega, c.2, hw k k2⟩
      · exact .inl rfl
    have hS : ∀ x : T_api_Inst, x.F.length ≤ 8 → r2_Same x x = some true := fun x hx => by
      rw [same_is x x (by omega)]; exact congrArg some (decide_eq_true ⟨rfl, rfl⟩)
    rw [w2_IsaDecodes_L1.eq]; unfold w2_IsaDecodes_L1_b; simp only
    rw [show decide ((i : Int) < (l.length : Nat)) = true from decide_eq_true (by omega), cond_true, show decide (0 ≤ (i : Int)) = true from decide_eq_true (by omega), cond_true, Int.toNat_natCast, hg, Option.bind_some, e1, Option.bind_some, Option.bind_some, e2, Option.bind_some, beq_self_eq_true, show (!true) = false from rfl, cond_false, bne_self_eq_false, cond_false]
    rcases hd2 with h | ⟨k, n, s, h, h1, h2, h3, h4, h5, h6⟩
    · rw [h]
      simp only
      have eE := encode_is z0I (fun v hv => nomatch hv) (by decide)
      rw [hS z0I (by decide), Option.bind_some, show (!true) = false from rfl, cond_false, eE, Option.bind_some, cond_false, Option.bind_some, Sum.elim_inl, next]; exact ih
    · rw [h]
      simp only
      have hv := vals_in k n h1
      have hlen : (vals k n).length ≤ 8 := by rw [vals_len]; have := ks_len k; omega
      have eE := encode_is ⟨(k : Int), vals k n⟩ hv (by show (vals k n).length ≤ _; omega)
      have eB : encB (k : Int) (vals k n) = (byts (k : Int) n, true) := by unfold encB; rw [h3]
      simp only at eE
      rw [eB] at eE
      rw [hS _ hlen, Option.bind_some, show (!true) = false from rfl, cond_false, eE, Option.bind_some, cond_true, show (!true) = false from rfl, cond_false, Option.bind_some, Option.bind_some, show decide (0 ≤ (0 : Int) ∧ 0 ≤ s ∧ s ≤ (b.length : Nat)) = true from decide_eq_true (by omega), cond_true, Int.sub_zero, show Int.toNat 0 = 0 from rfl, List.drop_zero, h6, Option.bind_some, show ∀ x : ByteArray, (!(eqS x x)) = false from fun x => by rw [show eqS x x = true from eqS_iff.2 rfl]; rfl, cond_false, Option.bind_some, Sum.elim_inl, next]; exact ih
theorem w2_IsaDecodes_true (a0 : List Int) (a1 : Int) (a2 : List Int) (a3 : Int) (w0 : a0.length ≤ maxLen ∧ ∀ y ∈ a0, IntKind.u8.min ≤ y ∧ y ≤ IntKind.u8.max) (w1 : IntKind.i64.min ≤ a1 ∧ a1 ≤ IntKind.i64.max) (w2 : a2.length ≤ maxLen ∧ ∀ y ∈ a2, IntKind.i64.min ≤ y ∧ y ≤ IntKind.i64.max) (w3 : IntKind.i64.min ≤ a3 ∧ a3 ≤ IntKind.i64.max) : w2_IsaDecodes a0 a1 a2 a3 = some true := by
  have hu0 : U8 a0 := fun x hx => by
    have h := w0.2 x hx
    have h0 : 0 ≤ x := h.1
    have h1 : x ≤ 255 := h.2
    exact ⟨h0, by omega⟩
  rw [w2_IsaDecodes.eq]; unfold w2_IsaDecodes_b
  rw [w2_known_true, Option.bind_some, show (!true) = false from rfl, cond_false]
  by_cases c : (a0.length : Int) > 100
  · rw [decide_eq_true c, cond_true]
  rw [decide_eq_false c, cond_false]
  obtain ⟨i, l, hi, hm, ho, hw⟩ := make_is a1 a2
  have hl := okA_len ho
  have hk := ks_len i
  have eR := (rencode_is ⟨(i : Int), l⟩ hw (by show l.length ≤ _; omega)).1
  simp only at eR
  rw [encB_of hi ho] at eR
  have hlen := byts_len i (orA (bs i) (ks i) l)
  have hbu := byts_u8 (i : Int) (orA (bs i) (ks i) l)
  rw [hm, Option.bind_some]
  simp only
  rw [eR, Option.bind_some]
  simp only
  generalize byts (i : Int) (orA (bs i) (ks i) l) = b at *
  have hs : sz i = 2 ∨ sz i = 4 := by unfold sz; split <;> simp
  have hb2 : (b.length : Int) = 2 ∨ (b.length : Int) = 4 := by omega
  rw [List.nil_append, show decide ((([] : List Int).length + b.length) * 1 ≤ most) = true from decide_eq_true (by rw [List.length_nil]; unfold most; omega), cond_true, w64_in (n := 8 * (b.length : Int)) (by omega) (by omega), w2_within_eq a3 (8 * (b.length : Int)) (by omega) (by omega), Option.bind_some]
  have hk0 := Int.emod_nonneg a3 (by omega : 8 * (b.length : Int) ≠ 0)
  have hk1 := Int.emod_lt_of_pos a3 (by omega : 0 < 8 * (b.length : Int))
  generalize a3 % (8 * (b.length : Int)) = k at *
  have et : w64 (Int.tdiv k 8) = k / 8 := by rw [Int.tdiv_eq_ediv_of_nonneg hk0]; exact w64_in (by omega) (by omega)
  have em : 0 ≤ IntKind.u64.wrap (Int.tmod k 8) := by
    rw [Int.tmod_eq_emod_of_nonneg hk0]; unfold IntKind.wrap; simp [IntKind.bits, IntKind.signed]; omega
  have hj : (k / 8).toNat < b.length := by omega
  rw [et, show decide (0 ≤ k / 8 ∧ k / 8 < ((b.length : Nat) : Int)) = true from decide_eq_true (by omega), cond_true, List.getElem?_eq_getElem hj, Option.bind_some, decide_eq_true em, cond_true, Option.bind_some, w64_in (n := (b.length : Int) - 1) (by omega) (by omega),
    show decide (0 ≤ (0 : Int) ∧ 0 ≤ (b.length : Int) - 1 ∧ (b.length : Int) - 1 ≤ (b.length : Nat)) = true from decide_eq_true (by omega), cond_true,
    show decide (0 ≤ (1 : Int) ∧ 1 ≤ ((b.length : Nat) : Int) ∧ ((b.length : Nat) : Int) ≤ (b.length : Nat)) = true from decide_eq_true (by omega), cond_true]
  have e := decodes_L [a0, b.set (k / 8).toNat (xorI .u8 (b[(k / 8).toNat]) (shlI .u8 1 (IntKind.u64.wrap (Int.tmod k 8)))), (b.drop (Int.toNat 0)).take (Int.toNat ((b.length : Int) - 1 - 0)), (b.drop (Int.toNat 1)).take (Int.toNat ((b.length : Int) - 1))] (by simp) (by
    intro x hx
    simp only [List.mem_cons, List.not_mem_nil, or_false] at hx
    rcases hx with rfl | rfl | rfl | rfl
    · exact hu0
    · exact set_u8 hbu _ (xor_u8 _ _)
    · exact take_u8 (drop_u8 hbu _) _
    · exact take_u8 (drop_u8 hbu _) _) 4 0 (by simp)
  have e' : w2_IsaDecodes_L1 ⟨[a0, b.set (k / 8).toNat (xorI .u8 (b[(k / 8).toNat]) (shlI .u8 1 (IntKind.u64.wrap (Int.tmod k 8)))), (b.drop (Int.toNat 0)).take (Int.toNat ((b.length : Int) - 1 - 0)), (b.drop (Int.toNat 1)).take (Int.toNat ((b.length : Int) - 1))], 0⟩ = some (.inr ()) := e
  rw [e']; rfl
end Go.Ab
namespace Go.Proofs.YticofbaajdgabaaDoor
open Go Go.Ab Go.ChangeShapes Go.WideShapes Go.ChangeAt Go.RowKit
open Go.ChangeMaps (open_string shut_string)
theorem repL_one {c : Ctx} {w : World} {a : AV} {v : Value} (h : RepL c w [a] [v]) : Rep c w a v := by cases h; assumption
theorem laidOut : laidOutB Tryd.prog = true := by kernel_rfl
theorem own : ownKnob Tryd.prog.godebug = none := by kernel_rfl
theorem door_met (os : Os) (args : Array Value) : laidMetH Tryd.prog [("unicode.White_Space", Rows.laid_unicode_White_Space), ("strings.asciiSpace", Rows.laid_strings_asciiSpace)] ((World.doorLaid Tryd.prog 33 os).forCall (fun _ _ => 0) ⟨#[], args, []⟩).memory :=
  laidMetH_of_parts3 (fuel := 8) (laidMet_of_run' 8 (by kernel_rfl) (by kernel_rfl)) (by kernel_rfl) (by kernel_rfl)
namespace isaDecodes
set_option maxRecDepth 100000 in
theorem lifted (os : Os) (started : os.Started) (H : Type) (enc : TypeId × Value → H) :
    ReturnsInHanded {} Tryd.checked os 3 .any (fun w args => (Rows.isaDecodesSpec.pre enc Tryd.prog Tryd.f3 [] false w args ∧ laidMetH Tryd.prog [("unicode.White_Space", Rows.laid_unicode_White_Space), ("strings.asciiSpace", Rows.laid_strings_asciiSpace)] w) ∧ sizedMet enc Tryd.prog Tryd.f3 (OpenSpec.ofChange Rows.isaDecodesSpec) false w args) (Rows.isaDecodesSpec.post enc Tryd.prog Tryd.f3 false true false false) := by
  refine returnsInHanded_of_change_and (C := Tryd.checked) (X := fun w _ => laidMetH Tryd.prog [("unicode.White_Space", Rows.laid_unicode_White_Space), ("strings.asciiSpace", Rows.laid_strings_asciiSpace)] w) (fun _ _ _ hh h => h.of_heap hh) own started (by kernel_rfl) Tryd.func3
    (ChangeSpec.witness_shaped (enc := enc) (C := Tryd.checked) (os := os) (X := fun w _ => laidMetH Tryd.prog [("unicode.White_Space", Rows.laid_unicode_White_Space), ("strings.asciiSpace", Rows.laid_strings_asciiSpace)] w) false (World.doorLaid Tryd.prog 33 os) #[.slice none 0 0, .int .i64 0, .slice none 0 0, .int .i64 0] 8 rfl (World.shaped_of_RefB (by kernel_rfl) (by kernel_rfl)) (by kernel_rfl) (by kernel_rfl) (by kernel_rfl) (door_met os _)) ?_
  intro W base args ds gs before hval0 hW hcnd hsz0 hL _
  have hT := told_of hL
  have hW' := hW
  obtain ⟨p, q, hA0, hV, rfl, hfz, hnd⟩ := hW
  have hA : DataW.TrodAll enc Tryd.prog W 0 (fun _ => true) true Tryd.f3.params.toList args.toList ds p := hA0
  rw [Tryd.params3] at hA
  obtain ⟨v0, vs0, d0, ds0, p0, q0, hargs, rfl, rfl, h0, r0⟩ := trodAll_cons hA
  obtain ⟨v1, vs1, d1, ds1, p1, q1, rfl, rfl, rfl, h1, r1⟩ := trodAll_cons r0
  obtain ⟨v2, vs2, d2, ds2, p2, q2, rfl, rfl, rfl, h2, r2⟩ := trodAll_cons r1
  obtain ⟨v3, vs3, d3, ds3, p3, q3, rfl, rfl, rfl, h3, r3⟩ := trodAll_cons r2
  obtain ⟨rfl, rfl, rfl⟩ := trodAll_nil r3
  obtain rfl : args = #[v0, v1, v2, v3] := by cases args; simp_all
  obtain ⟨rfl, rfl⟩ := trodVars_none hV
  obtain ⟨u0, len0, cap0, rfl⟩ := okWide_slice Tryd.underlying22 (hval0 0 22 v0 rfl rfl)
  obtain ⟨a0, w0, y0⟩ := rd_fuel (enc := enc) (P := Tryd.prog) (W := W) (fun fuel => (show Rd enc Tryd.prog W fuel 22 (fun l : List Int => [.sl (l.map C_u8)]) (fun l => l.length ≤ maxLen ∧ ∀ y ∈ l, IntKind.u8.min ≤ y ∧ y ≤ IntKind.u8.max) from by
      cases fuel with
      | zero => exact rd_zero _ _
      | succ m => exact rd_slice (s := 1) Tryd.underlying22 (by kernel_rfl) (by decide) (fun _ => rfl) (rd_int Tryd.underlying5 m))) h0
  replace y0 := repL_one (show RepL (oldCtx W) W [_] [_] from y0)
  obtain ⟨u1, rfl⟩ := okWide_int Tryd.underlying3 (hval0 1 3 v1 rfl rfl)
  obtain ⟨a1, w1, y1⟩ := rd_fuel (enc := enc) (P := Tryd.prog) (W := W) (fun fuel => (rd_int Tryd.underlying3 fuel)) h1
  replace y1 := repL_one (show RepL (oldCtx W) W [_] [_] from y1)
  obtain ⟨u2, len2, cap2, rfl⟩ := okWide_slice Tryd.underlying23 (hval0 2 23 v2 rfl rfl)
  obtain ⟨a2, w2, y2⟩ := rd_fuel (enc := enc) (P := Tryd.prog) (W := W) (fun fuel => (show Rd enc Tryd.prog W fuel 23 (fun l : List Int => [.sl (l.map C_i64)]) (fun l => l.length ≤ maxLen ∧ ∀ y ∈ l, IntKind.i64.min ≤ y ∧ y ≤ IntKind.i64.max) from by
      cases fuel with
      | zero => exact rd_zero _ _
      | succ m => exact rd_slice (s := 1) Tryd.underlying23 (by kernel_rfl) (by decide) (fun _ => rfl) (rd_int Tryd.underlying3 m))) h2
  replace y2 := repL_one (show RepL (oldCtx W) W [_] [_] from y2)
  obtain ⟨u3, rfl⟩ := okWide_int Tryd.underlying3 (hval0 3 3 v3 rfl rfl)
  obtain ⟨a3, w3, y3⟩ := rd_fuel (enc := enc) (P := Tryd.prog) (W := W) (fun fuel => (rd_int Tryd.underlying3 fuel)) h3
  replace y3 := repL_one (show RepL (oldCtx W) W [_] [_] from y3)
  obtain ⟨k, hk⟩ := w2_IsaDecodes.run a0 a1 a2 a3 (w2_IsaDecodes_true a0 a1 a2 a3 w0 w1 w2 w3)
  rw [R_u8_map] at y0
  rw [R_i64_map] at y2
  have lt0 : ∀ x ∈ p0, x.block < W.heap.size := by obtain ⟨m, hm⟩ := h0; exact DataW.trod_lt m _ _ _ hm
  have lt1 : ∀ x ∈ p1, x.block < W.heap.size := by obtain ⟨m, hm⟩ := h1; exact DataW.trod_lt m _ _ _ hm
  have lt2 : ∀ x ∈ p2, x.block < W.heap.size := by obtain ⟨m, hm⟩ := h2; exact DataW.trod_lt m _ _ _ hm
  have lt3 : ∀ x ∈ p3, x.block < W.heap.size := by obtain ⟨m, hm⟩ := h3; exact DataW.trod_lt m _ _ _ hm
  refine (calls_of_eval (T := told) (by kernel_rfl) ext_ok hk hT (.cons _ _ _ _ y0 (.cons _ _ _ _ y1 (.cons _ _ _ _ y2 (.cons _ _ _ _ y3 .nil))))).mono fun e W' ⟨he, bel⟩ => ?_
  subst he
  exact ⟨_, rfl, _, _, _, [], _, [], hW', trodAll_mk1 (shut_bool Tryd.underlying4 _), (trodAll_cons_mk (Below.trod laidOut (by kernel_rfl) (of_decide_eq_true (by kernel_rfl)) h0 bel lt0) (trodAll_cons_mk (Below.trod laidOut (by kernel_rfl) (of_decide_eq_true (by kernel_rfl)) h1 bel lt1) (trodAll_cons_mk (Below.trod laidOut (by kernel_rfl) (of_decide_eq_true (by kernel_rfl)) h2 bel lt2) (trodAll_cons_mk (Below.trod laidOut (by kernel_rfl) (of_decide_eq_true (by kernel_rfl)) h3 bel lt3) trodAll_mk0)))), rfl, bel.frame _, fun h => by cases h⟩
theorem over : Rows.isaDecodesRow.holds Tryd.pinned (OpenSpec.ofChange Rows.isaDecodesSpec) :=
  OpenClaim.holds_of_wide 3 Tryd.f3 rfl rfl rfl rfl rfl rfl rfl ⟨rfl, rfl, rfl, rfl, rfl⟩ rfl rfl rfl rfl rfl (by kernel_rfl) Tryd.func3 (by kernel_rfl)
    (of_decide_eq_true (by kernel_rfl)) (by unfold Func.isWrapper; first | (rw [if_pos (by decide +kernel)]; kernel_rfl) | (rw [if_neg (by decide +kernel)]; exact ⟨rfl, rfl⟩))
    (fun os started H enc _ => lifted os started H enc)
theorem proved : Rows.IsaDecodesSaid := over
theorem card : Rows.IsaDecodesCardSaid :=
  Claim7.holds_tied_plain_at .later [] [.listed, .data] true (true, "9e0941a3bed8b5483a3837efef2f762ae578b94fd63546c8948659d19f0475ca") false
    proved (fun _ h => by cases h) (by kernel_rfl) (fun _ h => by cases h) isaDecodes_row_tie rfl ⟨rfl, rfl⟩ (by kernel_rfl) rfl
    (fun f fn hf hfn => by
      obtain rfl : f = 3 := Option.some.inj ((show Tryd.prog.funcNamed Tryd.f3.name = some 3 by kernel_rfl).symm.trans hf) |>.symm
      obtain rfl : fn = Tryd.f3 := (Option.some.inj (Tryd.func3.symm.trans hfn)).symm
      exact ⟨by kernel_rfl, fun j t ht => by
        rw [Tryd.params3] at ht
        have hm : t ∈ [22, 3, 23, 3] := by simpa using Array.mem_of_getElem? ht
        have hall : ([22, 3, 23, 3].all fun u => !Tryd.prog.wantsStandIn u) = true := by kernel_rfl
        exact (show Tryd.prog.wantsStandIn t = false by simpa using List.all_eq_true.1 hall t hm)⟩)
    (by kernel_rfl)
end isaDecodes
/-- The row, under a short name, for the claim. -/
theorem isaDecodes_holds : Rows.IsaDecodesCardSaid := isaDecodes.card
end Go.Proofs.YticofbaajdgabaaDoor
