/- IsaRight: part 4 of the proof that, whatever the input, the law returns true and the input reads as it did; its conditions are those of the given row. -/
import Derived.Test.YticofbaajdgabaaDoorZIsaRight3
import Derived.Test.YticofbaajdgabaaDoorFl
import Derived.Tactics
import Derived.WalkLawsBesides
import Derived.RowKit3
import Derived.Laws.BitsLemmas
import Derived.Test.YticofbaajdgabaaDoorSh
import Derived.Test.YticofbaajdgabaaDoorRows
import Derived.LaidMore
import Derived.MakeChecks
import Derived.WalkKit
import Derived.Deep.LoopGhost
import Derived.Lib.Walk
import Derived.Lib.SliceRun
set_option linter.unusedVariables false
set_option linter.unusedSimpArgs false
namespace Go.Ab
open Go.Proofs
def w2_IsaDecodes_L1_t (P : Program) (call : CallF) (c_isa_Decode : (List Int) → Option (T_api_Inst × Int × Bool)) (c_r2_Decode : (List Int) → Option (T_api_Inst × Int × Bool)) (c_r2_Same : T_api_Inst → T_api_Inst → Option Bool) (c_isa_Encode : T_api_Inst → Option ((List Int) × Bool)) (a : w2_IsaDecodes_L1_A) : Tr (w2_IsaDecodes_L1_A ⊕ (Bool ⊕ Unit)) (Ex × St) := (.num ((R_Lu8 a.x13).length) (a.x13.length) (.as (decide (a.x14 < (((a.x13.length) : Nat) : Int))) (.as (decide (0 ≤ a.x14)) (.row ((R_Lu8 a.x13)[(Int.toNat a.x14)]?) (a.x13[(Int.toNat a.x14)]?) C_Lu8 fun (e1 : (List Int)) => (.call (call 18 [.sl (R_u8 e1)] []) (c_isa_Decode e1) isa_Decode_e fun (r2 : (T_api_Inst × Int × Bool)) => (.yes (decide (0 ≤ a.x14)) (.row ((R_Lu8 a.x13)[(Int.toNat a.x14)]?) (a.x13[(Int.toNat a.x14)]?) C_Lu8 fun (e3 : (List Int)) => (.call (call 19 [.sl (R_u8 e3)] []) (c_r2_Decode e3) r2_Decode_e fun (r4 : (T_api_Inst × Int × Bool)) => (.as (!(r2.2.2 == r4.2.2)) (yesN 3 (!(r2.2.2 == r4.2.2)) (yesN 6 true (rx w2_IsaDecodes_L1_e (.inl false)))) (noN 3 (!(r2.2.2 == r4.2.2)) (.as (r2.2.1 != r4.2.1) (yesN 4 (r2.2.1 != r4.2.1) (.yes true (rx w2_IsaDecodes_L1_e (.inl false)))) (noN 2 (r2.2.1 != r4.2.1) (.call (call 20 [.agg (C_api_Inst r2.1), .agg (C_api_Inst r4.1)] []) (c_r2_Same r2.1 r4.1) r2_Same_e fun (r5 : Bool) => (noN 2 (r2.2.1 != r4.2.1) (.as (!r5) (rx w2_IsaDecodes_L1_e (.inl false)) (.call (call 21 [.agg (C_api_Inst r2.1)] []) (c_isa_Encode r2.1) isa_Encode_e fun (r6 : ((List Int) × Bool)) => (.as r2.2.2 (yesN 2 r2.2.2 (.as (!r6.2) (yesN 9 (!r6.2) (.yes r2.2.2 (.yes (!r6.2) (.yes r2.2.2 (.yes true (rx w2_IsaDecodes_L1_e (.inl false))))))) (.no (!r6.2) (.byt (bytesOfRows (R_u8 r6.1)) (some (listB r6.1)) fun (e7 : List UInt8) => (noN 3 (!r6.2) (.yes (decide (0 ≤ a.x14)) (.row ((R_Lu8 a.x13)[(Int.toNat a.x14)]?) (a.x13[(Int.toNat a.x14)]?) C_Lu8 fun (e8 : (List Int)) => (noN 3 (!r6.2) (.yes (decide ((R_u8 e8).all (fun r => r.length == 1) = true)) (.ask (decide (0 ≤ (0 : Int) ∧ (0 : Int) ≤ r2.2.1 ∧ r2.2.1 ≤ (((R_u8 e8).length : Nat) : Int))) (decide (0 ≤ (0 : Int) ∧ (0 : Int) ≤ r2.2.1 ∧ r2.2.1 ≤ ((e8.length : Nat) : Int))) (.rows (((R_u8 e8).drop (Int.toNat (0 : Int))).take (Int.toNat (r2.2.1 - (0 : Int)))) (R_u8 ((e8.drop (Int.toNat (0 : Int))).take (Int.toNat (r2.2.1 - (0 : Int))))) (.no (!r6.2) (.byt (bytesOfRows (R_u8 ((e8.drop (Int.toNat (0 : Int))).take (Int.toNat (r2.2.1 - (0 : Int)))))) (some (listB ((e8.drop (Int.toNat (0 : Int))).take (Int.toNat (r2.2.1 - (0 : Int)))))) fun (e9 : List UInt8) => (.no (!r6.2) (.yes r2.2.2 (.no (!r6.2) (.yes r2.2.2 (.as (!(eqS (⟨e7.toArray⟩ : ByteArray) (⟨e9.toArray⟩ : ByteArray))) (rx w2_IsaDecodes_L1_e (.inl false)) (lf w2_IsaDecodes_L1_s (w2_IsaDecodes_L1_A.mk a.x13 (w64 (a.x14 + (1 : Int))))))))))))) .fail)))))))))) (noN 4 r2.2.2 (.no false (lf w2_IsaDecodes_L1_s (w2_IsaDecodes_L1_A.mk a.x13 (w64 (a.x14 + (1 : Int))))))))))))))))))))) .fail) (rx w2_IsaDecodes_L1_e (.inr ()))))
theorem w2_IsaDecodes_L1_d (P : Program) (call : CallF) (c_isa_Decode : (List Int) → Option (T_api_Inst × Int × Bool)) (c_r2_Decode : (List Int) → Option (T_api_Inst × Int × Bool)) (c_r2_Same : T_api_Inst → T_api_Inst → Option Bool) (c_isa_Encode : T_api_Inst → Option ((List Int) × Bool)) (a : w2_IsaDecodes_L1_A) : (w2_IsaDecodes_L1_t P call c_isa_Decode c_r2_Decode c_r2_Same c_isa_Encode a).den = w2_IsaDecodes_L1_b c_isa_Decode c_r2_Decode c_r2_Same c_isa_Encode a := rfl
theorem w2_IsaDecodes_L1_n (call : CallF) (c_isa_Decode : (List Int) → Option (T_api_Inst × Int × Bool)) (c_r2_Decode : (List Int) → Option (T_api_Inst × Int × Bool)) (c_r2_Same : T_api_Inst → T_api_Inst → Option Bool) (c_isa_Encode : T_api_Inst → Option ((List Int) × Bool)) (a : w2_IsaDecodes_L1_A) : (w2_IsaDecodes_L1_t Tryd.prog call c_isa_Decode c_r2_Decode c_r2_Same c_isa_Encode a).norm (roundT Tryd.prog G.kd call 0 (G.an 3) (loopAt Tryd.prog 3 11) (w2_IsaDecodes_L1_s a)) = w2_IsaDecodes_L1_t Tryd.prog call c_isa_Decode c_r2_Decode c_r2_Same c_isa_Encode a := by kernel_rfl
theorem w2_IsaDecodes_L1_k (P : Program) (call : CallF) (lp : Loops) (c_isa_Decode : (List Int) → Option (T_api_Inst × Int × Bool)) (c_r2_Decode : (List Int) → Option (T_api_Inst × Int × Bool)) (c_r2_Same : T_api_Inst → T_api_Inst → Option Bool) (c_isa_Encode : T_api_Inst → Option ((List Int) × Bool)) (hc_isa_Decode : ∀ (a0 : (List Int)) (r : (T_api_Inst × Int × Bool)), c_isa_Decode a0 = some r → (call 18 [.sl (R_u8 a0)] []) = some (isa_Decode_e r)) (hc_r2_Decode : ∀ (a0 : (List Int)) (r : (T_api_Inst × Int × Bool)), c_r2_Decode a0 = some r → (call 19 [.sl (R_u8 a0)] []) = some (r2_Decode_e r)) (hc_r2_Same : ∀ (a0 : T_api_Inst) (a1 : T_api_Inst) (r : Bool), c_r2_Same a0 a1 = some r → (call 20 [.agg (C_api_Inst a0), .agg (C_api_Inst a1)] []) = some (r2_Same_e r)) (hc_isa_Encode : ∀ (a0 : T_api_Inst) (r : ((List Int) × Bool)), c_isa_Encode a0 = some r → (call 21 [.agg (C_api_Inst a0)] []) = some (isa_Encode_e r)) (a : w2_IsaDecodes_L1_A) : (w2_IsaDecodes_L1_t P call c_isa_Decode c_r2_Decode c_r2_Same c_isa_Encode a).ok lp (Sum.elim (fun a => (.norm, w2_IsaDecodes_L1_s a)) w2_IsaDecodes_L1_e) := ⟨(R_Lu8_len _), ⟨rfl, fun h0 => ⟨rfl, fun h1 => fun e1 he1 => ⟨R_Lu8_get he1, fun r2 hr2 => ⟨hc_isa_Decode _ _ hr2, ⟨h1, fun e3 he3 => ⟨R_Lu8_get he3, fun r4 hr4 => ⟨hc_r2_Decode _ _ hr4, ⟨rfl, fun h2 => yesN_ok 3 (h2) (yesN_ok 6 (rfl) (rfl)), fun h2 => noN_ok 3 (h2) (⟨rfl, fun h3 => yesN_ok 4 (h3) (⟨rfl, rfl⟩), fun h3 => noN_ok 2 (h3) (fun r5 hr5 => ⟨hc_r2_Same _ _ _ hr5, noN_ok 2 (h3) (⟨rfl, fun h4 => rfl, fun h4 => fun r6 hr6 => ⟨hc_isa_Encode _ _ hr6, ⟨rfl, fun h5 => yesN_ok 2 (h5) (⟨rfl, fun h6 => yesN_ok 9 (h6) (⟨h5, ⟨h6, ⟨h5, ⟨rfl, rfl⟩⟩⟩⟩), fun h6 => ⟨h6, fun e7 he7 => ⟨(R_u8_list _).trans he7, noN_ok 3 (h6) (⟨h1, fun e8 he8 => ⟨R_Lu8_get he8, noN_ok 3 (h6) (⟨(decide_eq_true (R_u8_all _)), ⟨(by rw [R_u8_len]), fun h7 => ⟨(by rw [R_u8_slice]), ⟨h6, fun e9 he9 => ⟨(R_u8_list _).trans he9, ⟨h6, ⟨h5, ⟨h6, ⟨h5, ⟨rfl, fun h8 => rfl, fun h8 => rfl⟩⟩⟩⟩⟩⟩⟩⟩, fun h7 => trivial⟩⟩)⟩⟩)⟩⟩⟩), fun h5 => noN_ok 4 (h5) (⟨rfl, rfl⟩)⟩⟩⟩)⟩)⟩)⟩⟩⟩⟩⟩⟩, fun h1 => trivial⟩, fun h0 => rfl⟩⟩
theorem w2_IsaDecodes_L1_m {c_isa_Decode d_isa_Decode : (List Int) → Option (T_api_Inst × Int × Bool)} (h_isa_Decode : ∀ (a0 : (List Int)), Le (c_isa_Decode a0) (d_isa_Decode a0)) {c_r2_Decode d_r2_Decode : (List Int) → Option (T_api_Inst × Int × Bool)} (h_r2_Decode : ∀ (a0 : (List Int)), Le (c_r2_Decode a0) (d_r2_Decode a0)) {c_r2_Same d_r2_Same : T_api_Inst → T_api_Inst → Option Bool} (h_r2_Same : ∀ (a0 : T_api_Inst) (a1 : T_api_Inst), Le (c_r2_Same a0 a1) (d_r2_Same a0 a1)) {c_isa_Encode d_isa_Encode : T_api_Inst → Option ((List Int) × Bool)} (h_isa_Encode : ∀ (a0 : T_api_Inst), Le (c_isa_Encode a0) (d_isa_Encode a0)) (a : w2_IsaDecodes_L1_A) : Le (w2_IsaDecodes_L1_b c_isa_Decode c_r2_Decode c_r2_Same c_isa_Encode a) (w2_IsaDecodes_L1_b d_isa_Decode d_r2_Decode d_r2_Same d_isa_Encode a) := by
  unfold w2_IsaDecodes_L1_b
  exact .cond (.cond (.bind (.refl (a.x13[(Int.toNat a.x14)]?)) fun e1 => .bind (h_isa_Decode _) fun r2 => .bind (.refl (a.x13[(Int.toNat a.x14)]?)) fun e3 => .bind (h_r2_Decode _) fun r4 => .cond (.refl _) (.cond (.refl _) (.bind (h_r2_Same _ _) fun r5 => .cond (.refl _) (.bind (h_isa_Encode _) fun r6 => .refl _)))) (.refl _)) (.refl _)
theorem w2_IsaDecodes_L1_c {c_isa_Decode : Nat → (List Int) → Option (T_api_Inst × Int × Bool)} {d_isa_Decode : (List Int) → Option (T_api_Inst × Int × Bool)} (h_isa_Decode : ∀ (a0 : (List Int)), Cv (fun k => c_isa_Decode k a0) (d_isa_Decode a0)) {c_r2_Decode : Nat → (List Int) → Option (T_api_Inst × Int × Bool)} {d_r2_Decode : (List Int) → Option (T_api_Inst × Int × Bool)} (h_r2_Decode : ∀ (a0 : (List Int)), Cv (fun k => c_r2_Decode k a0) (d_r2_Decode a0)) {c_r2_Same : Nat → T_api_Inst → T_api_Inst → Option Bool} {d_r2_Same : T_api_Inst → T_api_Inst → Option Bool} (h_r2_Same : ∀ (a0 : T_api_Inst) (a1 : T_api_Inst), Cv (fun k => c_r2_Same k a0 a1) (d_r2_Same a0 a1)) {c_isa_Encode : Nat → T_api_Inst → Option ((List Int) × Bool)} {d_isa_Encode : T_api_Inst → Option ((List Int) × Bool)} (h_isa_Encode : ∀ (a0 : T_api_Inst), Cv (fun k => c_isa_Encode k a0) (d_isa_Encode a0)) (a : w2_IsaDecodes_L1_A) : Cv (fun k => w2_IsaDecodes_L1_b (c_isa_Decode k) (c_r2_Decode k) (c_r2_Same k) (c_isa_Encode k) a) (w2_IsaDecodes_L1_b d_isa_Decode d_r2_Decode d_r2_Same d_isa_Encode a) := by
  unfold w2_IsaDecodes_L1_b
  exact .cond (.cond (.bind (.const (a.x13[(Int.toNat a.x14)]?)) fun e1 => .bind (h_isa_Decode _) fun r2 => .bind (.const (a.x13[(Int.toNat a.x14)]?)) fun e3 => .bind (h_r2_Decode _) fun r4 => .cond (by exact .const _) (.cond (by exact .const _) (.bind (h_r2_Same _ _) fun r5 => .cond (by exact .const _) (.bind (h_isa_Encode _) fun r6 => by exact .const _)))) (by exact .const _)) (by exact .const _)
def w2_IsaDecodes_L1.s (k : Nat) (c_isa_Decode : (List Int) → Option (T_api_Inst × Int × Bool)) (c_r2_Decode : (List Int) → Option (T_api_Inst × Int × Bool)) (c_r2_Same : T_api_Inst → T_api_Inst → Option Bool) (c_isa_Encode : T_api_Inst → Option ((List Int) × Bool)) : w2_IsaDecodes_L1_A → Option (Bool ⊕ Unit) := iter (w2_IsaDecodes_L1_b c_isa_Decode c_r2_Decode c_r2_Same c_isa_Encode) k
theorem w2_IsaDecodes_L1_ok (call : CallF) (k : Nat) (c_isa_Decode : (List Int) → Option (T_api_Inst × Int × Bool)) (c_r2_Decode : (List Int) → Option (T_api_Inst × Int × Bool)) (c_r2_Same : T_api_Inst → T_api_Inst → Option Bool) (c_isa_Encode : T_api_Inst → Option ((List Int) × Bool)) (hc_isa_Decode : ∀ (a0 : (List Int)) (r : (T_api_Inst × Int × Bool)), c_isa_Decode a0 = some r → (call 18 [.sl (R_u8 a0)] []) = some (isa_Decode_e r)) (hc_r2_Decode : ∀ (a0 : (List Int)) (r : (T_api_Inst × Int × Bool)), c_r2_Decode a0 = some r → (call 19 [.sl (R_u8 a0)] []) = some (r2_Decode_e r)) (hc_r2_Same : ∀ (a0 : T_api_Inst) (a1 : T_api_Inst) (r : Bool), c_r2_Same a0 a1 = some r → (call 20 [.agg (C_api_Inst a0), .agg (C_api_Inst a1)] []) = some (r2_Same_e r)) (hc_isa_Encode : ∀ (a0 : T_api_Inst) (r : ((List Int) × Bool)), c_isa_Encode a0 = some r → (call 21 [.agg (C_api_Inst a0)] []) = some (isa_Encode_e r)) (a : w2_IsaDecodes_L1_A) (r : (Bool ⊕ Unit)) (h : w2_IsaDecodes_L1.s k c_isa_Decode c_r2_Decode c_r2_Same c_isa_Encode a = some r) : loopsF Tryd.prog G.kd call 0 (G.an 3) k (loopAt Tryd.prog 3 11) (w2_IsaDecodes_L1_s a) = some (w2_IsaDecodes_L1_e r) :=
  loop_ok (fun a => w2_IsaDecodes_L1_t Tryd.prog call c_isa_Decode c_r2_Decode c_r2_Same c_isa_Encode a) (fun a => w2_IsaDecodes_L1_d _ call c_isa_Decode c_r2_Decode c_r2_Same c_isa_Encode a) (fun a => w2_IsaDecodes_L1_n call c_isa_Decode c_r2_Decode c_r2_Same c_isa_Encode a) (fun a => w2_IsaDecodes_L1_k _ call _ c_isa_Decode c_r2_Decode c_r2_Same c_isa_Encode hc_isa_Decode hc_r2_Decode hc_r2_Same hc_isa_Encode a) (fun r => by cases r <;> nofun) h
theorem w2_IsaDecodes_L1.m {j k : Nat} (hj : j ≤ k) (c_isa_Decode : (List Int) → Option (T_api_Inst × Int × Bool)) (c_r2_Decode : (List Int) → Option (T_api_Inst × Int × Bool)) (c_r2_Same : T_api_Inst → T_api_Inst → Option Bool) (c_isa_Encode : T_api_Inst → Option ((List Int) × Bool)) (d_isa_Decode : (List Int) → Option (T_api_Inst × Int × Bool)) (d_r2_Decode : (List Int) → Option (T_api_Inst × Int × Bool)) (d_r2_Same : T_api_Inst → T_api_Inst → Option Bool) (d_isa_Encode : T_api_Inst → Option ((List Int) × Bool)) (h_isa_Decode : ∀ (a0 : (List Int)), Le (c_isa_Decode a0) (d_isa_Decode a0)) (h_r2_Decode : ∀ (a0 : (List Int)), Le (c_r2_Decode a0) (d_r2_Decode a0)) (h_r2_Same : ∀ (a0 : T_api_Inst) (a1 : T_api_Inst), Le (c_r2_Same a0 a1) (d_r2_Same a0 a1)) (h_isa_Encode : ∀ (a0 : T_api_Inst), Le (c_isa_Encode a0) (d_isa_Encode a0)) (a : w2_IsaDecodes_L1_A) : Le (w2_IsaDecodes_L1.s j c_isa_Decode c_r2_Decode c_r2_Same c_isa_Encode a) (w2_IsaDecodes_L1.s k d_isa_Decode d_r2_Decode d_r2_Same d_isa_Encode a) := Le.iter (fun a => w2_IsaDecodes_L1_m h_isa_Decode h_r2_Decode h_r2_Same h_isa_Encode a) hj a
noncomputable def w2_IsaDecodes_L1.w (c_isa_Decode : (List Int) → Option (T_api_Inst × Int × Bool)) (c_r2_Decode : (List Int) → Option (T_api_Inst × Int × Bool)) (c_r2_Same : T_api_Inst → T_api_Inst → Option Bool) (c_isa_Encode : T_api_Inst → Option ((List Int) × Bool)) : w2_IsaDecodes_L1_A → Option (Bool ⊕ Unit) := loopW (w2_IsaDecodes_L1_b c_isa_Decode c_r2_Decode c_r2_Same c_isa_Encode)
theorem w2_IsaDecodes_L1.cv (c_isa_Decode : Nat → (List Int) → Option (T_api_Inst × Int × Bool)) (c_r2_Decode : Nat → (List Int) → Option (T_api_Inst × Int × Bool)) (c_r2_Same : Nat → T_api_Inst → T_api_Inst → Option Bool) (c_isa_Encode : Nat → T_api_Inst → Option ((List Int) × Bool)) (d_isa_Decode : (List Int) → Option (T_api_Inst × Int × Bool)) (d_r2_Decode : (List Int) → Option (T_api_Inst × Int × Bool)) (d_r2_Same : T_api_Inst → T_api_Inst → Option Bool) (d_isa_Encode : T_api_Inst → Option ((List Int) × Bool)) (h_isa_Decode : ∀ (a0 : (List Int)), Cv (fun k => c_isa_Decode k a0) (d_isa_Decode a0)) (h_r2_Decode : ∀ (a0 : (List Int)), Cv (fun k => c_r2_Decode k a0) (d_r2_Decode a0)) (h_r2_Same : ∀ (a0 : T_api_Inst) (a1 : T_api_Inst), Cv (fun k => c_r2_Same k a0 a1) (d_r2_Same a0 a1)) (h_isa_Encode : ∀ (a0 : T_api_Inst), Cv (fun k => c_isa_Encode k a0) (d_isa_Encode a0)) (a : w2_IsaDecodes_L1_A) : Cv (fun k => w2_IsaDecodes_L1.s k (c_isa_Decode k) (c_r2_Decode k) (c_r2_Same k) (c_isa_Encode k) a) (w2_IsaDecodes_L1.w d_isa_Decode d_r2_Decode d_r2_Same d_isa_Encode a) := Cv.iter (fun a => w2_IsaDecodes_L1_c h_isa_Decode h_r2_Decode h_r2_Same h_isa_Encode a) a
def w2_IsaDecodes_b (c_w2_known : Option Bool) (c_w2_Make : Int → (List Int) → Option (Int × (List Int))) (c_r2_Encode : T_api_Inst → Option ((List Int) × Bool)) (c_w2_within : Int → Int → Option Int) (l_w2_IsaDecodes_L1 : w2_IsaDecodes_L1_A → Option (Bool ⊕ Unit)) (a0 : (List Int)) (a1 : Int) (a2 : (List Int)) (a3 : Int) : Option Bool := ((c_w2_known).bind fun (r1 : Bool) => (bif (!r1) then (some false) else (bif (decide ((((a0.length) : Nat) : Int) > (100 : Int))) then (some true) else ((c_w2_Make a1 a2).bind fun (r2 : (Int × (List Int))) => ((c_r2_Encode (T_api_Inst.mk r2.1 r2.2)).bind fun (r3 : ((List Int) × Bool)) => (bif (decide ((([] : List Int).length + r3.1.length) * 1 ≤ most)) then ((c_w2_within a3 (w64 ((8 : Int) * ((((([] : List Int) ++ r3.1).length) : Nat) : Int)))).bind fun (r4 : Int) => (bif (decide (0 ≤ (w64 (Int.tdiv r4 (8 : Int))) ∧ (w64 (Int.tdiv r4 (8 : Int))) < (((([] : List Int) ++ r3.1).length : Nat) : Int))) then (((([] : List Int) ++ r3.1)[(Int.toNat (w64 (Int.tdiv r4 (8 : Int))))]?).bind fun (e5 : Int) => (bif (decide (0 ≤ (IntKind.u64.wrap (Int.tmod r4 (8 : Int))))) then (((([] : List Int) ++ r3.1)[(Int.toNat (w64 (Int.tdiv r4 (8 : Int))))]?).bind fun (e6 : Int) => (bif (decide (0 ≤ (0 : Int) ∧ (0 : Int) ≤ (w64 ((((r3.1.length) : Nat) : Int) - (1 : Int))) ∧ (w64 ((((r3.1.length) : Nat) : Int) - (1 : Int))) ≤ ((r3.1.length : Nat) : Int))) then (bif (decide (0 ≤ (1 : Int) ∧ (1 : Int) ≤ ((r3.1.length : Nat) : Int) ∧ ((r3.1.length : Nat) : Int) ≤ ((r3.1.length : Nat) : Int))) then ((l_w2_IsaDecodes_L1 (w2_IsaDecodes_L1_A.mk [a0, ((([] : List Int) ++ r3.1).set (Int.toNat (w64 (Int.tdiv r4 (8 : Int)))) (xorI .u8 e5 (shlI .u8 (1 : Int) (IntKind.u64.wrap (Int.tmod r4 (8 : Int)))))), ((r3.1.drop (Int.toNat (0 : Int))).take (Int.toNat ((w64 ((((r3.1.length) : Nat) : Int) - (1 : Int))) - (0 : Int)))), ((r3.1.drop (Int.toNat (1 : Int))).take (Int.toNat (((r3.1.length : Nat) : Int) - (1 : Int))))] (0 : Int))).bind fun x => Sum.elim (fun (o7 : Bool) => (some o7)) (fun (o8 : Unit) => (some true)) x) else none) else none)) else none)) else none)) else none))))))
def w2_IsaDecodes_t (P : Program) (call : CallF) (c_w2_known : Option Bool) (c_w2_Make : Int → (List Int) → Option (Int × (List Int))) (c_r2_Encode : T_api_Inst → Option ((List Int) × Bool)) (c_w2_within : Int → Int → Option Int) (l_w2_IsaDecodes_L1 : w2_IsaDecodes_L1_A → Option (Bool ⊕ Unit)) (a0 : (List Int)) (a1 : Int) (a2 : (List Int)) (a3 : Int) : Tr Bool (AV × Heap) := (.call (call 14 [] []) (c_w2_known) w2_known_e fun (r1 : Bool) => (.as (!r1) (rt w2_IsaDecodes_e false) (.num ((R_u8 a0).length) (a0.length) (.as (decide ((((a0.length) : Nat) : Int) > (100 : Int))) (rt w2_IsaDecodes_e true) (.call (call 16 [.sc (.int .i64 a1), .sl (R_i64 a2)] []) (c_w2_Make a1 a2) w2_Make_e fun (r2 : (Int × (List Int))) => (.call (call 15 [.agg (C_api_Inst (T_api_Inst.mk (T_api_Inst.mk r2.1 r2.2).Op (T_api_Inst.mk r2.1 r2.2).F))] []) (c_r2_Encode (T_api_Inst.mk r2.1 r2.2)) r2_Encode_e fun (r3 : ((List Int) × Bool)) => (.rows [] (R_u8 ([] : List Int)) (.yes (decide ((R_u8 r3.1).all (fun r => r.length == 1) = true)) (.ask (decide (((R_u8 ([] : List Int)).length + (R_u8 r3.1).length) * 1 ≤ most)) (decide ((([] : List Int).length + r3.1.length) * 1 ≤ most)) (.rows ((R_u8 ([] : List Int)) ++ (R_u8 r3.1)) (R_u8 (([] : List Int) ++ r3.1)) (.num ((R_u8 (([] : List Int) ++ r3.1)).length) ((([] : List Int) ++ r3.1).length) (.call (call 17 [.sc (.int .i64 a3), .sc (.int .i64 (w64 ((8 : Int) * ((((([] : List Int) ++ r3.1).length) : Nat) : Int))))] []) (c_w2_within a3 (w64 ((8 : Int) * ((((([] : List Int) ++ r3.1).length) : Nat) : Int)))) w2_within_e fun (r4 : Int) => (yesN 2 (decide ((8 : Int) ≠ 0)) (.ask (decide (0 ≤ (w64 (Int.tdiv r4 (8 : Int))) ∧ (w64 (Int.tdiv r4 (8 : Int))) < (((R_u8 (([] : List Int) ++ r3.1)).length : Nat) : Int))) (decide (0 ≤ (w64 (Int.tdiv r4 (8 : Int))) ∧ (w64 (Int.tdiv r4 (8 : Int))) < (((([] : List Int) ++ r3.1).length : Nat) : Int))) (.row ((R_u8 (([] : List Int) ++ r3.1))[(Int.toNat (w64 (Int.tdiv r4 (8 : Int))))]?) ((([] : List Int) ++ r3.1)[(Int.toNat (w64 (Int.tdiv r4 (8 : Int))))]?) C_u8 fun (e5 : Int) => (.yes (decide ((8 : Int) ≠ 0)) (.as (decide (0 ≤ (IntKind.u64.wrap (Int.tmod r4 (8 : Int))))) (.yes (decide (0 ≤ (w64 (Int.tdiv r4 (8 : Int))) ∧ (w64 (Int.tdiv r4 (8 : Int))) < (((R_u8 (([] : List Int) ++ r3.1)).length : Nat) : Int))) (.row ((R_u8 (([] : List Int) ++ r3.1))[(Int.toNat (w64 (Int.tdiv r4 (8 : Int))))]?) ((([] : List Int) ++ r3.1)[(Int.toNat (w64 (Int.tdiv r4 (8 : Int))))]?) C_u8 fun (e6 : Int) => (.rows ((R_u8 (([] : List Int) ++ r3.1)).set (Int.toNat (w64 (Int.tdiv r4 (8 : Int)))) [.sc (.int .u8 (xorI .u8 e5 (shlI .u8 (1 : Int) (IntKind.u64.wrap (Int.tmod r4 (8 : Int))))))]) (R_u8 ((([] : List Int) ++ r3.1).set (Int.toNat (w64 (Int.tdiv r4 (8 : Int)))) (xorI .u8 e5 (shlI .u8 (1 : Int) (IntKind.u64.wrap (Int.tmod r4 (8 : Int))))))) (.num ((R_u8 r3.1).length) (r3.1.length) (.yes (decide ((R_u8 r3.1).all (fun r => r.length == 1) = true)) (.ask (decide (0 ≤ (0 : Int) ∧ (0 : Int) ≤ (w64 ((((r3.1.length) : Nat) : Int) - (1 : Int))) ∧ (w64 ((((r3.1.length) : Nat) : Int) - (1 : Int))) ≤ (((R_u8 r3.1).length : Nat) : Int))) (decide (0 ≤ (0 : Int) ∧ (0 : Int) ≤ (w64 ((((r3.1.length) : Nat) : Int) - (1 : Int))) ∧ (w64 ((((r3.1.length) : Nat) : Int) - (1 : Int))) ≤ ((r3.1.length : Nat) : Int))) (.rows (((R_u8 r3.1).drop (Int.toNat (0 : Int))).take (Int.toNat ((w64 ((((r3.1.length) : Nat) : Int) - (1 : Int))) - (0 : Int)))) (R_u8 ((r3.1.drop (Int.toNat (0 : Int))).take (Int.toNat ((w64 ((((r3.1.length) : Nat) : Int) - (1 : Int))) - (0 : Int))))) (.yes (decide ((R_u8 r3.1).all (fun r => r.length == 1) = true)) (.ask (decide (0 ≤ (1 : Int) ∧ (1 : Int) ≤ (((R_u8 r3.1).length : Nat) : Int) ∧ (((R_u8 r3.1).length : Nat) : Int) ≤ (((R_u8 r3.1).length : Nat) : Int))) (decide (0 ≤ (1 : Int) ∧ (1 : Int) ≤ ((r3.1.length : Nat) : Int) ∧ ((r3.1.length : Nat) : Int) ≤ ((r3.1.length : Nat) : Int))) (.rows (((R_u8 r3.1).drop (Int.toNat (1 : Int))).take (Int.toNat ((((R_u8 r3.1).length : Nat) : Int) - (1 : Int)))) (R_u8 ((r3.1.drop (Int.toNat (1 : Int))).take (Int.toNat (((r3.1.length : Nat) : Int) - (1 : Int))))) (.rows [[.sl (R_u8 a0)], [.sl (R_u8 ((([] : List Int) ++ r3.1).set (Int.toNat (w64 (Int.tdiv r4 (8 : Int)))) (xorI .u8 e5 (shlI .u8 (1 : Int) (IntKind.u64.wrap (Int.tmod r4 (8 : Int)))))))], [.sl (R_u8 ((r3.1.drop (Int.toNat (0 : Int))).take (Int.toNat ((w64 ((((r3.1.length) : Nat) : Int) - (1 : Int))) - (0 : Int)))))], [.sl (R_u8 ((r3.1.drop (Int.toNat (1 : Int))).take (Int.toNat (((r3.1.length : Nat) : Int) - (1 : Int)))))]] (R_Lu8 [a0, ((([] : List Int) ++ r3.1).set (Int.toNat (w64 (Int.tdiv r4 (8 : Int)))) (xorI .u8 e5 (shlI .u8 (1 : Int) (IntKind.u64.wrap (Int.tmod r4 (8 : Int)))))), ((r3.1.drop (Int.toNat (0 : Int))).take (Int.toNat ((w64 ((((r3.1.length) : Nat) : Int) - (1 : Int))) - (0 : Int)))), ((r3.1.drop (Int.toNat (1 : Int))).take (Int.toNat (((r3.1.length : Nat) : Int) - (1 : Int))))]) (.loop2 (loopAt P 3 11) (w2_IsaDecodes_L1_s (w2_IsaDecodes_L1_A.mk [a0, ((([] : List Int) ++ r3.1).set (Int.toNat (w64 (Int.tdiv r4 (8 : Int)))) (xorI .u8 e5 (shlI .u8 (1 : Int) (IntKind.u64.wrap (Int.tmod r4 (8 : Int)))))), ((r3.1.drop (Int.toNat (0 : Int))).take (Int.toNat ((w64 ((((r3.1.length) : Nat) : Int) - (1 : Int))) - (0 : Int)))), ((r3.1.drop (Int.toNat (1 : Int))).take (Int.toNat (((r3.1.length : Nat) : Int) - (1 : Int))))] (0 : Int))) (l_w2_IsaDecodes_L1 (w2_IsaDecodes_L1_A.mk [a0, ((([] : List Int) ++ r3.1).set (Int.toNat (w64 (Int.tdiv r4 (8 : Int)))) (xorI .u8 e5 (shlI .u8 (1 : Int) (IntKind.u64.wrap (Int.tmod r4 (8 : Int)))))), ((r3.1.drop (Int.toNat (0 : Int))).take (Int.toNat ((w64 ((((r3.1.length) : Nat) : Int) - (1 : Int))) - (0 : Int)))), ((r3.1.drop (Int.toNat (1 : Int))).take (Int.toNat (((r3.1.length : Nat) : Int) - (1 : Int))))] (0 : Int))) w2_IsaDecodes_L1_e0 w2_IsaDecodes_L1_e1 (fun (o7 : Bool) => (rt w2_IsaDecodes_e o7)) (fun (o8 : Unit) => (rt w2_IsaDecodes_e true))))) .fail))) .fail)))))) .fail))) .fail))))) .fail)))))))))
theorem w2_IsaDecodes_d (P : Program) (call : CallF) (c_w2_known : Option Bool) (c_w2_Make : Int → (List Int) → Option (Int × (List Int))) (c_r2_Encode : T_api_Inst → Option ((List Int) × Bool)) (c_w2_within : Int → Int → Option Int) (l_w2_IsaDecodes_L1 : w2_IsaDecodes_L1_A → Option (Bool ⊕ Unit)) (a0 : (List Int)) (a1 : Int) (a2 : (List Int)) (a3 : Int) : (w2_IsaDecodes_t P call c_w2_known c_w2_Make c_r2_Encode c_w2_within l_w2_IsaDecodes_L1 a0 a1 a2 a3).den = w2_IsaDecodes_b c_w2_known c_w2_Make c_r2_Encode c_w2_within l_w2_IsaDecodes_L1 a0 a1 a2 a3 := rfl
theorem w2_IsaDecodes_n (call : CallF) (c_w2_known : Option Bool) (c_w2_Make : Int → (List Int) → Option (Int × (List Int))) (c_r2_Encode : T_api_Inst → Option ((List Int) × Bool)) (c_w2_within : Int → Int → Option Int) (l_w2_IsaDecodes_L1 : w2_IsaDecodes_L1_A → Option (Bool ⊕ Unit)) (a0 : (List Int)) (a1 : Int) (a2 : (List Int)) (a3 : Int) : (w2_IsaDecodes_t Tryd.prog call c_w2_known c_w2_Make c_r2_Encode c_w2_within l_w2_IsaDecodes_L1 a0 a1 a2 a3).norm (bodyT Tryd.prog call G 3 [.sl (R_u8 a0), .sc (.int .i64 a1), .sl (R_i64 a2), .sc (.int .i64 a3)] []) = w2_IsaDecodes_t Tryd.prog call c_w2_known c_w2_Make c_r2_Encode c_w2_within l_w2_IsaDecodes_L1 a0 a1 a2 a3 := by kernel_rfl
theorem w2_IsaDecodes_k (P : Program) (call : CallF) (lp : Loops) (c_w2_known : Option Bool) (c_w2_Make : Int → (List Int) → Option (Int × (List Int))) (c_r2_Encode : T_api_Inst → Option ((List Int) × Bool)) (c_w2_within : Int → Int → Option Int) (l_w2_IsaDecodes_L1 : w2_IsaDecodes_L1_A → Option (Bool ⊕ Unit)) (hc_w2_known : ∀  (r : Bool), c_w2_known = some r → (call 14 [] []) = some (w2_known_e r)) (hc_w2_Make : ∀ (a0 : Int) (a1 : (List Int)) (r : (Int × (List Int))), c_w2_Make a0 a1 = some r → (call 16 [.sc (.int .i64 a0), .sl (R_i64 a1)] []) = some (w2_Make_e r)) (hc_r2_Encode : ∀ (a0 : T_api_Inst) (r : ((List Int) × Bool)), c_r2_Encode a0 = some r → (call 15 [.agg (C_api_Inst a0)] []) = some (r2_Encode_e r)) (hc_w2_within : ∀ (a0 : Int) (a1 : Int) (r : Int), c_w2_within a0 a1 = some r → (call 17 [.sc (.int .i64 a0), .sc (.int .i64 a1)] []) = some (w2_within_e r)) (hl_w2_IsaDecodes_L1 : ∀ (a : w2_IsaDecodes_L1_A) (r : (Bool ⊕ Unit)), l_w2_IsaDecodes_L1 a = some r → lp (loopAt P 3 11) (w2_IsaDecodes_L1_s a) = some (w2_IsaDecodes_L1_e r)) (a0 : (List Int)) (a1 : Int) (a2 : (List Int)) (a3 : Int) : (w2_IsaDecodes_t P call c_w2_known c_w2_Make c_r2_Encode c_w2_within l_w2_IsaDecodes_L1 a0 a1 a2 a3).ok lp w2_IsaDecodes_e := fun r1 hr1 => ⟨hc_w2_known _ hr1, ⟨rfl, fun h0 => rfl, fun h0 => ⟨(R_u8_len _), ⟨rfl, fun h1 => rfl, fun h1 => fun r2 hr2 => ⟨hc_w2_Make _ _ _ hr2, fun r3 hr3 => ⟨hc_r2_Encode _ _ hr3, ⟨(R_u8_map ([] : List Int)), ⟨(decide_eq_true (R_u8_all _)), ⟨(by rw [R_u8_len, R_u8_len]), fun h2 => ⟨(R_u8_append _ _), ⟨(R_u8_len _), fun r4 hr4 => ⟨hc_w2_within _ _ _ hr4, yesN_ok 2 (rfl) (⟨(by rw [R_u8_len]), fun h3 => fun e5 he5 => ⟨R_u8_get he5, ⟨rfl, ⟨rfl, fun h4 => ⟨(show (decide (0 ≤ (w64 (Int.tdiv r4 (8 : Int))) ∧ (w64 (Int.tdiv r4 (8 : Int))) < (((R_u8 (([] : List Int) ++ r3.1)).length : Nat) : Int))) = (decide (0 ≤ (w64 (Int.tdiv r4 (8 : Int))) ∧ (w64 (Int.tdiv r4 (8 : Int))) < (((([] : List Int) ++ r3.1).length : Nat) : Int))) from (by rw [R_u8_len])).trans h3, fun e6 he6 => ⟨R_u8_get he6, ⟨(R_u8_set _ _ _), ⟨(R_u8_len _), ⟨(decide_eq_true (R_u8_all _)), ⟨(by rw [R_u8_len]), fun h5 => ⟨(by rw [R_u8_slice]), ⟨(decide_eq_true (R_u8_all _)), ⟨(by rw [R_u8_len]), fun h6 => ⟨(by rw [R_u8_slice, R_u8_len]), ⟨(R_Lu8_map [a0, ((([] : List Int) ++ r3.1).set (Int.toNat (w64 (Int.tdiv r4 (8 : Int)))) (xorI .u8 e5 (shlI .u8 (1 : Int) (IntKind.u64.wrap (Int.tmod r4 (8 : Int)))))), ((r3.1.drop (Int.toNat (0 : Int))).take (Int.toNat ((w64 ((((r3.1.length) : Nat) : Int) - (1 : Int))) - (0 : Int)))), ((r3.1.drop (Int.toNat (1 : Int))).take (Int.toNat (((r3.1.length : Nat) : Int) - (1 : Int))))]), ⟨fun o7 ho7 => ⟨hl_w2_IsaDecodes_L1 _ (.inl _) ho7, rfl⟩, fun o8 ho8 => ⟨hl_w2_IsaDecodes_L1 _ (.inr _) ho8, rfl⟩⟩⟩⟩, fun h6 => trivial⟩⟩⟩, fun h5 => trivial⟩⟩⟩⟩⟩⟩, fun h4 => trivial⟩⟩⟩, fun h3 => trivial⟩)⟩⟩⟩, fun h2 => trivial⟩⟩⟩⟩⟩⟩⟩⟩⟩
theorem w2_IsaDecodes_m {c_w2_known d_w2_known : Option Bool} (h_w2_known : Le (c_w2_known ) (d_w2_known )) {c_w2_Make d_w2_Make : Int → (List Int) → Option (Int × (List Int))} (h_w2_Make : ∀ (a0 : Int) (a1 : (List Int)), Le (c_w2_Make a0 a1) (d_w2_Make a0 a1)) {c_r2_Encode d_r2_Encode : T_api_Inst → Option ((List Int) × Bool)} (h_r2_Encode : ∀ (a0 : T_api_Inst), Le (c_r2_Encode a0) (d_r2_Encode a0)) {c_w2_within d_w2_within : Int → Int → Option Int} (h_w2_within : ∀ (a0 : Int) (a1 : Int), Le (c_w2_within a0 a1) (d_w2_within a0 a1)) {l_w2_IsaDecodes_L1 m_w2_IsaDecodes_L1 : w2_IsaDecodes_L1_A → Option (Bool ⊕ Unit)} (hl_w2_IsaDecodes_L1 : ∀ a, Le (l_w2_IsaDecodes_L1 a) (m_w2_IsaDecodes_L1 a)) (a0 : (List Int)) (a1 : Int) (a2 : (List Int)) (a3 : Int) : Le (w2_IsaDecodes_b c_w2_known c_w2_Make c_r2_Encode c_w2_within l_w2_IsaDecodes_L1 a0 a1 a2 a3) (w2_IsaDecodes_b d_w2_known d_w2_Make d_r2_Encode d_w2_within m_w2_IsaDecodes_L1 a0 a1 a2 a3) := by
  unfold w2_IsaDecodes_b
  exact .bind (h_w2_known) fun r1 => .cond (.refl _) (.cond (.refl _) (.bind (h_w2_Make _ _) fun r2 => .bind (h_r2_Encode _) fun r3 => .cond (.bind (h_w2_within _ _) fun r4 => .cond (.bind (.refl ((([] : List Int) ++ r3.1)[(Int.toNat (w64 (Int.tdiv r4 (8 : Int))))]?)) fun e5 => .cond (.bind (.refl ((([] : List Int) ++ r3.1)[(Int.toNat (w64 (Int.tdiv r4 (8 : Int))))]?)) fun e6 => .cond (.cond (.bind (hl_w2_IsaDecodes_L1 _) fun x => .sum (fun o7 => .refl _) (fun o8 => .refl _) x) (.refl _)) (.refl _)) (.refl _)) (.refl _)) (.refl _)))
theorem w2_IsaDecodes_c {c_w2_known : Nat → Option Bool} {d_w2_known : Option Bool} (h_w2_known : Cv (fun k => c_w2_known k ) (d_w2_known )) {c_w2_Make : Nat → Int → (List Int) → Option (Int × (List Int))} {d_w2_Make : Int → (List Int) → Option (Int × (List Int))} (h_w2_Make : ∀ (a0 : Int) (a1 : (List Int)), Cv (fun k => c_w2_Make k a0 a1) (d_w2_Make a0 a1)) {c_r2_Encode : Nat → T_api_Inst → Option ((List Int) × Bool)} {d_r2_Encode : T_api_Inst → Option ((List Int) × Bool)} (h_r2_Encode : ∀ (a0 : T_api_Inst), Cv (fun k => c_r2_Encode k a0) (d_r2_Encode a0)) {c_w2_within : Nat → Int → Int → Option Int} {d_w2_within : Int → Int → Option Int} (h_w2_within : ∀ (a0 : Int) (a1 : Int), Cv (fun k => c_w2_within k a0 a1) (d_w2_within a0 a1)) {l_w2_IsaDecodes_L1 : Nat → w2_IsaDecodes_L1_A → Option (Bool ⊕ Unit)} {m_w2_IsaDecodes_L1 : w2_IsaDecodes_L1_A → Option (Bool ⊕ Unit)} (hl_w2_IsaDecodes_L1 : ∀ a, Cv (fun k => l_w2_IsaDecodes_L1 k a) (m_w2_IsaDecodes_L1 a)) (a0 : (List Int)) (a1 : Int) (a2 : (List Int)) (a3 : Int) : Cv (fun k => w2_IsaDecodes_b (c_w2_known k) (c_w2_Make k) (c_r2_Encode k) (c_w2_within k) (l_w2_IsaDecodes_L1 k) a0 a1 a2 a3) (w2_IsaDecodes_b d_w2_known d_w2_Make d_r2_Encode d_w2_within m_w2_IsaDecodes_L1 a0 a1 a2 a3) := by
  unfold w2_IsaDecodes_b
  exact .bind (h_w2_known) fun r1 => .cond (by exact .const _) (.cond (by exact .const _) (.bind (h_w2_Make _ _) fun r2 => .bind (h_r2_Encode _) fun r3 => .cond (.bind (h_w2_within _ _) fun r4 => .cond (.bind (.const ((([] : List Int) ++ r3.1)[(Int.toNat (w64 (Int.tdiv r4 (8 : Int))))]?)) fun e5 => .cond (.bind (.const ((([] : List Int) ++ r3.1)[(Int.toNat (w64 (Int.tdiv r4 (8 : Int))))]?)) fun e6 => .cond (.cond (.bind (hl_w2_IsaDecodes_L1 _) fun x => .sum (fun o7 => by exact .const _) (fun o8 => by exact .const _) x) (by exact .const _)) (by exact .const _)) (by exact .const _)) (by exact .const _)) (by exact .const _)))
def w2_IsaDecodes.s : Nat → (List Int) → Int → (List Int) → Int → Option Bool
  | 0, _, _, _, _ => none
  | k + 1, a0, a1, a2, a3 => w2_IsaDecodes_b (w2_known.s k) (fun a0 a1 => w2_Make.s k a0 a1) (fun a0 => r2_Encode.s k a0) (fun a0 a1 => w2_within.s k a0 a1) (w2_IsaDecodes_L1.s k (fun a0 => isa_Decode.s k a0) (fun a0 => r2_Decode.s k a0) (fun a0 a1 => r2_Same.s k a0 a1) (fun a0 => isa_Encode.s k a0)) a0 a1 a2 a3
theorem w2_IsaDecodes.ok : ∀ (k : Nat), ∀ (a0 : (List Int)) (a1 : Int) (a2 : (List Int)) (a3 : Int) (r : Bool), w2_IsaDecodes.s k a0 a1 a2 a3 = some r → evalFn Tryd.prog G k 3 [.sl (R_u8 a0), .sc (.int .i64 a1), .sl (R_i64 a2), .sc (.int .i64 a3)] [] = some (w2_IsaDecodes_e r)
  | 0, _, _, _, _, _, h => (nomatch h)
  | k + 1, a0, a1, a2, a3, r, h => fn_ok rfl (w2_IsaDecodes_t Tryd.prog (evalFn Tryd.prog G k) (w2_known.s k) (fun a0 a1 => w2_Make.s k a0 a1) (fun a0 => r2_Encode.s k a0) (fun a0 a1 => w2_within.s k a0 a1) (w2_IsaDecodes_L1.s k (fun a0 => isa_Decode.s k a0) (fun a0 => r2_Decode.s k a0) (fun a0 a1 => r2_Same.s k a0 a1) (fun a0 => isa_Encode.s k a0)) a0 a1 a2 a3) (w2_IsaDecodes_n _ (w2_known.s k) (fun a0 a1 => w2_Make.s k a0 a1) (fun a0 => r2_Encode.s k a0) (fun a0 a1 => w2_within.s k a0 a1) (w2_IsaDecodes_L1.s k (fun a0 => isa_Decode.s k a0) (fun a0 => r2_Decode.s k a0) (fun a0 a1 => r2_Same.s k a0 a1) (fun a0 => isa_Encode.s k a0)) a0 a1 a2 a3) (w2_IsaDecodes_k _ _ _ (w2_known.s k) (fun a0 a1 => w2_Make.s k a0 a1) (fun a0 => r2_Encode.s k a0) (fun a0 a1 => w2_within.s k a0 a1) (w2_IsaDecodes_L1.s k (fun a0 => isa_Decode.s k a0) (fun a0 => r2_Decode.s k a0) (fun a0 a1 => r2_Same.s k a0 a1) (fun a0 => isa_Encode.s k a0)) (w2_known.ok k) (w2_Make.ok k) (r2_Encode.ok k) (w2_within.ok k) (w2_IsaDecodes_L1_ok _ k (fun a0 => isa_Decode.s k a0) (fun a0 => r2_Decode.s k a0) (fun a0 a1 => r2_Same.s k a0 a1) (fun a0 => isa_Encode.s k a0) (isa_Decode.ok k) (r2_Decode.ok k) (r2_Same.ok k) (isa_Encode.ok k)) a0 a1 a2 a3) ((w2_IsaDecodes_d _ _ (w2_known.s k) (fun a0 a1 => w2_Make.s k a0 a1) (fun a0 => r2_Encode.s k a0) (fun a0 a1 => w2_within.s k a0 a1) (w2_IsaDecodes_L1.s k (fun a0 => isa_Decode.s k a0) (fun a0 => r2_Decode.s k a0) (fun a0 a1 => r2_Same.s k a0 a1) (fun a0 => isa_Encode.s k a0)) a0 a1 a2 a3).trans h)
theorem w2_IsaDecodes.mono : ∀ (k : Nat) (a0 : (List Int)) (a1 : Int) (a2 : (List Int)) (a3 : Int), Le (w2_IsaDecodes.s k a0 a1 a2 a3) (w2_IsaDecodes.s (k + 1) a0 a1 a2 a3)
  | 0, _, _, _, _ => fun r h => (nomatch h)
  | k + 1, a0, a1, a2, a3 => w2_IsaDecodes_m (w2_known.mono k) (w2_Make.mono k) (r2_Encode.mono k) (w2_within.mono k) (w2_IsaDecodes_L1.m (Nat.le_succ k) (fun a0 => isa_Decode.s k a0) (fun a0 => r2_Decode.s k a0) (fun a0 a1 => r2_Same.s k a0 a1) (fun a0 => isa_Encode.s k a0) (fun a0 => isa_Decode.s (k + 1) a0) (fun a0 => r2_Decode.s (k + 1) a0) (fun a0 a1 => r2_Same.s (k + 1) a0 a1) (fun a0 => isa_Encode.s (k + 1) a0) (isa_Decode.mono k) (r2_Decode.mono k) (r2_Same.mono k) (isa_Encode.mono k)) a0 a1 a2 a3
noncomputable def w2_IsaDecodes (a0 : (List Int)) (a1 : Int) (a2 : (List Int)) (a3 : Int) : Option Bool := lim fun k => w2_IsaDecodes.s k a0 a1 a2 a3
theorem w2_IsaDecodes.cv (a0 : (List Int)) (a1 : Int) (a2 : (List Int)) (a3 : Int) : Cv (fun k => w2_IsaDecodes.s k a0 a1 a2 a3) (w2_IsaDecodes a0 a1 a2 a3) := .lim fun k => w2_IsaDecodes.mono k a0 a1 a2 a3
noncomputable def w2_IsaDecodes_L1 : w2_IsaDecodes_L1_A → Option (Bool ⊕ Unit) := w2_IsaDecodes_L1.w isa_Decode r2_Decode r2_Same isa_Encode
theorem w2_IsaDecodes_L1.eq (a : w2_IsaDecodes_L1_A) : w2_IsaDecodes_L1 a = (w2_IsaDecodes_L1_b isa_Decode r2_Decode r2_Same isa_Encode a).bind (Sum.elim w2_IsaDecodes_L1 some) := loopW_eq _ _
theorem w2_IsaDecodes.eq (a0 : (List Int)) (a1 : Int) (a2 : (List Int)) (a3 : Int) : w2_IsaDecodes a0 a1 a2 a3 = w2_IsaDecodes_b w2_known w2_Make r2_Encode w2_within w2_IsaDecodes_L1 a0 a1 a2 a3 := Cv.uniq (w2_IsaDecodes.cv a0 a1 a2 a3).shift (w2_IsaDecodes_c w2_known.cv w2_Make.cv r2_Encode.cv w2_within.cv (w2_IsaDecodes_L1.cv (fun k => fun a0 => isa_Decode.s k a0) (fun k => fun a0 => r2_Decode.s k a0) (fun k => fun a0 a1 => r2_Same.s k a0 a1) (fun k => fun a0 => isa_Encode.s k a0) isa_Decode r2_Decode r2_Same isa_Encode isa_Decode.cv r2_Decode.cv r2_Same.cv isa_Encode.cv) a0 a1 a2 a3)
theorem w2_IsaDecodes.run (a0 : (List Int)) (a1 : Int) (a2 : (List Int)) (a3 : Int) {r : Bool} (h : w2_IsaDecodes a0 a1 a2 a3 = some r) : ∃ k, evalFn Tryd.prog G k 3 [.sl (R_u8 a0), .sc (.int .i64 a1), .sl (R_i64 a2), .sc (.int .i64 a3)] [] = some (w2_IsaDecodes_e r) :=
  let ⟨k, hk⟩ := ((w2_IsaDecodes.cv a0 a1 a2 a3).2 r).1 h
  ⟨k, w2_IsaDecodes.ok k a0 a1 a2 a3 r hk⟩
def isa_Right_e (r : Bool) : AV × Heap := (.sc (.bool r), [])
def isa_Right_b (c_isa_code : T_api_Inst → Option (Int × Bool)) (a0 : T_api_Inst) : Option Bool := ((c_isa_code a0).bind fun (r1 : (Int × Bool)) => (some r1.2))
def isa_Right_t (P : Program) (call : CallF) (c_isa_code : T_api_Inst → Option (Int × Bool)) (a0 : T_api_Inst) : Tr Bool (AV × Heap) := (.call (call 43 [.agg (C_api_Inst a0)] []) (c_isa_code a0) isa_code_e fun (r1 : (Int × Bool)) => (rt isa_Right_e r1.2))
theorem isa_Right_d (P : Program) (call : CallF) (c_isa_code : T_api_Inst → Option (Int × Bool)) (a0 : T_api_Inst) : (isa_Right_t P call c_isa_code a0).den = isa_Right_b c_isa_code a0 := rfl
theorem isa_Right_n (call : CallF) (c_isa_code : T_api_Inst → Option (Int × Bool)) (a0 : T_api_Inst) : (isa_Right_t Tryd.prog call c_isa_code a0).norm (bodyT Tryd.prog call G 26 [.agg (C_api_Inst a0)] []) = isa_Right_t Tryd.prog call c_isa_code a0 := by kernel_rfl
theorem isa_Right_k (P : Program) (call : CallF) (lp : Loops) (c_isa_code : T_api_Inst → Option (Int × Bool)) (hc_isa_code : ∀ (a0 : T_api_Inst) (r : (Int × Bool)), c_isa_code a0 = some r → (call 43 [.agg (C_api_Inst a0)] []) = some (isa_code_e r)) (a0 : T_api_Inst) : (isa_Right_t P call c_isa_code a0).ok lp isa_Right_e := fun r1 hr1 => ⟨hc_isa_code _ _ hr1, rfl⟩
theorem isa_Right_m {c_isa_code d_isa_code : T_api_Inst → Option (Int × Bool)} (h_isa_code : ∀ (a0 : T_api_Inst), Le (c_isa_code a0) (d_isa_code a0)) (a0 : T_api_Inst) : Le (isa_Right_b c_isa_code a0) (isa_Right_b d_isa_code a0) := by
  unfold isa_Right_b
  exact .bind (h_isa_code _) fun r1 => .refl _
theorem isa_Right_c {c_isa_code : Nat → T_api_Inst → Option (Int × Bool)} {d_isa_code : T_api_Inst → Option (Int × Bool)} (h_isa_code : ∀ (a0 : T_api_Inst), Cv (fun k => c_isa_code k a0) (d_isa_code a0)) (a0 : T_api_Inst) : Cv (fun k => isa_Right_b (c_isa_code k) a0) (isa_Right_b d_isa_code a0) := by
  unfold isa_Right_b
  exact .bind (h_isa_code _) fun r1 => by exact .const _
def isa_Right.s : Nat → T_api_Inst → Option Bool
  | 0, _ => none
  | k + 1, a0 => isa_Right_b (fun a0 => isa_code.s k a0) a0
theorem isa_Right.ok : ∀ (k : Nat), ∀ (a0 : T_api_Inst) (r : Bool), isa_Right.s k a0 = some r → evalFn Tryd.prog G k 26 [.agg (C_api_Inst a0)] [] = some (isa_Right_e r)
  | 0, _, _, h => (nomatch h)
  | k + 1, a0, r, h => fn_ok rfl (isa_Right_t Tryd.prog (evalFn Tryd.prog G k) (fun a0 => isa_code.s k a0) a0) (isa_Right_n _ (fun a0 => isa_code.s k a0) a0) (isa_Right_k _ _ _ (fun a0 => isa_code.s k a0) (isa_code.ok k)  a0) ((isa_Right_d _ _ (fun a0 => isa_code.s k a0) a0).trans h)
theorem isa_Right.mono : ∀ (k : Nat) (a0 : T_api_Inst), Le (isa_Right.s k a0) (isa_Right.s (k + 1) a0)
  | 0, _ => fun r h => (nomatch h)
  | k + 1, a0 => isa_Right_m (isa_code.mono k) a0
noncomputable def isa_Right (a0 : T_api_Inst) : Option Bool := lim fun k => isa_Right.s k a0
theorem isa_Right.cv (a0 : T_api_Inst) : Cv (fun k => isa_Right.s k a0) (isa_Right a0) := .lim fun k => isa_Right.mono k a0
theorem isa_Right.eq (a0 : T_api_Inst) : isa_Right a0 = isa_Right_b isa_code a0 := Cv.uniq (isa_Right.cv a0).shift (isa_Right_c isa_code.cv a0)
def w2_IsaRight_e (r : Bool) : AV × Heap := (.sc (.bool r), [])
structure w2_IsaRight_L1_A where
  x15 : (List T_api_Inst)
  x16 : Int
def w2_IsaRight_L1_s (a : w2_IsaRight_L1_A) : St := { n := 126, nx := 0, env := [(15, .sl (R_api_Inst a.x15)), (16, .sc (.int .i64 a.x16))], heap := [] }
def w2_IsaRight_L1_e0 (a : Bool) : Ex × St := (.ret, { n := 126, nx := 0, env := [(12, .sc (.bool a))], heap := [] })
def w2_IsaRight_L1_e1 (a : Unit) : Ex × St := (.exit 0, { n := 126, nx := 0, env := [], heap := [] })
def w2_IsaRight_L1_e (a : (Bool ⊕ Unit)) : Ex × St := Sum.elim w2_IsaRight_L1_e0 w2_IsaRight_L1_e1 a
def w2_IsaRight_L1_b (c_isa_Encode : T_api_Inst → Option ((List Int) × Bool)) (c_r2_Encode : T_api_Inst → Option ((List Int) × Bool)) (c_isa_Right : T_api_Inst → Option Bool) (c_r2_Right : T_api_Inst → Option Bool) (a : w2_IsaRight_L1_A) : Option (w2_IsaRight_L1_A ⊕ (Bool ⊕ Unit)) := (bif (decide (a.x16 < (((a.x15.length) : Nat) : Int))) then (bif (decide (0 ≤ a.x16)) then ((a.x15[(Int.toNat a.x16)]?).bind fun (e1 : T_api_Inst) => ((c_isa_Encode e1).bind fun (r2 : ((List Int) × Bool)) => ((a.x15[(Int.toNat a.x16)]?).bind fun (e3 : T_api_Inst) => ((c_r2_Encode e3).bind fun (r4 : ((List Int) × Bool)) => (bif (!(r2.2 == r4.2)) then (some (.inr (.inl false))) else ((some (listB r2.1)).bind fun (e5 : List UInt8) => ((some (listB r4.1)).bind fun (e6 : List UInt8) => (bif (!(eqS (⟨e5.toArray⟩ : ByteArray) (⟨e6.toArray⟩ : ByteArray))) then (some (.inr (.inl false))) else ((a.x15[(Int.toNat a.x16)]?).bind fun (e7 : T_api_Inst) => ((c_isa_Right e7).bind fun (r8 : Bool) => ((a.x15[(Int.toNat a.x16)]?).bind fun (e9 : T_api_Inst) => ((c_r2_Right e9).bind fun (r10 : Bool) => (bif (!(r8 == r10)) then (some (.inr (.inl false))) else ((a.x15[(Int.toNat a.x16)]?).bind fun (e11 : T_api_Inst) => ((c_r2_Right e11).bind fun (r12 : Bool) => (bif (!(r2.2 == r12)) then (some (.inr (.inl false))) else (some (.inl (w2_IsaRight_L1_A.mk a.x15 (w64 (a.x16 + (1 : Int)))))))))))))))))))))) else none) else (some (.inr (.inr ()))))
def w2_IsaRight_L1_t (P : Program) (call : CallF) (c_isa_Encode : T_api_Inst → Option ((List Int) × Bool)) (c_r2_Encode : T_api_Inst → Option ((List Int) × Bool)) (c_isa_Right : T_api_Inst → Option Bool) (c_r2_Right : T_api_Inst → Option Bool) (a : w2_IsaRight_L1_A) : Tr (w2_IsaRight_L1_A ⊕ (Bool ⊕ Unit)) (Ex × St) := (.num ((R_api_Inst a.x15).length) (a.x15.length) (.as (decide (a.x16 < (((a.x15.length) : Nat) : Int))) (.as (decide (0 ≤ a.x16)) (.row ((R_api_Inst a.x15)[(Int.toNat a.x16)]?) (a.x15[(Int.toNat a.x16)]?) C_api_Inst fun (e1 : T_api_Inst) => (.call (call 21 [.agg (C_api_Inst e1)] []) (c_isa_Encode e1) isa_Encode_e fun (r2 : ((List Int) × Bool)) => (.yes (decide (0 ≤ a.x16)) (.row ((R_api_Inst a.x15)[(Int.toNat a.x16)]?) (a.x15[(Int.toNat a.x16)]?) C_api_Inst fun (e3 : T_api_Inst) => (.call (call 15 [.agg (C_api_Inst e3)] []) (c_r2_Encode e3) r2_Encode_e fun (r4 : ((List Int) × Bool)) => (.as (!(r2.2 == r4.2)) (yesN 5 (!(r2.2 == r4.2)) (yesN 21 true (rx w2_IsaRight_L1_e (.inl false)))) (.no (!(r2.2 == r4.2)) (.byt (bytesOfRows (R_u8 r2.1)) (some (listB r2.1)) fun (e5 : List UInt8) => (noN 2 (!(r2.2 == r4.2)) (.byt (bytesOfRows (R_u8 r4.1)) (some (listB r4.1)) fun (e6 : List UInt8) => (noN 2 (!(r2.2 == r4.2)) (.as (!(eqS (⟨e5.toArray⟩ : ByteArray) (⟨e6.toArray⟩ : ByteArray))) (yesN 11 (!(eqS (⟨e5.toArray⟩ : ByteArray) (⟨e6.toArray⟩ : ByteArray))) (yesN 9 true (rx w2_IsaRight_L1_e (.inl false)))) (noN 2 (!(eqS (⟨e5.toArray⟩ : ByteArray) (⟨e6.toArray⟩ : ByteArray))) (.yes (decide (0 ≤ a.x16)) (.row ((R_api_Inst a.x15)[(Int.toNat a.x16)]?) (a.x15[(Int.toNat a.x16)]?) C_api_Inst fun (e7 : T_api_Inst) => (noN 2 (!(eqS (⟨e5.toArray⟩ : ByteArray) (⟨e6.toArray⟩ : ByteArray))) (.call (call 26 [.agg (C_api_Inst e7)] []) (c_isa_Right e7) isa_Right_e fun (r8 : Bool) => (noN 3 (!(eqS (⟨e5.toArray⟩ : ByteArray) (⟨e6.toArray⟩ : ByteArray))) (.yes (decide (0 ≤ a.x16)) (.row ((R_api_Inst a.x15)[(Int.toNat a.x16)]?) (a.x15[(Int.toNat a.x16)]?) C_api_Inst fun (e9 : T_api_Inst) => (noN 2 (!(eqS (⟨e5.toArray⟩ : ByteArray) (⟨e6.toArray⟩ : ByteArray))) (.call (call 27 [.agg (C_api_Inst e9)] []) (c_r2_Right e9) r2_Right_e fun (r10 : Bool) => (noN 2 (!(eqS (⟨e5.toArray⟩ : ByteArray) (⟨e6.toArray⟩ : ByteArray))) (.as (!(r8 == r10)) (yesN 7 (!(r8 == r10)) (.yes true (rx w2_IsaRight_L1_e (.inl false)))) (noN 3 (!(r8 == r10)) (.yes (decide (0 ≤ a.x16)) (.row ((R_api_Inst a.x15)[(Int.toNat a.x16)]?) (a.x15[(Int.toNat a.x16)]?) C_api_Inst fun (e11 : T_api_Inst) => (noN 2 (!(r8 == r10)) (.call (call 27 [.agg (C_api_Inst e11)] []) (c_r2_Right e11) r2_Right_e fun (r12 : Bool) => (noN 2 (!(r8 == r10)) (.as (!(r2.2 == r12)) (rx w2_IsaRight_L1_e (.inl false)) (lf w2_IsaRight_L1_s (w2_IsaRight_L1_A.mk a.x15 (w64 (a.x16 + (1 : Int)))))))))))))))))))))))))))))))))))) .fail) (rx w2_IsaRight_L1_e (.inr ()))))
theorem w2_IsaRight_L1_d (P : Program) (call : CallF) (c_isa_Encode : T_api_Inst → Option ((List Int) × Bool)) (c_r2_Encode : T_api_Inst → Option ((List Int) × Bool)) (c_isa_Right : T_api_Inst → Option Bool) (c_r2_Right : T_api_Inst → Option Bool) (a : w2_IsaRight_L1_A) : (w2_IsaRight_L1_t P call c_isa_Encode c_r2_Encode c_isa_Right c_r2_Right a).den = w2_IsaRight_L1_b c_isa_Encode c_r2_Encode c_isa_Right c_r2_Right a := rfl
theorem w2_IsaRight_L1_n (call : CallF) (c_isa_Encode : T_api_Inst → Option ((List Int) × Bool)) (c_r2_Encode : T_api_Inst → Option ((List Int) × Bool)) (c_isa_Right : T_api_Inst → Option Bool) (c_r2_Right : T_api_Inst → Option Bool) (a : w2_IsaRight_L1_A) : (w2_IsaRight_L1_t Tryd.prog call c_isa_Encode c_r2_Encode c_isa_Right c_r2_Right a).norm (roundT Tryd.prog G.kd call 0 (G.an 10) (loopAt Tryd.prog 10 13) (w2_IsaRight_L1_s a)) = w2_IsaRight_L1_t Tryd.prog call c_isa_Encode c_r2_Encode c_isa_Right c_r2_Right a := by kernel_rfl
theorem w2_IsaRight_L1_k (P : Program) (call : CallF) (lp : Loops) (c_isa_Encode : T_api_Inst → Option ((List Int) × Bool)) (c_r2_Encode : T_api_Inst → Option ((List Int) × Bool)) (c_isa_Right : T_api_Inst → Option Bool) (c_r2_Right : T_api_Inst → Option Bool) (hc_isa_Encode : ∀ (a0 : T_api_Inst) (r : ((List Int) × Bool)), c_isa_Encode a0 = some r → (call 21 [.agg (C_api_Inst a0)] []) = some (isa_Encode_e r)) (hc_r2_Encode : ∀ (a0 : T_api_Inst) (r : ((List Int) × Bool)), c_r2_Encode a0 = some r → (call 15 [.agg (C_api_Inst a0)] []) = some (r2_Encode_e r)) (hc_isa_Right : ∀ (a0 : T_api_Inst) (r : Bool), c_isa_Right a0 = some r → (call 26 [.agg (C_api_Inst a0)] []) = some (isa_Right_e r)) (hc_r2_Right : ∀ (a0 : T_api_Inst) (r : Bool), c_r2_Right a0 = some r → (call 27 [.agg (C_api_Inst a0)] []) = some (r2_Right_e r)) (a : w2_IsaRight_L1_A) : (w2_IsaRight_L1_t P call c_isa_Encode c_r2_Encode c_isa_Right c_r2_Right a).ok lp (Sum.elim (fun a => (.norm, w2_IsaRight_L1_s a)) w2_IsaRight_L1_e) := ⟨(R_api_Inst_len _), ⟨rfl, fun h0 => ⟨rfl, fun h1 => fun e1 he1 => ⟨R_api_Inst_get he1, fun r2 hr2 => ⟨hc_isa_Encode _ _ hr2, ⟨h1, fun e3 he3 => ⟨R_api_Inst_get he3, fun r4 hr4 => ⟨hc_r2_Encode _ _ hr4, ⟨rfl, fun h2 => yesN_ok 5 (h2) (yesN_ok 21 (rfl) (rfl)), fun h2 => ⟨h2, fun e5 he5 => ⟨(R_u8_list _).trans he5, noN_ok 2 (h2) (fun e6 he6 => ⟨(R_u8_list _).trans he6, noN_ok 2 (h2) (⟨rfl, fun h3 => yesN_ok 11 (h3) (yesN_ok 9 (rfl) (rfl)), fun h3 => noN_ok 2 (h3) (⟨h1, fun e7 he7 => ⟨R_api_Inst_get he7, noN_ok 2 (h3) (fun r8 hr8 => ⟨hc_isa_Right _ _ hr8, noN_ok 3 (h3) (⟨h1, fun e9 he9 => ⟨R_api_Inst_get he9, noN_ok 2 (h3) (fun r10 hr10 => ⟨hc_r2_Right _ _ hr10, noN_ok 2 (h3) (⟨rfl, fun h4 => yesN_ok 7 (h4) (⟨rfl, rfl⟩), fun h4 => noN_ok 3 (h4) (⟨h1, fun e11 he11 => ⟨R_api_Inst_get he11, noN_ok 2 (h4) (fun r12 hr12 => ⟨hc_r2_Right _ _ hr12, noN_ok 2 (h4) (⟨rfl, fun h5 => rfl, fun h5 => rfl⟩)⟩)⟩⟩)⟩)⟩)⟩⟩)⟩)⟩⟩)⟩)⟩)⟩⟩⟩⟩⟩⟩⟩⟩, fun h1 => trivial⟩, fun h0 => rfl⟩⟩
theorem w2_IsaRight_L1_m {c_isa_Encode d_isa_Encode : T_api_Inst → Option ((List Int) × Bool)} (h_isa_Encode : ∀ (a0 : T_api_Inst), Le (c_isa_Encode a0) (d_isa_Encode a0)) {c_r2_Encode d_r2_Encode : T_api_Inst → Option ((List Int) × Bool)} (h_r2_Encode : ∀ (a0 : T_api_Inst), Le (c_r2_Encode a0) (d_r2_Encode a0)) {c_isa_Right d_isa_Right : T_api_Inst → Option Bool} (h_isa_Right : ∀ (a0 : T_api_Inst), Le (c_isa_Right a0) (d_isa_Right a0)) {c_r2_Right d_r2_Right : T_api_Inst → Option Bool} (h_r2_Right : ∀ (a0 : T_api_Inst), Le (c_r2_Right a0) (d_r2_Right a0)) (a : w2_IsaRight_L1_A) : Le (w2_IsaRight_L1_b c_isa_Encode c_r2_Encode c_isa_Right c_r2_Right a) (w2_IsaRight_L1_b d_isa_Encode d_r2_Encode d_isa_Right d_r2_Right a) := by
  unfold w2_IsaRight_L1_b
  exact .cond (.cond (.bind (.refl (a.x15[(Int.toNat a.x16)]?)) fun e1 => .bind (h_isa_Encode _) fun r2 => .bind (.refl (a.x15[(Int.toNat a.x16)]?)) fun e3 => .bind (h_r2_Encode _) fun r4 => .cond (.refl _) (.bind (.refl (some (listB r2.1))) fun e5 => .bind (.refl (some (listB r4.1))) fun e6 => .cond (.refl _) (.bind (.refl (a.x15[(Int.toNat a.x16)]?)) fun e7 => .bind (h_isa_Right _) fun r8 => .bind (.refl (a.x15[(Int.toNat a.x16)]?)) fun e9 => .bind (h_r2_Right _) fun r10 => .cond (.refl _) (.bind (.refl (a.x15[(Int.toNat a.x16)]?)) fun e11 => .bind (h_r2_Right _) fun r12 => .refl _)))) (.refl _)) (.refl _)
theorem w2_IsaRight_L1_c {c_isa_Encode : Nat → T_api_Inst → Option ((List Int) × Bool)} {d_isa_Encode : T_api_Inst → Option ((List Int) × Bool)} (h_isa_Encode : ∀ (a0 : T_api_Inst), Cv (fun k => c_isa_Encode k a0) (d_isa_Encode a0)) {c_r2_Encode : Nat → T_api_Inst → Option ((List Int) × Bool)} {d_r2_Encode : T_api_Inst → Option ((List Int) × Bool)} (h_r2_Encode : ∀ (a0 : T_api_Inst), Cv (fun k => c_r2_Encode k a0) (d_r2_Encode a0)) {c_isa_Right : Nat → T_api_Inst → Option Bool} {d_isa_Right : T_api_Inst → Option Bool} (h_isa_Right : ∀ (a0 : T_api_Inst), Cv (fun k => c_isa_Right k a0) (d_isa_Right a0)) {c_r2_Right : Nat → T_api_Inst → Option Bool} {d_r2_Right : T_api_Inst → Option Bool} (h_r2_Right : ∀ (a0 : T_api_Inst), Cv (fun k => c_r2_Right k a0) (d_r2_Right a0)) (a : w2_IsaRight_L1_A) : Cv (fun k => w2_IsaRight_L1_b (c_isa_Encode k) (c_r2_Encode k) (c_isa_Right k) (c_r2_Right k) a) (w2_IsaRight_L1_b d_isa_Encode d_r2_Encode d_isa_Right d_r2_Right a) := by
  unfold w2_IsaRight_L1_b
  exact .cond (.cond (.bind (.const (a.x15[(Int.toNat a.x16)]?)) fun e1 => .bind (h_isa_Encode _) fun r2 => .bind (.const (a.x15[(Int.toNat a.x16)]?)) fun e3 => .bind (h_r2_Encode _) fun r4 => .cond (by exact .const _) (.bind (.const (some (listB r2.1))) fun e5 => .bind (.const (some (listB r4.1))) fun e6 => .cond (by exact .const _) (.bind (.const (a.x15[(Int.toNat a.x16)]?)) fun e7 => .bind (h_isa_Right _) fun r8 => .bind (.const (a.x15[(Int.toNat a.x16)]?)) fun e9 => .bind (h_r2_Right _) fun r10 => .cond (by exact .const _) (.bind (.const (a.x15[(Int.toNat a.x16)]?)) fun e11 => .bind (h_r2_Right _) fun r12 => by exact .const _)))) (by exact .const _)) (by exact .const _)
def w2_IsaRight_L1.s (k : Nat) (c_isa_Encode : T_api_Inst → Option ((List Int) × Bool)) (c_r2_Encode : T_api_Inst → Option ((List Int) × Bool)) (c_isa_Right : T_api_Inst → Option Bool) (c_r2_Right : T_api_Inst → Option Bool) : w2_IsaRight_L1_A → Option (Bool ⊕ Unit) := iter (w2_IsaRight_L1_b c_isa_Encode c_r2_Encode c_isa_Right c_r2_Right) k
theorem w2_IsaRight_L1_ok (call : CallF) (k : Nat) (c_isa_Encode : T_api_Inst → Option ((List Int) × Bool)) (c_r2_Encode : T_api_Inst → Option ((List Int) × Bool)) (c_isa_Right : T_api_Inst → Option Bool) (c_r2_Right : T_api_Inst → Option Bool) (hc_isa_Encode : ∀ (a0 : T_api_Inst) (r : ((List Int) × Bool)), c_isa_Encode a0 = some r → (call 21 [.agg (C_api_Inst a0)] []) = some (isa_Encode_e r)) (hc_r2_Encode : ∀ (a0 : T_api_Inst) (r : ((List Int) × Bool)), c_r2_Encode a0 = some r → (call 15 [.agg (C_api_Inst a0)] []) = some (r2_Encode_e r)) (hc_isa_Right : ∀ (a0 : T_api_Inst) (r : Bool), c_isa_Right a0 = some r → (call 26 [.agg (C_api_Inst a0)] []) = some (isa_Right_e r)) (hc_r2_Right : ∀ (a0 : T_api_Inst) (r : Bool), c_r2_Right a0 = some r → (call 27 [.agg (C_api_Inst a0)] []) = some (r2_Right_e r)) (a : w2_IsaRight_L1_A) (r : (Bool ⊕ Unit)) (h : w2_IsaRight_L1.s k c_isa_Encode c_r2_Encode c_isa_Right c_r2_Right a = some r) : loopsF Tryd.prog G.kd call 0 (G.an 10) k (loopAt Tryd.prog 10 13) (w2_IsaRight_L1_s a) = some (w2_IsaRight_L1_e r) :=
  loop_ok (fun a => w2_IsaRight_L1_t Tryd.prog call c_isa_Encode c_r2_Encode c_isa_Right c_r2_Right a) (fun a => w2_IsaRight_L1_d _ call c_isa_Encode c_r2_Encode c_isa_Right c_r2_Right a) (fun a => w2_IsaRight_L1_n call c_isa_Encode c_r2_Encode c_isa_Right c_r2_Right a) (fun a => w2_IsaRight_L1_k _ call _ c_isa_Encode c_r2_Encode c_isa_Right c_r2_Right hc_isa_Encode hc_r2_Encode hc_isa_Right hc_r2_Right a) (fun r => by cases r <;> nofun) h
theorem w2_IsaRight_L1.m {j k : Nat} (hj : j ≤ k) (c_isa_Encode : T_api_Inst → Option ((List Int) × Bool)) (c_r2_Encode : T_api_Inst → Option ((List Int) × Bool)) (c_isa_Right : T_api_Inst → Option Bool) (c_r2_Right : T_api_Inst → Option Bool) (d_isa_Encode : T_api_Inst → Option ((List Int) × Bool)) (d_r2_Encode : T_api_Inst → Option ((List Int) × Bool)) (d_isa_Right : T_api_Inst → Option Bool) (d_r2_Right : T_api_Inst → Option Bool) (h_isa_Encode : ∀ (a0 : T_api_Inst), Le (c_isa_Encode a0) (d_isa_Encode a0)) (h_r2_Encode : ∀ (a0 : T_api_Inst), Le (c_r2_Encode a0) (d_r2_Encode a0)) (h_isa_Right : ∀ (a0 : T_api_Inst), Le (c_isa_Right a0) (d_isa_Right a0)) (h_r2_Right : ∀ (a0 : T_api_Inst), Le (c_r2_Right a0) (d_r2_Right a0)) (a : w2_IsaRight_L1_A) : Le (w2_IsaRight_L1.s j c_isa_Encode c_r2_Encode c_isa_Right c_r2_Right a) (w2_IsaRight_L1.s k d_isa_Encode d_r2_Encode d_isa_Right d_r2_Right a) := Le.iter (fun a => w2_IsaRight_L1_m h_isa_Encode h_r2_Encode h_isa_Right h_r2_Right a) hj a
noncomputable def w2_IsaRight_L1.w (c_isa_Encode : T_api_Inst → Option ((List Int) × Bool)) (c_r2_Encode : T_api_Inst → Option ((List Int) × Bool)) (c_isa_Right : T_api_Inst → Option Bool) (c_r2_Right : T_api_Inst → Option Bool) : w2_IsaRight_L1_A → Option (Bool ⊕ Unit) := loopW (w2_IsaRight_L1_b c_isa_Encode c_r2_Encode c_isa_Right c_r2_Right)
theorem w2_IsaRight_L1.cv (c_isa_Encode : Nat → T_api_Inst → Option ((List Int) × Bool)) (c_r2_Encode : Nat → T_api_Inst → Option ((List Int) × Bool)) (c_isa_Right : Nat → T_api_Inst → Option Bool) (c_r2_Right : Nat → T_api_Inst → Option Bool) (d_isa_Encode : T_api_Inst → Option ((List Int) × Bool)) (d_r2_Encode : T_api_Inst → Option ((List Int) × Bool)) (d_isa_Right : T_api_Inst → Option Bool) (d_r2_Right : T_api_Inst → Option Bool) (h_isa_Encode : ∀ (a0 : T_api_Inst), Cv (fun k => c_isa_Encode k a0) (d_isa_Encode a0)) (h_r2_Encode : ∀ (a0 : T_api_Inst), Cv (fun k => c_r2_Encode k a0) (d_r2_Encode a0)) (h_isa_Right : ∀ (a0 : T_api_Inst), Cv (fun k => c_isa_Right k a0) (d_isa_Right a0)) (h_r2_Right : ∀ (a0 : T_api_Inst), Cv (fun k => c_r2_Right k a0) (d_r2_Right a0)) (a : w2_IsaRight_L1_A) : Cv (fun k => w2_IsaRight_L1.s k (c_isa_Encode k) (c_r2_Encode k) (c_isa_Right k) (c_r2_Right k) a) (w2_IsaRight_L1.w d_isa_Encode d_r2_Encode d_isa_Right d_r2_Right a) := Cv.iter (fun a => w2_IsaRight_L1_c h_isa_Encode h_r2_Encode h_isa_Right h_r2_Right a) a
def w2_IsaRight_b (c_w2_known : Option Bool) (c_w2_Make : Int → (List Int) → Option (Int × (List Int))) (c_w2_within : Int → Int → Option Int) (l_w2_IsaRight_L1 : w2_IsaRight_L1_A → Option (Bool ⊕ Unit)) (a0 : T_api_Inst) (a1 : Int) (a2 : (List Int)) (a3 : Int) (a4 : Int) (a5 : Int) : Option Bool := ((c_w2_known).bind fun (r1 : Bool) => (bif (!r1) then (some false) else (bif (decide ((((a0.F.length) : Nat) : Int) > (20 : Int))) then (some true) else ((c_w2_Make a1 a2).bind fun (r2 : (Int × (List Int))) => (bif (decide ((((r2.2.length) : Nat) : Int) > (0 : Int))) then ((c_w2_within a3 (((r2.2.length) : Nat) : Int)).bind fun (r3 : Int) => ((c_w2_within a4 (21 : Int)).bind fun (r4 : Int) => (bif (decide (0 ≤ r4 ∧ r4 < (([a5, (-1 : Int), (8 : Int), (23 : Int), (24 : Int), (32 : Int), (33 : Int), (64 : Int), (127 : Int), (128 : Int), (255 : Int), (256 : Int), (-256 : Int), (-258 : Int), (32767 : Int), (32768 : Int), (-32769 : Int), (524288 : Int), (16777216 : Int), (3 : Int), (61 : Int)].length : Nat) : Int))) then (([a5, (-1 : Int), (8 : Int), (23 : Int), (24 : Int), (32 : Int), (33 : Int), (64 : Int), (127 : Int), (128 : Int), (255 : Int), (256 : Int), (-256 : Int), (-258 : Int), (32767 : Int), (32768 : Int), (-32769 : Int), (524288 : Int), (16777216 : Int), (3 : Int), (61 : Int)][(Int.toNat r4)]?).bind fun (e5 : Int) => (bif (decide (0 ≤ r3 ∧ r3 < ((r2.2.length : Nat) : Int))) then ((r2.2[(Int.toNat r3)]?).bind fun (e6 : Int) => (bif (decide ((([] : List Int).length + (r2.2.set (Int.toNat r3) e5).length) * 8 ≤ most)) then (bif (decide (((([] : List Int) ++ (r2.2.set (Int.toNat r3) e5)).length + [(0 : Int)].length) * 8 ≤ most)) then ((l_w2_IsaRight_L1 (w2_IsaRight_L1_A.mk [a0, (T_api_Inst.mk r2.1 (r2.2.set (Int.toNat r3) e5)), (T_api_Inst.mk r2.1 ((([] : List Int) ++ (r2.2.set (Int.toNat r3) e5)) ++ [(0 : Int)])), (T_api_Inst.mk a5 ([] : List Int))] (0 : Int))).bind fun x => Sum.elim (fun (o7 : Bool) => (some o7)) (fun (o8 : Unit) => (some true)) x) else none) else none)) else none)) else none))) else ((c_w2_within a4 (2 : Int)).bind fun (r9 : Int) => (bif (r9 == (0 : Int)) then (bif (decide ((r2.2.length + [a5].length) * 8 ≤ most)) then (bif (decide ((([] : List Int).length + (r2.2 ++ [a5]).length) * 8 ≤ most)) then (bif (decide (((([] : List Int) ++ (r2.2 ++ [a5])).length + [(0 : Int)].length) * 8 ≤ most)) then ((l_w2_IsaRight_L1 (w2_IsaRight_L1_A.mk [a0, (T_api_Inst.mk r2.1 (r2.2 ++ [a5])), (T_api_Inst.mk r2.1 ((([] : List Int) ++ (r2.2 ++ [a5])) ++ [(0 : Int)])), (T_api_Inst.mk a5 ([] : List Int))] (0 : Int))).bind fun x => Sum.elim (fun (o10 : Bool) => (some o10)) (fun (o11 : Unit) => (some true)) x) else none) else none) else none) else (bif (decide ((([] : List Int).length + r2.2.length) * 8 ≤ most)) then (bif (decide (((([] : List Int) ++ r2.2).length + [(0 : Int)].length) * 8 ≤ most)) then ((l_w2_IsaRight_L1 (w2_IsaRight_L1_A.mk [a0, (T_api_Inst.mk r2.1 r2.2), (T_api_Inst.mk r2.1 ((([] : List Int) ++ r2.2) ++ [(0 : Int)])), (T_api_Inst.mk a5 ([] : List Int))] (0 : Int))).bind fun x => Sum.elim (fun (o12 : Bool) => (some o12)) (fun (o13 : Unit) => (some true)) x) else none) else none))))))))
def w2_IsaRight_t (P : Program) (call : CallF) (c_w2_known : Option Bool) (c_w2_Make : Int → (List Int) → Option (Int × (List Int))) (c_w2_within : Int → Int → Option Int) (l_w2_IsaRight_L1 : w2_IsaRight_L1_A → Option (Bool ⊕ Unit)) (a0 : T_api_Inst) (a1 : Int) (a2 : (List Int)) (a3 : Int) (a4 : Int) (a5 : Int) : Tr Bool (AV × Heap) := (.call (call 14 [] []) (c_w2_known) w2_known_e fun (r1 : Bool) => (.as (!r1) (rt w2_IsaRight_e false) (.num ((R_i64 a0.F).length) (a0.F.length) (.as (decide ((((a0.F.length) : Nat) : Int) > (20 : Int))) (rt w2_IsaRight_e true) (.call (call 16 [.sc (.int .i64 a1), .sl (R_i64 a2)] []) (c_w2_Make a1 a2) w2_Make_e fun (r2 : (Int × (List Int))) => (.num ((R_i64 r2.2).length) (r2.2.length) (.as (decide ((((r2.2.length) : Nat) : Int) > (0 : Int))) (.num ((R_i64 r2.2).length) (r2.2.length) (.call (call 17 [.sc (.int .i64 a3), .sc (.int .i64 (((r2.2.length) : Nat) : Int))] []) (c_w2_within a3 (((r2.2.length) : Nat) : Int)) w2_within_e fun (r3 : Int) => (.rows [[.sc (.int .i64 a5)], [.sc (.int .i64 (-1 : Int))], [.sc (.int .i64 (8 : Int))], [.sc (.int .i64 (23 : Int))], [.sc (.int .i64 (24 : Int))], [.sc (.int .i64 (32 : Int))], [.sc (.int .i64 (33 : Int))], [.sc (.int .i64 (64 : Int))], [.sc (.int .i64 (127 : Int))], [.sc (.int .i64 (128 : Int))], [.sc (.int .i64 (255 : Int))], [.sc (.int .i64 (256 : Int))], [.sc (.int .i64 (-256 : Int))], [.sc (.int .i64 (-258 : Int))], [.sc (.int .i64 (32767 : Int))], [.sc (.int .i64 (32768 : Int))], [.sc (.int .i64 (-32769 : Int))], [.sc (.int .i64 (524288 : Int))], [.sc (.int .i64 (16777216 : Int))], [.sc (.int .i64 (3 : Int))], [.sc (.int .i64 (61 : Int))]] (R_i64 [a5, (-1 : Int), (8 : Int), (23 : Int), (24 : Int), (32 : Int), (33 : Int), (64 : Int), (127 : Int), (128 : Int), (255 : Int), (256 : Int), (-256 : Int), (-258 : Int), (32767 : Int), (32768 : Int), (-32769 : Int), (524288 : Int), (16777216 : Int), (3 : Int), (61 : Int)]) (.call (call 17 [.sc (.int .i64 a4), .sc (.int .i64 (21 : Int))] []) (c_w2_within a4 (21 : Int)) w2_within_e fun (r4 : Int) => (.ask (decide (0 ≤ r4 ∧ r4 < (((R_i64 [a5, (-1 : Int), (8 : Int), (23 : Int), (24 : Int), (32 : Int), (33 : Int), (64 : Int), (127 : Int), (128 : Int), (255 : Int), (256 : Int), (-256 : Int), (-258 : Int), (32767 : Int), (32768 : Int), (-32769 : Int), (524288 : Int), (16777216 : Int), (3 : Int), (61 : Int)]).length : Nat) : Int))) (decide (0 ≤ r4 ∧ r4 < (([a5, (-1 : Int), (8 : Int), (23 : Int), (24 : Int), (32 : Int), (33 : Int), (64 : Int), (127 : Int), (128 : Int), (255 : Int), (256 : Int), (-256 : Int), (-258 : Int), (32767 : Int), (32768 : Int), (-32769 : Int), (524288 : Int), (16777216 : Int), (3 : Int), (61 : Int)].length : Nat) : Int))) (.row ((R_i64 [a5, (-1 : Int), (8 : Int), (23 : Int), (24 : Int), (32 : Int), (33 : Int), (64 : Int), (127 : Int), (128 : Int), (255 : Int), (256 : Int), (-256 : Int), (-258 : Int), (32767 : Int), (32768 : Int), (-32769 : Int), (524288 : Int), (16777216 : Int), (3 : Int), (61 : Int)])[(Int.toNat r4)]?) ([a5, (-1 : Int), (8 : Int), (23 : Int), (24 : Int), (32 : Int), (33 : Int), (64 : Int), (127 : Int), (128 : Int), (255 : Int), (256 : Int), (-256 : Int), (-258 : Int), (32767 : Int), (32768 : Int), (-32769 : Int), (524288 : Int), (16777216 : Int), (3 : Int), (61 : Int)][(Int.toNat r4)]?) C_i64 fun (e5 : Int) => (.ask (decide (0 ≤ r3 ∧ r3 < (((R_i64 r2.2).length : Nat) : Int))) (decide (0 ≤ r3 ∧ r3 < ((r2.2.length : Nat) : Int))) (.row ((R_i64 r2.2)[(Int.toNat r3)]?) (r2.2[(Int.toNat r3)]?) C_i64 fun (e6 : Int) => (.rows ((R_i64 r2.2).set (Int.toNat r3) [.sc (.int .i64 e5)]) (R_i64 (r2.2.set (Int.toNat r3) e5)) (.rows [] (R_i64 ([] : List Int)) (.yes (decide ((R_i64 (r2.2.set (Int.toNat r3) e5)).all (fun r => r.length == 1) = true)) (.ask (decide (((R_i64 ([] : List Int)).length + (R_i64 (r2.2.set (Int.toNat r3) e5)).length) * 8 ≤ most)) (decide ((([] : List Int).length + (r2.2.set (Int.toNat r3) e5).length) * 8 ≤ most)) (.rows ((R_i64 ([] : List Int)) ++ (R_i64 (r2.2.set (Int.toNat r3) e5))) (R_i64 (([] : List Int) ++ (r2.2.set (Int.toNat r3) e5))) (.rows [[.sc (.int .i64 (0 : Int))]] (R_i64 [(0 : Int)]) (.yes (decide ((R_i64 [(0 : Int)]).all (fun r => r.length == 1) = true)) (.ask (decide (((R_i64 (([] : List Int) ++ (r2.2.set (Int.toNat r3) e5))).length + (R_i64 [(0 : Int)]).length) * 8 ≤ most)) (decide (((([] : List Int) ++ (r2.2.set (Int.toNat r3) e5)).length + [(0 : Int)].length) * 8 ≤ most)) (.rows ((R_i64 (([] : List Int) ++ (r2.2.set (Int.toNat r3) e5))) ++ (R_i64 [(0 : Int)])) (R_i64 ((([] : List Int) ++ (r2.2.set (Int.toNat r3) e5)) ++ [(0 : Int)])) (.rows [[.sc (.int .i64 a0.Op), .sl (R_i64 a0.F)], [.sc (.int .i64 r2.1), .sl (R_i64 (r2.2.set (Int.toNat r3) e5))], [.sc (.int .i64 r2.1), .sl (R_i64 ((([] : List Int) ++ (r2.2.set (Int.toNat r3) e5)) ++ [(0 : Int)]))], [.sc (.int .i64 a5), .sl (R_i64 ([] : List Int))]] (R_api_Inst [a0, (T_api_Inst.mk r2.1 (r2.2.set (Int.toNat r3) e5)), (T_api_Inst.mk r2.1 ((([] : List Int) ++ (r2.2.set (Int.toNat r3) e5)) ++ [(0 : Int)])), (T_api_Inst.mk a5 ([] : List Int))]) (.loop2 (loopAt P 10 13) (w2_IsaRight_L1_s (w2_IsaRight_L1_A.mk [a0, (T_api_Inst.mk r2.1 (r2.2.set (Int.toNat r3) e5)), (T_api_Inst.mk r2.1 ((([] : List Int) ++ (r2.2.set (Int.toNat r3) e5)) ++ [(0 : Int)])), (T_api_Inst.mk a5 ([] : List Int))] (0 : Int))) (l_w2_IsaRight_L1 (w2_IsaRight_L1_A.mk [a0, (T_api_Inst.mk r2.1 (r2.2.set (Int.toNat r3) e5)), (T_api_Inst.mk r2.1 ((([] : List Int) ++ (r2.2.set (Int.toNat r3) e5)) ++ [(0 : Int)])), (T_api_Inst.mk a5 ([] : List Int))] (0 : Int))) w2_IsaRight_L1_e0 w2_IsaRight_L1_e1 (fun (o7 : Bool) => (rt w2_IsaRight_e o7)) (fun (o8 : Unit) => (rt w2_IsaRight_e true))))) .fail)))) .fail))))) .fail)) .fail))))) (.call (call 17 [.sc (.int .i64 a4), .sc (.int .i64 (2 : Int))] []) (c_w2_within a4 (2 : Int)) w2_within_e fun (r9 : Int) => (.as (r9 == (0 : Int)) (.rows [[.sc (.int .i64 a5)]] (R_i64 [a5]) (.yes (decide ((R_i64 [a5]).all (fun r => r.length == 1) = true)) (.ask (decide (((R_i64 r2.2).length + (R_i64 [a5]).length) * 8 ≤ most)) (decide ((r2.2.length + [a5].length) * 8 ≤ most)) (.rows ((R_i64 r2.2) ++ (R_i64 [a5])) (R_i64 (r2.2 ++ [a5])) (.rows [] (R_i64 ([] : List Int)) (.yes (decide ((R_i64 (r2.2 ++ [a5])).all (fun r => r.length == 1) = true)) (.ask (decide (((R_i64 ([] : List Int)).length + (R_i64 (r2.2 ++ [a5])).length) * 8 ≤ most)) (decide ((([] : List Int).length + (r2.2 ++ [a5]).length) * 8 ≤ most)) (.rows ((R_i64 ([] : List Int)) ++ (R_i64 (r2.2 ++ [a5]))) (R_i64 (([] : List Int) ++ (r2.2 ++ [a5]))) (.rows [[.sc (.int .i64 (0 : Int))]] (R_i64 [(0 : Int)]) (.yes (decide ((R_i64 [(0 : Int)]).all (fun r => r.length == 1) = true)) (.ask (decide (((R_i64 (([] : List Int) ++ (r2.2 ++ [a5]))).length + (R_i64 [(0 : Int)]).length) * 8 ≤ most)) (decide (((([] : List Int) ++ (r2.2 ++ [a5])).length + [(0 : Int)].length) * 8 ≤ most)) (.rows ((R_i64 (([] : List Int) ++ (r2.2 ++ [a5]))) ++ (R_i64 [(0 : Int)])) (R_i64 ((([] : List Int) ++ (r2.2 ++ [a5])) ++ [(0 : Int)])) (.rows [[.sc (.int .i64 a0.Op), .sl (R_i64 a0.F)], [.sc (.int .i64 r2.1), .sl (R_i64 (r2.2 ++ [a5]))], [.sc (.int .i64 r2.1), .sl (R_i64 ((([] : List Int) ++ (r2.2 ++ [a5])) ++ [(0 : Int)]))], [.sc (.int .i64 a5), .sl (R_i64 ([] : List Int))]] (R_api_Inst [a0, (T_api_Inst.mk r2.1 (r2.2 ++ [a5])), (T_api_Inst.mk r2.1 ((([] : List Int) ++ (r2.2 ++ [a5])) ++ [(0 : Int)])), (T_api_Inst.mk a5 ([] : List Int))]) (.loop2 (loopAt P 10 13) (w2_IsaRight_L1_s (w2_IsaRight_L1_A.mk [a0, (T_api_Inst.mk r2.1 (r2.2 ++ [a5])), (T_api_Inst.mk r2.1 ((([] : List Int) ++ (r2.2 ++ [a5])) ++ [(0 : Int)])), (T_api_Inst.mk a5 ([] : List Int))] (0 : Int))) (l_w2_IsaRight_L1 (w2_IsaRight_L1_A.mk [a0, (T_api_Inst.mk r2.1 (r2.2 ++ [a5])), (T_api_Inst.mk r2.1 ((([] : List Int) ++ (r2.2 ++ [a5])) ++ [(0 : Int)])), (T_api_Inst.mk a5 ([] : List Int))] (0 : Int))) w2_IsaRight_L1_e0 w2_IsaRight_L1_e1 (fun (o10 : Bool) => (rt w2_IsaRight_e o10)) (fun (o11 : Unit) => (rt w2_IsaRight_e true))))) .fail)))) .fail)))) .fail))) (.rows [] (R_i64 ([] : List Int)) (.yes (decide ((R_i64 r2.2).all (fun r => r.length == 1) = true)) (.ask (decide (((R_i64 ([] : List Int)).length + (R_i64 r2.2).length) * 8 ≤ most)) (decide ((([] : List Int).length + r2.2.length) * 8 ≤ most)) (.rows ((R_i64 ([] : List Int)) ++ (R_i64 r2.2)) (R_i64 (([] : List Int) ++ r2.2)) (.rows [[.sc (.int .i64 (0 : Int))]] (R_i64 [(0 : Int)]) (.yes (decide ((R_i64 [(0 : Int)]).all (fun r => r.length == 1) = true)) (.ask (decide (((R_i64 (([] : List Int) ++ r2.2)).length + (R_i64 [(0 : Int)]).length) * 8 ≤ most)) (decide (((([] : List Int) ++ r2.2).length + [(0 : Int)].length) * 8 ≤ most)) (.rows ((R_i64 (([] : List Int) ++ r2.2)) ++ (R_i64 [(0 : Int)])) (R_i64 ((([] : List Int) ++ r2.2) ++ [(0 : Int)])) (.rows [[.sc (.int .i64 a0.Op), .sl (R_i64 a0.F)], [.sc (.int .i64 r2.1), .sl (R_i64 r2.2)], [.sc (.int .i64 r2.1), .sl (R_i64 ((([] : List Int) ++ r2.2) ++ [(0 : Int)]))], [.sc (.int .i64 a5), .sl (R_i64 ([] : List Int))]] (R_api_Inst [a0, (T_api_Inst.mk r2.1 r2.2), (T_api_Inst.mk r2.1 ((([] : List Int) ++ r2.2) ++ [(0 : Int)])), (T_api_Inst.mk a5 ([] : List Int))]) (.loop2 (loopAt P 10 13) (w2_IsaRight_L1_s (w2_IsaRight_L1_A.mk [a0, (T_api_Inst.mk r2.1 r2.2), (T_api_Inst.mk r2.1 ((([] : List Int) ++ r2.2) ++ [(0 : Int)])), (T_api_Inst.mk a5 ([] : List Int))] (0 : Int))) (l_w2_IsaRight_L1 (w2_IsaRight_L1_A.mk [a0, (T_api_Inst.mk r2.1 r2.2), (T_api_Inst.mk r2.1 ((([] : List Int) ++ r2.2) ++ [(0 : Int)])), (T_api_Inst.mk a5 ([] : List Int))] (0 : Int))) w2_IsaRight_L1_e0 w2_IsaRight_L1_e1 (fun (o12 : Bool) => (rt w2_IsaRight_e o12)) (fun (o13 : Unit) => (rt w2_IsaRight_e true))))) .fail)))) .fail))))))))))))
theorem w2_IsaRight_d (P : Program) (call : CallF) (c_w2_known : Option Bool) (c_w2_Make : Int → (List Int) → Option (Int × (List Int))) (c_w2_within : Int → Int → Option Int) (l_w2_IsaRight_L1 : w2_IsaRight_L1_A → Option (Bool ⊕ Unit)) (a0 : T_api_Inst) (a1 : Int) (a2 : (List Int)) (a3 : Int) (a4 : Int) (a5 : Int) : (w2_IsaRight_t P call c_w2_known c_w2_Make c_w2_within l_w2_IsaRight_L1 a0 a1 a2 a3 a4 a5).den = w2_IsaRight_b c_w2_known c_w2_Make c_w2_within l_w2_IsaRight_L1 a0 a1 a2 a3 a4 a5 := rfl
theorem w2_IsaRight_n (call : CallF) (c_w2_known : Option Bool) (c_w2_Make : Int → (List Int) → Option (Int × (List Int))) (c_w2_within : Int → Int → Option Int) (l_w2_IsaRight_L1 : w2_IsaRight_L1_A → Option (Bool ⊕ Unit)) (a0 : T_api_Inst) (a1 : Int) (a2 : (List Int)) (a3 : Int) (a4 : Int) (a5 : Int) : (w2_IsaRight_t Tryd.prog call c_w2_known c_w2_Make c_w2_within l_w2_IsaRight_L1 a0 a1 a2 a3 a4 a5).norm (bodyT Tryd.prog call G 10 [.agg (C_api_Inst a0), .sc (.int .i64 a1), .sl (R_i64 a2), .sc (.int .i64 a3), .sc (.int .i64 a4), .sc (.int .i64 a5)] []) = w2_IsaRight_t Tryd.prog call c_w2_known c_w2_Make c_w2_within l_w2_IsaRight_L1 a0 a1 a2 a3 a4 a5 := by kernel_rfl
theorem w2_IsaRight_k (P : Program) (call : CallF) (lp : Loops) (c_w2_known : Option Bool) (c_w2_Make : Int → (List Int) → Option (Int × (List Int))) (c_w2_within : Int → Int → Option Int) (l_w2_IsaRight_L1 : w2_IsaRight_L1_A → Option (Bool ⊕ Unit)) (hc_w2_known : ∀  (r : Bool), c_w2_known = some r → (call 14 [] []) = some (w2_known_e r)) (hc_w2_Make : ∀ (a0 : Int) (a1 : (List Int)) (r : (Int × (List Int))), c_w2_Make a0 a1 = some r → (call 16 [.sc (.int .i64 a0), .sl (R_i64 a1)] []) = some (w2_Make_e r)) (hc_w2_within : ∀ (a0 : Int) (a1 : Int) (r : Int), c_w2_within a0 a1 = some r → (call 17 [.sc (.int .i64 a0), .sc (.int .i64 a1)] []) = some (w2_within_e r)) (hl_w2_IsaRight_L1 : ∀ (a : w2_IsaRight_L1_A) (r : (Bool ⊕ Unit)), l_w2_IsaRight_L1 a = some r → lp (loopAt P 10 13) (w2_IsaRight_L1_s a) = some (w2_IsaRight_L1_e r)) (a0 : T_api_Inst) (a1 : Int) (a2 : (List Int)) (a3 : Int) (a4 : Int) (a5 : Int) : (w2_IsaRight_t P call c_w2_known c_w2_Make c_w2_within l_w2_IsaRight_L1 a0 a1 a2 a3 a4 a5).ok lp w2_IsaRight_e := fun r1 hr1 => ⟨hc_w2_known _ hr1, ⟨rfl, fun h0 => rfl, fun h0 => ⟨(R_i64_len _), ⟨rfl, fun h1 => rfl, fun h1 => fun r2 hr2 => ⟨hc_w2_Make _ _ _ hr2, ⟨(R_i64_len _), ⟨rfl, fun h2 => ⟨(R_i64_len _), fun r3 hr3 => ⟨hc_w2_within _ _ _ hr3, ⟨(R_i64_map [a5, (-1 : Int), (8 : Int), (23 : Int), (24 : Int), (32 : Int), (33 : Int), (64 : Int), (127 : Int), (128 : Int), (255 : Int), (256 : Int), (-256 : Int), (-258 : Int), (32767 : Int), (32768 : Int), (-32769 : Int), (524288 : Int), (16777216 : Int), (3 : Int), (61 : Int)]), fun r4 hr4 => ⟨hc_w2_within _ _ _ hr4, ⟨(by rw [R_i64_len]), fun h3 => fun e5 he5 => ⟨R_i64_get he5, ⟨(by rw [R_i64_len]), fun h4 => fun e6 he6 => ⟨R_i64_get he6, ⟨(R_i64_set _ _ _), ⟨(R_i64_map ([] : List Int)), ⟨(decide_eq_true (R_i64_all _)), ⟨(by rw [R_i64_len, R_i64_len]), fun h5 => ⟨(R_i64_append _ _), ⟨(R_i64_map [(0 : Int)]), ⟨(decide_eq_true (R_i64_all _)), ⟨(by rw [R_i64_len, R_i64_len]), fun h6 => ⟨(R_i64_append _ _), ⟨(R_api_Inst_map [a0, (T_api_Inst.mk r2.1 (r2.2.set (Int.toNat r3) e5)), (T_api_Inst.mk r2.1 ((([] : List Int) ++ (r2.2.set (Int.toNat r3) e5)) ++ [(0 : Int)])), (T_api_Inst.mk a5 ([] : List Int))]), ⟨fun o7 ho7 => ⟨hl_w2_IsaRight_L1 _ (.inl _) ho7, rfl⟩, fun o8 ho8 => ⟨hl_w2_IsaRight_L1 _ (.inr _) ho8, rfl⟩⟩⟩⟩, fun h6 => trivial⟩⟩⟩⟩, fun h5 => trivial⟩⟩⟩⟩⟩, fun h4 => trivial⟩⟩, fun h3 => trivial⟩⟩⟩⟩⟩, fun h2 => fun r9 hr9 => ⟨hc_w2_within _ _ _ hr9, ⟨rfl, fun h3 => ⟨(R_i64_map [a5]), ⟨(decide_eq_true (R_i64_all _)), ⟨(by rw [R_i64_len, R_i64_len]), fun h4 => ⟨(R_i64_append _ _), ⟨(R_i64_map ([] : List Int)), ⟨(decide_eq_true (R_i64_all _)), ⟨(by rw [R_i64_len, R_i64_len]), fun h5 => ⟨(R_i64_append _ _), ⟨(R_i64_map [(0 : Int)]), ⟨(decide_eq_true (R_i64_all _)), ⟨(by rw [R_i64_len, R_i64_len]), fun h6 => ⟨(R_i64_append _ _), ⟨(R_api_Inst_map [a0, (T_api_Inst.mk r2.1 (r2.2 ++ [a5])), (T_api_Inst.mk r2.1 ((([] : List Int) ++ (r2.2 ++ [a5])) ++ [(0 : Int)])), (T_api_Inst.mk a5 ([] : List Int))]), ⟨fun o10 ho10 => ⟨hl_w2_IsaRight_L1 _ (.inl _) ho10, rfl⟩, fun o11 ho11 => ⟨hl_w2_IsaRight_L1 _ (.inr _) ho11, rfl⟩⟩⟩⟩, fun h6 => trivial⟩⟩⟩⟩, fun h5 => trivial⟩⟩⟩⟩, fun h4 => trivial⟩⟩⟩, fun h3 => ⟨(R_i64_map ([] : List Int)), ⟨(decide_eq_true (R_i64_all _)), ⟨(by rw [R_i64_len, R_i64_len]), fun h4 => ⟨(R_i64_append _ _), ⟨(R_i64_map [(0 : Int)]), ⟨(decide_eq_true (R_i64_all _)), ⟨(by rw [R_i64_len, R_i64_len]), fun h5 => ⟨(R_i64_append _ _), ⟨(R_api_Inst_map [a0, (T_api_Inst.mk r2.1 r2.2), (T_api_Inst.mk r2.1 ((([] : List Int) ++ r2.2) ++ [(0 : Int)])), (T_api_Inst.mk a5 ([] : List Int))]), ⟨fun o12 ho12 => ⟨hl_w2_IsaRight_L1 _ (.inl _) ho12, rfl⟩, fun o13 ho13 => ⟨hl_w2_IsaRight_L1 _ (.inr _) ho13, rfl⟩⟩⟩⟩, fun h5 => trivial⟩⟩⟩⟩, fun h4 => trivial⟩⟩⟩⟩⟩⟩⟩⟩⟩⟩⟩⟩
theorem w2_IsaRight_m {c_w2_known d_w2_known : Option Bool} (h_w2_known : Le (c_w2_known ) (d_w2_known )) {c_w2_Make d_w2_Make : Int → (List Int) → Option (Int × (List Int))} (h_w2_Make : ∀ (a0 : Int) (a1 : (List Int)), Le (c_w2_Make a0 a1) (d_w2_Make a0 a1)) {c_w2_within d_w2_within : Int → Int → Option Int} (h_w2_within : ∀ (a0 : Int) (a1 : Int), Le (c_w2_within a0 a1) (d_w2_within a0 a1)) {l_w2_IsaRight_L1 m_w2_IsaRight_L1 : w2_IsaRight_L1_A → Option (Bool ⊕ Unit)} (hl_w2_IsaRight_L1 : ∀ a, Le (l_w2_IsaRight_L1 a) (m_w2_IsaRight_L1 a)) (a0 : T_api_Inst) (a1 : Int) (a2 : (List Int)) (a3 : Int) (a4 : Int) (a5 : Int) : Le (w2_IsaRight_b c_w2_known c_w2_Make c_w2_within l_w2_IsaRight_L1 a0 a1 a2 a3 a4 a5) (w2_IsaRight_b d_w2_known d_w2_Make d_w2_within m_w2_IsaRight_L1 a0 a1 a2 a3 a4 a5) := by
  unfold w2_IsaRight_b
  exact .bind (h_w2_known) fun r1 => .cond (.refl _) (.cond (.refl _) (.bind (h_w2_Make _ _) fun r2 => .cond (.bind (h_w2_within _ _) fun r3 => .bind (h_w2_within _ _) fun r4 => .cond (.bind (.refl ([a5, (-1 : Int), (8 : Int), (23 : Int), (24 : Int), (32 : Int), (33 : Int), (64 : Int), (127 : Int), (128 : Int), (255 : Int), (256 : Int), (-256 : Int), (-258 : Int), (32767 : Int), (32768 : Int), (-32769 : Int), (524288 : Int), (16777216 : Int), (3 : Int), (61 : Int)][(Int.toNat r4)]?)) fun e5 => .cond (.bind (.refl (r2.2[(Int.toNat r3)]?)) fun e6 => .cond (.cond (.bind (hl_w2_IsaRight_L1 _) fun x => .sum (fun o7 => .refl _) (fun o8 => .refl _) x) (.refl _)) (.refl _)) (.refl _)) (.refl _)) (.bind (h_w2_within _ _) fun r9 => .cond (.cond (.cond (.cond (.bind (hl_w2_IsaRight_L1 _) fun x => .sum (fun o10 => .refl _) (fun o11 => .refl _) x) (.refl _)) (.refl _)) (.refl _)) (.cond (.cond (.bind (hl_w2_IsaRight_L1 _) fun x => .sum (fun o12 => .refl _) (fun o13 => .refl _) x) (.refl _)) (.refl _)))))
theorem w2_IsaRight_c {c_w2_known : Nat → Option Bool} {d_w2_known : Option Bool} (h_w2_known : Cv (fun k => c_w2_known k ) (d_w2_known )) {c_w2_Make : Nat → Int → (List Int) → Option (Int × (List Int))} {d_w2_Make : Int → (List Int) → Option (Int × (List Int))} (h_w2_Make : ∀ (a0 : Int) (a1 : (List Int)), Cv (fun k => c_w2_Make k a0 a1) (d_w2_Make a0 a1)) {c_w2_within : Nat → Int → Int → Option Int} {d_w2_within : Int → Int → Option Int} (h_w2_within : ∀ (a0 : Int) (a1 : Int), Cv (fun k => c_w2_within k a0 a1) (d_w2_within a0 a1)) {l_w2_IsaRight_L1 : Nat → w2_IsaRight_L1_A → Option (Bool ⊕ Unit)} {m_w2_IsaRight_L1 : w2_IsaRight_L1_A → Option (Bool ⊕ Unit)} (hl_w2_IsaRight_L1 : ∀ a, Cv (fun k => l_w2_IsaRight_L1 k a) (m_w2_IsaRight_L1 a)) (a0 : T_api_Inst) (a1 : Int) (a2 : (List Int)) (a3 : Int) (a4 : Int) (a5 : Int) : Cv (fun k => w2_IsaRight_b (c_w2_known k) (c_w2_Make k) (c_w2_within k) (l_w2_IsaRight_L1 k) a0 a1 a2 a3 a4 a5) (w2_IsaRight_b d_w2_known d_w2_Make d_w2_within m_w2_IsaRight_L1 a0 a1 a2 a3 a4 a5) := by
  unfold w2_IsaRight_b
  exact .bind (h_w2_known) fun r1 => .cond (by exact .const _) (.cond (by exact .const _) (.bind (h_w2_Make _ _) fun r2 => .cond (.bind (h_w2_within _ _) fun r3 => .bind (h_w2_within _ _) fun r4 => .cond (.bind (.const ([a5, (-1 : Int), (8 : Int), (23 : Int), (24 : Int), (32 : Int), (33 : Int), (64 : Int), (127 : Int), (128 : Int), (255 : Int), (256 : Int), (-256 : Int), (-258 : Int), (32767 : Int), (32768 : Int), (-32769 : Int), (524288 : Int), (16777216 : Int), (3 : Int), (61 : Int)][(Int.toNat r4)]?)) fun e5 => .cond (.bind (.const (r2.2[(Int.toNat r3)]?)) fun e6 => .cond (.cond (.bind (hl_w2_IsaRight_L1 _) fun x => .sum (fun o7 => by exact .const _) (fun o8 => by exact .const _) x) (by exact .const _)) (by exact .const _)) (by exact .const _)) (by exact .const _)) (.bind (h_w2_within _ _) fun r9 => .cond (.cond (.cond (.cond (.bind (hl_w2_IsaRight_L1 _) fun x => .sum (fun o10 => by exact .const _) (fun o11 => by exact .const _) x) (by exact .const _)) (by exact .const _)) (by exact .const _)) (.cond (.cond (.bind (hl_w2_IsaRight_L1 _) fun x => .sum (fun o12 => by exact .const _) (fun o13 => by exact .const _) x) (by exact .const _)) (by exact .const _)))))
def w2_IsaRight.s : Nat → T_api_Inst → Int → (List Int) → Int → Int → Int → Option Bool
  | 0, _, _, _, _, _, _ => none
  | k + 1, a0, a1, a2, a3, a4, a5 => w2_IsaRight_b (w2_known.s k) (fun a0 a1 => w2_Make.s k a0 a1) (fun a0 a1 => w2_within.s k a0 a1) (w2_IsaRight_L1.s k (fun a0 => isa_Encode.s k a0) (fun a0 => r2_Encode.s k a0) (fun a0 => isa_Right.s k a0) (fun a0 => r2_Right.s k a0)) a0 a1 a2 a3 a4 a5
theorem w2_IsaRight.ok : ∀ (k : Nat), ∀ (a0 : T_api_Inst) (a1 : Int) (a2 : (List Int)) (a3 : Int) (a4 : Int) (a5 : Int) (r : Bool), w2_IsaRight.s k a0 a1 a2 a3 a4 a5 = some r → evalFn Tryd.prog G k 10 [.agg (C_api_Inst a0), .sc (.int .i64 a1), .sl (R_i64 a2), .sc (.int .i64 a3), .sc (.int .i64 a4), .sc (.int .i64 a5)] [] = some (w2_IsaRight_e r)
  | 0, _, _, _, _, _, _, _, h => (nomatch h)
  | k + 1, a0, a1, a2, a3, a4, a5, r, h => fn_ok rfl (w2_IsaRight_t Tryd.prog (evalFn Tryd.prog G k) (w2_known.s k) (fun a0 a1 => w2_Make.s k a0 a1) (fun a0 a1 => w2_within.s k a0 a1) (w2_IsaRight_L1.s k (fun a0 => isa_Encode.s k a0) (fun a0 => r2_Encode.s k a0) (fun a0 => isa_Right.s k a0) (fun a0 => r2_Right.s k a0)) a0 a1 a2 a3 a4 a5) (w2_IsaRight_n _ (w2_known.s k) (fun a0 a1 => w2_Make.s k a0 a1) (fun a0 a1 => w2_within.s k a0 a1) (w2_IsaRight_L1.s k (fun a0 => isa_Encode.s k a0) (fun a0 => r2_Encode.s k a0) (fun a0 => isa_Right.s k a0) (fun a0 => r2_Right.s k a0)) a0 a1 a2 a3 a4 a5) (w2_IsaRight_k _ _ _ (w2_known.s k) (fun a0 a1 => w2_Make.s k a0 a1) (fun a0 a1 => w2_within.s k a0 a1) (w2_IsaRight_L1.s k (fun a0 => isa_Encode.s k a0) (fun a0 => r2_Encode.s k a0) (fun a0 => isa_Right.s k a0) (fun a0 => r2_Right.s k a0)) (w2_known.ok k) (w2_Make.ok k) (w2_within.ok k) (w2_IsaRight_L1_ok _ k (fun a0 => isa_Encode.s k a0) (fun a0 => r2_Encode.s k a0) (fun a0 => isa_Right.s k a0) (fun a0 => r2_Right.s k a0) (isa_Encode.ok k) (r2_Encode.ok k) (isa_Right.ok k) (r2_Right.ok k)) a0 a1 a2 a3 a4 a5) ((w2_IsaRight_d _ _ (w2_known.s k) (fun a0 a1 => w2_Make.s k a0 a1) (fun a0 a1 => w2_within.s k a0 a1) (w2_IsaRight_L1.s k (fun a0 => isa_Encode.s k a0) (fun a0 => r2_Encode.s k a0) (fun a0 => isa_Right.s k a0) (fun a0 => r2_Right.s k a0)) a0 a1 a2 a3 a4 a5).trans h)
theorem w2_IsaRight.mono : ∀ (k : Nat) (a0 : T_api_Inst) (a1 : Int) (a2 : (List Int)) (a3 : Int) (a4 : Int) (a5 : Int), Le (w2_IsaRight.s k a0 a1 a2 a3 a4 a5) (w2_IsaRight.s (k + 1) a0 a1 a2 a3 a4 a5)
  | 0, _, _, _, _, _, _ => fun r h => (nomatch h)
  | k + 1, a0, a1, a2, a3, a4, a5 => w2_IsaRight_m (w2_known.mono k) (w2_Make.mono k) (w2_within.mono k) (w2_IsaRight_L1.m (Nat.le_succ k) (fun a0 => isa_Encode.s k a0) (fun a0 => r2_Encode.s k a0) (fun a0 => isa_Right.s k a0) (fun a0 => r2_Right.s k a0) (fun a0 => isa_Encode.s (k + 1) a0) (fun a0 => r2_Encode.s (k + 1) a0) (fun a0 => isa_Right.s (k + 1) a0) (fun a0 => r2_Right.s (k + 1) a0) (isa_Encode.mono k) (r2_Encode.mono k) (isa_Right.mono k) (r2_Right.mono k)) a0 a1 a2 a3 a4 a5
noncomputable def w2_IsaRight (a0 : T_api_Inst) (a1 : Int) (a2 : (List Int)) (a3 : Int) (a4 : Int) (a5 : Int) : Option Bool := lim fun k => w2_IsaRight.s k a0 a1 a2 a3 a4 a5
theorem w2_IsaRight.cv (a0 : T_api_Inst) (a1 : Int) (a2 : (List Int)) (a3 : Int) (a4 : Int) (a5 : Int) : Cv (fun k => w2_IsaRight.s k a0 a1 a2 a3 a4 a5) (w2_IsaRight a0 a1 a2 a3 a4 a5) := .lim fun k => w2_IsaRight.mono k a0 a1 a2 a3 a4 a5
noncomputable def w2_IsaRight_L1 : w2_IsaRight_L1_A → Option (Bool ⊕ Unit) := w2_IsaRight_L1.w isa_Encode r2_Encode isa_Right r2_Right
theorem w2_IsaRight_L1.eq (a : w2_IsaRight_L1_A) : w2_IsaRight_L1 a = (w2_IsaRight_L1_b isa_Encode r2_Encode isa_Right r2_Right a).bind (Sum.elim w2_IsaRight_L1 some) := loopW_eq _ _
theorem w2_IsaRight.eq (a0 : T_api_Inst) (a1 : Int) (a2 : (List Int)) (a3 : Int) (a4 : Int) (a5 : Int) : w2_IsaRight a0 a1 a2 a3 a4 a5 = w2_IsaRight_b w2_known w2_Make w2_within w2_IsaRight_L1 a0 a1 a2 a3 a4 a5 := Cv.uniq (w2_IsaRight.cv a0 a1 a2 a3 a4 a5).shift (w2_IsaRight_c w2_known.cv w2_Make.cv w2_within.cv (w2_IsaRight_L1.cv (fun k => fun a0 => isa_Encode.s k a0) (fun k => fun a0 => r2_Encode.s k a0) (fun k => fun a0 => isa_Right.s k a0) (fun k => fun a0 => r2_Right.s k a0) isa_Encode r2_Encode isa_Right r2_Right isa_Encode.cv r2_Encode.cv isa_Right.cv r2_Right.cv) a0 a1 a2 a3 a4 a5)
theorem w2_IsaRight.run (a0 : T_api_Inst) (a1 : Int) (a2 : (List Int)) (a3 : Int) (a4 : Int) (a5 : Int) {r : Bool} (h : w2_IsaRight a0 a1 a2 a3 a4 a5 = some r) : ∃ k, evalFn Tryd.prog G k 10 [.agg (C_api_Inst a0), .sc (.int .i64 a1), .sl (R_i64 a2), .sc (.int .i64 a3), .sc (.int .i64 a4), .sc (.int .i64 a5)] [] = some (w2_IsaRight_e r) :=
  let ⟨k, hk⟩ := ((w2_IsaRight.cv a0 a1 a2 a3 a4 a5).2 r).1 h
  ⟨k, w2_IsaRight.ok k a0 a1 a2 a3 a4 a5 r hk⟩

end Go.Ab
namespace Go.Proofs.YticofbaajdgabaaDoor
open Go Go.Ab Go.RowKit Go.Shelf
theorem gSp : Tryd.prog.globalNamed "strings.asciiSpace" = some 0 := by kernel_rfl
theorem tSp : (Tryd.prog.globals[0]?).map (·.type) = some 96 := by kernel_rfl
theorem cells_u8 : Tryd.prog.cellsOf 5 = 1 := by kernel_rfl
theorem cells_sp : Tryd.prog.cellsOf 96 = 256 := by kernel_rfl
theorem datum {H : Type} : (Rows.laid_strings_asciiSpace : DataW H) = Lib.tabData .u8 Lib.asciiSpaceTab := by kernel_rfl
def told : Ab.Told := told1 Tryd.prog "strings.asciiSpace" 0 (Lib.asciiSpaceTab.map fun z => Value.int .u8 z).toArray
theorem told_of {W : World} (h : laidMetH Tryd.prog [("unicode.White_Space", Rows.laid_unicode_White_Space), ("strings.asciiSpace", Rows.laid_strings_asciiSpace)] W) : told.T (oldCtx W).Z W := by
  rw [MakeChecks.laidMetH_plain _ _ _ (by kernel_rfl)] at h
  obtain ⟨ps, ⟨g0, t0, cs0, f0, p0, q0, hg0, ht0, hv0, hd0, ⟨g2, t2, cs2, f2, p2, q2, hg2, ht2, hv2, hd2, _⟩, _⟩, _⟩ := h
  obtain rfl := Option.some.inj (gSp.symm.trans hg2)
  obtain rfl := Option.some.inj (tSp.symm.trans ht2)
  rw [datum] at hd2
  refine tabT_old gSp (hv2.trans ?_) (of_decide_eq_true (by kernel_rfl))
  have := Lib.cells_of_tab Tryd.underlying96 Tryd.underlying5 cells_u8 cells_sp hd2
  rw [← this]
set_option maxHeartbeats 2000000 in
set_option maxRecDepth 100000 in
theorem cli_nil (n c : Nat) (w : World) : Calls Tryd.prog 44 #[.slice none n c] w fun e w' => e = .returned (.slice none 0 0) ∧ w' = w := by
  have mixed : Tryd.prog.follows .mixedOrders = true := by kernel_rfl
  have t0 := Tryd.underlying3; have a0 := Tryd.isAgg3; have z0 := Tryd.sizeOf3; have v0 := Tryd.zeroValue3; have t1 := Tryd.underlying23; have a1 := Tryd.isAgg23; have z1 := Tryd.sizeOf23; have v1 := Tryd.zeroValue23; have t2 := Tryd.underlying4; have a2 := Tryd.isAgg4; have z2 := Tryd.sizeOf4; have v2 := Tryd.zeroValue4
  have q22 : ∀ (w : World) (a : Option Addr) (n c n' c' : Nat), (binOp .eql 23 (.slice a n c) (.slice none n' c')).run Tryd.prog w = .ok (.bool a.isNone) w := fun w a n c n' c' => Lib.run_eql_slice_nil w _ _ a n c n' c' t1
  go_enter Tryd.func44, Tryd.ntmps44
  go_wp2
  go_ret
  exact ⟨rfl, rfl⟩
set_option maxHeartbeats 2000000 in
set_option maxRecDepth 100000 in
theorem cli_zero (a : Addr) (c : Nat) (w : World) : Calls Tryd.prog 44 #[.slice (some a) 0 c] w fun e w' => ∃ v', e = .returned v' ∧ w'.ownsRow w.heap.size 3 1 v' 0 [] ∧ Below w.heap.size w w' := by
  have mixed : Tryd.prog.follows .mixedOrders = true := by kernel_rfl
  have t0 := Tryd.underlying3; have a0 := Tryd.isAgg3; have z0 := Tryd.sizeOf3; have v0 := Tryd.zeroValue3; have t1 := Tryd.underlying23; have a1 := Tryd.isAgg23; have z1 := Tryd.sizeOf23; have v1 := Tryd.zeroValue23; have t2 := Tryd.underlying4; have a2 := Tryd.isAgg4; have z2 := Tryd.sizeOf4; have v2 := Tryd.zeroValue4
  have q22 : ∀ (w : World) (a : Option Addr) (n c n' c' : Nat), (binOp .eql 23 (.slice a n c) (.slice none n' c')).run Tryd.prog w = .ok (.bool a.isNone) w := fun w a n c n' c' => Lib.run_eql_slice_nil w _ _ a n c n' c' t1
  have hinfo : (Tryd.prog.info? 3).map (fun i => (i.zero, i.size, i.bytes)) = some (some (.int .i64 0), 1, 8) := by kernel_rfl
  obtain ⟨i0, hi, hz0, hz1, hz2⟩ := info_parts hinfo
  have u22 : ∀ w, Sem.run Tryd.prog (underlying 23) w = .ok (TypeDesc.slice 3) w := run_underlying t1
  go_enter Tryd.func44, Tryd.ntmps44
  go_wp2_with (at_builtin; refine wpList_append_own _ rfl _ _ 23 rfl w.heap.size 3 i0 (.int .i64 0) 1 8 t1 hi hz0 hz1 hz2 rfl (by decide) _ _ _ rfl (World.ownsRow_made w #[] 0 (Nat.le_refl _) (Nat.zero_le _) rfl) a 0 c [] rfl rfl (by intro j u hj; simp at hj) (by intro u hu; cases hu) (by unfold maxLen; omega) (by omega) (by simp) ?_)
  intro v' w1 hown hgrow hnil
  go_wp2
  go_ret
  refine ⟨v', rfl, by simpa using hown, ?_⟩
  exact ((Below.refl _ w).alloc (Nat.le_refl _) _).grown hgrow (by simp) (by intro k hk; simp [Value.ownBlock] at hk; omega)
set_option maxHeartbeats 2000000 in
set_option maxRecDepth 100000 in
theorem cli_some (b off c : Nat) (zs : List Value) (w : World) (hbig : zs.length * 8 ≤ 140737488355328) (hsc : zs.all scal = true) (hc : ∀ (j : Nat) z, zs[j]? = some z → w.cell? ⟨b, off + j, none⟩ = some z) :
    Calls Tryd.prog 44 #[.slice (some ⟨b, off, none⟩) zs.length c] w fun e w' => ∃ v', e = .returned v' ∧ w'.ownsRow w.heap.size 3 1 v' zs.length zs ∧ Below w.heap.size w w' := by
  have mixed : Tryd.prog.follows .mixedOrders = true := by kernel_rfl
  have t0 := Tryd.underlying3; have a0 := Tryd.isAgg3; have z0 := Tryd.sizeOf3; have v0 := Tryd.zeroValue3; have t1 := Tryd.underlying23; have a1 := Tryd.isAgg23; have z1 := Tryd.sizeOf23; have v1 := Tryd.zeroValue23; have t2 := Tryd.underlying4; have a2 := Tryd.isAgg4; have z2 := Tryd.sizeOf4; have v2 := Tryd.zeroValue4
  have q22 : ∀ (w : World) (a : Option Addr) (n c n' c' : Nat), (binOp .eql 23 (.slice a n c) (.slice none n' c')).run Tryd.prog w = .ok (.bool a.isNone) w := fun w a n c n' c' => Lib.run_eql_slice_nil w _ _ a n c n' c' t1
  have hinfo : (Tryd.prog.info? 3).map (fun i => (i.zero, i.size, i.bytes)) = some (some (.int .i64 0), 1, 8) := by kernel_rfl
  obtain ⟨i0, hi, hz0, hz1, hz2⟩ := info_parts hinfo
  have u22 : ∀ w, Sem.run Tryd.prog (underlying 23) w = .ok (TypeDesc.slice 3) w := run_underlying t1
  have A : Aside (∀ (j : Nat) z, zs[j]? = some z → w.cell? ⟨b, off + j, none⟩ = some z) := hc
  clear hc
  go_enter Tryd.func44, Tryd.ntmps44
  go_wp2_with (at_builtin; refine wpList_append_own _ rfl _ _ 23 rfl w.heap.size 3 i0 (.int .i64 0) 1 8 t1 hi hz0 hz1 hz2 rfl (by decide) _ _ _ rfl (World.ownsRow_made w #[] 0 (Nat.le_refl _) (Nat.zero_le _) rfl) ⟨b, off, none⟩ zs.length c zs rfl ?qc1 ?qc2 ?qc3 ?qc4 ?qc5 ?qc6 ?_)
  case qc1 => simp
  case qc2 =>
    intro j u hj
    rw [Addr.add_lit]
    exact Lib.cell?_alloc_some _ (A.out j u hj)
  case qc3 => intro u hu; exact oneCell_leaf (c := oldCtx w) (w := w) (.sc u (List.all_eq_true.1 hsc u hu)) rfl
  case qc4 => unfold maxLen; omega
  case qc5 => omega
  case qc6 => simp
  intro v' w1 hown hgrow hnil
  go_wp2
  go_ret
  refine ⟨v', rfl, by simpa using hown, ?_⟩
  exact ((Below.refl _ w).alloc (Nat.le_refl _) _).grown hgrow (by simp) (by intro k hk; simp [Value.ownBlock] at hk; omega)

set_option maxHeartbeats 2000000 in
set_option maxRecDepth 100000 in
theorem clb_nil (n c : Nat) (w : World) : Calls Tryd.prog 46 #[.slice none n c] w fun e w' => e = .returned (.slice none 0 0) ∧ w' = w := by
  have mixed : Tryd.prog.follows .mixedOrders = true := by kernel_rfl
  have t0 := Tryd.underlying5; have a0 := Tryd.isAgg5; have z0 := Tryd.sizeOf5; have v0 := Tryd.zeroValue5; have t1 := Tryd.underlying22; have a1 := Tryd.isAgg22; have z1 := Tryd.sizeOf22; have v1 := Tryd.zeroValue22; have t2 := Tryd.underlying4; have a2 := Tryd.isAgg4; have z2 := Tryd.sizeOf4; have v2 := Tryd.zeroValue4
  have q22 : ∀ (w : World) (a : Option Addr) (n c n' c' : Nat), (binOp .eql 22 (.slice a n c) (.slice none n' c')).run Tryd.prog w = .ok (.bool a.isNone) w := fun w a n c n' c' => Lib.run_eql_slice_nil w _ _ a n c n' c' t1
  go_enter Tryd.func46, Tryd.ntmps46
  go_wp2
  go_ret
  exact ⟨rfl, rfl⟩
set_option maxHeartbeats 2000000 in
set_option maxRecDepth 100000 in
theorem clb_zero (a : Addr) (c : Nat) (w : World) : Calls Tryd.prog 46 #[.slice (some a) 0 c] w fun e w' => ∃ v', e = .returned v' ∧ w'.ownsRow w.heap.size 5 1 v' 0 [] ∧ Below w.heap.size w w' := by
  have mixed : Tryd.prog.follows .mixedOrders = true := by kernel_rfl
  have t0 := Tryd.underlying5; have a0 := Tryd.isAgg5; have z0 := Tryd.sizeOf5; have v0 := Tryd.zeroValue5; have t1 := Tryd.underlying22; have a1 := Tryd.isAgg22; have z1 := Tryd.sizeOf22; have v1 := Tryd.zeroValue22; have t2 := Tryd.underlying4; have a2 := Tryd.isAgg4; have z2 := Tryd.sizeOf4; have v2 := Tryd.zeroValue4
  have q22 : ∀ (w : World) (a : Option Addr) (n c n' c' : Nat), (binOp .eql 22 (.slice a n c) (.slice none n' c')).run Tryd.prog w = .ok (.bool a.isNone) w := fun w a n c n' c' => Lib.run_eql_slice_nil w _ _ a n c n' c' t1
  have hinfo : (Tryd.prog.info? 5).map (fun i => (i.zero, i.size, i.bytes)) = some (some (.int .u8 0), 1, 1) := by kernel_rfl
  obtain ⟨i0, hi, hz0, hz1, hz2⟩ := info_parts hinfo
  have u22 : ∀ w, Sem.run Tryd.prog (underlying 22) w = .ok (TypeDesc.slice 5) w := run_underlying t1
  go_enter Tryd.func46, Tryd.ntmps46
  go_wp2_with (at_builtin; refine wpList_append_own _ rfl _ _ 22 rfl w.heap.size 5 i0 (.int .u8 0) 1 1 t1 hi hz0 hz1 hz2 rfl (by decide) _ _ _ rfl (World.ownsRow_made w #[] 0 (Nat.le_refl _) (Nat.zero_le _) rfl) a 0 c [] rfl rfl (by intro j u hj; simp at hj) (by intro u hu; cases hu) (by unfold maxLen; omega) (by omega) (by simp) ?_)
  intro v' w1 hown hgrow hnil
  go_wp2
  go_ret
  refine ⟨v', rfl, by simpa using hown, ?_⟩
  exact ((Below.refl _ w).alloc (Nat.le_refl _) _).grown hgrow (by simp) (by intro k hk; simp [Value.ownBlock] at hk; omega)
set_option maxHeartbeats 2000000 in
set_option maxRecDepth 100000 in
theorem clb_some (b off c : Nat) (zs : List Value) (w : World) (hbig : zs.length * 1 ≤ 140737488355328) (hsc : zs.all scal = true) (hc : ∀ (j : Nat) z, zs[j]? = some z → w.cell? ⟨b, off + j, none⟩ = some z) :
    Calls Tryd.prog 46 #[.slice (some ⟨b, off, none⟩) zs.length c] w fun e w' => ∃ v', e = .returned v' ∧ w'.ownsRow w.heap.size 5 1 v' zs.length zs ∧ Below w.heap.size w w' := by
  have mixed : Tryd.prog.follows .mixedOrders = true := by kernel_rfl
  have t0 := Tryd.underlying5; have a0 := Tryd.isAgg5; have z0 := Tryd.sizeOf5; have v0 := Tryd.zeroValue5; have t1 := Tryd.underlying22; have a1 := Tryd.isAgg22; have z1 := Tryd.sizeOf22; have v1 := Tryd.zeroValue22; have t2 := Tryd.underlying4; have a2 := Tryd.isAgg4; have z2 := Tryd.sizeOf4; have v2 := Tryd.zeroValue4
  have q22 : ∀ (w : World) (a : Option Addr) (n c n' c' : Nat), (binOp .eql 22 (.slice a n c) (.slice none n' c')).run Tryd.prog w = .ok (.bool a.isNone) w := fun w a n c n' c' => Lib.run_eql_slice_nil w _ _ a n c n' c' t1
  have hinfo : (Tryd.prog.info? 5).map (fun i => (i.zero, i.size, i.bytes)) = some (some (.int .u8 0), 1, 1) := by kernel_rfl
  obtain ⟨i0, hi, hz0, hz1, hz2⟩ := info_parts hinfo
  have u22 : ∀ w, Sem.run Tryd.prog (underlying 22) w = .ok (TypeDesc.slice 5) w := run_underlying t1
  have A : Aside (∀ (j : Nat) z, zs[j]? = some z → w.cell? ⟨b, off + j, none⟩ = some z) := hc
  clear hc
  go_enter Tryd.func46, Tryd.ntmps46
  go_wp2_with (at_builtin; refine wpList_append_own _ rfl _ _ 22 rfl w.heap.size 5 i0 (.int .u8 0) 1 1 t1 hi hz0 hz1 hz2 rfl (by decide) _ _ _ rfl (World.ownsRow_made w #[] 0 (Nat.le_refl _) (Nat.zero_le _) rfl) ⟨b, off, none⟩ zs.length c zs rfl ?qc1 ?qc2 ?qc3 ?qc4 ?qc5 ?qc6 ?_)
  case qc1 => simp
  case qc2 =>
    intro j u hj
    rw [Addr.add_lit]
    exact Lib.cell?_alloc_some _ (A.out j u hj)
  case qc3 => intro u hu; exact oneCell_leaf (c := oldCtx w) (w := w) (.sc u (List.all_eq_true.1 hsc u hu)) rfl
  case qc4 => unfold maxLen; omega
  case qc5 => omega
  case qc6 => simp
  intro v' w1 hown hgrow hnil
  go_wp2
  go_ret
  refine ⟨v', rfl, by simpa using hown, ?_⟩
  exact ((Below.refl _ w).alloc (Nat.le_refl _) _).grown hgrow (by simp) (by intro k hk; simp [Value.ownBlock] at hk; omega)

structure Dr (w w' : World) : Prop where mk :: (out : ∃ n, w' = w.drewN n)
theorem Dr.refl (w : World) : Dr w w := ⟨⟨0, rfl⟩⟩
theorem Dr.step {w w' : World} (h : Dr w w') (n : Nat) : Dr w (w'.drewN n) := by
  obtain ⟨⟨k, rfl⟩⟩ := h
  exact ⟨⟨k + n, World.drewN_drewN ..⟩⟩
theorem Dr.below {w w' : World} (h : Dr w w') : Below w.heap.size w w' := by
  obtain ⟨⟨n, rfl⟩⟩ := h; exact Joins.below_draws _ _ _
open Go.Fl (ldw)
theorem fl_tobits (c : Nat) (w : World) : (callFunc 94 #[.float .f64 c]).run Tryd.prog w = .ok (.value (.int .u64 c)) w := by kernel_rfl
theorem fl_frombits (n : Int) (w : World) : (callFunc 97 #[.int .u64 n]).run Tryd.prog w = .ok (.value (.float .f64 n.toNat)) w := by kernel_rfl
theorem fl_absone : Go.bits .andNot .u64 4607182418800017408 9223372036854775808 = 4607182418800017408 := by decide +kernel
theorem fl_mulfmt : ∀ n : Fin 41, FloatKind.f64.format.mul 4607182418800017408 (Go.bits .or .u64 0 (((n.val : Int) + 1023) * 4503599627370496)).toNat = some (ldw n.val) := by decide +kernel
theorem fl_mulone (k : Int) (h0 : 0 ≤ k) (h1 : k ≤ 40) (w : World) : (binOp .mul 105 (.float .f64 4607182418800017408) (.float .f64 (Go.bits .or .u64 0 ((k + 1023) * 4503599627370496)).toNat)).run Tryd.prog w = .ok (.float .f64 (ldw k)) w := by
  have h := fl_mulfmt ⟨k.toNat, by omega⟩
  simp only [Int.toNat_of_nonneg h0] at h
  simp [binOp, Op.floatArith, h]
theorem fl_negfmt : ∀ n : Fin 41, Op.negFloat .f64 (ldw n.val) = 9223372036854775808 + ldw n.val := by decide +kernel
theorem fl_neg (k : Int) (h0 : 0 ≤ k) (h1 : k ≤ 40) (w : World) : (Op.unary .neg (.float .f64 (ldw k))).run Tryd.prog w = .ok (.float .f64 (9223372036854775808 + ldw k)) w := by
  have h := fl_negfmt ⟨k.toNat, by omega⟩
  simp only [Int.toNat_of_nonneg h0] at h
  simp [Op.unary, h]
set_option maxHeartbeats 2000000 in
theorem fl_ldexp (k : Int) (h0 : 0 ≤ k) (h1 : k ≤ 40) (w : World) : Calls Tryd.prog 83 #[.float .f64 4607182418800017408, .int .i64 k] w fun e w' => e = .returned (.float .f64 (ldw k)) ∧ w = w' := by
  have tb := fl_tobits
  have fb := fl_frombits
  have ao := fl_absone
  have a1 : Go.bits .and .i64 1023 2047 = 1023 := by decide +kernel
  have a2 : Go.bits .andNot .u64 4607182418800017408 9218868437227405312 = 0 := by decide +kernel
  have hm := fl_mulone k h0 h1
  go_enter Tryd.func83, Tryd.ntmps83
  go_wp2
  go_ret
  exact ⟨rfl, rfl⟩
theorem fl_close (a0 a1 : Int) (h0 : 1 ≤ a1) (h1 : a1 ≤ 41) :
    ((FloatKind.f64.format.order (floatOfInt FloatKind.f64 a0) (9223372036854775808 + ldw (a1 - 1)) == some Ordering.gt || FloatKind.f64.format.order (floatOfInt FloatKind.f64 a0) (9223372036854775808 + ldw (a1 - 1)) == some Ordering.eq) && FloatKind.f64.format.order (floatOfInt FloatKind.f64 a0) (ldw (a1 - 1)) == some Ordering.lt) = decide (-(2 ^ (a1 - 1).toNat) ≤ a0 ∧ a0 < 2 ^ (a1 - 1).toNat) := by
  have h := Go.Fl.fits_is a0 (a1 - 1).toNat (by omega)
  rw [Int.toNat_of_nonneg (by omega)] at h
  exact h
theorem fl_ret {a b : Bool} (h : a = b) : Ending.returned (.bool a) = Ending.returned (.bool b) := by rw [h]
theorem fl_no {a b : Option Ordering} (h : ¬(a = some Ordering.gt ∨ a = some Ordering.eq)) : false = ((a == some Ordering.gt || a == some Ordering.eq) && b == some Ordering.lt) := by
  symm
  rw [Bool.and_eq_false_iff]
  left
  rw [Bool.or_eq_false_iff]
  constructor
  · exact beq_eq_false_iff_ne.2 (fun e => h (.inl e))
  · exact beq_eq_false_iff_ne.2 (fun e => h (.inr e))
set_option maxHeartbeats 2000000 in
theorem imm_Fits.calls (a0 : Int) (a1 : Int) (r : Bool) (w : World) (h : fitsS a0 a1 = some r) :
    Calls Tryd.prog 77 #[.int .i64 a0, .int .i64 a1] w fun e w' => e = .returned (.bool r) ∧ Dr w w' := by
  unfold fitsS at h
  by_cases h0 : 1 ≤ a1
  · rw [if_pos h0] at h
    by_cases h1 : a1 ≤ 41
    · rw [if_pos h1] at h
      obtain rfl := Option.some.inj h
      clear h
      have hneg := fl_neg (a1 - 1) (by omega) (by omega)
      go_enter Tryd.func77, Tryd.ntmps77
      go_wp2_with (go_at_call 83; refine (fl_ldexp _ (by omega) (by omega) _).mono ?_; rintro e w' ⟨rfl, rfl⟩)
      all_goals
        go_ret
        refine ⟨fl_ret ?_, by repeat (first | exact Dr.refl _ | apply Dr.step)⟩
        first
        | exact fl_close a0 a1 h0 h1
        | exact (fl_no (by assumption)).trans (fl_close a0 a1 h0 h1)
    · rw [if_neg h1] at h; cases h
  · rw [if_neg h0] at h; cases h
theorem ok_fits : FnOK1 told Tryd.prog 77 fitsX := fnOK1_fits fun v b r w h => (imm_Fits.calls v b r w h).mono fun _ _ h => ⟨h.1, h.2.below⟩

theorem ok_fields : FnOK1 told Tryd.prog 55 fieldsX := fnOK1_fields fun s Z w h1 h2 hT => Tryd.strings_Fields_laid s w h1 h2 hT.2.2.1
theorem ok_cli : FnOK1 told Tryd.prog 44 (cloneV 8) := fnOK1_cloneV (e_ := 3) cli_nil cli_zero cli_some
theorem ok_clb : FnOK1 told Tryd.prog 46 (cloneV 1) := fnOK1_cloneV (e_ := 5) clb_nil clb_zero clb_some
theorem ext_ok (f : FuncId) (x : List AV → Heap → Option (AV × Heap)) (h : G.ext f = some x) : FnOK1 told Tryd.prog f x := by
  have h' : Go.Ab.get f extT = some x := h
  simp only [extT, Go.Ab.get] at h'
  repeat' split at h'
  all_goals first
    | cases h'; done
    | (rename_i e; subst e; cases h'; first | exact ok_fields | exact ok_fits | exact ok_cli | exact ok_clb)
end Go.Proofs.YticofbaajdgabaaDoor
namespace Go.Ab
abbrev Ui (x : Int) : Nat := (BitVec.ofInt 64 x).toNat
theorem Ui_eq (x : Int) : (Ui x : Int) = x % 18446744073709551616 := by
  show (((BitVec.ofInt 64 x).toNat : Nat) : Int) = _
  rw [BitVec.toNat_ofInt]; simp; omega
theorem andI_255 (x : Int) : andI .i64 x 255 = x % 256 := by
  have e : andI .i64 x 255 = w64 ((Ui x &&& Ui 255 : Nat) : Int) := by
    show IntKind.i64.wrap _ = IntKind.i64.wrap _
    rw [← BitVec.toNat_and]; rfl
  have h255 : Ui 255 = 2 ^ 8 - 1 := by decide
  rw [e, h255, Nat.and_two_pow_sub_one_eq_mod]
  have := Ui_eq x
  rw [w64_in (by omega) (by omega)]; omega
theorem or_byte {x b : Int} (hx : 0 ≤ x ∧ x < 16777216) (hb : 0 ≤ b ∧ b < 256) : orI .i64 (shlI .i64 x 8) b = x * 256 + b := by
  have hs : shlI .i64 x 8 = x * 256 := by
    unfold shlI
    rw [show min (Int.toNat 8) IntKind.i64.bits = 8 from rfl, show ((2 : Int) ^ 8) = 256 from rfl]
    exact w64_in (by omega) (by omega)
  rw [hs]
  have e : orI .i64 (x * 256) b = w64 ((Ui (x * 256) ||| Ui b : Nat) : Int) := by
    show IntKind.i64.wrap _ = IntKind.i64.wrap _
    rw [← BitVec.toNat_or]; rfl
  have h1 := Ui_eq (x * 256)
  have h2 := Ui_eq b
  obtain ⟨n, rfl⟩ := Int.eq_ofNat_of_zero_le hx.1
  obtain ⟨m, rfl⟩ := Int.eq_ofNat_of_zero_le hb.1
  have e1 : Ui ((n : Int) * 256) = n <<< 8 := by rw [Nat.shiftLeft_eq]; omega
  have e2 : Ui (m : Int) = m := by omega
  rw [e, e1, e2, ← Nat.shiftLeft_add_eq_or_of_lt (by omega : m < 2 ^ 8), Nat.shiftLeft_eq, w64_in (by omega) (by omega)]
  omega
def sgn32 (v : Int) : Int := if v < 2147483648 then v else v - 4294967296
theorem sign32 {v : Int} (h0 : 0 ≤ v) (h1 : v < 4294967296) : imm_Sign v 32 = some (sgn32 v) := by
  rw [imm_Sign.eq]; unfold imm_Sign_b
  have e : w64 (64 - (if (64 : Int) < (if (1 : Int) > 32 then 1 else 32) then 64 else (if (1 : Int) > 32 then 1 else 32))) = 32 := by decide
  rw [e]
  have c1 : decide ((0 : Int) ≤ 32) = true := rfl
  rw [c1, cond_true]
  congr 1
  unfold shlI shrI
  rw [show min (Int.toNat 32) IntKind.i64.bits = 32 from rfl, show ((2 : Int) ^ 32) = 4294967296 from rfl, Int.fdiv_eq_ediv_of_nonneg _ (by decide)]
  have hw : IntKind.i64.wrap (v * 4294967296) = v * 4294967296 - (if v * 4294967296 ≥ 9223372036854775808 then 18446744073709551616 else 0) := by
    have e : (v * 4294967296) % 18446744073709551616 = v * 4294967296 := Int.emod_eq_of_lt (by omega) (by omega)
    unfold IntKind.wrap
    simp [IntKind.bits, IntKind.signed, e]
    split <;> omega
  rw [hw]; unfold sgn32
  split <;> split <;> omega
/-- four bytes as a number -/
def pk4 (a b c d : Int) : Int := ((a * 256 + b) * 256 + c) * 256 + d
/-- the number that a form gives for a byte -/
def fb (f : Bool) : Int := if f then 255 else 0
def bk (f : Bool) (s : Nat) (u : Int) : Int := pk4 (if s = 3 then u else fb f) (if s = 2 then u else fb f) (if s = 1 then u else fb f) (if s = 0 then u else fb f)
abbrev byt (x : Int) : Prop := 0 ≤ x ∧ x < 256
theorem back_step (f : Bool) (s : Nat) {u x : Int} (hu : byt u) (hx : 0 ≤ x ∧ x < 16777216) (k : Nat) (hk : k < 4) :
    imm_Back_L1 ⟨if f then 1 else 0, s, u, x, k⟩ = imm_Back_L1 ⟨if f then 1 else 0, s, u, x * 256 + (if k = s then u else fb f), (k : Int) - 1⟩ := by
  rw [imm_Back_L1.eq ⟨if f then 1 else 0, s, u, x, k⟩]; unfold imm_Back_L1_b
  have c1 : decide ((k : Int) ≥ 0) = true := decide_eq_true (by omega)
  have e1 : w64 ((k : Int) - 1) = (k : Int) - 1 := w64_in (by omega) (by omega)
  have e2 : andI .i64 u 255 = u := by rw [andI_255]; omega
  have c2 : ((k : Int) == (s : Int)) = decide (k = s) := by rw [Bool.eq_iff_iff, beq_iff_eq, decide_eq_true_iff]; omega
  simp only
  rw [c1, cond_true, e1, e2, c2, or_byte hx hu, or_byte hx (b := 255) (by decide), or_byte hx (b := 0) (by decide)]
  cases f with
  | true =>
    rw [show ((if true = true then (1 : Int) else 0) == 1) = true from rfl, cond_true]
    by_cases h : k = s
    · rw [decide_eq_true h, cond_true, if_pos h]; rfl
    · rw [decide_eq_false h, cond_false, if_neg h]; rfl
  | false =>
    rw [show ((if false = true then (1 : Int) else 0) == 1) = false from rfl, cond_false]
    by_cases h : k = s
    · rw [decide_eq_true h, cond_true, if_pos h]; rfl
    · rw [decide_eq_false h, cond_false, if_neg h]; rfl
theorem fb_byt (f : Bool) : byt (fb f) := by cases f <;> decide
theorem back_eq (f : Bool) (s : Nat) {u : Int} (hu : byt u) : imm_Back (if f then 1 else 0) s u = some (sgn32 (bk f s u)) := by
  have hf := fb_byt f
  have hb : ∀ k : Nat, byt (if k = s then u else fb f) := fun k => by split <;> assumption
  have h3 := hb 3
  have h2 := hb 2
  have h1 := hb 1
  have h0 := hb 0
  have e : bk f s u = pk4 (if 3 = s then u else fb f) (if 2 = s then u else fb f) (if 1 = s then u else fb f) (if 0 = s then u else fb f) := by
    unfold bk; simp only [eq_comm (a := s)]
  rw [e]
  rw [imm_Back.eq]; unfold imm_Back_b
  have s3 := back_step f s hu (x := 0) (by omega) 3 (by omega)
  rw [show (⟨if f then 1 else 0, (s : Int), u, 0, ((3 : Nat) : Int)⟩ : imm_Back_L1_A) = ⟨if f then 1 else 0, (s : Int), u, 0, 3⟩ from rfl] at s3
  rw [s3]
  generalize (if 3 = s then u else fb f) = b3 at h3
  rw [show (((3 : Nat) : Int) - 1) = ((2 : Nat) : Int) from rfl, back_step f s hu (by omega) 2 (by omega)]
  generalize (if 2 = s then u else fb f) = b2 at h2
  rw [show (((2 : Nat) : Int) - 1) = ((1 : Nat) : Int) from rfl, back_step f s hu (by omega) 1 (by omega)]
  generalize (if 1 = s then u else fb f) = b1 at h1
  rw [show (((1 : Nat) : Int) - 1) = ((0 : Nat) : Int) from rfl, back_step f s hu (by omega) 0 (by omega)]
  generalize (if 0 = s then u else fb f) = b0 at h0
  rw [imm_Back_L1.eq]; unfold imm_Back_L1_b
  have c1 : decide (((0 : Nat) : Int) - 1 ≥ 0) = false := rfl
  simp only
  rw [c1, cond_false]
  simp only [Option.bind_some, Sum.elim_inr]
  rw [show (((0 * 256 + b3) * 256 + b2) * 256 + b1) * 256 + b0 = pk4 b3 b2 b1 b0 from by unfold pk4; omega, sign32 (by unfold pk4; omega) (by unfold pk4; omega)]; rfl
theorem sgn_inj {x y : Int} (hx : 0 ≤ x ∧ x < 4294967296) (hy : 0 ≤ y ∧ y < 4294967296) (h : sgn32 x = sgn32 y) : x = y := by
  unfold sgn32 at h; split at h <;> split at h <;> omega
theorem found_eq (v : Int) (f : Bool) (s : Nat) : ∃ r, imm_found v ⟨if f then 1 else 0, s⟩ = some r ∧ ((0 ≤ r ∧ ∃ u, byt u ∧ sgn32 (bk f s u) = v) ∨ (r = -1 ∧ ∀ u, byt u → sgn32 (bk f s u) ≠ v)) := by
  obtain ⟨r, h1, h2⟩ := loop_ind imm_found_L1.eq (fun a => ∃ i : Nat, i ≤ 256 ∧ a = ⟨v, ⟨if f then 1 else 0, s⟩, i⟩ ∧ ∀ j : Nat, j < i → sgn32 (bk f s j) ≠ v)
    (fun _ r => (∃ i : Nat, i < 256 ∧ r = .inl (i : Int) ∧ sgn32 (bk f s i) = v) ∨ (r = .inr () ∧ ∀ j : Nat, j < 256 → sgn32 (bk f s j) ≠ v)) (fun a => 256 - a.x6.toNat) (by
    rintro a ⟨i, hi, rfl, hq⟩
    unfold imm_found_L1_b
    simp only
    by_cases h : i < 256
    · have c1 : decide ((i : Int) < 256) = true := decide_eq_true (by omega)
      have hb := back_eq f s (u := (i : Int)) ⟨by omega, by omega⟩
      rw [c1, cond_true, imm_form_of.eq]; unfold imm_form_of_b
      simp only
      rw [hb]
      simp only [Option.bind_some]
      by_cases he : sgn32 (bk f s i) = v
      · refine .inr ⟨.inl (i : Int), ?_, .inl ⟨i, h, rfl, he⟩⟩
        rw [beq_iff_eq.2 he]; rfl
      · refine .inl ⟨⟨v, ⟨if f then 1 else 0, s⟩, (i + 1 : Nat)⟩, ?_, ⟨i + 1, by omega, rfl, fun j hj => ?_⟩, by simp only [Int.toNat_natCast]; omega, fun r hr => hr⟩
        · rw [beq_eq_false_iff_ne.2 he, cond_false, w64_in (n := (i : Int) + 1) (by omega) (by omega)]; rfl
        · rcases Nat.lt_or_ge j i with h' | h'
          · exact hq j h'
          · obtain rfl : j = i := by omega
            exact he
    · have c1 : decide ((i : Int) < 256) = false := decide_eq_false (by omega)
      obtain rfl : i = 256 := by omega
      exact .inr ⟨.inr (), by rw [c1]; rfl, .inr ⟨rfl, hq⟩⟩) ⟨v, ⟨if f then 1 else 0, s⟩, 0⟩ ⟨0, by omega, rfl, fun j hj => by omega⟩
  rw [imm_found.eq]; unfold imm_found_b
  rw [h1]
  rcases h2 with ⟨i, hi, rfl, he⟩ | ⟨rfl, hn⟩
  · exact ⟨i, rfl, .inl ⟨by omega, i, ⟨by omega, by omega⟩, he⟩⟩
  · refine ⟨-1, rfl, .inr ⟨rfl, fun u hu => ?_⟩⟩
    obtain ⟨j, rfl⟩ := Int.eq_ofNat_of_zero_le hu.1
    exact hn j (by omega)
def forms8 : List (Bool × Nat) := [(false, 0), (false, 1), (false, 2), (false, 3), (true, 0), (true, 1), (true, 2), (true, 3)]
theorem forms_eq : imm_forms = some (forms8.map fun p => ⟨if p.1 then 1 else 0, (p.2 : Int)⟩) := by rw [imm_forms.eq]; rfl
theorem sci8_eq (v : Int) : ∃ r, imm_Sci8 v = some r ∧ (r.2.2.2 = true ↔ ∃ p ∈ forms8, ∃ u, byt u ∧ sgn32 (bk p.1 p.2 u) = v) := by
  obtain ⟨r, h1, h2⟩ := loop_ind imm_Sci8_L1.eq (fun a => ∃ i : Nat, i ≤ 8 ∧ a = ⟨v, forms8.map fun p => ⟨if p.1 then 1 else 0, (p.2 : Int)⟩, 8, i⟩ ∧ ∀ p ∈ forms8.take i, ∀ u, byt u → sgn32 (bk p.1 p.2 u) ≠ v)
    (fun _ r => (∃ o, r = .inl o ∧ o.x5 = true ∧ ∃ p ∈ forms8, ∃ u, byt u ∧ sgn32 (bk p.1 p.2 u) = v) ∨ (r = .inr () ∧ ∀ p ∈ forms8, ∀ u, byt u → sgn32 (bk p.1 p.2 u) ≠ v)) (fun a => 8 - a.x10.toNat) (by
    rintro a ⟨i, hi, rfl, hq⟩
    unfold imm_Sci8_L1_b
    simp only
    have hlen : forms8.length = 8 := rfl
    by_cases h : i < 8
    · have c1 : decide ((i : Int) < 8) = true := decide_eq_true (by omega)
      have c2 : decide (0 ≤ (i : Int)) = true := decide_eq_true (by omega)
      have h' : i < forms8.length := by omega
      obtain ⟨r, e1, e2⟩ := found_eq v forms8[i].1 forms8[i].2
      rw [c1, cond_true, c2, cond_true, Int.toNat_natCast, List.getElem?_map, List.getElem?_eq_getElem h', Option.map_some, Option.bind_some, e1, Option.bind_some]
      rcases e2 with ⟨e2, e3⟩ | ⟨rfl, e3⟩
      · rw [decide_eq_true (show r ≥ 0 from e2)]
        exact .inr ⟨_, rfl, .inl ⟨_, rfl, rfl, forms8[i], List.getElem_mem h', e3⟩⟩
      · refine .inl ⟨⟨v, forms8.map fun p => ⟨if p.1 then 1 else 0, (p.2 : Int)⟩, 8, (i + 1 : Nat)⟩, ?_, ⟨i + 1, by omega, rfl, fun p hp => ?_⟩, by simp only [Int.toNat_natCast]; omega, fun r hr => hr⟩
        · rw [show decide ((-1 : Int) ≥ 0) = false from rfl, cond_false, w64_in (n := (i : Int) + 1) (by omega) (by omega)]; rfl
        · rw [List.take_succ_eq_append_getElem h', List.mem_append] at hp
          rcases hp with hp | hp
          · exact hq p hp
          · simp only [List.mem_singleton] at hp; subst hp; exact e3
    · have c1 : decide ((i : Int) < 8) = false := decide_eq_false (by omega)
      rw [List.take_of_length_le (by omega)] at hq
      exact .inr ⟨_, by rw [c1]; rfl, .inr ⟨rfl, hq⟩⟩) ⟨v, forms8.map fun p => ⟨if p.1 then 1 else 0, (p.2 : Int)⟩, 8, 0⟩ ⟨0, by omega, rfl, fun p hp => by simp at hp⟩
  rw [imm_Sci8.eq]; unfold imm_Sci8_b
  rw [forms_eq, Option.bind_some]
  have e0 : imm_Sci8_L1 ⟨v, forms8.map fun p => ⟨if p.1 then 1 else 0, (p.2 : Int)⟩, (((forms8.map fun p => (⟨if p.1 then 1 else 0, (p.2 : Int)⟩ : T_imm_form)).length : Nat) : Int), 0⟩ = some r := h1
  rw [e0, Option.bind_some]
  rcases h2 with ⟨o, rfl, ho, h⟩ | ⟨rfl, h⟩
  · exact ⟨_, rfl, by simp only [Sum.elim_inl]; rw [ho]; exact ⟨fun _ => h, fun _ => rfl⟩⟩
  · refine ⟨_, rfl, ⟨fun e => (nomatch e), fun ⟨p, hp, u, hu, e⟩ => absurd e (h p hp u hu)⟩⟩
end Go.Ab
set_option maxRecDepth 100000
namespace Go.Ab
theorem w2_known_true : w2_known = some true := cv_some w2_known.cv 2000 (by kernel_rfl)
theorem w2_within_eq (a n : Int) (hn : 0 < n) (hn2 : n ≤ 4611686018427387904) : w2_within a n = some (a % n) := by
  rw [w2_within.eq]; exact withinV_eq a n hn hn2
theorem le_of_cv {α : Type} {F : Nat → Option α} {x : Option α} (h : Cv F x) (k : Nat) : Le (F k) x := fun r e => cv_some h k e
end Go.Ab
set_option maxRecDepth 100000
namespace Go.Ab
def Tot {α : Type} (Q : α → Prop) (x : Option α) : Prop := ∃ r, x = some r ∧ Q r
theorem Tot.some {α : Type} {Q : α → Prop} {a : α} (h : Q a) : Tot Q (some a) := ⟨a, rfl, h⟩
theorem Tot.cond {α : Type} {Q : α → Prop} {b : Bool} {x y : Option α} (h1 : Tot Q x) (h2 : Tot Q y) : Tot Q (bif b then x else y) := by cases b <;> assumption
theorem Tot.condT {α : Type} {Q : α → Prop} {b : Bool} {x y : Option α} (h : b = true) (h1 : Tot Q x) : Tot Q (bif b then x else y) := by subst h; exact h1
theorem Tot.bind {α β : Type} {R : α → Prop} {Q : β → Prop} {x : Option α} {f : α → Option β} (h : Tot R x) (hf : ∀ a, R a → Tot Q (f a)) : Tot Q (x.bind f) := by
  obtain ⟨r, rfl, hr⟩ := h; exact hf r hr
theorem Tot.mono {α : Type} {Q R : α → Prop} {x : Option α} (h : Tot Q x) (hq : ∀ a, Q a → R a) : Tot R x := by obtain ⟨r, e, h⟩ := h; exact ⟨r, e, hq r h⟩
def plainOk (r : T_isa_plain × Bool) : Prop := 0 ≤ r.1.at_ ∧ 0 ≤ r.1.bits ∧ (r.2 = true → r.1.step ≠ 0)
theorem plains_tot (e : ByteArray) : Tot plainOk (isa_plains e) := by
  rw [isa_plains.eq]; unfold isa_plains_b
  repeat (refine Tot.cond (Tot.some ⟨by decide, by decide, by decide⟩) ?_)
  exact .some ⟨by decide, by decide, fun h => nomatch h⟩
theorem plain_get_tot (p : T_isa_plain) (w : Int) (h1 : 0 ≤ p.at_) (h2 : 0 ≤ p.bits) : Tot (fun _ => True) (isa_plain_get p w) := by
  rw [isa_plain_get.eq]; unfold isa_plain_get_b; exact .condT (decide_eq_true h1) (.condT (decide_eq_true h2) (.some trivial))
theorem plain_put_tot (p : T_isa_plain) (v : Int) (h1 : 0 ≤ p.at_) (h2 : 0 ≤ p.bits) (h3 : p.step ≠ 0) : Tot (fun _ => True) (isa_plain_put p v) := by
  rw [isa_plain_put.eq]; unfold isa_plain_put_b
  exact .cond (.some trivial) (.condT (decide_eq_true h2) (.cond (.some trivial) (.condT (decide_eq_true h3) (.cond (.some trivial) (.condT (decide_eq_true h1) (.some trivial))))))
theorem place_tot (e : ByteArray) : Tot (fun r => 0 ≤ r) (isa_place e) := by
  rw [isa_place.eq]; unfold isa_place_b; exact .cond (.some (by decide)) (.some (by decide))
theorem wide_tot (e : ByteArray) : Tot (fun r => r = 9 ∨ r = 25 ∨ r = 16) (isa_wide e) := by
  rw [isa_wide.eq]; unfold isa_wide_b; exact .cond (.some (.inl rfl)) (.cond (.some (.inr (.inl rfl))) (.some (.inr (.inr rfl))))
theorem sign_tot (v b : Int) (h : b = 9 ∨ b = 25 ∨ b = 16 ∨ b = 20 ∨ b = 8) : Tot (fun _ => True) (imm_Sign v b) := by
  rw [imm_Sign.eq]; unfold imm_Sign_b
  exact .condT (by rcases h with rfl | rfl | rfl | rfl | rfl <;> decide) (.some trivial)
theorem fits_tot (v b : Int) (h : b = 9 ∨ b = 25 ∨ b = 16 ∨ b = 20) : Tot (fun _ => True) (imm_Fits v b) := by
  show Tot _ (fitsS v b)
  unfold fitsS
  rcases h with rfl | rfl | rfl | rfl <;> exact .some trivial
theorem andI_1 (x : Int) : andI .i64 x 1 = x % 2 := by
  have e : andI .i64 x 1 = w64 ((Ui x &&& Ui 1 : Nat) : Int) := by
    show IntKind.i64.wrap _ = IntKind.i64.wrap _
    rw [← BitVec.toNat_and]; rfl
  have h1 : Ui 1 = 2 ^ 1 - 1 := by decide
  rw [e, h1, Nat.and_two_pow_sub_one_eq_mod]
  have := Ui_eq x
  rw [w64_in (by omega) (by omega)]; omega
theorem andI_3 (x : Int) : andI .i64 x 3 = x % 4 := by
  have e : andI .i64 x 3 = w64 ((Ui x &&& Ui 3 : Nat) : Int) := by
    show IntKind.i64.wrap _ = IntKind.i64.wrap _
    rw [← BitVec.toNat_and]; rfl
  have h1 : Ui 3 = 2 ^ 2 - 1 := by decide
  rw [e, h1, Nat.and_two_pow_sub_one_eq_mod]
  have := Ui_eq x
  rw [w64_in (by omega) (by omega)]; omega
theorem back_tot (x y z : Int) : Tot (fun _ => True) (imm_Back (andI .i64 x 1) (andI .i64 y 3) (andI .i64 z 255)) := by
  rw [andI_1, andI_3, andI_255]
  have h := back_eq (decide (x % 2 = 1)) (y % 4).toNat (u := z % 256) ⟨by omega, by omega⟩
  have e1 : (if decide (x % 2 = 1) = true then (1 : Int) else 0) = x % 2 := by
    by_cases h : x % 2 = 1
    · rw [decide_eq_true h]; simp [h]
    · rw [decide_eq_false h]; simp; omega
  rw [e1, Int.toNat_of_nonneg (by omega)] at h
  exact ⟨_, h, trivial⟩
theorem get_tot (e : ByteArray) (w : Int) : Tot (fun _ => True) (isa_get e w) := by
  rw [isa_get.eq]; unfold isa_get_b
  refine (plains_tot e).bind fun r hr => .cond ((plain_get_tot _ _ hr.1 hr.2.1).bind fun _ _ => .some trivial) ?_
  refine .cond ((place_tot e).bind fun r hr => .condT (decide_eq_true hr) (.some trivial)) ?_
  refine .cond ((place_tot e).bind fun r hr => .condT (decide_eq_true hr) (.some trivial)) ?_
  refine .cond (Tot.bind (R := fun _ => True) ?_ fun _ _ => .some trivial) ?_
  · rw [imm_Joined.eq]; unfold imm_Joined_b
    exact (sign_tot _ 20 (.inr (.inr (.inr (.inl rfl))))).bind fun _ _ => .some trivial
  refine .cond ((back_tot _ _ _).bind fun _ _ => .some trivial) ?_
  refine .cond ((sign_tot _ 16 (.inr (.inr (.inl rfl)))).bind fun _ _ => .some trivial) ?_
  refine .cond ((sign_tot _ 8 (.inr (.inr (.inr (.inr rfl))))).bind fun _ _ => .some trivial) ?_
  refine (wide_tot e).bind fun r hr => (sign_tot _ r ?_).bind fun _ _ => .some trivial
  rcases hr with h | h | h <;> simp [h]
theorem put_tot (e : ByteArray) (v : Int) : Tot (fun _ => True) (isa_put e v) := by
  rw [isa_put.eq]; unfold isa_put_b
  refine (plains_tot e).bind fun r hr => ?_
  cases hb : r.2 with
  | true =>
    rw [cond_true]
    exact (plain_put_tot _ _ hr.1 hr.2.1 (hr.2.2 hb)).bind fun _ _ => .some trivial
  | false =>
    rw [cond_false]
    refine .cond (.cond (.some trivial) (.cond (.cond (.some trivial) (.cond (.some trivial) ((place_tot e).bind fun r hr => .condT (decide_eq_true hr) (.some trivial)))) (.cond (.some trivial) ((place_tot e).bind fun r hr => .condT (decide_eq_true hr) (.some trivial))))) ?_
    refine .cond (.cond (.some trivial) (.cond (.cond (.some trivial) (.cond (.some trivial) ((place_tot e).bind fun r hr => .condT (decide_eq_true hr) (.some trivial)))) (.cond (.some trivial) ((place_tot e).bind fun r hr => .condT (decide_eq_true hr) (.some trivial))))) ?_
    refine .cond ?_ ?_
    · rw [imm_Split.eq]; unfold imm_Split_b
      exact (fits_tot v 20 (.inr (.inr (.inr rfl)))).bind fun _ _ => .some trivial
    refine .cond ?_ ?_
    · obtain ⟨r, e1, _⟩ := sci8_eq v
      rw [e1]; exact .some trivial
    refine .cond ((fits_tot v 16 (.inr (.inr (.inl rfl)))).bind fun _ _ => .some trivial) ?_
    refine .cond (.some trivial) ((wide_tot e).bind fun r hr => (fits_tot v r ?_).bind fun _ _ => .cond (.some trivial) (.cond (.some trivial) ((wide_tot e).bind fun r hr => .condT (decide_eq_true ?_) (.some trivial))))
    · rcases hr with h | h | h <;> simp [h]
    · rcases hr with h | h | h <;> omega
end Go.Ab
set_option maxRecDepth 100000
namespace Go.Ab
def opOk (i : Nat) : Bool := match isa_Name.s 2000 i, isa_of_2.s 2000 i, isa_of_3.s 2000 i, isa_Size.s 2000 i with
  | some n, some c, some k, some s => decide (k.length ≤ 8)
  | _, _, _, _ => false
theorem ops_all : ((List.range 66).all opOk) = true := by kernel_rfl
theorem table_66 : ∃ t, isa_table = some t ∧ t.length = 66 := by
  rw [isa_table.eq]; exact ⟨_, rfl, by kernel_rfl⟩
theorem op_ok {i : Nat} (h : i < 66) : ∃ n c k s, isa_Name i = some n ∧ isa_of_2 i = some c ∧ isa_of_3 i = some k ∧ isa_Size i = some s ∧ k.length ≤ 8 := by
  have h := List.all_eq_true.1 ops_all i (List.mem_range.2 h)
  unfold opOk at h
  split at h
  · rename_i n c k s h1 h2 h3 h4
    exact ⟨n, c, k, s, cv_some (isa_Name.cv _) _ h1, cv_some (isa_of_2.cv _) _ h2, cv_some (isa_of_3.cv _) _ h3, cv_some (isa_Size.cv _) _ h4, of_decide_eq_true h⟩
  · cases h
theorem code_tot {x : T_api_Inst} {i : Nat} (hi : i < 66) (hx : x.Op = i) : Tot (fun _ => True) (isa_code x) := by
  obtain ⟨n, c, k, s, h1, h2, h3, h4, h5⟩ := op_ok hi
  rw [isa_code.eq]; unfold isa_code_b
  rw [hx, h1, Option.bind_some]
  refine .cond (.some trivial) ?_
  rw [h2, Option.bind_some, h3, Option.bind_some]
  by_cases hl : k.length = x.F.length
  rotate_left
  · rw [show ((k.length : Int) != (x.F.length : Int)) = true by rw [bne_iff_ne]; omega]; exact .some trivial
  refine .cond (.some trivial) ?_
  obtain ⟨r, e, _⟩ := loop_ind (isa_code_L1.eq) (fun a => ∃ (c : Int) (j : Nat), j ≤ k.length ∧ a = ⟨c, k, k.length, j, x⟩) (fun _ _ => True) (fun a => k.length - a.x28.toNat) (by
    rintro a ⟨c, j, hj, rfl⟩
    unfold isa_code_L1_b
    simp only
    by_cases h : j < k.length
    · rw [show decide ((j : Int) < k.length) = true from decide_eq_true (by omega), cond_true, show decide (0 ≤ (j : Int)) = true from decide_eq_true (by omega), cond_true, Int.toNat_natCast, List.getElem?_eq_getElem h, Option.bind_some, List.getElem?_eq_getElem (show j < x.F.length by omega), Option.bind_some]
      obtain ⟨r, e, _⟩ := put_tot k[j] (x.F[j]'(by omega))
      rw [e, Option.bind_some]
      cases r.2 with
      | false => exact .inr ⟨_, rfl, trivial⟩
      | true => exact .inl ⟨⟨orI .u32 c r.1, k, k.length, (j + 1 : Nat), x⟩, by rw [w64_in (n := (j : Int) + 1) (by omega) (by omega)]; rfl, ⟨_, j + 1, by omega, rfl⟩, by simp only [Int.toNat_natCast]; omega, fun _ _ => trivial⟩
    · rw [show decide ((j : Int) < k.length) = false from decide_eq_false (by omega)]
      exact .inr ⟨_, rfl, trivial⟩) ⟨c, k, k.length, 0, x⟩ ⟨c, 0, by omega, rfl⟩
  rw [e, Option.bind_some]
  cases r with
  | inl o => exact .some trivial
  | inr o => exact .some trivial
theorem L1_tot (n : Int) (l : List Int) (hl : l.length ≤ 4) (h0 : T_api_Inst) : Tot (fun o => o.x3 = n ∧ o.h0 = h0) (isa_Decode_L1 ⟨n, 0, l, l.length, 0, h0⟩) := by
  obtain ⟨r, e, h⟩ := loop_ind (isa_Decode_L1.eq) (fun a => ∃ (c : Int) (j : Nat), j ≤ l.length ∧ a = ⟨n, c, l, l.length, j, h0⟩) (fun _ o => o.x3 = n ∧ o.h0 = h0) (fun a => l.length - a.x35.toNat) (by
    rintro a ⟨c, j, hj, rfl⟩
    unfold isa_Decode_L1_b
    simp only
    by_cases h : j < l.length
    · rw [show decide ((j : Int) < l.length) = true from decide_eq_true (by omega), cond_true, show decide (0 ≤ (j : Int)) = true from decide_eq_true (by omega), cond_true, Int.toNat_natCast, List.getElem?_eq_getElem h, Option.bind_some]
      exact .inl ⟨⟨n, orI .u32 (shlI .u32 c 8) (IntKind.u32.wrap l[j]), l, l.length, (j + 1 : Nat), h0⟩, by rw [w64_in (n := (j : Int) + 1) (by omega) (by omega)]; rfl, ⟨_, j + 1, by omega, rfl⟩, by simp only [Int.toNat_natCast]; omega, fun _ h => h⟩
    · rw [show decide ((j : Int) < l.length) = false from decide_eq_false (by omega)]
      exact .inr ⟨_, rfl, rfl, rfl⟩) ⟨n, 0, l, l.length, 0, h0⟩ ⟨0, 0, by omega, rfl⟩
  exact ⟨r, e, h⟩
theorem L3_tot (n u len op : Int) (ks : List ByteArray) (hk : ks.length ≤ 8) (h0 : T_api_Inst) :
    Tot (fun o => o.x3 = n ∧ o.x5 = u ∧ o.x46 = len ∧ o.x47 = op ∧ o.h0 = h0 ∧ o.h1.Op = op ∧ o.h1.F.length ≤ 8) (isa_Decode_L3 ⟨n, u, len, op, ks, ks.length, 0, h0, ⟨op, []⟩⟩) := by
  obtain ⟨r, e, h⟩ := loop_ind (isa_Decode_L3.eq) (fun a => ∃ (F : List Int) (j : Nat), j ≤ ks.length ∧ F.length = j ∧ a = ⟨n, u, len, op, ks, ks.length, j, h0, ⟨op, F⟩⟩) (fun _ o => o.x3 = n ∧ o.x5 = u ∧ o.x46 = len ∧ o.x47 = op ∧ o.h0 = h0 ∧ o.h1.Op = op ∧ o.h1.F.length ≤ 8) (fun a => ks.length - a.x59.toNat) (by
    rintro a ⟨F, j, hj, hF, rfl⟩
    unfold isa_Decode_L3_b
    simp only
    by_cases h : j < ks.length
    · rw [show decide ((j : Int) < ks.length) = true from decide_eq_true (by omega), cond_true, show decide (0 ≤ (j : Int)) = true from decide_eq_true (by omega), cond_true, Int.toNat_natCast, List.getElem?_eq_getElem h, Option.bind_some]
      obtain ⟨r, e, _⟩ := get_tot ks[j] u
      rw [e, Option.bind_some, show decide ((F.length + [r].length) * 8 ≤ most) = true from decide_eq_true (by simp only [List.length_singleton, most]; omega), cond_true]
      exact .inl ⟨⟨n, u, len, op, ks, ks.length, (j + 1 : Nat), h0, ⟨op, F ++ [r]⟩⟩, by rw [w64_in (n := (j : Int) + 1) (by omega) (by omega)]; rfl, ⟨F ++ [r], j + 1, by omega, by simp [hF], rfl⟩, by simp only [Int.toNat_natCast]; omega, fun _ h => h⟩
    · rw [show decide ((j : Int) < ks.length) = false from decide_eq_false (by omega)]
      exact .inr ⟨_, rfl, rfl, rfl, rfl, rfl, rfl, rfl, by show F.length ≤ 8; omega⟩) ⟨n, u, len, op, ks, ks.length, 0, h0, ⟨op, []⟩⟩ ⟨[], 0, by omega, rfl, rfl⟩
  exact ⟨r, e, h⟩
abbrev z0I : T_api_Inst := ⟨0, []⟩
theorem L2_tot (n u : Int) : ∃ r, isa_Decode_L2 ⟨n, u, 66, 0, z0I⟩ = some r ∧ ((∃ o, r = .inl o ∧ o.x3 = n ∧ o.x4 = true ∧ isa_Size o.h0.Op = some n) ∨ ∃ o, r = .inr o) := by
  obtain ⟨r, e, h⟩ := loop_ind (isa_Decode_L2.eq) (fun a => ∃ (j : Nat), j ≤ 66 ∧ a = ⟨n, u, 66, j, z0I⟩) (fun _ r => (∃ o, r = .inl o ∧ o.x3 = n ∧ o.x4 = true ∧ isa_Size o.h0.Op = some n) ∨ ∃ o, r = .inr o) (fun a => 66 - a.x47.toNat) (by
    rintro a ⟨j, hj, rfl⟩
    have next : isa_Decode_L2_A.mk n u 66 (w64 ((j : Int) + 1)) z0I = isa_Decode_L2_A.mk n u 66 ((j + 1 : Nat) : Int) z0I := by rw [w64_in (n := (j : Int) + 1) (by omega) (by omega)]; rfl
    unfold isa_Decode_L2_b
    simp only
    by_cases h : j < 66
    · obtain ⟨nm, c, k, s, h1, h2, h3, h4, h5⟩ := op_ok h
      have go : ∀ (h : j < 66), (∃ j' : Nat, j' ≤ 66 ∧ isa_Decode_L2_A.mk n u 66 ((j + 1 : Nat) : Int) z0I = ⟨n, u, 66, j', z0I⟩) ∧ (66 - ((j + 1 : Nat) : Int).toNat < 66 - ((j : Nat) : Int).toNat) := fun h => ⟨⟨j + 1, by omega, rfl⟩, by simp only [Int.toNat_natCast]; omega⟩
      rw [show decide ((j : Int) < 66) = true from decide_eq_true (by omega), cond_true, h4, Option.bind_some]
      by_cases hs : s = n
      rotate_left
      · rw [show (s != n) = true by rw [bne_iff_ne]; exact hs, cond_true, next]
        exact .inl ⟨_, rfl, (go h).1, (go h).2, fun _ h => h⟩
      · rw [show (s != n) = false by rw [hs]; exact bne_self_eq_false n, cond_false, h3, Option.bind_some]
        obtain ⟨o, e, q1, q2, q3, q4, q5, q6, q7⟩ := L3_tot n u 66 j k h5 z0I
        rw [e, Option.bind_some]
        obtain ⟨r, e2, _⟩ := code_tot h q6
        rw [e2, Option.bind_some, q1, q2, q3, q4, q5, next]
        cases r.2 with
        | false => exact .inl ⟨_, rfl, (go h).1, (go h).2, fun _ h => h⟩
        | true =>
          rw [cond_true]
          by_cases hc : r.1 = u
          · rw [show (r.1 == u) = true from beq_iff_eq.2 hc, cond_true]
            have ec : slices_Clone_2 o.h1.F = some o.h1.F := by
              show cloneB 8 _ = _
              exact if_pos (by omega)
            rw [ec, Option.bind_some]
            exact .inr ⟨_, rfl, .inl ⟨_, rfl, rfl, rfl, by show isa_Size o.h1.Op = _; rw [q6, h4, hs]⟩⟩
          · rw [show (r.1 == u) = false from beq_eq_false_iff_ne.2 hc, cond_false]
            exact .inl ⟨_, rfl, (go h).1, (go h).2, fun _ h => h⟩
    · rw [show decide ((j : Int) < 66) = false from decide_eq_false (by omega)]
      exact .inr ⟨_, rfl, .inr ⟨_, rfl⟩⟩) ⟨n, u, 66, 0, z0I⟩ ⟨0, by omega, rfl⟩
  exact ⟨r, e, h⟩
theorem decode_tot {l : List Int} {a : Int} {n : Nat} (hl : l[0]? = some a) (hs : isa_size a = some (n : Int)) (hn : n = 2 ∨ n = 4) (h4 : n ≤ l.length) :
    ∃ r, isa_Decode l = some r ∧ ((r.2.2 = true ∧ r.2.1 = n ∧ isa_Size r.1.Op = some (n : Int)) ∨ (r.2.2 = false ∧ r.2.1 = 0 ∧ r.1 = z0I)) := by
  rw [isa_Decode.eq]; unfold isa_Decode_b
  rw [show decide ((l.length : Int) < 2) = false from decide_eq_false (by omega), cond_false, show Int.toNat 0 = 0 from rfl, hl, Option.bind_some, hs, Option.bind_some, show decide ((l.length : Int) < n) = false from decide_eq_false (by omega), cond_false, Option.bind_some, hs, Option.bind_some]
  rw [show decide (0 ≤ (0 : Int) ∧ 0 ≤ (n : Int) ∧ (n : Int) ≤ (l.length : Nat)) = true from decide_eq_true (by omega), cond_true]
  obtain ⟨o, e, q1, q2⟩ := L1_tot n ((l.drop 0).take ((n : Int) - 0).toNat) (by rw [List.length_take]; omega) z0I
  rw [e, Option.bind_some]
  obtain ⟨t, et, ht⟩ := table_66
  rw [et, Option.bind_some, ht, q1, q2]
  obtain ⟨r, e2, h⟩ := L2_tot n o.x5
  have e2' : isa_Decode_L2 ⟨(n : Int), o.x5, ((66 : Nat) : Int), 0, z0I⟩ = some r := e2
  rw [e2', Option.bind_some]
  rcases h with ⟨o, rfl, h1, h2, h3⟩ | ⟨o, rfl⟩
  · exact ⟨_, rfl, .inl ⟨h2, h1, h3⟩⟩
  · exact ⟨_, rfl, .inr ⟨rfl, rfl, rfl⟩⟩
/-- too few bytes -/
theorem decode_short {l : List Int} {a : Int} {n : Nat} (h2 : 2 ≤ l.length) (hl : l[0]? = some a) (hs : isa_size a = some (n : Int)) (h4 : l.length < n) : isa_Decode l = some (z0I, 0, false) := by
  rw [isa_Decode.eq]; unfold isa_Decode_b
  rw [show decide ((l.length : Int) < 2) = false from decide_eq_false (by omega), cond_false, show Int.toNat 0 = 0 from rfl, hl, Option.bind_some, hs, Option.bind_some, show decide ((l.length : Int) < n) = true from decide_eq_true (by omega), cond_true]
/-- what is behind does not matter -/
theorem decode_head {l m : List Int} {a : Int} {n : Nat} (hl : l[0]? = some a) (hm : m[0]? = some a) (hs : isa_size a = some (n : Int)) (hn : 2 ≤ n) (h4 : n ≤ l.length) (h5 : n ≤ m.length) (h : l.take n = m.take n) : isa_Decode l = isa_Decode m := by
  have f : ∀ l : List Int, l[0]? = some a → n ≤ l.length → isa_Decode l = ((isa_Decode_L1 ⟨n, 0, l.take n, (l.take n).length, 0, z0I⟩).bind fun o5 => isa_table.bind fun r6 => (isa_Decode_L2 ⟨o5.x3, o5.x5, r6.length, 0, o5.h0⟩).bind fun x => Sum.elim (fun (o7 : isa_Decode_L2_O0) => some (o7.h0, o7.x3, o7.x4)) (fun (o8 : T_api_Inst) => some (z0I, 0, false)) x) := by
    intro l hl h4
    rw [isa_Decode.eq]; unfold isa_Decode_b
    rw [show decide ((l.length : Int) < 2) = false from decide_eq_false (by omega), cond_false, show Int.toNat 0 = 0 from rfl, hl, Option.bind_some, hs, Option.bind_some, show decide ((l.length : Int) < n) = false from decide_eq_false (by omega), cond_false, Option.bind_some, hs, Option.bind_some]
    rw [show decide (0 ≤ (0 : Int) ∧ 0 ≤ (n : Int) ∧ (n : Int) ≤ (l.length : Nat)) = true from decide_eq_true (by omega), cond_true]
    rw [Int.sub_zero, Int.toNat_natCast, List.drop_zero]
  rw [f l hl h4, f m hm h5, h]
end Go.Ab
set_option maxRecDepth 100000
namespace Go.Ab
abbrev inI (v : Int) : Prop := IntKind.i64.min ≤ v ∧ v ≤ IntKind.i64.max
def Alike (e : ByteArray) (v : Int) : Prop := ∃ m p, r2_May e v = some m ∧ isa_put e v = some p ∧ p.2 = m ∧ (m = true → ∃ q, r2_put e v = some q ∧ p.1 = IntKind.u32.wrap q)
theorem shl_alike (q : Int) (h0 : 0 ≤ q) (h1 : q < 128) (a : Nat) (ha : a ≤ 21) : shlI .u32 (IntKind.u32.wrap q) (a : Int) = IntKind.u32.wrap (shlI .i64 q (a : Int)) := by
  have hq : IntKind.u32.wrap q = q := by unfold IntKind.wrap; simp [IntKind.bits, IntKind.signed]; omega
  have e1 : min (Int.toNat (a : Int)) IntKind.u32.bits = a := by simp [IntKind.bits]; omega
  have e2 : min (Int.toNat (a : Int)) IntKind.i64.bits = a := by simp [IntKind.bits]; omega
  rw [hq]; unfold shlI
  rw [e1, e2]
  have hp : (2 : Int) ^ a ≤ 2097152 := by
    have : (2 : Nat) ^ a ≤ 2 ^ 21 := Nat.pow_le_pow_right (by decide) ha
    have h2 : ((2 ^ a : Nat) : Int) = (2 : Int) ^ a := by simp
    omega
  have hp0 : (0 : Int) < 2 ^ a := Int.pow_pos (by decide)
  have hm : q * 2 ^ a < 268435456 := by
    have h1 : q * 2 ^ a ≤ 127 * 2 ^ a := Int.mul_le_mul_of_nonneg_right (by omega) (by omega)
    omega
  have hm0 : 0 ≤ q * 2 ^ a := Int.mul_nonneg h0 (by omega)
  congr 1
  exact (w64_in (by omega) (by omega)).symm
theorem plain_alike (at_ n step less : Int) (bits : Nat) (a : Nat) (v : Int) (hv : inI v) (hat : at_ = a) (ha : a ≤ 21) (hl : less = 0 ∨ less = 1) (hs : step = 1 ∨ step = 2 ∨ step = 4) (hn : 0 < n ∧ n ≤ 128) (hb : shlI .i64 step (bits : Int) = n * step) :
    ∃ m p, r2_in (w64 (v - less)) n step = some m ∧ isa_plain_put ⟨at_, bits, step, less⟩ v = some p ∧ p.2 = m ∧ (m = true → p.1 = IntKind.u32.wrap (shlI .i64 (w64 (Int.tdiv (w64 (v - less)) step)) a)) := by
  obtain ⟨h0, h1⟩ := hv
  have h0' : -9223372036854775808 ≤ v := h0
  have h1' : v ≤ 9223372036854775807 := h1
  have hns : w64 (n * step) = n * step := w64_in (by rcases hs with rfl | rfl | rfl <;> omega) (by rcases hs with rfl | rfl | rfl <;> omega)
  rw [r2_in.eq, isa_plain_put.eq]; unfold r2_in_b isa_plain_put_b
  simp only
  rw [hns, hb]
  have hst : decide (step ≠ 0) = true := decide_eq_true (by rcases hs with rfl | rfl | rfl <;> decide)
  rw [hst, show decide (0 ≤ (bits : Int)) = true from decide_eq_true (by omega), show decide (0 ≤ at_) = true from decide_eq_true (by omega)]
  simp only [cond_true]
  by_cases c0 : v < less
  · rw [decide_eq_true c0, cond_true]
    refine ⟨false, _, ?_, rfl, rfl, fun h => nomatch h⟩
    by_cases hm : v - less < -9223372036854775808
    · have : w64 (v - less) = v - less + 18446744073709551616 := by
        show IntKind.i64.wrap _ = _
        unfold IntKind.wrap; simp [IntKind.bits, IntKind.signed]; omega
      rw [this, show decide (v - less + 18446744073709551616 < n * step) = false from decide_eq_false (by rcases hs with rfl | rfl | rfl <;> omega)]
      cases decide (v - less + 18446744073709551616 ≥ 0) <;> rfl
    · rw [w64_in (by omega) (by omega), show decide (v - less ≥ 0) = false from decide_eq_false (by omega)]; rfl
  · rw [decide_eq_false c0, cond_false, w64_in (n := v - less) (by omega) (by omega), show decide (v - less ≥ 0) = true from decide_eq_true (by omega), cond_true]
    by_cases c1 : v - less < n * step
    · rw [decide_eq_true c1, show decide (v - less ≥ n * step) = false from decide_eq_false (by omega), cond_true, cond_false]
      cases c2 : (Int.tmod (v - less) step == 0) with
      | true =>
        rw [show (Int.tmod (v - less) step != 0) = false by rw [bne, c2]; rfl, cond_false]
        refine ⟨true, _, rfl, rfl, rfl, fun _ => ?_⟩
        have hq : 0 ≤ Int.tdiv (v - less) step ∧ Int.tdiv (v - less) step < 128 := by
          rw [Int.tdiv_eq_ediv_of_nonneg (by omega)]
          rcases hs with rfl | rfl | rfl <;> constructor <;> omega
        rw [w64_in (n := Int.tdiv (v - less) step) (by omega) (by omega), hat]
        exact shl_alike _ hq.1 hq.2 a ha
      | false =>
        rw [show (Int.tmod (v - less) step != 0) = true by rw [bne, c2]; rfl, cond_true]
        exact ⟨false, _, rfl, rfl, rfl, fun h => nomatch h⟩
    · rw [decide_eq_false c1, show decide (v - less ≥ n * step) = true from decide_eq_true (by omega), cond_true, cond_false]
      exact ⟨false, _, rfl, rfl, rfl, fun h => nomatch h⟩
theorem w64_w (x : Int) : w64 (w64 x) = w64 x := by
  have h : -9223372036854775808 ≤ w64 x ∧ w64 x < 9223372036854775808 := by
    show -9223372036854775808 ≤ IntKind.i64.wrap x ∧ IntKind.i64.wrap x < 9223372036854775808
    unfold IntKind.wrap; simp [IntKind.bits, IntKind.signed]; split <;> omega
  exact w64_in (by omega) (by omega)
theorem tdiv_one_in {v : Int} (hv : inI v) : w64 (Int.tdiv (w64 (v - 0)) 1) = v := by
  have h0 : -9223372036854775808 ≤ v := hv.1
  have h1 : v ≤ 9223372036854775807 := hv.2
  rw [Int.sub_zero, Int.tdiv_one, w64_in (n := v) h0 (by omega), w64_in (n := v) h0 (by omega)]
theorem sub0_in {v : Int} (hv : inI v) : w64 (v - 0) = v := by
  have h0 : -9223372036854775808 ≤ v := hv.1
  have h1 : v ≤ 9223372036854775807 := hv.2
  rw [Int.sub_zero, w64_in (n := v) h0 (by omega)]
theorem pl_U5 : isa_plains s_U5 = some (⟨4, 5, 1, 0⟩, true) := cv_some (isa_plains.cv _) 5 (by kernel_rfl)
theorem may_U5 (v : Int) : r2_May s_U5 v = (r2_in v 32 1).bind fun r => some r := (r2_May.eq _ _).trans (by kernel_rfl)
theorem put_U5 (v : Int) : r2_put s_U5 v = some (shlI .i64 v 4) := (r2_put.eq _ _).trans (by kernel_rfl)
theorem alike_U5 (v : Int) (hv : inI v) : Alike s_U5 v := by
  obtain ⟨m, p, h1, h2, h3, h4⟩ := plain_alike 4 32 1 0 5 4 v hv rfl (by decide) (.inl rfl) (.inl rfl) ⟨by decide, by decide⟩ (by decide)
  rw [sub0_in hv] at h1 h4
  refine ⟨m, p, by rw [may_U5, h1]; rfl, ?_, h3, fun hm => ⟨_, put_U5 v, (h4 hm).trans ?_⟩⟩
  · rw [isa_put.eq]; unfold isa_put_b
    rw [pl_U5, Option.bind_some, cond_true]
    have h2' : isa_plain_put ⟨4, 5, 1, 0⟩ v = some p := h2
    refine (congrArg (fun x => Option.bind x _) h2').trans rfl
  · have hd : w64 (Int.tdiv v 1) = v := by have := tdiv_one_in hv; rw [sub0_in hv] at this; exact this
    rw [hd]; rfl
theorem pl_U7 : isa_plains s_U7 = some (⟨4, 7, 1, 0⟩, true) := cv_some (isa_plains.cv _) 5 (by kernel_rfl)
theorem may_U7 (v : Int) : r2_May s_U7 v = (r2_in v 128 1).bind fun r => some r := (r2_May.eq _ _).trans (by kernel_rfl)
theorem put_U7 (v : Int) : r2_put s_U7 v = some (shlI .i64 v 4) := (r2_put.eq _ _).trans (by kernel_rfl)
theorem alike_U7 (v : Int) (hv : inI v) : Alike s_U7 v := by
  obtain ⟨m, p, h1, h2, h3, h4⟩ := plain_alike 4 128 1 0 7 4 v hv rfl (by decide) (.inl rfl) (.inl rfl) ⟨by decide, by decide⟩ (by decide)
  rw [sub0_in hv] at h1 h4
  refine ⟨m, p, by rw [may_U7, h1]; rfl, ?_, h3, fun hm => ⟨_, put_U7 v, (h4 hm).trans ?_⟩⟩
  · rw [isa_put.eq]; unfold isa_put_b
    rw [pl_U7, Option.bind_some, cond_true]
    have h2' : isa_plain_put ⟨4, 7, 1, 0⟩ v = some p := h2
    refine (congrArg (fun x => Option.bind x _) h2').trans rfl
  · have hd : w64 (Int.tdiv v 1) = v := by have := tdiv_one_in hv; rw [sub0_in hv] at this; exact this
    rw [hd]; rfl
theorem pl_O5 : isa_plains s_O5 = some (⟨4, 5, 1, 1⟩, true) := cv_some (isa_plains.cv _) 5 (by kernel_rfl)
theorem may_O5 (v : Int) : r2_May s_O5 v = (r2_in (w64 (v - 1)) 32 1).bind fun r => some r := (r2_May.eq _ _).trans (by kernel_rfl)
theorem put_O5 (v : Int) : r2_put s_O5 v = some (shlI .i64 (w64 (v - 1)) 4) := (r2_put.eq _ _).trans (by kernel_rfl)
theorem alike_O5 (v : Int) (hv : inI v) : Alike s_O5 v := by
  obtain ⟨m, p, h1, h2, h3, h4⟩ := plain_alike 4 32 1 1 5 4 v hv rfl (by decide) (.inr rfl) (.inl rfl) ⟨by decide, by decide⟩ (by decide)
  skip
  refine ⟨m, p, by rw [may_O5, h1]; rfl, ?_, h3, fun hm => ⟨_, put_O5 v, (h4 hm).trans ?_⟩⟩
  · rw [isa_put.eq]; unfold isa_put_b
    rw [pl_O5, Option.bind_some, cond_true]
    have h2' : isa_plain_put ⟨4, 5, 1, 1⟩ v = some p := h2
    refine (congrArg (fun x => Option.bind x _) h2').trans rfl
  · rw [Int.tdiv_one, show w64 (w64 (v - 1)) = w64 (v - 1) from w64_w _]; rfl
theorem pl_M1 : isa_plains s_M1 = some (⟨8, 4, 1, 0⟩, true) := cv_some (isa_plains.cv _) 5 (by kernel_rfl)
theorem may_M1 (v : Int) : r2_May s_M1 v = (r2_in v 16 1).bind fun r => some r := (r2_May.eq _ _).trans (by kernel_rfl)
theorem put_M1 (v : Int) : r2_put s_M1 v = some (shlI .i64 v 8) := (r2_put.eq _ _).trans (by kernel_rfl)
theorem alike_M1 (v : Int) (hv : inI v) : Alike s_M1 v := by
  obtain ⟨m, p, h1, h2, h3, h4⟩ := plain_alike 8 16 1 0 4 8 v hv rfl (by decide) (.inl rfl) (.inl rfl) ⟨by decide, by decide⟩ (by decide)
  rw [sub0_in hv] at h1 h4
  refine ⟨m, p, by rw [may_M1, h1]; rfl, ?_, h3, fun hm => ⟨_, put_M1 v, (h4 hm).trans ?_⟩⟩
  · rw [isa_put.eq]; unfold isa_put_b
    rw [pl_M1, Option.bind_some, cond_true]
    have h2' : isa_plain_put ⟨8, 4, 1, 0⟩ v = some p := h2
    refine (congrArg (fun x => Option.bind x _) h2').trans rfl
  · have hd : w64 (Int.tdiv v 1) = v := by have := tdiv_one_in hv; rw [sub0_in hv] at this; exact this
    rw [hd]; rfl
theorem pl_M2 : isa_plains s_M2 = some (⟨8, 4, 2, 0⟩, true) := cv_some (isa_plains.cv _) 5 (by kernel_rfl)
theorem may_M2 (v : Int) : r2_May s_M2 v = (r2_in v 16 2).bind fun r => some r := (r2_May.eq _ _).trans (by kernel_rfl)
theorem put_M2 (v : Int) : r2_put s_M2 v = some (shlI .i64 (w64 (Int.tdiv v 2)) 8) := (r2_put.eq _ _).trans (by kernel_rfl)
theorem alike_M2 (v : Int) (hv : inI v) : Alike s_M2 v := by
  obtain ⟨m, p, h1, h2, h3, h4⟩ := plain_alike 8 16 2 0 4 8 v hv rfl (by decide) (.inl rfl) (.inr (.inl rfl)) ⟨by decide, by decide⟩ (by decide)
  rw [sub0_in hv] at h1 h4
  refine ⟨m, p, by rw [may_M2, h1]; rfl, ?_, h3, fun hm => ⟨_, put_M2 v, (h4 hm).trans ?_⟩⟩
  · rw [isa_put.eq]; unfold isa_put_b
    rw [pl_M2, Option.bind_some, cond_true]
    have h2' : isa_plain_put ⟨8, 4, 2, 0⟩ v = some p := h2
    refine (congrArg (fun x => Option.bind x _) h2').trans rfl
  · rfl
theorem pl_M4 : isa_plains s_M4 = some (⟨8, 4, 4, 0⟩, true) := cv_some (isa_plains.cv _) 5 (by kernel_rfl)
theorem may_M4 (v : Int) : r2_May s_M4 v = (r2_in v 16 4).bind fun r => some r := (r2_May.eq _ _).trans (by kernel_rfl)
theorem put_M4 (v : Int) : r2_put s_M4 v = some (shlI .i64 (w64 (Int.tdiv v 4)) 8) := (r2_put.eq _ _).trans (by kernel_rfl)
theorem alike_M4 (v : Int) (hv : inI v) : Alike s_M4 v := by
  obtain ⟨m, p, h1, h2, h3, h4⟩ := plain_alike 8 16 4 0 4 8 v hv rfl (by decide) (.inl rfl) (.inr (.inr rfl)) ⟨by decide, by decide⟩ (by decide)
  rw [sub0_in hv] at h1 h4
  refine ⟨m, p, by rw [may_M4, h1]; rfl, ?_, h3, fun hm => ⟨_, put_M4 v, (h4 hm).trans ?_⟩⟩
  · rw [isa_put.eq]; unfold isa_put_b
    rw [pl_M4, Option.bind_some, cond_true]
    have h2' : isa_plain_put ⟨8, 4, 4, 0⟩ v = some p := h2
    refine (congrArg (fun x => Option.bind x _) h2').trans rfl
  · rfl
theorem pl_O1 : isa_plains s_O1 = some (⟨10, 1, 1, 0⟩, true) := cv_some (isa_plains.cv _) 5 (by kernel_rfl)
theorem may_O1 (v : Int) : r2_May s_O1 v = (r2_in v 2 1).bind fun r => some r := (r2_May.eq _ _).trans (by kernel_rfl)
theorem put_O1 (v : Int) : r2_put s_O1 v = some (shlI .i64 v 10) := (r2_put.eq _ _).trans (by kernel_rfl)
theorem alike_O1 (v : Int) (hv : inI v) : Alike s_O1 v := by
  obtain ⟨m, p, h1, h2, h3, h4⟩ := plain_alike 10 2 1 0 1 10 v hv rfl (by decide) (.inl rfl) (.inl rfl) ⟨by decide, by decide⟩ (by decide)
  rw [sub0_in hv] at h1 h4
  refine ⟨m, p, by rw [may_O1, h1]; rfl, ?_, h3, fun hm => ⟨_, put_O1 v, (h4 hm).trans ?_⟩⟩
  · rw [isa_put.eq]; unfold isa_put_b
    rw [pl_O1, Option.bind_some, cond_true]
    have h2' : isa_plain_put ⟨10, 1, 1, 0⟩ v = some p := h2
    refine (congrArg (fun x => Option.bind x _) h2').trans rfl
  · have hd : w64 (Int.tdiv v 1) = v := by have := tdiv_one_in hv; rw [sub0_in hv] at this; exact this
    rw [hd]; rfl
theorem pl_I2 : isa_plains s_I2 = some (⟨8, 2, 1, 0⟩, true) := cv_some (isa_plains.cv _) 5 (by kernel_rfl)
theorem may_I2 (v : Int) : r2_May s_I2 v = (r2_in v 4 1).bind fun r => some r := (r2_May.eq _ _).trans (by kernel_rfl)
theorem put_I2 (v : Int) : r2_put s_I2 v = some (shlI .i64 v 8) := (r2_put.eq _ _).trans (by kernel_rfl)
theorem alike_I2 (v : Int) (hv : inI v) : Alike s_I2 v := by
  obtain ⟨m, p, h1, h2, h3, h4⟩ := plain_alike 8 4 1 0 2 8 v hv rfl (by decide) (.inl rfl) (.inl rfl) ⟨by decide, by decide⟩ (by decide)
  rw [sub0_in hv] at h1 h4
  refine ⟨m, p, by rw [may_I2, h1]; rfl, ?_, h3, fun hm => ⟨_, put_I2 v, (h4 hm).trans ?_⟩⟩
  · rw [isa_put.eq]; unfold isa_put_b
    rw [pl_I2, Option.bind_some, cond_true]
    have h2' : isa_plain_put ⟨8, 2, 1, 0⟩ v = some p := h2
    refine (congrArg (fun x => Option.bind x _) h2').trans rfl
  · have hd : w64 (Int.tdiv v 1) = v := by have := tdiv_one_in hv; rw [sub0_in hv] at this; exact this
    rw [hd]; rfl
theorem pl_D : isa_plains s_D = some (⟨21, 5, 1, 0⟩, true) := cv_some (isa_plains.cv _) 5 (by kernel_rfl)
theorem may_D (v : Int) : r2_May s_D v = (r2_in v 32 1).bind fun r => some r := (r2_May.eq _ _).trans (by kernel_rfl)
theorem put_D (v : Int) : r2_put s_D v = some (shlI .i64 v 21) := by
  refine (r2_put.eq _ _).trans (Eq.trans (b := (r2_long s_D v).bind fun r => some r) (by kernel_rfl) ?_)
  rw [show r2_long s_D v = some (shlI .i64 v 21) from (r2_long.eq _ _).trans (by kernel_rfl)]; rfl
theorem alike_D (v : Int) (hv : inI v) : Alike s_D v := by
  obtain ⟨m, p, h1, h2, h3, h4⟩ := plain_alike 21 32 1 0 5 21 v hv rfl (by decide) (.inl rfl) (.inl rfl) ⟨by decide, by decide⟩ (by decide)
  rw [sub0_in hv] at h1 h4
  refine ⟨m, p, by rw [may_D, h1]; rfl, ?_, h3, fun hm => ⟨_, put_D v, (h4 hm).trans ?_⟩⟩
  · rw [isa_put.eq]; unfold isa_put_b
    rw [pl_D, Option.bind_some, cond_true]
    have h2' : isa_plain_put ⟨21, 5, 1, 0⟩ v = some p := h2
    refine (congrArg (fun x => Option.bind x _) h2').trans rfl
  · have hd : w64 (Int.tdiv v 1) = v := by have := tdiv_one_in hv; rw [sub0_in hv] at this; exact this
    rw [hd]; rfl
theorem pl_A : isa_plains s_A = some (⟨16, 5, 1, 0⟩, true) := cv_some (isa_plains.cv _) 5 (by kernel_rfl)
theorem may_A (v : Int) : r2_May s_A v = (r2_in v 32 1).bind fun r => some r := (r2_May.eq _ _).trans (by kernel_rfl)
theorem put_A (v : Int) : r2_put s_A v = some (shlI .i64 v 16) := by
  refine (r2_put.eq _ _).trans (Eq.trans (b := (r2_long s_A v).bind fun r => some r) (by kernel_rfl) ?_)
  rw [show r2_long s_A v = some (shlI .i64 v 16) from (r2_long.eq _ _).trans (by kernel_rfl)]; rfl
theorem alike_A (v : Int) (hv : inI v) : Alike s_A v := by
  obtain ⟨m, p, h1, h2, h3, h4⟩ := plain_alike 16 32 1 0 5 16 v hv rfl (by decide) (.inl rfl) (.inl rfl) ⟨by decide, by decide⟩ (by decide)
  rw [sub0_in hv] at h1 h4
  refine ⟨m, p, by rw [may_A, h1]; rfl, ?_, h3, fun hm => ⟨_, put_A v, (h4 hm).trans ?_⟩⟩
  · rw [isa_put.eq]; unfold isa_put_b
    rw [pl_A, Option.bind_some, cond_true]
    have h2' : isa_plain_put ⟨16, 5, 1, 0⟩ v = some p := h2
    refine (congrArg (fun x => Option.bind x _) h2').trans rfl
  · have hd : w64 (Int.tdiv v 1) = v := by have := tdiv_one_in hv; rw [sub0_in hv] at this; exact this
    rw [hd]; rfl
theorem pl_B : isa_plains s_B = some (⟨11, 5, 1, 0⟩, true) := cv_some (isa_plains.cv _) 5 (by kernel_rfl)
theorem may_B (v : Int) : r2_May s_B v = (r2_in v 32 1).bind fun r => some r := (r2_May.eq _ _).trans (by kernel_rfl)
theorem put_B (v : Int) : r2_put s_B v = some (shlI .i64 v 11) := by
  refine (r2_put.eq _ _).trans (Eq.trans (b := (r2_long s_B v).bind fun r => some r) (by kernel_rfl) ?_)
  rw [show r2_long s_B v = some (shlI .i64 v 11) from (r2_long.eq _ _).trans (by kernel_rfl)]; rfl
theorem alike_B (v : Int) (hv : inI v) : Alike s_B v := by
  obtain ⟨m, p, h1, h2, h3, h4⟩ := plain_alike 11 32 1 0 5 11 v hv rfl (by decide) (.inl rfl) (.inl rfl) ⟨by decide, by decide⟩ (by decide)
  rw [sub0_in hv] at h1 h4
  refine ⟨m, p, by rw [may_B, h1]; rfl, ?_, h3, fun hm => ⟨_, put_B v, (h4 hm).trans ?_⟩⟩
  · rw [isa_put.eq]; unfold isa_put_b
    rw [pl_B, Option.bind_some, cond_true]
    have h2' : isa_plain_put ⟨11, 5, 1, 0⟩ v = some p := h2
    refine (congrArg (fun x => Option.bind x _) h2').trans rfl
  · have hd : w64 (Int.tdiv v 1) = v := by have := tdiv_one_in hv; rw [sub0_in hv] at this; exact this
    rw [hd]; rfl
theorem pl_O2 : isa_plains s_O2 = some (⟨20, 2, 1, 0⟩, true) := cv_some (isa_plains.cv _) 5 (by kernel_rfl)
theorem may_O2 (v : Int) : r2_May s_O2 v = (r2_in v 4 1).bind fun r => some r := (r2_May.eq _ _).trans (by kernel_rfl)
theorem put_O2 (v : Int) : r2_put s_O2 v = some (shlI .i64 v 20) := by
  refine (r2_put.eq _ _).trans (Eq.trans (b := (r2_long s_O2 v).bind fun r => some r) (by kernel_rfl) ?_)
  rw [show r2_long s_O2 v = some (shlI .i64 v 20) from (r2_long.eq _ _).trans (by kernel_rfl)]; rfl
theorem alike_O2 (v : Int) (hv : inI v) : Alike s_O2 v := by
  obtain ⟨m, p, h1, h2, h3, h4⟩ := plain_alike 20 4 1 0 2 20 v hv rfl (by decide) (.inl rfl) (.inl rfl) ⟨by decide, by decide⟩ (by decide)
  rw [sub0_in hv] at h1 h4
  refine ⟨m, p, by rw [may_O2, h1]; rfl, ?_, h3, fun hm => ⟨_, put_O2 v, (h4 hm).trans ?_⟩⟩
  · rw [isa_put.eq]; unfold isa_put_b
    rw [pl_O2, Option.bind_some, cond_true]
    have h2' : isa_plain_put ⟨20, 2, 1, 0⟩ v = some p := h2
    refine (congrArg (fun x => Option.bind x _) h2').trans rfl
  · have hd : w64 (Int.tdiv v 1) = v := by have := tdiv_one_in hv; rw [sub0_in hv] at this; exact this
    rw [hd]; rfl
theorem pl_I4 : isa_plains s_I4 = some (⟨16, 4, 1, 0⟩, true) := cv_some (isa_plains.cv _) 5 (by kernel_rfl)
theorem may_I4 (v : Int) : r2_May s_I4 v = (r2_in v 16 1).bind fun r => some r := (r2_May.eq _ _).trans (by kernel_rfl)
theorem put_I4 (v : Int) : r2_put s_I4 v = some (shlI .i64 v 16) := by
  refine (r2_put.eq _ _).trans (Eq.trans (b := (r2_long s_I4 v).bind fun r => some r) (by kernel_rfl) ?_)
  rw [show r2_long s_I4 v = some (shlI .i64 v 16) from (r2_long.eq _ _).trans (by kernel_rfl)]; rfl
theorem alike_I4 (v : Int) (hv : inI v) : Alike s_I4 v := by
  obtain ⟨m, p, h1, h2, h3, h4⟩ := plain_alike 16 16 1 0 4 16 v hv rfl (by decide) (.inl rfl) (.inl rfl) ⟨by decide, by decide⟩ (by decide)
  rw [sub0_in hv] at h1 h4
  refine ⟨m, p, by rw [may_I4, h1]; rfl, ?_, h3, fun hm => ⟨_, put_I4 v, (h4 hm).trans ?_⟩⟩
  · rw [isa_put.eq]; unfold isa_put_b
    rw [pl_I4, Option.bind_some, cond_true]
    have h2' : isa_plain_put ⟨16, 4, 1, 0⟩ v = some p := h2
    refine (congrArg (fun x => Option.bind x _) h2').trans rfl
  · have hd : w64 (Int.tdiv v 1) = v := by have := tdiv_one_in hv; rw [sub0_in hv] at this; exact this
    rw [hd]; rfl
end Go.Ab
set_option maxRecDepth 100000
namespace Go.Ab
theorem r1_fits (v b n : Int) (hb : shlI .i64 1 (IntKind.u64.wrap (w64 (b - 1))) = n) (hn : 0 < n ∧ n < 4611686018427387904) (h1 : 0 ≤ IntKind.u64.wrap (w64 (b - 1))) (hf : fitsS v b = some (decide (-n ≤ v ∧ v < n))) : r1_Fits v b = imm_Fits v b := by
  show r1_Fits v b = fitsS v b
  rw [r1_Fits.eq, hf]; unfold r1_Fits_b
  rw [decide_eq_true h1, cond_true, hb, w64_in (n := 0 - n) (by omega) (by omega)]
  by_cases h : v ≥ 0 - n
  · rw [decide_eq_true h, cond_true]; congr 1; rw [Bool.eq_iff_iff, decide_eq_true_iff, decide_eq_true_iff]; omega
  · rw [decide_eq_false h, cond_false]; congr 1; rw [eq_comm, decide_eq_false_iff_not]; omega
theorem fits_9 (v : Int) : r1_Fits v 9 = imm_Fits v 9 := r1_fits v 9 256 (by decide) (by decide) (by decide) rfl
theorem fits_16 (v : Int) : r1_Fits v 16 = imm_Fits v 16 := r1_fits v 16 32768 (by decide) (by decide) (by decide) rfl
theorem fits_20 (v : Int) : r1_Fits v 20 = imm_Fits v 20 := r1_fits v 20 524288 (by decide) (by decide) (by decide) rfl
theorem fits_25 (v : Int) : r1_Fits v 25 = imm_Fits v 25 := r1_fits v 25 16777216 (by decide) (by decide) (by decide) rfl
theorem plN (e : ByteArray) (h : ∃ k p, isa_plains.s k e = some (p, false)) : ∃ p, isa_plains e = some (p, false) := by
  obtain ⟨k, p, h⟩ := h; exact ⟨p, cv_some (isa_plains.cv _) k h⟩
/-- what is behind the plain kinds -/
theorem put_behind {e : ByteArray} {p : T_isa_plain} (h : isa_plains e = some (p, false)) (v : Int) {x : Option (Int × Bool)} (hx : (isa_put_b (fun _ => some (p, false)) isa_plain_put isa_place imm_Split imm_Fits imm_Sci8 isa_wide e v) = x) : isa_put e v = x := by
  rw [isa_put.eq, ← hx]; unfold isa_put_b
  rw [h]
def aChk (e : ByteArray) (i : Nat) : Bool := match r2_May.s 20 e (i : Int), isa_put.s 20 e (i : Int), r2_put.s 20 e (i : Int) with
  | some m, some p, some q => (p.2 == m) && (p.1 == IntKind.u32.wrap q || !m)
  | _, _, _ => false
theorem chk_X : ((List.range 32).all (aChk s_X)) = true := by kernel_rfl
theorem chk_Y : ((List.range 32).all (aChk s_Y)) = true := by kernel_rfl
theorem alike_chk {e : ByteArray} {i : Nat} (h : ((List.range 32).all (aChk e)) = true) (hi : i < 32) : Alike e i := by
  have h := List.all_eq_true.1 h i (List.mem_range.2 hi)
  unfold aChk at h
  split at h
  · rename_i m p q e1 e2 e3
    rw [Bool.and_eq_true, beq_iff_eq, Bool.or_eq_true, beq_iff_eq] at h
    refine ⟨m, p, cv_some (r2_May.cv _ _) _ e1, cv_some (isa_put.cv _ _) _ e2, h.1, fun hm => ⟨q, cv_some (r2_put.cv _ _) _ e3, ?_⟩⟩
    rcases h.2 with h | h
    · exact h
    · rw [hm] at h; cases h
  · cases h
theorem reg_out (v : Int) (h : v < 0 ∨ 31 < v) : (bif (decide (v ≥ (0 : Int))) then (bif (decide (v ≤ (7 : Int))) then (some true) else (bif (decide (v ≥ (24 : Int))) then (some (decide (v ≤ (31 : Int)))) else (some false))) else (bif (decide (v ≥ (24 : Int))) then (some (decide (v ≤ (31 : Int)))) else (some false))) = some false := by
  rcases h with h | h
  · rw [show decide (v ≥ 0) = false from decide_eq_false (by omega), show decide (v ≥ 24) = false from decide_eq_false (by omega)]; rfl
  · rw [show decide (v ≥ 0) = true from decide_eq_true (by omega), show decide (v ≤ 7) = false from decide_eq_false (by omega), show decide (v ≥ 24) = true from decide_eq_true (by omega), show decide (v ≤ 31) = false from decide_eq_false (by omega)]; rfl
theorem may_X (v : Int) : r2_May s_X v = (bif (decide (v ≥ (0 : Int))) then (bif (decide (v ≤ (7 : Int))) then (some true) else (bif (decide (v ≥ (24 : Int))) then (some (decide (v ≤ (31 : Int)))) else (some false))) else (bif (decide (v ≥ (24 : Int))) then (some (decide (v ≤ (31 : Int)))) else (some false))) := (r2_May.eq _ _).trans (by kernel_rfl)
theorem may_Y (v : Int) : r2_May s_Y v = (bif (decide (v ≥ (0 : Int))) then (bif (decide (v ≤ (7 : Int))) then (some true) else (bif (decide (v ≥ (24 : Int))) then (some (decide (v ≤ (31 : Int)))) else (some false))) else (bif (decide (v ≥ (24 : Int))) then (some (decide (v ≤ (31 : Int)))) else (some false))) := (r2_May.eq _ _).trans (by kernel_rfl)
theorem reg_put {e : ByteArray} {p : T_isa_plain} (hp : isa_plains e = some (p, false)) (he : eqS e s_X = true ∨ (eqS e s_X = false ∧ eqS e s_Y = true)) (v : Int) (h : v < 0 ∨ 31 < v) : isa_put e v = some (0, false) := by
  rw [isa_put.eq]; unfold isa_put_b
  rw [hp, Option.bind_some, cond_false]
  have k : ∀ x : Option (Int × Bool), ∀ y : Option (Int × Bool), (bif (decide (v < (0 : Int))) then (some ((0 : Int), false)) else (bif (decide (v > (7 : Int))) then (bif (decide (v < (24 : Int))) then (some ((0 : Int), false)) else (bif (decide (v > (31 : Int))) then (some ((0 : Int), false)) else x)) else y)) = some (0, false) := by
    intro x y
    rcases h with h | h
    · rw [show decide (v < 0) = true from decide_eq_true h]; rfl
    · rw [show decide (v < 0) = false from decide_eq_false (by omega), show decide (v > 7) = true from decide_eq_true (by omega), show decide (v < 24) = false from decide_eq_false (by omega), show decide (v > 31) = true from decide_eq_true (by omega)]; rfl
  rcases he with he | ⟨he, he'⟩
  · rw [he, cond_true]; exact k _ _
  · rw [he, cond_false, he', cond_true]; exact k _ _
theorem pl_X : ∃ p, isa_plains s_X = some (p, false) := plN _ ⟨20, ⟨0, 0, 0, 0⟩, by kernel_rfl⟩
theorem pl_Y : ∃ p, isa_plains s_Y = some (p, false) := plN _ ⟨20, ⟨0, 0, 0, 0⟩, by kernel_rfl⟩
theorem alike_X (v : Int) : Alike s_X v := by
  by_cases h : 0 ≤ v ∧ v < 32
  · obtain ⟨i, rfl⟩ := Int.eq_ofNat_of_zero_le h.1; exact alike_chk chk_X (by omega)
  · obtain ⟨p, hp⟩ := pl_X
    exact ⟨false, _, (may_X v).trans (reg_out v (by omega)), reg_put hp (.inl (eqS_iff.2 rfl)) v (by omega), rfl, fun h => nomatch h⟩
theorem alike_Y (v : Int) : Alike s_Y v := by
  by_cases h : 0 ≤ v ∧ v < 32
  · obtain ⟨i, rfl⟩ := Int.eq_ofNat_of_zero_le h.1; exact alike_chk chk_Y (by omega)
  · obtain ⟨p, hp⟩ := pl_Y
    exact ⟨false, _, (may_Y v).trans (reg_out v (by omega)), reg_put hp (.inr ⟨by kernel_rfl, eqS_iff.2 rfl⟩) v (by omega), rfl, fun h => nomatch h⟩
theorem alike_S16 (v : Int) : Alike s_S16 v := by
  obtain ⟨p, hp⟩ := plN s_S16 ⟨20, ⟨0, 0, 0, 0⟩, by kernel_rfl⟩
  obtain ⟨m, hm, _⟩ := fits_tot v 16 (by simp)
  refine ⟨m, (IntKind.u32.wrap (andI .i64 v 65535), m), ?_, ?_, rfl, fun _ => ⟨andI .i64 v 65535, ?_, rfl⟩⟩
  · refine (r2_May.eq _ _).trans (Eq.trans (b := (r2_wide s_S16 v).bind fun r => some r) (by kernel_rfl) ?_)
    rw [show r2_wide s_S16 v = (r1_Fits v 16).bind fun r => some r from (r2_wide.eq _ _).trans (by kernel_rfl), fits_16, hm]; rfl
  · refine put_behind hp v ?_
    refine Eq.trans (b := (imm_Fits v 16).bind fun r => some (IntKind.u32.wrap (andI .i64 v 65535), r)) (by kernel_rfl) ?_
    rw [hm]; rfl
  · refine (r2_put.eq _ _).trans (Eq.trans (b := (r2_long s_S16 v).bind fun r => some r) (by kernel_rfl) ?_)
    rw [show r2_long s_S16 v = some (andI .i64 v 65535) from (r2_long.eq _ _).trans (by kernel_rfl)]; rfl
theorem alike_L20 (v : Int) : Alike s_L20 v := by
  obtain ⟨p, hp⟩ := plN s_L20 ⟨20, ⟨0, 0, 0, 0⟩, by kernel_rfl⟩
  obtain ⟨m, hm, _⟩ := fits_tot v 20 (by simp)
  have hs : ∃ s, imm_Split v = some s ∧ r1_Split v = some s := by
    rw [imm_Split.eq, r1_Split.eq]; exact ⟨_, rfl, rfl⟩
  obtain ⟨s, s1, s2⟩ := hs
  refine ⟨m, (IntKind.u32.wrap (orI .i64 (orI .i64 (shlI .i64 s.1 11) (shlI .i64 s.2.1 16)) s.2.2), m), ?_, ?_, rfl, fun _ => ⟨orI .i64 (orI .i64 (shlI .i64 s.1 11) (shlI .i64 s.2.1 16)) s.2.2, ?_, rfl⟩⟩
  · refine (r2_May.eq _ _).trans (Eq.trans (b := (r2_wide s_L20 v).bind fun r => some r) (by kernel_rfl) ?_)
    rw [show r2_wide s_L20 v = (r1_Fits v 20).bind fun r => some r from (r2_wide.eq _ _).trans (by kernel_rfl), fits_20, hm]; rfl
  · refine put_behind hp v ?_
    refine Eq.trans (b := (imm_Split v).bind fun r7 => (imm_Fits v 20).bind fun r => some (IntKind.u32.wrap (orI .i64 (orI .i64 (shlI .i64 r7.1 11) (shlI .i64 r7.2.1 16)) r7.2.2), r)) (by kernel_rfl) ?_
    rw [s1, hm]; rfl
  · refine (r2_put.eq _ _).trans (Eq.trans (b := (r2_long s_L20 v).bind fun r => some r) (by kernel_rfl) ?_)
    rw [show r2_long s_L20 v = (r1_Split v).bind fun r1 => some (orI .i64 (orI .i64 (shlI .i64 r1.1 11) (shlI .i64 r1.2.1 16)) r1.2.2) from (r2_long.eq _ _).trans (by kernel_rfl), s2]; rfl
end Go.Ab
set_option maxRecDepth 100000
namespace Go.Ab
theorem wide_T8 : isa_wide s_T8 = some 9 := cv_some (isa_wide.cv _) 20 (by kernel_rfl)
theorem wide_T15 : isa_wide s_T15 = some 16 := cv_some (isa_wide.cv _) 20 (by kernel_rfl)
theorem wide_T24 : isa_wide s_T24 = some 25 := cv_some (isa_wide.cv _) 20 (by kernel_rfl)
theorem even_alike {e : ByteArray} {v b q : Int} {k : Option (Int × Bool)} (hb : b = 9 ∨ b = 25 ∨ b = 16 ∨ b = 20) (hf : r1_Fits v b = imm_Fits v b)
    (h1 : isa_put e v = (bif (Int.tmod v 2 != 0) then some (0, false) else (imm_Fits v b).bind fun r12 => bif (!r12) then some (0, false) else some (IntKind.u32.wrap q, true)))
    (h2 : r2_May e v = r2_even v b) (h3 : r2_put e v = some q) : Alike e v := by
  obtain ⟨m, hm, _⟩ := fits_tot v b hb
  rw [hm] at h1
  rw [r2_even.eq] at h2; unfold r2_even_b at h2
  rw [hf, hm] at h2
  cases c : (Int.tmod v 2 == 0) with
  | false =>
    rw [show (Int.tmod v 2 != 0) = true by rw [bne, c]; rfl, cond_true] at h1
    rw [c, cond_false] at h2
    exact ⟨false, _, h2, h1, rfl, fun h => nomatch h⟩
  | true =>
    rw [show (Int.tmod v 2 != 0) = false by rw [bne, c]; rfl, cond_false] at h1
    rw [c, cond_true] at h2
    cases m with
    | false => exact ⟨false, _, h2, h1, rfl, fun h => nomatch h⟩
    | true => exact ⟨true, _, h2, h1, rfl, fun _ => ⟨q, h3, rfl⟩⟩
theorem alike_T8 (v : Int) : Alike s_T8 v := by
  obtain ⟨p, hp⟩ := plN s_T8 ⟨20, ⟨0, 0, 0, 0⟩, by kernel_rfl⟩
  refine even_alike (b := 9) (q := andI .i64 (w64 (Int.tdiv v 2)) 255) (k := none) (by simp) (fits_9 v) (put_behind hp v ?_) ?_ ((r2_put.eq _ _).trans (by kernel_rfl))
  · refine Eq.trans (b := bif (Int.tmod v 2 != 0) then some (0, false) else (isa_wide s_T8).bind fun b => (imm_Fits v b).bind fun r12 => bif (!r12) then some (0, false) else some (IntKind.u32.wrap (andI .i64 (w64 (Int.tdiv v 2)) 255), true)) (by kernel_rfl) ?_
    rw [wide_T8]; rfl
  · refine (r2_May.eq _ _).trans (Eq.trans (b := (r2_wide s_T8 v).bind fun r => some r) (by kernel_rfl) ?_)
    rw [show r2_wide s_T8 v = (r2_even v 9).bind fun r => some r from (r2_wide.eq _ _).trans (by kernel_rfl)]
    cases r2_even v 9 <;> rfl
theorem alike_T15 (v : Int) : Alike s_T15 v := by
  obtain ⟨p, hp⟩ := plN s_T15 ⟨20, ⟨0, 0, 0, 0⟩, by kernel_rfl⟩
  refine even_alike (b := 16) (q := andI .i64 v 65535) (k := none) (by simp) (fits_16 v) (put_behind hp v ?_) ?_ ?_
  · refine Eq.trans (b := bif (Int.tmod v 2 != 0) then some (0, false) else (isa_wide s_T15).bind fun b => (imm_Fits v b).bind fun r12 => bif (!r12) then some (0, false) else (isa_wide s_T15).bind fun r13 => bif (decide (0 ≤ r13)) then some (IntKind.u32.wrap (andI .i64 v (w64 ((shlI .i64 1 r13) - 1))), true) else none) (by kernel_rfl) ?_
    rw [wide_T15]; rfl
  · refine (r2_May.eq _ _).trans (Eq.trans (b := (r2_wide s_T15 v).bind fun r => some r) (by kernel_rfl) ?_)
    rw [show r2_wide s_T15 v = (r2_even v 16).bind fun r => some r from (r2_wide.eq _ _).trans (by kernel_rfl)]
    cases r2_even v 16 <;> rfl
  · refine (r2_put.eq _ _).trans (Eq.trans (b := (r2_long s_T15 v).bind fun r => some r) (by kernel_rfl) ?_)
    rw [show r2_long s_T15 v = some (andI .i64 v 65535) from (r2_long.eq _ _).trans (by kernel_rfl)]; rfl
theorem alike_T24 (v : Int) : Alike s_T24 v := by
  obtain ⟨p, hp⟩ := plN s_T24 ⟨20, ⟨0, 0, 0, 0⟩, by kernel_rfl⟩
  refine even_alike (b := 25) (q := andI .i64 v 33554431) (k := none) (by simp) (fits_25 v) (put_behind hp v ?_) ?_ ?_
  · refine Eq.trans (b := bif (Int.tmod v 2 != 0) then some (0, false) else (isa_wide s_T24).bind fun b => (imm_Fits v b).bind fun r12 => bif (!r12) then some (0, false) else (isa_wide s_T24).bind fun r13 => bif (decide (0 ≤ r13)) then some (IntKind.u32.wrap (andI .i64 v (w64 ((shlI .i64 1 r13) - 1))), true) else none) (by kernel_rfl) ?_
    rw [wide_T24]; rfl
  · refine (r2_May.eq _ _).trans (Eq.trans (b := (r2_wide s_T24 v).bind fun r => some r) (by kernel_rfl) ?_)
    rw [show r2_wide s_T24 v = (r2_even v 25).bind fun r => some r from (r2_wide.eq _ _).trans (by kernel_rfl)]
    cases r2_even v 25 <;> rfl
  · refine (r2_put.eq _ _).trans (Eq.trans (b := (r2_long s_T24 v).bind fun r => some r) (by kernel_rfl) ?_)
    rw [show r2_long s_T24 v = some (andI .i64 v 33554431) from (r2_long.eq _ _).trans (by kernel_rfl)]; rfl
end Go.Ab
set_option maxRecDepth 100000
namespace Go.Ab
def ub (v : Int) (s : Nat) : Int := v / (256 ^ s) % 256
theorem ub_byt (v : Int) (s : Nat) : byt (ub v s) := ⟨by unfold ub; omega, by unfold ub; omega⟩
theorem bk_range (f : Bool) (s : Nat) {u : Int} (hu : byt u) : 0 ≤ bk f s u ∧ bk f s u < 4294967296 := by
  have hf := fb_byt f
  unfold bk pk4
  have : ∀ k : Nat, byt (if s = k then u else fb f) := fun k => by split <;> assumption
  have h3 := this 3
  have h2 := this 2
  have h1 := this 1
  have h0 := this 0
  omega
theorem ub_of (f : Bool) (s : Nat) (hs : s < 4) {u v : Int} (hu : byt u) (h : sgn32 (bk f s u) = v) : u = ub v s := by
  have hx : ∃ q, v = 4294967296 * q + bk f s u := by
    unfold sgn32 at h
    split at h
    · exact ⟨0, by omega⟩
    · exact ⟨-1, by omega⟩
  obtain ⟨q, hx⟩ := hx
  obtain ⟨hu0, hu1⟩ := hu
  unfold bk pk4 at hx
  unfold ub
  have : s = 0 ∨ s = 1 ∨ s = 2 ∨ s = 3 := by omega
  cases f <;> simp only [fb, if_true, Bool.false_eq_true, if_false] at hx <;> rcases this with rfl | rfl | rfl | rfl <;> simp at hx ⊢ <;> omega
def sciL (v : Int) : List (Bool × Nat) → Int × Int × Int × Bool
  | [] => (0, 0, 0, false)
  | p :: l => if sgn32 (bk p.1 p.2 (ub v p.2)) = v then (if p.1 then 1 else 0, (p.2 : Int), ub v p.2, true) else sciL v l
theorem sciL_cons (v : Int) (p : Bool × Nat) (l : List (Bool × Nat)) : sciL v (p :: l) = if sgn32 (bk p.1 p.2 (ub v p.2)) = v then (if p.1 then 1 else 0, (p.2 : Int), ub v p.2, true) else sciL v l := rfl
theorem found_eq2 (v : Int) (f : Bool) (s : Nat) (hs : s < 4) : ∃ r, imm_found v ⟨if f then 1 else 0, s⟩ = some r ∧ ((r = ub v s ∧ sgn32 (bk f s (ub v s)) = v) ∨ (r = -1 ∧ sgn32 (bk f s (ub v s)) ≠ v)) := by
  obtain ⟨r, h1, h2⟩ := loop_ind imm_found_L1.eq (fun a => ∃ i : Nat, i ≤ 256 ∧ a = ⟨v, ⟨if f then 1 else 0, s⟩, i⟩ ∧ ∀ j : Nat, j < i → sgn32 (bk f s j) ≠ v)
    (fun _ r => (∃ i : Nat, i < 256 ∧ r = .inl (i : Int) ∧ sgn32 (bk f s i) = v) ∨ (r = .inr () ∧ ∀ j : Nat, j < 256 → sgn32 (bk f s j) ≠ v)) (fun a => 256 - a.x6.toNat) (by
    rintro a ⟨i, hi, rfl, hq⟩
    unfold imm_found_L1_b
    simp only
    by_cases h : i < 256
    · have c1 : decide ((i : Int) < 256) = true := decide_eq_true (by omega)
      have hb := back_eq f s (u := (i : Int)) ⟨by omega, by omega⟩
      rw [c1, cond_true, imm_form_of.eq]; unfold imm_form_of_b
      simp only
      rw [hb]
      simp only [Option.bind_some]
      by_cases he : sgn32 (bk f s i) = v
      · refine .inr ⟨.inl (i : Int), ?_, .inl ⟨i, h, rfl, he⟩⟩
        rw [beq_iff_eq.2 he]; rfl
      · refine .inl ⟨⟨v, ⟨if f then 1 else 0, s⟩, (i + 1 : Nat)⟩, ?_, ⟨i + 1, by omega, rfl, fun j hj => ?_⟩, by simp only [Int.toNat_natCast]; omega, fun r hr => hr⟩
        · rw [beq_eq_false_iff_ne.2 he, cond_false, w64_in (n := (i : Int) + 1) (by omega) (by omega)]; rfl
        · rcases Nat.lt_or_ge j i with h' | h'
          · exact hq j h'
          · obtain rfl : j = i := by omega
            exact he
    · have c1 : decide ((i : Int) < 256) = false := decide_eq_false (by omega)
      obtain rfl : i = 256 := by omega
      exact .inr ⟨.inr (), by rw [c1]; rfl, .inr ⟨rfl, hq⟩⟩) ⟨v, ⟨if f then 1 else 0, s⟩, 0⟩ ⟨0, by omega, rfl, fun j hj => by omega⟩
  rw [imm_found.eq]; unfold imm_found_b
  rw [h1]
  rcases h2 with ⟨i, hi, rfl, he⟩ | ⟨rfl, hn⟩
  · have hu := ub_of f s hs (u := (i : Int)) ⟨by omega, by omega⟩ he
    exact ⟨i, rfl, .inl ⟨hu, by rw [← hu]; exact he⟩⟩
  · refine ⟨-1, rfl, .inr ⟨rfl, ?_⟩⟩
    have hb := ub_byt v s
    obtain ⟨j, hj⟩ := Int.eq_ofNat_of_zero_le hb.1
    rw [hj]
    exact hn j (by omega)
theorem forms_lt : ∀ i (h : i < forms8.length), (forms8[i]).2 < 4 := by decide
theorem sci8_imm (v : Int) : imm_Sci8 v = some (sciL v forms8) := by
  obtain ⟨r, h1, h2⟩ := loop_ind imm_Sci8_L1.eq (fun a => ∃ i : Nat, i ≤ 8 ∧ a = ⟨v, forms8.map fun p => ⟨if p.1 then 1 else 0, (p.2 : Int)⟩, 8, i⟩)
    (fun a r => (match r with | .inl o => (o.x2, o.x3, o.x4, o.x5) | .inr _ => ((0 : Int), (0 : Int), (0 : Int), false)) = sciL v (forms8.drop a.x10.toNat)) (fun a => 8 - a.x10.toNat) (by
    rintro a ⟨i, hi, rfl⟩
    unfold imm_Sci8_L1_b
    simp only
    have hlen : forms8.length = 8 := rfl
    by_cases h : i < 8
    · have c1 : decide ((i : Int) < 8) = true := decide_eq_true (by omega)
      have c2 : decide (0 ≤ (i : Int)) = true := decide_eq_true (by omega)
      have h' : i < forms8.length := by omega
      obtain ⟨r, e1, e2⟩ := found_eq2 v forms8[i].1 forms8[i].2 (forms_lt i h')
      rw [c1, cond_true, c2, cond_true, Int.toNat_natCast, List.getElem?_map, List.getElem?_eq_getElem h', Option.map_some, Option.bind_some, e1, Option.bind_some, List.drop_eq_getElem_cons h', sciL_cons]
      rcases e2 with ⟨rfl, e3⟩ | ⟨rfl, e3⟩
      · rw [decide_eq_true (show ub v forms8[i].2 ≥ 0 from (ub_byt _ _).1), if_pos e3]
        exact .inr ⟨_, rfl, rfl⟩
      · rw [if_neg e3]
        refine .inl ⟨⟨v, forms8.map fun p => ⟨if p.1 then 1 else 0, (p.2 : Int)⟩, 8, (i + 1 : Nat)⟩, ?_, ⟨i + 1, by omega, rfl⟩, by simp only [Int.toNat_natCast]; omega, fun r hr => by simp only [Int.toNat_natCast] at hr; exact hr⟩
        rw [show decide ((-1 : Int) ≥ 0) = false from rfl, cond_false, w64_in (n := (i : Int) + 1) (by omega) (by omega)]; rfl
    · have c1 : decide ((i : Int) < 8) = false := decide_eq_false (by omega)
      rw [Int.toNat_natCast, List.drop_of_length_le (by omega)]
      exact .inr ⟨_, by rw [c1]; rfl, rfl⟩) ⟨v, forms8.map fun p => ⟨if p.1 then 1 else 0, (p.2 : Int)⟩, 8, 0⟩ ⟨0, by omega, rfl⟩
  rw [imm_Sci8.eq]; unfold imm_Sci8_b
  rw [forms_eq, Option.bind_some]
  have e0 : imm_Sci8_L1 ⟨v, forms8.map fun p => ⟨if p.1 then 1 else 0, (p.2 : Int)⟩, (((forms8.map fun p => (⟨if p.1 then 1 else 0, (p.2 : Int)⟩ : T_imm_form)).length : Nat) : Int), 0⟩ = some r := h1
  rw [e0, Option.bind_some]
  have h2' : (match r with | .inl o => (o.x2, o.x3, o.x4, o.x5) | .inr _ => ((0 : Int), (0 : Int), (0 : Int), false)) = sciL v forms8 := h2
  rw [← h2']
  cases r <;> rfl
end Go.Ab
set_option maxRecDepth 100000
namespace Go.Ab
theorem andI_32 (x : Int) : andI .i64 x 4294967295 = x % 4294967296 := by
  have e : andI .i64 x 4294967295 = w64 ((Ui x &&& Ui 4294967295 : Nat) : Int) := by
    show IntKind.i64.wrap _ = IntKind.i64.wrap _
    rw [← BitVec.toNat_and]; rfl
  have h1 : Ui 4294967295 = 2 ^ 32 - 1 := by decide
  rw [e, h1, Nat.and_two_pow_sub_one_eq_mod]
  have := Ui_eq x
  rw [w64_in (by omega) (by omega)]; omega
theorem r1_sign32 {x : Int} (h0 : 0 ≤ x) (h1 : x < 4294967296) : r1_Sign x 32 = some (sgn32 x) := by
  rw [r1_Sign.eq]; unfold r1_Sign_b
  rw [show IntKind.u64.wrap 32 = 32 from by decide, show shlI .i64 1 32 = 4294967296 from by decide, show w64 (4294967296 - 1) = 4294967295 from by decide, andI_32, Int.emod_eq_of_lt h0 h1, show w64 (Int.tdiv 4294967296 2) = 2147483648 from by decide]
  rw [show decide (0 ≤ (32 : Int)) = true from rfl, cond_true]
  unfold sgn32
  by_cases h : x < 2147483648
  · rw [show decide (x ≥ 2147483648) = false from decide_eq_false (by omega), if_pos h]; rfl
  · rw [show decide (x ≥ 2147483648) = true from decide_eq_true (by omega), if_neg h, cond_true, w64_in (n := x - 4294967296) (by omega) (by omega)]
theorem r1_back_step (f : Bool) (s : Nat) {u x : Int} (hu : byt u) (hx : 0 ≤ x ∧ x < 16777216) (k : Nat) (hk : k < 4) :
    r1_Back_L1 ⟨if f then 1 else 0, s, u, x, k⟩ = r1_Back_L1 ⟨if f then 1 else 0, s, u, x * 256 + (if k = s then u else fb f), (k : Int) - 1⟩ := by
  rw [r1_Back_L1.eq ⟨if f then 1 else 0, s, u, x, k⟩]; unfold r1_Back_L1_b
  have c1 : decide ((k : Int) ≥ 0) = true := decide_eq_true (by omega)
  have e1 : w64 ((k : Int) - 1) = (k : Int) - 1 := w64_in (by omega) (by omega)
  have c2 : ((k : Int) == (s : Int)) = decide (k = s) := by rw [Bool.eq_iff_iff, beq_iff_eq, decide_eq_true_iff]; omega
  have e3 : w64 (255 * (if f then (1 : Int) else 0)) = fb f := by cases f <;> decide
  have hf := fb_byt f
  simp only
  rw [c1, cond_true, e1, c2, e3, w64_in (n := x * 256) (by omega) (by omega), w64_in (n := x * 256 + u) (by omega) (by omega), w64_in (n := x * 256 + fb f) (by omega) (by omega)]
  by_cases h : k = s
  · rw [decide_eq_true h, cond_true, if_pos h]; rfl
  · rw [decide_eq_false h, cond_false, if_neg h]; rfl
theorem r1_back_eq (f : Bool) (s : Nat) {u : Int} (hu : byt u) : r1_Back (if f then 1 else 0) s u = some (sgn32 (bk f s u)) := by
  have hf := fb_byt f
  have hb : ∀ k : Nat, byt (if k = s then u else fb f) := fun k => by split <;> assumption
  have h3 := hb 3
  have h2 := hb 2
  have h1 := hb 1
  have h0 := hb 0
  have e : bk f s u = pk4 (if 3 = s then u else fb f) (if 2 = s then u else fb f) (if 1 = s then u else fb f) (if 0 = s then u else fb f) := by
    unfold bk; simp only [eq_comm (a := s)]
  rw [e]
  rw [r1_Back.eq]; unfold r1_Back_b
  have s3 := r1_back_step f s hu (x := 0) (by omega) 3 (by omega)
  rw [show (⟨if f then 1 else 0, (s : Int), u, 0, ((3 : Nat) : Int)⟩ : r1_Back_L1_A) = ⟨if f then 1 else 0, (s : Int), u, 0, 3⟩ from rfl] at s3
  rw [s3]
  generalize (if 3 = s then u else fb f) = b3 at h3
  rw [show (((3 : Nat) : Int) - 1) = ((2 : Nat) : Int) from rfl, r1_back_step f s hu (by omega) 2 (by omega)]
  generalize (if 2 = s then u else fb f) = b2 at h2
  rw [show (((2 : Nat) : Int) - 1) = ((1 : Nat) : Int) from rfl, r1_back_step f s hu (by omega) 1 (by omega)]
  generalize (if 1 = s then u else fb f) = b1 at h1
  rw [show (((1 : Nat) : Int) - 1) = ((0 : Nat) : Int) from rfl, r1_back_step f s hu (by omega) 0 (by omega)]
  generalize (if 0 = s then u else fb f) = b0 at h0
  rw [r1_Back_L1.eq]; unfold r1_Back_L1_b
  have c1 : decide (((0 : Nat) : Int) - 1 ≥ 0) = false := rfl
  simp only
  rw [c1, cond_false]
  simp only [Option.bind_some, Sum.elim_inr]
  rw [show (((0 * 256 + b3) * 256 + b2) * 256 + b1) * 256 + b0 = pk4 b3 b2 b1 b0 from by unfold pk4; omega, r1_sign32 (by unfold pk4; omega) (by unfold pk4; omega)]; rfl
theorem ub_eq (v : Int) (s : Nat) (hs : s < 4) : andI .i64 (shrI .i64 v (IntKind.u64.wrap (w64 (8 * (s : Int))))) 255 = ub v s := by
  rw [andI_255]
  have : s = 0 ∨ s = 1 ∨ s = 2 ∨ s = 3 := by omega
  unfold shrI ub
  rw [Int.fdiv_eq_ediv_of_nonneg _ (Int.le_of_lt (Int.pow_pos (by decide)))]
  rcases this with rfl | rfl | rfl | rfl <;> rfl
def sciO (v : Int) : List (Bool × Nat) → Option (Int × Int × Int)
  | [] => none
  | p :: l => if sgn32 (bk p.1 p.2 (ub v p.2)) = v then some (if p.1 then 1 else 0, (p.2 : Int), ub v p.2) else sciO v l
def l2O (v fi : Int) : Option (Int × Int × Int) → r1_Sci8_L2_O0 ⊕ r1_Sci8_L2_O1
  | some t => .inl ⟨t.1, t.2.1, t.2.2, true⟩
  | none => .inr ⟨v, fi⟩
theorem L2_end (v : Int) (f : Bool) : r1_Sci8_L2 ⟨v, if f then 1 else 0, ((4 : Nat) : Int)⟩ = some (l2O v (if f then 1 else 0) (sciO v [])) := by
  rw [r1_Sci8_L2.eq]; rfl
theorem L2_step (v : Int) (f : Bool) (s : Nat) (hs : s < 4) (l : List (Bool × Nat)) (h : r1_Sci8_L2 ⟨v, if f then 1 else 0, ((s + 1 : Nat) : Int)⟩ = some (l2O v (if f then 1 else 0) (sciO v l))) :
    r1_Sci8_L2 ⟨v, if f then 1 else 0, (s : Int)⟩ = some (l2O v (if f then 1 else 0) (sciO v ((f, s) :: l))) := by
  rw [r1_Sci8_L2.eq]; unfold r1_Sci8_L2_b
  simp only
  have hg : decide (0 ≤ IntKind.u64.wrap (w64 (8 * (s : Int)))) = true := by
    have : s = 0 ∨ s = 1 ∨ s = 2 ∨ s = 3 := by omega
    rcases this with rfl | rfl | rfl | rfl <;> decide
  rw [show decide ((s : Int) < 4) = true from decide_eq_true (by omega), cond_true, hg, cond_true, ub_eq v s hs, r1_back_eq f s (ub_byt v s), Option.bind_some]
  unfold sciO
  by_cases he : sgn32 (bk f s (ub v s)) = v
  · rw [beq_iff_eq.2 he, cond_true, if_pos he]; rfl
  · rw [beq_eq_false_iff_ne.2 he, cond_false, if_neg he, w64_in (n := (s : Int) + 1) (by omega) (by omega)]; exact h
def fl (f : Bool) : List (Bool × Nat) := [(f, 0), (f, 1), (f, 2), (f, 3)]
theorem L2_all (v : Int) (f : Bool) : r1_Sci8_L2 ⟨v, if f then 1 else 0, 0⟩ = some (l2O v (if f then 1 else 0) (sciO v (fl f))) :=
  L2_step v f 0 (by omega) _ (L2_step v f 1 (by omega) _ (L2_step v f 2 (by omega) _ (L2_step v f 3 (by omega) _ (L2_end v f))))
theorem sciL_O (v : Int) : ∀ l : List (Bool × Nat), sciL v l = match sciO v l with | some t => (t.1, t.2.1, t.2.2, true) | none => (0, 0, 0, false)
  | [] => rfl
  | p :: l => by
    unfold sciL sciO
    split
    · rfl
    · exact sciL_O v l
theorem sciO_cons (v : Int) (p : Bool × Nat) (l : List (Bool × Nat)) : sciO v (p :: l) = if sgn32 (bk p.1 p.2 (ub v p.2)) = v then some (if p.1 then 1 else 0, (p.2 : Int), ub v p.2) else sciO v l := rfl
theorem sciO_app (v : Int) : ∀ l m : List (Bool × Nat), sciO v (l ++ m) = (sciO v l).or (sciO v m)
  | [], m => rfl
  | p :: l, m => by
    rw [List.cons_append, sciO_cons, sciO_cons]
    split
    · rfl
    · exact sciO_app v l m
theorem sciO_none {v : Int} (h : v < -2147483648 ∨ 2147483647 < v) : ∀ l : List (Bool × Nat), sciO v l = none
  | [] => rfl
  | p :: l => by
    unfold sciO
    have hb := bk_range p.1 p.2 (ub_byt v p.2)
    rw [if_neg (by unfold sgn32; split <;> omega)]
    exact sciO_none h l
theorem fits_32 (v : Int) : r1_Fits v 32 = some (decide (-2147483648 ≤ v ∧ v < 2147483648)) := (r1_fits v 32 2147483648 (by decide) (by decide) (by decide) rfl).trans rfl
theorem sci8_r1 (v : Int) : r1_Sci8 v = some (sciL v forms8) := by
  have hA : sciO v forms8 = (sciO v (fl false)).or (sciO v (fl true)) := sciO_app v (fl false) (fl true)
  rw [r1_Sci8.eq]; unfold r1_Sci8_b
  rw [fits_32, Option.bind_some, sciL_O]
  by_cases hr : -2147483648 ≤ v ∧ v < 2147483648
  · rw [decide_eq_true hr, show (!true) = false from rfl, cond_false, hA]
    have k0 := L2_all v false
    have k1 := L2_all v true
    simp only [Bool.false_eq_true, if_false, if_true] at k0 k1
    rw [r1_Sci8_L1.eq]; unfold r1_Sci8_L1_b
    simp only
    rw [show decide ((0 : Int) < 2) = true from rfl, cond_true, k0, Option.bind_some]
    cases sciO v (fl false) with
    | some t => rfl
    | none =>
      simp only [l2O, Sum.elim_inr, Option.bind_some, Sum.elim_inl, Option.none_or]
      rw [show w64 (0 + 1) = 1 from by decide, r1_Sci8_L1.eq]; unfold r1_Sci8_L1_b
      simp only
      rw [show decide ((1 : Int) < 2) = true from rfl, cond_true, k1, Option.bind_some]
      cases sciO v (fl true) with
      | some t => rfl
      | none =>
        simp only [l2O, Sum.elim_inr, Option.bind_some, Sum.elim_inl]
        rw [show w64 (1 + 1) = 2 from by decide, r1_Sci8_L1.eq]; rfl
  · rw [decide_eq_false hr, sciO_none (by omega)]; rfl
theorem alike_C8 (v : Int) : Alike s_C8 v := by
  obtain ⟨p, hp⟩ := plN s_C8 ⟨20, ⟨0, 0, 0, 0⟩, by kernel_rfl⟩
  have h1 := sci8_imm v
  have h2 := sci8_r1 v
  generalize sciL v forms8 = r at h1 h2
  refine ⟨r.2.2.2, (IntKind.u32.wrap (orI .i64 (orI .i64 (shlI .i64 r.1 10) (shlI .i64 r.2.1 8)) r.2.2.1), r.2.2.2), ?_, ?_, rfl, fun _ => ⟨orI .i64 (orI .i64 (shlI .i64 r.1 10) (shlI .i64 r.2.1 8)) r.2.2.1, ?_, rfl⟩⟩
  · refine (r2_May.eq _ _).trans (Eq.trans (b := (r2_wide s_C8 v).bind fun r => some r) (by kernel_rfl) ?_)
    rw [show r2_wide s_C8 v = (r1_Sci8 v).bind fun r => some r.2.2.2 from (r2_wide.eq _ _).trans (by kernel_rfl), h2]; rfl
  · refine put_behind hp v ?_
    refine Eq.trans (b := (imm_Sci8 v).bind fun r => some (IntKind.u32.wrap (orI .i64 (orI .i64 (shlI .i64 r.1 10) (shlI .i64 r.2.1 8)) r.2.2.1), r.2.2.2)) (by kernel_rfl) ?_
    rw [h1]; rfl
  · refine (r2_put.eq _ _).trans (Eq.trans (b := (r2_long s_C8 v).bind fun r => some r) (by kernel_rfl) ?_)
    rw [show r2_long s_C8 v = (r1_Sci8 v).bind fun r => some (orI .i64 (orI .i64 (shlI .i64 r.1 10) (shlI .i64 r.2.1 8)) r.2.2.1) from (r2_long.eq _ _).trans (by kernel_rfl), h2]; rfl
end Go.Ab
set_option maxRecDepth 100000
namespace Go.Ab
def ex (p q : Nat) : ByteArray := h_x37c0a411.extract p q
abbrev zR : T_r2_row := ⟨s_, s_, s_⟩
def goS : Nat → r2_find_L1_A → Option r2_find_L1_A
  | 0, a => some a
  | m + 1, a => match r2_find_L1_b a with
    | some (.inl a') => goS m a'
    | _ => none
theorem goS_eq : ∀ (m : Nat) {a a' : r2_find_L1_A}, goS m a = some a' → r2_find_L1 a = r2_find_L1 a'
  | 0, a, a', h => by cases h; rfl
  | m + 1, a, a', h => by
    unfold goS at h
    split at h
    · rename_i b e
      rw [r2_find_L1.eq, e]
      exact goS_eq m h
    · cases h
def findR (op : Int) (name : ByteArray) : List T_r2_row → Int → Option (T_r2_row × Int)
  | [], _ => none
  | r :: l, n => bif (n == op) then some (r, n) else bif (eqS r.Name name) then some (r, n) else findR op name l (n + 1)
def resF : Option (T_r2_row × Int) → r2_find_L1_O0 ⊕ T_r2_row
  | some r => .inl ⟨r.2, true, r.1⟩
  | none => .inr zR
theorem glue {op n m : Int} {name : ByteArray} {r : T_r2_row} {l : List T_r2_row} {s : r2_find_L1_A} (hm : m = n + 1) (h : r2_find_L1 s = some (resF (findR op name l m))) :
    (bif (n == op) then some (Sum.inr (.inl ⟨n, true, r⟩)) else bif (eqS r.Name name) then some (.inr (.inl ⟨n, true, r⟩)) else some (.inl s)).bind (Sum.elim r2_find_L1 some) = some (resF (findR op name (r :: l) n)) := by
  subst hm
  unfold findR
  cases (n == op) with
  | true => rfl
  | false =>
    rw [cond_false, cond_false]
    cases eqS r.Name name with
    | true => rfl
    | false => exact h
def S0 (op : Int) (name : ByteArray) : r2_find_L1_A := ⟨op, name, 0, 0, 0, 0, zR, s_, s_, s_⟩
def S1 (op : Int) (name : ByteArray) : r2_find_L1_A := ⟨op, name, 1, 17, 0, 17, zR, (ex 0 10), (ex 11 15), (ex 16 16)⟩
def S2 (op : Int) (name : ByteArray) : r2_find_L1_A := ⟨op, name, 2, 32, 0, 32, zR, (ex 17 25), (ex 26 30), (ex 31 31)⟩
def S3 (op : Int) (name : ByteArray) : r2_find_L1_A := ⟨op, name, 3, 44, 0, 44, zR, (ex 32 37), (ex 38 42), (ex 43 43)⟩
def S4 (op : Int) (name : ByteArray) : r2_find_L1_A := ⟨op, name, 4, 57, 0, 57, zR, (ex 44 50), (ex 51 55), (ex 56 56)⟩
def S5 (op : Int) (name : ByteArray) : r2_find_L1_A := ⟨op, name, 5, 71, 0, 71, zR, (ex 57 64), (ex 65 69), (ex 70 70)⟩
def S6 (op : Int) (name : ByteArray) : r2_find_L1_A := ⟨op, name, 6, 85, 0, 85, zR, (ex 71 77), (ex 78 82), (ex 83 84)⟩
def S7 (op : Int) (name : ByteArray) : r2_find_L1_A := ⟨op, name, 7, 99, 0, 99, zR, (ex 85 91), (ex 92 96), (ex 97 98)⟩
def S8 (op : Int) (name : ByteArray) : r2_find_L1_A := ⟨op, name, 8, 114, 0, 114, zR, (ex 99 106), (ex 107 111), (ex 112 113)⟩
def S9 (op : Int) (name : ByteArray) : r2_find_L1_A := ⟨op, name, 9, 129, 0, 129, zR, (ex 114 121), (ex 122 126), (ex 127 128)⟩
def S10 (op : Int) (name : ByteArray) : r2_find_L1_A := ⟨op, name, 10, 145, 0, 145, zR, (ex 129 137), (ex 138 142), (ex 143 144)⟩
def S11 (op : Int) (name : ByteArray) : r2_find_L1_A := ⟨op, name, 11, 161, 0, 161, zR, (ex 145 153), (ex 154 158), (ex 159 160)⟩
def S12 (op : Int) (name : ByteArray) : r2_find_L1_A := ⟨op, name, 12, 177, 0, 177, zR, (ex 161 169), (ex 170 174), (ex 175 176)⟩
def S13 (op : Int) (name : ByteArray) : r2_find_L1_A := ⟨op, name, 13, 193, 0, 193, zR, (ex 177 185), (ex 186 190), (ex 191 192)⟩
def S14 (op : Int) (name : ByteArray) : r2_find_L1_A := ⟨op, name, 14, 209, 0, 209, zR, (ex 193 201), (ex 202 206), (ex 207 208)⟩
def S15 (op : Int) (name : ByteArray) : r2_find_L1_A := ⟨op, name, 15, 225, 0, 225, zR, (ex 209 217), (ex 218 222), (ex 223 224)⟩
def S16 (op : Int) (name : ByteArray) : r2_find_L1_A := ⟨op, name, 16, 240, 0, 240, zR, (ex 225 230), (ex 231 235), (ex 236 239)⟩
def S17 (op : Int) (name : ByteArray) : r2_find_L1_A := ⟨op, name, 17, 256, 0, 256, zR, (ex 240 246), (ex 247 251), (ex 252 255)⟩
def S18 (op : Int) (name : ByteArray) : r2_find_L1_A := ⟨op, name, 18, 274, 0, 274, zR, (ex 256 264), (ex 265 269), (ex 270 273)⟩
def S19 (op : Int) (name : ByteArray) : r2_find_L1_A := ⟨op, name, 19, 290, 0, 290, zR, (ex 274 280), (ex 281 285), (ex 286 289)⟩
def S20 (op : Int) (name : ByteArray) : r2_find_L1_A := ⟨op, name, 20, 306, 0, 306, zR, (ex 290 296), (ex 297 301), (ex 302 305)⟩
def S21 (op : Int) (name : ByteArray) : r2_find_L1_A := ⟨op, name, 21, 323, 0, 323, zR, (ex 306 313), (ex 314 318), (ex 319 322)⟩
def S22 (op : Int) (name : ByteArray) : r2_find_L1_A := ⟨op, name, 22, 341, 0, 341, zR, (ex 323 330), (ex 331 335), (ex 336 340)⟩
def S23 (op : Int) (name : ByteArray) : r2_find_L1_A := ⟨op, name, 23, 360, 0, 360, zR, (ex 341 349), (ex 350 354), (ex 355 359)⟩
def S24 (op : Int) (name : ByteArray) : r2_find_L1_A := ⟨op, name, 24, 378, 0, 378, zR, (ex 360 367), (ex 368 372), (ex 373 377)⟩
def S25 (op : Int) (name : ByteArray) : r2_find_L1_A := ⟨op, name, 25, 396, 0, 396, zR, (ex 378 385), (ex 386 390), (ex 391 395)⟩
def S26 (op : Int) (name : ByteArray) : r2_find_L1_A := ⟨op, name, 26, 411, 0, 411, zR, (ex 396 401), (ex 402 406), (ex 407 410)⟩
def S27 (op : Int) (name : ByteArray) : r2_find_L1_A := ⟨op, name, 27, 428, 0, 428, zR, (ex 411 418), (ex 419 423), (ex 424 427)⟩
def S28 (op : Int) (name : ByteArray) : r2_find_L1_A := ⟨op, name, 28, 444, 0, 444, zR, (ex 428 434), (ex 435 439), (ex 440 443)⟩
def S29 (op : Int) (name : ByteArray) : r2_find_L1_A := ⟨op, name, 29, 460, 0, 460, zR, (ex 444 449), (ex 450 454), (ex 455 459)⟩
def S30 (op : Int) (name : ByteArray) : r2_find_L1_A := ⟨op, name, 30, 479, 0, 479, zR, (ex 460 468), (ex 469 473), (ex 474 478)⟩
def S31 (op : Int) (name : ByteArray) : r2_find_L1_A := ⟨op, name, 31, 498, 0, 498, zR, (ex 479 487), (ex 488 492), (ex 493 497)⟩
def S32 (op : Int) (name : ByteArray) : r2_find_L1_A := ⟨op, name, 32, 517, 0, 517, zR, (ex 498 506), (ex 507 511), (ex 512 516)⟩
def S33 (op : Int) (name : ByteArray) : r2_find_L1_A := ⟨op, name, 33, 535, 0, 535, zR, (ex 517 524), (ex 525 529), (ex 530 534)⟩
def S34 (op : Int) (name : ByteArray) : r2_find_L1_A := ⟨op, name, 34, 553, 0, 553, zR, (ex 535 542), (ex 543 547), (ex 548 552)⟩
def S35 (op : Int) (name : ByteArray) : r2_find_L1_A := ⟨op, name, 35, 572, 0, 572, zR, (ex 553 559), (ex 560 564), (ex 565 571)⟩
def S36 (op : Int) (name : ByteArray) : r2_find_L1_A := ⟨op, name, 36, 591, 0, 591, zR, (ex 572 578), (ex 579 583), (ex 584 590)⟩
def S37 (op : Int) (name : ByteArray) : r2_find_L1_A := ⟨op, name, 37, 610, 0, 610, zR, (ex 591 597), (ex 598 602), (ex 603 609)⟩
def S38 (op : Int) (name : ByteArray) : r2_find_L1_A := ⟨op, name, 38, 629, 0, 629, zR, (ex 610 616), (ex 617 621), (ex 622 628)⟩
def S39 (op : Int) (name : ByteArray) : r2_find_L1_A := ⟨op, name, 39, 648, 0, 648, zR, (ex 629 635), (ex 636 640), (ex 641 647)⟩
def S40 (op : Int) (name : ByteArray) : r2_find_L1_A := ⟨op, name, 40, 667, 0, 667, zR, (ex 648 654), (ex 655 659), (ex 660 666)⟩
def S41 (op : Int) (name : ByteArray) : r2_find_L1_A := ⟨op, name, 41, 687, 0, 687, zR, (ex 667 672), (ex 673 677), (ex 678 686)⟩
def S42 (op : Int) (name : ByteArray) : r2_find_L1_A := ⟨op, name, 42, 700, 0, 700, zR, (ex 687 691), (ex 692 696), (ex 697 699)⟩
def S43 (op : Int) (name : ByteArray) : r2_find_L1_A := ⟨op, name, 43, 714, 0, 714, zR, (ex 700 705), (ex 706 710), (ex 711 713)⟩
def S44 (op : Int) (name : ByteArray) : r2_find_L1_A := ⟨op, name, 44, 740, 0, 740, zR, (ex 714 722), (ex 723 731), (ex 732 739)⟩
def S45 (op : Int) (name : ByteArray) : r2_find_L1_A := ⟨op, name, 45, 763, 0, 763, zR, (ex 740 746), (ex 747 755), (ex 756 762)⟩
def S46 (op : Int) (name : ByteArray) : r2_find_L1_A := ⟨op, name, 46, 786, 0, 786, zR, (ex 763 769), (ex 770 778), (ex 779 785)⟩
def S47 (op : Int) (name : ByteArray) : r2_find_L1_A := ⟨op, name, 47, 808, 0, 808, zR, (ex 786 791), (ex 792 800), (ex 801 807)⟩
def S48 (op : Int) (name : ByteArray) : r2_find_L1_A := ⟨op, name, 48, 831, 0, 831, zR, (ex 808 814), (ex 815 823), (ex 824 830)⟩
def S49 (op : Int) (name : ByteArray) : r2_find_L1_A := ⟨op, name, 49, 851, 0, 851, zR, (ex 831 835), (ex 836 844), (ex 845 850)⟩
def S50 (op : Int) (name : ByteArray) : r2_find_L1_A := ⟨op, name, 50, 874, 0, 874, zR, (ex 851 856), (ex 857 865), (ex 866 873)⟩
def S51 (op : Int) (name : ByteArray) : r2_find_L1_A := ⟨op, name, 51, 897, 0, 897, zR, (ex 874 879), (ex 880 888), (ex 889 896)⟩
def S52 (op : Int) (name : ByteArray) : r2_find_L1_A := ⟨op, name, 52, 920, 0, 920, zR, (ex 897 902), (ex 903 911), (ex 912 919)⟩
def S53 (op : Int) (name : ByteArray) : r2_find_L1_A := ⟨op, name, 53, 943, 0, 943, zR, (ex 920 925), (ex 926 934), (ex 935 942)⟩
def S54 (op : Int) (name : ByteArray) : r2_find_L1_A := ⟨op, name, 54, 966, 0, 966, zR, (ex 943 948), (ex 949 957), (ex 958 965)⟩
def S55 (op : Int) (name : ByteArray) : r2_find_L1_A := ⟨op, name, 55, 989, 0, 989, zR, (ex 966 971), (ex 972 980), (ex 981 988)⟩
def S56 (op : Int) (name : ByteArray) : r2_find_L1_A := ⟨op, name, 56, 1012, 0, 1012, zR, (ex 989 994), (ex 995 1003), (ex 1004 1011)⟩
def S57 (op : Int) (name : ByteArray) : r2_find_L1_A := ⟨op, name, 57, 1029, 0, 1029, zR, (ex 1012 1015), (ex 1016 1024), (ex 1025 1028)⟩
def S58 (op : Int) (name : ByteArray) : r2_find_L1_A := ⟨op, name, 58, 1047, 0, 1047, zR, (ex 1029 1033), (ex 1034 1042), (ex 1043 1046)⟩
def S59 (op : Int) (name : ByteArray) : r2_find_L1_A := ⟨op, name, 59, 1071, 0, 1071, zR, (ex 1047 1051), (ex 1052 1060), (ex 1061 1070)⟩
def S60 (op : Int) (name : ByteArray) : r2_find_L1_A := ⟨op, name, 60, 1096, 0, 1096, zR, (ex 1071 1076), (ex 1077 1085), (ex 1086 1095)⟩
def S61 (op : Int) (name : ByteArray) : r2_find_L1_A := ⟨op, name, 61, 1115, 0, 1115, zR, (ex 1096 1099), (ex 1100 1108), (ex 1109 1114)⟩
def S62 (op : Int) (name : ByteArray) : r2_find_L1_A := ⟨op, name, 62, 1135, 0, 1135, zR, (ex 1115 1119), (ex 1120 1128), (ex 1129 1134)⟩
def S63 (op : Int) (name : ByteArray) : r2_find_L1_A := ⟨op, name, 63, 1156, 0, 1156, zR, (ex 1135 1140), (ex 1141 1149), (ex 1150 1155)⟩
def S64 (op : Int) (name : ByteArray) : r2_find_L1_A := ⟨op, name, 64, 1175, 0, 1175, zR, (ex 1156 1159), (ex 1160 1168), (ex 1169 1174)⟩
def S65 (op : Int) (name : ByteArray) : r2_find_L1_A := ⟨op, name, 65, 1193, 0, 1193, zR, (ex 1175 1177), (ex 1178 1186), (ex 1187 1192)⟩
def S66 (op : Int) (name : ByteArray) : r2_find_L1_A := ⟨op, name, 66, 1212, 0, 1212, zR, (ex 1193 1196), (ex 1197 1205), (ex 1206 1211)⟩
def Q0 : T_r2_row := ⟨(ex 0 10), (ex 11 15), (ex 16 16)⟩
theorem st0 (op : Int) (name : ByteArray) : goS 16 (S0 op name) = some ⟨op, name, 0, 16, 2, 16, zR, (ex 0 10), (ex 11 15), s_⟩ := by kernel_rfl
theorem br0 (op : Int) (name : ByteArray) : r2_find_L1_b ⟨op, name, 0, 16, 2, 16, zR, (ex 0 10), (ex 11 15), s_⟩ = (bif ((0 : Int) == op) then some (Sum.inr (.inl ⟨0, true, Q0⟩)) else bif (eqS Q0.Name name) then some (.inr (.inl ⟨0, true, Q0⟩)) else some (.inl (S1 op name))) := by kernel_rfl
def Q1 : T_r2_row := ⟨(ex 17 25), (ex 26 30), (ex 31 31)⟩
theorem st1 (op : Int) (name : ByteArray) : goS 14 (S1 op name) = some ⟨op, name, 1, 31, 2, 31, zR, (ex 17 25), (ex 26 30), (ex 16 16)⟩ := by kernel_rfl
theorem br1 (op : Int) (name : ByteArray) : r2_find_L1_b ⟨op, name, 1, 31, 2, 31, zR, (ex 17 25), (ex 26 30), (ex 16 16)⟩ = (bif ((1 : Int) == op) then some (Sum.inr (.inl ⟨1, true, Q1⟩)) else bif (eqS Q1.Name name) then some (.inr (.inl ⟨1, true, Q1⟩)) else some (.inl (S2 op name))) := by kernel_rfl
def Q2 : T_r2_row := ⟨(ex 32 37), (ex 38 42), (ex 43 43)⟩
theorem st2 (op : Int) (name : ByteArray) : goS 11 (S2 op name) = some ⟨op, name, 2, 43, 2, 43, zR, (ex 32 37), (ex 38 42), (ex 31 31)⟩ := by kernel_rfl
theorem br2 (op : Int) (name : ByteArray) : r2_find_L1_b ⟨op, name, 2, 43, 2, 43, zR, (ex 32 37), (ex 38 42), (ex 31 31)⟩ = (bif ((2 : Int) == op) then some (Sum.inr (.inl ⟨2, true, Q2⟩)) else bif (eqS Q2.Name name) then some (.inr (.inl ⟨2, true, Q2⟩)) else some (.inl (S3 op name))) := by kernel_rfl
def Q3 : T_r2_row := ⟨(ex 44 50), (ex 51 55), (ex 56 56)⟩
theorem st3 (op : Int) (name : ByteArray) : goS 12 (S3 op name) = some ⟨op, name, 3, 56, 2, 56, zR, (ex 44 50), (ex 51 55), (ex 43 43)⟩ := by kernel_rfl
theorem br3 (op : Int) (name : ByteArray) : r2_find_L1_b ⟨op, name, 3, 56, 2, 56, zR, (ex 44 50), (ex 51 55), (ex 43 43)⟩ = (bif ((3 : Int) == op) then some (Sum.inr (.inl ⟨3, true, Q3⟩)) else bif (eqS Q3.Name name) then some (.inr (.inl ⟨3, true, Q3⟩)) else some (.inl (S4 op name))) := by kernel_rfl
def Q4 : T_r2_row := ⟨(ex 57 64), (ex 65 69), (ex 70 70)⟩
theorem st4 (op : Int) (name : ByteArray) : goS 13 (S4 op name) = some ⟨op, name, 4, 70, 2, 70, zR, (ex 57 64), (ex 65 69), (ex 56 56)⟩ := by kernel_rfl
theorem br4 (op : Int) (name : ByteArray) : r2_find_L1_b ⟨op, name, 4, 70, 2, 70, zR, (ex 57 64), (ex 65 69), (ex 56 56)⟩ = (bif ((4 : Int) == op) then some (Sum.inr (.inl ⟨4, true, Q4⟩)) else bif (eqS Q4.Name name) then some (.inr (.inl ⟨4, true, Q4⟩)) else some (.inl (S5 op name))) := by kernel_rfl
def Q5 : T_r2_row := ⟨(ex 71 77), (ex 78 82), (ex 83 84)⟩
theorem st5 (op : Int) (name : ByteArray) : goS 13 (S5 op name) = some ⟨op, name, 5, 83, 2, 84, zR, (ex 71 77), (ex 78 82), (ex 70 70)⟩ := by kernel_rfl
theorem br5 (op : Int) (name : ByteArray) : r2_find_L1_b ⟨op, name, 5, 83, 2, 84, zR, (ex 71 77), (ex 78 82), (ex 70 70)⟩ = (bif ((5 : Int) == op) then some (Sum.inr (.inl ⟨5, true, Q5⟩)) else bif (eqS Q5.Name name) then some (.inr (.inl ⟨5, true, Q5⟩)) else some (.inl (S6 op name))) := by kernel_rfl
def Q6 : T_r2_row := ⟨(ex 85 91), (ex 92 96), (ex 97 98)⟩
theorem st6 (op : Int) (name : ByteArray) : goS 13 (S6 op name) = some ⟨op, name, 6, 97, 2, 98, zR, (ex 85 91), (ex 92 96), (ex 83 84)⟩ := by kernel_rfl
theorem br6 (op : Int) (name : ByteArray) : r2_find_L1_b ⟨op, name, 6, 97, 2, 98, zR, (ex 85 91), (ex 92 96), (ex 83 84)⟩ = (bif ((6 : Int) == op) then some (Sum.inr (.inl ⟨6, true, Q6⟩)) else bif (eqS Q6.Name name) then some (.inr (.inl ⟨6, true, Q6⟩)) else some (.inl (S7 op name))) := by kernel_rfl
def Q7 : T_r2_row := ⟨(ex 99 106), (ex 107 111), (ex 112 113)⟩
theorem st7 (op : Int) (name : ByteArray) : goS 14 (S7 op name) = some ⟨op, name, 7, 112, 2, 113, zR, (ex 99 106), (ex 107 111), (ex 97 98)⟩ := by kernel_rfl
theorem br7 (op : Int) (name : ByteArray) : r2_find_L1_b ⟨op, name, 7, 112, 2, 113, zR, (ex 99 106), (ex 107 111), (ex 97 98)⟩ = (bif ((7 : Int) == op) then some (Sum.inr (.inl ⟨7, true, Q7⟩)) else bif (eqS Q7.Name name) then some (.inr (.inl ⟨7, true, Q7⟩)) else some (.inl (S8 op name))) := by kernel_rfl
def Q8 : T_r2_row := ⟨(ex 114 121), (ex 122 126), (ex 127 128)⟩
theorem st8 (op : Int) (name : ByteArray) : goS 14 (S8 op name) = some ⟨op, name, 8, 127, 2, 128, zR, (ex 114 121), (ex 122 126), (ex 112 113)⟩ := by kernel_rfl
theorem br8 (op : Int) (name : ByteArray) : r2_find_L1_b ⟨op, name, 8, 127, 2, 128, zR, (ex 114 121), (ex 122 126), (ex 112 113)⟩ = (bif ((8 : Int) == op) then some (Sum.inr (.inl ⟨8, true, Q8⟩)) else bif (eqS Q8.Name name) then some (.inr (.inl ⟨8, true, Q8⟩)) else some (.inl (S9 op name))) := by kernel_rfl
def Q9 : T_r2_row := ⟨(ex 129 137), (ex 138 142), (ex 143 144)⟩
theorem st9 (op : Int) (name : ByteArray) : goS 15 (S9 op name) = some ⟨op, name, 9, 143, 2, 144, zR, (ex 129 137), (ex 138 142), (ex 127 128)⟩ := by kernel_rfl
theorem br9 (op : Int) (name : ByteArray) : r2_find_L1_b ⟨op, name, 9, 143, 2, 144, zR, (ex 129 137), (ex 138 142), (ex 127 128)⟩ = (bif ((9 : Int) == op) then some (Sum.inr (.inl ⟨9, true, Q9⟩)) else bif (eqS Q9.Name name) then some (.inr (.inl ⟨9, true, Q9⟩)) else some (.inl (S10 op name))) := by kernel_rfl
def Q10 : T_r2_row := ⟨(ex 145 153), (ex 154 158), (ex 159 160)⟩
theorem st10 (op : Int) (name : ByteArray) : goS 15 (S10 op name) = some ⟨op, name, 10, 159, 2, 160, zR, (ex 145 153), (ex 154 158), (ex 143 144)⟩ := by kernel_rfl
theorem br10 (op : Int) (name : ByteArray) : r2_find_L1_b ⟨op, name, 10, 159, 2, 160, zR, (ex 145 153), (ex 154 158), (ex 143 144)⟩ = (bif ((10 : Int) == op) then some (Sum.inr (.inl ⟨10, true, Q10⟩)) else bif (eqS Q10.Name name) then some (.inr (.inl ⟨10, true, Q10⟩)) else some (.inl (S11 op name))) := by kernel_rfl
def Q11 : T_r2_row := ⟨(ex 161 169), (ex 170 174), (ex 175 176)⟩
theorem st11 (op : Int) (name : ByteArray) : goS 15 (S11 op name) = some ⟨op, name, 11, 175, 2, 176, zR, (ex 161 169), (ex 170 174), (ex 159 160)⟩ := by kernel_rfl
theorem br11 (op : Int) (name : ByteArray) : r2_find_L1_b ⟨op, name, 11, 175, 2, 176, zR, (ex 161 169), (ex 170 174), (ex 159 160)⟩ = (bif ((11 : Int) == op) then some (Sum.inr (.inl ⟨11, true, Q11⟩)) else bif (eqS Q11.Name name) then some (.inr (.inl ⟨11, true, Q11⟩)) else some (.inl (S12 op name))) := by kernel_rfl
def Q12 : T_r2_row := ⟨(ex 177 185), (ex 186 190), (ex 191 192)⟩
theorem st12 (op : Int) (name : ByteArray) : goS 15 (S12 op name) = some ⟨op, name, 12, 191, 2, 192, zR, (ex 177 185), (ex 186 190), (ex 175 176)⟩ := by kernel_rfl
theorem br12 (op : Int) (name : ByteArray) : r2_find_L1_b ⟨op, name, 12, 191, 2, 192, zR, (ex 177 185), (ex 186 190), (ex 175 176)⟩ = (bif ((12 : Int) == op) then some (Sum.inr (.inl ⟨12, true, Q12⟩)) else bif (eqS Q12.Name name) then some (.inr (.inl ⟨12, true, Q12⟩)) else some (.inl (S13 op name))) := by kernel_rfl
def Q13 : T_r2_row := ⟨(ex 193 201), (ex 202 206), (ex 207 208)⟩
theorem st13 (op : Int) (name : ByteArray) : goS 15 (S13 op name) = some ⟨op, name, 13, 207, 2, 208, zR, (ex 193 201), (ex 202 206), (ex 191 192)⟩ := by kernel_rfl
theorem br13 (op : Int) (name : ByteArray) : r2_find_L1_b ⟨op, name, 13, 207, 2, 208, zR, (ex 193 201), (ex 202 206), (ex 191 192)⟩ = (bif ((13 : Int) == op) then some (Sum.inr (.inl ⟨13, true, Q13⟩)) else bif (eqS Q13.Name name) then some (.inr (.inl ⟨13, true, Q13⟩)) else some (.inl (S14 op name))) := by kernel_rfl
def Q14 : T_r2_row := ⟨(ex 209 217), (ex 218 222), (ex 223 224)⟩
theorem st14 (op : Int) (name : ByteArray) : goS 15 (S14 op name) = some ⟨op, name, 14, 223, 2, 224, zR, (ex 209 217), (ex 218 222), (ex 207 208)⟩ := by kernel_rfl
theorem br14 (op : Int) (name : ByteArray) : r2_find_L1_b ⟨op, name, 14, 223, 2, 224, zR, (ex 209 217), (ex 218 222), (ex 207 208)⟩ = (bif ((14 : Int) == op) then some (Sum.inr (.inl ⟨14, true, Q14⟩)) else bif (eqS Q14.Name name) then some (.inr (.inl ⟨14, true, Q14⟩)) else some (.inl (S15 op name))) := by kernel_rfl
def Q15 : T_r2_row := ⟨(ex 225 230), (ex 231 235), (ex 236 239)⟩
theorem st15 (op : Int) (name : ByteArray) : goS 14 (S15 op name) = some ⟨op, name, 15, 236, 2, 239, zR, (ex 225 230), (ex 231 235), (ex 223 224)⟩ := by kernel_rfl
theorem br15 (op : Int) (name : ByteArray) : r2_find_L1_b ⟨op, name, 15, 236, 2, 239, zR, (ex 225 230), (ex 231 235), (ex 223 224)⟩ = (bif ((15 : Int) == op) then some (Sum.inr (.inl ⟨15, true, Q15⟩)) else bif (eqS Q15.Name name) then some (.inr (.inl ⟨15, true, Q15⟩)) else some (.inl (S16 op name))) := by kernel_rfl
def Q16 : T_r2_row := ⟨(ex 240 246), (ex 247 251), (ex 252 255)⟩
theorem st16 (op : Int) (name : ByteArray) : goS 15 (S16 op name) = some ⟨op, name, 16, 252, 2, 255, zR, (ex 240 246), (ex 247 251), (ex 236 239)⟩ := by kernel_rfl
theorem br16 (op : Int) (name : ByteArray) : r2_find_L1_b ⟨op, name, 16, 252, 2, 255, zR, (ex 240 246), (ex 247 251), (ex 236 239)⟩ = (bif ((16 : Int) == op) then some (Sum.inr (.inl ⟨16, true, Q16⟩)) else bif (eqS Q16.Name name) then some (.inr (.inl ⟨16, true, Q16⟩)) else some (.inl (S17 op name))) := by kernel_rfl
def Q17 : T_r2_row := ⟨(ex 256 264), (ex 265 269), (ex 270 273)⟩
theorem st17 (op : Int) (name : ByteArray) : goS 17 (S17 op name) = some ⟨op, name, 17, 270, 2, 273, zR, (ex 256 264), (ex 265 269), (ex 252 255)⟩ := by kernel_rfl
theorem br17 (op : Int) (name : ByteArray) : r2_find_L1_b ⟨op, name, 17, 270, 2, 273, zR, (ex 256 264), (ex 265 269), (ex 252 255)⟩ = (bif ((17 : Int) == op) then some (Sum.inr (.inl ⟨17, true, Q17⟩)) else bif (eqS Q17.Name name) then some (.inr (.inl ⟨17, true, Q17⟩)) else some (.inl (S18 op name))) := by kernel_rfl
def Q18 : T_r2_row := ⟨(ex 274 280), (ex 281 285), (ex 286 289)⟩
theorem st18 (op : Int) (name : ByteArray) : goS 15 (S18 op name) = some ⟨op, name, 18, 286, 2, 289, zR, (ex 274 280), (ex 281 285), (ex 270 273)⟩ := by kernel_rfl
theorem br18 (op : Int) (name : ByteArray) : r2_find_L1_b ⟨op, name, 18, 286, 2, 289, zR, (ex 274 280), (ex 281 285), (ex 270 273)⟩ = (bif ((18 : Int) == op) then some (Sum.inr (.inl ⟨18, true, Q18⟩)) else bif (eqS Q18.Name name) then some (.inr (.inl ⟨18, true, Q18⟩)) else some (.inl (S19 op name))) := by kernel_rfl
def Q19 : T_r2_row := ⟨(ex 290 296), (ex 297 301), (ex 302 305)⟩
theorem st19 (op : Int) (name : ByteArray) : goS 15 (S19 op name) = some ⟨op, name, 19, 302, 2, 305, zR, (ex 290 296), (ex 297 301), (ex 286 289)⟩ := by kernel_rfl
theorem br19 (op : Int) (name : ByteArray) : r2_find_L1_b ⟨op, name, 19, 302, 2, 305, zR, (ex 290 296), (ex 297 301), (ex 286 289)⟩ = (bif ((19 : Int) == op) then some (Sum.inr (.inl ⟨19, true, Q19⟩)) else bif (eqS Q19.Name name) then some (.inr (.inl ⟨19, true, Q19⟩)) else some (.inl (S20 op name))) := by kernel_rfl
def Q20 : T_r2_row := ⟨(ex 306 313), (ex 314 318), (ex 319 322)⟩
theorem st20 (op : Int) (name : ByteArray) : goS 16 (S20 op name) = some ⟨op, name, 20, 319, 2, 322, zR, (ex 306 313), (ex 314 318), (ex 302 305)⟩ := by kernel_rfl
theorem br20 (op : Int) (name : ByteArray) : r2_find_L1_b ⟨op, name, 20, 319, 2, 322, zR, (ex 306 313), (ex 314 318), (ex 302 305)⟩ = (bif ((20 : Int) == op) then some (Sum.inr (.inl ⟨20, true, Q20⟩)) else bif (eqS Q20.Name name) then some (.inr (.inl ⟨20, true, Q20⟩)) else some (.inl (S21 op name))) := by kernel_rfl
def Q21 : T_r2_row := ⟨(ex 323 330), (ex 331 335), (ex 336 340)⟩
theorem st21 (op : Int) (name : ByteArray) : goS 17 (S21 op name) = some ⟨op, name, 21, 336, 2, 340, zR, (ex 323 330), (ex 331 335), (ex 319 322)⟩ := by kernel_rfl
theorem br21 (op : Int) (name : ByteArray) : r2_find_L1_b ⟨op, name, 21, 336, 2, 340, zR, (ex 323 330), (ex 331 335), (ex 319 322)⟩ = (bif ((21 : Int) == op) then some (Sum.inr (.inl ⟨21, true, Q21⟩)) else bif (eqS Q21.Name name) then some (.inr (.inl ⟨21, true, Q21⟩)) else some (.inl (S22 op name))) := by kernel_rfl
def Q22 : T_r2_row := ⟨(ex 341 349), (ex 350 354), (ex 355 359)⟩
theorem st22 (op : Int) (name : ByteArray) : goS 18 (S22 op name) = some ⟨op, name, 22, 355, 2, 359, zR, (ex 341 349), (ex 350 354), (ex 336 340)⟩ := by kernel_rfl
theorem br22 (op : Int) (name : ByteArray) : r2_find_L1_b ⟨op, name, 22, 355, 2, 359, zR, (ex 341 349), (ex 350 354), (ex 336 340)⟩ = (bif ((22 : Int) == op) then some (Sum.inr (.inl ⟨22, true, Q22⟩)) else bif (eqS Q22.Name name) then some (.inr (.inl ⟨22, true, Q22⟩)) else some (.inl (S23 op name))) := by kernel_rfl
def Q23 : T_r2_row := ⟨(ex 360 367), (ex 368 372), (ex 373 377)⟩
theorem st23 (op : Int) (name : ByteArray) : goS 17 (S23 op name) = some ⟨op, name, 23, 373, 2, 377, zR, (ex 360 367), (ex 368 372), (ex 355 359)⟩ := by kernel_rfl
theorem br23 (op : Int) (name : ByteArray) : r2_find_L1_b ⟨op, name, 23, 373, 2, 377, zR, (ex 360 367), (ex 368 372), (ex 355 359)⟩ = (bif ((23 : Int) == op) then some (Sum.inr (.inl ⟨23, true, Q23⟩)) else bif (eqS Q23.Name name) then some (.inr (.inl ⟨23, true, Q23⟩)) else some (.inl (S24 op name))) := by kernel_rfl
def Q24 : T_r2_row := ⟨(ex 378 385), (ex 386 390), (ex 391 395)⟩
theorem st24 (op : Int) (name : ByteArray) : goS 17 (S24 op name) = some ⟨op, name, 24, 391, 2, 395, zR, (ex 378 385), (ex 386 390), (ex 373 377)⟩ := by kernel_rfl
theorem br24 (op : Int) (name : ByteArray) : r2_find_L1_b ⟨op, name, 24, 391, 2, 395, zR, (ex 378 385), (ex 386 390), (ex 373 377)⟩ = (bif ((24 : Int) == op) then some (Sum.inr (.inl ⟨24, true, Q24⟩)) else bif (eqS Q24.Name name) then some (.inr (.inl ⟨24, true, Q24⟩)) else some (.inl (S25 op name))) := by kernel_rfl
def Q25 : T_r2_row := ⟨(ex 396 401), (ex 402 406), (ex 407 410)⟩
theorem st25 (op : Int) (name : ByteArray) : goS 14 (S25 op name) = some ⟨op, name, 25, 407, 2, 410, zR, (ex 396 401), (ex 402 406), (ex 391 395)⟩ := by kernel_rfl
theorem br25 (op : Int) (name : ByteArray) : r2_find_L1_b ⟨op, name, 25, 407, 2, 410, zR, (ex 396 401), (ex 402 406), (ex 391 395)⟩ = (bif ((25 : Int) == op) then some (Sum.inr (.inl ⟨25, true, Q25⟩)) else bif (eqS Q25.Name name) then some (.inr (.inl ⟨25, true, Q25⟩)) else some (.inl (S26 op name))) := by kernel_rfl
def Q26 : T_r2_row := ⟨(ex 411 418), (ex 419 423), (ex 424 427)⟩
theorem st26 (op : Int) (name : ByteArray) : goS 16 (S26 op name) = some ⟨op, name, 26, 424, 2, 427, zR, (ex 411 418), (ex 419 423), (ex 407 410)⟩ := by kernel_rfl
theorem br26 (op : Int) (name : ByteArray) : r2_find_L1_b ⟨op, name, 26, 424, 2, 427, zR, (ex 411 418), (ex 419 423), (ex 407 410)⟩ = (bif ((26 : Int) == op) then some (Sum.inr (.inl ⟨26, true, Q26⟩)) else bif (eqS Q26.Name name) then some (.inr (.inl ⟨26, true, Q26⟩)) else some (.inl (S27 op name))) := by kernel_rfl
def Q27 : T_r2_row := ⟨(ex 428 434), (ex 435 439), (ex 440 443)⟩
theorem st27 (op : Int) (name : ByteArray) : goS 15 (S27 op name) = some ⟨op, name, 27, 440, 2, 443, zR, (ex 428 434), (ex 435 439), (ex 424 427)⟩ := by kernel_rfl
theorem br27 (op : Int) (name : ByteArray) : r2_find_L1_b ⟨op, name, 27, 440, 2, 443, zR, (ex 428 434), (ex 435 439), (ex 424 427)⟩ = (bif ((27 : Int) == op) then some (Sum.inr (.inl ⟨27, true, Q27⟩)) else bif (eqS Q27.Name name) then some (.inr (.inl ⟨27, true, Q27⟩)) else some (.inl (S28 op name))) := by kernel_rfl
def Q28 : T_r2_row := ⟨(ex 444 449), (ex 450 454), (ex 455 459)⟩
theorem st28 (op : Int) (name : ByteArray) : goS 15 (S28 op name) = some ⟨op, name, 28, 455, 2, 459, zR, (ex 444 449), (ex 450 454), (ex 440 443)⟩ := by kernel_rfl
theorem br28 (op : Int) (name : ByteArray) : r2_find_L1_b ⟨op, name, 28, 455, 2, 459, zR, (ex 444 449), (ex 450 454), (ex 440 443)⟩ = (bif ((28 : Int) == op) then some (Sum.inr (.inl ⟨28, true, Q28⟩)) else bif (eqS Q28.Name name) then some (.inr (.inl ⟨28, true, Q28⟩)) else some (.inl (S29 op name))) := by kernel_rfl
def Q29 : T_r2_row := ⟨(ex 460 468), (ex 469 473), (ex 474 478)⟩
theorem st29 (op : Int) (name : ByteArray) : goS 18 (S29 op name) = some ⟨op, name, 29, 474, 2, 478, zR, (ex 460 468), (ex 469 473), (ex 455 459)⟩ := by kernel_rfl
theorem br29 (op : Int) (name : ByteArray) : r2_find_L1_b ⟨op, name, 29, 474, 2, 478, zR, (ex 460 468), (ex 469 473), (ex 455 459)⟩ = (bif ((29 : Int) == op) then some (Sum.inr (.inl ⟨29, true, Q29⟩)) else bif (eqS Q29.Name name) then some (.inr (.inl ⟨29, true, Q29⟩)) else some (.inl (S30 op name))) := by kernel_rfl
def Q30 : T_r2_row := ⟨(ex 479 487), (ex 488 492), (ex 493 497)⟩
theorem st30 (op : Int) (name : ByteArray) : goS 18 (S30 op name) = some ⟨op, name, 30, 493, 2, 497, zR, (ex 479 487), (ex 488 492), (ex 474 478)⟩ := by kernel_rfl
theorem br30 (op : Int) (name : ByteArray) : r2_find_L1_b ⟨op, name, 30, 493, 2, 497, zR, (ex 479 487), (ex 488 492), (ex 474 478)⟩ = (bif ((30 : Int) == op) then some (Sum.inr (.inl ⟨30, true, Q30⟩)) else bif (eqS Q30.Name name) then some (.inr (.inl ⟨30, true, Q30⟩)) else some (.inl (S31 op name))) := by kernel_rfl
def Q31 : T_r2_row := ⟨(ex 498 506), (ex 507 511), (ex 512 516)⟩
theorem st31 (op : Int) (name : ByteArray) : goS 18 (S31 op name) = some ⟨op, name, 31, 512, 2, 516, zR, (ex 498 506), (ex 507 511), (ex 493 497)⟩ := by kernel_rfl
theorem br31 (op : Int) (name : ByteArray) : r2_find_L1_b ⟨op, name, 31, 512, 2, 516, zR, (ex 498 506), (ex 507 511), (ex 493 497)⟩ = (bif ((31 : Int) == op) then some (Sum.inr (.inl ⟨31, true, Q31⟩)) else bif (eqS Q31.Name name) then some (.inr (.inl ⟨31, true, Q31⟩)) else some (.inl (S32 op name))) := by kernel_rfl
def Q32 : T_r2_row := ⟨(ex 517 524), (ex 525 529), (ex 530 534)⟩
theorem st32 (op : Int) (name : ByteArray) : goS 17 (S32 op name) = some ⟨op, name, 32, 530, 2, 534, zR, (ex 517 524), (ex 525 529), (ex 512 516)⟩ := by kernel_rfl
theorem br32 (op : Int) (name : ByteArray) : r2_find_L1_b ⟨op, name, 32, 530, 2, 534, zR, (ex 517 524), (ex 525 529), (ex 512 516)⟩ = (bif ((32 : Int) == op) then some (Sum.inr (.inl ⟨32, true, Q32⟩)) else bif (eqS Q32.Name name) then some (.inr (.inl ⟨32, true, Q32⟩)) else some (.inl (S33 op name))) := by kernel_rfl
def Q33 : T_r2_row := ⟨(ex 535 542), (ex 543 547), (ex 548 552)⟩
theorem st33 (op : Int) (name : ByteArray) : goS 17 (S33 op name) = some ⟨op, name, 33, 548, 2, 552, zR, (ex 535 542), (ex 543 547), (ex 530 534)⟩ := by kernel_rfl
theorem br33 (op : Int) (name : ByteArray) : r2_find_L1_b ⟨op, name, 33, 548, 2, 552, zR, (ex 535 542), (ex 543 547), (ex 530 534)⟩ = (bif ((33 : Int) == op) then some (Sum.inr (.inl ⟨33, true, Q33⟩)) else bif (eqS Q33.Name name) then some (.inr (.inl ⟨33, true, Q33⟩)) else some (.inl (S34 op name))) := by kernel_rfl
def Q34 : T_r2_row := ⟨(ex 553 559), (ex 560 564), (ex 565 571)⟩
theorem st34 (op : Int) (name : ByteArray) : goS 18 (S34 op name) = some ⟨op, name, 34, 565, 2, 571, zR, (ex 553 559), (ex 560 564), (ex 548 552)⟩ := by kernel_rfl
theorem br34 (op : Int) (name : ByteArray) : r2_find_L1_b ⟨op, name, 34, 565, 2, 571, zR, (ex 553 559), (ex 560 564), (ex 548 552)⟩ = (bif ((34 : Int) == op) then some (Sum.inr (.inl ⟨34, true, Q34⟩)) else bif (eqS Q34.Name name) then some (.inr (.inl ⟨34, true, Q34⟩)) else some (.inl (S35 op name))) := by kernel_rfl
def Q35 : T_r2_row := ⟨(ex 572 578), (ex 579 583), (ex 584 590)⟩
theorem st35 (op : Int) (name : ByteArray) : goS 18 (S35 op name) = some ⟨op, name, 35, 584, 2, 590, zR, (ex 572 578), (ex 579 583), (ex 565 571)⟩ := by kernel_rfl
theorem br35 (op : Int) (name : ByteArray) : r2_find_L1_b ⟨op, name, 35, 584, 2, 590, zR, (ex 572 578), (ex 579 583), (ex 565 571)⟩ = (bif ((35 : Int) == op) then some (Sum.inr (.inl ⟨35, true, Q35⟩)) else bif (eqS Q35.Name name) then some (.inr (.inl ⟨35, true, Q35⟩)) else some (.inl (S36 op name))) := by kernel_rfl
def Q36 : T_r2_row := ⟨(ex 591 597), (ex 598 602), (ex 603 609)⟩
theorem st36 (op : Int) (name : ByteArray) : goS 18 (S36 op name) = some ⟨op, name, 36, 603, 2, 609, zR, (ex 591 597), (ex 598 602), (ex 584 590)⟩ := by kernel_rfl
theorem br36 (op : Int) (name : ByteArray) : r2_find_L1_b ⟨op, name, 36, 603, 2, 609, zR, (ex 591 597), (ex 598 602), (ex 584 590)⟩ = (bif ((36 : Int) == op) then some (Sum.inr (.inl ⟨36, true, Q36⟩)) else bif (eqS Q36.Name name) then some (.inr (.inl ⟨36, true, Q36⟩)) else some (.inl (S37 op name))) := by kernel_rfl
def Q37 : T_r2_row := ⟨(ex 610 616), (ex 617 621), (ex 622 628)⟩
theorem st37 (op : Int) (name : ByteArray) : goS 18 (S37 op name) = some ⟨op, name, 37, 622, 2, 628, zR, (ex 610 616), (ex 617 621), (ex 603 609)⟩ := by kernel_rfl
theorem br37 (op : Int) (name : ByteArray) : r2_find_L1_b ⟨op, name, 37, 622, 2, 628, zR, (ex 610 616), (ex 617 621), (ex 603 609)⟩ = (bif ((37 : Int) == op) then some (Sum.inr (.inl ⟨37, true, Q37⟩)) else bif (eqS Q37.Name name) then some (.inr (.inl ⟨37, true, Q37⟩)) else some (.inl (S38 op name))) := by kernel_rfl
def Q38 : T_r2_row := ⟨(ex 629 635), (ex 636 640), (ex 641 647)⟩
theorem st38 (op : Int) (name : ByteArray) : goS 18 (S38 op name) = some ⟨op, name, 38, 641, 2, 647, zR, (ex 629 635), (ex 636 640), (ex 622 628)⟩ := by kernel_rfl
theorem br38 (op : Int) (name : ByteArray) : r2_find_L1_b ⟨op, name, 38, 641, 2, 647, zR, (ex 629 635), (ex 636 640), (ex 622 628)⟩ = (bif ((38 : Int) == op) then some (Sum.inr (.inl ⟨38, true, Q38⟩)) else bif (eqS Q38.Name name) then some (.inr (.inl ⟨38, true, Q38⟩)) else some (.inl (S39 op name))) := by kernel_rfl
def Q39 : T_r2_row := ⟨(ex 648 654), (ex 655 659), (ex 660 666)⟩
theorem st39 (op : Int) (name : ByteArray) : goS 18 (S39 op name) = some ⟨op, name, 39, 660, 2, 666, zR, (ex 648 654), (ex 655 659), (ex 641 647)⟩ := by kernel_rfl
theorem br39 (op : Int) (name : ByteArray) : r2_find_L1_b ⟨op, name, 39, 660, 2, 666, zR, (ex 648 654), (ex 655 659), (ex 641 647)⟩ = (bif ((39 : Int) == op) then some (Sum.inr (.inl ⟨39, true, Q39⟩)) else bif (eqS Q39.Name name) then some (.inr (.inl ⟨39, true, Q39⟩)) else some (.inl (S40 op name))) := by kernel_rfl
def Q40 : T_r2_row := ⟨(ex 667 672), (ex 673 677), (ex 678 686)⟩
theorem st40 (op : Int) (name : ByteArray) : goS 19 (S40 op name) = some ⟨op, name, 40, 678, 2, 686, zR, (ex 667 672), (ex 673 677), (ex 660 666)⟩ := by kernel_rfl
theorem br40 (op : Int) (name : ByteArray) : r2_find_L1_b ⟨op, name, 40, 678, 2, 686, zR, (ex 667 672), (ex 673 677), (ex 660 666)⟩ = (bif ((40 : Int) == op) then some (Sum.inr (.inl ⟨40, true, Q40⟩)) else bif (eqS Q40.Name name) then some (.inr (.inl ⟨40, true, Q40⟩)) else some (.inl (S41 op name))) := by kernel_rfl
def Q41 : T_r2_row := ⟨(ex 687 691), (ex 692 696), (ex 697 699)⟩
theorem st41 (op : Int) (name : ByteArray) : goS 12 (S41 op name) = some ⟨op, name, 41, 697, 2, 699, zR, (ex 687 691), (ex 692 696), (ex 678 686)⟩ := by kernel_rfl
theorem br41 (op : Int) (name : ByteArray) : r2_find_L1_b ⟨op, name, 41, 697, 2, 699, zR, (ex 687 691), (ex 692 696), (ex 678 686)⟩ = (bif ((41 : Int) == op) then some (Sum.inr (.inl ⟨41, true, Q41⟩)) else bif (eqS Q41.Name name) then some (.inr (.inl ⟨41, true, Q41⟩)) else some (.inl (S42 op name))) := by kernel_rfl
def Q42 : T_r2_row := ⟨(ex 700 705), (ex 706 710), (ex 711 713)⟩
theorem st42 (op : Int) (name : ByteArray) : goS 13 (S42 op name) = some ⟨op, name, 42, 711, 2, 713, zR, (ex 700 705), (ex 706 710), (ex 697 699)⟩ := by kernel_rfl
theorem br42 (op : Int) (name : ByteArray) : r2_find_L1_b ⟨op, name, 42, 711, 2, 713, zR, (ex 700 705), (ex 706 710), (ex 697 699)⟩ = (bif ((42 : Int) == op) then some (Sum.inr (.inl ⟨42, true, Q42⟩)) else bif (eqS Q42.Name name) then some (.inr (.inl ⟨42, true, Q42⟩)) else some (.inl (S43 op name))) := by kernel_rfl
def Q43 : T_r2_row := ⟨(ex 714 722), (ex 723 731), (ex 732 739)⟩
theorem st43 (op : Int) (name : ByteArray) : goS 25 (S43 op name) = some ⟨op, name, 43, 732, 2, 739, zR, (ex 714 722), (ex 723 731), (ex 711 713)⟩ := by kernel_rfl
theorem br43 (op : Int) (name : ByteArray) : r2_find_L1_b ⟨op, name, 43, 732, 2, 739, zR, (ex 714 722), (ex 723 731), (ex 711 713)⟩ = (bif ((43 : Int) == op) then some (Sum.inr (.inl ⟨43, true, Q43⟩)) else bif (eqS Q43.Name name) then some (.inr (.inl ⟨43, true, Q43⟩)) else some (.inl (S44 op name))) := by kernel_rfl
def Q44 : T_r2_row := ⟨(ex 740 746), (ex 747 755), (ex 756 762)⟩
theorem st44 (op : Int) (name : ByteArray) : goS 22 (S44 op name) = some ⟨op, name, 44, 756, 2, 762, zR, (ex 740 746), (ex 747 755), (ex 732 739)⟩ := by kernel_rfl
theorem br44 (op : Int) (name : ByteArray) : r2_find_L1_b ⟨op, name, 44, 756, 2, 762, zR, (ex 740 746), (ex 747 755), (ex 732 739)⟩ = (bif ((44 : Int) == op) then some (Sum.inr (.inl ⟨44, true, Q44⟩)) else bif (eqS Q44.Name name) then some (.inr (.inl ⟨44, true, Q44⟩)) else some (.inl (S45 op name))) := by kernel_rfl
def Q45 : T_r2_row := ⟨(ex 763 769), (ex 770 778), (ex 779 785)⟩
theorem st45 (op : Int) (name : ByteArray) : goS 22 (S45 op name) = some ⟨op, name, 45, 779, 2, 785, zR, (ex 763 769), (ex 770 778), (ex 756 762)⟩ := by kernel_rfl
theorem br45 (op : Int) (name : ByteArray) : r2_find_L1_b ⟨op, name, 45, 779, 2, 785, zR, (ex 763 769), (ex 770 778), (ex 756 762)⟩ = (bif ((45 : Int) == op) then some (Sum.inr (.inl ⟨45, true, Q45⟩)) else bif (eqS Q45.Name name) then some (.inr (.inl ⟨45, true, Q45⟩)) else some (.inl (S46 op name))) := by kernel_rfl
def Q46 : T_r2_row := ⟨(ex 786 791), (ex 792 800), (ex 801 807)⟩
theorem st46 (op : Int) (name : ByteArray) : goS 21 (S46 op name) = some ⟨op, name, 46, 801, 2, 807, zR, (ex 786 791), (ex 792 800), (ex 779 785)⟩ := by kernel_rfl
theorem br46 (op : Int) (name : ByteArray) : r2_find_L1_b ⟨op, name, 46, 801, 2, 807, zR, (ex 786 791), (ex 792 800), (ex 779 785)⟩ = (bif ((46 : Int) == op) then some (Sum.inr (.inl ⟨46, true, Q46⟩)) else bif (eqS Q46.Name name) then some (.inr (.inl ⟨46, true, Q46⟩)) else some (.inl (S47 op name))) := by kernel_rfl
def Q47 : T_r2_row := ⟨(ex 808 814), (ex 815 823), (ex 824 830)⟩
theorem st47 (op : Int) (name : ByteArray) : goS 22 (S47 op name) = some ⟨op, name, 47, 824, 2, 830, zR, (ex 808 814), (ex 815 823), (ex 801 807)⟩ := by kernel_rfl
theorem br47 (op : Int) (name : ByteArray) : r2_find_L1_b ⟨op, name, 47, 824, 2, 830, zR, (ex 808 814), (ex 815 823), (ex 801 807)⟩ = (bif ((47 : Int) == op) then some (Sum.inr (.inl ⟨47, true, Q47⟩)) else bif (eqS Q47.Name name) then some (.inr (.inl ⟨47, true, Q47⟩)) else some (.inl (S48 op name))) := by kernel_rfl
def Q48 : T_r2_row := ⟨(ex 831 835), (ex 836 844), (ex 845 850)⟩
theorem st48 (op : Int) (name : ByteArray) : goS 19 (S48 op name) = some ⟨op, name, 48, 845, 2, 850, zR, (ex 831 835), (ex 836 844), (ex 824 830)⟩ := by kernel_rfl
theorem br48 (op : Int) (name : ByteArray) : r2_find_L1_b ⟨op, name, 48, 845, 2, 850, zR, (ex 831 835), (ex 836 844), (ex 824 830)⟩ = (bif ((48 : Int) == op) then some (Sum.inr (.inl ⟨48, true, Q48⟩)) else bif (eqS Q48.Name name) then some (.inr (.inl ⟨48, true, Q48⟩)) else some (.inl (S49 op name))) := by kernel_rfl
def Q49 : T_r2_row := ⟨(ex 851 856), (ex 857 865), (ex 866 873)⟩
theorem st49 (op : Int) (name : ByteArray) : goS 22 (S49 op name) = some ⟨op, name, 49, 866, 2, 873, zR, (ex 851 856), (ex 857 865), (ex 845 850)⟩ := by kernel_rfl
theorem br49 (op : Int) (name : ByteArray) : r2_find_L1_b ⟨op, name, 49, 866, 2, 873, zR, (ex 851 856), (ex 857 865), (ex 845 850)⟩ = (bif ((49 : Int) == op) then some (Sum.inr (.inl ⟨49, true, Q49⟩)) else bif (eqS Q49.Name name) then some (.inr (.inl ⟨49, true, Q49⟩)) else some (.inl (S50 op name))) := by kernel_rfl
def Q50 : T_r2_row := ⟨(ex 874 879), (ex 880 888), (ex 889 896)⟩
theorem st50 (op : Int) (name : ByteArray) : goS 22 (S50 op name) = some ⟨op, name, 50, 889, 2, 896, zR, (ex 874 879), (ex 880 888), (ex 866 873)⟩ := by kernel_rfl
theorem br50 (op : Int) (name : ByteArray) : r2_find_L1_b ⟨op, name, 50, 889, 2, 896, zR, (ex 874 879), (ex 880 888), (ex 866 873)⟩ = (bif ((50 : Int) == op) then some (Sum.inr (.inl ⟨50, true, Q50⟩)) else bif (eqS Q50.Name name) then some (.inr (.inl ⟨50, true, Q50⟩)) else some (.inl (S51 op name))) := by kernel_rfl
def Q51 : T_r2_row := ⟨(ex 897 902), (ex 903 911), (ex 912 919)⟩
theorem st51 (op : Int) (name : ByteArray) : goS 22 (S51 op name) = some ⟨op, name, 51, 912, 2, 919, zR, (ex 897 902), (ex 903 911), (ex 889 896)⟩ := by kernel_rfl
theorem br51 (op : Int) (name : ByteArray) : r2_find_L1_b ⟨op, name, 51, 912, 2, 919, zR, (ex 897 902), (ex 903 911), (ex 889 896)⟩ = (bif ((51 : Int) == op) then some (Sum.inr (.inl ⟨51, true, Q51⟩)) else bif (eqS Q51.Name name) then some (.inr (.inl ⟨51, true, Q51⟩)) else some (.inl (S52 op name))) := by kernel_rfl
def Q52 : T_r2_row := ⟨(ex 920 925), (ex 926 934), (ex 935 942)⟩
theorem st52 (op : Int) (name : ByteArray) : goS 22 (S52 op name) = some ⟨op, name, 52, 935, 2, 942, zR, (ex 920 925), (ex 926 934), (ex 912 919)⟩ := by kernel_rfl
theorem br52 (op : Int) (name : ByteArray) : r2_find_L1_b ⟨op, name, 52, 935, 2, 942, zR, (ex 920 925), (ex 926 934), (ex 912 919)⟩ = (bif ((52 : Int) == op) then some (Sum.inr (.inl ⟨52, true, Q52⟩)) else bif (eqS Q52.Name name) then some (.inr (.inl ⟨52, true, Q52⟩)) else some (.inl (S53 op name))) := by kernel_rfl
def Q53 : T_r2_row := ⟨(ex 943 948), (ex 949 957), (ex 958 965)⟩
theorem st53 (op : Int) (name : ByteArray) : goS 22 (S53 op name) = some ⟨op, name, 53, 958, 2, 965, zR, (ex 943 948), (ex 949 957), (ex 935 942)⟩ := by kernel_rfl
theorem br53 (op : Int) (name : ByteArray) : r2_find_L1_b ⟨op, name, 53, 958, 2, 965, zR, (ex 943 948), (ex 949 957), (ex 935 942)⟩ = (bif ((53 : Int) == op) then some (Sum.inr (.inl ⟨53, true, Q53⟩)) else bif (eqS Q53.Name name) then some (.inr (.inl ⟨53, true, Q53⟩)) else some (.inl (S54 op name))) := by kernel_rfl
def Q54 : T_r2_row := ⟨(ex 966 971), (ex 972 980), (ex 981 988)⟩
theorem st54 (op : Int) (name : ByteArray) : goS 22 (S54 op name) = some ⟨op, name, 54, 981, 2, 988, zR, (ex 966 971), (ex 972 980), (ex 958 965)⟩ := by kernel_rfl
theorem br54 (op : Int) (name : ByteArray) : r2_find_L1_b ⟨op, name, 54, 981, 2, 988, zR, (ex 966 971), (ex 972 980), (ex 958 965)⟩ = (bif ((54 : Int) == op) then some (Sum.inr (.inl ⟨54, true, Q54⟩)) else bif (eqS Q54.Name name) then some (.inr (.inl ⟨54, true, Q54⟩)) else some (.inl (S55 op name))) := by kernel_rfl
def Q55 : T_r2_row := ⟨(ex 989 994), (ex 995 1003), (ex 1004 1011)⟩
theorem st55 (op : Int) (name : ByteArray) : goS 22 (S55 op name) = some ⟨op, name, 55, 1004, 2, 1011, zR, (ex 989 994), (ex 995 1003), (ex 981 988)⟩ := by kernel_rfl
theorem br55 (op : Int) (name : ByteArray) : r2_find_L1_b ⟨op, name, 55, 1004, 2, 1011, zR, (ex 989 994), (ex 995 1003), (ex 981 988)⟩ = (bif ((55 : Int) == op) then some (Sum.inr (.inl ⟨55, true, Q55⟩)) else bif (eqS Q55.Name name) then some (.inr (.inl ⟨55, true, Q55⟩)) else some (.inl (S56 op name))) := by kernel_rfl
def Q56 : T_r2_row := ⟨(ex 1012 1015), (ex 1016 1024), (ex 1025 1028)⟩
theorem st56 (op : Int) (name : ByteArray) : goS 16 (S56 op name) = some ⟨op, name, 56, 1025, 2, 1028, zR, (ex 1012 1015), (ex 1016 1024), (ex 1004 1011)⟩ := by kernel_rfl
theorem br56 (op : Int) (name : ByteArray) : r2_find_L1_b ⟨op, name, 56, 1025, 2, 1028, zR, (ex 1012 1015), (ex 1016 1024), (ex 1004 1011)⟩ = (bif ((56 : Int) == op) then some (Sum.inr (.inl ⟨56, true, Q56⟩)) else bif (eqS Q56.Name name) then some (.inr (.inl ⟨56, true, Q56⟩)) else some (.inl (S57 op name))) := by kernel_rfl
def Q57 : T_r2_row := ⟨(ex 1029 1033), (ex 1034 1042), (ex 1043 1046)⟩
theorem st57 (op : Int) (name : ByteArray) : goS 17 (S57 op name) = some ⟨op, name, 57, 1043, 2, 1046, zR, (ex 1029 1033), (ex 1034 1042), (ex 1025 1028)⟩ := by kernel_rfl
theorem br57 (op : Int) (name : ByteArray) : r2_find_L1_b ⟨op, name, 57, 1043, 2, 1046, zR, (ex 1029 1033), (ex 1034 1042), (ex 1025 1028)⟩ = (bif ((57 : Int) == op) then some (Sum.inr (.inl ⟨57, true, Q57⟩)) else bif (eqS Q57.Name name) then some (.inr (.inl ⟨57, true, Q57⟩)) else some (.inl (S58 op name))) := by kernel_rfl
def Q58 : T_r2_row := ⟨(ex 1047 1051), (ex 1052 1060), (ex 1061 1070)⟩
theorem st58 (op : Int) (name : ByteArray) : goS 23 (S58 op name) = some ⟨op, name, 58, 1061, 2, 1070, zR, (ex 1047 1051), (ex 1052 1060), (ex 1043 1046)⟩ := by kernel_rfl
theorem br58 (op : Int) (name : ByteArray) : r2_find_L1_b ⟨op, name, 58, 1061, 2, 1070, zR, (ex 1047 1051), (ex 1052 1060), (ex 1043 1046)⟩ = (bif ((58 : Int) == op) then some (Sum.inr (.inl ⟨58, true, Q58⟩)) else bif (eqS Q58.Name name) then some (.inr (.inl ⟨58, true, Q58⟩)) else some (.inl (S59 op name))) := by kernel_rfl
def Q59 : T_r2_row := ⟨(ex 1071 1076), (ex 1077 1085), (ex 1086 1095)⟩
theorem st59 (op : Int) (name : ByteArray) : goS 24 (S59 op name) = some ⟨op, name, 59, 1086, 2, 1095, zR, (ex 1071 1076), (ex 1077 1085), (ex 1061 1070)⟩ := by kernel_rfl
theorem br59 (op : Int) (name : ByteArray) : r2_find_L1_b ⟨op, name, 59, 1086, 2, 1095, zR, (ex 1071 1076), (ex 1077 1085), (ex 1061 1070)⟩ = (bif ((59 : Int) == op) then some (Sum.inr (.inl ⟨59, true, Q59⟩)) else bif (eqS Q59.Name name) then some (.inr (.inl ⟨59, true, Q59⟩)) else some (.inl (S60 op name))) := by kernel_rfl
def Q60 : T_r2_row := ⟨(ex 1096 1099), (ex 1100 1108), (ex 1109 1114)⟩
theorem st60 (op : Int) (name : ByteArray) : goS 18 (S60 op name) = some ⟨op, name, 60, 1109, 2, 1114, zR, (ex 1096 1099), (ex 1100 1108), (ex 1086 1095)⟩ := by kernel_rfl
theorem br60 (op : Int) (name : ByteArray) : r2_find_L1_b ⟨op, name, 60, 1109, 2, 1114, zR, (ex 1096 1099), (ex 1100 1108), (ex 1086 1095)⟩ = (bif ((60 : Int) == op) then some (Sum.inr (.inl ⟨60, true, Q60⟩)) else bif (eqS Q60.Name name) then some (.inr (.inl ⟨60, true, Q60⟩)) else some (.inl (S61 op name))) := by kernel_rfl
def Q61 : T_r2_row := ⟨(ex 1115 1119), (ex 1120 1128), (ex 1129 1134)⟩
theorem st61 (op : Int) (name : ByteArray) : goS 19 (S61 op name) = some ⟨op, name, 61, 1129, 2, 1134, zR, (ex 1115 1119), (ex 1120 1128), (ex 1109 1114)⟩ := by kernel_rfl
theorem br61 (op : Int) (name : ByteArray) : r2_find_L1_b ⟨op, name, 61, 1129, 2, 1134, zR, (ex 1115 1119), (ex 1120 1128), (ex 1109 1114)⟩ = (bif ((61 : Int) == op) then some (Sum.inr (.inl ⟨61, true, Q61⟩)) else bif (eqS Q61.Name name) then some (.inr (.inl ⟨61, true, Q61⟩)) else some (.inl (S62 op name))) := by kernel_rfl
def Q62 : T_r2_row := ⟨(ex 1135 1140), (ex 1141 1149), (ex 1150 1155)⟩
theorem st62 (op : Int) (name : ByteArray) : goS 20 (S62 op name) = some ⟨op, name, 62, 1150, 2, 1155, zR, (ex 1135 1140), (ex 1141 1149), (ex 1129 1134)⟩ := by kernel_rfl
theorem br62 (op : Int) (name : ByteArray) : r2_find_L1_b ⟨op, name, 62, 1150, 2, 1155, zR, (ex 1135 1140), (ex 1141 1149), (ex 1129 1134)⟩ = (bif ((62 : Int) == op) then some (Sum.inr (.inl ⟨62, true, Q62⟩)) else bif (eqS Q62.Name name) then some (.inr (.inl ⟨62, true, Q62⟩)) else some (.inl (S63 op name))) := by kernel_rfl
def Q63 : T_r2_row := ⟨(ex 1156 1159), (ex 1160 1168), (ex 1169 1174)⟩
theorem st63 (op : Int) (name : ByteArray) : goS 18 (S63 op name) = some ⟨op, name, 63, 1169, 2, 1174, zR, (ex 1156 1159), (ex 1160 1168), (ex 1150 1155)⟩ := by kernel_rfl
theorem br63 (op : Int) (name : ByteArray) : r2_find_L1_b ⟨op, name, 63, 1169, 2, 1174, zR, (ex 1156 1159), (ex 1160 1168), (ex 1150 1155)⟩ = (bif ((63 : Int) == op) then some (Sum.inr (.inl ⟨63, true, Q63⟩)) else bif (eqS Q63.Name name) then some (.inr (.inl ⟨63, true, Q63⟩)) else some (.inl (S64 op name))) := by kernel_rfl
def Q64 : T_r2_row := ⟨(ex 1175 1177), (ex 1178 1186), (ex 1187 1192)⟩
theorem st64 (op : Int) (name : ByteArray) : goS 17 (S64 op name) = some ⟨op, name, 64, 1187, 2, 1192, zR, (ex 1175 1177), (ex 1178 1186), (ex 1169 1174)⟩ := by kernel_rfl
theorem br64 (op : Int) (name : ByteArray) : r2_find_L1_b ⟨op, name, 64, 1187, 2, 1192, zR, (ex 1175 1177), (ex 1178 1186), (ex 1169 1174)⟩ = (bif ((64 : Int) == op) then some (Sum.inr (.inl ⟨64, true, Q64⟩)) else bif (eqS Q64.Name name) then some (.inr (.inl ⟨64, true, Q64⟩)) else some (.inl (S65 op name))) := by kernel_rfl
def Q65 : T_r2_row := ⟨(ex 1193 1196), (ex 1197 1205), (ex 1206 1211)⟩
theorem st65 (op : Int) (name : ByteArray) : goS 18 (S65 op name) = some ⟨op, name, 65, 1206, 2, 1211, zR, (ex 1193 1196), (ex 1197 1205), (ex 1187 1192)⟩ := by kernel_rfl
theorem br65 (op : Int) (name : ByteArray) : r2_find_L1_b ⟨op, name, 65, 1206, 2, 1211, zR, (ex 1193 1196), (ex 1197 1205), (ex 1187 1192)⟩ = (bif ((65 : Int) == op) then some (Sum.inr (.inl ⟨65, true, Q65⟩)) else bif (eqS Q65.Name name) then some (.inr (.inl ⟨65, true, Q65⟩)) else some (.inl (S66 op name))) := by kernel_rfl
theorem L66 (op : Int) (name : ByteArray) : r2_find_L1 (S66 op name) = some (resF (findR op name [] 66)) := by rw [r2_find_L1.eq]; exact congrArg (fun x => Option.bind x _) (show r2_find_L1_b (S66 op name) = some (.inr (.inr zR)) by kernel_rfl)
def D65 : List T_r2_row := Q65 :: []
theorem L65 (op : Int) (name : ByteArray) : r2_find_L1 (S65 op name) = some (resF (findR op name D65 65)) := by
  rw [goS_eq _ (st65 op name), r2_find_L1.eq, br65]; exact glue (by decide) (L66 op name)
def D64 : List T_r2_row := Q64 :: D65
theorem L64 (op : Int) (name : ByteArray) : r2_find_L1 (S64 op name) = some (resF (findR op name D64 64)) := by
  rw [goS_eq _ (st64 op name), r2_find_L1.eq, br64]; exact glue (by decide) (L65 op name)
def D63 : List T_r2_row := Q63 :: D64
theorem L63 (op : Int) (name : ByteArray) : r2_find_L1 (S63 op name) = some (resF (findR op name D63 63)) := by
  rw [goS_eq _ (st63 op name), r2_find_L1.eq, br63]; exact glue (by decide) (L64 op name)
def D62 : List T_r2_row := Q62 :: D63
theorem L62 (op : Int) (name : ByteArray) : r2_find_L1 (S62 op name) = some (resF (findR op name D62 62)) := by
  rw [goS_eq _ (st62 op name), r2_find_L1.eq, br62]; exact glue (by decide) (L63 op name)
def D61 : List T_r2_row := Q61 :: D62
theorem L61 (op : Int) (name : ByteArray) : r2_find_L1 (S61 op name) = some (resF (findR op name D61 61)) := by
  rw [goS_eq _ (st61 op name), r2_find_L1.eq, br61]; exact glue (by decide) (L62 op name)
def D60 : List T_r2_row := Q60 :: D61
theorem L60 (op : Int) (name : ByteArray) : r2_find_L1 (S60 op name) = some (resF (findR op name D60 60)) := by
  rw [goS_eq _ (st60 op name), r2_find_L1.eq, br60]; exact glue (by decide) (L61 op name)
def D59 : List T_r2_row := Q59 :: D60
theorem L59 (op : Int) (name : ByteArray) : r2_find_L1 (S59 op name) = some (resF (findR op name D59 59)) := by
  rw [goS_eq _ (st59 op name), r2_find_L1.eq, br59]; exact glue (by decide) (L60 op name)
def D58 : List T_r2_row := Q58 :: D59
theorem L58 (op : Int) (name : ByteArray) : r2_find_L1 (S58 op name) = some (resF (findR op name D58 58)) := by
  rw [goS_eq _ (st58 op name), r2_find_L1.eq, br58]; exact glue (by decide) (L59 op name)
def D57 : List T_r2_row := Q57 :: D58
theorem L57 (op : Int) (name : ByteArray) : r2_find_L1 (S57 op name) = some (resF (findR op name D57 57)) := by
  rw [goS_eq _ (st57 op name), r2_find_L1.eq, br57]; exact glue (by decide) (L58 op name)
def D56 : List T_r2_row := Q56 :: D57
theorem L56 (op : Int) (name : ByteArray) : r2_find_L1 (S56 op name) = some (resF (findR op name D56 56)) := by
  rw [goS_eq _ (st56 op name), r2_find_L1.eq, br56]; exact glue (by decide) (L57 op name)
def D55 : List T_r2_row := Q55 :: D56
theorem L55 (op : Int) (name : ByteArray) : r2_find_L1 (S55 op name) = some (resF (findR op name D55 55)) := by
  rw [goS_eq _ (st55 op name), r2_find_L1.eq, br55]; exact glue (by decide) (L56 op name)
def D54 : List T_r2_row := Q54 :: D55
theorem L54 (op : Int) (name : ByteArray) : r2_find_L1 (S54 op name) = some (resF (findR op name D54 54)) := by
  rw [goS_eq _ (st54 op name), r2_find_L1.eq, br54]; exact glue (by decide) (L55 op name)
def D53 : List T_r2_row := Q53 :: D54
theorem L53 (op : Int) (name : ByteArray) : r2_find_L1 (S53 op name) = some (resF (findR op name D53 53)) := by
  rw [goS_eq _ (st53 op name), r2_find_L1.eq, br53]; exact glue (by decide) (L54 op name)
def D52 : List T_r2_row := Q52 :: D53
theorem L52 (op : Int) (name : ByteArray) : r2_find_L1 (S52 op name) = some (resF (findR op name D52 52)) := by
  rw [goS_eq _ (st52 op name), r2_find_L1.eq, br52]; exact glue (by decide) (L53 op name)
def D51 : List T_r2_row := Q51 :: D52
theorem L51 (op : Int) (name : ByteArray) : r2_find_L1 (S51 op name) = some (resF (findR op name D51 51)) := by
  rw [goS_eq _ (st51 op name), r2_find_L1.eq, br51]; exact glue (by decide) (L52 op name)
def D50 : List T_r2_row := Q50 :: D51
theorem L50 (op : Int) (name : ByteArray) : r2_find_L1 (S50 op name) = some (resF (findR op name D50 50)) := by
  rw [goS_eq _ (st50 op name), r2_find_L1.eq, br50]; exact glue (by decide) (L51 op name)
def D49 : List T_r2_row := Q49 :: D50
theorem L49 (op : Int) (name : ByteArray) : r2_find_L1 (S49 op name) = some (resF (findR op name D49 49)) := by
  rw [goS_eq _ (st49 op name), r2_find_L1.eq, br49]; exact glue (by decide) (L50 op name)
def D48 : List T_r2_row := Q48 :: D49
theorem L48 (op : Int) (name : ByteArray) : r2_find_L1 (S48 op name) = some (resF (findR op name D48 48)) := by
  rw [goS_eq _ (st48 op name), r2_find_L1.eq, br48]; exact glue (by decide) (L49 op name)
def D47 : List T_r2_row := Q47 :: D48
theorem L47 (op : Int) (name : ByteArray) : r2_find_L1 (S47 op name) = some (resF (findR op name D47 47)) := by
  rw [goS_eq _ (st47 op name), r2_find_L1.eq, br47]; exact glue (by decide) (L48 op name)
def D46 : List T_r2_row := Q46 :: D47
theorem L46 (op : Int) (name : ByteArray) : r2_find_L1 (S46 op name) = some (resF (findR op name D46 46)) := by
  rw [goS_eq _ (st46 op name), r2_find_L1.eq, br46]; exact glue (by decide) (L47 op name)
def D45 : List T_r2_row := Q45 :: D46
theorem L45 (op : Int) (name : ByteArray) : r2_find_L1 (S45 op name) = some (resF (findR op name D45 45)) := by
  rw [goS_eq _ (st45 op name), r2_find_L1.eq, br45]; exact glue (by decide) (L46 op name)
def D44 : List T_r2_row := Q44 :: D45
theorem L44 (op : Int) (name : ByteArray) : r2_find_L1 (S44 op name) = some (resF (findR op name D44 44)) := by
  rw [goS_eq _ (st44 op name), r2_find_L1.eq, br44]; exact glue (by decide) (L45 op name)
def D43 : List T_r2_row := Q43 :: D44
theorem L43 (op : Int) (name : ByteArray) : r2_find_L1 (S43 op name) = some (resF (findR op name D43 43)) := by
  rw [goS_eq _ (st43 op name), r2_find_L1.eq, br43]; exact glue (by decide) (L44 op name)
def D42 : List T_r2_row := Q42 :: D43
theorem L42 (op : Int) (name : ByteArray) : r2_find_L1 (S42 op name) = some (resF (findR op name D42 42)) := by
  rw [goS_eq _ (st42 op name), r2_find_L1.eq, br42]; exact glue (by decide) (L43 op name)
def D41 : List T_r2_row := Q41 :: D42
theorem L41 (op : Int) (name : ByteArray) : r2_find_L1 (S41 op name) = some (resF (findR op name D41 41)) := by
  rw [goS_eq _ (st41 op name), r2_find_L1.eq, br41]; exact glue (by decide) (L42 op name)
def D40 : List T_r2_row := Q40 :: D41
theorem L40 (op : Int) (name : ByteArray) : r2_find_L1 (S40 op name) = some (resF (findR op name D40 40)) := by
  rw [goS_eq _ (st40 op name), r2_find_L1.eq, br40]; exact glue (by decide) (L41 op name)
def D39 : List T_r2_row := Q39 :: D40
theorem L39 (op : Int) (name : ByteArray) : r2_find_L1 (S39 op name) = some (resF (findR op name D39 39)) := by
  rw [goS_eq _ (st39 op name), r2_find_L1.eq, br39]; exact glue (by decide) (L40 op name)
def D38 : List T_r2_row := Q38 :: D39
theorem L38 (op : Int) (name : ByteArray) : r2_find_L1 (S38 op name) = some (resF (findR op name D38 38)) := by
  rw [goS_eq _ (st38 op name), r2_find_L1.eq, br38]; exact glue (by decide) (L39 op name)
def D37 : List T_r2_row := Q37 :: D38
theorem L37 (op : Int) (name : ByteArray) : r2_find_L1 (S37 op name) = some (resF (findR op name D37 37)) := by
  rw [goS_eq _ (st37 op name), r2_find_L1.eq, br37]; exact glue (by decide) (L38 op name)
def D36 : List T_r2_row := Q36 :: D37
theorem L36 (op : Int) (name : ByteArray) : r2_find_L1 (S36 op name) = some (resF (findR op name D36 36)) := by
  rw [goS_eq _ (st36 op name), r2_find_L1.eq, br36]; exact glue (by decide) (L37 op name)
def D35 : List T_r2_row := Q35 :: D36
theorem L35 (op : Int) (name : ByteArray) : r2_find_L1 (S35 op name) = some (resF (findR op name D35 35)) := by
  rw [goS_eq _ (st35 op name), r2_find_L1.eq, br35]; exact glue (by decide) (L36 op name)
def D34 : List T_r2_row := Q34 :: D35
theorem L34 (op : Int) (name : ByteArray) : r2_find_L1 (S34 op name) = some (resF (findR op name D34 34)) := by
  rw [goS_eq _ (st34 op name), r2_find_L1.eq, br34]; exact glue (by decide) (L35 op name)
def D33 : List T_r2_row := Q33 :: D34
theorem L33 (op : Int) (name : ByteArray) : r2_find_L1 (S33 op name) = some (resF (findR op name D33 33)) := by
  rw [goS_eq _ (st33 op name), r2_find_L1.eq, br33]; exact glue (by decide) (L34 op name)
def D32 : List T_r2_row := Q32 :: D33
theorem L32 (op : Int) (name : ByteArray) : r2_find_L1 (S32 op name) = some (resF (findR op name D32 32)) := by
  rw [goS_eq _ (st32 op name), r2_find_L1.eq, br32]; exact glue (by decide) (L33 op name)
def D31 : List T_r2_row := Q31 :: D32
theorem L31 (op : Int) (name : ByteArray) : r2_find_L1 (S31 op name) = some (resF (findR op name D31 31)) := by
  rw [goS_eq _ (st31 op name), r2_find_L1.eq, br31]; exact glue (by decide) (L32 op name)
def D30 : List T_r2_row := Q30 :: D31
theorem L30 (op : Int) (name : ByteArray) : r2_find_L1 (S30 op name) = some (resF (findR op name D30 30)) := by
  rw [goS_eq _ (st30 op name), r2_find_L1.eq, br30]; exact glue (by decide) (L31 op name)
def D29 : List T_r2_row := Q29 :: D30
theorem L29 (op : Int) (name : ByteArray) : r2_find_L1 (S29 op name) = some (resF (findR op name D29 29)) := by
  rw [goS_eq _ (st29 op name), r2_find_L1.eq, br29]; exact glue (by decide) (L30 op name)
def D28 : List T_r2_row := Q28 :: D29
theorem L28 (op : Int) (name : ByteArray) : r2_find_L1 (S28 op name) = some (resF (findR op name D28 28)) := by
  rw [goS_eq _ (st28 op name), r2_find_L1.eq, br28]; exact glue (by decide) (L29 op name)
def D27 : List T_r2_row := Q27 :: D28
theorem L27 (op : Int) (name : ByteArray) : r2_find_L1 (S27 op name) = some (resF (findR op name D27 27)) := by
  rw [goS_eq _ (st27 op name), r2_find_L1.eq, br27]; exact glue (by decide) (L28 op name)
def D26 : List T_r2_row := Q26 :: D27
theorem L26 (op : Int) (name : ByteArray) : r2_find_L1 (S26 op name) = some (resF (findR op name D26 26)) := by
  rw [goS_eq _ (st26 op name), r2_find_L1.eq, br26]; exact glue (by decide) (L27 op name)
def D25 : List T_r2_row := Q25 :: D26
theorem L25 (op : Int) (name : ByteArray) : r2_find_L1 (S25 op name) = some (resF (findR op name D25 25)) := by
  rw [goS_eq _ (st25 op name), r2_find_L1.eq, br25]; exact glue (by decide) (L26 op name)
def D24 : List T_r2_row := Q24 :: D25
theorem L24 (op : Int) (name : ByteArray) : r2_find_L1 (S24 op name) = some (resF (findR op name D24 24)) := by
  rw [goS_eq _ (st24 op name), r2_find_L1.eq, br24]; exact glue (by decide) (L25 op name)
def D23 : List T_r2_row := Q23 :: D24
theorem L23 (op : Int) (name : ByteArray) : r2_find_L1 (S23 op name) = some (resF (findR op name D23 23)) := by
  rw [goS_eq _ (st23 op name), r2_find_L1.eq, br23]; exact glue (by decide) (L24 op name)
def D22 : List T_r2_row := Q22 :: D23
theorem L22 (op : Int) (name : ByteArray) : r2_find_L1 (S22 op name) = some (resF (findR op name D22 22)) := by
  rw [goS_eq _ (st22 op name), r2_find_L1.eq, br22]; exact glue (by decide) (L23 op name)
def D21 : List T_r2_row := Q21 :: D22
theorem L21 (op : Int) (name : ByteArray) : r2_find_L1 (S21 op name) = some (resF (findR op name D21 21)) := by
  rw [goS_eq _ (st21 op name), r2_find_L1.eq, br21]; exact glue (by decide) (L22 op name)
def D20 : List T_r2_row := Q20 :: D21
theorem L20 (op : Int) (name : ByteArray) : r2_find_L1 (S20 op name) = some (resF (findR op name D20 20)) := by
  rw [goS_eq _ (st20 op name), r2_find_L1.eq, br20]; exact glue (by decide) (L21 op name)
def D19 : List T_r2_row := Q19 :: D20
theorem L19 (op : Int) (name : ByteArray) : r2_find_L1 (S19 op name) = some (resF (findR op name D19 19)) := by
  rw [goS_eq _ (st19 op name), r2_find_L1.eq, br19]; exact glue (by decide) (L20 op name)
def D18 : List T_r2_row := Q18 :: D19
theorem L18 (op : Int) (name : ByteArray) : r2_find_L1 (S18 op name) = some (resF (findR op name D18 18)) := by
  rw [goS_eq _ (st18 op name), r2_find_L1.eq, br18]; exact glue (by decide) (L19 op name)
def D17 : List T_r2_row := Q17 :: D18
theorem L17 (op : Int) (name : ByteArray) : r2_find_L1 (S17 op name) = some (resF (findR op name D17 17)) := by
  rw [goS_eq _ (st17 op name), r2_find_L1.eq, br17]; exact glue (by decide) (L18 op name)
def D16 : List T_r2_row := Q16 :: D17
theorem L16 (op : Int) (name : ByteArray) : r2_find_L1 (S16 op name) = some (resF (findR op name D16 16)) := by
  rw [goS_eq _ (st16 op name), r2_find_L1.eq, br16]; exact glue (by decide) (L17 op name)
def D15 : List T_r2_row := Q15 :: D16
theorem L15 (op : Int) (name : ByteArray) : r2_find_L1 (S15 op name) = some (resF (findR op name D15 15)) := by
  rw [goS_eq _ (st15 op name), r2_find_L1.eq, br15]; exact glue (by decide) (L16 op name)
def D14 : List T_r2_row := Q14 :: D15
theorem L14 (op : Int) (name : ByteArray) : r2_find_L1 (S14 op name) = some (resF (findR op name D14 14)) := by
  rw [goS_eq _ (st14 op name), r2_find_L1.eq, br14]; exact glue (by decide) (L15 op name)
def D13 : List T_r2_row := Q13 :: D14
theorem L13 (op : Int) (name : ByteArray) : r2_find_L1 (S13 op name) = some (resF (findR op name D13 13)) := by
  rw [goS_eq _ (st13 op name), r2_find_L1.eq, br13]; exact glue (by decide) (L14 op name)
def D12 : List T_r2_row := Q12 :: D13
theorem L12 (op : Int) (name : ByteArray) : r2_find_L1 (S12 op name) = some (resF (findR op name D12 12)) := by
  rw [goS_eq _ (st12 op name), r2_find_L1.eq, br12]; exact glue (by decide) (L13 op name)
def D11 : List T_r2_row := Q11 :: D12
theorem L11 (op : Int) (name : ByteArray) : r2_find_L1 (S11 op name) = some (resF (findR op name D11 11)) := by
  rw [goS_eq _ (st11 op name), r2_find_L1.eq, br11]; exact glue (by decide) (L12 op name)
def D10 : List T_r2_row := Q10 :: D11
theorem L10 (op : Int) (name : ByteArray) : r2_find_L1 (S10 op name) = some (resF (findR op name D10 10)) := by
  rw [goS_eq _ (st10 op name), r2_find_L1.eq, br10]; exact glue (by decide) (L11 op name)
def D9 : List T_r2_row := Q9 :: D10
theorem L9 (op : Int) (name : ByteArray) : r2_find_L1 (S9 op name) = some (resF (findR op name D9 9)) := by
  rw [goS_eq _ (st9 op name), r2_find_L1.eq, br9]; exact glue (by decide) (L10 op name)
def D8 : List T_r2_row := Q8 :: D9
theorem L8 (op : Int) (name : ByteArray) : r2_find_L1 (S8 op name) = some (resF (findR op name D8 8)) := by
  rw [goS_eq _ (st8 op name), r2_find_L1.eq, br8]; exact glue (by decide) (L9 op name)
def D7 : List T_r2_row := Q7 :: D8
theorem L7 (op : Int) (name : ByteArray) : r2_find_L1 (S7 op name) = some (resF (findR op name D7 7)) := by
  rw [goS_eq _ (st7 op name), r2_find_L1.eq, br7]; exact glue (by decide) (L8 op name)
def D6 : List T_r2_row := Q6 :: D7
theorem L6 (op : Int) (name : ByteArray) : r2_find_L1 (S6 op name) = some (resF (findR op name D6 6)) := by
  rw [goS_eq _ (st6 op name), r2_find_L1.eq, br6]; exact glue (by decide) (L7 op name)
def D5 : List T_r2_row := Q5 :: D6
theorem L5 (op : Int) (name : ByteArray) : r2_find_L1 (S5 op name) = some (resF (findR op name D5 5)) := by
  rw [goS_eq _ (st5 op name), r2_find_L1.eq, br5]; exact glue (by decide) (L6 op name)
def D4 : List T_r2_row := Q4 :: D5
theorem L4 (op : Int) (name : ByteArray) : r2_find_L1 (S4 op name) = some (resF (findR op name D4 4)) := by
  rw [goS_eq _ (st4 op name), r2_find_L1.eq, br4]; exact glue (by decide) (L5 op name)
def D3 : List T_r2_row := Q3 :: D4
theorem L3 (op : Int) (name : ByteArray) : r2_find_L1 (S3 op name) = some (resF (findR op name D3 3)) := by
  rw [goS_eq _ (st3 op name), r2_find_L1.eq, br3]; exact glue (by decide) (L4 op name)
def D2 : List T_r2_row := Q2 :: D3
theorem L2 (op : Int) (name : ByteArray) : r2_find_L1 (S2 op name) = some (resF (findR op name D2 2)) := by
  rw [goS_eq _ (st2 op name), r2_find_L1.eq, br2]; exact glue (by decide) (L3 op name)
def D1 : List T_r2_row := Q1 :: D2
theorem L1 (op : Int) (name : ByteArray) : r2_find_L1 (S1 op name) = some (resF (findR op name D1 1)) := by
  rw [goS_eq _ (st1 op name), r2_find_L1.eq, br1]; exact glue (by decide) (L2 op name)
def D0 : List T_r2_row := Q0 :: D1
theorem L0 (op : Int) (name : ByteArray) : r2_find_L1 (S0 op name) = some (resF (findR op name D0 0)) := by
  rw [goS_eq _ (st0 op name), r2_find_L1.eq, br0]; exact glue (by decide) (L1 op name)
theorem find_law (op : Int) (name : ByteArray) : r2_find op name = some (match findR op name D0 0 with | some r => (r.1, r.2, true) | none => (zR, 0, false)) := by
  rw [r2_find.eq]; unfold r2_find_b
  have h := L0 op name
  unfold S0 at h
  rw [h, Option.bind_some]
  cases findR op name D0 0 <;> rfl
end Go.Ab
set_option maxRecDepth 100000
namespace Go.Ab
def allK : List ByteArray := [s_X, s_Y, s_U5, s_U7, s_O5, s_M1, s_M2, s_M4, s_O1, s_I2, s_D, s_A, s_B, s_O2, s_I4, s_T8, s_T15, s_T24, s_S16, s_L20, s_C8]
theorem alike_all {e : ByteArray} (he : (allK.any fun k => eqS e k) = true) {v : Int} (hv : inI v) : Alike e v := by
  obtain ⟨k, hk, h⟩ := List.any_eq_true.1 he
  obtain rfl := eqS_iff.1 h
  simp only [allK, List.mem_cons, List.not_mem_nil, or_false] at hk
  rcases hk with rfl | rfl | rfl | rfl | rfl | rfl | rfl | rfl | rfl | rfl | rfl | rfl | rfl | rfl | rfl | rfl | rfl | rfl | rfl | rfl | rfl
  · exact alike_X v
  · exact alike_Y v
  · exact alike_U5 v hv
  · exact alike_U7 v hv
  · exact alike_O5 v hv
  · exact alike_M1 v hv
  · exact alike_M2 v hv
  · exact alike_M4 v hv
  · exact alike_O1 v hv
  · exact alike_I2 v hv
  · exact alike_D v hv
  · exact alike_A v hv
  · exact alike_B v hv
  · exact alike_O2 v hv
  · exact alike_I4 v hv
  · exact alike_T8 v
  · exact alike_T15 v
  · exact alike_T24 v
  · exact alike_S16 v
  · exact alike_L20 v
  · exact alike_C8 v
def eqL : List ByteArray → List ByteArray → Bool
  | [], [] => true
  | a :: l, b :: m => eqS a b && eqL l m
  | _, _ => false
theorem eqL_eq : ∀ {l m : List ByteArray}, eqL l m = true → l = m
  | [], [], _ => rfl
  | [], _ :: _, h => nomatch h
  | _ :: _, [], h => nomatch h
  | a :: l, b :: m, h => by
    unfold eqL at h
    rw [Bool.and_eq_true] at h
    rw [eqS_iff.1 h.1, eqL_eq h.2]
def rowChk (k : Nat) : Bool := match isa_Name.s 2000 k, isa_of_2.s 2000 k, isa_of_3.s 2000 k, isa_Size.s 2000 k, D0[k]? with
  | some nm, some c, some ks, some sz, some q => (match r2_Words.s 2000 q.Kinds, r2_hex.s 2000 q.Bits with
    | some ws, some h => eqL ws ks && (h == c) && ((q.Bits.size : Int) == 2 * sz) && (sz == 2 || sz == 4) && (ks.all fun e => allK.any fun k => eqS e k) && decide (ks.length ≤ 8) && !eqS nm s_ && decide (0 ≤ c ∧ c < 4294967296)
    | _, _ => false)
  | _, _, _, _, _ => false
theorem row_0 : ((List.range' 0 6).all rowChk) = true := by kernel_rfl
theorem row_1 : ((List.range' 6 6).all rowChk) = true := by kernel_rfl
theorem row_2 : ((List.range' 12 6).all rowChk) = true := by kernel_rfl
theorem row_3 : ((List.range' 18 6).all rowChk) = true := by kernel_rfl
theorem row_4 : ((List.range' 24 6).all rowChk) = true := by kernel_rfl
theorem row_5 : ((List.range' 30 6).all rowChk) = true := by kernel_rfl
theorem row_6 : ((List.range' 36 6).all rowChk) = true := by kernel_rfl
theorem row_7 : ((List.range' 42 6).all rowChk) = true := by kernel_rfl
theorem row_8 : ((List.range' 48 6).all rowChk) = true := by kernel_rfl
theorem row_9 : ((List.range' 54 6).all rowChk) = true := by kernel_rfl
theorem row_10 : ((List.range' 60 6).all rowChk) = true := by kernel_rfl
theorem row_of {s n k : Nat} (h : ((List.range' s n).all rowChk) = true) (h1 : s ≤ k) (h2 : k < s + n) : rowChk k = true := List.all_eq_true.1 h k (List.mem_range'_1.2 ⟨h1, h2⟩)
theorem row_all {k : Nat} (h : k < 66) : rowChk k = true := by
  rcases Nat.lt_or_ge k 6 with h' | h'
  · exact row_of row_0 (by omega) (by omega)
  rcases Nat.lt_or_ge k 12 with h' | h'
  · exact row_of row_1 (by omega) (by omega)
  rcases Nat.lt_or_ge k 18 with h' | h'
  · exact row_of row_2 (by omega) (by omega)
  rcases Nat.lt_or_ge k 24 with h' | h'
  · exact row_of row_3 (by omega) (by omega)
  rcases Nat.lt_or_ge k 30 with h' | h'
  · exact row_of row_4 (by omega) (by omega)
  rcases Nat.lt_or_ge k 36 with h' | h'
  · exact row_of row_5 (by omega) (by omega)
  rcases Nat.lt_or_ge k 42 with h' | h'
  · exact row_of row_6 (by omega) (by omega)
  rcases Nat.lt_or_ge k 48 with h' | h'
  · exact row_of row_7 (by omega) (by omega)
  rcases Nat.lt_or_ge k 54 with h' | h'
  · exact row_of row_8 (by omega) (by omega)
  rcases Nat.lt_or_ge k 60 with h' | h'
  · exact row_of row_9 (by omega) (by omega)
  exact row_of row_10 (by omega) (by omega)
theorem rows {k : Nat} (h : k < 66) : ∃ nm c ks sz q, isa_Name k = some nm ∧ isa_of_2 k = some c ∧ isa_of_3 k = some ks ∧ isa_Size k = some sz ∧ D0[k]? = some q ∧ r2_Words q.Kinds = some ks ∧ r2_hex q.Bits = some c ∧ ((q.Bits.size : Int) = 2 * sz) ∧ (sz = 2 ∨ sz = 4) ∧ (∀ e ∈ ks, (allK.any fun k => eqS e k) = true) ∧ ks.length ≤ 8 ∧ eqS nm s_ = false ∧ 0 ≤ c ∧ c < 4294967296 := by
  have h := row_all h
  unfold rowChk at h
  split at h
  · rename_i nm c ks sz q e1 e2 e3 e4 e5
    split at h
    · rename_i ws hx e6 e7
      simp only [Bool.and_eq_true, beq_iff_eq, Bool.or_eq_true, decide_eq_true_eq, Bool.not_eq_true'] at h
      obtain ⟨⟨⟨⟨⟨⟨⟨h1, h2⟩, h3⟩, h4⟩, h5⟩, h6⟩, h7⟩, h8⟩ := h
      obtain rfl := eqL_eq h1
      subst h2
      exact ⟨nm, hx, ws, sz, q, cv_some (isa_Name.cv _) _ e1, cv_some (isa_of_2.cv _) _ e2, cv_some (isa_of_3.cv _) _ e3, cv_some (isa_Size.cv _) _ e4, e5, cv_some (r2_Words.cv _) _ e6, cv_some (r2_hex.cv _) _ e7, h3, h4, fun e he => List.all_eq_true.1 h5 e he, h6, h7, h8.1, h8.2⟩
    · cases h
  · cases h
end Go.Ab
set_option maxRecDepth 100000
namespace Go.Ab
theorem u32_w (z : Int) : IntKind.u32.wrap z = z % 4294967296 := by
  unfold IntKind.wrap; simp [IntKind.bits, IntKind.signed]
theorem i64_w (z : Int) : IntKind.i64.wrap z % 4294967296 = z % 4294967296 := by
  unfold IntKind.wrap; simp [IntKind.bits, IntKind.signed]; split <;> omega
theorem or_u32 (n q : Int) : orI .u32 (IntKind.u32.wrap n) (IntKind.u32.wrap q) = IntKind.u32.wrap (orI .i64 n q) := by
  have e : orI .i64 n q = IntKind.i64.wrap ((Ui n ||| Ui q : Nat) : Int) := by
    show IntKind.i64.wrap _ = IntKind.i64.wrap _
    rw [← BitVec.toNat_or]; rfl
  have e2 : orI .u32 (IntKind.u32.wrap n) (IntKind.u32.wrap q) = IntKind.u32.wrap (((BitVec.ofInt 32 (IntKind.u32.wrap n)).toNat ||| (BitVec.ofInt 32 (IntKind.u32.wrap q)).toNat : Nat) : Int) := by
    show IntKind.u32.wrap _ = IntKind.u32.wrap _
    rw [← BitVec.toNat_or]; rfl
  have h : ∀ z : Int, (BitVec.ofInt 32 (IntKind.u32.wrap z)).toNat = Ui z % 2 ^ 32 := by
    intro z
    have h1 := Ui_eq z
    rw [u32_w]
    have : ((BitVec.ofInt 32 (z % 4294967296)).toNat : Int) = (z % 4294967296) % 4294967296 := by
      rw [BitVec.toNat_ofInt]; simp; omega
    omega
  rw [e, e2, h, h, u32_w, u32_w, i64_w, ← Nat.or_mod_two_pow]
  have : ((Ui n ||| Ui q) % 2 ^ 32 : Nat) = (Ui n ||| Ui q) % 4294967296 := rfl
  omega
theorem code_loops (x : T_api_Inst) (ks : List ByteArray) (hk : ks.length ≤ 8) (hl : x.F.length = ks.length) (ha : ∀ e ∈ ks, (allK.any fun k => eqS e k) = true) (hF : ∀ v ∈ x.F, inI v) :
    ∀ (m i : Nat), i + m = ks.length → ∀ n : Int,
      (∃ n', r2_Right_L1 ⟨ks, i, x⟩ = some (.inr ()) ∧ isa_code_L1 ⟨IntKind.u32.wrap n, ks, ks.length, i, x⟩ = some (.inr (IntKind.u32.wrap n')) ∧ ∀ q, r2_Encode_L1 ⟨ks, n, i, x, q⟩ = some ⟨n', q⟩) ∨
      (r2_Right_L1 ⟨ks, i, x⟩ = some (.inl false) ∧ isa_code_L1 ⟨IntKind.u32.wrap n, ks, ks.length, i, x⟩ = some (.inl ⟨0, false⟩))
  | 0, i, h, n => by
    have c : decide ((i : Int) < ks.length) = false := decide_eq_false (by omega)
    refine .inl ⟨n, ?_, ?_, fun q => ?_⟩
    · rw [r2_Right_L1.eq]; unfold r2_Right_L1_b; simp only; rw [c]; rfl
    · rw [isa_code_L1.eq]; unfold isa_code_L1_b; simp only; rw [c]; rfl
    · rw [r2_Encode_L1.eq]; unfold r2_Encode_L1_b; simp only; rw [c]; rfl
  | m + 1, i, h, n => by
    have hi : i < ks.length := by omega
    have hi' : i < x.F.length := by omega
    have c : decide ((i : Int) < ks.length) = true := decide_eq_true (by omega)
    have c0 : decide (0 ≤ (i : Int)) = true := decide_eq_true (by omega)
    have hw : w64 ((i : Int) + 1) = ((i + 1 : Nat) : Int) := by rw [w64_in (by omega) (by omega)]; rfl
    obtain ⟨b, p, a1, a2, a3, a4⟩ := alike_all (ha ks[i] (List.getElem_mem hi)) (hF x.F[i] (List.getElem_mem hi'))
    have hR : r2_Right_L1 ⟨ks, i, x⟩ = if b then r2_Right_L1 ⟨ks, ((i + 1 : Nat) : Int), x⟩ else some (.inl false) := by
      rw [r2_Right_L1.eq]; unfold r2_Right_L1_b; simp only
      rw [c, cond_true, c0, cond_true, Int.toNat_natCast, List.getElem?_eq_getElem hi, Option.bind_some, List.getElem?_eq_getElem hi', Option.bind_some, a1, Option.bind_some, hw]
      cases b <;> rfl
    have hC : isa_code_L1 ⟨IntKind.u32.wrap n, ks, ks.length, i, x⟩ = if b then isa_code_L1 ⟨orI .u32 (IntKind.u32.wrap n) p.1, ks, ks.length, ((i + 1 : Nat) : Int), x⟩ else some (.inl ⟨0, false⟩) := by
      rw [isa_code_L1.eq]; unfold isa_code_L1_b; simp only
      rw [c, cond_true, c0, cond_true, Int.toNat_natCast, List.getElem?_eq_getElem hi, Option.bind_some, List.getElem?_eq_getElem hi', Option.bind_some, a2, Option.bind_some, hw, a3]
      cases b <;> rfl
    cases b with
    | false => exact .inr ⟨hR, hC⟩
    | true =>
      obtain ⟨q, b1, b2⟩ := a4 rfl
      rw [if_pos rfl] at hR hC
      rw [b2, or_u32] at hC
      rw [hR, hC]
      have hE : ∀ r, r2_Encode_L1 ⟨ks, n, i, x, r⟩ = r2_Encode_L1 ⟨ks, orI .i64 n q, ((i + 1 : Nat) : Int), x, r⟩ := by
        intro r
        rw [r2_Encode_L1.eq]; unfold r2_Encode_L1_b; simp only
        rw [c, cond_true, c0, cond_true, Int.toNat_natCast, List.getElem?_eq_getElem hi, Option.bind_some, List.getElem?_eq_getElem hi', Option.bind_some, b1, Option.bind_some, hw]; rfl
      rcases code_loops x ks hk hl ha hF m (i + 1) (by omega) (orI .i64 n q) with ⟨n', d1, d2, d3⟩ | ⟨d1, d2⟩
      · exact .inl ⟨n', d1, d2, fun r => (hE r).trans (d3 r)⟩
      · exact .inr ⟨d1, d2⟩
end Go.Ab
set_option maxRecDepth 100000
namespace Go.Ab
def tabL : List T_isa_row := (isa_table.s 5).getD []
theorem tab_eq : isa_table = some tabL := cv_some isa_table.cv 5 (by kernel_rfl)
theorem tab_len : tabL.length = 66 := by kernel_rfl
theorem no_blank : (D0.all fun r => !eqS r.Name h_20) = true := by kernel_rfl
theorem D0_len : D0.length = 66 := by kernel_rfl
theorem findR_none (op : Int) : ∀ (l : List T_r2_row) (n : Int), (l.all fun r => !eqS r.Name h_20) = true → (op < n ∨ n + l.length ≤ op) → findR op h_20 l n = none
  | [], _, _, _ => rfl
  | r :: l, n, h, ho => by
    rw [List.all_cons, Bool.and_eq_true] at h
    unfold findR
    rw [show (n == op) = false from beq_eq_false_iff_ne.2 (by simp only [List.length_cons] at ho; omega), cond_false, show eqS r.Name h_20 = false by simpa using h.1, cond_false]
    exact findR_none op l (n + 1) h.2 (by simp only [List.length_cons] at ho; omega)
theorem findR_at (op : Int) : ∀ (l : List T_r2_row) (n : Int) (i : Nat) (r : T_r2_row), (l.all fun r => !eqS r.Name h_20) = true → l[i]? = some r → op = n + i → findR op h_20 l n = some (r, op)
  | [], _, _, _, _, h, _ => nomatch h
  | q :: l, n, i, r, h, hr, ho => by
    rw [List.all_cons, Bool.and_eq_true] at h
    unfold findR
    cases i with
    | zero =>
      simp only [List.getElem?_cons_zero, Option.some.injEq] at hr
      subst hr
      have : n = op := by omega
      rw [show (n == op) = true from beq_iff_eq.2 this, cond_true, this]
    | succ i =>
      rw [show (n == op) = false from beq_eq_false_iff_ne.2 (by omega), cond_false, show eqS q.Name h_20 = false by simpa using h.1, cond_false]
      exact findR_at op l (n + 1) i r h.2 (by simpa using hr) (by omega)
theorem name_out {k : Int} (h : k < 0 ∨ 66 ≤ k) : isa_Name k = some s_ ∧ isa_Kinds k = some s_ := by
  constructor
  · rw [isa_Name.eq]; unfold isa_Name_b
    rw [isa_of.eq]; unfold isa_of_b
    rw [tab_eq, Option.bind_some, tab_len]
    by_cases h0 : k ≥ 0
    · rw [show decide (k ≥ 0) = true from decide_eq_true h0, cond_true, show decide (k < ((66 : Nat) : Int)) = false from decide_eq_false (by omega)]; rfl
    · rw [show decide (k ≥ 0) = false from decide_eq_false h0]; rfl
  · rw [isa_Kinds.eq]; unfold isa_Kinds_b
    rw [isa_of_4.eq]; unfold isa_of_4_b
    rw [tab_eq, Option.bind_some, tab_len]
    by_cases h0 : k ≥ 0
    · rw [show decide (k ≥ 0) = true from decide_eq_true h0, cond_true, show decide (k < ((66 : Nat) : Int)) = false from decide_eq_false (by omega)]; rfl
    · rw [show decide (k ≥ 0) = false from decide_eq_false h0]; rfl
theorem byte_u32 (n : Int) (s : Int) (hs : s = 8 ∨ s = 16 ∨ s = 24) : IntKind.u8.wrap (shrI .u32 (IntKind.u32.wrap n) s) = IntKind.u8.wrap (shrI .i64 n s) := by
  have u8 : ∀ z, IntKind.u8.wrap z = z % 256 := fun z => by unfold IntKind.wrap; simp [IntKind.bits, IntKind.signed]
  rw [u8, u8, u32_w]
  unfold shrI
  rw [Int.fdiv_eq_ediv_of_nonneg _ (Int.le_of_lt (Int.pow_pos (by decide))), Int.fdiv_eq_ediv_of_nonneg _ (Int.le_of_lt (Int.pow_pos (by decide)))]
  rcases hs with rfl | rfl | rfl
  · rw [show ((2 : Int) ^ min (Int.toNat 8) IntKind.u32.bits) = 256 from rfl, show ((2 : Int) ^ min (Int.toNat 8) IntKind.i64.bits) = 256 from rfl]; omega
  · rw [show ((2 : Int) ^ min (Int.toNat 16) IntKind.u32.bits) = 65536 from rfl, show ((2 : Int) ^ min (Int.toNat 16) IntKind.i64.bits) = 65536 from rfl]; omega
  · rw [show ((2 : Int) ^ min (Int.toNat 24) IntKind.u32.bits) = 16777216 from rfl, show ((2 : Int) ^ min (Int.toNat 24) IntKind.i64.bits) = 16777216 from rfl]; omega
theorem byte_low (n : Int) : IntKind.u8.wrap (IntKind.u32.wrap n) = IntKind.u8.wrap n := by
  have u8 : ∀ z, IntKind.u8.wrap z = z % 256 := fun z => by unfold IntKind.wrap; simp [IntKind.bits, IntKind.signed]
  rw [u8, u8, u32_w]; omega
theorem find_at {k : Nat} {q : T_r2_row} (h : D0[k]? = some q) : r2_find k h_20 = some (q, (k : Int), true) := by
  rw [find_law, findR_at _ D0 0 k q no_blank h (by omega)]
theorem find_out {k : Int} (h : k < 0 ∨ 66 ≤ k) : r2_find k h_20 = some (zR, 0, false) := by
  rw [find_law, findR_none k D0 0 no_blank (by rw [D0_len]; omega)]
theorem words_none : r2_Words s_ = some [] := cv_some (r2_Words.cv _) 20 (by kernel_rfl)
theorem encode_false {x : T_api_Inst} {c : Int} (h : isa_code x = some (c, false)) : isa_Encode x = some ([], false) := by
  rw [isa_Encode.eq]; unfold isa_Encode_b
  rw [h]; rfl
theorem ref_false {x : T_api_Inst} (h : r2_Right x = some false) : r2_Encode x = some ([], false) := by
  rw [r2_Encode.eq]; unfold r2_Encode_b
  rw [h]; rfl
theorem code_none {x : T_api_Inst} (h : isa_Name x.Op = some s_) : isa_code x = some (0, false) := by
  rw [isa_code.eq]; unfold isa_code_b
  rw [h, Option.bind_some, show eqS s_ s_ = true from eqS_iff.2 rfl]; rfl
/-- the two encoders answer alike -/
theorem encode_alike (x : T_api_Inst) (hF : ∀ v ∈ x.F, inI v) (hlen : x.F.length ≤ 4611686018427387904) : ∃ l is, isa_Encode x = some (l, is) ∧ r2_Encode x = some (l, is) ∧ r2_Right x = some is := by
  by_cases hk : 0 ≤ x.Op ∧ x.Op < 66
  rotate_left
  · obtain ⟨n1, _⟩ := name_out (k := x.Op) (by omega)
    have hR : r2_Right x = some false := by
      rw [r2_Right.eq]; unfold r2_Right_b
      rw [find_out (by omega), Option.bind_some, show (zR, (0 : Int), false).1.Kinds = s_ from rfl, words_none]; rfl
    exact ⟨[], false, encode_false (code_none n1), ref_false hR, hR⟩
  obtain ⟨k, hkk⟩ := Int.eq_ofNat_of_zero_le hk.1
  have hk66 : k < 66 := by omega
  obtain ⟨nm, c, ks, sz, q, e1, e2, e3, e4, e5, e6, e7, e8, e9, e10, e11, e12, e13, e14⟩ := rows hk66
  have hfind := find_at e5
  have hcode : isa_code x = (bif ((ks.length : Nat) : Int) != ((x.F.length : Nat) : Int) then some (0, false) else (isa_code_L1 ⟨c, ks, ks.length, 0, x⟩).bind fun x => Sum.elim (fun (o4 : isa_code_L1_O0) => some (o4.x2, o4.x3)) (fun (o5 : Int) => some (o5, true)) x) := by
    rw [isa_code.eq]; unfold isa_code_b
    rw [hkk, e1, Option.bind_some, e12, cond_false, e2, Option.bind_some, e3, Option.bind_some]
  have hright : r2_Right x = (bif ((x.F.length : Nat) : Int) != ((ks.length : Nat) : Int) then some false else (r2_Right_L1 ⟨ks, 0, x⟩).bind fun x => Sum.elim (fun (o3 : Bool) => some o3) (fun (o4 : Unit) => some true) x) := by
    rw [r2_Right.eq]; unfold r2_Right_b
    rw [hkk, hfind, Option.bind_some, e6]; rfl
  by_cases hl : x.F.length = ks.length
  rotate_left
  · rw [show (((ks.length : Nat) : Int) != ((x.F.length : Nat) : Int)) = true by rw [bne_iff_ne]; omega, cond_true] at hcode
    rw [show (((x.F.length : Nat) : Int) != ((ks.length : Nat) : Int)) = true by rw [bne_iff_ne]; omega, cond_true] at hright
    exact ⟨[], false, encode_false hcode, ref_false hright, hright⟩
  rw [hl, bne_self_eq_false, cond_false] at hcode hright
  have hc : IntKind.u32.wrap c = c := by rw [u32_w]; omega
  rcases code_loops x ks e11 hl e10 hF ks.length 0 (by omega) c with ⟨n, d1, d2, d3⟩ | ⟨d1, d2⟩
  rotate_left
  · have d1' : r2_Right_L1 ⟨ks, 0, x⟩ = some (.inl false) := d1
    have d2' : isa_code_L1 ⟨c, ks, ks.length, 0, x⟩ = some (.inl ⟨0, false⟩) := by rw [← hc]; exact d2
    rw [d2'] at hcode
    rw [d1'] at hright
    exact ⟨[], false, encode_false hcode, ref_false hright, hright⟩
  have d1' : r2_Right_L1 ⟨ks, 0, x⟩ = some (.inr ()) := d1
  have d2' : isa_code_L1 ⟨c, ks, ks.length, 0, x⟩ = some (.inr (IntKind.u32.wrap n)) := by rw [← hc]; exact d2
  have d3' : ∀ q, r2_Encode_L1 ⟨ks, c, 0, x, q⟩ = some ⟨n, q⟩ := d3
  rw [d2'] at hcode
  rw [d1'] at hright
  have hcode' : isa_code x = some (IntKind.u32.wrap n, true) := hcode
  have hright' : r2_Right x = some true := hright
  have hI : isa_Encode x = some (if sz = 2 then [IntKind.u8.wrap (shrI .i64 n 8), IntKind.u8.wrap n] else [IntKind.u8.wrap (shrI .i64 n 24), IntKind.u8.wrap (shrI .i64 n 16), IntKind.u8.wrap (shrI .i64 n 8), IntKind.u8.wrap n], true) := by
    rw [isa_Encode.eq]; unfold isa_Encode_b
    rw [hcode', Option.bind_some, hkk, e4]
    simp only [Option.bind_some, Bool.not_true, cond_false]
    rw [byte_u32 n 24 (by simp), byte_u32 n 16 (by simp), byte_u32 n 8 (by simp), byte_low n]
    rcases e9 with rfl | rfl <;> rfl
  have hE : r2_Encode x = some (if sz = 2 then [IntKind.u8.wrap (shrI .i64 n 8), IntKind.u8.wrap n] else [IntKind.u8.wrap (shrI .i64 n 24), IntKind.u8.wrap (shrI .i64 n 16), IntKind.u8.wrap (shrI .i64 n 8), IntKind.u8.wrap n], true) := by
    rw [r2_Encode.eq]; unfold r2_Encode_b
    rw [hright', Option.bind_some, hkk, hfind]
    simp only [Option.bind_some, Bool.not_true, cond_false]
    rw [e6, Option.bind_some, e7, Option.bind_some, d3', Option.bind_some]
    simp only
    rcases e9 with rfl | rfl
    · rw [show (((q.Bits.size : Nat) : Int) == 4) = true from beq_iff_eq.2 (by omega)]; rfl
    · rw [show (((q.Bits.size : Nat) : Int) == 4) = false from beq_eq_false_iff_ne.2 (by omega)]; rfl
  exact ⟨_, true, hI, hE, hright'⟩
end Go.Ab
set_option maxRecDepth 100000
namespace Go.Ab
abbrev inU (u : Int) : Prop := 0 ≤ u ∧ u < 4294967296
def Takes (e : ByteArray) (u : Int) : Prop := ∃ v, isa_get e u = some v ∧ r2_take e u = some v ∧ inI v
theorem and_i64 (x : Int) (b : Nat) (hb : b = 1 ∨ b = 2 ∨ b = 4 ∨ b = 5 ∨ b = 7) : andI .i64 x ((2 ^ b - 1 : Nat) : Int) = x % (2 ^ b : Nat) := by
  have e : andI .i64 x ((2 ^ b - 1 : Nat) : Int) = w64 ((Ui x &&& Ui ((2 ^ b - 1 : Nat) : Int) : Nat) : Int) := by
    show IntKind.i64.wrap _ = IntKind.i64.wrap _
    rw [← BitVec.toNat_and]; rfl
  have h1 : Ui ((2 ^ b - 1 : Nat) : Int) = 2 ^ b - 1 := by rcases hb with rfl | rfl | rfl | rfl | rfl <;> decide
  rw [e, h1, Nat.and_two_pow_sub_one_eq_mod]
  have := Ui_eq x
  rcases hb with rfl | rfl | rfl | rfl | rfl <;> (rw [w64_in (by omega) (by omega)]; omega)
theorem and_u32 (x : Int) (hx : inU x) (b : Nat) (hb : b = 1 ∨ b = 2 ∨ b = 4 ∨ b = 5 ∨ b = 7) : andI .u32 x ((2 ^ b - 1 : Nat) : Int) = x % (2 ^ b : Nat) := by
  have e : andI .u32 x ((2 ^ b - 1 : Nat) : Int) = IntKind.u32.wrap (((BitVec.ofInt 32 x).toNat &&& (BitVec.ofInt 32 ((2 ^ b - 1 : Nat) : Int)).toNat : Nat) : Int) := by
    show IntKind.u32.wrap _ = IntKind.u32.wrap _
    rw [← BitVec.toNat_and]; rfl
  have h1 : (BitVec.ofInt 32 ((2 ^ b - 1 : Nat) : Int)).toNat = 2 ^ b - 1 := by rcases hb with rfl | rfl | rfl | rfl | rfl <;> decide
  have h2 : ((BitVec.ofInt 32 x).toNat : Int) = x := by rw [BitVec.toNat_ofInt]; simp; omega
  rw [e, h1, Nat.and_two_pow_sub_one_eq_mod, u32_w]
  rcases hb with rfl | rfl | rfl | rfl | rfl <;> omega
theorem plain_get_eq (at_ bits step less : Int) (a b : Nat) (u : Int) (hu : inU u) (hat : at_ = a) (ha : a ≤ 21) (hbits : bits = b) (hb : b = 1 ∨ b = 2 ∨ b = 4 ∨ b = 5 ∨ b = 7) (hs : step = 1 ∨ step = 2 ∨ step = 4) (hl : less = 0 ∨ less = 1) :
    isa_plain_get ⟨at_, bits, step, less⟩ u = some (u / 2 ^ a % (2 ^ b : Nat) * step + less) := by
  rw [isa_plain_get.eq]; unfold isa_plain_get_b
  simp only
  rw [show decide (0 ≤ at_) = true from decide_eq_true (by omega), show decide (0 ≤ bits) = true from decide_eq_true (by omega)]
  simp only [cond_true]
  have hm : IntKind.u32.wrap (shlI .u32 1 bits - 1) = ((2 ^ b - 1 : Nat) : Int) := by
    subst hbits; rcases hb with rfl | rfl | rfl | rfl | rfl <;> decide
  have hsh : shrI .u32 u at_ = u / 2 ^ a := by
    unfold shrI
    rw [Int.fdiv_eq_ediv_of_nonneg _ (Int.le_of_lt (Int.pow_pos (by decide))), hat, show min (Int.toNat (a : Int)) IntKind.u32.bits = a by simp [IntKind.bits]; omega]
  have hp : (0 : Int) < 2 ^ a := Int.pow_pos (by decide)
  have hr : inU (u / 2 ^ a) := ⟨Int.ediv_nonneg hu.1 (by omega), Int.lt_of_le_of_lt (Int.ediv_le_self _ hu.1) hu.2⟩
  rw [hm, hsh, and_u32 _ hr b hb]
  have h0 : 0 ≤ u / 2 ^ a % ((2 ^ b : Nat) : Int) ∧ u / 2 ^ a % ((2 ^ b : Nat) : Int) < 128 := by
    rcases hb with rfl | rfl | rfl | rfl | rfl <;> constructor <;> omega
  generalize u / 2 ^ a % ((2 ^ b : Nat) : Int) = y at h0
  congr 1
  rw [w64_in (n := y) (by omega) (by omega)]
  rcases hs with rfl | rfl | rfl <;> rcases hl with rfl | rfl <;> (rw [w64_in (n := y * _) (by omega) (by omega)]; exact w64_in (by omega) (by omega))
theorem take_eq (u : Int) (a b : Nat) (ha : a ≤ 21) (hb : b = 1 ∨ b = 2 ∨ b = 4 ∨ b = 5 ∨ b = 7) : andI .i64 (shrI .i64 u a) ((2 ^ b - 1 : Nat) : Int) = u / 2 ^ a % (2 ^ b : Nat) := by
  rw [and_i64 _ b hb]
  unfold shrI
  rw [Int.fdiv_eq_ediv_of_nonneg _ (Int.le_of_lt (Int.pow_pos (by decide))), show min (Int.toNat (a : Int)) IntKind.i64.bits = a by simp [IntKind.bits]; omega]
theorem take_U5 (u : Int) : r2_take s_U5 u = some (andI .i64 (shrI .i64 u 4) 31) := (r2_take.eq _ _).trans (by kernel_rfl)
theorem takes_U5 (u : Int) (hu : inU u) : Takes s_U5 u := by
  have h1 := plain_get_eq 4 5 1 0 4 5 u hu rfl (by decide) rfl (.inr (.inr (.inr (.inl rfl)))) (.inl rfl) (.inl rfl)
  have h2 : andI .i64 (shrI .i64 u 4) 31 = u / 2 ^ 4 % ((2 ^ 5 : Nat) : Int) := take_eq u 4 5 (by decide) (.inr (.inr (.inr (.inl rfl))))
  have h3 := take_U5 u
  rw [h2] at h3
  have h0 : 0 ≤ u / 2 ^ 4 % ((2 ^ 5 : Nat) : Int) ∧ u / 2 ^ 4 % ((2 ^ 5 : Nat) : Int) < 128 := by constructor <;> omega
  generalize u / 2 ^ 4 % ((2 ^ 5 : Nat) : Int) = y at h0 h1 h3
  refine ⟨_, ?_, h3.trans ?_, (show -9223372036854775808 ≤ y * 1 + 0 by omega), (show y * 1 + 0 ≤ 9223372036854775807 by omega)⟩
  · rw [isa_get.eq]; unfold isa_get_b
    rw [pl_U5, Option.bind_some, cond_true]
    exact (congrArg (fun x => Option.bind x _) h1).trans rfl
  · congr 1; omega
theorem take_U7 (u : Int) : r2_take s_U7 u = some (andI .i64 (shrI .i64 u 4) 127) := (r2_take.eq _ _).trans (by kernel_rfl)
theorem takes_U7 (u : Int) (hu : inU u) : Takes s_U7 u := by
  have h1 := plain_get_eq 4 7 1 0 4 7 u hu rfl (by decide) rfl (.inr (.inr (.inr (.inr rfl)))) (.inl rfl) (.inl rfl)
  have h2 : andI .i64 (shrI .i64 u 4) 127 = u / 2 ^ 4 % ((2 ^ 7 : Nat) : Int) := take_eq u 4 7 (by decide) (.inr (.inr (.inr (.inr rfl))))
  have h3 := take_U7 u
  rw [h2] at h3
  have h0 : 0 ≤ u / 2 ^ 4 % ((2 ^ 7 : Nat) : Int) ∧ u / 2 ^ 4 % ((2 ^ 7 : Nat) : Int) < 128 := by constructor <;> omega
  generalize u / 2 ^ 4 % ((2 ^ 7 : Nat) : Int) = y at h0 h1 h3
  refine ⟨_, ?_, h3.trans ?_, (show -9223372036854775808 ≤ y * 1 + 0 by omega), (show y * 1 + 0 ≤ 9223372036854775807 by omega)⟩
  · rw [isa_get.eq]; unfold isa_get_b
    rw [pl_U7, Option.bind_some, cond_true]
    exact (congrArg (fun x => Option.bind x _) h1).trans rfl
  · congr 1; omega
theorem take_O5 (u : Int) : r2_take s_O5 u = some (w64 ((andI .i64 (shrI .i64 u 4) 31) + 1)) := (r2_take.eq _ _).trans (by kernel_rfl)
theorem takes_O5 (u : Int) (hu : inU u) : Takes s_O5 u := by
  have h1 := plain_get_eq 4 5 1 1 4 5 u hu rfl (by decide) rfl (.inr (.inr (.inr (.inl rfl)))) (.inl rfl) (.inr rfl)
  have h2 : andI .i64 (shrI .i64 u 4) 31 = u / 2 ^ 4 % ((2 ^ 5 : Nat) : Int) := take_eq u 4 5 (by decide) (.inr (.inr (.inr (.inl rfl))))
  have h3 := take_O5 u
  rw [h2] at h3
  have h0 : 0 ≤ u / 2 ^ 4 % ((2 ^ 5 : Nat) : Int) ∧ u / 2 ^ 4 % ((2 ^ 5 : Nat) : Int) < 128 := by constructor <;> omega
  generalize u / 2 ^ 4 % ((2 ^ 5 : Nat) : Int) = y at h0 h1 h3
  refine ⟨_, ?_, h3.trans ?_, (show -9223372036854775808 ≤ y * 1 + 1 by omega), (show y * 1 + 1 ≤ 9223372036854775807 by omega)⟩
  · rw [isa_get.eq]; unfold isa_get_b
    rw [pl_O5, Option.bind_some, cond_true]
    exact (congrArg (fun x => Option.bind x _) h1).trans rfl
  · congr 1; rw [w64_in (by omega) (by omega)]; omega
theorem take_M1 (u : Int) : r2_take s_M1 u = some (andI .i64 (shrI .i64 u 8) 15) := (r2_take.eq _ _).trans (by kernel_rfl)
theorem takes_M1 (u : Int) (hu : inU u) : Takes s_M1 u := by
  have h1 := plain_get_eq 8 4 1 0 8 4 u hu rfl (by decide) rfl (.inr (.inr (.inl rfl))) (.inl rfl) (.inl rfl)
  have h2 : andI .i64 (shrI .i64 u 8) 15 = u / 2 ^ 8 % ((2 ^ 4 : Nat) : Int) := take_eq u 8 4 (by decide) (.inr (.inr (.inl rfl)))
  have h3 := take_M1 u
  rw [h2] at h3
  have h0 : 0 ≤ u / 2 ^ 8 % ((2 ^ 4 : Nat) : Int) ∧ u / 2 ^ 8 % ((2 ^ 4 : Nat) : Int) < 128 := by constructor <;> omega
  generalize u / 2 ^ 8 % ((2 ^ 4 : Nat) : Int) = y at h0 h1 h3
  refine ⟨_, ?_, h3.trans ?_, (show -9223372036854775808 ≤ y * 1 + 0 by omega), (show y * 1 + 0 ≤ 9223372036854775807 by omega)⟩
  · rw [isa_get.eq]; unfold isa_get_b
    rw [pl_M1, Option.bind_some, cond_true]
    exact (congrArg (fun x => Option.bind x _) h1).trans rfl
  · congr 1; omega
theorem take_M2 (u : Int) : r2_take s_M2 u = some (w64 (2 * (andI .i64 (shrI .i64 u 8) 15))) := (r2_take.eq _ _).trans (by kernel_rfl)
theorem takes_M2 (u : Int) (hu : inU u) : Takes s_M2 u := by
  have h1 := plain_get_eq 8 4 2 0 8 4 u hu rfl (by decide) rfl (.inr (.inr (.inl rfl))) (.inr (.inl rfl)) (.inl rfl)
  have h2 : andI .i64 (shrI .i64 u 8) 15 = u / 2 ^ 8 % ((2 ^ 4 : Nat) : Int) := take_eq u 8 4 (by decide) (.inr (.inr (.inl rfl)))
  have h3 := take_M2 u
  rw [h2] at h3
  have h0 : 0 ≤ u / 2 ^ 8 % ((2 ^ 4 : Nat) : Int) ∧ u / 2 ^ 8 % ((2 ^ 4 : Nat) : Int) < 128 := by constructor <;> omega
  generalize u / 2 ^ 8 % ((2 ^ 4 : Nat) : Int) = y at h0 h1 h3
  refine ⟨_, ?_, h3.trans ?_, (show -9223372036854775808 ≤ y * 2 + 0 by omega), (show y * 2 + 0 ≤ 9223372036854775807 by omega)⟩
  · rw [isa_get.eq]; unfold isa_get_b
    rw [pl_M2, Option.bind_some, cond_true]
    exact (congrArg (fun x => Option.bind x _) h1).trans rfl
  · congr 1; rw [w64_in (by omega) (by omega)]; omega
theorem take_M4 (u : Int) : r2_take s_M4 u = some (w64 (4 * (andI .i64 (shrI .i64 u 8) 15))) := (r2_take.eq _ _).trans (by kernel_rfl)
theorem takes_M4 (u : Int) (hu : inU u) : Takes s_M4 u := by
  have h1 := plain_get_eq 8 4 4 0 8 4 u hu rfl (by decide) rfl (.inr (.inr (.inl rfl))) (.inr (.inr rfl)) (.inl rfl)
  have h2 : andI .i64 (shrI .i64 u 8) 15 = u / 2 ^ 8 % ((2 ^ 4 : Nat) : Int) := take_eq u 8 4 (by decide) (.inr (.inr (.inl rfl)))
  have h3 := take_M4 u
  rw [h2] at h3
  have h0 : 0 ≤ u / 2 ^ 8 % ((2 ^ 4 : Nat) : Int) ∧ u / 2 ^ 8 % ((2 ^ 4 : Nat) : Int) < 128 := by constructor <;> omega
  generalize u / 2 ^ 8 % ((2 ^ 4 : Nat) : Int) = y at h0 h1 h3
  refine ⟨_, ?_, h3.trans ?_, (show -9223372036854775808 ≤ y * 4 + 0 by omega), (show y * 4 + 0 ≤ 9223372036854775807 by omega)⟩
  · rw [isa_get.eq]; unfold isa_get_b
    rw [pl_M4, Option.bind_some, cond_true]
    exact (congrArg (fun x => Option.bind x _) h1).trans rfl
  · congr 1; rw [w64_in (by omega) (by omega)]; omega
theorem take_O1 (u : Int) : r2_take s_O1 u = some (andI .i64 (shrI .i64 u 10) 1) := (r2_take.eq _ _).trans (by kernel_rfl)
theorem takes_O1 (u : Int) (hu : inU u) : Takes s_O1 u := by
  have h1 := plain_get_eq 10 1 1 0 10 1 u hu rfl (by decide) rfl (.inl rfl) (.inl rfl) (.inl rfl)
  have h2 : andI .i64 (shrI .i64 u 10) 1 = u / 2 ^ 10 % ((2 ^ 1 : Nat) : Int) := take_eq u 10 1 (by decide) (.inl rfl)
  have h3 := take_O1 u
  rw [h2] at h3
  have h0 : 0 ≤ u / 2 ^ 10 % ((2 ^ 1 : Nat) : Int) ∧ u / 2 ^ 10 % ((2 ^ 1 : Nat) : Int) < 128 := by constructor <;> omega
  generalize u / 2 ^ 10 % ((2 ^ 1 : Nat) : Int) = y at h0 h1 h3
  refine ⟨_, ?_, h3.trans ?_, (show -9223372036854775808 ≤ y * 1 + 0 by omega), (show y * 1 + 0 ≤ 9223372036854775807 by omega)⟩
  · rw [isa_get.eq]; unfold isa_get_b
    rw [pl_O1, Option.bind_some, cond_true]
    exact (congrArg (fun x => Option.bind x _) h1).trans rfl
  · congr 1; omega
theorem take_I2 (u : Int) : r2_take s_I2 u = some (andI .i64 (shrI .i64 u 8) 3) := (r2_take.eq _ _).trans (by kernel_rfl)
theorem takes_I2 (u : Int) (hu : inU u) : Takes s_I2 u := by
  have h1 := plain_get_eq 8 2 1 0 8 2 u hu rfl (by decide) rfl (.inr (.inl rfl)) (.inl rfl) (.inl rfl)
  have h2 : andI .i64 (shrI .i64 u 8) 3 = u / 2 ^ 8 % ((2 ^ 2 : Nat) : Int) := take_eq u 8 2 (by decide) (.inr (.inl rfl))
  have h3 := take_I2 u
  rw [h2] at h3
  have h0 : 0 ≤ u / 2 ^ 8 % ((2 ^ 2 : Nat) : Int) ∧ u / 2 ^ 8 % ((2 ^ 2 : Nat) : Int) < 128 := by constructor <;> omega
  generalize u / 2 ^ 8 % ((2 ^ 2 : Nat) : Int) = y at h0 h1 h3
  refine ⟨_, ?_, h3.trans ?_, (show -9223372036854775808 ≤ y * 1 + 0 by omega), (show y * 1 + 0 ≤ 9223372036854775807 by omega)⟩
  · rw [isa_get.eq]; unfold isa_get_b
    rw [pl_I2, Option.bind_some, cond_true]
    exact (congrArg (fun x => Option.bind x _) h1).trans rfl
  · congr 1; omega
theorem take_D (u : Int) : r2_take s_D u = some (andI .i64 (shrI .i64 u 21) 31) := by
  refine (r2_take.eq _ _).trans (Eq.trans (b := (r2_takes s_D u).bind fun r => some r) (by kernel_rfl) ?_)
  rw [show r2_takes s_D u = some (andI .i64 (shrI .i64 u 21) 31) from (r2_takes.eq _ _).trans (by kernel_rfl)]; rfl
theorem takes_D (u : Int) (hu : inU u) : Takes s_D u := by
  have h1 := plain_get_eq 21 5 1 0 21 5 u hu rfl (by decide) rfl (.inr (.inr (.inr (.inl rfl)))) (.inl rfl) (.inl rfl)
  have h2 : andI .i64 (shrI .i64 u 21) 31 = u / 2 ^ 21 % ((2 ^ 5 : Nat) : Int) := take_eq u 21 5 (by decide) (.inr (.inr (.inr (.inl rfl))))
  have h3 := take_D u
  rw [h2] at h3
  have h0 : 0 ≤ u / 2 ^ 21 % ((2 ^ 5 : Nat) : Int) ∧ u / 2 ^ 21 % ((2 ^ 5 : Nat) : Int) < 128 := by constructor <;> omega
  generalize u / 2 ^ 21 % ((2 ^ 5 : Nat) : Int) = y at h0 h1 h3
  refine ⟨_, ?_, h3.trans ?_, (show -9223372036854775808 ≤ y * 1 + 0 by omega), (show y * 1 + 0 ≤ 9223372036854775807 by omega)⟩
  · rw [isa_get.eq]; unfold isa_get_b
    rw [pl_D, Option.bind_some, cond_true]
    exact (congrArg (fun x => Option.bind x _) h1).trans rfl
  · congr 1; omega
theorem take_A (u : Int) : r2_take s_A u = some (andI .i64 (shrI .i64 u 16) 31) := by
  refine (r2_take.eq _ _).trans (Eq.trans (b := (r2_takes s_A u).bind fun r => some r) (by kernel_rfl) ?_)
  rw [show r2_takes s_A u = some (andI .i64 (shrI .i64 u 16) 31) from (r2_takes.eq _ _).trans (by kernel_rfl)]; rfl
theorem takes_A (u : Int) (hu : inU u) : Takes s_A u := by
  have h1 := plain_get_eq 16 5 1 0 16 5 u hu rfl (by decide) rfl (.inr (.inr (.inr (.inl rfl)))) (.inl rfl) (.inl rfl)
  have h2 : andI .i64 (shrI .i64 u 16) 31 = u / 2 ^ 16 % ((2 ^ 5 : Nat) : Int) := take_eq u 16 5 (by decide) (.inr (.inr (.inr (.inl rfl))))
  have h3 := take_A u
  rw [h2] at h3
  have h0 : 0 ≤ u / 2 ^ 16 % ((2 ^ 5 : Nat) : Int) ∧ u / 2 ^ 16 % ((2 ^ 5 : Nat) : Int) < 128 := by constructor <;> omega
  generalize u / 2 ^ 16 % ((2 ^ 5 : Nat) : Int) = y at h0 h1 h3
  refine ⟨_, ?_, h3.trans ?_, (show -9223372036854775808 ≤ y * 1 + 0 by omega), (show y * 1 + 0 ≤ 9223372036854775807 by omega)⟩
  · rw [isa_get.eq]; unfold isa_get_b
    rw [pl_A, Option.bind_some, cond_true]
    exact (congrArg (fun x => Option.bind x _) h1).trans rfl
  · congr 1; omega
theorem take_B (u : Int) : r2_take s_B u = some (andI .i64 (shrI .i64 u 11) 31) := by
  refine (r2_take.eq _ _).trans (Eq.trans (b := (r2_takes s_B u).bind fun r => some r) (by kernel_rfl) ?_)
  rw [show r2_takes s_B u = some (andI .i64 (shrI .i64 u 11) 31) from (r2_takes.eq _ _).trans (by kernel_rfl)]; rfl
theorem takes_B (u : Int) (hu : inU u) : Takes s_B u := by
  have h1 := plain_get_eq 11 5 1 0 11 5 u hu rfl (by decide) rfl (.inr (.inr (.inr (.inl rfl)))) (.inl rfl) (.inl rfl)
  have h2 : andI .i64 (shrI .i64 u 11) 31 = u / 2 ^ 11 % ((2 ^ 5 : Nat) : Int) := take_eq u 11 5 (by decide) (.inr (.inr (.inr (.inl rfl))))
  have h3 := take_B u
  rw [h2] at h3
  have h0 : 0 ≤ u / 2 ^ 11 % ((2 ^ 5 : Nat) : Int) ∧ u / 2 ^ 11 % ((2 ^ 5 : Nat) : Int) < 128 := by constructor <;> omega
  generalize u / 2 ^ 11 % ((2 ^ 5 : Nat) : Int) = y at h0 h1 h3
  refine ⟨_, ?_, h3.trans ?_, (show -9223372036854775808 ≤ y * 1 + 0 by omega), (show y * 1 + 0 ≤ 9223372036854775807 by omega)⟩
  · rw [isa_get.eq]; unfold isa_get_b
    rw [pl_B, Option.bind_some, cond_true]
    exact (congrArg (fun x => Option.bind x _) h1).trans rfl
  · congr 1; omega
theorem take_O2 (u : Int) : r2_take s_O2 u = some (andI .i64 (shrI .i64 u 20) 3) := by
  refine (r2_take.eq _ _).trans (Eq.trans (b := (r2_takes s_O2 u).bind fun r => some r) (by kernel_rfl) ?_)
  rw [show r2_takes s_O2 u = some (andI .i64 (shrI .i64 u 20) 3) from (r2_takes.eq _ _).trans (by kernel_rfl)]; rfl
theorem takes_O2 (u : Int) (hu : inU u) : Takes s_O2 u := by
  have h1 := plain_get_eq 20 2 1 0 20 2 u hu rfl (by decide) rfl (.inr (.inl rfl)) (.inl rfl) (.inl rfl)
  have h2 : andI .i64 (shrI .i64 u 20) 3 = u / 2 ^ 20 % ((2 ^ 2 : Nat) : Int) := take_eq u 20 2 (by decide) (.inr (.inl rfl))
  have h3 := take_O2 u
  rw [h2] at h3
  have h0 : 0 ≤ u / 2 ^ 20 % ((2 ^ 2 : Nat) : Int) ∧ u / 2 ^ 20 % ((2 ^ 2 : Nat) : Int) < 128 := by constructor <;> omega
  generalize u / 2 ^ 20 % ((2 ^ 2 : Nat) : Int) = y at h0 h1 h3
  refine ⟨_, ?_, h3.trans ?_, (show -9223372036854775808 ≤ y * 1 + 0 by omega), (show y * 1 + 0 ≤ 9223372036854775807 by omega)⟩
  · rw [isa_get.eq]; unfold isa_get_b
    rw [pl_O2, Option.bind_some, cond_true]
    exact (congrArg (fun x => Option.bind x _) h1).trans rfl
  · congr 1; omega
theorem take_I4 (u : Int) : r2_take s_I4 u = some (andI .i64 (shrI .i64 u 16) 15) := by
  refine (r2_take.eq _ _).trans (Eq.trans (b := (r2_takes s_I4 u).bind fun r => some r) (by kernel_rfl) ?_)
  rw [show r2_takes s_I4 u = some (andI .i64 (shrI .i64 u 16) 15) from (r2_takes.eq _ _).trans (by kernel_rfl)]; rfl
theorem takes_I4 (u : Int) (hu : inU u) : Takes s_I4 u := by
  have h1 := plain_get_eq 16 4 1 0 16 4 u hu rfl (by decide) rfl (.inr (.inr (.inl rfl))) (.inl rfl) (.inl rfl)
  have h2 : andI .i64 (shrI .i64 u 16) 15 = u / 2 ^ 16 % ((2 ^ 4 : Nat) : Int) := take_eq u 16 4 (by decide) (.inr (.inr (.inl rfl)))
  have h3 := take_I4 u
  rw [h2] at h3
  have h0 : 0 ≤ u / 2 ^ 16 % ((2 ^ 4 : Nat) : Int) ∧ u / 2 ^ 16 % ((2 ^ 4 : Nat) : Int) < 128 := by constructor <;> omega
  generalize u / 2 ^ 16 % ((2 ^ 4 : Nat) : Int) = y at h0 h1 h3
  refine ⟨_, ?_, h3.trans ?_, (show -9223372036854775808 ≤ y * 1 + 0 by omega), (show y * 1 + 0 ≤ 9223372036854775807 by omega)⟩
  · rw [isa_get.eq]; unfold isa_get_b
    rw [pl_I4, Option.bind_some, cond_true]
    exact (congrArg (fun x => Option.bind x _) h1).trans rfl
  · congr 1; omega
end Go.Ab
set_option maxRecDepth 100000
namespace Go.Ab
def sgB (h v : Int) : Int := if v % (2 * h) < h then v % (2 * h) else v % (2 * h) - 2 * h
theorem and_mask (x : Int) (b : Nat) (hb : b = 8 ∨ b = 16 ∨ b = 20 ∨ b = 25) : andI .i64 x ((2 ^ b - 1 : Nat) : Int) = x % (2 ^ b : Nat) := by
  have e : andI .i64 x ((2 ^ b - 1 : Nat) : Int) = w64 ((Ui x &&& Ui ((2 ^ b - 1 : Nat) : Int) : Nat) : Int) := by
    show IntKind.i64.wrap _ = IntKind.i64.wrap _
    rw [← BitVec.toNat_and]; rfl
  have h1 : Ui ((2 ^ b - 1 : Nat) : Int) = 2 ^ b - 1 := by rcases hb with rfl | rfl | rfl | rfl <;> decide
  rw [e, h1, Nat.and_two_pow_sub_one_eq_mod]
  have := Ui_eq x
  rcases hb with rfl | rfl | rfl | rfl <;> (rw [w64_in (by omega) (by omega)]; omega)
theorem r1_sign_eq (v : Int) (b : Nat) (h : Int) (hb : b = 8 ∨ b = 16 ∨ b = 20 ∨ b = 25) (hh : 2 * h = (2 ^ b : Nat)) : r1_Sign v b = some (sgB h v) := by
  rw [r1_Sign.eq]; unfold r1_Sign_b
  have e1 : IntKind.u64.wrap (b : Int) = b := by rcases hb with rfl | rfl | rfl | rfl <;> decide
  have e2 : shlI .i64 1 (b : Int) = (2 ^ b : Nat) := by rcases hb with rfl | rfl | rfl | rfl <;> decide
  have e3 : w64 (((2 ^ b : Nat) : Int) - 1) = ((2 ^ b - 1 : Nat) : Int) := by rcases hb with rfl | rfl | rfl | rfl <;> decide
  have e4 : w64 (Int.tdiv ((2 ^ b : Nat) : Int) 2) = h := by
    rw [← hh, Int.mul_comm, Int.mul_tdiv_cancel _ (by decide)]
    rcases hb with rfl | rfl | rfl | rfl <;> exact w64_in (by omega) (by omega)
  rw [e1, e2, e3, e4, and_mask v b hb, show decide (0 ≤ (b : Int)) = true from decide_eq_true (by omega), cond_true]
  unfold sgB
  rw [hh]
  have hm : 0 ≤ v % ((2 ^ b : Nat) : Int) ∧ v % ((2 ^ b : Nat) : Int) < 4294967296 := by rcases hb with rfl | rfl | rfl | rfl <;> constructor <;> omega
  have hp : (0 : Int) < ((2 ^ b : Nat) : Int) ∧ ((2 ^ b : Nat) : Int) < 4294967296 := by rcases hb with rfl | rfl | rfl | rfl <;> constructor <;> omega
  generalize v % ((2 ^ b : Nat) : Int) = y at hm
  generalize ((2 ^ b : Nat) : Int) = z at hp
  by_cases c : y < h
  · rw [if_pos c, show decide (y ≥ h) = false from decide_eq_false (by omega)]; rfl
  · rw [if_neg c, show decide (y ≥ h) = true from decide_eq_true (by omega), cond_true, w64_in (by omega) (by omega)]
theorem imm_sign_eq (v : Int) (b : Nat) (h k : Int) (n : Nat) (hb : (b = 8 ∧ h = 128 ∧ k = 72057594037927936 ∧ n = 56) ∨ (b = 16 ∧ h = 32768 ∧ k = 281474976710656 ∧ n = 48) ∨ (b = 20 ∧ h = 524288 ∧ k = 17592186044416 ∧ n = 44) ∨ (b = 25 ∧ h = 16777216 ∧ k = 549755813888 ∧ n = 39)) : imm_Sign v b = some (sgB h v) := by
  rw [imm_Sign.eq]; unfold imm_Sign_b
  have e : w64 (64 - (if (64 : Int) < (if (1 : Int) > (b : Int) then (1 : Int) else (b : Int)) then (64 : Int) else (if (1 : Int) > (b : Int) then (1 : Int) else (b : Int)))) = (n : Int) := by rcases hb with ⟨rfl, _, _, rfl⟩ | ⟨rfl, _, _, rfl⟩ | ⟨rfl, _, _, rfl⟩ | ⟨rfl, _, _, rfl⟩ <;> decide
  rw [e, show decide (0 ≤ (n : Int)) = true from decide_eq_true (by omega), cond_true]
  congr 1
  unfold shlI shrI
  have ek : ((2 : Int) ^ (min (Int.toNat (n : Int)) IntKind.i64.bits)) = k := by rcases hb with ⟨_, _, rfl, rfl⟩ | ⟨_, _, rfl, rfl⟩ | ⟨_, _, rfl, rfl⟩ | ⟨_, _, rfl, rfl⟩ <;> rfl
  rw [ek, Int.fdiv_eq_ediv_of_nonneg _ (by rcases hb with ⟨_, _, rfl, _⟩ | ⟨_, _, rfl, _⟩ | ⟨_, _, rfl, _⟩ | ⟨_, _, rfl, _⟩ <;> decide)]
  have hw : ∀ z : Int, IntKind.i64.wrap z = z % 18446744073709551616 - (if z % 18446744073709551616 ≥ 9223372036854775808 then 18446744073709551616 else 0) := by
    intro z
    unfold IntKind.wrap; simp [IntKind.bits, IntKind.signed]; split <;> omega
  rw [hw]; unfold sgB
  rcases hb with ⟨_, rfl, rfl, _⟩ | ⟨_, rfl, rfl, _⟩ | ⟨_, rfl, rfl, _⟩ | ⟨_, rfl, rfl, _⟩ <;> (split <;> split <;> omega)
theorem sign_8 (v : Int) : imm_Sign v 8 = r1_Sign v 8 := (imm_sign_eq v 8 128 _ _ (.inl ⟨rfl, rfl, rfl, rfl⟩)).trans (r1_sign_eq v 8 128 (by simp) (by decide)).symm
theorem sign_16 (v : Int) : imm_Sign v 16 = r1_Sign v 16 := (imm_sign_eq v 16 32768 _ _ (.inr (.inl ⟨rfl, rfl, rfl, rfl⟩))).trans (r1_sign_eq v 16 32768 (by simp) (by decide)).symm
theorem sign_20 (v : Int) : imm_Sign v 20 = r1_Sign v 20 := (imm_sign_eq v 20 524288 _ _ (.inr (.inr (.inl ⟨rfl, rfl, rfl, rfl⟩)))).trans (r1_sign_eq v 20 524288 (by simp) (by decide)).symm
theorem sign_25 (v : Int) : imm_Sign v 25 = r1_Sign v 25 := (imm_sign_eq v 25 16777216 _ _ (.inr (.inr (.inr ⟨rfl, rfl, rfl, rfl⟩)))).trans (r1_sign_eq v 25 16777216 (by simp) (by decide)).symm
end Go.Ab
set_option maxRecDepth 100000
namespace Go.Ab
theorem sgB_in (h v : Int) (hh : 0 < h ∧ h < 4294967296) : inI (sgB h v) := by
  have h1 := Int.emod_nonneg v (by omega : 2 * h ≠ 0)
  have h2 := Int.emod_lt_of_pos v (by omega : 0 < 2 * h)
  show -9223372036854775808 ≤ sgB h v ∧ sgB h v ≤ 9223372036854775807
  unfold sgB; split <;> constructor <;> omega
theorem w64_u {u : Int} (hu : inU u) : w64 u = u := w64_in (by omega) (by omega)
theorem takes_S16 (u : Int) (hu : inU u) : Takes s_S16 u := by
  obtain ⟨p, hp⟩ := plN s_S16 ⟨20, ⟨0, 0, 0, 0⟩, by kernel_rfl⟩
  have h1 := imm_sign_eq u 16 32768 _ _ (.inr (.inl ⟨rfl, rfl, rfl, rfl⟩))
  refine ⟨sgB 32768 u, ?_, ?_, sgB_in _ _ (by decide)⟩
  · rw [isa_get.eq]; unfold isa_get_b
    rw [hp, Option.bind_some, cond_false]
    refine Eq.trans (b := (imm_Sign (w64 u) 16).bind fun r => some r) (by kernel_rfl) ?_
    rw [w64_u hu]; exact (congrArg (fun x => Option.bind x _) h1).trans rfl
  · refine (r2_take.eq _ _).trans (Eq.trans (b := (r2_takes s_S16 u).bind fun r => some r) (by kernel_rfl) ?_)
    rw [show r2_takes s_S16 u = (r1_Sign u 16).bind fun r => some r from (r2_takes.eq _ _).trans (by kernel_rfl), ← sign_16]
    exact (congrArg (fun x => Option.bind (Option.bind x _) _) h1).trans rfl
theorem takes_T8 (u : Int) (hu : inU u) : Takes s_T8 u := by
  obtain ⟨p, hp⟩ := plN s_T8 ⟨20, ⟨0, 0, 0, 0⟩, by kernel_rfl⟩
  have h1 := imm_sign_eq u 8 128 _ _ (.inl ⟨rfl, rfl, rfl, rfl⟩)
  have hr : -128 ≤ sgB 128 u ∧ sgB 128 u < 128 := by unfold sgB; split <;> omega
  refine ⟨w64 (2 * sgB 128 u), ?_, ?_, ?_⟩
  · rw [isa_get.eq]; unfold isa_get_b
    rw [hp, Option.bind_some, cond_false]
    refine Eq.trans (b := (imm_Sign (w64 u) 8).bind fun r => some (w64 (2 * r))) (by kernel_rfl) ?_
    rw [w64_u hu]; exact (congrArg (fun x => Option.bind x _) h1).trans rfl
  · refine (r2_take.eq _ _).trans (Eq.trans (b := (r1_Sign u 8).bind fun r => some (w64 (2 * r))) (by kernel_rfl) ?_)
    rw [← sign_8]
    exact (congrArg (fun x => Option.bind x _) h1).trans rfl
  · rw [w64_in (by omega) (by omega)]; exact ⟨show -9223372036854775808 ≤ 2 * sgB 128 u by omega, show 2 * sgB 128 u ≤ 9223372036854775807 by omega⟩
theorem takes_L20 (u : Int) (hu : inU u) : Takes s_L20 u := by
  obtain ⟨p, hp⟩ := plN s_L20 ⟨20, ⟨0, 0, 0, 0⟩, by kernel_rfl⟩
  have hj : ∀ a b c : Int, ∃ r, imm_Joined a b c = some r ∧ r1_Joined a b c = some r ∧ inI r := by
    intro a b c
    rw [imm_Joined.eq, r1_Joined.eq]; unfold imm_Joined_b r1_Joined_b
    rw [← sign_20]
    generalize orI .i64 (orI .i64 (shlI .i64 a 16) (shlI .i64 b 11)) c = z
    have h1 : imm_Sign z 20 = _ := imm_sign_eq z 20 524288 _ _ (.inr (.inr (.inl ⟨rfl, rfl, rfl, rfl⟩)))
    rw [h1]; exact ⟨_, rfl, rfl, sgB_in _ _ (by decide)⟩
  obtain ⟨r, j1, j2, j3⟩ := hj (andI .i64 (shrI .i64 u 11) 15) (andI .i64 (shrI .i64 u 16) 31) (andI .i64 u 2047)
  refine ⟨r, ?_, ?_, j3⟩
  · rw [isa_get.eq]; unfold isa_get_b
    rw [hp, Option.bind_some, cond_false]
    refine Eq.trans (b := (imm_Joined (andI .i64 (shrI .i64 (w64 u) 11) 15) (andI .i64 (shrI .i64 (w64 u) 16) 31) (andI .i64 (w64 u) 2047)).bind fun r => some r) (by kernel_rfl) ?_
    rw [w64_u hu, j1]; rfl
  · refine (r2_take.eq _ _).trans (Eq.trans (b := (r2_takes s_L20 u).bind fun r => some r) (by kernel_rfl) ?_)
    rw [show r2_takes s_L20 u = (r1_Joined (andI .i64 (shrI .i64 u 11) 15) (andI .i64 (shrI .i64 u 16) 31) (andI .i64 u 2047)).bind fun r => some r from (r2_takes.eq _ _).trans (by kernel_rfl), j2]; rfl
theorem takes_C8 (u : Int) (hu : inU u) : Takes s_C8 u := by
  obtain ⟨p, hp⟩ := plN s_C8 ⟨20, ⟨0, 0, 0, 0⟩, by kernel_rfl⟩
  have hj : ∀ x y z : Int, ∃ r, imm_Back (andI .i64 x 1) (andI .i64 y 3) (andI .i64 z 255) = some r ∧ r1_Back (andI .i64 x 1) (andI .i64 y 3) (andI .i64 z 255) = some r ∧ inI r := by
    intro x y z
    rw [andI_1, andI_3, andI_255]
    have hz : byt (z % 256) := ⟨by omega, by omega⟩
    have h := back_eq (decide (x % 2 = 1)) (y % 4).toNat hz
    have h' := r1_back_eq (decide (x % 2 = 1)) (y % 4).toNat hz
    have e1 : (if decide (x % 2 = 1) = true then (1 : Int) else 0) = x % 2 := by
      by_cases h : x % 2 = 1
      · rw [decide_eq_true h]; simp [h]
      · rw [decide_eq_false h]; simp; omega
    rw [e1, Int.toNat_of_nonneg (by omega)] at h h'
    have hb := bk_range (decide (x % 2 = 1)) (y % 4).toNat hz
    refine ⟨_, h, h', ?_⟩
    show -9223372036854775808 ≤ _ ∧ _ ≤ 9223372036854775807
    unfold sgn32; split <;> constructor <;> omega
  obtain ⟨r, j1, j2, j3⟩ := hj (shrI .i64 u 10) (shrI .i64 u 8) u
  refine ⟨r, ?_, ?_, j3⟩
  · rw [isa_get.eq]; unfold isa_get_b
    rw [hp, Option.bind_some, cond_false]
    refine Eq.trans (b := (imm_Back (andI .i64 (shrI .i64 (w64 u) 10) 1) (andI .i64 (shrI .i64 (w64 u) 8) 3) (andI .i64 (w64 u) 255)).bind fun r => some r) (by kernel_rfl) ?_
    rw [w64_u hu, j1]; rfl
  · refine (r2_take.eq _ _).trans (Eq.trans (b := (r2_takes s_C8 u).bind fun r => some r) (by kernel_rfl) ?_)
    rw [show r2_takes s_C8 u = (r1_Back (andI .i64 (shrI .i64 u 10) 1) (andI .i64 (shrI .i64 u 8) 3) (andI .i64 u 255)).bind fun r => some r from (r2_takes.eq _ _).trans (by kernel_rfl), j2]; rfl
end Go.Ab
