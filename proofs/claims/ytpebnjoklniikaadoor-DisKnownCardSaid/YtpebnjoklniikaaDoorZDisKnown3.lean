/- DisKnown: part 3 of the proof that, whatever the input, the law returns true and the input reads as it did; its conditions are those of the given row. -/
import Derived.Test.YtpebnjoklniikaaDoorZDisKnown2
import Derived.Handed
import Derived.Test.YtpebnjoklniikaaDoorFl
import Derived.Tactics
import Derived.WalkLawsBesides
import Derived.RowKit3
import Derived.Laws.BitsLemmas
import Derived.Test.YtpebnjoklniikaaDoorSh
import Derived.Test.YtpebnjoklniikaaDoorRows
import Derived.LaidMore
import Derived.MakeChecks
import Derived.Lib.AppendIntMem
import Derived.Shelf.Vars
import Derived.WalkKit
import Derived.Deep.LoopGhost
import Derived.Lib.Walk
import Derived.Lib.SliceRun
import Derived.Test.YtpebnjoklniikaaDoorTie
import Derived.Test.YtpebnjoklniikaaDoorCards
import Derived.ProofKit
import Derived.OpenShut
import Derived.Stop.Joined
import Derived.Lay
import Derived.SevenTiedAt
set_option linter.unusedVariables false
set_option linter.unusedSimpArgs false
namespace Go.Ab
open Go.Proofs
def dis_reader_next_b (c_isa_Decode : (List Int) → Option (T_api_Inst × Int × Bool)) (c_dis_instruction : T_api_Inst → Option ByteArray) (c_dis_reader_next_1 : Int → ByteArray → T_dis_reader → Option (ByteArray × Bool × T_dis_reader)) (c_strconv_Itoa : Int → Option ByteArray) (h0 : T_dis_reader) : Option (ByteArray × Bool × T_dis_reader) := (bif ((((h0.b.length) : Nat) : Int) == (0 : Int)) then (some (s_, false, h0)) else ((c_isa_Decode h0.b).bind fun (r1 : (T_api_Inst × Int × Bool)) => (bif r1.2.2 then ((c_dis_instruction r1.1).bind fun (r2 : ByteArray) => ((c_dis_reader_next_1 r1.2.1 r2 h0).bind fun (r3 : (ByteArray × Bool × T_dis_reader)) => (some (r3.1, r3.2.1, r3.2.2)))) else (bif ((((h0.b.length) : Nat) : Int) == (1 : Int)) then ((h0.b[(Int.toNat (0 : Int))]?).bind fun (e4 : Int) => ((c_strconv_Itoa (w64 e4)).bind fun (r5 : ByteArray) => (bif (decide (((h_2e6279746520.size + r5.size : Nat) : Int) ≤ IntKind.i64.max)) then ((c_dis_reader_next_1 (1 : Int) (h_2e6279746520 ++ r5) h0).bind fun (r6 : (ByteArray × Bool × T_dis_reader)) => (some (r6.1, r6.2.1, r6.2.2))) else none))) else ((h0.b[(Int.toNat (0 : Int))]?).bind fun (e7 : Int) => ((h0.b[(Int.toNat (1 : Int))]?).bind fun (e8 : Int) => ((c_strconv_Itoa (orI .i64 (shlI .i64 (w64 e7) (8 : Int)) (w64 e8))).bind fun (r9 : ByteArray) => (bif (decide (((h_2e68616c6620.size + r9.size : Nat) : Int) ≤ IntKind.i64.max)) then ((c_dis_reader_next_1 (2 : Int) (h_2e68616c6620 ++ r9) h0).bind fun (r10 : (ByteArray × Bool × T_dis_reader)) => (some (r10.1, r10.2.1, r10.2.2))) else none))))))))
def dis_reader_next_t (P : Program) (call : CallF) (c_isa_Decode : (List Int) → Option (T_api_Inst × Int × Bool)) (c_dis_instruction : T_api_Inst → Option ByteArray) (c_dis_reader_next_1 : Int → ByteArray → T_dis_reader → Option (ByteArray × Bool × T_dis_reader)) (c_strconv_Itoa : Int → Option ByteArray) (h0 : T_dis_reader) : Tr (ByteArray × Bool × T_dis_reader) (AV × Heap) := (.num ((R_u8 h0.b).length) (h0.b.length) (.as ((((h0.b.length) : Nat) : Int) == (0 : Int)) (rt dis_reader_next_e (s_, false, h0)) (.call (call 18 [.sl (R_u8 h0.b)] []) (c_isa_Decode h0.b) isa_Decode_e fun (r1 : (T_api_Inst × Int × Bool)) => (.as r1.2.2 (.call (call 19 [.agg (C_api_Inst r1.1)] []) (c_dis_instruction r1.1) dis_instruction_e fun (r2 : ByteArray) => (.call (call 17 [.sc (.int .i64 r1.2.1), .sc (.string r2), .ptr 0 0] [(0, .box [] [.ptr 1 0]), (1, .box [] (C_dis_reader h0))]) (c_dis_reader_next_1 r1.2.1 r2 h0) dis_reader_next_1_e fun (r3 : (ByteArray × Bool × T_dis_reader)) => (rt dis_reader_next_e (r3.1, r3.2.1, r3.2.2)))) (.num ((R_u8 h0.b).length) (h0.b.length) (.as ((((h0.b.length) : Nat) : Int) == (1 : Int)) (.yes (decide (0 ≤ (0 : Int))) (.row ((R_u8 h0.b)[(Int.toNat (0 : Int))]?) (h0.b[(Int.toNat (0 : Int))]?) C_u8 fun (e4 : Int) => (.call (call 20 [.sc (.int .i64 (w64 e4))] []) (c_strconv_Itoa (w64 e4)) strconv_Itoa_e fun (r5 : ByteArray) => (.as (decide (((h_2e6279746520.size + r5.size : Nat) : Int) ≤ IntKind.i64.max)) (.call (call 17 [.sc (.int .i64 (1 : Int)), .sc (.string (h_2e6279746520 ++ r5)), .ptr 0 0] [(0, .box [] [.ptr 1 0]), (1, .box [] (C_dis_reader h0))]) (c_dis_reader_next_1 (1 : Int) (h_2e6279746520 ++ r5) h0) dis_reader_next_1_e fun (r6 : (ByteArray × Bool × T_dis_reader)) => (rt dis_reader_next_e (r6.1, r6.2.1, r6.2.2))) .fail)))) (.yes (decide (0 ≤ (0 : Int))) (.row ((R_u8 h0.b)[(Int.toNat (0 : Int))]?) (h0.b[(Int.toNat (0 : Int))]?) C_u8 fun (e7 : Int) => (.yes (decide (0 ≤ (8 : Int))) (.yes (decide (0 ≤ (1 : Int))) (.row ((R_u8 h0.b)[(Int.toNat (1 : Int))]?) (h0.b[(Int.toNat (1 : Int))]?) C_u8 fun (e8 : Int) => (.call (call 20 [.sc (.int .i64 (orI .i64 (shlI .i64 (w64 e7) (8 : Int)) (w64 e8)))] []) (c_strconv_Itoa (orI .i64 (shlI .i64 (w64 e7) (8 : Int)) (w64 e8))) strconv_Itoa_e fun (r9 : ByteArray) => (.as (decide (((h_2e68616c6620.size + r9.size : Nat) : Int) ≤ IntKind.i64.max)) (.call (call 17 [.sc (.int .i64 (2 : Int)), .sc (.string (h_2e68616c6620 ++ r9)), .ptr 0 0] [(0, .box [] [.ptr 1 0]), (1, .box [] (C_dis_reader h0))]) (c_dis_reader_next_1 (2 : Int) (h_2e68616c6620 ++ r9) h0) dis_reader_next_1_e fun (r10 : (ByteArray × Bool × T_dis_reader)) => (rt dis_reader_next_e (r10.1, r10.2.1, r10.2.2))) .fail)))))))))))))
theorem dis_reader_next_d (P : Program) (call : CallF) (c_isa_Decode : (List Int) → Option (T_api_Inst × Int × Bool)) (c_dis_instruction : T_api_Inst → Option ByteArray) (c_dis_reader_next_1 : Int → ByteArray → T_dis_reader → Option (ByteArray × Bool × T_dis_reader)) (c_strconv_Itoa : Int → Option ByteArray) (h0 : T_dis_reader) : (dis_reader_next_t P call c_isa_Decode c_dis_instruction c_dis_reader_next_1 c_strconv_Itoa h0).den = dis_reader_next_b c_isa_Decode c_dis_instruction c_dis_reader_next_1 c_strconv_Itoa h0 := rfl
theorem dis_reader_next_n (call : CallF) (c_isa_Decode : (List Int) → Option (T_api_Inst × Int × Bool)) (c_dis_instruction : T_api_Inst → Option ByteArray) (c_dis_reader_next_1 : Int → ByteArray → T_dis_reader → Option (ByteArray × Bool × T_dis_reader)) (c_strconv_Itoa : Int → Option ByteArray) (h0 : T_dis_reader) : (dis_reader_next_t Tryd.prog call c_isa_Decode c_dis_instruction c_dis_reader_next_1 c_strconv_Itoa h0).norm (bodyT Tryd.prog call G 11 [.ptr 0 0] [(0, .box [] (C_dis_reader h0))]) = dis_reader_next_t Tryd.prog call c_isa_Decode c_dis_instruction c_dis_reader_next_1 c_strconv_Itoa h0 := by kernel_rfl
theorem dis_reader_next_k (P : Program) (call : CallF) (lp : Loops) (c_isa_Decode : (List Int) → Option (T_api_Inst × Int × Bool)) (c_dis_instruction : T_api_Inst → Option ByteArray) (c_dis_reader_next_1 : Int → ByteArray → T_dis_reader → Option (ByteArray × Bool × T_dis_reader)) (c_strconv_Itoa : Int → Option ByteArray) (hc_isa_Decode : ∀ (a0 : (List Int)) (r : (T_api_Inst × Int × Bool)), c_isa_Decode a0 = some r → (call 18 [.sl (R_u8 a0)] []) = some (isa_Decode_e r)) (hc_dis_instruction : ∀ (a0 : T_api_Inst) (r : ByteArray), c_dis_instruction a0 = some r → (call 19 [.agg (C_api_Inst a0)] []) = some (dis_instruction_e r)) (hc_dis_reader_next_1 : ∀ (a0 : Int) (a1 : ByteArray) (h1 : T_dis_reader) (r : (ByteArray × Bool × T_dis_reader)), c_dis_reader_next_1 a0 a1 h1 = some r → (call 17 [.sc (.int .i64 a0), .sc (.string a1), .ptr 0 0] [(0, .box [] [.ptr 1 0]), (1, .box [] (C_dis_reader h1))]) = some (dis_reader_next_1_e r)) (hc_strconv_Itoa : ∀ (a0 : Int) (r : ByteArray), c_strconv_Itoa a0 = some r → (call 20 [.sc (.int .i64 a0)] []) = some (strconv_Itoa_e r)) (h0 : T_dis_reader) : (dis_reader_next_t P call c_isa_Decode c_dis_instruction c_dis_reader_next_1 c_strconv_Itoa h0).ok lp dis_reader_next_e := ⟨(R_u8_len _), ⟨rfl, fun hq0 => rfl, fun hq0 => fun r1 hr1 => ⟨hc_isa_Decode _ _ hr1, ⟨rfl, fun hq1 => fun r2 hr2 => ⟨hc_dis_instruction _ _ hr2, fun r3 hr3 => ⟨hc_dis_reader_next_1 _ _ _ _ hr3, rfl⟩⟩, fun hq1 => ⟨(R_u8_len _), ⟨rfl, fun hq2 => ⟨rfl, fun e4 he4 => ⟨R_u8_get he4, fun r5 hr5 => ⟨hc_strconv_Itoa _ _ hr5, ⟨rfl, fun hq3 => fun r6 hr6 => ⟨hc_dis_reader_next_1 _ _ _ _ hr6, rfl⟩, fun hq3 => trivial⟩⟩⟩⟩, fun hq2 => ⟨rfl, fun e7 he7 => ⟨R_u8_get he7, ⟨rfl, ⟨rfl, fun e8 he8 => ⟨R_u8_get he8, fun r9 hr9 => ⟨hc_strconv_Itoa _ _ hr9, ⟨rfl, fun hq3 => fun r10 hr10 => ⟨hc_dis_reader_next_1 _ _ _ _ hr10, rfl⟩, fun hq3 => trivial⟩⟩⟩⟩⟩⟩⟩⟩⟩⟩⟩⟩⟩
theorem dis_reader_next_m {c_isa_Decode d_isa_Decode : (List Int) → Option (T_api_Inst × Int × Bool)} (h_isa_Decode : ∀ (a0 : (List Int)), Le (c_isa_Decode a0) (d_isa_Decode a0)) {c_dis_instruction d_dis_instruction : T_api_Inst → Option ByteArray} (h_dis_instruction : ∀ (a0 : T_api_Inst), Le (c_dis_instruction a0) (d_dis_instruction a0)) {c_dis_reader_next_1 d_dis_reader_next_1 : Int → ByteArray → T_dis_reader → Option (ByteArray × Bool × T_dis_reader)} (h_dis_reader_next_1 : ∀ (a0 : Int) (a1 : ByteArray) (h1 : T_dis_reader), Le (c_dis_reader_next_1 a0 a1 h1) (d_dis_reader_next_1 a0 a1 h1)) {c_strconv_Itoa d_strconv_Itoa : Int → Option ByteArray} (h_strconv_Itoa : ∀ (a0 : Int), Le (c_strconv_Itoa a0) (d_strconv_Itoa a0)) (h0 : T_dis_reader) : Le (dis_reader_next_b c_isa_Decode c_dis_instruction c_dis_reader_next_1 c_strconv_Itoa h0) (dis_reader_next_b d_isa_Decode d_dis_instruction d_dis_reader_next_1 d_strconv_Itoa h0) := by
  unfold dis_reader_next_b
  exact .cond (.refl _) (.bind (h_isa_Decode _) fun r1 => .cond (.bind (h_dis_instruction _) fun r2 => .bind (h_dis_reader_next_1 _ _ _) fun r3 => .refl _) (.cond (.bind (.refl (h0.b[(Int.toNat (0 : Int))]?)) fun e4 => .bind (h_strconv_Itoa _) fun r5 => .cond (.bind (h_dis_reader_next_1 _ _ _) fun r6 => .refl _) (.refl _)) (.bind (.refl (h0.b[(Int.toNat (0 : Int))]?)) fun e7 => .bind (.refl (h0.b[(Int.toNat (1 : Int))]?)) fun e8 => .bind (h_strconv_Itoa _) fun r9 => .cond (.bind (h_dis_reader_next_1 _ _ _) fun r10 => .refl _) (.refl _))))
theorem dis_reader_next_c {c_isa_Decode : Nat → (List Int) → Option (T_api_Inst × Int × Bool)} {d_isa_Decode : (List Int) → Option (T_api_Inst × Int × Bool)} (h_isa_Decode : ∀ (a0 : (List Int)), Cv (fun k => c_isa_Decode k a0) (d_isa_Decode a0)) {c_dis_instruction : Nat → T_api_Inst → Option ByteArray} {d_dis_instruction : T_api_Inst → Option ByteArray} (h_dis_instruction : ∀ (a0 : T_api_Inst), Cv (fun k => c_dis_instruction k a0) (d_dis_instruction a0)) {c_dis_reader_next_1 : Nat → Int → ByteArray → T_dis_reader → Option (ByteArray × Bool × T_dis_reader)} {d_dis_reader_next_1 : Int → ByteArray → T_dis_reader → Option (ByteArray × Bool × T_dis_reader)} (h_dis_reader_next_1 : ∀ (a0 : Int) (a1 : ByteArray) (h1 : T_dis_reader), Cv (fun k => c_dis_reader_next_1 k a0 a1 h1) (d_dis_reader_next_1 a0 a1 h1)) {c_strconv_Itoa : Nat → Int → Option ByteArray} {d_strconv_Itoa : Int → Option ByteArray} (h_strconv_Itoa : ∀ (a0 : Int), Cv (fun k => c_strconv_Itoa k a0) (d_strconv_Itoa a0)) (h0 : T_dis_reader) : Cv (fun k => dis_reader_next_b (c_isa_Decode k) (c_dis_instruction k) (c_dis_reader_next_1 k) (c_strconv_Itoa k) h0) (dis_reader_next_b d_isa_Decode d_dis_instruction d_dis_reader_next_1 d_strconv_Itoa h0) := by
  unfold dis_reader_next_b
  exact .cond (by exact .const _) (.bind (h_isa_Decode _) fun r1 => .cond (.bind (h_dis_instruction _) fun r2 => .bind (h_dis_reader_next_1 _ _ _) fun r3 => by exact .const _) (.cond (.bind (.const (h0.b[(Int.toNat (0 : Int))]?)) fun e4 => .bind (h_strconv_Itoa _) fun r5 => .cond (.bind (h_dis_reader_next_1 _ _ _) fun r6 => by exact .const _) (by exact .const _)) (.bind (.const (h0.b[(Int.toNat (0 : Int))]?)) fun e7 => .bind (.const (h0.b[(Int.toNat (1 : Int))]?)) fun e8 => .bind (h_strconv_Itoa _) fun r9 => .cond (.bind (h_dis_reader_next_1 _ _ _) fun r10 => by exact .const _) (by exact .const _))))
def dis_reader_next.s : Nat → T_dis_reader → Option (ByteArray × Bool × T_dis_reader)
  | 0, _ => none
  | k + 1, h0 => dis_reader_next_b (fun a0 => isa_Decode.s k a0) (fun a0 => dis_instruction.s k a0) (fun a0 a1 h1 => dis_reader_next_1.s k a0 a1 h1) (fun a0 => strconv_Itoa.s k a0) h0
theorem dis_reader_next.ok : ∀ (k : Nat), ∀ (h0 : T_dis_reader) (r : (ByteArray × Bool × T_dis_reader)), dis_reader_next.s k h0 = some r → evalFn Tryd.prog G k 11 [.ptr 0 0] [(0, .box [] (C_dis_reader h0))] = some (dis_reader_next_e r)
  | 0, _, _, h => (nomatch h)
  | k + 1, h0, r, h => fn_ok rfl (dis_reader_next_t Tryd.prog (evalFn Tryd.prog G k) (fun a0 => isa_Decode.s k a0) (fun a0 => dis_instruction.s k a0) (fun a0 a1 h1 => dis_reader_next_1.s k a0 a1 h1) (fun a0 => strconv_Itoa.s k a0) h0) (dis_reader_next_n _ (fun a0 => isa_Decode.s k a0) (fun a0 => dis_instruction.s k a0) (fun a0 a1 h1 => dis_reader_next_1.s k a0 a1 h1) (fun a0 => strconv_Itoa.s k a0) h0) (dis_reader_next_k _ _ _ (fun a0 => isa_Decode.s k a0) (fun a0 => dis_instruction.s k a0) (fun a0 a1 h1 => dis_reader_next_1.s k a0 a1 h1) (fun a0 => strconv_Itoa.s k a0) (isa_Decode.ok k) (dis_instruction.ok k) (dis_reader_next_1.ok k) (strconv_Itoa.ok k)  h0) ((dis_reader_next_d _ _ (fun a0 => isa_Decode.s k a0) (fun a0 => dis_instruction.s k a0) (fun a0 a1 h1 => dis_reader_next_1.s k a0 a1 h1) (fun a0 => strconv_Itoa.s k a0) h0).trans h)
theorem dis_reader_next.mono : ∀ (k : Nat) (h0 : T_dis_reader), Le (dis_reader_next.s k h0) (dis_reader_next.s (k + 1) h0)
  | 0, _ => fun r h => (nomatch h)
  | k + 1, h0 => dis_reader_next_m (isa_Decode.mono k) (dis_instruction.mono k) (dis_reader_next_1.mono k) (strconv_Itoa.mono k) h0
noncomputable def dis_reader_next (h0 : T_dis_reader) : Option (ByteArray × Bool × T_dis_reader) := lim fun k => dis_reader_next.s k h0
theorem dis_reader_next.cv (h0 : T_dis_reader) : Cv (fun k => dis_reader_next.s k h0) (dis_reader_next h0) := .lim fun k => dis_reader_next.mono k h0
theorem dis_reader_next.eq (h0 : T_dis_reader) : dis_reader_next h0 = dis_reader_next_b isa_Decode dis_instruction dis_reader_next_1 strconv_Itoa h0 := Cv.uniq (dis_reader_next.cv h0).shift (dis_reader_next_c isa_Decode.cv dis_instruction.cv dis_reader_next_1.cv strconv_Itoa.cv h0)
def dis_List_1_e (r : (List ByteArray)) : AV × Heap := (.tup [], [(0, .box [1] [.arr 2]), (2, .arr true 1 (R_string r))])
def dis_List_1_b  (a0 : ByteArray) (h0 : (List ByteArray)) : Option (List ByteArray) := (bif (decide ((h0.length + [a0].length) * 16 ≤ most)) then (some (h0 ++ [a0])) else none)
def dis_List_1_t (P : Program) (call : CallF)  (a0 : ByteArray) (h0 : (List ByteArray)) : Tr (List ByteArray) (AV × Heap) := (.rows [[.sc (.string a0)]] (R_string [a0]) (.yes (decide ((R_string [a0]).all (fun r => r.length == 1) = true)) (.ask (decide (((R_string h0).length + (R_string [a0]).length) * 16 ≤ most)) (decide ((h0.length + [a0].length) * 16 ≤ most)) (.rows ((R_string h0) ++ (R_string [a0])) (R_string (h0 ++ [a0])) (rt dis_List_1_e (h0 ++ [a0]))) .fail)))
theorem dis_List_1_d (P : Program) (call : CallF)  (a0 : ByteArray) (h0 : (List ByteArray)) : (dis_List_1_t P call  a0 h0).den = dis_List_1_b  a0 h0 := rfl
theorem dis_List_1_n (call : CallF)  (a0 : ByteArray) (h0 : (List ByteArray)) : (dis_List_1_t Tryd.prog call  a0 h0).norm (bodyT Tryd.prog call G 12 [.sc (.string a0), .ptr 0 0] [(0, .box [1] [.arr 1]), (1, .arr true 1 (R_string h0))]) = dis_List_1_t Tryd.prog call  a0 h0 := by kernel_rfl
theorem dis_List_1_k (P : Program) (call : CallF) (lp : Loops)   (a0 : ByteArray) (h0 : (List ByteArray)) : (dis_List_1_t P call  a0 h0).ok lp dis_List_1_e := ⟨(R_string_map [a0]), ⟨(decide_eq_true (R_string_all _)), ⟨(by rw [R_string_len, R_string_len]), fun hq0 => ⟨(R_string_append _ _), rfl⟩, fun hq0 => trivial⟩⟩⟩
def dis_List_1.s : Nat → ByteArray → (List ByteArray) → Option (List ByteArray)
  | 0, _, _ => none
  | k + 1, a0, h0 => dis_List_1_b  a0 h0
theorem dis_List_1.ok : ∀ (k : Nat), ∀ (a0 : ByteArray) (h0 : (List ByteArray)) (r : (List ByteArray)), dis_List_1.s k a0 h0 = some r → evalFn Tryd.prog G k 12 [.sc (.string a0), .ptr 0 0] [(0, .box [1] [.arr 1]), (1, .arr true 1 (R_string h0))] = some (dis_List_1_e r)
  | 0, _, _, _, h => (nomatch h)
  | k + 1, a0, h0, r, h => fn_ok rfl (dis_List_1_t Tryd.prog (evalFn Tryd.prog G k)  a0 h0) (dis_List_1_n _  a0 h0) (dis_List_1_k _ _ _    a0 h0) ((dis_List_1_d _ _  a0 h0).trans h)
theorem dis_List_1.mono : ∀ (k : Nat) (a0 : ByteArray) (h0 : (List ByteArray)), Le (dis_List_1.s k a0 h0) (dis_List_1.s (k + 1) a0 h0)
  | 0, _, _ => fun r h => (nomatch h)
  | k + 1, a0, h0 => .refl _
noncomputable def dis_List_1 (a0 : ByteArray) (h0 : (List ByteArray)) : Option (List ByteArray) := lim fun k => dis_List_1.s k a0 h0
theorem dis_List_1.cv (a0 : ByteArray) (h0 : (List ByteArray)) : Cv (fun k => dis_List_1.s k a0 h0) (dis_List_1 a0 h0) := .lim fun k => dis_List_1.mono k a0 h0
theorem dis_List_1.eq (a0 : ByteArray) (h0 : (List ByteArray)) : dis_List_1 a0 h0 = dis_List_1_b  a0 h0 := Cv.uniq (dis_List_1.cv a0 h0).shift (by exact .const _)
def dis_each_e (r : (T_dis_reader × (List ByteArray))) : AV × Heap := (.tup [], [(0, .box [] (C_dis_reader r.1)), (1, .box [1] [.arr 3]), (3, .arr true 1 (R_string r.2))])
structure dis_each_L1_A where
  x4 : ByteArray
  x5 : Bool
  h0 : T_dis_reader
  h1 : (List ByteArray)
structure dis_each_L1_O0 where
  h0 : T_dis_reader
  h1 : (List ByteArray)
def dis_each_L1_s (a : dis_each_L1_A) : St := { n := 20, nx := 4, env := [(0, .fn (.func 11) [.ptr 0 0] []), (1, .fn (.func 12) [] [.ptr 1 0]), (4, .sc (.string a.x4)), (5, .sc (.bool a.x5))], heap := [(0, .box [] (C_dis_reader a.h0)), (1, .box [1] [.arr 3]), (3, .arr true 1 (R_string a.h1))] }
def dis_each_L1_e (a : dis_each_L1_O0) : Ex × St := (.exit 0, { n := 20, nx := 4, env := [], heap := [(0, .box [] (C_dis_reader a.h0)), (1, .box [1] [.arr 3]), (3, .arr true 1 (R_string a.h1))] })
def dis_each_L1_b (c_dis_List_1 : ByteArray → (List ByteArray) → Option (List ByteArray)) (c_dis_reader_next : T_dis_reader → Option (ByteArray × Bool × T_dis_reader)) (a : dis_each_L1_A) : Option (dis_each_L1_A ⊕ dis_each_L1_O0) := (bif a.x5 then ((c_dis_List_1 a.x4 a.h1).bind fun (r1 : (List ByteArray)) => ((c_dis_reader_next a.h0).bind fun (r2 : (ByteArray × Bool × T_dis_reader)) => (some (.inl (dis_each_L1_A.mk r2.1 r2.2.1 r2.2.2 r1))))) else (some (.inr (dis_each_L1_O0.mk a.h0 a.h1))))
def dis_each_L1_t (P : Program) (call : CallF) (c_dis_List_1 : ByteArray → (List ByteArray) → Option (List ByteArray)) (c_dis_reader_next : T_dis_reader → Option (ByteArray × Bool × T_dis_reader)) (a : dis_each_L1_A) : Tr (dis_each_L1_A ⊕ dis_each_L1_O0) (Ex × St) := (.as a.x5 (.call (call 12 [.sc (.string a.x4), .ptr 0 0] [(0, .box [1] [.arr 1]), (1, .arr true 1 (R_string a.h1))]) (c_dis_List_1 a.x4 a.h1) dis_List_1_e fun (r1 : (List ByteArray)) => (.call (call 11 [.ptr 0 0] [(0, .box [] (C_dis_reader a.h0))]) (c_dis_reader_next a.h0) dis_reader_next_e fun (r2 : (ByteArray × Bool × T_dis_reader)) => (lf dis_each_L1_s (dis_each_L1_A.mk r2.1 r2.2.1 r2.2.2 r1)))) (rx dis_each_L1_e (dis_each_L1_O0.mk a.h0 a.h1)))
theorem dis_each_L1_d (P : Program) (call : CallF) (c_dis_List_1 : ByteArray → (List ByteArray) → Option (List ByteArray)) (c_dis_reader_next : T_dis_reader → Option (ByteArray × Bool × T_dis_reader)) (a : dis_each_L1_A) : (dis_each_L1_t P call c_dis_List_1 c_dis_reader_next a).den = dis_each_L1_b c_dis_List_1 c_dis_reader_next a := rfl
theorem dis_each_L1_n (call : CallF) (c_dis_List_1 : ByteArray → (List ByteArray) → Option (List ByteArray)) (c_dis_reader_next : T_dis_reader → Option (ByteArray × Bool × T_dis_reader)) (a : dis_each_L1_A) : (dis_each_L1_t Tryd.prog call c_dis_List_1 c_dis_reader_next a).norm (roundT Tryd.prog G.kd call 3 (G.an 10) (loopAt Tryd.prog 10 1) (dis_each_L1_s a)) = dis_each_L1_t Tryd.prog call c_dis_List_1 c_dis_reader_next a := by kernel_rfl
theorem dis_each_L1_k (P : Program) (call : CallF) (lp : Loops) (c_dis_List_1 : ByteArray → (List ByteArray) → Option (List ByteArray)) (c_dis_reader_next : T_dis_reader → Option (ByteArray × Bool × T_dis_reader)) (hc_dis_List_1 : ∀ (a0 : ByteArray) (h0 : (List ByteArray)) (r : (List ByteArray)), c_dis_List_1 a0 h0 = some r → (call 12 [.sc (.string a0), .ptr 0 0] [(0, .box [1] [.arr 1]), (1, .arr true 1 (R_string h0))]) = some (dis_List_1_e r)) (hc_dis_reader_next : ∀ (h0 : T_dis_reader) (r : (ByteArray × Bool × T_dis_reader)), c_dis_reader_next h0 = some r → (call 11 [.ptr 0 0] [(0, .box [] (C_dis_reader h0))]) = some (dis_reader_next_e r)) (a : dis_each_L1_A) : (dis_each_L1_t P call c_dis_List_1 c_dis_reader_next a).ok lp (Sum.elim (fun a => (.norm, dis_each_L1_s a)) dis_each_L1_e) := ⟨rfl, fun hq0 => fun r1 hr1 => ⟨hc_dis_List_1 _ _ _ hr1, fun r2 hr2 => ⟨hc_dis_reader_next _ _ hr2, rfl⟩⟩, fun hq0 => rfl⟩
theorem dis_each_L1_m {c_dis_List_1 d_dis_List_1 : ByteArray → (List ByteArray) → Option (List ByteArray)} (h_dis_List_1 : ∀ (a0 : ByteArray) (h0 : (List ByteArray)), Le (c_dis_List_1 a0 h0) (d_dis_List_1 a0 h0)) {c_dis_reader_next d_dis_reader_next : T_dis_reader → Option (ByteArray × Bool × T_dis_reader)} (h_dis_reader_next : ∀ (h0 : T_dis_reader), Le (c_dis_reader_next h0) (d_dis_reader_next h0)) (a : dis_each_L1_A) : Le (dis_each_L1_b c_dis_List_1 c_dis_reader_next a) (dis_each_L1_b d_dis_List_1 d_dis_reader_next a) := by
  unfold dis_each_L1_b
  exact .cond (.bind (h_dis_List_1 _ _) fun r1 => .bind (h_dis_reader_next _) fun r2 => .refl _) (.refl _)
theorem dis_each_L1_c {c_dis_List_1 : Nat → ByteArray → (List ByteArray) → Option (List ByteArray)} {d_dis_List_1 : ByteArray → (List ByteArray) → Option (List ByteArray)} (h_dis_List_1 : ∀ (a0 : ByteArray) (h0 : (List ByteArray)), Cv (fun k => c_dis_List_1 k a0 h0) (d_dis_List_1 a0 h0)) {c_dis_reader_next : Nat → T_dis_reader → Option (ByteArray × Bool × T_dis_reader)} {d_dis_reader_next : T_dis_reader → Option (ByteArray × Bool × T_dis_reader)} (h_dis_reader_next : ∀ (h0 : T_dis_reader), Cv (fun k => c_dis_reader_next k h0) (d_dis_reader_next h0)) (a : dis_each_L1_A) : Cv (fun k => dis_each_L1_b (c_dis_List_1 k) (c_dis_reader_next k) a) (dis_each_L1_b d_dis_List_1 d_dis_reader_next a) := by
  unfold dis_each_L1_b
  exact .cond (.bind (h_dis_List_1 _ _) fun r1 => .bind (h_dis_reader_next _) fun r2 => by exact .const _) (by exact .const _)
def dis_each_L1.s (k : Nat) (c_dis_List_1 : ByteArray → (List ByteArray) → Option (List ByteArray)) (c_dis_reader_next : T_dis_reader → Option (ByteArray × Bool × T_dis_reader)) : dis_each_L1_A → Option dis_each_L1_O0 := iter (dis_each_L1_b c_dis_List_1 c_dis_reader_next) k
theorem dis_each_L1_ok (call : CallF) (k : Nat) (c_dis_List_1 : ByteArray → (List ByteArray) → Option (List ByteArray)) (c_dis_reader_next : T_dis_reader → Option (ByteArray × Bool × T_dis_reader)) (hc_dis_List_1 : ∀ (a0 : ByteArray) (h0 : (List ByteArray)) (r : (List ByteArray)), c_dis_List_1 a0 h0 = some r → (call 12 [.sc (.string a0), .ptr 0 0] [(0, .box [1] [.arr 1]), (1, .arr true 1 (R_string h0))]) = some (dis_List_1_e r)) (hc_dis_reader_next : ∀ (h0 : T_dis_reader) (r : (ByteArray × Bool × T_dis_reader)), c_dis_reader_next h0 = some r → (call 11 [.ptr 0 0] [(0, .box [] (C_dis_reader h0))]) = some (dis_reader_next_e r)) (a : dis_each_L1_A) (r : dis_each_L1_O0) (h : dis_each_L1.s k c_dis_List_1 c_dis_reader_next a = some r) : loopsF Tryd.prog G.kd call 3 (G.an 10) k (loopAt Tryd.prog 10 1) (dis_each_L1_s a) = some (dis_each_L1_e r) :=
  loop_ok (fun a => dis_each_L1_t Tryd.prog call c_dis_List_1 c_dis_reader_next a) (fun a => dis_each_L1_d _ call c_dis_List_1 c_dis_reader_next a) (fun a => dis_each_L1_n call c_dis_List_1 c_dis_reader_next a) (fun a => dis_each_L1_k _ call _ c_dis_List_1 c_dis_reader_next hc_dis_List_1 hc_dis_reader_next a) (fun r => nofun) h
theorem dis_each_L1.m {j k : Nat} (hj : j ≤ k) (c_dis_List_1 : ByteArray → (List ByteArray) → Option (List ByteArray)) (c_dis_reader_next : T_dis_reader → Option (ByteArray × Bool × T_dis_reader)) (d_dis_List_1 : ByteArray → (List ByteArray) → Option (List ByteArray)) (d_dis_reader_next : T_dis_reader → Option (ByteArray × Bool × T_dis_reader)) (h_dis_List_1 : ∀ (a0 : ByteArray) (h0 : (List ByteArray)), Le (c_dis_List_1 a0 h0) (d_dis_List_1 a0 h0)) (h_dis_reader_next : ∀ (h0 : T_dis_reader), Le (c_dis_reader_next h0) (d_dis_reader_next h0)) (a : dis_each_L1_A) : Le (dis_each_L1.s j c_dis_List_1 c_dis_reader_next a) (dis_each_L1.s k d_dis_List_1 d_dis_reader_next a) := Le.iter (fun a => dis_each_L1_m h_dis_List_1 h_dis_reader_next a) hj a
noncomputable def dis_each_L1.w (c_dis_List_1 : ByteArray → (List ByteArray) → Option (List ByteArray)) (c_dis_reader_next : T_dis_reader → Option (ByteArray × Bool × T_dis_reader)) : dis_each_L1_A → Option dis_each_L1_O0 := loopW (dis_each_L1_b c_dis_List_1 c_dis_reader_next)
theorem dis_each_L1.cv (c_dis_List_1 : Nat → ByteArray → (List ByteArray) → Option (List ByteArray)) (c_dis_reader_next : Nat → T_dis_reader → Option (ByteArray × Bool × T_dis_reader)) (d_dis_List_1 : ByteArray → (List ByteArray) → Option (List ByteArray)) (d_dis_reader_next : T_dis_reader → Option (ByteArray × Bool × T_dis_reader)) (h_dis_List_1 : ∀ (a0 : ByteArray) (h0 : (List ByteArray)), Cv (fun k => c_dis_List_1 k a0 h0) (d_dis_List_1 a0 h0)) (h_dis_reader_next : ∀ (h0 : T_dis_reader), Cv (fun k => c_dis_reader_next k h0) (d_dis_reader_next h0)) (a : dis_each_L1_A) : Cv (fun k => dis_each_L1.s k (c_dis_List_1 k) (c_dis_reader_next k) a) (dis_each_L1.w d_dis_List_1 d_dis_reader_next a) := Cv.iter (fun a => dis_each_L1_c h_dis_List_1 h_dis_reader_next a) a
def dis_each_b (c_dis_reader_next : T_dis_reader → Option (ByteArray × Bool × T_dis_reader)) (l_dis_each_L1 : dis_each_L1_A → Option dis_each_L1_O0) (h0 : T_dis_reader) (h1 : (List ByteArray)) : Option (T_dis_reader × (List ByteArray)) := ((c_dis_reader_next h0).bind fun (r1 : (ByteArray × Bool × T_dis_reader)) => ((l_dis_each_L1 (dis_each_L1_A.mk r1.1 r1.2.1 r1.2.2 h1)).bind (fun (o2 : dis_each_L1_O0) => (some (o2.h0, o2.h1)))))
def dis_each_t (P : Program) (call : CallF) (c_dis_reader_next : T_dis_reader → Option (ByteArray × Bool × T_dis_reader)) (l_dis_each_L1 : dis_each_L1_A → Option dis_each_L1_O0) (h0 : T_dis_reader) (h1 : (List ByteArray)) : Tr (T_dis_reader × (List ByteArray)) (AV × Heap) := (.call (call 11 [.ptr 0 0] [(0, .box [] (C_dis_reader h0))]) (c_dis_reader_next h0) dis_reader_next_e fun (r1 : (ByteArray × Bool × T_dis_reader)) => (.loop (loopAt P 10 1) (dis_each_L1_s (dis_each_L1_A.mk r1.1 r1.2.1 r1.2.2 h1)) (l_dis_each_L1 (dis_each_L1_A.mk r1.1 r1.2.1 r1.2.2 h1)) dis_each_L1_e (fun (o2 : dis_each_L1_O0) => (rt dis_each_e (o2.h0, o2.h1)))))
theorem dis_each_d (P : Program) (call : CallF) (c_dis_reader_next : T_dis_reader → Option (ByteArray × Bool × T_dis_reader)) (l_dis_each_L1 : dis_each_L1_A → Option dis_each_L1_O0) (h0 : T_dis_reader) (h1 : (List ByteArray)) : (dis_each_t P call c_dis_reader_next l_dis_each_L1 h0 h1).den = dis_each_b c_dis_reader_next l_dis_each_L1 h0 h1 := rfl
theorem dis_each_n (call : CallF) (c_dis_reader_next : T_dis_reader → Option (ByteArray × Bool × T_dis_reader)) (l_dis_each_L1 : dis_each_L1_A → Option dis_each_L1_O0) (h0 : T_dis_reader) (h1 : (List ByteArray)) : (dis_each_t Tryd.prog call c_dis_reader_next l_dis_each_L1 h0 h1).norm (bodyT Tryd.prog call G 10 [.fn (.func 11) [.ptr 0 0] [], .fn (.func 12) [] [.ptr 1 0]] [(0, .box [] (C_dis_reader h0)), (1, .box [1] [.arr 2]), (2, .arr true 1 (R_string h1))]) = dis_each_t Tryd.prog call c_dis_reader_next l_dis_each_L1 h0 h1 := by kernel_rfl
theorem dis_each_k (P : Program) (call : CallF) (lp : Loops) (c_dis_reader_next : T_dis_reader → Option (ByteArray × Bool × T_dis_reader)) (l_dis_each_L1 : dis_each_L1_A → Option dis_each_L1_O0) (hc_dis_reader_next : ∀ (h0 : T_dis_reader) (r : (ByteArray × Bool × T_dis_reader)), c_dis_reader_next h0 = some r → (call 11 [.ptr 0 0] [(0, .box [] (C_dis_reader h0))]) = some (dis_reader_next_e r)) (hl_dis_each_L1 : ∀ (a : dis_each_L1_A) (r : dis_each_L1_O0), l_dis_each_L1 a = some r → lp (loopAt P 10 1) (dis_each_L1_s a) = some (dis_each_L1_e r)) (h0 : T_dis_reader) (h1 : (List ByteArray)) : (dis_each_t P call c_dis_reader_next l_dis_each_L1 h0 h1).ok lp dis_each_e := fun r1 hr1 => ⟨hc_dis_reader_next _ _ hr1, fun o2 ho2 => ⟨hl_dis_each_L1 _ _ ho2, rfl⟩⟩
theorem dis_each_m {c_dis_reader_next d_dis_reader_next : T_dis_reader → Option (ByteArray × Bool × T_dis_reader)} (h_dis_reader_next : ∀ (h0 : T_dis_reader), Le (c_dis_reader_next h0) (d_dis_reader_next h0)) {l_dis_each_L1 m_dis_each_L1 : dis_each_L1_A → Option dis_each_L1_O0} (hl_dis_each_L1 : ∀ a, Le (l_dis_each_L1 a) (m_dis_each_L1 a)) (h0 : T_dis_reader) (h1 : (List ByteArray)) : Le (dis_each_b c_dis_reader_next l_dis_each_L1 h0 h1) (dis_each_b d_dis_reader_next m_dis_each_L1 h0 h1) := by
  unfold dis_each_b
  exact .bind (h_dis_reader_next _) fun r1 => .bind (hl_dis_each_L1 _) (fun o2 => .refl _)
theorem dis_each_c {c_dis_reader_next : Nat → T_dis_reader → Option (ByteArray × Bool × T_dis_reader)} {d_dis_reader_next : T_dis_reader → Option (ByteArray × Bool × T_dis_reader)} (h_dis_reader_next : ∀ (h0 : T_dis_reader), Cv (fun k => c_dis_reader_next k h0) (d_dis_reader_next h0)) {l_dis_each_L1 : Nat → dis_each_L1_A → Option dis_each_L1_O0} {m_dis_each_L1 : dis_each_L1_A → Option dis_each_L1_O0} (hl_dis_each_L1 : ∀ a, Cv (fun k => l_dis_each_L1 k a) (m_dis_each_L1 a)) (h0 : T_dis_reader) (h1 : (List ByteArray)) : Cv (fun k => dis_each_b (c_dis_reader_next k) (l_dis_each_L1 k) h0 h1) (dis_each_b d_dis_reader_next m_dis_each_L1 h0 h1) := by
  unfold dis_each_b
  exact .bind (h_dis_reader_next _) fun r1 => .bind (hl_dis_each_L1 _) (fun o2 => by exact .const _)
def dis_each.s : Nat → T_dis_reader → (List ByteArray) → Option (T_dis_reader × (List ByteArray))
  | 0, _, _ => none
  | k + 1, h0, h1 => dis_each_b (fun h0 => dis_reader_next.s k h0) (dis_each_L1.s k (fun a0 h0 => dis_List_1.s k a0 h0) (fun h0 => dis_reader_next.s k h0)) h0 h1
theorem dis_each.ok : ∀ (k : Nat), ∀ (h0 : T_dis_reader) (h1 : (List ByteArray)) (r : (T_dis_reader × (List ByteArray))), dis_each.s k h0 h1 = some r → evalFn Tryd.prog G k 10 [.fn (.func 11) [.ptr 0 0] [], .fn (.func 12) [] [.ptr 1 0]] [(0, .box [] (C_dis_reader h0)), (1, .box [1] [.arr 2]), (2, .arr true 1 (R_string h1))] = some (dis_each_e r)
  | 0, _, _, _, h => (nomatch h)
  | k + 1, h0, h1, r, h => fn_ok rfl (dis_each_t Tryd.prog (evalFn Tryd.prog G k) (fun h0 => dis_reader_next.s k h0) (dis_each_L1.s k (fun a0 h0 => dis_List_1.s k a0 h0) (fun h0 => dis_reader_next.s k h0)) h0 h1) (dis_each_n _ (fun h0 => dis_reader_next.s k h0) (dis_each_L1.s k (fun a0 h0 => dis_List_1.s k a0 h0) (fun h0 => dis_reader_next.s k h0)) h0 h1) (dis_each_k _ _ _ (fun h0 => dis_reader_next.s k h0) (dis_each_L1.s k (fun a0 h0 => dis_List_1.s k a0 h0) (fun h0 => dis_reader_next.s k h0)) (dis_reader_next.ok k) (dis_each_L1_ok _ k (fun a0 h0 => dis_List_1.s k a0 h0) (fun h0 => dis_reader_next.s k h0) (dis_List_1.ok k) (dis_reader_next.ok k)) h0 h1) ((dis_each_d _ _ (fun h0 => dis_reader_next.s k h0) (dis_each_L1.s k (fun a0 h0 => dis_List_1.s k a0 h0) (fun h0 => dis_reader_next.s k h0)) h0 h1).trans h)
theorem dis_each.mono : ∀ (k : Nat) (h0 : T_dis_reader) (h1 : (List ByteArray)), Le (dis_each.s k h0 h1) (dis_each.s (k + 1) h0 h1)
  | 0, _, _ => fun r h => (nomatch h)
  | k + 1, h0, h1 => dis_each_m (dis_reader_next.mono k) (dis_each_L1.m (Nat.le_succ k) (fun a0 h0 => dis_List_1.s k a0 h0) (fun h0 => dis_reader_next.s k h0) (fun a0 h0 => dis_List_1.s (k + 1) a0 h0) (fun h0 => dis_reader_next.s (k + 1) h0) (dis_List_1.mono k) (dis_reader_next.mono k)) h0 h1
noncomputable def dis_each (h0 : T_dis_reader) (h1 : (List ByteArray)) : Option (T_dis_reader × (List ByteArray)) := lim fun k => dis_each.s k h0 h1
theorem dis_each.cv (h0 : T_dis_reader) (h1 : (List ByteArray)) : Cv (fun k => dis_each.s k h0 h1) (dis_each h0 h1) := .lim fun k => dis_each.mono k h0 h1
noncomputable def dis_each_L1 : dis_each_L1_A → Option dis_each_L1_O0 := dis_each_L1.w dis_List_1 dis_reader_next
theorem dis_each_L1.eq (a : dis_each_L1_A) : dis_each_L1 a = (dis_each_L1_b dis_List_1 dis_reader_next a).bind (Sum.elim dis_each_L1 some) := loopW_eq _ _
theorem dis_each.eq (h0 : T_dis_reader) (h1 : (List ByteArray)) : dis_each h0 h1 = dis_each_b dis_reader_next dis_each_L1 h0 h1 := Cv.uniq (dis_each.cv h0 h1).shift (dis_each_c dis_reader_next.cv (dis_each_L1.cv (fun k => fun a0 h0 => dis_List_1.s k a0 h0) (fun k => fun h0 => dis_reader_next.s k h0) dis_List_1 dis_reader_next dis_List_1.cv dis_reader_next.cv) h0 h1)
def slices_Clone_2_e (r : (List ByteArray)) : AV × Heap := (.arr 0, [(0, .arr false 1 (R_string r))])
def slices_Clone_2.s : Nat → (List ByteArray) → Option (List ByteArray)
  | 0, _ => none
  | _ + 1, a0 => cloneT 16 a0
theorem slices_Clone_2.ok : ∀ (k : Nat), ∀ (a0 : (List ByteArray)) (r : (List ByteArray)), slices_Clone_2.s k a0 = some r → evalFn Tryd.prog G k 13 [.sl (R_string a0)] [] = some (slices_Clone_2_e r)
  | 0, _, _, h => (nomatch h)
  | k + 1, a0, r, h => cloneO_ok C_string (fun _ => rfl) h
noncomputable def slices_Clone_2 (a0 : (List ByteArray)) : Option (List ByteArray) := cloneT 16 a0
theorem slices_Clone_2.mono (k : Nat) (a0 : (List ByteArray)) : Le (slices_Clone_2.s k a0) (slices_Clone_2.s (k + 1) a0) := by
  cases k with
  | zero => exact fun r h => nomatch h
  | succ k => exact Le.refl _
theorem slices_Clone_2.cv (a0 : (List ByteArray)) : Cv (fun k => slices_Clone_2.s k a0) (slices_Clone_2 a0) := ⟨fun k => slices_Clone_2.mono k a0, fun r => ⟨fun h => ⟨1, h⟩, fun ⟨k, h⟩ => by
  cases k with
  | zero => cases h
  | succ k => exact h⟩⟩
def dis_List_e (r : (List ByteArray)) : AV × Heap := (.arr 0, [(0, .arr false 1 (R_string r))])
def dis_List_b (c_dis_each : T_dis_reader → (List ByteArray) → Option (T_dis_reader × (List ByteArray))) (c_slices_Clone_2 : (List ByteArray) → Option (List ByteArray)) (a0 : (List Int)) : Option (List ByteArray) := ((c_dis_each (T_dis_reader.mk a0) ([] : List ByteArray)).bind fun (r1 : (T_dis_reader × (List ByteArray))) => ((c_slices_Clone_2 r1.2).bind fun (r2 : (List ByteArray)) => (some r2)))
def dis_List_t (P : Program) (call : CallF) (c_dis_each : T_dis_reader → (List ByteArray) → Option (T_dis_reader × (List ByteArray))) (c_slices_Clone_2 : (List ByteArray) → Option (List ByteArray)) (a0 : (List Int)) : Tr (List ByteArray) (AV × Heap) := (.call (call 10 [.fn (.func 11) [.ptr 0 0] [], .fn (.func 12) [] [.ptr 1 0]] [(0, .box [] (C_dis_reader (T_dis_reader.mk (T_dis_reader.mk a0).b))), (1, .box [1] [.arr 2]), (2, .arr true 1 (R_string ([] : List ByteArray)))]) (c_dis_each (T_dis_reader.mk a0) ([] : List ByteArray)) dis_each_e fun (r1 : (T_dis_reader × (List ByteArray))) => (.call (call 13 [.sl (R_string r1.2)] []) (c_slices_Clone_2 r1.2) slices_Clone_2_e fun (r2 : (List ByteArray)) => (rt dis_List_e r2)))
theorem dis_List_d (P : Program) (call : CallF) (c_dis_each : T_dis_reader → (List ByteArray) → Option (T_dis_reader × (List ByteArray))) (c_slices_Clone_2 : (List ByteArray) → Option (List ByteArray)) (a0 : (List Int)) : (dis_List_t P call c_dis_each c_slices_Clone_2 a0).den = dis_List_b c_dis_each c_slices_Clone_2 a0 := rfl
theorem dis_List_n (call : CallF) (c_dis_each : T_dis_reader → (List ByteArray) → Option (T_dis_reader × (List ByteArray))) (c_slices_Clone_2 : (List ByteArray) → Option (List ByteArray)) (a0 : (List Int)) : (dis_List_t Tryd.prog call c_dis_each c_slices_Clone_2 a0).norm (bodyT Tryd.prog call G 8 [.sl (R_u8 a0)] []) = dis_List_t Tryd.prog call c_dis_each c_slices_Clone_2 a0 := by kernel_rfl
theorem dis_List_k (P : Program) (call : CallF) (lp : Loops) (c_dis_each : T_dis_reader → (List ByteArray) → Option (T_dis_reader × (List ByteArray))) (c_slices_Clone_2 : (List ByteArray) → Option (List ByteArray)) (hc_dis_each : ∀ (h0 : T_dis_reader) (h1 : (List ByteArray)) (r : (T_dis_reader × (List ByteArray))), c_dis_each h0 h1 = some r → (call 10 [.fn (.func 11) [.ptr 0 0] [], .fn (.func 12) [] [.ptr 1 0]] [(0, .box [] (C_dis_reader h0)), (1, .box [1] [.arr 2]), (2, .arr true 1 (R_string h1))]) = some (dis_each_e r)) (hc_slices_Clone_2 : ∀ (a0 : (List ByteArray)) (r : (List ByteArray)), c_slices_Clone_2 a0 = some r → (call 13 [.sl (R_string a0)] []) = some (slices_Clone_2_e r)) (a0 : (List Int)) : (dis_List_t P call c_dis_each c_slices_Clone_2 a0).ok lp dis_List_e := fun r1 hr1 => ⟨hc_dis_each _ _ _ hr1, fun r2 hr2 => ⟨hc_slices_Clone_2 _ _ hr2, rfl⟩⟩
theorem dis_List_m {c_dis_each d_dis_each : T_dis_reader → (List ByteArray) → Option (T_dis_reader × (List ByteArray))} (h_dis_each : ∀ (h0 : T_dis_reader) (h1 : (List ByteArray)), Le (c_dis_each h0 h1) (d_dis_each h0 h1)) {c_slices_Clone_2 d_slices_Clone_2 : (List ByteArray) → Option (List ByteArray)} (h_slices_Clone_2 : ∀ (a0 : (List ByteArray)), Le (c_slices_Clone_2 a0) (d_slices_Clone_2 a0)) (a0 : (List Int)) : Le (dis_List_b c_dis_each c_slices_Clone_2 a0) (dis_List_b d_dis_each d_slices_Clone_2 a0) := by
  unfold dis_List_b
  exact .bind (h_dis_each _ _) fun r1 => .bind (h_slices_Clone_2 _) fun r2 => .refl _
theorem dis_List_c {c_dis_each : Nat → T_dis_reader → (List ByteArray) → Option (T_dis_reader × (List ByteArray))} {d_dis_each : T_dis_reader → (List ByteArray) → Option (T_dis_reader × (List ByteArray))} (h_dis_each : ∀ (h0 : T_dis_reader) (h1 : (List ByteArray)), Cv (fun k => c_dis_each k h0 h1) (d_dis_each h0 h1)) {c_slices_Clone_2 : Nat → (List ByteArray) → Option (List ByteArray)} {d_slices_Clone_2 : (List ByteArray) → Option (List ByteArray)} (h_slices_Clone_2 : ∀ (a0 : (List ByteArray)), Cv (fun k => c_slices_Clone_2 k a0) (d_slices_Clone_2 a0)) (a0 : (List Int)) : Cv (fun k => dis_List_b (c_dis_each k) (c_slices_Clone_2 k) a0) (dis_List_b d_dis_each d_slices_Clone_2 a0) := by
  unfold dis_List_b
  exact .bind (h_dis_each _ _) fun r1 => .bind (h_slices_Clone_2 _) fun r2 => by exact .const _
def dis_List.s : Nat → (List Int) → Option (List ByteArray)
  | 0, _ => none
  | k + 1, a0 => dis_List_b (fun h0 h1 => dis_each.s k h0 h1) (fun a0 => slices_Clone_2.s k a0) a0
theorem dis_List.ok : ∀ (k : Nat), ∀ (a0 : (List Int)) (r : (List ByteArray)), dis_List.s k a0 = some r → evalFn Tryd.prog G k 8 [.sl (R_u8 a0)] [] = some (dis_List_e r)
  | 0, _, _, h => (nomatch h)
  | k + 1, a0, r, h => fn_ok rfl (dis_List_t Tryd.prog (evalFn Tryd.prog G k) (fun h0 h1 => dis_each.s k h0 h1) (fun a0 => slices_Clone_2.s k a0) a0) (dis_List_n _ (fun h0 h1 => dis_each.s k h0 h1) (fun a0 => slices_Clone_2.s k a0) a0) (dis_List_k _ _ _ (fun h0 h1 => dis_each.s k h0 h1) (fun a0 => slices_Clone_2.s k a0) (dis_each.ok k) (slices_Clone_2.ok k)  a0) ((dis_List_d _ _ (fun h0 h1 => dis_each.s k h0 h1) (fun a0 => slices_Clone_2.s k a0) a0).trans h)
theorem dis_List.mono : ∀ (k : Nat) (a0 : (List Int)), Le (dis_List.s k a0) (dis_List.s (k + 1) a0)
  | 0, _ => fun r h => (nomatch h)
  | k + 1, a0 => dis_List_m (dis_each.mono k) (slices_Clone_2.mono k) a0
noncomputable def dis_List (a0 : (List Int)) : Option (List ByteArray) := lim fun k => dis_List.s k a0
theorem dis_List.cv (a0 : (List Int)) : Cv (fun k => dis_List.s k a0) (dis_List a0) := .lim fun k => dis_List.mono k a0
theorem dis_List.eq (a0 : (List Int)) : dis_List a0 = dis_List_b dis_each slices_Clone_2 a0 := Cv.uniq (dis_List.cv a0).shift (dis_List_c dis_each.cv slices_Clone_2.cv a0)
def dis_name_e (r : ByteArray) : AV × Heap := (.sc (.string r), [])
def dis_name_b (c_strconv_Itoa : Int → Option ByteArray) (a0 : Int) : Option ByteArray := (bif (decide (0 ≤ (Int.tmod (w64 (Int.tdiv a0 (100 : Int))) (10 : Int)) ∧ (Int.tmod (w64 (Int.tdiv a0 (100 : Int))) (10 : Int)) ≤ (w64 ((Int.tmod (w64 (Int.tdiv a0 (100 : Int))) (10 : Int)) + (1 : Int))) ∧ (w64 ((Int.tmod (w64 (Int.tdiv a0 (100 : Int))) (10 : Int)) + (1 : Int))) ≤ ((s_pqstuvwxyz.size : Nat) : Int))) then ((c_strconv_Itoa (Int.tmod (w64 (Int.tdiv a0 (10 : Int))) (10 : Int))).bind fun (r1 : ByteArray) => (bif (decide ((((s_pqstuvwxyz.extract (Int.toNat (Int.tmod (w64 (Int.tdiv a0 (100 : Int))) (10 : Int))) (Int.toNat (w64 ((Int.tmod (w64 (Int.tdiv a0 (100 : Int))) (10 : Int)) + (1 : Int))))).size + r1.size : Nat) : Int) ≤ IntKind.i64.max)) then ((c_strconv_Itoa (Int.tmod a0 (10 : Int))).bind fun (r2 : ByteArray) => (bif (decide (((((s_pqstuvwxyz.extract (Int.toNat (Int.tmod (w64 (Int.tdiv a0 (100 : Int))) (10 : Int))) (Int.toNat (w64 ((Int.tmod (w64 (Int.tdiv a0 (100 : Int))) (10 : Int)) + (1 : Int))))) ++ r1).size + r2.size : Nat) : Int) ≤ IntKind.i64.max)) then (some (((s_pqstuvwxyz.extract (Int.toNat (Int.tmod (w64 (Int.tdiv a0 (100 : Int))) (10 : Int))) (Int.toNat (w64 ((Int.tmod (w64 (Int.tdiv a0 (100 : Int))) (10 : Int)) + (1 : Int))))) ++ r1) ++ r2)) else none)) else none)) else none)
def dis_name_t (P : Program) (call : CallF) (c_strconv_Itoa : Int → Option ByteArray) (a0 : Int) : Tr ByteArray (AV × Heap) := (.yes (decide ((100 : Int) ≠ 0)) (.yes (decide ((10 : Int) ≠ 0)) (.as (decide (0 ≤ (Int.tmod (w64 (Int.tdiv a0 (100 : Int))) (10 : Int)) ∧ (Int.tmod (w64 (Int.tdiv a0 (100 : Int))) (10 : Int)) ≤ (w64 ((Int.tmod (w64 (Int.tdiv a0 (100 : Int))) (10 : Int)) + (1 : Int))) ∧ (w64 ((Int.tmod (w64 (Int.tdiv a0 (100 : Int))) (10 : Int)) + (1 : Int))) ≤ ((s_pqstuvwxyz.size : Nat) : Int))) (yesN 2 (decide ((10 : Int) ≠ 0)) (.call (call 20 [.sc (.int .i64 (Int.tmod (w64 (Int.tdiv a0 (10 : Int))) (10 : Int)))] []) (c_strconv_Itoa (Int.tmod (w64 (Int.tdiv a0 (10 : Int))) (10 : Int))) strconv_Itoa_e fun (r1 : ByteArray) => (.as (decide ((((s_pqstuvwxyz.extract (Int.toNat (Int.tmod (w64 (Int.tdiv a0 (100 : Int))) (10 : Int))) (Int.toNat (w64 ((Int.tmod (w64 (Int.tdiv a0 (100 : Int))) (10 : Int)) + (1 : Int))))).size + r1.size : Nat) : Int) ≤ IntKind.i64.max)) (.yes (decide ((10 : Int) ≠ 0)) (.call (call 20 [.sc (.int .i64 (Int.tmod a0 (10 : Int)))] []) (c_strconv_Itoa (Int.tmod a0 (10 : Int))) strconv_Itoa_e fun (r2 : ByteArray) => (.as (decide (((((s_pqstuvwxyz.extract (Int.toNat (Int.tmod (w64 (Int.tdiv a0 (100 : Int))) (10 : Int))) (Int.toNat (w64 ((Int.tmod (w64 (Int.tdiv a0 (100 : Int))) (10 : Int)) + (1 : Int))))) ++ r1).size + r2.size : Nat) : Int) ≤ IntKind.i64.max)) (rt dis_name_e (((s_pqstuvwxyz.extract (Int.toNat (Int.tmod (w64 (Int.tdiv a0 (100 : Int))) (10 : Int))) (Int.toNat (w64 ((Int.tmod (w64 (Int.tdiv a0 (100 : Int))) (10 : Int)) + (1 : Int))))) ++ r1) ++ r2)) .fail))) .fail))) .fail)))
theorem dis_name_d (P : Program) (call : CallF) (c_strconv_Itoa : Int → Option ByteArray) (a0 : Int) : (dis_name_t P call c_strconv_Itoa a0).den = dis_name_b c_strconv_Itoa a0 := rfl
theorem dis_name_n (call : CallF) (c_strconv_Itoa : Int → Option ByteArray) (a0 : Int) : (dis_name_t Tryd.prog call c_strconv_Itoa a0).norm (bodyT Tryd.prog call G 15 [.sc (.int .i64 a0)] []) = dis_name_t Tryd.prog call c_strconv_Itoa a0 := by kernel_rfl
theorem dis_name_k (P : Program) (call : CallF) (lp : Loops) (c_strconv_Itoa : Int → Option ByteArray) (hc_strconv_Itoa : ∀ (a0 : Int) (r : ByteArray), c_strconv_Itoa a0 = some r → (call 20 [.sc (.int .i64 a0)] []) = some (strconv_Itoa_e r)) (a0 : Int) : (dis_name_t P call c_strconv_Itoa a0).ok lp dis_name_e := ⟨rfl, ⟨rfl, ⟨rfl, fun hq0 => yesN_ok 2 (rfl) (fun r1 hr1 => ⟨hc_strconv_Itoa _ _ hr1, ⟨rfl, fun hq1 => ⟨rfl, fun r2 hr2 => ⟨hc_strconv_Itoa _ _ hr2, ⟨rfl, fun hq2 => rfl, fun hq2 => trivial⟩⟩⟩, fun hq1 => trivial⟩⟩), fun hq0 => trivial⟩⟩⟩
theorem dis_name_m {c_strconv_Itoa d_strconv_Itoa : Int → Option ByteArray} (h_strconv_Itoa : ∀ (a0 : Int), Le (c_strconv_Itoa a0) (d_strconv_Itoa a0)) (a0 : Int) : Le (dis_name_b c_strconv_Itoa a0) (dis_name_b d_strconv_Itoa a0) := by
  unfold dis_name_b
  exact .cond (.bind (h_strconv_Itoa _) fun r1 => .cond (.bind (h_strconv_Itoa _) fun r2 => .refl _) (.refl _)) (.refl _)
theorem dis_name_c {c_strconv_Itoa : Nat → Int → Option ByteArray} {d_strconv_Itoa : Int → Option ByteArray} (h_strconv_Itoa : ∀ (a0 : Int), Cv (fun k => c_strconv_Itoa k a0) (d_strconv_Itoa a0)) (a0 : Int) : Cv (fun k => dis_name_b (c_strconv_Itoa k) a0) (dis_name_b d_strconv_Itoa a0) := by
  unfold dis_name_b
  exact .cond (.bind (h_strconv_Itoa _) fun r1 => .cond (.bind (h_strconv_Itoa _) fun r2 => by exact .const _) (by exact .const _)) (by exact .const _)
def dis_name.s : Nat → Int → Option ByteArray
  | 0, _ => none
  | k + 1, a0 => dis_name_b (fun a0 => strconv_Itoa.s k a0) a0
theorem dis_name.ok : ∀ (k : Nat), ∀ (a0 : Int) (r : ByteArray), dis_name.s k a0 = some r → evalFn Tryd.prog G k 15 [.sc (.int .i64 a0)] [] = some (dis_name_e r)
  | 0, _, _, h => (nomatch h)
  | k + 1, a0, r, h => fn_ok rfl (dis_name_t Tryd.prog (evalFn Tryd.prog G k) (fun a0 => strconv_Itoa.s k a0) a0) (dis_name_n _ (fun a0 => strconv_Itoa.s k a0) a0) (dis_name_k _ _ _ (fun a0 => strconv_Itoa.s k a0) (strconv_Itoa.ok k)  a0) ((dis_name_d _ _ (fun a0 => strconv_Itoa.s k a0) a0).trans h)
theorem dis_name.mono : ∀ (k : Nat) (a0 : Int), Le (dis_name.s k a0) (dis_name.s (k + 1) a0)
  | 0, _ => fun r h => (nomatch h)
  | k + 1, a0 => dis_name_m (strconv_Itoa.mono k) a0
noncomputable def dis_name (a0 : Int) : Option ByteArray := lim fun k => dis_name.s k a0
theorem dis_name.cv (a0 : Int) : Cv (fun k => dis_name.s k a0) (dis_name a0) := .lim fun k => dis_name.mono k a0
theorem dis_name.eq (a0 : Int) : dis_name a0 = dis_name_b strconv_Itoa a0 := Cv.uniq (dis_name.cv a0).shift (dis_name_c strconv_Itoa.cv a0)
def dis_Frags_1_e (r : (List T_api_Frag)) : AV × Heap := (.tup [], [(0, .box [102] [.arr 2]), (2, .arr false 2 (R_api_Frag r))])
def dis_Frags_1_b (c_dis_name : Int → Option ByteArray) (a0 : ByteArray) (h0 : (List T_api_Frag)) : Option (List T_api_Frag) := (bif ((((h0.length) : Nat) : Int) == (0 : Int)) then ((c_dis_name (((h0.length) : Nat) : Int)).bind fun (r1 : ByteArray) => (bif (decide ((h0.length + [(T_api_Frag.mk r1 s_)].length) * 32 ≤ most)) then (bif (decide (0 ≤ (w64 ((w64 ((((h0.length) : Nat) : Int) + (1 : Int))) - (1 : Int))) ∧ (w64 ((w64 ((((h0.length) : Nat) : Int) + (1 : Int))) - (1 : Int))) < (((h0 ++ [(T_api_Frag.mk r1 s_)]).length : Nat) : Int))) then (((h0 ++ [(T_api_Frag.mk r1 s_)])[(Int.toNat (w64 ((w64 ((((h0.length) : Nat) : Int) + (1 : Int))) - (1 : Int))))]?).bind fun (e2 : T_api_Frag) => (bif (decide (((a0.size + h_0a.size : Nat) : Int) ≤ IntKind.i64.max)) then (bif (decide (((e2.Text.size + (a0 ++ h_0a).size : Nat) : Int) ≤ IntKind.i64.max)) then (((h0 ++ [(T_api_Frag.mk r1 s_)])[(Int.toNat (w64 ((w64 ((((h0.length) : Nat) : Int) + (1 : Int))) - (1 : Int))))]?).bind fun (e3 : T_api_Frag) => (some ((h0 ++ [(T_api_Frag.mk r1 s_)]).set (Int.toNat (w64 ((w64 ((((h0.length) : Nat) : Int) + (1 : Int))) - (1 : Int)))) (T_api_Frag.mk e3.Name (e2.Text ++ (a0 ++ h_0a)))))) else none) else none)) else none) else none)) else (bif (decide (0 ≤ (w64 ((((h0.length) : Nat) : Int) - (1 : Int))) ∧ (w64 ((((h0.length) : Nat) : Int) - (1 : Int))) < ((h0.length : Nat) : Int))) then ((h0[(Int.toNat (w64 ((((h0.length) : Nat) : Int) - (1 : Int))))]?).bind fun (e4 : T_api_Frag) => (bif (decide ((w64 ((w64 (((e4.Text.size : Nat) : Int) + ((a0.size : Nat) : Int))) + (1 : Int))) > (600 : Int))) then ((c_dis_name (((h0.length) : Nat) : Int)).bind fun (r5 : ByteArray) => (bif (decide ((h0.length + [(T_api_Frag.mk r5 s_)].length) * 32 ≤ most)) then (bif (decide (0 ≤ (w64 ((w64 ((((h0.length) : Nat) : Int) + (1 : Int))) - (1 : Int))) ∧ (w64 ((w64 ((((h0.length) : Nat) : Int) + (1 : Int))) - (1 : Int))) < (((h0 ++ [(T_api_Frag.mk r5 s_)]).length : Nat) : Int))) then (((h0 ++ [(T_api_Frag.mk r5 s_)])[(Int.toNat (w64 ((w64 ((((h0.length) : Nat) : Int) + (1 : Int))) - (1 : Int))))]?).bind fun (e6 : T_api_Frag) => (bif (decide (((a0.size + h_0a.size : Nat) : Int) ≤ IntKind.i64.max)) then (bif (decide (((e6.Text.size + (a0 ++ h_0a).size : Nat) : Int) ≤ IntKind.i64.max)) then (((h0 ++ [(T_api_Frag.mk r5 s_)])[(Int.toNat (w64 ((w64 ((((h0.length) : Nat) : Int) + (1 : Int))) - (1 : Int))))]?).bind fun (e7 : T_api_Frag) => (some ((h0 ++ [(T_api_Frag.mk r5 s_)]).set (Int.toNat (w64 ((w64 ((((h0.length) : Nat) : Int) + (1 : Int))) - (1 : Int)))) (T_api_Frag.mk e7.Name (e6.Text ++ (a0 ++ h_0a)))))) else none) else none)) else none) else none)) else ((h0[(Int.toNat (w64 ((((h0.length) : Nat) : Int) - (1 : Int))))]?).bind fun (e8 : T_api_Frag) => (bif (decide (((a0.size + h_0a.size : Nat) : Int) ≤ IntKind.i64.max)) then (bif (decide (((e8.Text.size + (a0 ++ h_0a).size : Nat) : Int) ≤ IntKind.i64.max)) then ((h0[(Int.toNat (w64 ((((h0.length) : Nat) : Int) - (1 : Int))))]?).bind fun (e9 : T_api_Frag) => (some (h0.set (Int.toNat (w64 ((((h0.length) : Nat) : Int) - (1 : Int)))) (T_api_Frag.mk e9.Name (e8.Text ++ (a0 ++ h_0a)))))) else none) else none)))) else none))
def dis_Frags_1_t (P : Program) (call : CallF) (c_dis_name : Int → Option ByteArray) (a0 : ByteArray) (h0 : (List T_api_Frag)) : Tr (List T_api_Frag) (AV × Heap) := (.num ((R_api_Frag h0).length) (h0.length) (.as ((((h0.length) : Nat) : Int) == (0 : Int)) (yesN 12 ((((h0.length) : Nat) : Int) == (0 : Int)) (.yes true (.call (call 15 [.sc (.int .i64 (((h0.length) : Nat) : Int))] []) (c_dis_name (((h0.length) : Nat) : Int)) dis_name_e fun (r1 : ByteArray) => (.rows [[.sc (.string r1), .sc (.string s_)]] (R_api_Frag [(T_api_Frag.mk r1 s_)]) (.yes (decide ((R_api_Frag [(T_api_Frag.mk r1 s_)]).all (fun r => r.length == 2) = true)) (.ask (decide (((R_api_Frag h0).length + (R_api_Frag [(T_api_Frag.mk r1 s_)]).length) * 32 ≤ most)) (decide ((h0.length + [(T_api_Frag.mk r1 s_)].length) * 32 ≤ most)) (.rows ((R_api_Frag h0) ++ (R_api_Frag [(T_api_Frag.mk r1 s_)])) (R_api_Frag (h0 ++ [(T_api_Frag.mk r1 s_)])) (.ask (decide (0 ≤ (w64 ((w64 ((((h0.length) : Nat) : Int) + (1 : Int))) - (1 : Int))) ∧ (w64 ((w64 ((((h0.length) : Nat) : Int) + (1 : Int))) - (1 : Int))) < (((R_api_Frag (h0 ++ [(T_api_Frag.mk r1 s_)])).length : Nat) : Int))) (decide (0 ≤ (w64 ((w64 ((((h0.length) : Nat) : Int) + (1 : Int))) - (1 : Int))) ∧ (w64 ((w64 ((((h0.length) : Nat) : Int) + (1 : Int))) - (1 : Int))) < (((h0 ++ [(T_api_Frag.mk r1 s_)]).length : Nat) : Int))) (.row ((R_api_Frag (h0 ++ [(T_api_Frag.mk r1 s_)]))[(Int.toNat (w64 ((w64 ((((h0.length) : Nat) : Int) + (1 : Int))) - (1 : Int))))]?) ((h0 ++ [(T_api_Frag.mk r1 s_)])[(Int.toNat (w64 ((w64 ((((h0.length) : Nat) : Int) + (1 : Int))) - (1 : Int))))]?) C_api_Frag fun (e2 : T_api_Frag) => (.as (decide (((a0.size + h_0a.size : Nat) : Int) ≤ IntKind.i64.max)) (.as (decide (((e2.Text.size + (a0 ++ h_0a).size : Nat) : Int) ≤ IntKind.i64.max)) (.yes (decide (0 ≤ (w64 ((w64 ((((h0.length) : Nat) : Int) + (1 : Int))) - (1 : Int))) ∧ (w64 ((w64 ((((h0.length) : Nat) : Int) + (1 : Int))) - (1 : Int))) < (((R_api_Frag (h0 ++ [(T_api_Frag.mk r1 s_)])).length : Nat) : Int))) (.row ((R_api_Frag (h0 ++ [(T_api_Frag.mk r1 s_)]))[(Int.toNat (w64 ((w64 ((((h0.length) : Nat) : Int) + (1 : Int))) - (1 : Int))))]?) ((h0 ++ [(T_api_Frag.mk r1 s_)])[(Int.toNat (w64 ((w64 ((((h0.length) : Nat) : Int) + (1 : Int))) - (1 : Int))))]?) C_api_Frag fun (e3 : T_api_Frag) => (.rows ((R_api_Frag (h0 ++ [(T_api_Frag.mk r1 s_)])).set (Int.toNat (w64 ((w64 ((((h0.length) : Nat) : Int) + (1 : Int))) - (1 : Int)))) [.sc (.string e3.Name), .sc (.string (e2.Text ++ (a0 ++ h_0a)))]) (R_api_Frag ((h0 ++ [(T_api_Frag.mk r1 s_)]).set (Int.toNat (w64 ((w64 ((((h0.length) : Nat) : Int) + (1 : Int))) - (1 : Int)))) (T_api_Frag.mk e3.Name (e2.Text ++ (a0 ++ h_0a))))) (rt dis_Frags_1_e ((h0 ++ [(T_api_Frag.mk r1 s_)]).set (Int.toNat (w64 ((w64 ((((h0.length) : Nat) : Int) + (1 : Int))) - (1 : Int)))) (T_api_Frag.mk e3.Name (e2.Text ++ (a0 ++ h_0a)))))))) .fail) .fail)) .fail)) .fail)))))) (noN 3 ((((h0.length) : Nat) : Int) == (0 : Int)) (.ask (decide (0 ≤ (w64 ((((h0.length) : Nat) : Int) - (1 : Int))) ∧ (w64 ((((h0.length) : Nat) : Int) - (1 : Int))) < (((R_api_Frag h0).length : Nat) : Int))) (decide (0 ≤ (w64 ((((h0.length) : Nat) : Int) - (1 : Int))) ∧ (w64 ((((h0.length) : Nat) : Int) - (1 : Int))) < ((h0.length : Nat) : Int))) (noN 2 ((((h0.length) : Nat) : Int) == (0 : Int)) (.row ((R_api_Frag h0)[(Int.toNat (w64 ((((h0.length) : Nat) : Int) - (1 : Int))))]?) (h0[(Int.toNat (w64 ((((h0.length) : Nat) : Int) - (1 : Int))))]?) C_api_Frag fun (e4 : T_api_Frag) => (noN 7 ((((h0.length) : Nat) : Int) == (0 : Int)) (.as (decide ((w64 ((w64 (((e4.Text.size : Nat) : Int) + ((a0.size : Nat) : Int))) + (1 : Int))) > (600 : Int))) (.call (call 15 [.sc (.int .i64 (((h0.length) : Nat) : Int))] []) (c_dis_name (((h0.length) : Nat) : Int)) dis_name_e fun (r5 : ByteArray) => (.rows [[.sc (.string r5), .sc (.string s_)]] (R_api_Frag [(T_api_Frag.mk r5 s_)]) (.yes (decide ((R_api_Frag [(T_api_Frag.mk r5 s_)]).all (fun r => r.length == 2) = true)) (.ask (decide (((R_api_Frag h0).length + (R_api_Frag [(T_api_Frag.mk r5 s_)]).length) * 32 ≤ most)) (decide ((h0.length + [(T_api_Frag.mk r5 s_)].length) * 32 ≤ most)) (.rows ((R_api_Frag h0) ++ (R_api_Frag [(T_api_Frag.mk r5 s_)])) (R_api_Frag (h0 ++ [(T_api_Frag.mk r5 s_)])) (.ask (decide (0 ≤ (w64 ((w64 ((((h0.length) : Nat) : Int) + (1 : Int))) - (1 : Int))) ∧ (w64 ((w64 ((((h0.length) : Nat) : Int) + (1 : Int))) - (1 : Int))) < (((R_api_Frag (h0 ++ [(T_api_Frag.mk r5 s_)])).length : Nat) : Int))) (decide (0 ≤ (w64 ((w64 ((((h0.length) : Nat) : Int) + (1 : Int))) - (1 : Int))) ∧ (w64 ((w64 ((((h0.length) : Nat) : Int) + (1 : Int))) - (1 : Int))) < (((h0 ++ [(T_api_Frag.mk r5 s_)]).length : Nat) : Int))) (.row ((R_api_Frag (h0 ++ [(T_api_Frag.mk r5 s_)]))[(Int.toNat (w64 ((w64 ((((h0.length) : Nat) : Int) + (1 : Int))) - (1 : Int))))]?) ((h0 ++ [(T_api_Frag.mk r5 s_)])[(Int.toNat (w64 ((w64 ((((h0.length) : Nat) : Int) + (1 : Int))) - (1 : Int))))]?) C_api_Frag fun (e6 : T_api_Frag) => (.as (decide (((a0.size + h_0a.size : Nat) : Int) ≤ IntKind.i64.max)) (.as (decide (((e6.Text.size + (a0 ++ h_0a).size : Nat) : Int) ≤ IntKind.i64.max)) (.yes (decide (0 ≤ (w64 ((w64 ((((h0.length) : Nat) : Int) + (1 : Int))) - (1 : Int))) ∧ (w64 ((w64 ((((h0.length) : Nat) : Int) + (1 : Int))) - (1 : Int))) < (((R_api_Frag (h0 ++ [(T_api_Frag.mk r5 s_)])).length : Nat) : Int))) (.row ((R_api_Frag (h0 ++ [(T_api_Frag.mk r5 s_)]))[(Int.toNat (w64 ((w64 ((((h0.length) : Nat) : Int) + (1 : Int))) - (1 : Int))))]?) ((h0 ++ [(T_api_Frag.mk r5 s_)])[(Int.toNat (w64 ((w64 ((((h0.length) : Nat) : Int) + (1 : Int))) - (1 : Int))))]?) C_api_Frag fun (e7 : T_api_Frag) => (.rows ((R_api_Frag (h0 ++ [(T_api_Frag.mk r5 s_)])).set (Int.toNat (w64 ((w64 ((((h0.length) : Nat) : Int) + (1 : Int))) - (1 : Int)))) [.sc (.string e7.Name), .sc (.string (e6.Text ++ (a0 ++ h_0a)))]) (R_api_Frag ((h0 ++ [(T_api_Frag.mk r5 s_)]).set (Int.toNat (w64 ((w64 ((((h0.length) : Nat) : Int) + (1 : Int))) - (1 : Int)))) (T_api_Frag.mk e7.Name (e6.Text ++ (a0 ++ h_0a))))) (rt dis_Frags_1_e ((h0 ++ [(T_api_Frag.mk r5 s_)]).set (Int.toNat (w64 ((w64 ((((h0.length) : Nat) : Int) + (1 : Int))) - (1 : Int)))) (T_api_Frag.mk e7.Name (e6.Text ++ (a0 ++ h_0a)))))))) .fail) .fail)) .fail)) .fail)))) (.yes (decide (0 ≤ (w64 ((((h0.length) : Nat) : Int) - (1 : Int))) ∧ (w64 ((((h0.length) : Nat) : Int) - (1 : Int))) < (((R_api_Frag h0).length : Nat) : Int))) (.row ((R_api_Frag h0)[(Int.toNat (w64 ((((h0.length) : Nat) : Int) - (1 : Int))))]?) (h0[(Int.toNat (w64 ((((h0.length) : Nat) : Int) - (1 : Int))))]?) C_api_Frag fun (e8 : T_api_Frag) => (.as (decide (((a0.size + h_0a.size : Nat) : Int) ≤ IntKind.i64.max)) (.as (decide (((e8.Text.size + (a0 ++ h_0a).size : Nat) : Int) ≤ IntKind.i64.max)) (.yes (decide (0 ≤ (w64 ((((h0.length) : Nat) : Int) - (1 : Int))) ∧ (w64 ((((h0.length) : Nat) : Int) - (1 : Int))) < (((R_api_Frag h0).length : Nat) : Int))) (.row ((R_api_Frag h0)[(Int.toNat (w64 ((((h0.length) : Nat) : Int) - (1 : Int))))]?) (h0[(Int.toNat (w64 ((((h0.length) : Nat) : Int) - (1 : Int))))]?) C_api_Frag fun (e9 : T_api_Frag) => (.rows ((R_api_Frag h0).set (Int.toNat (w64 ((((h0.length) : Nat) : Int) - (1 : Int)))) [.sc (.string e9.Name), .sc (.string (e8.Text ++ (a0 ++ h_0a)))]) (R_api_Frag (h0.set (Int.toNat (w64 ((((h0.length) : Nat) : Int) - (1 : Int)))) (T_api_Frag.mk e9.Name (e8.Text ++ (a0 ++ h_0a))))) (rt dis_Frags_1_e (h0.set (Int.toNat (w64 ((((h0.length) : Nat) : Int) - (1 : Int)))) (T_api_Frag.mk e9.Name (e8.Text ++ (a0 ++ h_0a)))))))) .fail) .fail))))))) .fail))))
theorem dis_Frags_1_d (P : Program) (call : CallF) (c_dis_name : Int → Option ByteArray) (a0 : ByteArray) (h0 : (List T_api_Frag)) : (dis_Frags_1_t P call c_dis_name a0 h0).den = dis_Frags_1_b c_dis_name a0 h0 := rfl
theorem dis_Frags_1_n (call : CallF) (c_dis_name : Int → Option ByteArray) (a0 : ByteArray) (h0 : (List T_api_Frag)) : (dis_Frags_1_t Tryd.prog call c_dis_name a0 h0).norm (bodyT Tryd.prog call G 14 [.sc (.string a0), .ptr 0 0] [(0, .box [102] [.arr 1]), (1, .arr false 2 (R_api_Frag h0))]) = dis_Frags_1_t Tryd.prog call c_dis_name a0 h0 := by kernel_rfl
theorem dis_Frags_1_k (P : Program) (call : CallF) (lp : Loops) (c_dis_name : Int → Option ByteArray) (hc_dis_name : ∀ (a0 : Int) (r : ByteArray), c_dis_name a0 = some r → (call 15 [.sc (.int .i64 a0)] []) = some (dis_name_e r)) (a0 : ByteArray) (h0 : (List T_api_Frag)) : (dis_Frags_1_t P call c_dis_name a0 h0).ok lp dis_Frags_1_e := ⟨(R_api_Frag_len _), ⟨rfl, fun hq0 => yesN_ok 12 (hq0) (⟨rfl, fun r1 hr1 => ⟨hc_dis_name _ _ hr1, ⟨(R_api_Frag_map [(T_api_Frag.mk r1 s_)]), ⟨(decide_eq_true (R_api_Frag_all _)), ⟨(by rw [R_api_Frag_len, R_api_Frag_len]), fun hq1 => ⟨(R_api_Frag_append _ _), ⟨(by rw [R_api_Frag_len]), fun hq2 => fun e2 he2 => ⟨R_api_Frag_get he2, ⟨rfl, fun hq3 => ⟨rfl, fun hq4 => ⟨(show (decide (0 ≤ (w64 ((w64 ((((h0.length) : Nat) : Int) + (1 : Int))) - (1 : Int))) ∧ (w64 ((w64 ((((h0.length) : Nat) : Int) + (1 : Int))) - (1 : Int))) < (((R_api_Frag (h0 ++ [(T_api_Frag.mk r1 s_)])).length : Nat) : Int))) = (decide (0 ≤ (w64 ((w64 ((((h0.length) : Nat) : Int) + (1 : Int))) - (1 : Int))) ∧ (w64 ((w64 ((((h0.length) : Nat) : Int) + (1 : Int))) - (1 : Int))) < (((h0 ++ [(T_api_Frag.mk r1 s_)]).length : Nat) : Int))) from (by rw [R_api_Frag_len])).trans hq2, fun e3 he3 => ⟨R_api_Frag_get he3, ⟨(R_api_Frag_set (h0 ++ [(T_api_Frag.mk r1 s_)]) (Int.toNat (w64 ((w64 ((((h0.length) : Nat) : Int) + (1 : Int))) - (1 : Int)))) (T_api_Frag.mk e3.Name (e2.Text ++ (a0 ++ h_0a)))), rfl⟩⟩⟩, fun hq4 => trivial⟩, fun hq3 => trivial⟩⟩, fun hq2 => trivial⟩⟩, fun hq1 => trivial⟩⟩⟩⟩⟩), fun hq0 => noN_ok 3 (hq0) (⟨(by rw [R_api_Frag_len]), fun hq1 => noN_ok 2 (hq0) (fun e4 he4 => ⟨R_api_Frag_get he4, noN_ok 7 (hq0) (⟨rfl, fun hq2 => fun r5 hr5 => ⟨hc_dis_name _ _ hr5, ⟨(R_api_Frag_map [(T_api_Frag.mk r5 s_)]), ⟨(decide_eq_true (R_api_Frag_all _)), ⟨(by rw [R_api_Frag_len, R_api_Frag_len]), fun hq3 => ⟨(R_api_Frag_append _ _), ⟨(by rw [R_api_Frag_len]), fun hq4 => fun e6 he6 => ⟨R_api_Frag_get he6, ⟨rfl, fun hq5 => ⟨rfl, fun hq6 => ⟨(show (decide (0 ≤ (w64 ((w64 ((((h0.length) : Nat) : Int) + (1 : Int))) - (1 : Int))) ∧ (w64 ((w64 ((((h0.length) : Nat) : Int) + (1 : Int))) - (1 : Int))) < (((R_api_Frag (h0 ++ [(T_api_Frag.mk r5 s_)])).length : Nat) : Int))) = (decide (0 ≤ (w64 ((w64 ((((h0.length) : Nat) : Int) + (1 : Int))) - (1 : Int))) ∧ (w64 ((w64 ((((h0.length) : Nat) : Int) + (1 : Int))) - (1 : Int))) < (((h0 ++ [(T_api_Frag.mk r5 s_)]).length : Nat) : Int))) from (by rw [R_api_Frag_len])).trans hq4, fun e7 he7 => ⟨R_api_Frag_get he7, ⟨(R_api_Frag_set (h0 ++ [(T_api_Frag.mk r5 s_)]) (Int.toNat (w64 ((w64 ((((h0.length) : Nat) : Int) + (1 : Int))) - (1 : Int)))) (T_api_Frag.mk e7.Name (e6.Text ++ (a0 ++ h_0a)))), rfl⟩⟩⟩, fun hq6 => trivial⟩, fun hq5 => trivial⟩⟩, fun hq4 => trivial⟩⟩, fun hq3 => trivial⟩⟩⟩⟩, fun hq2 => ⟨(show (decide (0 ≤ (w64 ((((h0.length) : Nat) : Int) - (1 : Int))) ∧ (w64 ((((h0.length) : Nat) : Int) - (1 : Int))) < (((R_api_Frag h0).length : Nat) : Int))) = (decide (0 ≤ (w64 ((((h0.length) : Nat) : Int) - (1 : Int))) ∧ (w64 ((((h0.length) : Nat) : Int) - (1 : Int))) < ((h0.length : Nat) : Int))) from (by rw [R_api_Frag_len])).trans hq1, fun e8 he8 => ⟨R_api_Frag_get he8, ⟨rfl, fun hq3 => ⟨rfl, fun hq4 => ⟨(show (decide (0 ≤ (w64 ((((h0.length) : Nat) : Int) - (1 : Int))) ∧ (w64 ((((h0.length) : Nat) : Int) - (1 : Int))) < (((R_api_Frag h0).length : Nat) : Int))) = (decide (0 ≤ (w64 ((((h0.length) : Nat) : Int) - (1 : Int))) ∧ (w64 ((((h0.length) : Nat) : Int) - (1 : Int))) < ((h0.length : Nat) : Int))) from (by rw [R_api_Frag_len])).trans hq1, fun e9 he9 => ⟨R_api_Frag_get he9, ⟨(R_api_Frag_set h0 (Int.toNat (w64 ((((h0.length) : Nat) : Int) - (1 : Int)))) (T_api_Frag.mk e9.Name (e8.Text ++ (a0 ++ h_0a)))), rfl⟩⟩⟩, fun hq4 => trivial⟩, fun hq3 => trivial⟩⟩⟩⟩)⟩), fun hq1 => trivial⟩)⟩⟩
theorem dis_Frags_1_m {c_dis_name d_dis_name : Int → Option ByteArray} (h_dis_name : ∀ (a0 : Int), Le (c_dis_name a0) (d_dis_name a0)) (a0 : ByteArray) (h0 : (List T_api_Frag)) : Le (dis_Frags_1_b c_dis_name a0 h0) (dis_Frags_1_b d_dis_name a0 h0) := by
  unfold dis_Frags_1_b
  exact .cond (.bind (h_dis_name _) fun r1 => .refl _) (.cond (.bind (.refl (h0[(Int.toNat (w64 ((((h0.length) : Nat) : Int) - (1 : Int))))]?)) fun e4 => .cond (.bind (h_dis_name _) fun r5 => .refl _) (.refl _)) (.refl _))
theorem dis_Frags_1_c {c_dis_name : Nat → Int → Option ByteArray} {d_dis_name : Int → Option ByteArray} (h_dis_name : ∀ (a0 : Int), Cv (fun k => c_dis_name k a0) (d_dis_name a0)) (a0 : ByteArray) (h0 : (List T_api_Frag)) : Cv (fun k => dis_Frags_1_b (c_dis_name k) a0 h0) (dis_Frags_1_b d_dis_name a0 h0) := by
  unfold dis_Frags_1_b
  exact .cond (.bind (h_dis_name _) fun r1 => by exact .const _) (.cond (.bind (.const (h0[(Int.toNat (w64 ((((h0.length) : Nat) : Int) - (1 : Int))))]?)) fun e4 => .cond (.bind (h_dis_name _) fun r5 => by exact .const _) (by exact .const _)) (by exact .const _))
def dis_Frags_1.s : Nat → ByteArray → (List T_api_Frag) → Option (List T_api_Frag)
  | 0, _, _ => none
  | k + 1, a0, h0 => dis_Frags_1_b (fun a0 => dis_name.s k a0) a0 h0
theorem dis_Frags_1.ok : ∀ (k : Nat), ∀ (a0 : ByteArray) (h0 : (List T_api_Frag)) (r : (List T_api_Frag)), dis_Frags_1.s k a0 h0 = some r → evalFn Tryd.prog G k 14 [.sc (.string a0), .ptr 0 0] [(0, .box [102] [.arr 1]), (1, .arr false 2 (R_api_Frag h0))] = some (dis_Frags_1_e r)
  | 0, _, _, _, h => (nomatch h)
  | k + 1, a0, h0, r, h => fn_ok rfl (dis_Frags_1_t Tryd.prog (evalFn Tryd.prog G k) (fun a0 => dis_name.s k a0) a0 h0) (dis_Frags_1_n _ (fun a0 => dis_name.s k a0) a0 h0) (dis_Frags_1_k _ _ _ (fun a0 => dis_name.s k a0) (dis_name.ok k)  a0 h0) ((dis_Frags_1_d _ _ (fun a0 => dis_name.s k a0) a0 h0).trans h)
theorem dis_Frags_1.mono : ∀ (k : Nat) (a0 : ByteArray) (h0 : (List T_api_Frag)), Le (dis_Frags_1.s k a0 h0) (dis_Frags_1.s (k + 1) a0 h0)
  | 0, _, _ => fun r h => (nomatch h)
  | k + 1, a0, h0 => dis_Frags_1_m (dis_name.mono k) a0 h0
noncomputable def dis_Frags_1 (a0 : ByteArray) (h0 : (List T_api_Frag)) : Option (List T_api_Frag) := lim fun k => dis_Frags_1.s k a0 h0
theorem dis_Frags_1.cv (a0 : ByteArray) (h0 : (List T_api_Frag)) : Cv (fun k => dis_Frags_1.s k a0 h0) (dis_Frags_1 a0 h0) := .lim fun k => dis_Frags_1.mono k a0 h0
theorem dis_Frags_1.eq (a0 : ByteArray) (h0 : (List T_api_Frag)) : dis_Frags_1 a0 h0 = dis_Frags_1_b dis_name a0 h0 := Cv.uniq (dis_Frags_1.cv a0 h0).shift (dis_Frags_1_c dis_name.cv a0 h0)
def dis_each_2_e (r : (T_dis_reader × (List T_api_Frag))) : AV × Heap := (.tup [], [(0, .box [] (C_dis_reader r.1)), (1, .box [102] [.arr 3]), (3, .arr false 2 (R_api_Frag r.2))])
structure dis_each_2_L1_A where
  x4 : ByteArray
  x5 : Bool
  h0 : T_dis_reader
  h1 : (List T_api_Frag)
structure dis_each_2_L1_O0 where
  h0 : T_dis_reader
  h1 : (List T_api_Frag)
def dis_each_2_L1_s (a : dis_each_2_L1_A) : St := { n := 20, nx := 4, env := [(0, .fn (.func 11) [.ptr 0 0] []), (1, .fn (.func 14) [] [.ptr 1 0]), (4, .sc (.string a.x4)), (5, .sc (.bool a.x5))], heap := [(0, .box [] (C_dis_reader a.h0)), (1, .box [102] [.arr 3]), (3, .arr false 2 (R_api_Frag a.h1))] }
def dis_each_2_L1_e (a : dis_each_2_L1_O0) : Ex × St := (.exit 0, { n := 20, nx := 4, env := [], heap := [(0, .box [] (C_dis_reader a.h0)), (1, .box [102] [.arr 3]), (3, .arr false 2 (R_api_Frag a.h1))] })
def dis_each_2_L1_b (c_dis_Frags_1 : ByteArray → (List T_api_Frag) → Option (List T_api_Frag)) (c_dis_reader_next : T_dis_reader → Option (ByteArray × Bool × T_dis_reader)) (a : dis_each_2_L1_A) : Option (dis_each_2_L1_A ⊕ dis_each_2_L1_O0) := (bif a.x5 then ((c_dis_Frags_1 a.x4 a.h1).bind fun (r1 : (List T_api_Frag)) => ((c_dis_reader_next a.h0).bind fun (r2 : (ByteArray × Bool × T_dis_reader)) => (some (.inl (dis_each_2_L1_A.mk r2.1 r2.2.1 r2.2.2 r1))))) else (some (.inr (dis_each_2_L1_O0.mk a.h0 a.h1))))
def dis_each_2_L1_t (P : Program) (call : CallF) (c_dis_Frags_1 : ByteArray → (List T_api_Frag) → Option (List T_api_Frag)) (c_dis_reader_next : T_dis_reader → Option (ByteArray × Bool × T_dis_reader)) (a : dis_each_2_L1_A) : Tr (dis_each_2_L1_A ⊕ dis_each_2_L1_O0) (Ex × St) := (.as a.x5 (.call (call 14 [.sc (.string a.x4), .ptr 0 0] [(0, .box [102] [.arr 1]), (1, .arr false 2 (R_api_Frag a.h1))]) (c_dis_Frags_1 a.x4 a.h1) dis_Frags_1_e fun (r1 : (List T_api_Frag)) => (.call (call 11 [.ptr 0 0] [(0, .box [] (C_dis_reader a.h0))]) (c_dis_reader_next a.h0) dis_reader_next_e fun (r2 : (ByteArray × Bool × T_dis_reader)) => (lf dis_each_2_L1_s (dis_each_2_L1_A.mk r2.1 r2.2.1 r2.2.2 r1)))) (rx dis_each_2_L1_e (dis_each_2_L1_O0.mk a.h0 a.h1)))
theorem dis_each_2_L1_d (P : Program) (call : CallF) (c_dis_Frags_1 : ByteArray → (List T_api_Frag) → Option (List T_api_Frag)) (c_dis_reader_next : T_dis_reader → Option (ByteArray × Bool × T_dis_reader)) (a : dis_each_2_L1_A) : (dis_each_2_L1_t P call c_dis_Frags_1 c_dis_reader_next a).den = dis_each_2_L1_b c_dis_Frags_1 c_dis_reader_next a := rfl
theorem dis_each_2_L1_n (call : CallF) (c_dis_Frags_1 : ByteArray → (List T_api_Frag) → Option (List T_api_Frag)) (c_dis_reader_next : T_dis_reader → Option (ByteArray × Bool × T_dis_reader)) (a : dis_each_2_L1_A) : (dis_each_2_L1_t Tryd.prog call c_dis_Frags_1 c_dis_reader_next a).norm (roundT Tryd.prog G.kd call 3 (G.an 10) (loopAt Tryd.prog 10 1) (dis_each_2_L1_s a)) = dis_each_2_L1_t Tryd.prog call c_dis_Frags_1 c_dis_reader_next a := by kernel_rfl
theorem dis_each_2_L1_k (P : Program) (call : CallF) (lp : Loops) (c_dis_Frags_1 : ByteArray → (List T_api_Frag) → Option (List T_api_Frag)) (c_dis_reader_next : T_dis_reader → Option (ByteArray × Bool × T_dis_reader)) (hc_dis_Frags_1 : ∀ (a0 : ByteArray) (h0 : (List T_api_Frag)) (r : (List T_api_Frag)), c_dis_Frags_1 a0 h0 = some r → (call 14 [.sc (.string a0), .ptr 0 0] [(0, .box [102] [.arr 1]), (1, .arr false 2 (R_api_Frag h0))]) = some (dis_Frags_1_e r)) (hc_dis_reader_next : ∀ (h0 : T_dis_reader) (r : (ByteArray × Bool × T_dis_reader)), c_dis_reader_next h0 = some r → (call 11 [.ptr 0 0] [(0, .box [] (C_dis_reader h0))]) = some (dis_reader_next_e r)) (a : dis_each_2_L1_A) : (dis_each_2_L1_t P call c_dis_Frags_1 c_dis_reader_next a).ok lp (Sum.elim (fun a => (.norm, dis_each_2_L1_s a)) dis_each_2_L1_e) := ⟨rfl, fun hq0 => fun r1 hr1 => ⟨hc_dis_Frags_1 _ _ _ hr1, fun r2 hr2 => ⟨hc_dis_reader_next _ _ hr2, rfl⟩⟩, fun hq0 => rfl⟩
theorem dis_each_2_L1_m {c_dis_Frags_1 d_dis_Frags_1 : ByteArray → (List T_api_Frag) → Option (List T_api_Frag)} (h_dis_Frags_1 : ∀ (a0 : ByteArray) (h0 : (List T_api_Frag)), Le (c_dis_Frags_1 a0 h0) (d_dis_Frags_1 a0 h0)) {c_dis_reader_next d_dis_reader_next : T_dis_reader → Option (ByteArray × Bool × T_dis_reader)} (h_dis_reader_next : ∀ (h0 : T_dis_reader), Le (c_dis_reader_next h0) (d_dis_reader_next h0)) (a : dis_each_2_L1_A) : Le (dis_each_2_L1_b c_dis_Frags_1 c_dis_reader_next a) (dis_each_2_L1_b d_dis_Frags_1 d_dis_reader_next a) := by
  unfold dis_each_2_L1_b
  exact .cond (.bind (h_dis_Frags_1 _ _) fun r1 => .bind (h_dis_reader_next _) fun r2 => .refl _) (.refl _)
theorem dis_each_2_L1_c {c_dis_Frags_1 : Nat → ByteArray → (List T_api_Frag) → Option (List T_api_Frag)} {d_dis_Frags_1 : ByteArray → (List T_api_Frag) → Option (List T_api_Frag)} (h_dis_Frags_1 : ∀ (a0 : ByteArray) (h0 : (List T_api_Frag)), Cv (fun k => c_dis_Frags_1 k a0 h0) (d_dis_Frags_1 a0 h0)) {c_dis_reader_next : Nat → T_dis_reader → Option (ByteArray × Bool × T_dis_reader)} {d_dis_reader_next : T_dis_reader → Option (ByteArray × Bool × T_dis_reader)} (h_dis_reader_next : ∀ (h0 : T_dis_reader), Cv (fun k => c_dis_reader_next k h0) (d_dis_reader_next h0)) (a : dis_each_2_L1_A) : Cv (fun k => dis_each_2_L1_b (c_dis_Frags_1 k) (c_dis_reader_next k) a) (dis_each_2_L1_b d_dis_Frags_1 d_dis_reader_next a) := by
  unfold dis_each_2_L1_b
  exact .cond (.bind (h_dis_Frags_1 _ _) fun r1 => .bind (h_dis_reader_next _) fun r2 => by exact .const _) (by exact .const _)
def dis_each_2_L1.s (k : Nat) (c_dis_Frags_1 : ByteArray → (List T_api_Frag) → Option (List T_api_Frag)) (c_dis_reader_next : T_dis_reader → Option (ByteArray × Bool × T_dis_reader)) : dis_each_2_L1_A → Option dis_each_2_L1_O0 := iter (dis_each_2_L1_b c_dis_Frags_1 c_dis_reader_next) k
theorem dis_each_2_L1_ok (call : CallF) (k : Nat) (c_dis_Frags_1 : ByteArray → (List T_api_Frag) → Option (List T_api_Frag)) (c_dis_reader_next : T_dis_reader → Option (ByteArray × Bool × T_dis_reader)) (hc_dis_Frags_1 : ∀ (a0 : ByteArray) (h0 : (List T_api_Frag)) (r : (List T_api_Frag)), c_dis_Frags_1 a0 h0 = some r → (call 14 [.sc (.string a0), .ptr 0 0] [(0, .box [102] [.arr 1]), (1, .arr false 2 (R_api_Frag h0))]) = some (dis_Frags_1_e r)) (hc_dis_reader_next : ∀ (h0 : T_dis_reader) (r : (ByteArray × Bool × T_dis_reader)), c_dis_reader_next h0 = some r → (call 11 [.ptr 0 0] [(0, .box [] (C_dis_reader h0))]) = some (dis_reader_next_e r)) (a : dis_each_2_L1_A) (r : dis_each_2_L1_O0) (h : dis_each_2_L1.s k c_dis_Frags_1 c_dis_reader_next a = some r) : loopsF Tryd.prog G.kd call 3 (G.an 10) k (loopAt Tryd.prog 10 1) (dis_each_2_L1_s a) = some (dis_each_2_L1_e r) :=
  loop_ok (fun a => dis_each_2_L1_t Tryd.prog call c_dis_Frags_1 c_dis_reader_next a) (fun a => dis_each_2_L1_d _ call c_dis_Frags_1 c_dis_reader_next a) (fun a => dis_each_2_L1_n call c_dis_Frags_1 c_dis_reader_next a) (fun a => dis_each_2_L1_k _ call _ c_dis_Frags_1 c_dis_reader_next hc_dis_Frags_1 hc_dis_reader_next a) (fun r => nofun) h
theorem dis_each_2_L1.m {j k : Nat} (hj : j ≤ k) (c_dis_Frags_1 : ByteArray → (List T_api_Frag) → Option (List T_api_Frag)) (c_dis_reader_next : T_dis_reader → Option (ByteArray × Bool × T_dis_reader)) (d_dis_Frags_1 : ByteArray → (List T_api_Frag) → Option (List T_api_Frag)) (d_dis_reader_next : T_dis_reader → Option (ByteArray × Bool × T_dis_reader)) (h_dis_Frags_1 : ∀ (a0 : ByteArray) (h0 : (List T_api_Frag)), Le (c_dis_Frags_1 a0 h0) (d_dis_Frags_1 a0 h0)) (h_dis_reader_next : ∀ (h0 : T_dis_reader), Le (c_dis_reader_next h0) (d_dis_reader_next h0)) (a : dis_each_2_L1_A) : Le (dis_each_2_L1.s j c_dis_Frags_1 c_dis_reader_next a) (dis_each_2_L1.s k d_dis_Frags_1 d_dis_reader_next a) := Le.iter (fun a => dis_each_2_L1_m h_dis_Frags_1 h_dis_reader_next a) hj a
noncomputable def dis_each_2_L1.w (c_dis_Frags_1 : ByteArray → (List T_api_Frag) → Option (List T_api_Frag)) (c_dis_reader_next : T_dis_reader → Option (ByteArray × Bool × T_dis_reader)) : dis_each_2_L1_A → Option dis_each_2_L1_O0 := loopW (dis_each_2_L1_b c_dis_Frags_1 c_dis_reader_next)
theorem dis_each_2_L1.cv (c_dis_Frags_1 : Nat → ByteArray → (List T_api_Frag) → Option (List T_api_Frag)) (c_dis_reader_next : Nat → T_dis_reader → Option (ByteArray × Bool × T_dis_reader)) (d_dis_Frags_1 : ByteArray → (List T_api_Frag) → Option (List T_api_Frag)) (d_dis_reader_next : T_dis_reader → Option (ByteArray × Bool × T_dis_reader)) (h_dis_Frags_1 : ∀ (a0 : ByteArray) (h0 : (List T_api_Frag)), Cv (fun k => c_dis_Frags_1 k a0 h0) (d_dis_Frags_1 a0 h0)) (h_dis_reader_next : ∀ (h0 : T_dis_reader), Cv (fun k => c_dis_reader_next k h0) (d_dis_reader_next h0)) (a : dis_each_2_L1_A) : Cv (fun k => dis_each_2_L1.s k (c_dis_Frags_1 k) (c_dis_reader_next k) a) (dis_each_2_L1.w d_dis_Frags_1 d_dis_reader_next a) := Cv.iter (fun a => dis_each_2_L1_c h_dis_Frags_1 h_dis_reader_next a) a
def dis_each_2_b (c_dis_reader_next : T_dis_reader → Option (ByteArray × Bool × T_dis_reader)) (l_dis_each_2_L1 : dis_each_2_L1_A → Option dis_each_2_L1_O0) (h0 : T_dis_reader) (h1 : (List T_api_Frag)) : Option (T_dis_reader × (List T_api_Frag)) := ((c_dis_reader_next h0).bind fun (r1 : (ByteArray × Bool × T_dis_reader)) => ((l_dis_each_2_L1 (dis_each_2_L1_A.mk r1.1 r1.2.1 r1.2.2 h1)).bind (fun (o2 : dis_each_2_L1_O0) => (some (o2.h0, o2.h1)))))
def dis_each_2_t (P : Program) (call : CallF) (c_dis_reader_next : T_dis_reader → Option (ByteArray × Bool × T_dis_reader)) (l_dis_each_2_L1 : dis_each_2_L1_A → Option dis_each_2_L1_O0) (h0 : T_dis_reader) (h1 : (List T_api_Frag)) : Tr (T_dis_reader × (List T_api_Frag)) (AV × Heap) := (.call (call 11 [.ptr 0 0] [(0, .box [] (C_dis_reader h0))]) (c_dis_reader_next h0) dis_reader_next_e fun (r1 : (ByteArray × Bool × T_dis_reader)) => (.loop (loopAt P 10 1) (dis_each_2_L1_s (dis_each_2_L1_A.mk r1.1 r1.2.1 r1.2.2 h1)) (l_dis_each_2_L1 (dis_each_2_L1_A.mk r1.1 r1.2.1 r1.2.2 h1)) dis_each_2_L1_e (fun (o2 : dis_each_2_L1_O0) => (rt dis_each_2_e (o2.h0, o2.h1)))))
theorem dis_each_2_d (P : Program) (call : CallF) (c_dis_reader_next : T_dis_reader → Option (ByteArray × Bool × T_dis_reader)) (l_dis_each_2_L1 : dis_each_2_L1_A → Option dis_each_2_L1_O0) (h0 : T_dis_reader) (h1 : (List T_api_Frag)) : (dis_each_2_t P call c_dis_reader_next l_dis_each_2_L1 h0 h1).den = dis_each_2_b c_dis_reader_next l_dis_each_2_L1 h0 h1 := rfl
theorem dis_each_2_n (call : CallF) (c_dis_reader_next : T_dis_reader → Option (ByteArray × Bool × T_dis_reader)) (l_dis_each_2_L1 : dis_each_2_L1_A → Option dis_each_2_L1_O0) (h0 : T_dis_reader) (h1 : (List T_api_Frag)) : (dis_each_2_t Tryd.prog call c_dis_reader_next l_dis_each_2_L1 h0 h1).norm (bodyT Tryd.prog call G 10 [.fn (.func 11) [.ptr 0 0] [], .fn (.func 14) [] [.ptr 1 0]] [(0, .box [] (C_dis_reader h0)), (1, .box [102] [.arr 2]), (2, .arr false 2 (R_api_Frag h1))]) = dis_each_2_t Tryd.prog call c_dis_reader_next l_dis_each_2_L1 h0 h1 := by kernel_rfl
theorem dis_each_2_k (P : Program) (call : CallF) (lp : Loops) (c_dis_reader_next : T_dis_reader → Option (ByteArray × Bool × T_dis_reader)) (l_dis_each_2_L1 : dis_each_2_L1_A → Option dis_each_2_L1_O0) (hc_dis_reader_next : ∀ (h0 : T_dis_reader) (r : (ByteArray × Bool × T_dis_reader)), c_dis_reader_next h0 = some r → (call 11 [.ptr 0 0] [(0, .box [] (C_dis_reader h0))]) = some (dis_reader_next_e r)) (hl_dis_each_2_L1 : ∀ (a : dis_each_2_L1_A) (r : dis_each_2_L1_O0), l_dis_each_2_L1 a = some r → lp (loopAt P 10 1) (dis_each_2_L1_s a) = some (dis_each_2_L1_e r)) (h0 : T_dis_reader) (h1 : (List T_api_Frag)) : (dis_each_2_t P call c_dis_reader_next l_dis_each_2_L1 h0 h1).ok lp dis_each_2_e := fun r1 hr1 => ⟨hc_dis_reader_next _ _ hr1, fun o2 ho2 => ⟨hl_dis_each_2_L1 _ _ ho2, rfl⟩⟩
theorem dis_each_2_m {c_dis_reader_next d_dis_reader_next : T_dis_reader → Option (ByteArray × Bool × T_dis_reader)} (h_dis_reader_next : ∀ (h0 : T_dis_reader), Le (c_dis_reader_next h0) (d_dis_reader_next h0)) {l_dis_each_2_L1 m_dis_each_2_L1 : dis_each_2_L1_A → Option dis_each_2_L1_O0} (hl_dis_each_2_L1 : ∀ a, Le (l_dis_each_2_L1 a) (m_dis_each_2_L1 a)) (h0 : T_dis_reader) (h1 : (List T_api_Frag)) : Le (dis_each_2_b c_dis_reader_next l_dis_each_2_L1 h0 h1) (dis_each_2_b d_dis_reader_next m_dis_each_2_L1 h0 h1) := by
  unfold dis_each_2_b
  exact .bind (h_dis_reader_next _) fun r1 => .bind (hl_dis_each_2_L1 _) (fun o2 => .refl _)
theorem dis_each_2_c {c_dis_reader_next : Nat → T_dis_reader → Option (ByteArray × Bool × T_dis_reader)} {d_dis_reader_next : T_dis_reader → Option (ByteArray × Bool × T_dis_reader)} (h_dis_reader_next : ∀ (h0 : T_dis_reader), Cv (fun k => c_dis_reader_next k h0) (d_dis_reader_next h0)) {l_dis_each_2_L1 : Nat → dis_each_2_L1_A → Option dis_each_2_L1_O0} {m_dis_each_2_L1 : dis_each_2_L1_A → Option dis_each_2_L1_O0} (hl_dis_each_2_L1 : ∀ a, Cv (fun k => l_dis_each_2_L1 k a) (m_dis_each_2_L1 a)) (h0 : T_dis_reader) (h1 : (List T_api_Frag)) : Cv (fun k => dis_each_2_b (c_dis_reader_next k) (l_dis_each_2_L1 k) h0 h1) (dis_each_2_b d_dis_reader_next m_dis_each_2_L1 h0 h1) := by
  unfold dis_each_2_b
  exact .bind (h_dis_reader_next _) fun r1 => .bind (hl_dis_each_2_L1 _) (fun o2 => by exact .const _)
def dis_each_2.s : Nat → T_dis_reader → (List T_api_Frag) → Option (T_dis_reader × (List T_api_Frag))
  | 0, _, _ => none
  | k + 1, h0, h1 => dis_each_2_b (fun h0 => dis_reader_next.s k h0) (dis_each_2_L1.s k (fun a0 h0 => dis_Frags_1.s k a0 h0) (fun h0 => dis_reader_next.s k h0)) h0 h1
theorem dis_each_2.ok : ∀ (k : Nat), ∀ (h0 : T_dis_reader) (h1 : (List T_api_Frag)) (r : (T_dis_reader × (List T_api_Frag))), dis_each_2.s k h0 h1 = some r → evalFn Tryd.prog G k 10 [.fn (.func 11) [.ptr 0 0] [], .fn (.func 14) [] [.ptr 1 0]] [(0, .box [] (C_dis_reader h0)), (1, .box [102] [.arr 2]), (2, .arr false 2 (R_api_Frag h1))] = some (dis_each_2_e r)
  | 0, _, _, _, h => (nomatch h)
  | k + 1, h0, h1, r, h => fn_ok rfl (dis_each_2_t Tryd.prog (evalFn Tryd.prog G k) (fun h0 => dis_reader_next.s k h0) (dis_each_2_L1.s k (fun a0 h0 => dis_Frags_1.s k a0 h0) (fun h0 => dis_reader_next.s k h0)) h0 h1) (dis_each_2_n _ (fun h0 => dis_reader_next.s k h0) (dis_each_2_L1.s k (fun a0 h0 => dis_Frags_1.s k a0 h0) (fun h0 => dis_reader_next.s k h0)) h0 h1) (dis_each_2_k _ _ _ (fun h0 => dis_reader_next.s k h0) (dis_each_2_L1.s k (fun a0 h0 => dis_Frags_1.s k a0 h0) (fun h0 => dis_reader_next.s k h0)) (dis_reader_next.ok k) (dis_each_2_L1_ok _ k (fun a0 h0 => dis_Frags_1.s k a0 h0) (fun h0 => dis_reader_next.s k h0) (dis_Frags_1.ok k) (dis_reader_next.ok k)) h0 h1) ((dis_each_2_d _ _ (fun h0 => dis_reader_next.s k h0) (dis_each_2_L1.s k (fun a0 h0 => dis_Frags_1.s k a0 h0) (fun h0 => dis_reader_next.s k h0)) h0 h1).trans h)
theorem dis_each_2.mono : ∀ (k : Nat) (h0 : T_dis_reader) (h1 : (List T_api_Frag)), Le (dis_each_2.s k h0 h1) (dis_each_2.s (k + 1) h0 h1)
  | 0, _, _ => fun r h => (nomatch h)
  | k + 1, h0, h1 => dis_each_2_m (dis_reader_next.mono k) (dis_each_2_L1.m (Nat.le_succ k) (fun a0 h0 => dis_Frags_1.s k a0 h0) (fun h0 => dis_reader_next.s k h0) (fun a0 h0 => dis_Frags_1.s (k + 1) a0 h0) (fun h0 => dis_reader_next.s (k + 1) h0) (dis_Frags_1.mono k) (dis_reader_next.mono k)) h0 h1
noncomputable def dis_each_2 (h0 : T_dis_reader) (h1 : (List T_api_Frag)) : Option (T_dis_reader × (List T_api_Frag)) := lim fun k => dis_each_2.s k h0 h1
theorem dis_each_2.cv (h0 : T_dis_reader) (h1 : (List T_api_Frag)) : Cv (fun k => dis_each_2.s k h0 h1) (dis_each_2 h0 h1) := .lim fun k => dis_each_2.mono k h0 h1
noncomputable def dis_each_2_L1 : dis_each_2_L1_A → Option dis_each_2_L1_O0 := dis_each_2_L1.w dis_Frags_1 dis_reader_next
theorem dis_each_2_L1.eq (a : dis_each_2_L1_A) : dis_each_2_L1 a = (dis_each_2_L1_b dis_Frags_1 dis_reader_next a).bind (Sum.elim dis_each_2_L1 some) := loopW_eq _ _
theorem dis_each_2.eq (h0 : T_dis_reader) (h1 : (List T_api_Frag)) : dis_each_2 h0 h1 = dis_each_2_b dis_reader_next dis_each_2_L1 h0 h1 := Cv.uniq (dis_each_2.cv h0 h1).shift (dis_each_2_c dis_reader_next.cv (dis_each_2_L1.cv (fun k => fun a0 h0 => dis_Frags_1.s k a0 h0) (fun k => fun h0 => dis_reader_next.s k h0) dis_Frags_1 dis_reader_next dis_Frags_1.cv dis_reader_next.cv) h0 h1)
def slices_Clone_3_e (r : (List T_api_Frag)) : AV × Heap := (.arr 0, [(0, .arr false 2 (R_api_Frag r))])
def slices_Clone_3.s : Nat → (List T_api_Frag) → Option (List T_api_Frag)
  | 0, _ => none
  | _ + 1, a0 => cloneT 32 a0
theorem slices_Clone_3.ok : ∀ (k : Nat), ∀ (a0 : (List T_api_Frag)) (r : (List T_api_Frag)), slices_Clone_3.s k a0 = some r → evalFn Tryd.prog G k 16 [.sl (R_api_Frag a0)] [] = some (slices_Clone_3_e r)
  | 0, _, _, h => (nomatch h)
  | k + 1, a0, r, h => cloneO_ok C_api_Frag (fun _ => rfl) h
noncomputable def slices_Clone_3 (a0 : (List T_api_Frag)) : Option (List T_api_Frag) := cloneT 32 a0
theorem slices_Clone_3.mono (k : Nat) (a0 : (List T_api_Frag)) : Le (slices_Clone_3.s k a0) (slices_Clone_3.s (k + 1) a0) := by
  cases k with
  | zero => exact fun r h => nomatch h
  | succ k => exact Le.refl _
theorem slices_Clone_3.cv (a0 : (List T_api_Frag)) : Cv (fun k => slices_Clone_3.s k a0) (slices_Clone_3 a0) := ⟨fun k => slices_Clone_3.mono k a0, fun r => ⟨fun h => ⟨1, h⟩, fun ⟨k, h⟩ => by
  cases k with
  | zero => cases h
  | succ k => exact h⟩⟩
def dis_Frags_e (r : (List T_api_Frag)) : AV × Heap := (.arr 0, [(0, .arr false 2 (R_api_Frag r))])
def dis_Frags_b (c_dis_each_2 : T_dis_reader → (List T_api_Frag) → Option (T_dis_reader × (List T_api_Frag))) (c_slices_Clone_3 : (List T_api_Frag) → Option (List T_api_Frag)) (a0 : (List Int)) : Option (List T_api_Frag) := ((c_dis_each_2 (T_dis_reader.mk a0) ([] : List T_api_Frag)).bind fun (r1 : (T_dis_reader × (List T_api_Frag))) => ((c_slices_Clone_3 r1.2).bind fun (r2 : (List T_api_Frag)) => (some r2)))
def dis_Frags_t (P : Program) (call : CallF) (c_dis_each_2 : T_dis_reader → (List T_api_Frag) → Option (T_dis_reader × (List T_api_Frag))) (c_slices_Clone_3 : (List T_api_Frag) → Option (List T_api_Frag)) (a0 : (List Int)) : Tr (List T_api_Frag) (AV × Heap) := (.call (call 10 [.fn (.func 11) [.ptr 0 0] [], .fn (.func 14) [] [.ptr 1 0]] [(0, .box [] (C_dis_reader (T_dis_reader.mk (T_dis_reader.mk a0).b))), (1, .box [102] [.arr 2]), (2, .arr false 2 (R_api_Frag ([] : List T_api_Frag)))]) (c_dis_each_2 (T_dis_reader.mk a0) ([] : List T_api_Frag)) dis_each_2_e fun (r1 : (T_dis_reader × (List T_api_Frag))) => (.call (call 16 [.sl (R_api_Frag r1.2)] []) (c_slices_Clone_3 r1.2) slices_Clone_3_e fun (r2 : (List T_api_Frag)) => (rt dis_Frags_e r2)))
theorem dis_Frags_d (P : Program) (call : CallF) (c_dis_each_2 : T_dis_reader → (List T_api_Frag) → Option (T_dis_reader × (List T_api_Frag))) (c_slices_Clone_3 : (List T_api_Frag) → Option (List T_api_Frag)) (a0 : (List Int)) : (dis_Frags_t P call c_dis_each_2 c_slices_Clone_3 a0).den = dis_Frags_b c_dis_each_2 c_slices_Clone_3 a0 := rfl
theorem dis_Frags_n (call : CallF) (c_dis_each_2 : T_dis_reader → (List T_api_Frag) → Option (T_dis_reader × (List T_api_Frag))) (c_slices_Clone_3 : (List T_api_Frag) → Option (List T_api_Frag)) (a0 : (List Int)) : (dis_Frags_t Tryd.prog call c_dis_each_2 c_slices_Clone_3 a0).norm (bodyT Tryd.prog call G 9 [.sl (R_u8 a0)] []) = dis_Frags_t Tryd.prog call c_dis_each_2 c_slices_Clone_3 a0 := by kernel_rfl
theorem dis_Frags_k (P : Program) (call : CallF) (lp : Loops) (c_dis_each_2 : T_dis_reader → (List T_api_Frag) → Option (T_dis_reader × (List T_api_Frag))) (c_slices_Clone_3 : (List T_api_Frag) → Option (List T_api_Frag)) (hc_dis_each_2 : ∀ (h0 : T_dis_reader) (h1 : (List T_api_Frag)) (r : (T_dis_reader × (List T_api_Frag))), c_dis_each_2 h0 h1 = some r → (call 10 [.fn (.func 11) [.ptr 0 0] [], .fn (.func 14) [] [.ptr 1 0]] [(0, .box [] (C_dis_reader h0)), (1, .box [102] [.arr 2]), (2, .arr false 2 (R_api_Frag h1))]) = some (dis_each_2_e r)) (hc_slices_Clone_3 : ∀ (a0 : (List T_api_Frag)) (r : (List T_api_Frag)), c_slices_Clone_3 a0 = some r → (call 16 [.sl (R_api_Frag a0)] []) = some (slices_Clone_3_e r)) (a0 : (List Int)) : (dis_Frags_t P call c_dis_each_2 c_slices_Clone_3 a0).ok lp dis_Frags_e := fun r1 hr1 => ⟨hc_dis_each_2 _ _ _ hr1, fun r2 hr2 => ⟨hc_slices_Clone_3 _ _ hr2, rfl⟩⟩
theorem dis_Frags_m {c_dis_each_2 d_dis_each_2 : T_dis_reader → (List T_api_Frag) → Option (T_dis_reader × (List T_api_Frag))} (h_dis_each_2 : ∀ (h0 : T_dis_reader) (h1 : (List T_api_Frag)), Le (c_dis_each_2 h0 h1) (d_dis_each_2 h0 h1)) {c_slices_Clone_3 d_slices_Clone_3 : (List T_api_Frag) → Option (List T_api_Frag)} (h_slices_Clone_3 : ∀ (a0 : (List T_api_Frag)), Le (c_slices_Clone_3 a0) (d_slices_Clone_3 a0)) (a0 : (List Int)) : Le (dis_Frags_b c_dis_each_2 c_slices_Clone_3 a0) (dis_Frags_b d_dis_each_2 d_slices_Clone_3 a0) := by
  unfold dis_Frags_b
  exact .bind (h_dis_each_2 _ _) fun r1 => .bind (h_slices_Clone_3 _) fun r2 => .refl _
theorem dis_Frags_c {c_dis_each_2 : Nat → T_dis_reader → (List T_api_Frag) → Option (T_dis_reader × (List T_api_Frag))} {d_dis_each_2 : T_dis_reader → (List T_api_Frag) → Option (T_dis_reader × (List T_api_Frag))} (h_dis_each_2 : ∀ (h0 : T_dis_reader) (h1 : (List T_api_Frag)), Cv (fun k => c_dis_each_2 k h0 h1) (d_dis_each_2 h0 h1)) {c_slices_Clone_3 : Nat → (List T_api_Frag) → Option (List T_api_Frag)} {d_slices_Clone_3 : (List T_api_Frag) → Option (List T_api_Frag)} (h_slices_Clone_3 : ∀ (a0 : (List T_api_Frag)), Cv (fun k => c_slices_Clone_3 k a0) (d_slices_Clone_3 a0)) (a0 : (List Int)) : Cv (fun k => dis_Frags_b (c_dis_each_2 k) (c_slices_Clone_3 k) a0) (dis_Frags_b d_dis_each_2 d_slices_Clone_3 a0) := by
  unfold dis_Frags_b
  exact .bind (h_dis_each_2 _ _) fun r1 => .bind (h_slices_Clone_3 _) fun r2 => by exact .const _
def dis_Frags.s : Nat → (List Int) → Option (List T_api_Frag)
  | 0, _ => none
  | k + 1, a0 => dis_Frags_b (fun h0 h1 => dis_each_2.s k h0 h1) (fun a0 => slices_Clone_3.s k a0) a0
theorem dis_Frags.ok : ∀ (k : Nat), ∀ (a0 : (List Int)) (r : (List T_api_Frag)), dis_Frags.s k a0 = some r → evalFn Tryd.prog G k 9 [.sl (R_u8 a0)] [] = some (dis_Frags_e r)
  | 0, _, _, h => (nomatch h)
  | k + 1, a0, r, h => fn_ok rfl (dis_Frags_t Tryd.prog (evalFn Tryd.prog G k) (fun h0 h1 => dis_each_2.s k h0 h1) (fun a0 => slices_Clone_3.s k a0) a0) (dis_Frags_n _ (fun h0 h1 => dis_each_2.s k h0 h1) (fun a0 => slices_Clone_3.s k a0) a0) (dis_Frags_k _ _ _ (fun h0 h1 => dis_each_2.s k h0 h1) (fun a0 => slices_Clone_3.s k a0) (dis_each_2.ok k) (slices_Clone_3.ok k)  a0) ((dis_Frags_d _ _ (fun h0 h1 => dis_each_2.s k h0 h1) (fun a0 => slices_Clone_3.s k a0) a0).trans h)
theorem dis_Frags.mono : ∀ (k : Nat) (a0 : (List Int)), Le (dis_Frags.s k a0) (dis_Frags.s (k + 1) a0)
  | 0, _ => fun r h => (nomatch h)
  | k + 1, a0 => dis_Frags_m (dis_each_2.mono k) (slices_Clone_3.mono k) a0
noncomputable def dis_Frags (a0 : (List Int)) : Option (List T_api_Frag) := lim fun k => dis_Frags.s k a0
theorem dis_Frags.cv (a0 : (List Int)) : Cv (fun k => dis_Frags.s k a0) (dis_Frags a0) := .lim fun k => dis_Frags.mono k a0
theorem dis_Frags.eq (a0 : (List Int)) : dis_Frags a0 = dis_Frags_b dis_each_2 slices_Clone_3 a0 := Cv.uniq (dis_Frags.cv a0).shift (dis_Frags_c dis_each_2.cv slices_Clone_3.cv a0)
def w6_known_e (r : Bool) : AV × Heap := (.sc (.bool r), [])
def w6_known_b (c_dis_List : (List Int) → Option (List ByteArray)) (c_dis_Frags : (List Int) → Option (List T_api_Frag))  : Option Bool := ((c_dis_List [(0 : Int), (4 : Int), (7 : Int)]).bind fun (r1 : (List ByteArray)) => ((c_dis_Frags [(0 : Int), (4 : Int)]).bind fun (r2 : (List T_api_Frag)) => ((c_dis_List ([] : List Int)).bind fun (r3 : (List ByteArray)) => (bif ((((r3.length) : Nat) : Int) == (0 : Int)) then (bif ((((r1.length) : Nat) : Int) == (2 : Int)) then (bif (decide (0 ≤ (0 : Int) ∧ (0 : Int) < ((r1.length : Nat) : Int))) then ((r1[(Int.toNat (0 : Int))]?).bind fun (e4 : ByteArray) => (bif (eqS e4 s_se_blr) then (bif (decide (0 ≤ (1 : Int) ∧ (1 : Int) < ((r1.length : Nat) : Int))) then ((r1[(Int.toNat (1 : Int))]?).bind fun (e5 : ByteArray) => (bif (eqS e5 h_2e627974652037) then (bif ((((r2.length) : Nat) : Int) == (1 : Int)) then (bif (decide (0 ≤ (0 : Int) ∧ (0 : Int) < ((r2.length : Nat) : Int))) then ((r2[(Int.toNat (0 : Int))]?).bind fun (e6 : T_api_Frag) => (bif (eqS e6.Name s_p00) then ((r2[(Int.toNat (0 : Int))]?).bind fun (e7 : T_api_Frag) => (some (eqS e7.Text h_73655f626c720a))) else (some false))) else none) else (some false)) else (some false))) else none) else (some false))) else none) else (some false)) else (some false)))))
def w6_known_t (P : Program) (call : CallF) (c_dis_List : (List Int) → Option (List ByteArray)) (c_dis_Frags : (List Int) → Option (List T_api_Frag))  : Tr Bool (AV × Heap) := (.rows [[.sc (.int .u8 (0 : Int))], [.sc (.int .u8 (4 : Int))], [.sc (.int .u8 (7 : Int))]] (R_u8 [(0 : Int), (4 : Int), (7 : Int)]) (.call (call 8 [.sl (R_u8 [(0 : Int), (4 : Int), (7 : Int)])] []) (c_dis_List [(0 : Int), (4 : Int), (7 : Int)]) dis_List_e fun (r1 : (List ByteArray)) => (.rows [[.sc (.int .u8 (0 : Int))], [.sc (.int .u8 (4 : Int))]] (R_u8 [(0 : Int), (4 : Int)]) (.call (call 9 [.sl (R_u8 [(0 : Int), (4 : Int)])] []) (c_dis_Frags [(0 : Int), (4 : Int)]) dis_Frags_e fun (r2 : (List T_api_Frag)) => (.call (call 8 [.sl (R_u8 ([] : List Int))] []) (c_dis_List ([] : List Int)) dis_List_e fun (r3 : (List ByteArray)) => (.num ((R_string r3).length) (r3.length) (.as ((((r3.length) : Nat) : Int) == (0 : Int)) (.yes ((((r3.length) : Nat) : Int) == (0 : Int)) (.num ((R_string r1).length) (r1.length) (yesN 2 ((((r3.length) : Nat) : Int) == (0 : Int)) (.as ((((r1.length) : Nat) : Int) == (2 : Int)) (.yes ((((r1.length) : Nat) : Int) == (2 : Int)) (.ask (decide (0 ≤ (0 : Int) ∧ (0 : Int) < (((R_string r1).length : Nat) : Int))) (decide (0 ≤ (0 : Int) ∧ (0 : Int) < ((r1.length : Nat) : Int))) (.yes ((((r1.length) : Nat) : Int) == (2 : Int)) (.row ((R_string r1)[(Int.toNat (0 : Int))]?) (r1[(Int.toNat (0 : Int))]?) C_string fun (e4 : ByteArray) => (yesN 2 ((((r1.length) : Nat) : Int) == (2 : Int)) (.as (eqS e4 s_se_blr) (.yes (eqS e4 s_se_blr) (.ask (decide (0 ≤ (1 : Int) ∧ (1 : Int) < (((R_string r1).length : Nat) : Int))) (decide (0 ≤ (1 : Int) ∧ (1 : Int) < ((r1.length : Nat) : Int))) (.yes (eqS e4 s_se_blr) (.row ((R_string r1)[(Int.toNat (1 : Int))]?) (r1[(Int.toNat (1 : Int))]?) C_string fun (e5 : ByteArray) => (yesN 2 (eqS e4 s_se_blr) (.as (eqS e5 h_2e627974652037) (.yes (eqS e5 h_2e627974652037) (.num ((R_api_Frag r2).length) (r2.length) (yesN 2 (eqS e5 h_2e627974652037) (.as ((((r2.length) : Nat) : Int) == (1 : Int)) (.yes ((((r2.length) : Nat) : Int) == (1 : Int)) (.ask (decide (0 ≤ (0 : Int) ∧ (0 : Int) < (((R_api_Frag r2).length : Nat) : Int))) (decide (0 ≤ (0 : Int) ∧ (0 : Int) < ((r2.length : Nat) : Int))) (yesN 2 ((((r2.length) : Nat) : Int) == (1 : Int)) (.row ((R_api_Frag r2)[(Int.toNat (0 : Int))]?) (r2[(Int.toNat (0 : Int))]?) C_api_Frag fun (e6 : T_api_Frag) => (yesN 2 ((((r2.length) : Nat) : Int) == (1 : Int)) (.as (eqS e6.Name s_p00) (.yes (eqS e6.Name s_p00) (.yes (decide (0 ≤ (0 : Int) ∧ (0 : Int) < (((R_api_Frag r2).length : Nat) : Int))) (yesN 2 (eqS e6.Name s_p00) (.row ((R_api_Frag r2)[(Int.toNat (0 : Int))]?) (r2[(Int.toNat (0 : Int))]?) C_api_Frag fun (e7 : T_api_Frag) => (yesN 2 (eqS e6.Name s_p00) (rt w6_known_e (eqS e7.Text h_73655f626c720a))))))) (noN 5 (eqS e6.Name s_p00) (rt w6_known_e false)))))) .fail)) (noN 5 ((((r2.length) : Nat) : Int) == (1 : Int)) (noN 6 false (rt w6_known_e false))))))) (noN 3 (eqS e5 h_2e627974652037) (noN 12 false (rt w6_known_e false))))))) .fail)) (noN 4 (eqS e4 s_se_blr) (noN 16 false (rt w6_known_e false))))))) .fail)) (noN 4 ((((r1.length) : Nat) : Int) == (2 : Int)) (noN 21 false (rt w6_known_e false))))))) (noN 3 ((((r3.length) : Nat) : Int) == (0 : Int)) (noN 26 false (rt w6_known_e false))))))))))
theorem w6_known_d (P : Program) (call : CallF) (c_dis_List : (List Int) → Option (List ByteArray)) (c_dis_Frags : (List Int) → Option (List T_api_Frag))  : (w6_known_t P call c_dis_List c_dis_Frags ).den = w6_known_b c_dis_List c_dis_Frags  := rfl
theorem w6_known_n (call : CallF) (c_dis_List : (List Int) → Option (List ByteArray)) (c_dis_Frags : (List Int) → Option (List T_api_Frag))  : (w6_known_t Tryd.prog call c_dis_List c_dis_Frags ).norm (bodyT Tryd.prog call G 5 [] []) = w6_known_t Tryd.prog call c_dis_List c_dis_Frags  := by kernel_rfl
theorem w6_known_k (P : Program) (call : CallF) (lp : Loops) (c_dis_List : (List Int) → Option (List ByteArray)) (c_dis_Frags : (List Int) → Option (List T_api_Frag)) (hc_dis_List : ∀ (a0 : (List Int)) (r : (List ByteArray)), c_dis_List a0 = some r → (call 8 [.sl (R_u8 a0)] []) = some (dis_List_e r)) (hc_dis_Frags : ∀ (a0 : (List Int)) (r : (List T_api_Frag)), c_dis_Frags a0 = some r → (call 9 [.sl (R_u8 a0)] []) = some (dis_Frags_e r))  : (w6_known_t P call c_dis_List c_dis_Frags ).ok lp w6_known_e := ⟨(R_u8_map [(0 : Int), (4 : Int), (7 : Int)]), fun r1 hr1 => ⟨hc_dis_List _ _ hr1, ⟨(R_u8_map [(0 : Int), (4 : Int)]), fun r2 hr2 => ⟨hc_dis_Frags _ _ hr2, fun r3 hr3 => ⟨hc_dis_List _ _ hr3, ⟨(R_string_len _), ⟨rfl, fun hq0 => ⟨hq0, ⟨(R_string_len _), yesN_ok 2 (hq0) (⟨rfl, fun hq1 => ⟨hq1, ⟨(by rw [R_string_len]), fun hq2 => ⟨hq1, fun e4 he4 => ⟨R_string_get he4, yesN_ok 2 (hq1) (⟨rfl, fun hq3 => ⟨hq3, ⟨(by rw [R_string_len]), fun hq4 => ⟨hq3, fun e5 he5 => ⟨R_string_get he5, yesN_ok 2 (hq3) (⟨rfl, fun hq5 => ⟨hq5, ⟨(R_api_Frag_len _), yesN_ok 2 (hq5) (⟨rfl, fun hq6 => ⟨hq6, ⟨(by rw [R_api_Frag_len]), fun hq7 => yesN_ok 2 (hq6) (fun e6 he6 => ⟨R_api_Frag_get he6, yesN_ok 2 (hq6) (⟨rfl, fun hq8 => ⟨hq8, ⟨(show (decide (0 ≤ (0 : Int) ∧ (0 : Int) < (((R_api_Frag r2).length : Nat) : Int))) = (decide (0 ≤ (0 : Int) ∧ (0 : Int) < ((r2.length : Nat) : Int))) from (by rw [R_api_Frag_len])).trans hq7, yesN_ok 2 (hq8) (fun e7 he7 => ⟨R_api_Frag_get he7, yesN_ok 2 (hq8) (rfl)⟩)⟩⟩, fun hq8 => noN_ok 5 (hq8) (rfl)⟩)⟩), fun hq7 => trivial⟩⟩, fun hq6 => noN_ok 5 (hq6) (noN_ok 6 (rfl) (rfl))⟩)⟩⟩, fun hq5 => noN_ok 3 (hq5) (noN_ok 12 (rfl) (rfl))⟩)⟩⟩, fun hq4 => trivial⟩⟩, fun hq3 => noN_ok 4 (hq3) (noN_ok 16 (rfl) (rfl))⟩)⟩⟩, fun hq2 => trivial⟩⟩, fun hq1 => noN_ok 4 (hq1) (noN_ok 21 (rfl) (rfl))⟩)⟩⟩, fun hq0 => noN_ok 3 (hq0) (noN_ok 26 (rfl) (rfl))⟩⟩⟩⟩⟩⟩⟩
theorem w6_known_m {c_dis_List d_dis_List : (List Int) → Option (List ByteArray)} (h_dis_List : ∀ (a0 : (List Int)), Le (c_dis_List a0) (d_dis_List a0)) {c_dis_Frags d_dis_Frags : (List Int) → Option (List T_api_Frag)} (h_dis_Frags : ∀ (a0 : (List Int)), Le (c_dis_Frags a0) (d_dis_Frags a0))  : Le (w6_known_b c_dis_List c_dis_Frags ) (w6_known_b d_dis_List d_dis_Frags ) := by
  unfold w6_known_b
  exact .bind (h_dis_List _) fun r1 => .bind (h_dis_Frags _) fun r2 => .bind (h_dis_List _) fun r3 => .refl _
theorem w6_known_c {c_dis_List : Nat → (List Int) → Option (List ByteArray)} {d_dis_List : (List Int) → Option (List ByteArray)} (h_dis_List : ∀ (a0 : (List Int)), Cv (fun k => c_dis_List k a0) (d_dis_List a0)) {c_dis_Frags : Nat → (List Int) → Option (List T_api_Frag)} {d_dis_Frags : (List Int) → Option (List T_api_Frag)} (h_dis_Frags : ∀ (a0 : (List Int)), Cv (fun k => c_dis_Frags k a0) (d_dis_Frags a0))  : Cv (fun k => w6_known_b (c_dis_List k) (c_dis_Frags k) ) (w6_known_b d_dis_List d_dis_Frags ) := by
  unfold w6_known_b
  exact .bind (h_dis_List _) fun r1 => .bind (h_dis_Frags _) fun r2 => .bind (h_dis_List _) fun r3 => by exact .const _
def w6_known.s : Nat → Option Bool
  | 0 => none
  | k + 1 => w6_known_b (fun a0 => dis_List.s k a0) (fun a0 => dis_Frags.s k a0) 
theorem w6_known.ok : ∀ (k : Nat), ∀  (r : Bool), w6_known.s k  = some r → evalFn Tryd.prog G k 5 [] [] = some (w6_known_e r)
  | 0, _, h => (nomatch h)
  | k + 1, r, h => fn_ok rfl (w6_known_t Tryd.prog (evalFn Tryd.prog G k) (fun a0 => dis_List.s k a0) (fun a0 => dis_Frags.s k a0) ) (w6_known_n _ (fun a0 => dis_List.s k a0) (fun a0 => dis_Frags.s k a0) ) (w6_known_k _ _ _ (fun a0 => dis_List.s k a0) (fun a0 => dis_Frags.s k a0) (dis_List.ok k) (dis_Frags.ok k)  ) ((w6_known_d _ _ (fun a0 => dis_List.s k a0) (fun a0 => dis_Frags.s k a0) ).trans h)
theorem w6_known.mono : ∀ (k : Nat), Le (w6_known.s k ) (w6_known.s (k + 1) )
  | 0 => fun r h => (nomatch h)
  | k + 1 => w6_known_m (dis_List.mono k) (dis_Frags.mono k) 
noncomputable def w6_known  : Option Bool := lim fun k => w6_known.s k 
theorem w6_known.cv  : Cv (fun k => w6_known.s k ) (w6_known ) := .lim fun k => w6_known.mono k 
theorem w6_known.eq  : w6_known  = w6_known_b dis_List dis_Frags  := Cv.uniq (w6_known.cv ).shift (w6_known_c dis_List.cv dis_Frags.cv )
def w6_within_e (r : Int) : AV × Heap := (.sc (.int .i64 r), [])
def w6_within_b  (a0 : Int) (a1 : Int) : Option Int := (bif (decide (a1 ≠ 0)) then (bif (decide ((Int.tmod a0 a1) < (0 : Int))) then (some (w64 ((Int.tmod a0 a1) + a1))) else (some (Int.tmod a0 a1))) else none)
def w6_within_t (P : Program) (call : CallF)  (a0 : Int) (a1 : Int) : Tr Int (AV × Heap) := (.as (decide (a1 ≠ 0)) (.as (decide ((Int.tmod a0 a1) < (0 : Int))) (rt w6_within_e (w64 ((Int.tmod a0 a1) + a1))) (rt w6_within_e (Int.tmod a0 a1))) .fail)
theorem w6_within_d (P : Program) (call : CallF)  (a0 : Int) (a1 : Int) : (w6_within_t P call  a0 a1).den = w6_within_b  a0 a1 := rfl
theorem w6_within_n (call : CallF)  (a0 : Int) (a1 : Int) : (w6_within_t Tryd.prog call  a0 a1).norm (bodyT Tryd.prog call G 6 [.sc (.int .i64 a0), .sc (.int .i64 a1)] []) = w6_within_t Tryd.prog call  a0 a1 := by kernel_rfl
theorem w6_within_k (P : Program) (call : CallF) (lp : Loops)   (a0 : Int) (a1 : Int) : (w6_within_t P call  a0 a1).ok lp w6_within_e := ⟨rfl, fun hq0 => ⟨rfl, fun hq1 => rfl, fun hq1 => rfl⟩, fun hq0 => trivial⟩
def w6_within.s : Nat → Int → Int → Option Int
  | 0, _, _ => none
  | k + 1, a0, a1 => w6_within_b  a0 a1
theorem w6_within.ok : ∀ (k : Nat), ∀ (a0 : Int) (a1 : Int) (r : Int), w6_within.s k a0 a1 = some r → evalFn Tryd.prog G k 6 [.sc (.int .i64 a0), .sc (.int .i64 a1)] [] = some (w6_within_e r)
  | 0, _, _, _, h => (nomatch h)
  | k + 1, a0, a1, r, h => fn_ok rfl (w6_within_t Tryd.prog (evalFn Tryd.prog G k)  a0 a1) (w6_within_n _  a0 a1) (w6_within_k _ _ _    a0 a1) ((w6_within_d _ _  a0 a1).trans h)
theorem w6_within.mono : ∀ (k : Nat) (a0 : Int) (a1 : Int), Le (w6_within.s k a0 a1) (w6_within.s (k + 1) a0 a1)
  | 0, _, _ => fun r h => (nomatch h)
  | k + 1, a0, a1 => .refl _
noncomputable def w6_within (a0 : Int) (a1 : Int) : Option Int := lim fun k => w6_within.s k a0 a1
theorem w6_within.cv (a0 : Int) (a1 : Int) : Cv (fun k => w6_within.s k a0 a1) (w6_within a0 a1) := .lim fun k => w6_within.mono k a0 a1
theorem w6_within.eq (a0 : Int) (a1 : Int) : w6_within a0 a1 = w6_within_b  a0 a1 := Cv.uniq (w6_within.cv a0 a1).shift (by exact .const _)
def r6_Words_e (r : Bool) : AV × Heap := (.sc (.bool r), [])
structure r6_Words_L1_A where
  x0 : (List ByteArray)
  x1 : (List ByteArray)
  x5 : Int
def r6_Words_L1_s (a : r6_Words_L1_A) : St := { n := 26, nx := 0, env := [(0, .sl (R_string a.x0)), (1, .sl (R_string a.x1)), (5, .sc (.int .i64 a.x5))], heap := [] }
def r6_Words_L1_e0 (a : Bool) : Ex × St := (.ret, { n := 26, nx := 0, env := [(4, .sc (.bool a))], heap := [] })
def r6_Words_L1_e1 (a : Unit) : Ex × St := (.exit 0, { n := 26, nx := 0, env := [], heap := [] })
def r6_Words_L1_e (a : (Bool ⊕ Unit)) : Ex × St := Sum.elim r6_Words_L1_e0 r6_Words_L1_e1 a
def r6_Words_L1_b  (a : r6_Words_L1_A) : Option (r6_Words_L1_A ⊕ (Bool ⊕ Unit)) := (bif (decide (a.x5 < (((a.x0.length) : Nat) : Int))) then (bif (decide (0 ≤ a.x5)) then ((a.x0[(Int.toNat a.x5)]?).bind fun (e1 : ByteArray) => ((a.x1[(Int.toNat a.x5)]?).bind fun (e2 : ByteArray) => (bif (!(eqS e1 e2)) then (some (.inr (.inl false))) else (some (.inl (r6_Words_L1_A.mk a.x0 a.x1 (w64 (a.x5 + (1 : Int))))))))) else none) else (some (.inr (.inr ()))))
def r6_Words_L1_t (P : Program) (call : CallF)  (a : r6_Words_L1_A) : Tr (r6_Words_L1_A ⊕ (Bool ⊕ Unit)) (Ex × St) := (.num ((R_string a.x0).length) (a.x0.length) (.as (decide (a.x5 < (((a.x0.length) : Nat) : Int))) (.as (decide (0 ≤ a.x5)) (.row ((R_string a.x0)[(Int.toNat a.x5)]?) (a.x0[(Int.toNat a.x5)]?) C_string fun (e1 : ByteArray) => (.yes (decide (0 ≤ a.x5)) (.row ((R_string a.x1)[(Int.toNat a.x5)]?) (a.x1[(Int.toNat a.x5)]?) C_string fun (e2 : ByteArray) => (.as (!(eqS e1 e2)) (rx r6_Words_L1_e (.inl false)) (lf r6_Words_L1_s (r6_Words_L1_A.mk a.x0 a.x1 (w64 (a.x5 + (1 : Int))))))))) .fail) (rx r6_Words_L1_e (.inr ()))))
theorem r6_Words_L1_d (P : Program) (call : CallF)  (a : r6_Words_L1_A) : (r6_Words_L1_t P call  a).den = r6_Words_L1_b  a := rfl
theorem r6_Words_L1_n (call : CallF)  (a : r6_Words_L1_A) : (r6_Words_L1_t Tryd.prog call  a).norm (roundT Tryd.prog G.kd call 0 (G.an 7) (loopAt Tryd.prog 7 4) (r6_Words_L1_s a)) = r6_Words_L1_t Tryd.prog call  a := by kernel_rfl
theorem r6_Words_L1_k (P : Program) (call : CallF) (lp : Loops)   (a : r6_Words_L1_A) : (r6_Words_L1_t P call  a).ok lp (Sum.elim (fun a => (.norm, r6_Words_L1_s a)) r6_Words_L1_e) := ⟨(R_string_len _), ⟨rfl, fun hq0 => ⟨rfl, fun hq1 => fun e1 he1 => ⟨R_string_get he1, ⟨hq1, fun e2 he2 => ⟨R_string_get he2, ⟨rfl, fun hq2 => rfl, fun hq2 => rfl⟩⟩⟩⟩, fun hq1 => trivial⟩, fun hq0 => rfl⟩⟩
def r6_Words_L1.s (k : Nat)  : r6_Words_L1_A → Option (Bool ⊕ Unit) := iter (r6_Words_L1_b ) k
theorem r6_Words_L1_ok (call : CallF) (k : Nat)   (a : r6_Words_L1_A) (r : (Bool ⊕ Unit)) (h : r6_Words_L1.s k  a = some r) : loopsF Tryd.prog G.kd call 0 (G.an 7) k (loopAt Tryd.prog 7 4) (r6_Words_L1_s a) = some (r6_Words_L1_e r) :=
  loop_ok (fun a => r6_Words_L1_t Tryd.prog call  a) (fun a => r6_Words_L1_d _ call  a) (fun a => r6_Words_L1_n call  a) (fun a => r6_Words_L1_k _ call _   a) (fun r => by cases r <;> nofun) h
theorem r6_Words_L1.m {j k : Nat} (hj : j ≤ k)    (a : r6_Words_L1_A) : Le (r6_Words_L1.s j  a) (r6_Words_L1.s k  a) := Le.iter (fun a => .refl _) hj a
noncomputable def r6_Words_L1.w  : r6_Words_L1_A → Option (Bool ⊕ Unit) := loopW (r6_Words_L1_b )
theorem r6_Words_L1.cv    (a : r6_Words_L1_A) : Cv (fun k => r6_Words_L1.s k  a) (r6_Words_L1.w  a) := Cv.iter (fun a => by exact .const _) a
def r6_Words_b (l_r6_Words_L1 : r6_Words_L1_A → Option (Bool ⊕ Unit)) (a0 : (List ByteArray)) (a1 : (List ByteArray)) : Option Bool := (bif ((((a0.length) : Nat) : Int) != (((a1.length) : Nat) : Int)) then (some false) else ((l_r6_Words_L1 (r6_Words_L1_A.mk a0 a1 (0 : Int))).bind fun x => Sum.elim (fun (o1 : Bool) => (some o1)) (fun (o2 : Unit) => (some true)) x))
def r6_Words_t (P : Program) (call : CallF) (l_r6_Words_L1 : r6_Words_L1_A → Option (Bool ⊕ Unit)) (a0 : (List ByteArray)) (a1 : (List ByteArray)) : Tr Bool (AV × Heap) := (.num ((R_string a0).length) (a0.length) (.num ((R_string a1).length) (a1.length) (.as ((((a0.length) : Nat) : Int) != (((a1.length) : Nat) : Int)) (rt r6_Words_e false) (.loop2 (loopAt P 7 4) (r6_Words_L1_s (r6_Words_L1_A.mk a0 a1 (0 : Int))) (l_r6_Words_L1 (r6_Words_L1_A.mk a0 a1 (0 : Int))) r6_Words_L1_e0 r6_Words_L1_e1 (fun (o1 : Bool) => (rt r6_Words_e o1)) (fun (o2 : Unit) => (rt r6_Words_e true))))))
theorem r6_Words_d (P : Program) (call : CallF) (l_r6_Words_L1 : r6_Words_L1_A → Option (Bool ⊕ Unit)) (a0 : (List ByteArray)) (a1 : (List ByteArray)) : (r6_Words_t P call l_r6_Words_L1 a0 a1).den = r6_Words_b l_r6_Words_L1 a0 a1 := rfl
theorem r6_Words_n (call : CallF) (l_r6_Words_L1 : r6_Words_L1_A → Option (Bool ⊕ Unit)) (a0 : (List ByteArray)) (a1 : (List ByteArray)) : (r6_Words_t Tryd.prog call l_r6_Words_L1 a0 a1).norm (bodyT Tryd.prog call G 7 [.sl (R_string a0), .sl (R_string a1)] []) = r6_Words_t Tryd.prog call l_r6_Words_L1 a0 a1 := by kernel_rfl
theorem r6_Words_k (P : Program) (call : CallF) (lp : Loops) (l_r6_Words_L1 : r6_Words_L1_A → Option (Bool ⊕ Unit)) (hl_r6_Words_L1 : ∀ (a : r6_Words_L1_A) (r : (Bool ⊕ Unit)), l_r6_Words_L1 a = some r → lp (loopAt P 7 4) (r6_Words_L1_s a) = some (r6_Words_L1_e r)) (a0 : (List ByteArray)) (a1 : (List ByteArray)) : (r6_Words_t P call l_r6_Words_L1 a0 a1).ok lp r6_Words_e := ⟨(R_string_len _), ⟨(R_string_len _), ⟨rfl, fun hq0 => rfl, fun hq0 => ⟨fun o1 ho1 => ⟨hl_r6_Words_L1 _ (.inl _) ho1, rfl⟩, fun o2 ho2 => ⟨hl_r6_Words_L1 _ (.inr _) ho2, rfl⟩⟩⟩⟩⟩
theorem r6_Words_m {l_r6_Words_L1 m_r6_Words_L1 : r6_Words_L1_A → Option (Bool ⊕ Unit)} (hl_r6_Words_L1 : ∀ a, Le (l_r6_Words_L1 a) (m_r6_Words_L1 a)) (a0 : (List ByteArray)) (a1 : (List ByteArray)) : Le (r6_Words_b l_r6_Words_L1 a0 a1) (r6_Words_b m_r6_Words_L1 a0 a1) := by
  unfold r6_Words_b
  exact .cond (.refl _) (.bind (hl_r6_Words_L1 _) fun x => .sum (fun o1 => .refl _) (fun o2 => .refl _) x)
theorem r6_Words_c {l_r6_Words_L1 : Nat → r6_Words_L1_A → Option (Bool ⊕ Unit)} {m_r6_Words_L1 : r6_Words_L1_A → Option (Bool ⊕ Unit)} (hl_r6_Words_L1 : ∀ a, Cv (fun k => l_r6_Words_L1 k a) (m_r6_Words_L1 a)) (a0 : (List ByteArray)) (a1 : (List ByteArray)) : Cv (fun k => r6_Words_b (l_r6_Words_L1 k) a0 a1) (r6_Words_b m_r6_Words_L1 a0 a1) := by
  unfold r6_Words_b
  exact .cond (by exact .const _) (.bind (hl_r6_Words_L1 _) fun x => .sum (fun o1 => by exact .const _) (fun o2 => by exact .const _) x)
def r6_Words.s : Nat → (List ByteArray) → (List ByteArray) → Option Bool
  | 0, _, _ => none
  | k + 1, a0, a1 => r6_Words_b (r6_Words_L1.s k) a0 a1
theorem r6_Words.ok : ∀ (k : Nat), ∀ (a0 : (List ByteArray)) (a1 : (List ByteArray)) (r : Bool), r6_Words.s k a0 a1 = some r → evalFn Tryd.prog G k 7 [.sl (R_string a0), .sl (R_string a1)] [] = some (r6_Words_e r)
  | 0, _, _, _, h => (nomatch h)
  | k + 1, a0, a1, r, h => fn_ok rfl (r6_Words_t Tryd.prog (evalFn Tryd.prog G k) (r6_Words_L1.s k) a0 a1) (r6_Words_n _ (r6_Words_L1.s k) a0 a1) (r6_Words_k _ _ _ (r6_Words_L1.s k)  (r6_Words_L1_ok _ k) a0 a1) ((r6_Words_d _ _ (r6_Words_L1.s k) a0 a1).trans h)
theorem r6_Words.mono : ∀ (k : Nat) (a0 : (List ByteArray)) (a1 : (List ByteArray)), Le (r6_Words.s k a0 a1) (r6_Words.s (k + 1) a0 a1)
  | 0, _, _ => fun r h => (nomatch h)
  | k + 1, a0, a1 => r6_Words_m (r6_Words_L1.m (Nat.le_succ k)) a0 a1
noncomputable def r6_Words (a0 : (List ByteArray)) (a1 : (List ByteArray)) : Option Bool := lim fun k => r6_Words.s k a0 a1
theorem r6_Words.cv (a0 : (List ByteArray)) (a1 : (List ByteArray)) : Cv (fun k => r6_Words.s k a0 a1) (r6_Words a0 a1) := .lim fun k => r6_Words.mono k a0 a1
noncomputable def r6_Words_L1 : r6_Words_L1_A → Option (Bool ⊕ Unit) := r6_Words_L1.w 
theorem r6_Words_L1.eq (a : r6_Words_L1_A) : r6_Words_L1 a = (r6_Words_L1_b  a).bind (Sum.elim r6_Words_L1 some) := loopW_eq _ _
theorem r6_Words.eq (a0 : (List ByteArray)) (a1 : (List ByteArray)) : r6_Words a0 a1 = r6_Words_b r6_Words_L1 a0 a1 := Cv.uniq (r6_Words.cv a0 a1).shift (r6_Words_c (r6_Words_L1.cv) a0 a1)
def w6_DisKnown_e (r : Bool) : AV × Heap := (.sc (.bool r), [])
def w6_DisKnown_b (c_w6_known : Option Bool) (c_w6_within : Int → Int → Option Int) (c_dis_List : (List Int) → Option (List ByteArray)) (c_r6_Words : (List ByteArray) → (List ByteArray) → Option Bool) (a0 : Int) : Option Bool := ((c_w6_known).bind fun (r1 : Bool) => (bif (!r1) then (some false) else ((c_w6_within a0 ((([[(1 : Int), (67 : Int)], [(232 : Int), (128 : Int)], [(232 : Int), (0 : Int)], [(233 : Int), (127 : Int)], [(112 : Int), (127 : Int), (127 : Int), (255 : Int)], [(24 : Int), (100 : Int), (134 : Int), (0 : Int)], [(24 : Int), (100 : Int), (130 : Int), (0 : Int)], [(112 : Int), (127 : Int)], [(240 : Int), (1 : Int)], [(5 : Int)], [(80 : Int), (34 : Int), (255 : Int), (252 : Int)], [(124 : Int), (34 : Int), (26 : Int), (21 : Int)]].length) : Nat) : Int)).bind fun (r2 : Int) => (bif (decide (0 ≤ r2 ∧ r2 < (([[(1 : Int), (67 : Int)], [(232 : Int), (128 : Int)], [(232 : Int), (0 : Int)], [(233 : Int), (127 : Int)], [(112 : Int), (127 : Int), (127 : Int), (255 : Int)], [(24 : Int), (100 : Int), (134 : Int), (0 : Int)], [(24 : Int), (100 : Int), (130 : Int), (0 : Int)], [(112 : Int), (127 : Int)], [(240 : Int), (1 : Int)], [(5 : Int)], [(80 : Int), (34 : Int), (255 : Int), (252 : Int)], [(124 : Int), (34 : Int), (26 : Int), (21 : Int)]].length : Nat) : Int))) then (([[(1 : Int), (67 : Int)], [(232 : Int), (128 : Int)], [(232 : Int), (0 : Int)], [(233 : Int), (127 : Int)], [(112 : Int), (127 : Int), (127 : Int), (255 : Int)], [(24 : Int), (100 : Int), (134 : Int), (0 : Int)], [(24 : Int), (100 : Int), (130 : Int), (0 : Int)], [(112 : Int), (127 : Int)], [(240 : Int), (1 : Int)], [(5 : Int)], [(80 : Int), (34 : Int), (255 : Int), (252 : Int)], [(124 : Int), (34 : Int), (26 : Int), (21 : Int)]][(Int.toNat r2)]?).bind fun (e3 : (List Int)) => ((c_dis_List e3).bind fun (r4 : (List ByteArray)) => (bif (decide (0 ≤ r2 ∧ r2 < (([[h_73655f6d722072332c207234], [h_73655f62202e202d20323536], [h_73655f62202e202b2030], [h_73655f626c202e202b20323534], [h_655f6c692072332c202d31], [h_655f616464692072332c2072342c202d3136373131363831], [h_2e68616c662036323434, h_73655f6c627a2072302c20322c207230], [h_2e68616c66203238373939], [h_2e68616c66203631343431], [h_2e627974652035], [h_655f6c777a2072312c202d342c207232], [h_2e68616c66203331373738, h_2e68616c662036363737]].length : Nat) : Int))) then (([[h_73655f6d722072332c207234], [h_73655f62202e202d20323536], [h_73655f62202e202b2030], [h_73655f626c202e202b20323534], [h_655f6c692072332c202d31], [h_655f616464692072332c2072342c202d3136373131363831], [h_2e68616c662036323434, h_73655f6c627a2072302c20322c207230], [h_2e68616c66203238373939], [h_2e68616c66203631343431], [h_2e627974652035], [h_655f6c777a2072312c202d342c207232], [h_2e68616c66203331373738, h_2e68616c662036363737]][(Int.toNat r2)]?).bind fun (e5 : (List ByteArray)) => ((c_r6_Words r4 e5).bind fun (r6 : Bool) => (some r6))) else none))) else none))))
def w6_DisKnown_t (P : Program) (call : CallF) (c_w6_known : Option Bool) (c_w6_within : Int → Int → Option Int) (c_dis_List : (List Int) → Option (List ByteArray)) (c_r6_Words : (List ByteArray) → (List ByteArray) → Option Bool) (a0 : Int) : Tr Bool (AV × Heap) := (.call (call 5 [] []) (c_w6_known) w6_known_e fun (r1 : Bool) => (.as (!r1) (rt w6_DisKnown_e false) (.rows [[.sc (.int .u8 (1 : Int))], [.sc (.int .u8 (67 : Int))]] (R_u8 [(1 : Int), (67 : Int)]) (.rows [[.sc (.int .u8 (232 : Int))], [.sc (.int .u8 (128 : Int))]] (R_u8 [(232 : Int), (128 : Int)]) (.rows [[.sc (.int .u8 (232 : Int))], [.sc (.int .u8 (0 : Int))]] (R_u8 [(232 : Int), (0 : Int)]) (.rows [[.sc (.int .u8 (233 : Int))], [.sc (.int .u8 (127 : Int))]] (R_u8 [(233 : Int), (127 : Int)]) (.rows [[.sc (.int .u8 (112 : Int))], [.sc (.int .u8 (127 : Int))], [.sc (.int .u8 (127 : Int))], [.sc (.int .u8 (255 : Int))]] (R_u8 [(112 : Int), (127 : Int), (127 : Int), (255 : Int)]) (.rows [[.sc (.int .u8 (24 : Int))], [.sc (.int .u8 (100 : Int))], [.sc (.int .u8 (134 : Int))], [.sc (.int .u8 (0 : Int))]] (R_u8 [(24 : Int), (100 : Int), (134 : Int), (0 : Int)]) (.rows [[.sc (.int .u8 (24 : Int))], [.sc (.int .u8 (100 : Int))], [.sc (.int .u8 (130 : Int))], [.sc (.int .u8 (0 : Int))]] (R_u8 [(24 : Int), (100 : Int), (130 : Int), (0 : Int)]) (.rows [[.sc (.int .u8 (112 : Int))], [.sc (.int .u8 (127 : Int))]] (R_u8 [(112 : Int), (127 : Int)]) (.rows [[.sc (.int .u8 (240 : Int))], [.sc (.int .u8 (1 : Int))]] (R_u8 [(240 : Int), (1 : Int)]) (.rows [[.sc (.int .u8 (5 : Int))]] (R_u8 [(5 : Int)]) (.rows [[.sc (.int .u8 (80 : Int))], [.sc (.int .u8 (34 : Int))], [.sc (.int .u8 (255 : Int))], [.sc (.int .u8 (252 : Int))]] (R_u8 [(80 : Int), (34 : Int), (255 : Int), (252 : Int)]) (.rows [[.sc (.int .u8 (124 : Int))], [.sc (.int .u8 (34 : Int))], [.sc (.int .u8 (26 : Int))], [.sc (.int .u8 (21 : Int))]] (R_u8 [(124 : Int), (34 : Int), (26 : Int), (21 : Int)]) (.rows [[.sl (R_u8 [(1 : Int), (67 : Int)])], [.sl (R_u8 [(232 : Int), (128 : Int)])], [.sl (R_u8 [(232 : Int), (0 : Int)])], [.sl (R_u8 [(233 : Int), (127 : Int)])], [.sl (R_u8 [(112 : Int), (127 : Int), (127 : Int), (255 : Int)])], [.sl (R_u8 [(24 : Int), (100 : Int), (134 : Int), (0 : Int)])], [.sl (R_u8 [(24 : Int), (100 : Int), (130 : Int), (0 : Int)])], [.sl (R_u8 [(112 : Int), (127 : Int)])], [.sl (R_u8 [(240 : Int), (1 : Int)])], [.sl (R_u8 [(5 : Int)])], [.sl (R_u8 [(80 : Int), (34 : Int), (255 : Int), (252 : Int)])], [.sl (R_u8 [(124 : Int), (34 : Int), (26 : Int), (21 : Int)])]] (R_Lu8 [[(1 : Int), (67 : Int)], [(232 : Int), (128 : Int)], [(232 : Int), (0 : Int)], [(233 : Int), (127 : Int)], [(112 : Int), (127 : Int), (127 : Int), (255 : Int)], [(24 : Int), (100 : Int), (134 : Int), (0 : Int)], [(24 : Int), (100 : Int), (130 : Int), (0 : Int)], [(112 : Int), (127 : Int)], [(240 : Int), (1 : Int)], [(5 : Int)], [(80 : Int), (34 : Int), (255 : Int), (252 : Int)], [(124 : Int), (34 : Int), (26 : Int), (21 : Int)]]) (.rows [[.sc (.string h_73655f6d722072332c207234)]] (R_string [h_73655f6d722072332c207234]) (.rows [[.sc (.string h_73655f62202e202d20323536)]] (R_string [h_73655f62202e202d20323536]) (.rows [[.sc (.string h_73655f62202e202b2030)]] (R_string [h_73655f62202e202b2030]) (.rows [[.sc (.string h_73655f626c202e202b20323534)]] (R_string [h_73655f626c202e202b20323534]) (.rows [[.sc (.string h_655f6c692072332c202d31)]] (R_string [h_655f6c692072332c202d31]) (.rows [[.sc (.string h_655f616464692072332c2072342c202d3136373131363831)]] (R_string [h_655f616464692072332c2072342c202d3136373131363831]) (.rows [[.sc (.string h_2e68616c662036323434)], [.sc (.string h_73655f6c627a2072302c20322c207230)]] (R_string [h_2e68616c662036323434, h_73655f6c627a2072302c20322c207230]) (.rows [[.sc (.string h_2e68616c66203238373939)]] (R_string [h_2e68616c66203238373939]) (.rows [[.sc (.string h_2e68616c66203631343431)]] (R_string [h_2e68616c66203631343431]) (.rows [[.sc (.string h_2e627974652035)]] (R_string [h_2e627974652035]) (.rows [[.sc (.string h_655f6c777a2072312c202d342c207232)]] (R_string [h_655f6c777a2072312c202d342c207232]) (.rows [[.sc (.string h_2e68616c66203331373738)], [.sc (.string h_2e68616c662036363737)]] (R_string [h_2e68616c66203331373738, h_2e68616c662036363737]) (.rows [[.sl (R_string [h_73655f6d722072332c207234])], [.sl (R_string [h_73655f62202e202d20323536])], [.sl (R_string [h_73655f62202e202b2030])], [.sl (R_string [h_73655f626c202e202b20323534])], [.sl (R_string [h_655f6c692072332c202d31])], [.sl (R_string [h_655f616464692072332c2072342c202d3136373131363831])], [.sl (R_string [h_2e68616c662036323434, h_73655f6c627a2072302c20322c207230])], [.sl (R_string [h_2e68616c66203238373939])], [.sl (R_string [h_2e68616c66203631343431])], [.sl (R_string [h_2e627974652035])], [.sl (R_string [h_655f6c777a2072312c202d342c207232])], [.sl (R_string [h_2e68616c66203331373738, h_2e68616c662036363737])]] (R_Lstring [[h_73655f6d722072332c207234], [h_73655f62202e202d20323536], [h_73655f62202e202b2030], [h_73655f626c202e202b20323534], [h_655f6c692072332c202d31], [h_655f616464692072332c2072342c202d3136373131363831], [h_2e68616c662036323434, h_73655f6c627a2072302c20322c207230], [h_2e68616c66203238373939], [h_2e68616c66203631343431], [h_2e627974652035], [h_655f6c777a2072312c202d342c207232], [h_2e68616c66203331373738, h_2e68616c662036363737]]) (.num ((R_Lu8 [[(1 : Int), (67 : Int)], [(232 : Int), (128 : Int)], [(232 : Int), (0 : Int)], [(233 : Int), (127 : Int)], [(112 : Int), (127 : Int), (127 : Int), (255 : Int)], [(24 : Int), (100 : Int), (134 : Int), (0 : Int)], [(24 : Int), (100 : Int), (130 : Int), (0 : Int)], [(112 : Int), (127 : Int)], [(240 : Int), (1 : Int)], [(5 : Int)], [(80 : Int), (34 : Int), (255 : Int), (252 : Int)], [(124 : Int), (34 : Int), (26 : Int), (21 : Int)]]).length) ([[(1 : Int), (67 : Int)], [(232 : Int), (128 : Int)], [(232 : Int), (0 : Int)], [(233 : Int), (127 : Int)], [(112 : Int), (127 : Int), (127 : Int), (255 : Int)], [(24 : Int), (100 : Int), (134 : Int), (0 : Int)], [(24 : Int), (100 : Int), (130 : Int), (0 : Int)], [(112 : Int), (127 : Int)], [(240 : Int), (1 : Int)], [(5 : Int)], [(80 : Int), (34 : Int), (255 : Int), (252 : Int)], [(124 : Int), (34 : Int), (26 : Int), (21 : Int)]].length) (.call (call 6 [.sc (.int .i64 a0), .sc (.int .i64 ((([[(1 : Int), (67 : Int)], [(232 : Int), (128 : Int)], [(232 : Int), (0 : Int)], [(233 : Int), (127 : Int)], [(112 : Int), (127 : Int), (127 : Int), (255 : Int)], [(24 : Int), (100 : Int), (134 : Int), (0 : Int)], [(24 : Int), (100 : Int), (130 : Int), (0 : Int)], [(112 : Int), (127 : Int)], [(240 : Int), (1 : Int)], [(5 : Int)], [(80 : Int), (34 : Int), (255 : Int), (252 : Int)], [(124 : Int), (34 : Int), (26 : Int), (21 : Int)]].length) : Nat) : Int))] []) (c_w6_within a0 ((([[(1 : Int), (67 : Int)], [(232 : Int), (128 : Int)], [(232 : Int), (0 : Int)], [(233 : Int), (127 : Int)], [(112 : Int), (127 : Int), (127 : Int), (255 : Int)], [(24 : Int), (100 : Int), (134 : Int), (0 : Int)], [(24 : Int), (100 : Int), (130 : Int), (0 : Int)], [(112 : Int), (127 : Int)], [(240 : Int), (1 : Int)], [(5 : Int)], [(80 : Int), (34 : Int), (255 : Int), (252 : Int)], [(124 : Int), (34 : Int), (26 : Int), (21 : Int)]].length) : Nat) : Int)) w6_within_e fun (r2 : Int) => (.ask (decide (0 ≤ r2 ∧ r2 < (((R_Lu8 [[(1 : Int), (67 : Int)], [(232 : Int), (128 : Int)], [(232 : Int), (0 : Int)], [(233 : Int), (127 : Int)], [(112 : Int), (127 : Int), (127 : Int), (255 : Int)], [(24 : Int), (100 : Int), (134 : Int), (0 : Int)], [(24 : Int), (100 : Int), (130 : Int), (0 : Int)], [(112 : Int), (127 : Int)], [(240 : Int), (1 : Int)], [(5 : Int)], [(80 : Int), (34 : Int), (255 : Int), (252 : Int)], [(124 : Int), (34 : Int), (26 : Int), (21 : Int)]]).length : Nat) : Int))) (decide (0 ≤ r2 ∧ r2 < (([[(1 : Int), (67 : Int)], [(232 : Int), (128 : Int)], [(232 : Int), (0 : Int)], [(233 : Int), (127 : Int)], [(112 : Int), (127 : Int), (127 : Int), (255 : Int)], [(24 : Int), (100 : Int), (134 : Int), (0 : Int)], [(24 : Int), (100 : Int), (130 : Int), (0 : Int)], [(112 : Int), (127 : Int)], [(240 : Int), (1 : Int)], [(5 : Int)], [(80 : Int), (34 : Int), (255 : Int), (252 : Int)], [(124 : Int), (34 : Int), (26 : Int), (21 : Int)]].length : Nat) : Int))) (.row ((R_Lu8 [[(1 : Int), (67 : Int)], [(232 : Int), (128 : Int)], [(232 : Int), (0 : Int)], [(233 : Int), (127 : Int)], [(112 : Int), (127 : Int), (127 : Int), (255 : Int)], [(24 : Int), (100 : Int), (134 : Int), (0 : Int)], [(24 : Int), (100 : Int), (130 : Int), (0 : Int)], [(112 : Int), (127 : Int)], [(240 : Int), (1 : Int)], [(5 : Int)], [(80 : Int), (34 : Int), (255 : Int), (252 : Int)], [(124 : Int), (34 : Int), (26 : Int), (21 : Int)]])[(Int.toNat r2)]?) ([[(1 : Int), (67 : Int)], [(232 : Int), (128 : Int)], [(232 : Int), (0 : Int)], [(233 : Int), (127 : Int)], [(112 : Int), (127 : Int), (127 : Int), (255 : Int)], [(24 : Int), (100 : Int), (134 : Int), (0 : Int)], [(24 : Int), (100 : Int), (130 : Int), (0 : Int)], [(112 : Int), (127 : Int)], [(240 : Int), (1 : Int)], [(5 : Int)], [(80 : Int), (34 : Int), (255 : Int), (252 : Int)], [(124 : Int), (34 : Int), (26 : Int), (21 : Int)]][(Int.toNat r2)]?) C_Lu8 fun (e3 : (List Int)) => (.call (call 8 [.sl (R_u8 e3)] []) (c_dis_List e3) dis_List_e fun (r4 : (List ByteArray)) => (.ask (decide (0 ≤ r2 ∧ r2 < (((R_Lstring [[h_73655f6d722072332c207234], [h_73655f62202e202d20323536], [h_73655f62202e202b2030], [h_73655f626c202e202b20323534], [h_655f6c692072332c202d31], [h_655f616464692072332c2072342c202d3136373131363831], [h_2e68616c662036323434, h_73655f6c627a2072302c20322c207230], [h_2e68616c66203238373939], [h_2e68616c66203631343431], [h_2e627974652035], [h_655f6c777a2072312c202d342c207232], [h_2e68616c66203331373738, h_2e68616c662036363737]]).length : Nat) : Int))) (decide (0 ≤ r2 ∧ r2 < (([[h_73655f6d722072332c207234], [h_73655f62202e202d20323536], [h_73655f62202e202b2030], [h_73655f626c202e202b20323534], [h_655f6c692072332c202d31], [h_655f616464692072332c2072342c202d3136373131363831], [h_2e68616c662036323434, h_73655f6c627a2072302c20322c207230], [h_2e68616c66203238373939], [h_2e68616c66203631343431], [h_2e627974652035], [h_655f6c777a2072312c202d342c207232], [h_2e68616c66203331373738, h_2e68616c662036363737]].length : Nat) : Int))) (.row ((R_Lstring [[h_73655f6d722072332c207234], [h_73655f62202e202d20323536], [h_73655f62202e202b2030], [h_73655f626c202e202b20323534], [h_655f6c692072332c202d31], [h_655f616464692072332c2072342c202d3136373131363831], [h_2e68616c662036323434, h_73655f6c627a2072302c20322c207230], [h_2e68616c66203238373939], [h_2e68616c66203631343431], [h_2e627974652035], [h_655f6c777a2072312c202d342c207232], [h_2e68616c66203331373738, h_2e68616c662036363737]])[(Int.toNat r2)]?) ([[h_73655f6d722072332c207234], [h_73655f62202e202d20323536], [h_73655f62202e202b2030], [h_73655f626c202e202b20323534], [h_655f6c692072332c202d31], [h_655f616464692072332c2072342c202d3136373131363831], [h_2e68616c662036323434, h_73655f6c627a2072302c20322c207230], [h_2e68616c66203238373939], [h_2e68616c66203631343431], [h_2e627974652035], [h_655f6c777a2072312c202d342c207232], [h_2e68616c66203331373738, h_2e68616c662036363737]][(Int.toNat r2)]?) C_Lstring fun (e5 : (List ByteArray)) => (.call (call 7 [.sl (R_string r4), .sl (R_string e5)] []) (c_r6_Words r4 e5) r6_Words_e fun (r6 : Bool) => (rt w6_DisKnown_e r6))) .fail))) .fail)))))))))))))))))))))))))))))))
theorem w6_DisKnown_d (P : Program) (call : CallF) (c_w6_known : Option Bool) (c_w6_within : Int → Int → Option Int) (c_dis_List : (List Int) → Option (List ByteArray)) (c_r6_Words : (List ByteArray) → (List ByteArray) → Option Bool) (a0 : Int) : (w6_DisKnown_t P call c_w6_known c_w6_within c_dis_List c_r6_Words a0).den = w6_DisKnown_b c_w6_known c_w6_within c_dis_List c_r6_Words a0 := rfl
theorem w6_DisKnown_n (call : CallF) (c_w6_known : Option Bool) (c_w6_within : Int → Int → Option Int) (c_dis_List : (List Int) → Option (List ByteArray)) (c_r6_Words : (List ByteArray) → (List ByteArray) → Option Bool) (a0 : Int) : (w6_DisKnown_t Tryd.prog call c_w6_known c_w6_within c_dis_List c_r6_Words a0).norm (bodyT Tryd.prog call G 3 [.sc (.int .i64 a0)] []) = w6_DisKnown_t Tryd.prog call c_w6_known c_w6_within c_dis_List c_r6_Words a0 := by kernel_rfl
theorem w6_DisKnown_k (P : Program) (call : CallF) (lp : Loops) (c_w6_known : Option Bool) (c_w6_within : Int → Int → Option Int) (c_dis_List : (List Int) → Option (List ByteArray)) (c_r6_Words : (List ByteArray) → (List ByteArray) → Option Bool) (hc_w6_known : ∀  (r : Bool), c_w6_known = some r → (call 5 [] []) = some (w6_known_e r)) (hc_w6_within : ∀ (a0 : Int) (a1 : Int) (r : Int), c_w6_within a0 a1 = some r → (call 6 [.sc (.int .i64 a0), .sc (.int .i64 a1)] []) = some (w6_within_e r)) (hc_dis_List : ∀ (a0 : (List Int)) (r : (List ByteArray)), c_dis_List a0 = some r → (call 8 [.sl (R_u8 a0)] []) = some (dis_List_e r)) (hc_r6_Words : ∀ (a0 : (List ByteArray)) (a1 : (List ByteArray)) (r : Bool), c_r6_Words a0 a1 = some r → (call 7 [.sl (R_string a0), .sl (R_string a1)] []) = some (r6_Words_e r)) (a0 : Int) : (w6_DisKnown_t P call c_w6_known c_w6_within c_dis_List c_r6_Words a0).ok lp w6_DisKnown_e := fun r1 hr1 => ⟨hc_w6_known _ hr1, ⟨rfl, fun hq0 => rfl, fun hq0 => ⟨(R_u8_map [(1 : Int), (67 : Int)]), ⟨(R_u8_map [(232 : Int), (128 : Int)]), ⟨(R_u8_map [(232 : Int), (0 : Int)]), ⟨(R_u8_map [(233 : Int), (127 : Int)]), ⟨(R_u8_map [(112 : Int), (127 : Int), (127 : Int), (255 : Int)]), ⟨(R_u8_map [(24 : Int), (100 : Int), (134 : Int), (0 : Int)]), ⟨(R_u8_map [(24 : Int), (100 : Int), (130 : Int), (0 : Int)]), ⟨(R_u8_map [(112 : Int), (127 : Int)]), ⟨(R_u8_map [(240 : Int), (1 : Int)]), ⟨(R_u8_map [(5 : Int)]), ⟨(R_u8_map [(80 : Int), (34 : Int), (255 : Int), (252 : Int)]), ⟨(R_u8_map [(124 : Int), (34 : Int), (26 : Int), (21 : Int)]), ⟨(R_Lu8_map [[(1 : Int), (67 : Int)], [(232 : Int), (128 : Int)], [(232 : Int), (0 : Int)], [(233 : Int), (127 : Int)], [(112 : Int), (127 : Int), (127 : Int), (255 : Int)], [(24 : Int), (100 : Int), (134 : Int), (0 : Int)], [(24 : Int), (100 : Int), (130 : Int), (0 : Int)], [(112 : Int), (127 : Int)], [(240 : Int), (1 : Int)], [(5 : Int)], [(80 : Int), (34 : Int), (255 : Int), (252 : Int)], [(124 : Int), (34 : Int), (26 : Int), (21 : Int)]]), ⟨(R_string_map [h_73655f6d722072332c207234]), ⟨(R_string_map [h_73655f62202e202d20323536]), ⟨(R_string_map [h_73655f62202e202b2030]), ⟨(R_string_map [h_73655f626c202e202b20323534]), ⟨(R_string_map [h_655f6c692072332c202d31]), ⟨(R_string_map [h_655f616464692072332c2072342c202d3136373131363831]), ⟨(R_string_map [h_2e68616c662036323434, h_73655f6c627a2072302c20322c207230]), ⟨(R_string_map [h_2e68616c66203238373939]), ⟨(R_string_map [h_2e68616c66203631343431]), ⟨(R_string_map [h_2e627974652035]), ⟨(R_string_map [h_655f6c777a2072312c202d342c207232]), ⟨(R_string_map [h_2e68616c66203331373738, h_2e68616c662036363737]), ⟨(R_Lstring_map [[h_73655f6d722072332c207234], [h_73655f62202e202d20323536], [h_73655f62202e202b2030], [h_73655f626c202e202b20323534], [h_655f6c692072332c202d31], [h_655f616464692072332c2072342c202d3136373131363831], [h_2e68616c662036323434, h_73655f6c627a2072302c20322c207230], [h_2e68616c66203238373939], [h_2e68616c66203631343431], [h_2e627974652035], [h_655f6c777a2072312c202d342c207232], [h_2e68616c66203331373738, h_2e68616c662036363737]]), ⟨(R_Lu8_len _), fun r2 hr2 => ⟨hc_w6_within _ _ _ hr2, ⟨(by rw [R_Lu8_len]), fun hq1 => fun e3 he3 => ⟨R_Lu8_get he3, fun r4 hr4 => ⟨hc_dis_List _ _ hr4, ⟨(by rw [R_Lstring_len]), fun hq2 => fun e5 he5 => ⟨R_Lstring_get he5, fun r6 hr6 => ⟨hc_r6_Words _ _ _ hr6, rfl⟩⟩, fun hq2 => trivial⟩⟩⟩, fun hq1 => trivial⟩⟩⟩⟩⟩⟩⟩⟩⟩⟩⟩⟩⟩⟩⟩⟩⟩⟩⟩⟩⟩⟩⟩⟩⟩⟩⟩⟩⟩⟩⟩
theorem w6_DisKnown_m {c_w6_known d_w6_known : Option Bool} (h_w6_known : Le (c_w6_known ) (d_w6_known )) {c_w6_within d_w6_within : Int → Int → Option Int} (h_w6_within : ∀ (a0 : Int) (a1 : Int), Le (c_w6_within a0 a1) (d_w6_within a0 a1)) {c_dis_List d_dis_List : (List Int) → Option (List ByteArray)} (h_dis_List : ∀ (a0 : (List Int)), Le (c_dis_List a0) (d_dis_List a0)) {c_r6_Words d_r6_Words : (List ByteArray) → (List ByteArray) → Option Bool} (h_r6_Words : ∀ (a0 : (List ByteArray)) (a1 : (List ByteArray)), Le (c_r6_Words a0 a1) (d_r6_Words a0 a1)) (a0 : Int) : Le (w6_DisKnown_b c_w6_known c_w6_within c_dis_List c_r6_Words a0) (w6_DisKnown_b d_w6_known d_w6_within d_dis_List d_r6_Words a0) := by
  unfold w6_DisKnown_b
  exact .bind (h_w6_known) fun r1 => .cond (.refl _) (.bind (h_w6_within _ _) fun r2 => .cond (.bind (.refl ([[(1 : Int), (67 : Int)], [(232 : Int), (128 : Int)], [(232 : Int), (0 : Int)], [(233 : Int), (127 : Int)], [(112 : Int), (127 : Int), (127 : Int), (255 : Int)], [(24 : Int), (100 : Int), (134 : Int), (0 : Int)], [(24 : Int), (100 : Int), (130 : Int), (0 : Int)], [(112 : Int), (127 : Int)], [(240 : Int), (1 : Int)], [(5 : Int)], [(80 : Int), (34 : Int), (255 : Int), (252 : Int)], [(124 : Int), (34 : Int), (26 : Int), (21 : Int)]][(Int.toNat r2)]?)) fun e3 => .bind (h_dis_List _) fun r4 => .cond (.bind (.refl ([[h_73655f6d722072332c207234], [h_73655f62202e202d20323536], [h_73655f62202e202b2030], [h_73655f626c202e202b20323534], [h_655f6c692072332c202d31], [h_655f616464692072332c2072342c202d3136373131363831], [h_2e68616c662036323434, h_73655f6c627a2072302c20322c207230], [h_2e68616c66203238373939], [h_2e68616c66203631343431], [h_2e627974652035], [h_655f6c777a2072312c202d342c207232], [h_2e68616c66203331373738, h_2e68616c662036363737]][(Int.toNat r2)]?)) fun e5 => .bind (h_r6_Words _ _) fun r6 => .refl _) (.refl _)) (.refl _))
theorem w6_DisKnown_c {c_w6_known : Nat → Option Bool} {d_w6_known : Option Bool} (h_w6_known : Cv (fun k => c_w6_known k ) (d_w6_known )) {c_w6_within : Nat → Int → Int → Option Int} {d_w6_within : Int → Int → Option Int} (h_w6_within : ∀ (a0 : Int) (a1 : Int), Cv (fun k => c_w6_within k a0 a1) (d_w6_within a0 a1)) {c_dis_List : Nat → (List Int) → Option (List ByteArray)} {d_dis_List : (List Int) → Option (List ByteArray)} (h_dis_List : ∀ (a0 : (List Int)), Cv (fun k => c_dis_List k a0) (d_dis_List a0)) {c_r6_Words : Nat → (List ByteArray) → (List ByteArray) → Option Bool} {d_r6_Words : (List ByteArray) → (List ByteArray) → Option Bool} (h_r6_Words : ∀ (a0 : (List ByteArray)) (a1 : (List ByteArray)), Cv (fun k => c_r6_Words k a0 a1) (d_r6_Words a0 a1)) (a0 : Int) : Cv (fun k => w6_DisKnown_b (c_w6_known k) (c_w6_within k) (c_dis_List k) (c_r6_Words k) a0) (w6_DisKnown_b d_w6_known d_w6_within d_dis_List d_r6_Words a0) := by
  unfold w6_DisKnown_b
  exact .bind (h_w6_known) fun r1 => .cond (by exact .const _) (.bind (h_w6_within _ _) fun r2 => .cond (.bind (.const ([[(1 : Int), (67 : Int)], [(232 : Int), (128 : Int)], [(232 : Int), (0 : Int)], [(233 : Int), (127 : Int)], [(112 : Int), (127 : Int), (127 : Int), (255 : Int)], [(24 : Int), (100 : Int), (134 : Int), (0 : Int)], [(24 : Int), (100 : Int), (130 : Int), (0 : Int)], [(112 : Int), (127 : Int)], [(240 : Int), (1 : Int)], [(5 : Int)], [(80 : Int), (34 : Int), (255 : Int), (252 : Int)], [(124 : Int), (34 : Int), (26 : Int), (21 : Int)]][(Int.toNat r2)]?)) fun e3 => .bind (h_dis_List _) fun r4 => .cond (.bind (.const ([[h_73655f6d722072332c207234], [h_73655f62202e202d20323536], [h_73655f62202e202b2030], [h_73655f626c202e202b20323534], [h_655f6c692072332c202d31], [h_655f616464692072332c2072342c202d3136373131363831], [h_2e68616c662036323434, h_73655f6c627a2072302c20322c207230], [h_2e68616c66203238373939], [h_2e68616c66203631343431], [h_2e627974652035], [h_655f6c777a2072312c202d342c207232], [h_2e68616c66203331373738, h_2e68616c662036363737]][(Int.toNat r2)]?)) fun e5 => .bind (h_r6_Words _ _) fun r6 => by exact .const _) (by exact .const _)) (by exact .const _))
def w6_DisKnown.s : Nat → Int → Option Bool
  | 0, _ => none
  | k + 1, a0 => w6_DisKnown_b (w6_known.s k) (fun a0 a1 => w6_within.s k a0 a1) (fun a0 => dis_List.s k a0) (fun a0 a1 => r6_Words.s k a0 a1) a0
theorem w6_DisKnown.ok : ∀ (k : Nat), ∀ (a0 : Int) (r : Bool), w6_DisKnown.s k a0 = some r → evalFn Tryd.prog G k 3 [.sc (.int .i64 a0)] [] = some (w6_DisKnown_e r)
  | 0, _, _, h => (nomatch h)
  | k + 1, a0, r, h => fn_ok rfl (w6_DisKnown_t Tryd.prog (evalFn Tryd.prog G k) (w6_known.s k) (fun a0 a1 => w6_within.s k a0 a1) (fun a0 => dis_List.s k a0) (fun a0 a1 => r6_Words.s k a0 a1) a0) (w6_DisKnown_n _ (w6_known.s k) (fun a0 a1 => w6_within.s k a0 a1) (fun a0 => dis_List.s k a0) (fun a0 a1 => r6_Words.s k a0 a1) a0) (w6_DisKnown_k _ _ _ (w6_known.s k) (fun a0 a1 => w6_within.s k a0 a1) (fun a0 => dis_List.s k a0) (fun a0 a1 => r6_Words.s k a0 a1) (w6_known.ok k) (w6_within.ok k) (dis_List.ok k) (r6_Words.ok k)  a0) ((w6_DisKnown_d _ _ (w6_known.s k) (fun a0 a1 => w6_within.s k a0 a1) (fun a0 => dis_List.s k a0) (fun a0 a1 => r6_Words.s k a0 a1) a0).trans h)
theorem w6_DisKnown.mono : ∀ (k : Nat) (a0 : Int), Le (w6_DisKnown.s k a0) (w6_DisKnown.s (k + 1) a0)
  | 0, _ => fun r h => (nomatch h)
  | k + 1, a0 => w6_DisKnown_m (w6_known.mono k) (w6_within.mono k) (dis_List.mono k) (r6_Words.mono k) a0
noncomputable def w6_DisKnown (a0 : Int) : Option Bool := lim fun k => w6_DisKnown.s k a0
theorem w6_DisKnown.cv (a0 : Int) : Cv (fun k => w6_DisKnown.s k a0) (w6_DisKnown a0) := .lim fun k => w6_DisKnown.mono k a0
theorem w6_DisKnown.eq (a0 : Int) : w6_DisKnown a0 = w6_DisKnown_b w6_known w6_within dis_List r6_Words a0 := Cv.uniq (w6_DisKnown.cv a0).shift (w6_DisKnown_c w6_known.cv w6_within.cv dis_List.cv r6_Words.cv a0)
theorem w6_DisKnown.run (a0 : Int) {r : Bool} (h : w6_DisKnown a0 = some r) : ∃ k, evalFn Tryd.prog G k 3 [.sc (.int .i64 a0)] [] = some (w6_DisKnown_e r) :=
  let ⟨k, hk⟩ := ((w6_DisKnown.cv a0).2 r).1 h
  ⟨k, w6_DisKnown.ok k a0 r hk⟩

end Go.Ab
namespace Go.Ab
/-- a cell that holds some int, for good -/
def cellT (g : Nat) : Told := ⟨fun Z w => Z g 0 ∧ ∃ m, w.cell? ⟨g, 0, none⟩ = some (.int .i64 m), fun h k => ⟨(k g 0 h.1).1, by rw [(k g 0 h.1).2]; exact h.2⟩⟩
theorem cellT_old {g : Nat} {w : World} (h : ∃ m, w.cell? ⟨g, 0, none⟩ = some (.int .i64 m)) : (cellT g).T (oldCtx w).Z w := by
  refine ⟨?_, h⟩
  obtain ⟨m, h⟩ := h
  show g < w.heap.size
  unfold World.cell? at h
  split at h
  · rename_i e; exact (Array.getElem?_eq_some_iff.1 e).1
  · cases h
theorem returns_shaped {H : Type} {enc : TypeId × Value → H} {a : Assume} {C : Checked} {os : Os} {f : FuncId} {fn : Func} {s : ChangeSpec} {conds : List PathCond} {apart fresh handsOn again : Bool} {X : World → Array Value → Prop}
    (hX : ∀ (w w' : World) (args : Array Value), w.heap = w'.heap → X w args → X w' args)
    (own : ownKnob C.prog.godebug = none) (started : os.Started) (noInit : C.prog.inits.idxOf? f = none) (hfn : C.prog.funcs[f]? = some fn)
    (witness : ∃ (w : World) (tape : Tape) (i : Input), w.os = os ∧ (w.forCall tape i).Shaped C.prog ∧ i.vars = [] ∧ Input.okWide C.prog (w.forCall tape i) .any w.heap.size f i ∧
      ((s.pre enc C.prog fn conds apart (w.forCall tape i).memory i.args ∧ X (w.forCall tape i).memory i.args) ∧ sizedMet enc C.prog fn (OpenSpec.ofChange s) apart (w.forCall tape i).memory i.args) ∧ a.holds C.prog (lone (Frame.enter C.prog f i.args .normal) [] (w.forCall tape i)))
    (contract : ∀ (W : World) (base : Nat) (args : Array Value) (ds gs : List (DataW H)) (before : List MemPlace),
      (∀ (j : Nat) t v, fn.params[j]? = some t → args[j]? = some v → Value.okWide C.prog W .any base t v) →
      DataW.Whole enc C.prog fn.params.toList s.vars apart W args.toList ds gs before →
      conds.all (PathCond.test C.prog ⟨fn.params.toList, ds, s.plain.varTypes C.prog, gs⟩) = true →
      (DataW.weightsEach C.prog (fn.params.toList ++ s.plain.varTypes C.prog) (ds ++ gs)).all (· ≤ reachBytes) = true → (X W args ∧ W.ShapedOpen C.prog) →
      a.holds C.prog (lone (Frame.enter C.prog f args .normal) [] W) →
      Calls C.prog f args W fun e W' => ∃ v, e = .returned v ∧ s.post enc C.prog fn apart fresh handsOn again W args v W') :
    ReturnsInHanded a C os f .any (fun w args => (s.pre enc C.prog fn conds apart w args ∧ X w args) ∧ sizedMet enc C.prog fn (OpenSpec.ofChange s) apart w args) (s.post enc C.prog fn apart fresh handsOn again) := by
  refine returnsInHanded_of_calls own started noInit witness ?_
  intro w tape i _ hsh _ hok hpre hholds
  obtain ⟨_, _, _, fn', hfn', _, _, _, _, hval⟩ := hok
  have e : fn' = fn := Option.some.inj (hfn'.symm.trans hfn)
  subst e
  obtain ⟨⟨⟨ds, gs, before, hw, hc⟩, hx⟩, hz⟩ := hpre
  have hw' := DataW.Whole.of_heap (w' := w.forCall tape i) (by rfl) hw
  refine (contract (w.forCall tape i) w.heap.size i.args ds gs before hval hw' hc (hz.weights hw) ⟨hX _ _ _ (by rfl) hx, hsh⟩ hholds).mono fun e W' ⟨v, he, hp⟩ => ?_
  subst he
  exact ChangeSpec.post_blind hp
end Go.Ab
namespace Go.Proofs.YtpebnjoklniikaaDoor
open Go Go.Ab Go.RowKit Go.Shelf
theorem gPow : Tryd.prog.globalNamed "internal/strconv.uint64pow10" = some 2 := by kernel_rfl
theorem tPow : (Tryd.prog.globals[2]?).map (·.type) = some 139 := by kernel_rfl
theorem cells_u64 : Tryd.prog.cellsOf 112 = 1 := by kernel_rfl
theorem cells_pow : Tryd.prog.cellsOf 139 = 20 := by kernel_rfl
theorem datumP {H : Type} : (Rows.laid_internal_strconv_uint64pow10 : DataW H) = Lib.tabData .u64 Lib.pow10Tab := by kernel_rfl
theorem gSp : Tryd.prog.globalNamed "strings.asciiSpace" = some 0 := by kernel_rfl
theorem tSp : (Tryd.prog.globals[0]?).map (·.type) = some 82 := by kernel_rfl
theorem cells_u8 : Tryd.prog.cellsOf 5 = 1 := by kernel_rfl
theorem cells_sp : Tryd.prog.cellsOf 82 = 256 := by kernel_rfl
theorem datumS {H : Type} : (Rows.laid_strings_asciiSpace : DataW H) = Lib.tabData .u8 Lib.asciiSpaceTab := by kernel_rfl
def told : Ab.Told := ((told1 Tryd.prog "internal/strconv.uint64pow10" 2 (Lib.pow10Tab.map fun z => Value.int .u64 z).toArray).both (told1 Tryd.prog "strings.asciiSpace" 0 (Lib.asciiSpaceTab.map fun z => Value.int .u8 z).toArray)).both (cellT 4)
theorem told_of {W : World} (h : laidMetH Tryd.prog [("math/bits.deBruijn32tab", Rows.laid_math_bits_deBruijn32tab), ("math/bits.deBruijn64tab", Rows.laid_math_bits_deBruijn64tab), ("internal/strconv.uint64pow10", Rows.laid_internal_strconv_uint64pow10), ("unicode.White_Space", Rows.laid_unicode_White_Space), ("strings.asciiSpace", Rows.laid_strings_asciiSpace)] W ∧ W.ShapedOpen Tryd.prog) : told.T (oldCtx W).Z W := by
  obtain ⟨h, hs⟩ := h
  rw [MakeChecks.laidMetH_plain _ _ _ (by kernel_rfl)] at h
  obtain ⟨ps, ⟨g0, t0, cs0, f0, p0, q0, hg0, ht0, hv0, hd0, ⟨g1, t1, cs1, f1, p1, q1, hg1, ht1, hv1, hd1, ⟨g2, t2, cs2, f2, p2, q2, hg2, ht2, hv2, hd2, ⟨g3, t3, cs3, f3, p3, q3, hg3, ht3, hv3, hd3, ⟨g4, t4, cs4, f4, p4, q4, hg4, ht4, hv4, hd4, _⟩, _⟩, _⟩, _⟩, _⟩, _⟩ := h
  refine ⟨⟨?_, ?_⟩, ?_⟩
  · obtain rfl := Option.some.inj (gPow.symm.trans hg2)
    obtain rfl := Option.some.inj (tPow.symm.trans ht2)
    rw [datumP] at hd2
    refine tabT_old gPow (hv2.trans ?_) (by decide)
    have := Lib.cells_of_tab Tryd.underlying139 Tryd.underlying112 cells_u64 cells_pow hd2
    rw [← this]
  · obtain rfl := Option.some.inj (gSp.symm.trans hg4)
    obtain rfl := Option.some.inj (tSp.symm.trans ht4)
    rw [datumS] at hd4
    refine tabT_old gSp (hv4.trans ?_) (of_decide_eq_true (by kernel_rfl))
    have := Lib.cells_of_tab Tryd.underlying82 Tryd.underlying5 cells_u8 cells_sp hd4
    rw [← this]
  · exact cellT_old (cell_of_shapedOpen_int (P := Tryd.prog) (t := 3) (zero := #[.int .i64 0]) hs (by decide +kernel) (by kernel_rfl) rfl (by kernel_rfl) (by kernel_rfl) Tryd.underlying3)
set_option maxHeartbeats 2000000 in
set_option maxRecDepth 100000 in
theorem cli_nil (n c : Nat) (w : World) : Calls Tryd.prog 28 #[.slice none n c] w fun e w' => e = .returned (.slice none 0 0) ∧ w' = w := by
  have mixed : Tryd.prog.follows .mixedOrders = true := by kernel_rfl
  have t0 := Tryd.underlying3; have a0 := Tryd.isAgg3; have z0 := Tryd.sizeOf3; have v0 := Tryd.zeroValue3; have t1 := Tryd.underlying47; have a1 := Tryd.isAgg47; have z1 := Tryd.sizeOf47; have v1 := Tryd.zeroValue47; have t2 := Tryd.underlying4; have a2 := Tryd.isAgg4; have z2 := Tryd.sizeOf4; have v2 := Tryd.zeroValue4
  have q22 : ∀ (w : World) (a : Option Addr) (n c n' c' : Nat), (binOp .eql 47 (.slice a n c) (.slice none n' c')).run Tryd.prog w = .ok (.bool a.isNone) w := fun w a n c n' c' => Lib.run_eql_slice_nil w _ _ a n c n' c' t1
  go_enter Tryd.func28, Tryd.ntmps28
  go_wp2
  go_ret
  exact ⟨rfl, rfl⟩
set_option maxHeartbeats 2000000 in
set_option maxRecDepth 100000 in
theorem cli_zero (a : Addr) (c : Nat) (w : World) : Calls Tryd.prog 28 #[.slice (some a) 0 c] w fun e w' => ∃ v', e = .returned v' ∧ w'.ownsRow w.heap.size 3 1 v' 0 [] ∧ Below w.heap.size w w' := by
  have mixed : Tryd.prog.follows .mixedOrders = true := by kernel_rfl
  have t0 := Tryd.underlying3; have a0 := Tryd.isAgg3; have z0 := Tryd.sizeOf3; have v0 := Tryd.zeroValue3; have t1 := Tryd.underlying47; have a1 := Tryd.isAgg47; have z1 := Tryd.sizeOf47; have v1 := Tryd.zeroValue47; have t2 := Tryd.underlying4; have a2 := Tryd.isAgg4; have z2 := Tryd.sizeOf4; have v2 := Tryd.zeroValue4
  have q22 : ∀ (w : World) (a : Option Addr) (n c n' c' : Nat), (binOp .eql 47 (.slice a n c) (.slice none n' c')).run Tryd.prog w = .ok (.bool a.isNone) w := fun w a n c n' c' => Lib.run_eql_slice_nil w _ _ a n c n' c' t1
  have hinfo : (Tryd.prog.info? 3).map (fun i => (i.zero, i.size, i.bytes)) = some (some (.int .i64 0), 1, 8) := by kernel_rfl
  obtain ⟨i0, hi, hz0, hz1, hz2⟩ := info_parts hinfo
  have u22 : ∀ w, Sem.run Tryd.prog (underlying 47) w = .ok (TypeDesc.slice 3) w := run_underlying t1
  go_enter Tryd.func28, Tryd.ntmps28
  go_wp2_with (at_builtin; refine wpList_append_own _ rfl _ _ 47 rfl w.heap.size 3 i0 (.int .i64 0) 1 8 t1 hi hz0 hz1 hz2 rfl (by decide) _ _ _ rfl (World.ownsRow_made w #[] 0 (Nat.le_refl _) (Nat.zero_le _) rfl) a 0 c [] rfl rfl (by intro j u hj; simp at hj) (by intro u hu; cases hu) (by unfold maxLen; omega) (by omega) (by simp) ?_)
  intro v' w1 hown hgrow hnil
  go_wp2
  go_ret
  refine ⟨v', rfl, by simpa using hown, ?_⟩
  exact ((Below.refl _ w).alloc (Nat.le_refl _) _).grown hgrow (by simp) (by intro k hk; simp [Value.ownBlock] at hk; omega)
set_option maxHeartbeats 2000000 in
set_option maxRecDepth 100000 in
theorem cli_some (b off c : Nat) (zs : List Value) (w : World) (hbig : zs.length * 8 ≤ 140737488355328) (hsc : zs.all scal = true) (hc : ∀ (j : Nat) z, zs[j]? = some z → w.cell? ⟨b, off + j, none⟩ = some z) :
    Calls Tryd.prog 28 #[.slice (some ⟨b, off, none⟩) zs.length c] w fun e w' => ∃ v', e = .returned v' ∧ w'.ownsRow w.heap.size 3 1 v' zs.length zs ∧ Below w.heap.size w w' := by
  have mixed : Tryd.prog.follows .mixedOrders = true := by kernel_rfl
  have t0 := Tryd.underlying3; have a0 := Tryd.isAgg3; have z0 := Tryd.sizeOf3; have v0 := Tryd.zeroValue3; have t1 := Tryd.underlying47; have a1 := Tryd.isAgg47; have z1 := Tryd.sizeOf47; have v1 := Tryd.zeroValue47; have t2 := Tryd.underlying4; have a2 := Tryd.isAgg4; have z2 := Tryd.sizeOf4; have v2 := Tryd.zeroValue4
  have q22 : ∀ (w : World) (a : Option Addr) (n c n' c' : Nat), (binOp .eql 47 (.slice a n c) (.slice none n' c')).run Tryd.prog w = .ok (.bool a.isNone) w := fun w a n c n' c' => Lib.run_eql_slice_nil w _ _ a n c n' c' t1
  have hinfo : (Tryd.prog.info? 3).map (fun i => (i.zero, i.size, i.bytes)) = some (some (.int .i64 0), 1, 8) := by kernel_rfl
  obtain ⟨i0, hi, hz0, hz1, hz2⟩ := info_parts hinfo
  have u22 : ∀ w, Sem.run Tryd.prog (underlying 47) w = .ok (TypeDesc.slice 3) w := run_underlying t1
  have A : Aside (∀ (j : Nat) z, zs[j]? = some z → w.cell? ⟨b, off + j, none⟩ = some z) := hc
  clear hc
  go_enter Tryd.func28, Tryd.ntmps28
  go_wp2_with (at_builtin; refine wpList_append_own _ rfl _ _ 47 rfl w.heap.size 3 i0 (.int .i64 0) 1 8 t1 hi hz0 hz1 hz2 rfl (by decide) _ _ _ rfl (World.ownsRow_made w #[] 0 (Nat.le_refl _) (Nat.zero_le _) rfl) ⟨b, off, none⟩ zs.length c zs rfl ?qc1 ?qc2 ?qc3 ?qc4 ?qc5 ?qc6 ?_)
  case qc1 => simp
  case qc2 =>
    intro j u hj
    rw [Addr.add_lit]
    exact Lib.cell?_alloc_some _ (A.out j u hj)
  case qc3 => intro u hu; exact oneCell_leaf (c := oldCtx w) (w := w) (.sc u (List.all_eq_true.1 hsc u hu)) rfl
  case qc4 => unfold maxLen; omega
  case qc5 => omega
  case qc6 => simp
  intro v' w1 hown hgrow hnil
  go_wp2
  go_ret
  refine ⟨v', rfl, by simpa using hown, ?_⟩
  exact ((Below.refl _ w).alloc (Nat.le_refl _) _).grown hgrow (by simp) (by intro k hk; simp [Value.ownBlock] at hk; omega)

set_option maxHeartbeats 2000000 in
set_option maxRecDepth 100000 in
theorem cls_nil (n c : Nat) (w : World) : Calls Tryd.prog 13 #[.slice none n c] w fun e w' => e = .returned (.slice none 0 0) ∧ w' = w := by
  have mixed : Tryd.prog.follows .mixedOrders = true := by kernel_rfl
  have t0 := Tryd.underlying9; have a0 := Tryd.isAgg9; have z0 := Tryd.sizeOf9; have v0 := Tryd.zeroValue9; have t1 := Tryd.underlying25; have a1 := Tryd.isAgg25; have z1 := Tryd.sizeOf25; have v1 := Tryd.zeroValue25; have t2 := Tryd.underlying4; have a2 := Tryd.isAgg4; have z2 := Tryd.sizeOf4; have v2 := Tryd.zeroValue4
  have q22 : ∀ (w : World) (a : Option Addr) (n c n' c' : Nat), (binOp .eql 25 (.slice a n c) (.slice none n' c')).run Tryd.prog w = .ok (.bool a.isNone) w := fun w a n c n' c' => Lib.run_eql_slice_nil w _ _ a n c n' c' t1
  go_enter Tryd.func13, Tryd.ntmps13
  go_wp2
  go_ret
  exact ⟨rfl, rfl⟩
set_option maxHeartbeats 2000000 in
set_option maxRecDepth 100000 in
theorem cls_zero (a : Addr) (c : Nat) (w : World) : Calls Tryd.prog 13 #[.slice (some a) 0 c] w fun e w' => ∃ v', e = .returned v' ∧ w'.ownsRow w.heap.size 9 1 v' 0 [] ∧ Below w.heap.size w w' := by
  have mixed : Tryd.prog.follows .mixedOrders = true := by kernel_rfl
  have t0 := Tryd.underlying9; have a0 := Tryd.isAgg9; have z0 := Tryd.sizeOf9; have v0 := Tryd.zeroValue9; have t1 := Tryd.underlying25; have a1 := Tryd.isAgg25; have z1 := Tryd.sizeOf25; have v1 := Tryd.zeroValue25; have t2 := Tryd.underlying4; have a2 := Tryd.isAgg4; have z2 := Tryd.sizeOf4; have v2 := Tryd.zeroValue4
  have q22 : ∀ (w : World) (a : Option Addr) (n c n' c' : Nat), (binOp .eql 25 (.slice a n c) (.slice none n' c')).run Tryd.prog w = .ok (.bool a.isNone) w := fun w a n c n' c' => Lib.run_eql_slice_nil w _ _ a n c n' c' t1
  have hinfo : (Tryd.prog.info? 9).map (fun i => (i.zero, i.size, i.bytes)) = some (some (.string ByteArray.empty), 1, 16) := by kernel_rfl
  obtain ⟨i0, hi, hz0, hz1, hz2⟩ := info_parts hinfo
  have u22 : ∀ w, Sem.run Tryd.prog (underlying 25) w = .ok (TypeDesc.slice 9) w := run_underlying t1
  go_enter Tryd.func13, Tryd.ntmps13
  go_wp2_with (at_builtin; refine wpList_append_own _ rfl _ _ 25 rfl w.heap.size 9 i0 (.string ByteArray.empty) 1 16 t1 hi hz0 hz1 hz2 rfl (by decide) _ _ _ rfl (World.ownsRow_made w #[] 0 (Nat.le_refl _) (Nat.zero_le _) rfl) a 0 c [] rfl rfl (by intro j u hj; simp at hj) (by intro u hu; cases hu) (by unfold maxLen; omega) (by omega) (by simp) ?_)
  intro v' w1 hown hgrow hnil
  go_wp2
  go_ret
  refine ⟨v', rfl, by simpa using hown, ?_⟩
  exact ((Below.refl _ w).alloc (Nat.le_refl _) _).grown hgrow (by simp) (by intro k hk; simp [Value.ownBlock] at hk; omega)
set_option maxHeartbeats 2000000 in
set_option maxRecDepth 100000 in
theorem cls_some (b off n c : Nat) (zs : List Value) (w : World) (hl : zs.length = n * 1) (hbig : n * 16 ≤ 140737488355328) (hml : n ≤ maxLen) (hsc : zs.all scal = true) (hc : ∀ (j : Nat) z, zs[j]? = some z → w.cell? ⟨b, off + j, none⟩ = some z) :
    Calls Tryd.prog 13 #[.slice (some ⟨b, off, none⟩) n c] w fun e w' => ∃ v', e = .returned v' ∧ w'.ownsRow w.heap.size 9 1 v' n zs ∧ Below w.heap.size w w' := by
  have mixed : Tryd.prog.follows .mixedOrders = true := by kernel_rfl
  have t0 := Tryd.underlying9; have a0 := Tryd.isAgg9; have z0 := Tryd.sizeOf9; have v0 := Tryd.zeroValue9; have t1 := Tryd.underlying25; have a1 := Tryd.isAgg25; have z1 := Tryd.sizeOf25; have v1 := Tryd.zeroValue25; have t2 := Tryd.underlying4; have a2 := Tryd.isAgg4; have z2 := Tryd.sizeOf4; have v2 := Tryd.zeroValue4
  have q22 : ∀ (w : World) (a : Option Addr) (n c n' c' : Nat), (binOp .eql 25 (.slice a n c) (.slice none n' c')).run Tryd.prog w = .ok (.bool a.isNone) w := fun w a n c n' c' => Lib.run_eql_slice_nil w _ _ a n c n' c' t1
  have hinfo : (Tryd.prog.info? 9).map (fun i => (i.zero, i.size, i.bytes)) = some (some (.string ByteArray.empty), 1, 16) := by kernel_rfl
  obtain ⟨i0, hi, hz0, hz1, hz2⟩ := info_parts hinfo
  have u22 : ∀ w, Sem.run Tryd.prog (underlying 25) w = .ok (TypeDesc.slice 9) w := run_underlying t1
  have A : Aside (∀ (j : Nat) z, zs[j]? = some z → w.cell? ⟨b, off + j, none⟩ = some z) := hc
  clear hc
  go_enter Tryd.func13, Tryd.ntmps13
  go_wp2_with (at_builtin; refine wpList_append_own _ rfl _ _ 25 rfl w.heap.size 9 i0 (.string ByteArray.empty) 1 16 t1 hi hz0 hz1 hz2 rfl (by decide) _ _ _ rfl (World.ownsRow_made w #[] 0 (Nat.le_refl _) (Nat.zero_le _) rfl) ⟨b, off, none⟩ n c zs rfl ?qc1 ?qc2 ?qc3 ?qc4 ?qc5 ?qc6 ?_)
  case qc1 => exact hl
  case qc2 =>
    intro j u hj
    rw [Addr.add_lit]
    exact Lib.cell?_alloc_some _ (A.out j u hj)
  case qc3 => intro u hu; exact oneCell_leaf (c := oldCtx w) (w := w) (.sc u (List.all_eq_true.1 hsc u hu)) rfl
  case qc4 => omega
  case qc5 => omega
  case qc6 => simp
  intro v' w1 hown hgrow hnil
  go_wp2
  go_ret
  refine ⟨v', rfl, by simpa using hown, ?_⟩
  exact ((Below.refl _ w).alloc (Nat.le_refl _) _).grown hgrow (by simp) (by intro k hk; simp [Value.ownBlock] at hk; omega)

set_option maxHeartbeats 2000000 in
set_option maxRecDepth 100000 in
theorem clf_nil (n c : Nat) (w : World) : Calls Tryd.prog 16 #[.slice none n c] w fun e w' => e = .returned (.slice none 0 0) ∧ w' = w := by
  have mixed : Tryd.prog.follows .mixedOrders = true := by kernel_rfl
  have t0 := Tryd.underlying35; have a0 := Tryd.isAgg35; have z0 := Tryd.sizeOf35; have v0 := Tryd.zeroValue35; have t1 := Tryd.underlying32; have a1 := Tryd.isAgg32; have z1 := Tryd.sizeOf32; have v1 := Tryd.zeroValue32; have t2 := Tryd.underlying4; have a2 := Tryd.isAgg4; have z2 := Tryd.sizeOf4; have v2 := Tryd.zeroValue4
  have q22 : ∀ (w : World) (a : Option Addr) (n c n' c' : Nat), (binOp .eql 32 (.slice a n c) (.slice none n' c')).run Tryd.prog w = .ok (.bool a.isNone) w := fun w a n c n' c' => Lib.run_eql_slice_nil w _ _ a n c n' c' t1
  go_enter Tryd.func16, Tryd.ntmps16
  go_wp2
  go_ret
  exact ⟨rfl, rfl⟩
set_option maxHeartbeats 2000000 in
set_option maxRecDepth 100000 in
theorem clf_zero (a : Addr) (c : Nat) (w : World) : Calls Tryd.prog 16 #[.slice (some a) 0 c] w fun e w' => ∃ v', e = .returned v' ∧ w'.ownsRow w.heap.size 35 2 v' 0 [] ∧ Below w.heap.size w w' := by
  have mixed : Tryd.prog.follows .mixedOrders = true := by kernel_rfl
  have t0 := Tryd.underlying35; have a0 := Tryd.isAgg35; have z0 := Tryd.sizeOf35; have v0 := Tryd.zeroValue35; have t1 := Tryd.underlying32; have a1 := Tryd.isAgg32; have z1 := Tryd.sizeOf32; have v1 := Tryd.zeroValue32; have t2 := Tryd.underlying4; have a2 := Tryd.isAgg4; have z2 := Tryd.sizeOf4; have v2 := Tryd.zeroValue4
  have q22 : ∀ (w : World) (a : Option Addr) (n c n' c' : Nat), (binOp .eql 32 (.slice a n c) (.slice none n' c')).run Tryd.prog w = .ok (.bool a.isNone) w := fun w a n c n' c' => Lib.run_eql_slice_nil w _ _ a n c n' c' t1
  have hinfo : (Tryd.prog.info? 35).map (fun i => (i.zero, i.size, i.bytes)) = some (some (.agg #[.string ByteArray.empty, .string ByteArray.empty]), 2, 32) := by kernel_rfl
  obtain ⟨i0, hi, hz0, hz1, hz2⟩ := info_parts hinfo
  have u22 : ∀ w, Sem.run Tryd.prog (underlying 32) w = .ok (TypeDesc.slice 35) w := run_underlying t1
  go_enter Tryd.func16, Tryd.ntmps16
  go_wp2_with (at_builtin; refine wpList_append_own _ rfl _ _ 32 rfl w.heap.size 35 i0 (.agg #[.string ByteArray.empty, .string ByteArray.empty]) 2 32 t1 hi hz0 hz1 hz2 rfl (by decide) _ _ _ rfl (World.ownsRow_made w #[] 0 (Nat.le_refl _) (Nat.zero_le _) rfl) a 0 c [] rfl rfl (by intro j u hj; simp at hj) (by intro u hu; cases hu) (by unfold maxLen; omega) (by omega) (by simp) ?_)
  intro v' w1 hown hgrow hnil
  go_wp2
  go_ret
  refine ⟨v', rfl, by simpa using hown, ?_⟩
  exact ((Below.refl _ w).alloc (Nat.le_refl _) _).grown hgrow (by simp) (by intro k hk; simp [Value.ownBlock] at hk; omega)
set_option maxHeartbeats 2000000 in
set_option maxRecDepth 100000 in
theorem clf_some (b off n c : Nat) (zs : List Value) (w : World) (hl : zs.length = n * 2) (hbig : n * 32 ≤ 140737488355328) (hml : n ≤ maxLen) (hsc : zs.all scal = true) (hc : ∀ (j : Nat) z, zs[j]? = some z → w.cell? ⟨b, off + j, none⟩ = some z) :
    Calls Tryd.prog 16 #[.slice (some ⟨b, off, none⟩) n c] w fun e w' => ∃ v', e = .returned v' ∧ w'.ownsRow w.heap.size 35 2 v' n zs ∧ Below w.heap.size w w' := by
  have mixed : Tryd.prog.follows .mixedOrders = true := by kernel_rfl
  have t0 := Tryd.underlying35; have a0 := Tryd.isAgg35; have z0 := Tryd.sizeOf35; have v0 := Tryd.zeroValue35; have t1 := Tryd.underlying32; have a1 := Tryd.isAgg32; have z1 := Tryd.sizeOf32; have v1 := Tryd.zeroValue32; have t2 := Tryd.underlying4; have a2 := Tryd.isAgg4; have z2 := Tryd.sizeOf4; have v2 := Tryd.zeroValue4
  have q22 : ∀ (w : World) (a : Option Addr) (n c n' c' : Nat), (binOp .eql 32 (.slice a n c) (.slice none n' c')).run Tryd.prog w = .ok (.bool a.isNone) w := fun w a n c n' c' => Lib.run_eql_slice_nil w _ _ a n c n' c' t1
  have hinfo : (Tryd.prog.info? 35).map (fun i => (i.zero, i.size, i.bytes)) = some (some (.agg #[.string ByteArray.empty, .string ByteArray.empty]), 2, 32) := by kernel_rfl
  obtain ⟨i0, hi, hz0, hz1, hz2⟩ := info_parts hinfo
  have u22 : ∀ w, Sem.run Tryd.prog (underlying 32) w = .ok (TypeDesc.slice 35) w := run_underlying t1
  have A : Aside (∀ (j : Nat) z, zs[j]? = some z → w.cell? ⟨b, off + j, none⟩ = some z) := hc
  clear hc
  go_enter Tryd.func16, Tryd.ntmps16
  go_wp2_with (at_builtin; refine wpList_append_own _ rfl _ _ 32 rfl w.heap.size 35 i0 (.agg #[.string ByteArray.empty, .string ByteArray.empty]) 2 32 t1 hi hz0 hz1 hz2 rfl (by decide) _ _ _ rfl (World.ownsRow_made w #[] 0 (Nat.le_refl _) (Nat.zero_le _) rfl) ⟨b, off, none⟩ n c zs rfl ?qc1 ?qc2 ?qc3 ?qc4 ?qc5 ?qc6 ?_)
  case qc1 => exact hl
  case qc2 =>
    intro j u hj
    rw [Addr.add_lit]
    exact Lib.cell?_alloc_some _ (A.out j u hj)
  case qc3 => intro u hu; exact oneCell_leaf (c := oldCtx w) (w := w) (.sc u (List.all_eq_true.1 hsc u hu)) rfl
  case qc4 => omega
  case qc5 => omega
  case qc6 => simp
  intro v' w1 hown hgrow hnil
  go_wp2
  go_ret
  refine ⟨v', rfl, by simpa using hown, ?_⟩
  exact ((Below.refl _ w).alloc (Nat.le_refl _) _).grown hgrow (by simp) (by intro k hk; simp [Value.ownBlock] at hk; omega)

structure Dr (w w' : World) : Prop where mk :: (out : ∃ n, w' = w.drewN n)
theorem Dr.refl (w : World) : Dr w w := ⟨⟨0, rfl⟩⟩
theorem Dr.step {w w' : World} (h : Dr w w') (n : Nat) : Dr w (w'.drewN n) := by
  obtain ⟨⟨k, rfl⟩⟩ := h
  exact ⟨⟨k + n, World.drewN_drewN ..⟩⟩
theorem Dr.below {w w' : World} (h : Dr w w') : Below w.heap.size w w' := by
  obtain ⟨⟨n, rfl⟩⟩ := h; exact Joins.below_draws _ _ _
open Go.Fl (ldw)
theorem fl_tobits (c : Nat) (w : World) : (callFunc 92 #[.float .f64 c]).run Tryd.prog w = .ok (.value (.int .u64 c)) w := by kernel_rfl
theorem fl_frombits (n : Int) (w : World) : (callFunc 95 #[.int .u64 n]).run Tryd.prog w = .ok (.value (.float .f64 n.toNat)) w := by kernel_rfl
theorem fl_absone : Go.bits .andNot .u64 4607182418800017408 9223372036854775808 = 4607182418800017408 := by decide +kernel
theorem fl_mulfmt : ∀ n : Fin 41, FloatKind.f64.format.mul 4607182418800017408 (Go.bits .or .u64 0 (((n.val : Int) + 1023) * 4503599627370496)).toNat = some (ldw n.val) := by decide +kernel
theorem fl_mulone (k : Int) (h0 : 0 ≤ k) (h1 : k ≤ 40) (w : World) : (binOp .mul 117 (.float .f64 4607182418800017408) (.float .f64 (Go.bits .or .u64 0 ((k + 1023) * 4503599627370496)).toNat)).run Tryd.prog w = .ok (.float .f64 (ldw k)) w := by
  have h := fl_mulfmt ⟨k.toNat, by omega⟩
  simp only [Int.toNat_of_nonneg h0] at h
  simp [binOp, Op.floatArith, h]
theorem fl_negfmt : ∀ n : Fin 41, Op.negFloat .f64 (ldw n.val) = 9223372036854775808 + ldw n.val := by decide +kernel
theorem fl_neg (k : Int) (h0 : 0 ≤ k) (h1 : k ≤ 40) (w : World) : (Op.unary .neg (.float .f64 (ldw k))).run Tryd.prog w = .ok (.float .f64 (9223372036854775808 + ldw k)) w := by
  have h := fl_negfmt ⟨k.toNat, by omega⟩
  simp only [Int.toNat_of_nonneg h0] at h
  simp [Op.unary, h]
set_option maxHeartbeats 2000000 in
theorem fl_ldexp (k : Int) (h0 : 0 ≤ k) (h1 : k ≤ 40) (w : World) : Calls Tryd.prog 67 #[.float .f64 4607182418800017408, .int .i64 k] w fun e w' => e = .returned (.float .f64 (ldw k)) ∧ w = w' := by
  have tb := fl_tobits
  have fb := fl_frombits
  have ao := fl_absone
  have a1 : Go.bits .and .i64 1023 2047 = 1023 := by decide +kernel
  have a2 : Go.bits .andNot .u64 4607182418800017408 9218868437227405312 = 0 := by decide +kernel
  have hm := fl_mulone k h0 h1
  go_enter Tryd.func67, Tryd.ntmps67
  go_wp2
  go_ret
  exact ⟨rfl, rfl⟩
theorem fl_close (a0 a1 : Int) (h0 : 1 ≤ a1) (h1 : a1 ≤ 41) :
    ((FloatKind.f64.format.order (floatOfInt FloatKind.f64 a0) (9223372036854775808 + ldw (a1 - 1)) == some Ordering.gt || FloatKind.f64.format.order (floatOfInt FloatKind.f64 a0) (9223372036854775808 + ldw (a1 - 1)) == some Ordering.eq) && FloatKind.f64.format.order (floatOfInt FloatKind.f64 a0) (ldw (a1 - 1)) == some Ordering.lt) = decide (-(2 ^ (a1 - 1).toNat) ≤ a0 ∧ a0 < 2 ^ (a1 - 1).toNat) := by
  have h := Go.Fl.fits_is a0 (a1 - 1).toNat (by omega)
  rw [Int.toNat_of_nonneg (by omega)] at h
  exact h
theorem fl_ret {a b : Bool} (h : a = b) : Ending.returned (.bool a) = Ending.returned (.bool b) := by rw [h]
theorem fl_no {a b : Option Ordering} (h : ¬(a = some Ordering.gt ∨ a = some Ordering.eq)) : false = ((a == some Ordering.gt || a == some Ordering.eq) && b == some Ordering.lt) := by
  symm
  rw [Bool.and_eq_false_iff]
  left
  rw [Bool.or_eq_false_iff]
  constructor
  · exact beq_eq_false_iff_ne.2 (fun e => h (.inl e))
  · exact beq_eq_false_iff_ne.2 (fun e => h (.inr e))
set_option maxHeartbeats 2000000 in
theorem imm_Fits.calls (a0 : Int) (a1 : Int) (r : Bool) (w : World) (h : fitsS a0 a1 = some r) :
    Calls Tryd.prog 57 #[.int .i64 a0, .int .i64 a1] w fun e w' => e = .returned (.bool r) ∧ Dr w w' := by
  unfold fitsS at h
  by_cases h0 : 1 ≤ a1
  · rw [if_pos h0] at h
    by_cases h1 : a1 ≤ 41
    · rw [if_pos h1] at h
      obtain rfl := Option.some.inj h
      clear h
      have hneg := fl_neg (a1 - 1) (by omega) (by omega)
      go_enter Tryd.func57, Tryd.ntmps57
      go_wp2_with (go_at_call 67; refine (fl_ldexp _ (by omega) (by omega) _).mono ?_; rintro e w' ⟨rfl, rfl⟩)
      all_goals
        go_ret
        refine ⟨fl_ret ?_, by repeat (first | exact Dr.refl _ | apply Dr.step)⟩
        first
        | exact fl_close a0 a1 h0 h1
        | exact (fl_no (by assumption)).trans (fl_close a0 a1 h0 h1)
    · rw [if_neg h1] at h; cases h
  · rw [if_neg h0] at h; cases h
theorem ok_fits : FnOK1 told Tryd.prog 57 fitsX := fnOK1_fits fun v b r w h => (imm_Fits.calls v b r w h).mono fun _ _ h => ⟨h.1, h.2.below⟩

theorem ok_cli : FnOK1 told Tryd.prog 28 (cloneV 8) := fnOK1_cloneV (e_ := 3) cli_nil cli_zero cli_some
theorem ok_cls : FnOK1 told Tryd.prog 13 (cloneO 1 16) := fnOK1_cloneO (e_ := 9) cls_nil cls_zero cls_some
theorem ok_clf : FnOK1 told Tryd.prog 16 (cloneO 2 32) := fnOK1_cloneO (e_ := 35) clf_nil clf_zero clf_some
theorem ok_itoa : FnOK1 told Tryd.prog 20 itoaX := by
  refine fnOK1_itoa fun n Z w h0 h1 hT => ?_
  refine (Tryd.strconv_Itoa n h0 h1 w hT.1.1.2.2.1).mono ?_
  rintro e w' ⟨rfl, k, os, rfl⟩
  exact ⟨rfl, Lib.below_grow _ _ (Nat.le_refl _) _ _⟩
theorem ok_fields : FnOK1 told Tryd.prog 29 fieldsX := fnOK1_fields fun s Z w h1 h2 hT => Tryd.strings_Fields_laid s w h1 h2 hT.1.2.2.2.1
theorem ok_contains : FnOK1 told Tryd.prog 49 containsX := fnOK1_contains fun s t Z w h1 hT => by
  obtain ⟨_, m, hm⟩ := hT.2
  exact Tryd.strings_Contains s t m w h1 hm
theorem ok_join : FnOK1 told Tryd.prog 33 joinX := fnOK1_join (fun a c sep w => Tryd.strings_Join_none a c sep w) (fun bk o c xs sep w h1 h2 h3 h4 h5 => Tryd.strings_Join bk o c xs sep w h1 h2 h3 h4 h5)
theorem ext_ok (f : FuncId) (x : List AV → Heap → Option (AV × Heap)) (h : G.ext f = some x) : FnOK1 told Tryd.prog f x := by
  have h' : Go.Ab.get f extT = some x := h
  simp only [extT, Go.Ab.get] at h'
  repeat' split at h'
  all_goals first
    | cases h'; done
    | (rename_i e; subst e; cases h'; first | exact ok_fields | exact ok_fits | exact ok_cli | exact ok_cls | exact ok_clf | exact ok_itoa | exact ok_contains | exact ok_join)
end Go.Proofs.YtpebnjoklniikaaDoor
set_option maxRecDepth 100000
namespace Go.Ab
theorem w6_known_true : w6_known = some true := cv_some w6_known.cv 2000 (by kernel_rfl)
theorem w6_within_eq (a n : Int) (hn : 0 < n) (hn2 : n ≤ 4611686018427387904) : w6_within a n = some (a % n) := by
  rw [w6_within.eq]; exact withinV_eq a n hn hn2
end Go.Ab
set_option maxRecDepth 100000
namespace Go.Ab
theorem le_of_cv {α : Type} {F : Nat → Option α} {x : Option α} (h : Cv F x) (k : Nat) : Le (F k) x := fun r e => cv_some h k e
def knK (i : Nat) : Bool := (w6_DisKnown_b (some true) (fun _ _ => some (i : Int)) (dis_List.s 2000) (r6_Words.s 2000) 0).isEqSome true
theorem kn_0 : knK 0 = true := by kernel_rfl
theorem kn_1 : knK 1 = true := by kernel_rfl
theorem kn_2 : knK 2 = true := by kernel_rfl
theorem kn_3 : knK 3 = true := by kernel_rfl
theorem kn_4 : knK 4 = true := by kernel_rfl
theorem kn_5 : knK 5 = true := by kernel_rfl
theorem kn_6 : knK 6 = true := by kernel_rfl
theorem kn_7 : knK 7 = true := by kernel_rfl
theorem kn_8 : knK 8 = true := by kernel_rfl
theorem kn_9 : knK 9 = true := by kernel_rfl
theorem kn_10 : knK 10 = true := by kernel_rfl
theorem kn_11 : knK 11 = true := by kernel_rfl
theorem kn_all : ∀ {i : Nat}, i < 12 → knK i = true
  | 0, _ => kn_0
  | 1, _ => kn_1
  | 2, _ => kn_2
  | 3, _ => kn_3
  | 4, _ => kn_4
  | 5, _ => kn_5
  | 6, _ => kn_6
  | 7, _ => kn_7
  | 8, _ => kn_8
  | 9, _ => kn_9
  | 10, _ => kn_10
  | 11, _ => kn_11
  | n + 12, h => absurd h (by omega)
theorem w6_DisKnown_true (a0 : Int) (w0 : IntKind.i64.min ≤ a0 ∧ a0 ≤ IntKind.i64.max) : w6_DisKnown a0 = some true := by
  have h1 := Int.emod_nonneg a0 (by decide : (12 : Int) ≠ 0)
  have h2 := Int.emod_lt_of_pos a0 (by decide : (0 : Int) < 12)
  have hw := w6_within_eq a0 12 (by decide) (by decide)
  have hk := kn_all (i := (a0 % 12).toNat) (by omega)
  unfold knK at hk
  have hk' : w6_DisKnown_b (some true) (fun _ _ => some (((a0 % 12).toNat : Nat) : Int)) (dis_List.s 2000) (r6_Words.s 2000) 0 = some true := by
    cases h : w6_DisKnown_b (some true) (fun _ _ => some (((a0 % 12).toNat : Nat) : Int)) (dis_List.s 2000) (r6_Words.s 2000) 0 with
    | none => rw [h] at hk; cases hk
    | some b => rw [h] at hk; simpa [Option.isEqSome] using hk
  rw [Int.toNat_of_nonneg h1] at hk'
  rw [w6_DisKnown.eq, w6_known_true]
  have e : w6_DisKnown_b (some true) w6_within dis_List r6_Words a0 = w6_DisKnown_b (some true) (fun _ _ => w6_within a0 12) dis_List r6_Words a0 := rfl
  rw [e, hw]
  exact w6_DisKnown_m (Le.refl _) (fun _ _ => .refl _) (fun x => le_of_cv (dis_List.cv x) 2000) (fun x y => le_of_cv (r6_Words.cv x y) 2000) a0 true hk'
end Go.Ab
namespace Go.Proofs.YtpebnjoklniikaaDoor
open Go Go.Ab Go.ChangeShapes Go.WideShapes Go.ChangeAt Go.RowKit
open Go.ChangeMaps (open_string shut_string)
theorem repL_one {c : Ctx} {w : World} {a : AV} {v : Value} (h : RepL c w [a] [v]) : Rep c w a v := by cases h; assumption
theorem laidOut : laidOutB Tryd.prog = true := by kernel_rfl
theorem own : ownKnob Tryd.prog.godebug = none := by kernel_rfl
theorem door_met (os : Os) (args : Array Value) : laidMetH Tryd.prog [("math/bits.deBruijn32tab", Rows.laid_math_bits_deBruijn32tab), ("math/bits.deBruijn64tab", Rows.laid_math_bits_deBruijn64tab), ("internal/strconv.uint64pow10", Rows.laid_internal_strconv_uint64pow10), ("unicode.White_Space", Rows.laid_unicode_White_Space), ("strings.asciiSpace", Rows.laid_strings_asciiSpace)] ((World.doorLaid Tryd.prog 48 os).forCall (fun _ _ => 0) ⟨#[], args, []⟩).memory :=
  laidMetH_of_parts3 (fuel := 8) (laidMet_of_run' 8 (by kernel_rfl) (by kernel_rfl)) (by kernel_rfl) (by kernel_rfl)
namespace disKnown
set_option maxRecDepth 100000 in
theorem lifted (os : Os) (started : os.Started) (H : Type) (enc : TypeId × Value → H) :
    ReturnsInHanded {} Tryd.checked os 3 .any (fun w args => (Rows.disKnownSpec.pre enc Tryd.prog Tryd.f3 [] false w args ∧ laidMetH Tryd.prog [("math/bits.deBruijn32tab", Rows.laid_math_bits_deBruijn32tab), ("math/bits.deBruijn64tab", Rows.laid_math_bits_deBruijn64tab), ("internal/strconv.uint64pow10", Rows.laid_internal_strconv_uint64pow10), ("unicode.White_Space", Rows.laid_unicode_White_Space), ("strings.asciiSpace", Rows.laid_strings_asciiSpace)] w) ∧ sizedMet enc Tryd.prog Tryd.f3 (OpenSpec.ofChange Rows.disKnownSpec) false w args) (Rows.disKnownSpec.post enc Tryd.prog Tryd.f3 false true false false) := by
  refine returns_shaped (C := Tryd.checked) (X := fun w _ => laidMetH Tryd.prog [("math/bits.deBruijn32tab", Rows.laid_math_bits_deBruijn32tab), ("math/bits.deBruijn64tab", Rows.laid_math_bits_deBruijn64tab), ("internal/strconv.uint64pow10", Rows.laid_internal_strconv_uint64pow10), ("unicode.White_Space", Rows.laid_unicode_White_Space), ("strings.asciiSpace", Rows.laid_strings_asciiSpace)] w) (fun _ _ _ hh h => h.of_heap hh) own started (by kernel_rfl) Tryd.func3
    (ChangeSpec.witness_shaped (enc := enc) (C := Tryd.checked) (os := os) (X := fun w _ => laidMetH Tryd.prog [("math/bits.deBruijn32tab", Rows.laid_math_bits_deBruijn32tab), ("math/bits.deBruijn64tab", Rows.laid_math_bits_deBruijn64tab), ("internal/strconv.uint64pow10", Rows.laid_internal_strconv_uint64pow10), ("unicode.White_Space", Rows.laid_unicode_White_Space), ("strings.asciiSpace", Rows.laid_strings_asciiSpace)] w) false (World.doorLaid Tryd.prog 48 os) #[.int .i64 0] 8 rfl (World.shaped_of_RefB (by kernel_rfl) (by kernel_rfl)) (by kernel_rfl) (by kernel_rfl) (by kernel_rfl) (door_met os _)) ?_
  intro W base args ds gs before hval0 hW hcnd hsz0 hL _
  have hT := told_of hL
  have hW' := hW
  obtain ⟨p, q, hA0, hV, rfl, hfz, hnd⟩ := hW
  have hA : DataW.TrodAll enc Tryd.prog W 0 (fun _ => true) true Tryd.f3.params.toList args.toList ds p := hA0
  rw [Tryd.params3] at hA
  obtain ⟨v0, vs0, d0, ds0, p0, q0, hargs, rfl, rfl, h0, r0⟩ := trodAll_cons hA
  obtain ⟨rfl, rfl, rfl⟩ := trodAll_nil r0
  obtain rfl : args = #[v0] := by cases args; simp_all
  obtain ⟨rfl, rfl⟩ := trodVars_none hV
  obtain ⟨u0, rfl⟩ := okWide_int Tryd.underlying3 (hval0 0 3 v0 rfl rfl)
  obtain ⟨a0, w0, y0⟩ := rd_fuel (enc := enc) (P := Tryd.prog) (W := W) (fun fuel => (rd_int Tryd.underlying3 fuel)) h0
  replace y0 := repL_one (show RepL (oldCtx W) W [_] [_] from y0)
  obtain ⟨k, hk⟩ := w6_DisKnown.run a0 (w6_DisKnown_true a0 w0)
  have lt0 : ∀ x ∈ p0, x.block < W.heap.size := by obtain ⟨m, hm⟩ := h0; exact DataW.trod_lt m _ _ _ hm
  refine (calls_of_eval (T := told) (by kernel_rfl) ext_ok hk hT (.cons _ _ _ _ y0 .nil)).mono fun e W' ⟨he, bel⟩ => ?_
  subst he
  exact ⟨_, rfl, _, _, _, [], _, [], hW', trodAll_mk1 (shut_bool Tryd.underlying4 _), (trodAll_cons_mk (Below.trod laidOut (by kernel_rfl) (of_decide_eq_true (by kernel_rfl)) h0 bel lt0) trodAll_mk0), rfl, bel.frame _, fun h => by cases h⟩
theorem over : Rows.disKnownRow.holds Tryd.pinned (OpenSpec.ofChange Rows.disKnownSpec) :=
  OpenClaim.holds_of_wide 3 Tryd.f3 rfl rfl rfl rfl rfl rfl rfl ⟨rfl, rfl, rfl, rfl, rfl⟩ rfl rfl rfl rfl rfl (by kernel_rfl) Tryd.func3 (by kernel_rfl)
    (of_decide_eq_true (by kernel_rfl)) (by unfold Func.isWrapper; first | (rw [if_pos (by decide +kernel)]; kernel_rfl) | (rw [if_neg (by decide +kernel)]; exact ⟨rfl, rfl⟩))
    (fun os started H enc _ => lifted os started H enc)
theorem proved : Rows.DisKnownSaid := over
theorem card : Rows.DisKnownCardSaid :=
  Claim7.holds_tied_plain_at .later [] [.data, .data, .data, .listed, .data] true (true, "8be43116c825a79a0b6294bc5addf923d9bc953962bc862b703fafda50429f34") false
    proved (fun _ h => by cases h) (by kernel_rfl) (fun _ h => by cases h) disKnown_row_tie rfl ⟨rfl, rfl⟩ (by kernel_rfl) rfl
    (fun f fn hf hfn => by
      obtain rfl : f = 3 := Option.some.inj ((show Tryd.prog.funcNamed Tryd.f3.name = some 3 by kernel_rfl).symm.trans hf) |>.symm
      obtain rfl : fn = Tryd.f3 := (Option.some.inj (Tryd.func3.symm.trans hfn)).symm
      exact ⟨by kernel_rfl, fun j t ht => by
        rw [Tryd.params3] at ht
        have hm : t ∈ [3] := by simpa using Array.mem_of_getElem? ht
        have hall : ([3].all fun u => !Tryd.prog.wantsStandIn u) = true := by kernel_rfl
        exact (show Tryd.prog.wantsStandIn t = false by simpa using List.all_eq_true.1 hall t hm)⟩)
    (by kernel_rfl)
end disKnown
/-- The row, under a short name, for the claim. -/
theorem disKnown_holds : Rows.DisKnownCardSaid := disKnown.card
end Go.Proofs.YtpebnjoklniikaaDoor
