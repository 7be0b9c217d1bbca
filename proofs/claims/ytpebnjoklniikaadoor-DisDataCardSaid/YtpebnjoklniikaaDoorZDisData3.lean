/- DisData: part 3 of the proof that, whatever the input, the law returns true and the input reads as it did; its conditions are those of the given row. -/
import Derived.Test.YtpebnjoklniikaaDoorZDisData2
import Derived.Handed
import Derived.Test.YtpebnjoklniikaaDoorFl
import Derived.Tactics
import Derived.WalkLawsBesides
import Derived.RowKit3
import Derived.Laws.BitsLemmas
import Derived.Test.YtpebnjoklniikaaDoorSh
import Derived.Test.YtpebnjoklniikaaDoorRows
import Derived.LaidMore
import Derived.MakeChecks
import Derived.Lib.AppendIntMem
import Derived.Shelf.Vars
import Derived.WalkKit
import Derived.Deep.LoopGhost
import Derived.Lib.Walk
import Derived.Lib.SliceRun
import Derived.Test.YtpebnjoklniikaaDoorTie
import Derived.Test.YtpebnjoklniikaaDoorCards
import Derived.ProofKit
import Derived.OpenShut
import Derived.Stop.Joined
import Derived.Lay
import Derived.SevenTiedAt
set_option linter.unusedVariables false
set_option linter.unusedSimpArgs false
namespace Go.Ab
open Go.Proofs
theorem dis_Frags_1_k (P : Program) (call : CallF) (lp : Loops) (C0 : Int → Option ByteArray) (K0 : ∀ (a0 : Int) (r : ByteArray), C0 a0 = some r → (call 15 [.sc (.int .i64 a0)] []) = some (dis_name_e r)) (a0 : ByteArray) (h0 : (List T_api_Frag)) : (dis_Frags_1_t P call C0 a0 h0).ok lp dis_Frags_1_e := ⟨(R_api_Frag_len _), ⟨rfl, fun hq0 => yesN_ok 12 (hq0) (⟨rfl, fun r1 hr1 => ⟨K0 _ _ hr1, ⟨(R_api_Frag_map [(T_api_Frag.mk r1 s_)]), ⟨(decide_eq_true (R_api_Frag_all _)), ⟨(by rw [R_api_Frag_len, R_api_Frag_len]), fun hq1 => ⟨(R_api_Frag_append _ _), ⟨(by rw [R_api_Frag_len]), fun hq2 => fun e2 he2 => ⟨R_api_Frag_get he2, ⟨rfl, fun hq3 => ⟨rfl, fun hq4 => ⟨(show (decide (0 ≤ (w64 ((w64 ((((h0.length) : Nat) : Int) + (1 : Int))) - (1 : Int))) ∧ (w64 ((w64 ((((h0.length) : Nat) : Int) + (1 : Int))) - (1 : Int))) < (((R_api_Frag (h0 ++ [(T_api_Frag.mk r1 s_)])).length : Nat) : Int))) = (decide (0 ≤ (w64 ((w64 ((((h0.length) : Nat) : Int) + (1 : Int))) - (1 : Int))) ∧ (w64 ((w64 ((((h0.length) : Nat) : Int) + (1 : Int))) - (1 : Int))) < (((h0 ++ [(T_api_Frag.mk r1 s_)]).length : Nat) : Int))) from (by rw [R_api_Frag_len])).trans hq2, fun e3 he3 => ⟨R_api_Frag_get he3, ⟨(R_api_Frag_set (h0 ++ [(T_api_Frag.mk r1 s_)]) (Int.toNat (w64 ((w64 ((((h0.length) : Nat) : Int) + (1 : Int))) - (1 : Int)))) (T_api_Frag.mk e3.Name (e2.Text ++ (a0 ++ h_0a)))), rfl⟩⟩⟩, fun hq4 => trivial⟩, fun hq3 => trivial⟩⟩, fun hq2 => trivial⟩⟩, fun hq1 => trivial⟩⟩⟩⟩⟩), fun hq0 => noN_ok 3 (hq0) (⟨(by rw [R_api_Frag_len]), fun hq1 => noN_ok 2 (hq0) (fun e4 he4 => ⟨R_api_Frag_get he4, noN_ok 7 (hq0) (⟨rfl, fun hq2 => fun r5 hr5 => ⟨K0 _ _ hr5, ⟨(R_api_Frag_map [(T_api_Frag.mk r5 s_)]), ⟨(decide_eq_true (R_api_Frag_all _)), ⟨(by rw [R_api_Frag_len, R_api_Frag_len]), fun hq3 => ⟨(R_api_Frag_append _ _), ⟨(by rw [R_api_Frag_len]), fun hq4 => fun e6 he6 => ⟨R_api_Frag_get he6, ⟨rfl, fun hq5 => ⟨rfl, fun hq6 => ⟨(show (decide (0 ≤ (w64 ((w64 ((((h0.length) : Nat) : Int) + (1 : Int))) - (1 : Int))) ∧ (w64 ((w64 ((((h0.length) : Nat) : Int) + (1 : Int))) - (1 : Int))) < (((R_api_Frag (h0 ++ [(T_api_Frag.mk r5 s_)])).length : Nat) : Int))) = (decide (0 ≤ (w64 ((w64 ((((h0.length) : Nat) : Int) + (1 : Int))) - (1 : Int))) ∧ (w64 ((w64 ((((h0.length) : Nat) : Int) + (1 : Int))) - (1 : Int))) < (((h0 ++ [(T_api_Frag.mk r5 s_)]).length : Nat) : Int))) from (by rw [R_api_Frag_len])).trans hq4, fun e7 he7 => ⟨R_api_Frag_get he7, ⟨(R_api_Frag_set (h0 ++ [(T_api_Frag.mk r5 s_)]) (Int.toNat (w64 ((w64 ((((h0.length) : Nat) : Int) + (1 : Int))) - (1 : Int)))) (T_api_Frag.mk e7.Name (e6.Text ++ (a0 ++ h_0a)))), rfl⟩⟩⟩, fun hq6 => trivial⟩, fun hq5 => trivial⟩⟩, fun hq4 => trivial⟩⟩, fun hq3 => trivial⟩⟩⟩⟩, fun hq2 => ⟨(show (decide (0 ≤ (w64 ((((h0.length) : Nat) : Int) - (1 : Int))) ∧ (w64 ((((h0.length) : Nat) : Int) - (1 : Int))) < (((R_api_Frag h0).length : Nat) : Int))) = (decide (0 ≤ (w64 ((((h0.length) : Nat) : Int) - (1 : Int))) ∧ (w64 ((((h0.length) : Nat) : Int) - (1 : Int))) < ((h0.length : Nat) : Int))) from (by rw [R_api_Frag_len])).trans hq1, fun e8 he8 => ⟨R_api_Frag_get he8, ⟨rfl, fun hq3 => ⟨rfl, fun hq4 => ⟨(show (decide (0 ≤ (w64 ((((h0.length) : Nat) : Int) - (1 : Int))) ∧ (w64 ((((h0.length) : Nat) : Int) - (1 : Int))) < (((R_api_Frag h0).length : Nat) : Int))) = (decide (0 ≤ (w64 ((((h0.length) : Nat) : Int) - (1 : Int))) ∧ (w64 ((((h0.length) : Nat) : Int) - (1 : Int))) < ((h0.length : Nat) : Int))) from (by rw [R_api_Frag_len])).trans hq1, fun e9 he9 => ⟨R_api_Frag_get he9, ⟨(R_api_Frag_set h0 (Int.toNat (w64 ((((h0.length) : Nat) : Int) - (1 : Int)))) (T_api_Frag.mk e9.Name (e8.Text ++ (a0 ++ h_0a)))), rfl⟩⟩⟩, fun hq4 => trivial⟩, fun hq3 => trivial⟩⟩⟩⟩)⟩), fun hq1 => trivial⟩)⟩⟩
theorem dis_Frags_1_c {C0 : Nat → Int → Option ByteArray} {D0 : Int → Option ByteArray} (H0 : ∀ (a0 : Int), Cv (fun k => C0 k a0) (D0 a0)) (a0 : ByteArray) (h0 : (List T_api_Frag)) : Cv (fun k => dis_Frags_1_b (C0 k) a0 h0) (dis_Frags_1_b D0 a0 h0) := by
  unfold dis_Frags_1_b
  exact .cond (.bind (H0 _) fun r1 => by exact .const _) (.cond (.bind (.const (h0[(Int.toNat (w64 ((((h0.length) : Nat) : Int) - (1 : Int))))]?)) fun e4 => .cond (.bind (H0 _) fun r5 => by exact .const _) (by exact .const _)) (by exact .const _))
def dis_Frags_1.s : Nat → ByteArray → (List T_api_Frag) → Option (List T_api_Frag)
  | 0, _, _ => none
  | k + 1, a0, h0 => dis_Frags_1_b (fun a0 => dis_name.s k a0) a0 h0
theorem dis_Frags_1.ok : ∀ (k : Nat), ∀ (a0 : ByteArray) (h0 : (List T_api_Frag)) (r : (List T_api_Frag)), dis_Frags_1.s k a0 h0 = some r → evalFn Tryd.prog G k 14 [.sc (.string a0), .ptr 0 0] [(0, .box [102] [.arr 1]), (1, .arr false 2 (R_api_Frag h0))] = some (dis_Frags_1_e r)
  | 0, _, _, _, h => (nomatch h)
  | k + 1, a0, h0, r, h => fn_ok rfl (dis_Frags_1_t Tryd.prog (evalFn Tryd.prog G k) (fun a0 => dis_name.s k a0) a0 h0) (dis_Frags_1_n _ _ a0 h0) (dis_Frags_1_k _ _ _ _ (dis_name.ok k)  a0 h0) h
theorem dis_Frags_1.mono : ∀ (k : Nat) (a0 : ByteArray) (h0 : (List T_api_Frag)), Le (dis_Frags_1.s k a0 h0) (dis_Frags_1.s (k + 1) a0 h0)
  | 0, _, _ => fun r h => (nomatch h)
  | k + 1, a0, h0 => (dis_Frags_1_c (fun a0 => .two ((dis_name.mono k) a0)) a0 h0).1 0
noncomputable def dis_Frags_1 (a0 : ByteArray) (h0 : (List T_api_Frag)) : Option (List T_api_Frag) := lim fun k => dis_Frags_1.s k a0 h0
theorem dis_Frags_1.cv (a0 : ByteArray) (h0 : (List T_api_Frag)) : Cv (fun k => dis_Frags_1.s k a0 h0) (dis_Frags_1 a0 h0) := .lim fun k => dis_Frags_1.mono k a0 h0
theorem dis_Frags_1.eq (a0 : ByteArray) (h0 : (List T_api_Frag)) : dis_Frags_1 a0 h0 = dis_Frags_1_b dis_name a0 h0 := Cv.uniq (dis_Frags_1.cv a0 h0).shift (dis_Frags_1_c dis_name.cv a0 h0)
def dis_each_2_e (r : (T_dis_reader × (List T_api_Frag))) : AV × Heap := (.tup [], [(0, .box [] (C_dis_reader r.1)), (1, .box [102] [.arr 3]), (3, .arr false 2 (R_api_Frag r.2))])
structure dis_each_2_L1_A where
  x4 : ByteArray
  x5 : Bool
  h0 : T_dis_reader
  h1 : (List T_api_Frag)
structure dis_each_2_L1_O0 where
  h0 : T_dis_reader
  h1 : (List T_api_Frag)
def dis_each_2_L1_s (a : dis_each_2_L1_A) : St := { n := 20, nx := 4, env := [(0, .fn (.func 11) [.ptr 0 0] []), (1, .fn (.func 14) [] [.ptr 1 0]), (4, .sc (.string a.x4)), (5, .sc (.bool a.x5))], heap := [(0, .box [] (C_dis_reader a.h0)), (1, .box [102] [.arr 3]), (3, .arr false 2 (R_api_Frag a.h1))] }
def dis_each_2_L1_e (a : dis_each_2_L1_O0) : Ex × St := (.exit 0, { n := 20, nx := 4, env := [], heap := [(0, .box [] (C_dis_reader a.h0)), (1, .box [102] [.arr 3]), (3, .arr false 2 (R_api_Frag a.h1))] })
def dis_each_2_L1_b (C0 : ByteArray → (List T_api_Frag) → Option (List T_api_Frag)) (C1 : T_dis_reader → Option (ByteArray × Bool × T_dis_reader)) (a : dis_each_2_L1_A) : Option (dis_each_2_L1_A ⊕ dis_each_2_L1_O0) := (bif a.x5 then ((C0 a.x4 a.h1).bind fun (r1 : (List T_api_Frag)) => ((C1 a.h0).bind fun (r2 : (ByteArray × Bool × T_dis_reader)) => (some (.inl (dis_each_2_L1_A.mk r2.1 r2.2.1 r2.2.2 r1))))) else (some (.inr (dis_each_2_L1_O0.mk a.h0 a.h1))))
def dis_each_2_L1_t (P : Program) (call : CallF) (C0 : ByteArray → (List T_api_Frag) → Option (List T_api_Frag)) (C1 : T_dis_reader → Option (ByteArray × Bool × T_dis_reader)) (a : dis_each_2_L1_A) : Tr (dis_each_2_L1_A ⊕ dis_each_2_L1_O0) (Ex × St) := (.as a.x5 (.call (call 14 [.sc (.string a.x4), .ptr 0 0] [(0, .box [102] [.arr 1]), (1, .arr false 2 (R_api_Frag a.h1))]) (C0 a.x4 a.h1) dis_Frags_1_e fun (r1 : (List T_api_Frag)) => (.call (call 11 [.ptr 0 0] [(0, .box [] (C_dis_reader a.h0))]) (C1 a.h0) dis_reader_next_e fun (r2 : (ByteArray × Bool × T_dis_reader)) => (lf dis_each_2_L1_s (dis_each_2_L1_A.mk r2.1 r2.2.1 r2.2.2 r1)))) (rx dis_each_2_L1_e (dis_each_2_L1_O0.mk a.h0 a.h1)))
theorem dis_each_2_L1_n (call : CallF) (C0 : ByteArray → (List T_api_Frag) → Option (List T_api_Frag)) (C1 : T_dis_reader → Option (ByteArray × Bool × T_dis_reader)) (a : dis_each_2_L1_A) : (dis_each_2_L1_t Tryd.prog call C0 C1 a).norm (roundT Tryd.prog G.kd call 3 (G.an 10) (loopAt Tryd.prog 10 1) (dis_each_2_L1_s a)) = dis_each_2_L1_t Tryd.prog call C0 C1 a := by kernel_rfl
theorem dis_each_2_L1_k (P : Program) (call : CallF) (lp : Loops) (C0 : ByteArray → (List T_api_Frag) → Option (List T_api_Frag)) (C1 : T_dis_reader → Option (ByteArray × Bool × T_dis_reader)) (K0 : ∀ (a0 : ByteArray) (h0 : (List T_api_Frag)) (r : (List T_api_Frag)), C0 a0 h0 = some r → (call 14 [.sc (.string a0), .ptr 0 0] [(0, .box [102] [.arr 1]), (1, .arr false 2 (R_api_Frag h0))]) = some (dis_Frags_1_e r)) (K1 : ∀ (h0 : T_dis_reader) (r : (ByteArray × Bool × T_dis_reader)), C1 h0 = some r → (call 11 [.ptr 0 0] [(0, .box [] (C_dis_reader h0))]) = some (dis_reader_next_e r)) (a : dis_each_2_L1_A) : (dis_each_2_L1_t P call C0 C1 a).ok lp (Sum.elim (fun a => (.norm, dis_each_2_L1_s a)) dis_each_2_L1_e) := ⟨rfl, fun hq0 => fun r1 hr1 => ⟨K0 _ _ _ hr1, fun r2 hr2 => ⟨K1 _ _ hr2, rfl⟩⟩, fun hq0 => rfl⟩
theorem dis_each_2_L1_c {C0 : Nat → ByteArray → (List T_api_Frag) → Option (List T_api_Frag)} {D0 : ByteArray → (List T_api_Frag) → Option (List T_api_Frag)} (H0 : ∀ (a0 : ByteArray) (h0 : (List T_api_Frag)), Cv (fun k => C0 k a0 h0) (D0 a0 h0)) {C1 : Nat → T_dis_reader → Option (ByteArray × Bool × T_dis_reader)} {D1 : T_dis_reader → Option (ByteArray × Bool × T_dis_reader)} (H1 : ∀ (h0 : T_dis_reader), Cv (fun k => C1 k h0) (D1 h0)) (a : dis_each_2_L1_A) : Cv (fun k => dis_each_2_L1_b (C0 k) (C1 k) a) (dis_each_2_L1_b D0 D1 a) := by
  unfold dis_each_2_L1_b
  exact .cond (.bind (H0 _ _) fun r1 => .bind (H1 _) fun r2 => by exact .const _) (by exact .const _)
def dis_each_2_L1.s (k : Nat) (C0 : ByteArray → (List T_api_Frag) → Option (List T_api_Frag)) (C1 : T_dis_reader → Option (ByteArray × Bool × T_dis_reader)) : dis_each_2_L1_A → Option dis_each_2_L1_O0 := iter (dis_each_2_L1_b C0 C1) k
theorem dis_each_2_L1_ok (call : CallF) (k : Nat) (C0 : ByteArray → (List T_api_Frag) → Option (List T_api_Frag)) (C1 : T_dis_reader → Option (ByteArray × Bool × T_dis_reader)) (K0 : ∀ (a0 : ByteArray) (h0 : (List T_api_Frag)) (r : (List T_api_Frag)), C0 a0 h0 = some r → (call 14 [.sc (.string a0), .ptr 0 0] [(0, .box [102] [.arr 1]), (1, .arr false 2 (R_api_Frag h0))]) = some (dis_Frags_1_e r)) (K1 : ∀ (h0 : T_dis_reader) (r : (ByteArray × Bool × T_dis_reader)), C1 h0 = some r → (call 11 [.ptr 0 0] [(0, .box [] (C_dis_reader h0))]) = some (dis_reader_next_e r)) (a : dis_each_2_L1_A) (r : dis_each_2_L1_O0) (h : dis_each_2_L1.s k C0 C1 a = some r) : loopsF Tryd.prog G.kd call 3 (G.an 10) k (loopAt Tryd.prog 10 1) (dis_each_2_L1_s a) = some (dis_each_2_L1_e r) :=
  loop_ok (fun a => dis_each_2_L1_t Tryd.prog call C0 C1 a) (fun _ => rfl) (fun a => dis_each_2_L1_n call _ _ a) (fun a => dis_each_2_L1_k _ call _ _ _ K0 K1 a) (fun r => nofun) h
theorem dis_each_2_L1.m {j k : Nat} (hj : j ≤ k) (C0 : ByteArray → (List T_api_Frag) → Option (List T_api_Frag)) (C1 : T_dis_reader → Option (ByteArray × Bool × T_dis_reader)) (D0 : ByteArray → (List T_api_Frag) → Option (List T_api_Frag)) (D1 : T_dis_reader → Option (ByteArray × Bool × T_dis_reader)) (H0 : ∀ (a0 : ByteArray) (h0 : (List T_api_Frag)), Le (C0 a0 h0) (D0 a0 h0)) (H1 : ∀ (h0 : T_dis_reader), Le (C1 h0) (D1 h0)) (a : dis_each_2_L1_A) : Le (dis_each_2_L1.s j C0 C1 a) (dis_each_2_L1.s k D0 D1 a) := Le.iter (fun a => (dis_each_2_L1_c (fun a0 h0 => .two (H0 a0 h0)) (fun h0 => .two (H1 h0)) a).1 0) hj a
noncomputable def dis_each_2_L1.w (C0 : ByteArray → (List T_api_Frag) → Option (List T_api_Frag)) (C1 : T_dis_reader → Option (ByteArray × Bool × T_dis_reader)) : dis_each_2_L1_A → Option dis_each_2_L1_O0 := loopW (dis_each_2_L1_b C0 C1)
theorem dis_each_2_L1.cv (C0 : Nat → ByteArray → (List T_api_Frag) → Option (List T_api_Frag)) (C1 : Nat → T_dis_reader → Option (ByteArray × Bool × T_dis_reader)) (D0 : ByteArray → (List T_api_Frag) → Option (List T_api_Frag)) (D1 : T_dis_reader → Option (ByteArray × Bool × T_dis_reader)) (H0 : ∀ (a0 : ByteArray) (h0 : (List T_api_Frag)), Cv (fun k => C0 k a0 h0) (D0 a0 h0)) (H1 : ∀ (h0 : T_dis_reader), Cv (fun k => C1 k h0) (D1 h0)) (a : dis_each_2_L1_A) : Cv (fun k => dis_each_2_L1.s k (C0 k) (C1 k) a) (dis_each_2_L1.w D0 D1 a) := Cv.iter (fun a => dis_each_2_L1_c H0 H1 a) a
def dis_each_2_b (C0 : T_dis_reader → Option (ByteArray × Bool × T_dis_reader)) (L1 : dis_each_2_L1_A → Option dis_each_2_L1_O0) (h0 : T_dis_reader) (h1 : (List T_api_Frag)) : Option (T_dis_reader × (List T_api_Frag)) := ((C0 h0).bind fun (r1 : (ByteArray × Bool × T_dis_reader)) => ((L1 (dis_each_2_L1_A.mk r1.1 r1.2.1 r1.2.2 h1)).bind (fun (o2 : dis_each_2_L1_O0) => (some (o2.h0, o2.h1)))))
def dis_each_2_t (P : Program) (call : CallF) (C0 : T_dis_reader → Option (ByteArray × Bool × T_dis_reader)) (L1 : dis_each_2_L1_A → Option dis_each_2_L1_O0) (h0 : T_dis_reader) (h1 : (List T_api_Frag)) : Tr (T_dis_reader × (List T_api_Frag)) (AV × Heap) := (.call (call 11 [.ptr 0 0] [(0, .box [] (C_dis_reader h0))]) (C0 h0) dis_reader_next_e fun (r1 : (ByteArray × Bool × T_dis_reader)) => (.loop (loopAt P 10 1) (dis_each_2_L1_s (dis_each_2_L1_A.mk r1.1 r1.2.1 r1.2.2 h1)) (L1 (dis_each_2_L1_A.mk r1.1 r1.2.1 r1.2.2 h1)) dis_each_2_L1_e (fun (o2 : dis_each_2_L1_O0) => (rt dis_each_2_e (o2.h0, o2.h1)))))
theorem dis_each_2_n (call : CallF) (C0 : T_dis_reader → Option (ByteArray × Bool × T_dis_reader)) (L1 : dis_each_2_L1_A → Option dis_each_2_L1_O0) (h0 : T_dis_reader) (h1 : (List T_api_Frag)) : (dis_each_2_t Tryd.prog call C0 L1 h0 h1).norm (bodyT Tryd.prog call G 10 [.fn (.func 11) [.ptr 0 0] [], .fn (.func 14) [] [.ptr 1 0]] [(0, .box [] (C_dis_reader h0)), (1, .box [102] [.arr 2]), (2, .arr false 2 (R_api_Frag h1))]) = dis_each_2_t Tryd.prog call C0 L1 h0 h1 := by kernel_rfl
theorem dis_each_2_k (P : Program) (call : CallF) (lp : Loops) (C0 : T_dis_reader → Option (ByteArray × Bool × T_dis_reader)) (L1 : dis_each_2_L1_A → Option dis_each_2_L1_O0) (K0 : ∀ (h0 : T_dis_reader) (r : (ByteArray × Bool × T_dis_reader)), C0 h0 = some r → (call 11 [.ptr 0 0] [(0, .box [] (C_dis_reader h0))]) = some (dis_reader_next_e r)) (N1 : ∀ (a : dis_each_2_L1_A) (r : dis_each_2_L1_O0), L1 a = some r → lp (loopAt P 10 1) (dis_each_2_L1_s a) = some (dis_each_2_L1_e r)) (h0 : T_dis_reader) (h1 : (List T_api_Frag)) : (dis_each_2_t P call C0 L1 h0 h1).ok lp dis_each_2_e := fun r1 hr1 => ⟨K0 _ _ hr1, fun o2 ho2 => ⟨N1 _ _ ho2, rfl⟩⟩
theorem dis_each_2_c {C0 : Nat → T_dis_reader → Option (ByteArray × Bool × T_dis_reader)} {D0 : T_dis_reader → Option (ByteArray × Bool × T_dis_reader)} (H0 : ∀ (h0 : T_dis_reader), Cv (fun k => C0 k h0) (D0 h0)) {L1 : Nat → dis_each_2_L1_A → Option dis_each_2_L1_O0} {M1 : dis_each_2_L1_A → Option dis_each_2_L1_O0} (N1 : ∀ a, Cv (fun k => L1 k a) (M1 a)) (h0 : T_dis_reader) (h1 : (List T_api_Frag)) : Cv (fun k => dis_each_2_b (C0 k) (L1 k) h0 h1) (dis_each_2_b D0 M1 h0 h1) := by
  unfold dis_each_2_b
  exact .bind (H0 _) fun r1 => .bind (N1 _) (fun o2 => by exact .const _)
def dis_each_2.s : Nat → T_dis_reader → (List T_api_Frag) → Option (T_dis_reader × (List T_api_Frag))
  | 0, _, _ => none
  | k + 1, h0, h1 => dis_each_2_b (fun h0 => dis_reader_next.s k h0) (dis_each_2_L1.s k (fun a0 h0 => dis_Frags_1.s k a0 h0) (fun h0 => dis_reader_next.s k h0)) h0 h1
theorem dis_each_2.ok : ∀ (k : Nat), ∀ (h0 : T_dis_reader) (h1 : (List T_api_Frag)) (r : (T_dis_reader × (List T_api_Frag))), dis_each_2.s k h0 h1 = some r → evalFn Tryd.prog G k 10 [.fn (.func 11) [.ptr 0 0] [], .fn (.func 14) [] [.ptr 1 0]] [(0, .box [] (C_dis_reader h0)), (1, .box [102] [.arr 2]), (2, .arr false 2 (R_api_Frag h1))] = some (dis_each_2_e r)
  | 0, _, _, _, h => (nomatch h)
  | k + 1, h0, h1, r, h => fn_ok rfl (dis_each_2_t Tryd.prog (evalFn Tryd.prog G k) (fun h0 => dis_reader_next.s k h0) (dis_each_2_L1.s k (fun a0 h0 => dis_Frags_1.s k a0 h0) (fun h0 => dis_reader_next.s k h0)) h0 h1) (dis_each_2_n _ _ _ h0 h1) (dis_each_2_k _ _ _ _ _ (dis_reader_next.ok k) (dis_each_2_L1_ok _ k _ _ (dis_Frags_1.ok k) (dis_reader_next.ok k)) h0 h1) h
theorem dis_each_2.mono : ∀ (k : Nat) (h0 : T_dis_reader) (h1 : (List T_api_Frag)), Le (dis_each_2.s k h0 h1) (dis_each_2.s (k + 1) h0 h1)
  | 0, _, _ => fun r h => (nomatch h)
  | k + 1, h0, h1 => (dis_each_2_c (fun h0 => .two ((dis_reader_next.mono k) h0)) (fun a => .two ((dis_each_2_L1.m (Nat.le_succ k) (fun a0 h0 => dis_Frags_1.s k a0 h0) (fun h0 => dis_reader_next.s k h0) (fun a0 h0 => dis_Frags_1.s (k + 1) a0 h0) (fun h0 => dis_reader_next.s (k + 1) h0) (dis_Frags_1.mono k) (dis_reader_next.mono k)) a)) h0 h1).1 0
noncomputable def dis_each_2 (h0 : T_dis_reader) (h1 : (List T_api_Frag)) : Option (T_dis_reader × (List T_api_Frag)) := lim fun k => dis_each_2.s k h0 h1
theorem dis_each_2.cv (h0 : T_dis_reader) (h1 : (List T_api_Frag)) : Cv (fun k => dis_each_2.s k h0 h1) (dis_each_2 h0 h1) := .lim fun k => dis_each_2.mono k h0 h1
noncomputable def dis_each_2_L1 : dis_each_2_L1_A → Option dis_each_2_L1_O0 := dis_each_2_L1.w dis_Frags_1 dis_reader_next
theorem dis_each_2_L1.eq (a : dis_each_2_L1_A) : dis_each_2_L1 a = (dis_each_2_L1_b dis_Frags_1 dis_reader_next a).bind (Sum.elim dis_each_2_L1 some) := loopW_eq _ _
theorem dis_each_2.eq (h0 : T_dis_reader) (h1 : (List T_api_Frag)) : dis_each_2 h0 h1 = dis_each_2_b dis_reader_next dis_each_2_L1 h0 h1 := Cv.uniq (dis_each_2.cv h0 h1).shift (dis_each_2_c dis_reader_next.cv (dis_each_2_L1.cv (fun k => fun a0 h0 => dis_Frags_1.s k a0 h0) (fun k => fun h0 => dis_reader_next.s k h0) dis_Frags_1 dis_reader_next dis_Frags_1.cv dis_reader_next.cv) h0 h1)
def slices_Clone_3_e (r : (List T_api_Frag)) : AV × Heap := (.arr 0, [(0, .arr false 2 (R_api_Frag r))])
def slices_Clone_3.s : Nat → (List T_api_Frag) → Option (List T_api_Frag)
  | 0, _ => none
  | _ + 1, a0 => cloneT 32 a0
theorem slices_Clone_3.ok : ∀ (k : Nat), ∀ (a0 : (List T_api_Frag)) (r : (List T_api_Frag)), slices_Clone_3.s k a0 = some r → evalFn Tryd.prog G k 16 [.sl (R_api_Frag a0)] [] = some (slices_Clone_3_e r)
  | 0, _, _, h => (nomatch h)
  | k + 1, a0, r, h => cloneO_ok C_api_Frag (fun _ => rfl) h
noncomputable def slices_Clone_3 (a0 : (List T_api_Frag)) : Option (List T_api_Frag) := cloneT 32 a0
theorem slices_Clone_3.mono (k : Nat) (a0 : (List T_api_Frag)) : Le (slices_Clone_3.s k a0) (slices_Clone_3.s (k + 1) a0) := by
  cases k with
  | zero => exact fun r h => nomatch h
  | succ k => exact Le.refl _
theorem slices_Clone_3.cv (a0 : (List T_api_Frag)) : Cv (fun k => slices_Clone_3.s k a0) (slices_Clone_3 a0) := ⟨fun k => slices_Clone_3.mono k a0, fun r => ⟨fun h => ⟨1, h⟩, fun ⟨k, h⟩ => by
  cases k with
  | zero => cases h
  | succ k => exact h⟩⟩
def dis_Frags_e (r : (List T_api_Frag)) : AV × Heap := (.arr 0, [(0, .arr false 2 (R_api_Frag r))])
def dis_Frags_b (C0 : T_dis_reader → (List T_api_Frag) → Option (T_dis_reader × (List T_api_Frag))) (C1 : (List T_api_Frag) → Option (List T_api_Frag)) (a0 : (List Int)) : Option (List T_api_Frag) := ((C0 (T_dis_reader.mk a0) ([] : List T_api_Frag)).bind fun (r1 : (T_dis_reader × (List T_api_Frag))) => ((C1 r1.2).bind fun (r2 : (List T_api_Frag)) => (some r2)))
def dis_Frags_t (P : Program) (call : CallF) (C0 : T_dis_reader → (List T_api_Frag) → Option (T_dis_reader × (List T_api_Frag))) (C1 : (List T_api_Frag) → Option (List T_api_Frag)) (a0 : (List Int)) : Tr (List T_api_Frag) (AV × Heap) := (.call (call 10 [.fn (.func 11) [.ptr 0 0] [], .fn (.func 14) [] [.ptr 1 0]] [(0, .box [] (C_dis_reader (T_dis_reader.mk (T_dis_reader.mk a0).b))), (1, .box [102] [.arr 2]), (2, .arr false 2 (R_api_Frag ([] : List T_api_Frag)))]) (C0 (T_dis_reader.mk a0) ([] : List T_api_Frag)) dis_each_2_e fun (r1 : (T_dis_reader × (List T_api_Frag))) => (.call (call 16 [.sl (R_api_Frag r1.2)] []) (C1 r1.2) slices_Clone_3_e fun (r2 : (List T_api_Frag)) => (rt dis_Frags_e r2)))
theorem dis_Frags_n (call : CallF) (C0 : T_dis_reader → (List T_api_Frag) → Option (T_dis_reader × (List T_api_Frag))) (C1 : (List T_api_Frag) → Option (List T_api_Frag)) (a0 : (List Int)) : (dis_Frags_t Tryd.prog call C0 C1 a0).norm (bodyT Tryd.prog call G 9 [.sl (R_u8 a0)] []) = dis_Frags_t Tryd.prog call C0 C1 a0 := by kernel_rfl
theorem dis_Frags_k (P : Program) (call : CallF) (lp : Loops) (C0 : T_dis_reader → (List T_api_Frag) → Option (T_dis_reader × (List T_api_Frag))) (C1 : (List T_api_Frag) → Option (List T_api_Frag)) (K0 : ∀ (h0 : T_dis_reader) (h1 : (List T_api_Frag)) (r : (T_dis_reader × (List T_api_Frag))), C0 h0 h1 = some r → (call 10 [.fn (.func 11) [.ptr 0 0] [], .fn (.func 14) [] [.ptr 1 0]] [(0, .box [] (C_dis_reader h0)), (1, .box [102] [.arr 2]), (2, .arr false 2 (R_api_Frag h1))]) = some (dis_each_2_e r)) (K1 : ∀ (a0 : (List T_api_Frag)) (r : (List T_api_Frag)), C1 a0 = some r → (call 16 [.sl (R_api_Frag a0)] []) = some (slices_Clone_3_e r)) (a0 : (List Int)) : (dis_Frags_t P call C0 C1 a0).ok lp dis_Frags_e := fun r1 hr1 => ⟨K0 _ _ _ hr1, fun r2 hr2 => ⟨K1 _ _ hr2, rfl⟩⟩
theorem dis_Frags_c {C0 : Nat → T_dis_reader → (List T_api_Frag) → Option (T_dis_reader × (List T_api_Frag))} {D0 : T_dis_reader → (List T_api_Frag) → Option (T_dis_reader × (List T_api_Frag))} (H0 : ∀ (h0 : T_dis_reader) (h1 : (List T_api_Frag)), Cv (fun k => C0 k h0 h1) (D0 h0 h1)) {C1 : Nat → (List T_api_Frag) → Option (List T_api_Frag)} {D1 : (List T_api_Frag) → Option (List T_api_Frag)} (H1 : ∀ (a0 : (List T_api_Frag)), Cv (fun k => C1 k a0) (D1 a0)) (a0 : (List Int)) : Cv (fun k => dis_Frags_b (C0 k) (C1 k) a0) (dis_Frags_b D0 D1 a0) := by
  unfold dis_Frags_b
  exact .bind (H0 _ _) fun r1 => .bind (H1 _) fun r2 => by exact .const _
def dis_Frags.s : Nat → (List Int) → Option (List T_api_Frag)
  | 0, _ => none
  | k + 1, a0 => dis_Frags_b (fun h0 h1 => dis_each_2.s k h0 h1) (fun a0 => slices_Clone_3.s k a0) a0
theorem dis_Frags.ok : ∀ (k : Nat), ∀ (a0 : (List Int)) (r : (List T_api_Frag)), dis_Frags.s k a0 = some r → evalFn Tryd.prog G k 9 [.sl (R_u8 a0)] [] = some (dis_Frags_e r)
  | 0, _, _, h => (nomatch h)
  | k + 1, a0, r, h => fn_ok rfl (dis_Frags_t Tryd.prog (evalFn Tryd.prog G k) (fun h0 h1 => dis_each_2.s k h0 h1) (fun a0 => slices_Clone_3.s k a0) a0) (dis_Frags_n _ _ _ a0) (dis_Frags_k _ _ _ _ _ (dis_each_2.ok k) (slices_Clone_3.ok k)  a0) h
theorem dis_Frags.mono : ∀ (k : Nat) (a0 : (List Int)), Le (dis_Frags.s k a0) (dis_Frags.s (k + 1) a0)
  | 0, _ => fun r h => (nomatch h)
  | k + 1, a0 => (dis_Frags_c (fun h0 h1 => .two ((dis_each_2.mono k) h0 h1)) (fun a0 => .two ((slices_Clone_3.mono k) a0)) a0).1 0
noncomputable def dis_Frags (a0 : (List Int)) : Option (List T_api_Frag) := lim fun k => dis_Frags.s k a0
theorem dis_Frags.cv (a0 : (List Int)) : Cv (fun k => dis_Frags.s k a0) (dis_Frags a0) := .lim fun k => dis_Frags.mono k a0
theorem dis_Frags.eq (a0 : (List Int)) : dis_Frags a0 = dis_Frags_b dis_each_2 slices_Clone_3 a0 := Cv.uniq (dis_Frags.cv a0).shift (dis_Frags_c dis_each_2.cv slices_Clone_3.cv a0)
def w6_known_e (r : Bool) : AV × Heap := (.sc (.bool r), [])
def w6_known_b (C0 : (List Int) → Option (List ByteArray)) (C1 : (List Int) → Option (List T_api_Frag))  : Option Bool := ((C0 [(0 : Int), (4 : Int), (7 : Int)]).bind fun (r1 : (List ByteArray)) => ((C1 [(0 : Int), (4 : Int)]).bind fun (r2 : (List T_api_Frag)) => ((C0 ([] : List Int)).bind fun (r3 : (List ByteArray)) => (bif ((((r3.length) : Nat) : Int) == (0 : Int)) then (bif ((((r1.length) : Nat) : Int) == (2 : Int)) then (bif (decide (0 ≤ (0 : Int) ∧ (0 : Int) < ((r1.length : Nat) : Int))) then ((r1[(Int.toNat (0 : Int))]?).bind fun (e4 : ByteArray) => (bif (eqS e4 s_se_blr) then (bif (decide (0 ≤ (1 : Int) ∧ (1 : Int) < ((r1.length : Nat) : Int))) then ((r1[(Int.toNat (1 : Int))]?).bind fun (e5 : ByteArray) => (bif (eqS e5 h_2e627974652037) then (bif ((((r2.length) : Nat) : Int) == (1 : Int)) then (bif (decide (0 ≤ (0 : Int) ∧ (0 : Int) < ((r2.length : Nat) : Int))) then ((r2[(Int.toNat (0 : Int))]?).bind fun (e6 : T_api_Frag) => (bif (eqS e6.Name s_p00) then ((r2[(Int.toNat (0 : Int))]?).bind fun (e7 : T_api_Frag) => (some (eqS e7.Text h_73655f626c720a))) else (some false))) else none) else (some false)) else (some false))) else none) else (some false))) else none) else (some false)) else (some false)))))
def w6_known_t (P : Program) (call : CallF) (C0 : (List Int) → Option (List ByteArray)) (C1 : (List Int) → Option (List T_api_Frag))  : Tr Bool (AV × Heap) := (.rows [[.sc (.int .u8 (0 : Int))], [.sc (.int .u8 (4 : Int))], [.sc (.int .u8 (7 : Int))]] (R_u8 [(0 : Int), (4 : Int), (7 : Int)]) (.call (call 8 [.sl (R_u8 [(0 : Int), (4 : Int), (7 : Int)])] []) (C0 [(0 : Int), (4 : Int), (7 : Int)]) dis_List_e fun (r1 : (List ByteArray)) => (.rows [[.sc (.int .u8 (0 : Int))], [.sc (.int .u8 (4 : Int))]] (R_u8 [(0 : Int), (4 : Int)]) (.call (call 9 [.sl (R_u8 [(0 : Int), (4 : Int)])] []) (C1 [(0 : Int), (4 : Int)]) dis_Frags_e fun (r2 : (List T_api_Frag)) => (.call (call 8 [.sl (R_u8 ([] : List Int))] []) (C0 ([] : List Int)) dis_List_e fun (r3 : (List ByteArray)) => (.num ((R_string r3).length) (r3.length) (.as ((((r3.length) : Nat) : Int) == (0 : Int)) (.yes ((((r3.length) : Nat) : Int) == (0 : Int)) (.num ((R_string r1).length) (r1.length) (yesN 2 ((((r3.length) : Nat) : Int) == (0 : Int)) (.as ((((r1.length) : Nat) : Int) == (2 : Int)) (.yes ((((r1.length) : Nat) : Int) == (2 : Int)) (.ask (decide (0 ≤ (0 : Int) ∧ (0 : Int) < (((R_string r1).length : Nat) : Int))) (decide (0 ≤ (0 : Int) ∧ (0 : Int) < ((r1.length : Nat) : Int))) (.yes ((((r1.length) : Nat) : Int) == (2 : Int)) (.row ((R_string r1)[(Int.toNat (0 : Int))]?) (r1[(Int.toNat (0 : Int))]?) C_string fun (e4 : ByteArray) => (yesN 2 ((((r1.length) : Nat) : Int) == (2 : Int)) (.as (eqS e4 s_se_blr) (.yes (eqS e4 s_se_blr) (.ask (decide (0 ≤ (1 : Int) ∧ (1 : Int) < (((R_string r1).length : Nat) : Int))) (decide (0 ≤ (1 : Int) ∧ (1 : Int) < ((r1.length : Nat) : Int))) (.yes (eqS e4 s_se_blr) (.row ((R_string r1)[(Int.toNat (1 : Int))]?) (r1[(Int.toNat (1 : Int))]?) C_string fun (e5 : ByteArray) => (yesN 2 (eqS e4 s_se_blr) (.as (eqS e5 h_2e627974652037) (.yes (eqS e5 h_2e627974652037) (.num ((R_api_Frag r2).length) (r2.length) (yesN 2 (eqS e5 h_2e627974652037) (.as ((((r2.length) : Nat) : Int) == (1 : Int)) (.yes ((((r2.length) : Nat) : Int) == (1 : Int)) (.ask (decide (0 ≤ (0 : Int) ∧ (0 : Int) < (((R_api_Frag r2).length : Nat) : Int))) (decide (0 ≤ (0 : Int) ∧ (0 : Int) < ((r2.length : Nat) : Int))) (yesN 2 ((((r2.length) : Nat) : Int) == (1 : Int)) (.row ((R_api_Frag r2)[(Int.toNat (0 : Int))]?) (r2[(Int.toNat (0 : Int))]?) C_api_Frag fun (e6 : T_api_Frag) => (yesN 2 ((((r2.length) : Nat) : Int) == (1 : Int)) (.as (eqS e6.Name s_p00) (.yes (eqS e6.Name s_p00) (.yes (decide (0 ≤ (0 : Int) ∧ (0 : Int) < (((R_api_Frag r2).length : Nat) : Int))) (yesN 2 (eqS e6.Name s_p00) (.row ((R_api_Frag r2)[(Int.toNat (0 : Int))]?) (r2[(Int.toNat (0 : Int))]?) C_api_Frag fun (e7 : T_api_Frag) => (yesN 2 (eqS e6.Name s_p00) (rt w6_known_e (eqS e7.Text h_73655f626c720a))))))) (noN 5 (eqS e6.Name s_p00) (rt w6_known_e false)))))) .fail)) (noN 5 ((((r2.length) : Nat) : Int) == (1 : Int)) (noN 6 false (rt w6_known_e false))))))) (noN 3 (eqS e5 h_2e627974652037) (noN 12 false (rt w6_known_e false))))))) .fail)) (noN 4 (eqS e4 s_se_blr) (noN 16 false (rt w6_known_e false))))))) .fail)) (noN 4 ((((r1.length) : Nat) : Int) == (2 : Int)) (noN 21 false (rt w6_known_e false))))))) (noN 3 ((((r3.length) : Nat) : Int) == (0 : Int)) (noN 26 false (rt w6_known_e false))))))))))
theorem w6_known_n (call : CallF) (C0 : (List Int) → Option (List ByteArray)) (C1 : (List Int) → Option (List T_api_Frag))  : (w6_known_t Tryd.prog call C0 C1 ).norm (bodyT Tryd.prog call G 5 [] []) = w6_known_t Tryd.prog call C0 C1  := by kernel_rfl
theorem w6_known_k (P : Program) (call : CallF) (lp : Loops) (C0 : (List Int) → Option (List ByteArray)) (C1 : (List Int) → Option (List T_api_Frag)) (K0 : ∀ (a0 : (List Int)) (r : (List ByteArray)), C0 a0 = some r → (call 8 [.sl (R_u8 a0)] []) = some (dis_List_e r)) (K1 : ∀ (a0 : (List Int)) (r : (List T_api_Frag)), C1 a0 = some r → (call 9 [.sl (R_u8 a0)] []) = some (dis_Frags_e r))  : (w6_known_t P call C0 C1 ).ok lp w6_known_e := ⟨(R_u8_map [(0 : Int), (4 : Int), (7 : Int)]), fun r1 hr1 => ⟨K0 _ _ hr1, ⟨(R_u8_map [(0 : Int), (4 : Int)]), fun r2 hr2 => ⟨K1 _ _ hr2, fun r3 hr3 => ⟨K0 _ _ hr3, ⟨(R_string_len _), ⟨rfl, fun hq0 => ⟨hq0, ⟨(R_string_len _), yesN_ok 2 (hq0) (⟨rfl, fun hq1 => ⟨hq1, ⟨(by rw [R_string_len]), fun hq2 => ⟨hq1, fun e4 he4 => ⟨R_string_get he4, yesN_ok 2 (hq1) (⟨rfl, fun hq3 => ⟨hq3, ⟨(by rw [R_string_len]), fun hq4 => ⟨hq3, fun e5 he5 => ⟨R_string_get he5, yesN_ok 2 (hq3) (⟨rfl, fun hq5 => ⟨hq5, ⟨(R_api_Frag_len _), yesN_ok 2 (hq5) (⟨rfl, fun hq6 => ⟨hq6, ⟨(by rw [R_api_Frag_len]), fun hq7 => yesN_ok 2 (hq6) (fun e6 he6 => ⟨R_api_Frag_get he6, yesN_ok 2 (hq6) (⟨rfl, fun hq8 => ⟨hq8, ⟨(show (decide (0 ≤ (0 : Int) ∧ (0 : Int) < (((R_api_Frag r2).length : Nat) : Int))) = (decide (0 ≤ (0 : Int) ∧ (0 : Int) < ((r2.length : Nat) : Int))) from (by rw [R_api_Frag_len])).trans hq7, yesN_ok 2 (hq8) (fun e7 he7 => ⟨R_api_Frag_get he7, yesN_ok 2 (hq8) (rfl)⟩)⟩⟩, fun hq8 => noN_ok 5 (hq8) (rfl)⟩)⟩), fun hq7 => trivial⟩⟩, fun hq6 => noN_ok 5 (hq6) (noN_ok 6 (rfl) (rfl))⟩)⟩⟩, fun hq5 => noN_ok 3 (hq5) (noN_ok 12 (rfl) (rfl))⟩)⟩⟩, fun hq4 => trivial⟩⟩, fun hq3 => noN_ok 4 (hq3) (noN_ok 16 (rfl) (rfl))⟩)⟩⟩, fun hq2 => trivial⟩⟩, fun hq1 => noN_ok 4 (hq1) (noN_ok 21 (rfl) (rfl))⟩)⟩⟩, fun hq0 => noN_ok 3 (hq0) (noN_ok 26 (rfl) (rfl))⟩⟩⟩⟩⟩⟩⟩
theorem w6_known_c {C0 : Nat → (List Int) → Option (List ByteArray)} {D0 : (List Int) → Option (List ByteArray)} (H0 : ∀ (a0 : (List Int)), Cv (fun k => C0 k a0) (D0 a0)) {C1 : Nat → (List Int) → Option (List T_api_Frag)} {D1 : (List Int) → Option (List T_api_Frag)} (H1 : ∀ (a0 : (List Int)), Cv (fun k => C1 k a0) (D1 a0))  : Cv (fun k => w6_known_b (C0 k) (C1 k) ) (w6_known_b D0 D1 ) := by
  unfold w6_known_b
  exact .bind (H0 _) fun r1 => .bind (H1 _) fun r2 => .bind (H0 _) fun r3 => by exact .const _
def w6_known.s : Nat → Option Bool
  | 0 => none
  | k + 1 => w6_known_b (fun a0 => dis_List.s k a0) (fun a0 => dis_Frags.s k a0) 
theorem w6_known.ok : ∀ (k : Nat), ∀  (r : Bool), w6_known.s k  = some r → evalFn Tryd.prog G k 5 [] [] = some (w6_known_e r)
  | 0, _, h => (nomatch h)
  | k + 1, r, h => fn_ok rfl (w6_known_t Tryd.prog (evalFn Tryd.prog G k) (fun a0 => dis_List.s k a0) (fun a0 => dis_Frags.s k a0) ) (w6_known_n _ _ _ ) (w6_known_k _ _ _ _ _ (dis_List.ok k) (dis_Frags.ok k)  ) h
theorem w6_known.mono : ∀ (k : Nat), Le (w6_known.s k ) (w6_known.s (k + 1) )
  | 0 => fun r h => (nomatch h)
  | k + 1 => (w6_known_c (fun a0 => .two ((dis_List.mono k) a0)) (fun a0 => .two ((dis_Frags.mono k) a0)) ).1 0
noncomputable def w6_known  : Option Bool := lim fun k => w6_known.s k 
theorem w6_known.cv  : Cv (fun k => w6_known.s k ) (w6_known ) := .lim fun k => w6_known.mono k 
theorem w6_known.eq  : w6_known  = w6_known_b dis_List dis_Frags  := Cv.uniq (w6_known.cv ).shift (w6_known_c dis_List.cv dis_Frags.cv )
def w6_within_e (r : Int) : AV × Heap := (.sc (.int .i64 r), [])
def w6_within_b  (a0 : Int) (a1 : Int) : Option Int := (bif (decide (a1 ≠ 0)) then (bif (decide ((Int.tmod a0 a1) < (0 : Int))) then (some (w64 ((Int.tmod a0 a1) + a1))) else (some (Int.tmod a0 a1))) else none)
def w6_within_t (P : Program) (call : CallF)  (a0 : Int) (a1 : Int) : Tr Int (AV × Heap) := (.as (decide (a1 ≠ 0)) (.as (decide ((Int.tmod a0 a1) < (0 : Int))) (rt w6_within_e (w64 ((Int.tmod a0 a1) + a1))) (rt w6_within_e (Int.tmod a0 a1))) .fail)
theorem w6_within_n (call : CallF)  (a0 : Int) (a1 : Int) : (w6_within_t Tryd.prog call  a0 a1).norm (bodyT Tryd.prog call G 6 [.sc (.int .i64 a0), .sc (.int .i64 a1)] []) = w6_within_t Tryd.prog call  a0 a1 := by kernel_rfl
theorem w6_within_k (P : Program) (call : CallF) (lp : Loops)   (a0 : Int) (a1 : Int) : (w6_within_t P call  a0 a1).ok lp w6_within_e := ⟨rfl, fun hq0 => ⟨rfl, fun hq1 => rfl, fun hq1 => rfl⟩, fun hq0 => trivial⟩
def w6_within.s : Nat → Int → Int → Option Int
  | 0, _, _ => none
  | k + 1, a0, a1 => w6_within_b  a0 a1
theorem w6_within.ok : ∀ (k : Nat), ∀ (a0 : Int) (a1 : Int) (r : Int), w6_within.s k a0 a1 = some r → evalFn Tryd.prog G k 6 [.sc (.int .i64 a0), .sc (.int .i64 a1)] [] = some (w6_within_e r)
  | 0, _, _, _, h => (nomatch h)
  | k + 1, a0, a1, r, h => fn_ok rfl (w6_within_t Tryd.prog (evalFn Tryd.prog G k)  a0 a1) (w6_within_n _  a0 a1) (w6_within_k _ _ _    a0 a1) h
theorem w6_within.mono : ∀ (k : Nat) (a0 : Int) (a1 : Int), Le (w6_within.s k a0 a1) (w6_within.s (k + 1) a0 a1)
  | 0, _, _ => fun r h => (nomatch h)
  | k + 1, a0, a1 => .refl _
noncomputable def w6_within (a0 : Int) (a1 : Int) : Option Int := lim fun k => w6_within.s k a0 a1
theorem w6_within.cv (a0 : Int) (a1 : Int) : Cv (fun k => w6_within.s k a0 a1) (w6_within a0 a1) := .lim fun k => w6_within.mono k a0 a1
theorem w6_within.eq (a0 : Int) (a1 : Int) : w6_within a0 a1 = w6_within_b  a0 a1 := Cv.uniq (w6_within.cv a0 a1).shift (by exact .const _)
def w6_DisData_e (r : Bool) : AV × Heap := (.sc (.bool r), [])
structure w6_DisData_L1_A where
  x1 : Bool
  x5 : Int
  x7 : Int
  r0 : (List Int)
structure w6_DisData_L1_O0 where
  x1 : Bool
  x5 : Int
  r0 : (List Int)
def w6_DisData_L1_s (a : w6_DisData_L1_A) : St := { n := 65, nx := 1, env := [(1, .sc (.bool a.x1)), (5, .sc (.int .i64 a.x5)), (6, .arr 0), (7, .sc (.int .i64 a.x7))], heap := [(0, .arr false 1 (R_u8 a.r0))] }
def w6_DisData_L1_e (a : w6_DisData_L1_O0) : Ex × St := (.exit 0, { n := 65, nx := 1, env := [(1, .sc (.bool a.x1)), (5, .sc (.int .i64 a.x5)), (6, .arr 0)], heap := [(0, .arr false 1 (R_u8 a.r0))] })
def w6_DisData_L1_b  (a : w6_DisData_L1_A) : Option (w6_DisData_L1_A ⊕ w6_DisData_L1_O0) := (bif (decide (a.x7 < (w64 ((2 : Int) * a.x5)))) then (bif (decide (0 ≤ a.x7 ∧ a.x7 < ((a.r0.length : Nat) : Int))) then ((a.r0[(Int.toNat a.x7)]?).bind fun (e1 : Int) => (some (.inl (w6_DisData_L1_A.mk a.x1 a.x5 (w64 (a.x7 + (1 : Int))) (a.r0.set (Int.toNat a.x7) (255 : Int)))))) else none) else (some (.inr (w6_DisData_L1_O0.mk a.x1 a.x5 a.r0))))
def w6_DisData_L1_t (P : Program) (call : CallF)  (a : w6_DisData_L1_A) : Tr (w6_DisData_L1_A ⊕ w6_DisData_L1_O0) (Ex × St) := (.as (decide (a.x7 < (w64 ((2 : Int) * a.x5)))) (.ask (decide (0 ≤ a.x7 ∧ a.x7 < (((R_u8 a.r0).length : Nat) : Int))) (decide (0 ≤ a.x7 ∧ a.x7 < ((a.r0.length : Nat) : Int))) (.row ((R_u8 a.r0)[(Int.toNat a.x7)]?) (a.r0[(Int.toNat a.x7)]?) C_u8 fun (e1 : Int) => (.rows ((R_u8 a.r0).set (Int.toNat a.x7) [.sc (.int .u8 (255 : Int))]) (R_u8 (a.r0.set (Int.toNat a.x7) (255 : Int))) (lf w6_DisData_L1_s (w6_DisData_L1_A.mk a.x1 a.x5 (w64 (a.x7 + (1 : Int))) (a.r0.set (Int.toNat a.x7) (255 : Int)))))) .fail) (rx w6_DisData_L1_e (w6_DisData_L1_O0.mk a.x1 a.x5 a.r0)))
theorem w6_DisData_L1_n (call : CallF)  (a : w6_DisData_L1_A) : (w6_DisData_L1_t Tryd.prog call  a).norm (roundT Tryd.prog G.kd call 0 (G.an 4) (loopAt Tryd.prog 4 6) (w6_DisData_L1_s a)) = w6_DisData_L1_t Tryd.prog call  a := by kernel_rfl
theorem w6_DisData_L1_k (P : Program) (call : CallF) (lp : Loops)   (a : w6_DisData_L1_A) : (w6_DisData_L1_t P call  a).ok lp (Sum.elim (fun a => (.norm, w6_DisData_L1_s a)) w6_DisData_L1_e) := ⟨rfl, fun hq0 => ⟨(by rw [R_u8_len]), fun hq1 => fun e1 he1 => ⟨R_u8_get he1, ⟨(R_u8_set a.r0 (Int.toNat a.x7) (255 : Int)), rfl⟩⟩, fun hq1 => trivial⟩, fun hq0 => rfl⟩
def w6_DisData_L1.s (k : Nat)  : w6_DisData_L1_A → Option w6_DisData_L1_O0 := iter (w6_DisData_L1_b ) k
theorem w6_DisData_L1_ok (call : CallF) (k : Nat)   (a : w6_DisData_L1_A) (r : w6_DisData_L1_O0) (h : w6_DisData_L1.s k  a = some r) : loopsF Tryd.prog G.kd call 0 (G.an 4) k (loopAt Tryd.prog 4 6) (w6_DisData_L1_s a) = some (w6_DisData_L1_e r) :=
  loop_ok (fun a => w6_DisData_L1_t Tryd.prog call  a) (fun _ => rfl) (fun a => w6_DisData_L1_n call  a) (fun a => w6_DisData_L1_k _ call _   a) (fun r => nofun) h
theorem w6_DisData_L1.m {j k : Nat} (hj : j ≤ k)    (a : w6_DisData_L1_A) : Le (w6_DisData_L1.s j  a) (w6_DisData_L1.s k  a) := Le.iter (fun a => .refl _) hj a
noncomputable def w6_DisData_L1.w  : w6_DisData_L1_A → Option w6_DisData_L1_O0 := loopW (w6_DisData_L1_b )
theorem w6_DisData_L1.cv    (a : w6_DisData_L1_A) : Cv (fun k => w6_DisData_L1.s k  a) (w6_DisData_L1.w  a) := Cv.iter (fun a => by exact .const _) a
structure w6_DisData_L2_A where
  x1 : Bool
  x5 : Int
  x8 : (List ByteArray)
  x9 : Int
structure w6_DisData_L2_O1 where
  x1 : Bool
  x5 : Int
  x8 : (List ByteArray)
def w6_DisData_L2_s (a : w6_DisData_L2_A) : St := { n := 65, nx := 0, env := [(1, .sc (.bool a.x1)), (5, .sc (.int .i64 a.x5)), (8, .sl (R_string a.x8)), (9, .sc (.int .i64 a.x9))], heap := [] }
def w6_DisData_L2_e0 (a : Bool) : Ex × St := (.ret, { n := 65, nx := 0, env := [(4, .sc (.bool a))], heap := [] })
def w6_DisData_L2_e1 (a : w6_DisData_L2_O1) : Ex × St := (.exit 2, { n := 65, nx := 0, env := [(1, .sc (.bool a.x1)), (5, .sc (.int .i64 a.x5)), (8, .sl (R_string a.x8))], heap := [] })
def w6_DisData_L2_e (a : (Bool ⊕ w6_DisData_L2_O1)) : Ex × St := Sum.elim w6_DisData_L2_e0 w6_DisData_L2_e1 a
def w6_DisData_L2_b  (a : w6_DisData_L2_A) : Option (w6_DisData_L2_A ⊕ (Bool ⊕ w6_DisData_L2_O1)) := (bif (decide (a.x9 < a.x5)) then (bif (decide (a.x9 ≥ (((a.x8.length) : Nat) : Int))) then (some (.inr (.inl false))) else (bif (decide (0 ≤ a.x9)) then ((a.x8[(Int.toNat a.x9)]?).bind fun (e1 : ByteArray) => (bif (!(eqS e1 h_2e68616c66203635353335)) then (some (.inr (.inl false))) else (some (.inl (w6_DisData_L2_A.mk a.x1 a.x5 a.x8 (w64 (a.x9 + (1 : Int)))))))) else none)) else (some (.inr (.inr (w6_DisData_L2_O1.mk a.x1 a.x5 a.x8)))))
def w6_DisData_L2_t (P : Program) (call : CallF)  (a : w6_DisData_L2_A) : Tr (w6_DisData_L2_A ⊕ (Bool ⊕ w6_DisData_L2_O1)) (Ex × St) := (.as (decide (a.x9 < a.x5)) (.num ((R_string a.x8).length) (a.x8.length) (.as (decide (a.x9 ≥ (((a.x8.length) : Nat) : Int))) (yesN 5 (decide (a.x9 ≥ (((a.x8.length) : Nat) : Int))) (.yes true (rx w6_DisData_L2_e (.inl false)))) (noN 2 (decide (a.x9 ≥ (((a.x8.length) : Nat) : Int))) (.as (decide (0 ≤ a.x9)) (.row ((R_string a.x8)[(Int.toNat a.x9)]?) (a.x8[(Int.toNat a.x9)]?) C_string fun (e1 : ByteArray) => (noN 3 (decide (a.x9 ≥ (((a.x8.length) : Nat) : Int))) (.as (!(eqS e1 h_2e68616c66203635353335)) (rx w6_DisData_L2_e (.inl false)) (lf w6_DisData_L2_s (w6_DisData_L2_A.mk a.x1 a.x5 a.x8 (w64 (a.x9 + (1 : Int)))))))) .fail)))) (rx w6_DisData_L2_e (.inr (w6_DisData_L2_O1.mk a.x1 a.x5 a.x8))))
theorem w6_DisData_L2_n (call : CallF)  (a : w6_DisData_L2_A) : (w6_DisData_L2_t Tryd.prog call  a).norm (roundT Tryd.prog G.kd call 0 (G.an 4) (loopAt Tryd.prog 4 13) (w6_DisData_L2_s a)) = w6_DisData_L2_t Tryd.prog call  a := by kernel_rfl
theorem w6_DisData_L2_k (P : Program) (call : CallF) (lp : Loops)   (a : w6_DisData_L2_A) : (w6_DisData_L2_t P call  a).ok lp (Sum.elim (fun a => (.norm, w6_DisData_L2_s a)) w6_DisData_L2_e) := ⟨rfl, fun hq0 => ⟨(R_string_len _), ⟨rfl, fun hq1 => yesN_ok 5 (hq1) (⟨rfl, rfl⟩), fun hq1 => noN_ok 2 (hq1) (⟨rfl, fun hq2 => fun e1 he1 => ⟨R_string_get he1, noN_ok 3 (hq1) (⟨rfl, fun hq3 => rfl, fun hq3 => rfl⟩)⟩, fun hq2 => trivial⟩)⟩⟩, fun hq0 => rfl⟩
def w6_DisData_L2.s (k : Nat)  : w6_DisData_L2_A → Option (Bool ⊕ w6_DisData_L2_O1) := iter (w6_DisData_L2_b ) k
theorem w6_DisData_L2_ok (call : CallF) (k : Nat)   (a : w6_DisData_L2_A) (r : (Bool ⊕ w6_DisData_L2_O1)) (h : w6_DisData_L2.s k  a = some r) : loopsF Tryd.prog G.kd call 0 (G.an 4) k (loopAt Tryd.prog 4 13) (w6_DisData_L2_s a) = some (w6_DisData_L2_e r) :=
  loop_ok (fun a => w6_DisData_L2_t Tryd.prog call  a) (fun _ => rfl) (fun a => w6_DisData_L2_n call  a) (fun a => w6_DisData_L2_k _ call _   a) (fun r => by cases r <;> nofun) h
theorem w6_DisData_L2.m {j k : Nat} (hj : j ≤ k)    (a : w6_DisData_L2_A) : Le (w6_DisData_L2.s j  a) (w6_DisData_L2.s k  a) := Le.iter (fun a => .refl _) hj a
noncomputable def w6_DisData_L2.w  : w6_DisData_L2_A → Option (Bool ⊕ w6_DisData_L2_O1) := loopW (w6_DisData_L2_b )
theorem w6_DisData_L2.cv    (a : w6_DisData_L2_A) : Cv (fun k => w6_DisData_L2.s k  a) (w6_DisData_L2.w  a) := Cv.iter (fun a => by exact .const _) a
def w6_DisData_b (C0 : Option Bool) (C1 : Int → Int → Option Int) (C2 : (List Int) → Option (List ByteArray)) (L3 : w6_DisData_L1_A → Option w6_DisData_L1_O0) (L4 : w6_DisData_L2_A → Option (Bool ⊕ w6_DisData_L2_O1)) (a0 : Int) (a1 : Bool) : Option Bool := ((C0).bind fun (r1 : Bool) => (bif (!r1) then (some false) else ((C1 a0 (40 : Int)).bind fun (r2 : Int) => (bif (decide (0 ≤ (w64 ((2 : Int) * r2)) ∧ (w64 ((2 : Int) * r2)) = (w64 ((2 : Int) * r2)) ∧ (w64 ((2 : Int) * r2)) * 1 ≤ (most : Int))) then ((L3 (w6_DisData_L1_A.mk a1 r2 (0 : Int) (List.replicate (Int.toNat (w64 ((2 : Int) * r2))) (0 : Int)))).bind (fun (o3 : w6_DisData_L1_O0) => (bif o3.x1 then (bif (decide ((o3.r0.length + [(3 : Int)].length) * 1 ≤ most)) then ((C2 (o3.r0 ++ [(3 : Int)])).bind fun (r4 : (List ByteArray)) => ((L4 (w6_DisData_L2_A.mk o3.x1 o3.x5 r4 (0 : Int))).bind fun x => Sum.elim (fun (o5 : Bool) => (some o5)) (fun (o6 : w6_DisData_L2_O1) => (bif o6.x1 then (bif ((((o6.x8.length) : Nat) : Int) == (w64 (o6.x5 + (1 : Int)))) then (bif (decide (0 ≤ o6.x5)) then ((o6.x8[(Int.toNat o6.x5)]?).bind fun (e7 : ByteArray) => (some (eqS e7 h_2e627974652033))) else none) else (some false)) else (some ((((o6.x8.length) : Nat) : Int) == o6.x5)))) x)) else none) else ((C2 o3.r0).bind fun (r8 : (List ByteArray)) => ((L4 (w6_DisData_L2_A.mk o3.x1 o3.x5 r8 (0 : Int))).bind fun x => Sum.elim (fun (o9 : Bool) => (some o9)) (fun (o10 : w6_DisData_L2_O1) => (bif o10.x1 then (bif ((((o10.x8.length) : Nat) : Int) == (w64 (o10.x5 + (1 : Int)))) then (bif (decide (0 ≤ o10.x5)) then ((o10.x8[(Int.toNat o10.x5)]?).bind fun (e11 : ByteArray) => (some (eqS e11 h_2e627974652033))) else none) else (some false)) else (some ((((o10.x8.length) : Nat) : Int) == o10.x5)))) x))))) else none))))
def w6_DisData_t (P : Program) (call : CallF) (C0 : Option Bool) (C1 : Int → Int → Option Int) (C2 : (List Int) → Option (List ByteArray)) (L3 : w6_DisData_L1_A → Option w6_DisData_L1_O0) (L4 : w6_DisData_L2_A → Option (Bool ⊕ w6_DisData_L2_O1)) (a0 : Int) (a1 : Bool) : Tr Bool (AV × Heap) := (.call (call 5 [] []) (C0) w6_known_e fun (r1 : Bool) => (.as (!r1) (rt w6_DisData_e false) (.call (call 6 [.sc (.int .i64 a0), .sc (.int .i64 (40 : Int))] []) (C1 a0 (40 : Int)) w6_within_e fun (r2 : Int) => (.as (decide (0 ≤ (w64 ((2 : Int) * r2)) ∧ (w64 ((2 : Int) * r2)) = (w64 ((2 : Int) * r2)) ∧ (w64 ((2 : Int) * r2)) * 1 ≤ (most : Int))) (.rows (List.replicate (Int.toNat (w64 ((2 : Int) * r2))) [.sc (.int .u8 (0 : Int))]) (R_u8 (List.replicate (Int.toNat (w64 ((2 : Int) * r2))) (0 : Int))) (.loop (loopAt P 4 6) (w6_DisData_L1_s (w6_DisData_L1_A.mk a1 r2 (0 : Int) (List.replicate (Int.toNat (w64 ((2 : Int) * r2))) (0 : Int)))) (L3 (w6_DisData_L1_A.mk a1 r2 (0 : Int) (List.replicate (Int.toNat (w64 ((2 : Int) * r2))) (0 : Int)))) w6_DisData_L1_e (fun (o3 : w6_DisData_L1_O0) => (.as o3.x1 (.rows [[.sc (.int .u8 (3 : Int))]] (R_u8 [(3 : Int)]) (.yes (decide ((R_u8 [(3 : Int)]).all (fun r => r.length == 1) = true)) (.ask (decide (((R_u8 o3.r0).length + (R_u8 [(3 : Int)]).length) * 1 ≤ most)) (decide ((o3.r0.length + [(3 : Int)].length) * 1 ≤ most)) (.rows ((R_u8 o3.r0) ++ (R_u8 [(3 : Int)])) (R_u8 (o3.r0 ++ [(3 : Int)])) (.call (call 8 [.sl (R_u8 (o3.r0 ++ [(3 : Int)]))] []) (C2 (o3.r0 ++ [(3 : Int)])) dis_List_e fun (r4 : (List ByteArray)) => (.loop2 (loopAt P 4 13) (w6_DisData_L2_s (w6_DisData_L2_A.mk o3.x1 o3.x5 r4 (0 : Int))) (L4 (w6_DisData_L2_A.mk o3.x1 o3.x5 r4 (0 : Int))) w6_DisData_L2_e0 w6_DisData_L2_e1 (fun (o5 : Bool) => (rt w6_DisData_e o5)) (fun (o6 : w6_DisData_L2_O1) => (.as o6.x1 (.num ((R_string o6.x8).length) (o6.x8.length) (.as ((((o6.x8.length) : Nat) : Int) == (w64 (o6.x5 + (1 : Int)))) (yesN 2 ((((o6.x8.length) : Nat) : Int) == (w64 (o6.x5 + (1 : Int)))) (.as (decide (0 ≤ o6.x5)) (.row ((R_string o6.x8)[(Int.toNat o6.x5)]?) (o6.x8[(Int.toNat o6.x5)]?) C_string fun (e7 : ByteArray) => (yesN 3 ((((o6.x8.length) : Nat) : Int) == (w64 (o6.x5 + (1 : Int)))) (rt w6_DisData_e (eqS e7 h_2e627974652033)))) .fail)) (noN 5 ((((o6.x8.length) : Nat) : Int) == (w64 (o6.x5 + (1 : Int)))) (rt w6_DisData_e false)))) (.num ((R_string o6.x8).length) (o6.x8.length) (rt w6_DisData_e ((((o6.x8.length) : Nat) : Int) == o6.x5)))))))) .fail))) (.call (call 8 [.sl (R_u8 o3.r0)] []) (C2 o3.r0) dis_List_e fun (r8 : (List ByteArray)) => (.loop2 (loopAt P 4 13) (w6_DisData_L2_s (w6_DisData_L2_A.mk o3.x1 o3.x5 r8 (0 : Int))) (L4 (w6_DisData_L2_A.mk o3.x1 o3.x5 r8 (0 : Int))) w6_DisData_L2_e0 w6_DisData_L2_e1 (fun (o9 : Bool) => (rt w6_DisData_e o9)) (fun (o10 : w6_DisData_L2_O1) => (.as o10.x1 (.num ((R_string o10.x8).length) (o10.x8.length) (.as ((((o10.x8.length) : Nat) : Int) == (w64 (o10.x5 + (1 : Int)))) (yesN 2 ((((o10.x8.length) : Nat) : Int) == (w64 (o10.x5 + (1 : Int)))) (.as (decide (0 ≤ o10.x5)) (.row ((R_string o10.x8)[(Int.toNat o10.x5)]?) (o10.x8[(Int.toNat o10.x5)]?) C_string fun (e11 : ByteArray) => (yesN 3 ((((o10.x8.length) : Nat) : Int) == (w64 (o10.x5 + (1 : Int)))) (rt w6_DisData_e (eqS e11 h_2e627974652033)))) .fail)) (noN 5 ((((o10.x8.length) : Nat) : Int) == (w64 (o10.x5 + (1 : Int)))) (rt w6_DisData_e false)))) (.num ((R_string o10.x8).length) (o10.x8.length) (rt w6_DisData_e ((((o10.x8.length) : Nat) : Int) == o10.x5))))))))))) .fail))))
theorem w6_DisData_n (call : CallF) (C0 : Option Bool) (C1 : Int → Int → Option Int) (C2 : (List Int) → Option (List ByteArray)) (L3 : w6_DisData_L1_A → Option w6_DisData_L1_O0) (L4 : w6_DisData_L2_A → Option (Bool ⊕ w6_DisData_L2_O1)) (a0 : Int) (a1 : Bool) : (w6_DisData_t Tryd.prog call C0 C1 C2 L3 L4 a0 a1).norm (bodyT Tryd.prog call G 4 [.sc (.int .i64 a0), .sc (.bool a1)] []) = w6_DisData_t Tryd.prog call C0 C1 C2 L3 L4 a0 a1 := by kernel_rfl
theorem w6_DisData_k (P : Program) (call : CallF) (lp : Loops) (C0 : Option Bool) (C1 : Int → Int → Option Int) (C2 : (List Int) → Option (List ByteArray)) (L3 : w6_DisData_L1_A → Option w6_DisData_L1_O0) (L4 : w6_DisData_L2_A → Option (Bool ⊕ w6_DisData_L2_O1)) (K0 : ∀  (r : Bool), C0 = some r → (call 5 [] []) = some (w6_known_e r)) (K1 : ∀ (a0 : Int) (a1 : Int) (r : Int), C1 a0 a1 = some r → (call 6 [.sc (.int .i64 a0), .sc (.int .i64 a1)] []) = some (w6_within_e r)) (K2 : ∀ (a0 : (List Int)) (r : (List ByteArray)), C2 a0 = some r → (call 8 [.sl (R_u8 a0)] []) = some (dis_List_e r)) (N3 : ∀ (a : w6_DisData_L1_A) (r : w6_DisData_L1_O0), L3 a = some r → lp (loopAt P 4 6) (w6_DisData_L1_s a) = some (w6_DisData_L1_e r)) (N4 : ∀ (a : w6_DisData_L2_A) (r : (Bool ⊕ w6_DisData_L2_O1)), L4 a = some r → lp (loopAt P 4 13) (w6_DisData_L2_s a) = some (w6_DisData_L2_e r)) (a0 : Int) (a1 : Bool) : (w6_DisData_t P call C0 C1 C2 L3 L4 a0 a1).ok lp w6_DisData_e := fun r1 hr1 => ⟨K0 _ hr1, ⟨rfl, fun hq0 => rfl, fun hq0 => fun r2 hr2 => ⟨K1 _ _ _ hr2, ⟨rfl, fun hq1 => ⟨(R_u8_rep _ _), fun o3 ho3 => ⟨N3 _ _ ho3, ⟨rfl, fun hq2 => ⟨(R_u8_map [(3 : Int)]), ⟨(decide_eq_true (R_u8_all _)), ⟨(by rw [R_u8_len, R_u8_len]), fun hq3 => ⟨(R_u8_append _ _), fun r4 hr4 => ⟨K2 _ _ hr4, ⟨fun o5 ho5 => ⟨N4 _ (.inl _) ho5, rfl⟩, fun o6 ho6 => ⟨N4 _ (.inr _) ho6, ⟨rfl, fun hq4 => ⟨(R_string_len _), ⟨rfl, fun hq5 => yesN_ok 2 (hq5) (⟨rfl, fun hq6 => fun e7 he7 => ⟨R_string_get he7, yesN_ok 3 (hq5) (rfl)⟩, fun hq6 => trivial⟩), fun hq5 => noN_ok 5 (hq5) (rfl)⟩⟩, fun hq4 => ⟨(R_string_len _), rfl⟩⟩⟩⟩⟩⟩, fun hq3 => trivial⟩⟩⟩, fun hq2 => fun r8 hr8 => ⟨K2 _ _ hr8, ⟨fun o9 ho9 => ⟨N4 _ (.inl _) ho9, rfl⟩, fun o10 ho10 => ⟨N4 _ (.inr _) ho10, ⟨rfl, fun hq3 => ⟨(R_string_len _), ⟨rfl, fun hq4 => yesN_ok 2 (hq4) (⟨rfl, fun hq5 => fun e11 he11 => ⟨R_string_get he11, yesN_ok 3 (hq4) (rfl)⟩, fun hq5 => trivial⟩), fun hq4 => noN_ok 5 (hq4) (rfl)⟩⟩, fun hq3 => ⟨(R_string_len _), rfl⟩⟩⟩⟩⟩⟩⟩⟩, fun hq1 => trivial⟩⟩⟩⟩
theorem w6_DisData_m {C0 D0 : Option Bool} (H0 : Le (C0 ) (D0 )) {C1 D1 : Int → Int → Option Int} (H1 : ∀ (a0 : Int) (a1 : Int), Le (C1 a0 a1) (D1 a0 a1)) {C2 D2 : (List Int) → Option (List ByteArray)} (H2 : ∀ (a0 : (List Int)), Le (C2 a0) (D2 a0)) {L3 M3 : w6_DisData_L1_A → Option w6_DisData_L1_O0} (N3 : ∀ a, Le (L3 a) (M3 a)) {L4 M4 : w6_DisData_L2_A → Option (Bool ⊕ w6_DisData_L2_O1)} (N4 : ∀ a, Le (L4 a) (M4 a)) (a0 : Int) (a1 : Bool) : Le (w6_DisData_b C0 C1 C2 L3 L4 a0 a1) (w6_DisData_b D0 D1 D2 M3 M4 a0 a1) := by
  unfold w6_DisData_b
  exact .bind (H0) fun r1 => .cond (.refl _) (.bind (H1 _ _) fun r2 => .cond (.bind (N3 _) (fun o3 => .cond (.cond (.bind (H2 _) fun r4 => .bind (N4 _) fun x => .sum (fun o5 => .refl _) (fun o6 => .refl _) x) (.refl _)) (.bind (H2 _) fun r8 => .bind (N4 _) fun x => .sum (fun o9 => .refl _) (fun o10 => .refl _) x))) (.refl _))
theorem w6_DisData_c {C0 : Nat → Option Bool} {D0 : Option Bool} (H0 : Cv (fun k => C0 k ) (D0 )) {C1 : Nat → Int → Int → Option Int} {D1 : Int → Int → Option Int} (H1 : ∀ (a0 : Int) (a1 : Int), Cv (fun k => C1 k a0 a1) (D1 a0 a1)) {C2 : Nat → (List Int) → Option (List ByteArray)} {D2 : (List Int) → Option (List ByteArray)} (H2 : ∀ (a0 : (List Int)), Cv (fun k => C2 k a0) (D2 a0)) {L3 : Nat → w6_DisData_L1_A → Option w6_DisData_L1_O0} {M3 : w6_DisData_L1_A → Option w6_DisData_L1_O0} (N3 : ∀ a, Cv (fun k => L3 k a) (M3 a)) {L4 : Nat → w6_DisData_L2_A → Option (Bool ⊕ w6_DisData_L2_O1)} {M4 : w6_DisData_L2_A → Option (Bool ⊕ w6_DisData_L2_O1)} (N4 : ∀ a, Cv (fun k => L4 k a) (M4 a)) (a0 : Int) (a1 : Bool) : Cv (fun k => w6_DisData_b (C0 k) (C1 k) (C2 k) (L3 k) (L4 k) a0 a1) (w6_DisData_b D0 D1 D2 M3 M4 a0 a1) := by
  unfold w6_DisData_b
  exact .bind (H0) fun r1 => .cond (by exact .const _) (.bind (H1 _ _) fun r2 => .cond (.bind (N3 _) (fun o3 => .cond (.cond (.bind (H2 _) fun r4 => .bind (N4 _) fun x => .sum (fun o5 => by exact .const _) (fun o6 => by exact .const _) x) (by exact .const _)) (.bind (H2 _) fun r8 => .bind (N4 _) fun x => .sum (fun o9 => by exact .const _) (fun o10 => by exact .const _) x))) (by exact .const _))
def w6_DisData.s : Nat → Int → Bool → Option Bool
  | 0, _, _ => none
  | k + 1, a0, a1 => w6_DisData_b (w6_known.s k) (fun a0 a1 => w6_within.s k a0 a1) (fun a0 => dis_List.s k a0) (w6_DisData_L1.s k) (w6_DisData_L2.s k) a0 a1
theorem w6_DisData.ok : ∀ (k : Nat), ∀ (a0 : Int) (a1 : Bool) (r : Bool), w6_DisData.s k a0 a1 = some r → evalFn Tryd.prog G k 4 [.sc (.int .i64 a0), .sc (.bool a1)] [] = some (w6_DisData_e r)
  | 0, _, _, _, h => (nomatch h)
  | k + 1, a0, a1, r, h => fn_ok rfl (w6_DisData_t Tryd.prog (evalFn Tryd.prog G k) (w6_known.s k) (fun a0 a1 => w6_within.s k a0 a1) (fun a0 => dis_List.s k a0) (w6_DisData_L1.s k) (w6_DisData_L2.s k) a0 a1) (w6_DisData_n _ _ _ _ _ _ a0 a1) (w6_DisData_k _ _ _ _ _ _ _ _ (w6_known.ok k) (w6_within.ok k) (dis_List.ok k) (w6_DisData_L1_ok _ k) (w6_DisData_L2_ok _ k) a0 a1) h
theorem w6_DisData.mono : ∀ (k : Nat) (a0 : Int) (a1 : Bool), Le (w6_DisData.s k a0 a1) (w6_DisData.s (k + 1) a0 a1)
  | 0, _, _ => fun r h => (nomatch h)
  | k + 1, a0, a1 => (w6_DisData_c (.two (w6_known.mono k)) (fun a0 a1 => .two ((w6_within.mono k) a0 a1)) (fun a0 => .two ((dis_List.mono k) a0)) (fun a => .two ((w6_DisData_L1.m (Nat.le_succ k)) a)) (fun a => .two ((w6_DisData_L2.m (Nat.le_succ k)) a)) a0 a1).1 0
noncomputable def w6_DisData (a0 : Int) (a1 : Bool) : Option Bool := lim fun k => w6_DisData.s k a0 a1
theorem w6_DisData.cv (a0 : Int) (a1 : Bool) : Cv (fun k => w6_DisData.s k a0 a1) (w6_DisData a0 a1) := .lim fun k => w6_DisData.mono k a0 a1
noncomputable def w6_DisData_L1 : w6_DisData_L1_A → Option w6_DisData_L1_O0 := w6_DisData_L1.w 
theorem w6_DisData_L1.eq (a : w6_DisData_L1_A) : w6_DisData_L1 a = (w6_DisData_L1_b  a).bind (Sum.elim w6_DisData_L1 some) := loopW_eq _ _
noncomputable def w6_DisData_L2 : w6_DisData_L2_A → Option (Bool ⊕ w6_DisData_L2_O1) := w6_DisData_L2.w 
theorem w6_DisData_L2.eq (a : w6_DisData_L2_A) : w6_DisData_L2 a = (w6_DisData_L2_b  a).bind (Sum.elim w6_DisData_L2 some) := loopW_eq _ _
theorem w6_DisData.eq (a0 : Int) (a1 : Bool) : w6_DisData a0 a1 = w6_DisData_b w6_known w6_within dis_List w6_DisData_L1 w6_DisData_L2 a0 a1 := Cv.uniq (w6_DisData.cv a0 a1).shift (w6_DisData_c w6_known.cv w6_within.cv dis_List.cv (w6_DisData_L1.cv) (w6_DisData_L2.cv) a0 a1)
theorem w6_DisData.run (a0 : Int) (a1 : Bool) {r : Bool} (h : w6_DisData a0 a1 = some r) : ∃ k, evalFn Tryd.prog G k 4 [.sc (.int .i64 a0), .sc (.bool a1)] [] = some (w6_DisData_e r) :=
  let ⟨k, hk⟩ := ((w6_DisData.cv a0 a1).2 r).1 h
  ⟨k, w6_DisData.ok k a0 a1 r hk⟩

end Go.Ab
namespace Go.Ab
def cellT (g : Nat) : Told := ⟨fun Z w => Z g 0 ∧ ∃ m, w.cell? ⟨g, 0, none⟩ = some (.int .i64 m), fun h k => ⟨(k g 0 h.1).1, by rw [(k g 0 h.1).2]; exact h.2⟩⟩
theorem cellT_old {g : Nat} {w : World} (h : ∃ m, w.cell? ⟨g, 0, none⟩ = some (.int .i64 m)) : (cellT g).T (oldCtx w).Z w := by
  refine ⟨?_, h⟩
  obtain ⟨m, h⟩ := h
  show g < w.heap.size
  unfold World.cell? at h
  split at h
  · rename_i e; exact (Array.getElem?_eq_some_iff.1 e).1
  · cases h
theorem returns_shaped {H : Type} {enc : TypeId × Value → H} {a : Assume} {C : Checked} {os : Os} {f : FuncId} {fn : Func} {s : ChangeSpec} {conds : List PathCond} {apart fresh handsOn again : Bool} {X : World → Array Value → Prop}
    (hX : ∀ (w w' : World) (args : Array Value), w.heap = w'.heap → X w args → X w' args)
    (own : ownKnob C.prog.godebug = none) (started : os.Started) (noInit : C.prog.inits.idxOf? f = none) (hfn : C.prog.funcs[f]? = some fn)
    (witness : ∃ (w : World) (tape : Tape) (i : Input), w.os = os ∧ (w.forCall tape i).Shaped C.prog ∧ i.vars = [] ∧ Input.okWide C.prog (w.forCall tape i) .any w.heap.size f i ∧
      ((s.pre enc C.prog fn conds apart (w.forCall tape i).memory i.args ∧ X (w.forCall tape i).memory i.args) ∧ sizedMet enc C.prog fn (OpenSpec.ofChange s) apart (w.forCall tape i).memory i.args) ∧ a.holds C.prog (lone (Frame.enter C.prog f i.args .normal) [] (w.forCall tape i)))
    (contract : ∀ (W : World) (base : Nat) (args : Array Value) (ds gs : List (DataW H)) (before : List MemPlace),
      (∀ (j : Nat) t v, fn.params[j]? = some t → args[j]? = some v → Value.okWide C.prog W .any base t v) →
      DataW.Whole enc C.prog fn.params.toList s.vars apart W args.toList ds gs before →
      conds.all (PathCond.test C.prog ⟨fn.params.toList, ds, s.plain.varTypes C.prog, gs⟩) = true →
      (DataW.weightsEach C.prog (fn.params.toList ++ s.plain.varTypes C.prog) (ds ++ gs)).all (· ≤ reachBytes) = true → (X W args ∧ W.ShapedOpen C.prog) →
      a.holds C.prog (lone (Frame.enter C.prog f args .normal) [] W) →
      Calls C.prog f args W fun e W' => ∃ v, e = .returned v ∧ s.post enc C.prog fn apart fresh handsOn again W args v W') :
    ReturnsInHanded a C os f .any (fun w args => (s.pre enc C.prog fn conds apart w args ∧ X w args) ∧ sizedMet enc C.prog fn (OpenSpec.ofChange s) apart w args) (s.post enc C.prog fn apart fresh handsOn again) := by
  refine returnsInHanded_of_calls own started noInit witness ?_
  intro w tape i _ hsh _ hok hpre hholds
  obtain ⟨_, _, _, fn', hfn', _, _, _, _, hval⟩ := hok
  have e : fn' = fn := Option.some.inj (hfn'.symm.trans hfn)
  subst e
  obtain ⟨⟨⟨ds, gs, before, hw, hc⟩, hx⟩, hz⟩ := hpre
  have hw' := DataW.Whole.of_heap (w' := w.forCall tape i) (by rfl) hw
  refine (contract (w.forCall tape i) w.heap.size i.args ds gs before hval hw' hc (hz.weights hw) ⟨hX _ _ _ (by rfl) hx, hsh⟩ hholds).mono fun e W' ⟨v, he, hp⟩ => ?_
  subst he
  exact ChangeSpec.post_blind hp
end Go.Ab
namespace Go.Proofs.YtpebnjoklniikaaDoor
open Go Go.Ab Go.RowKit Go.Shelf
theorem gPow : Tryd.prog.globalNamed "internal/strconv.uint64pow10" = some 2 := by kernel_rfl
theorem tPow : (Tryd.prog.globals[2]?).map (·.type) = some 139 := by kernel_rfl
theorem cells_u64 : Tryd.prog.cellsOf 112 = 1 := by kernel_rfl
theorem cells_pow : Tryd.prog.cellsOf 139 = 20 := by kernel_rfl
theorem datumP {H : Type} : (Rows.laid_internal_strconv_uint64pow10 : DataW H) = Lib.tabData .u64 Lib.pow10Tab := by kernel_rfl
theorem gSp : Tryd.prog.globalNamed "strings.asciiSpace" = some 0 := by kernel_rfl
theorem tSp : (Tryd.prog.globals[0]?).map (·.type) = some 82 := by kernel_rfl
theorem cells_u8 : Tryd.prog.cellsOf 5 = 1 := by kernel_rfl
theorem cells_sp : Tryd.prog.cellsOf 82 = 256 := by kernel_rfl
theorem datumS {H : Type} : (Rows.laid_strings_asciiSpace : DataW H) = Lib.tabData .u8 Lib.asciiSpaceTab := by kernel_rfl
def told : Ab.Told := ((told1 Tryd.prog "internal/strconv.uint64pow10" 2 (Lib.pow10Tab.map fun z => Value.int .u64 z).toArray).both (told1 Tryd.prog "strings.asciiSpace" 0 (Lib.asciiSpaceTab.map fun z => Value.int .u8 z).toArray)).both (cellT 4)
theorem told_of {W : World} (h : laidMetH Tryd.prog [("math/bits.deBruijn32tab", Rows.laid_math_bits_deBruijn32tab), ("math/bits.deBruijn64tab", Rows.laid_math_bits_deBruijn64tab), ("internal/strconv.uint64pow10", Rows.laid_internal_strconv_uint64pow10), ("unicode.White_Space", Rows.laid_unicode_White_Space), ("strings.asciiSpace", Rows.laid_strings_asciiSpace)] W ∧ W.ShapedOpen Tryd.prog) : told.T (oldCtx W).Z W := by
  obtain ⟨h, hs⟩ := h
  rw [MakeChecks.laidMetH_plain _ _ _ (by kernel_rfl)] at h
  obtain ⟨ps, ⟨g0, t0, cs0, f0, p0, q0, hg0, ht0, hv0, hd0, ⟨g1, t1, cs1, f1, p1, q1, hg1, ht1, hv1, hd1, ⟨g2, t2, cs2, f2, p2, q2, hg2, ht2, hv2, hd2, ⟨g3, t3, cs3, f3, p3, q3, hg3, ht3, hv3, hd3, ⟨g4, t4, cs4, f4, p4, q4, hg4, ht4, hv4, hd4, _⟩, _⟩, _⟩, _⟩, _⟩, _⟩ := h
  refine ⟨⟨?_, ?_⟩, ?_⟩
  · obtain rfl := Option.some.inj (gPow.symm.trans hg2)
    obtain rfl := Option.some.inj (tPow.symm.trans ht2)
    rw [datumP] at hd2
    refine tabT_old gPow (hv2.trans ?_) (by decide)
    have := Lib.cells_of_tab Tryd.underlying139 Tryd.underlying112 cells_u64 cells_pow hd2
    rw [← this]
  · obtain rfl := Option.some.inj (gSp.symm.trans hg4)
    obtain rfl := Option.some.inj (tSp.symm.trans ht4)
    rw [datumS] at hd4
    refine tabT_old gSp (hv4.trans ?_) (of_decide_eq_true (by kernel_rfl))
    have := Lib.cells_of_tab Tryd.underlying82 Tryd.underlying5 cells_u8 cells_sp hd4
    rw [← this]
  · exact cellT_old (cell_of_shapedOpen_int (P := Tryd.prog) (t := 3) (zero := #[.int .i64 0]) hs (by decide +kernel) (by kernel_rfl) rfl (by kernel_rfl) (by kernel_rfl) Tryd.underlying3)
set_option maxHeartbeats 2000000 in
set_option maxRecDepth 100000 in
theorem cli_nil (n c : Nat) (w : World) : Calls Tryd.prog 28 #[.slice none n c] w fun e w' => e = .returned (.slice none 0 0) ∧ w' = w := by
  have mixed : Tryd.prog.follows .mixedOrders = true := by kernel_rfl
  have t0 := Tryd.underlying3; have a0 := Tryd.isAgg3; have z0 := Tryd.sizeOf3; have v0 := Tryd.zeroValue3; have t1 := Tryd.underlying47; have a1 := Tryd.isAgg47; have z1 := Tryd.sizeOf47; have v1 := Tryd.zeroValue47; have t2 := Tryd.underlying4; have a2 := Tryd.isAgg4; have z2 := Tryd.sizeOf4; have v2 := Tryd.zeroValue4
  have q22 : ∀ (w : World) (a : Option Addr) (n c n' c' : Nat), (binOp .eql 47 (.slice a n c) (.slice none n' c')).run Tryd.prog w = .ok (.bool a.isNone) w := fun w a n c n' c' => Lib.run_eql_slice_nil w _ _ a n c n' c' t1
  go_enter Tryd.func28, Tryd.ntmps28
  go_wp2
  go_ret
  exact ⟨rfl, rfl⟩
set_option maxHeartbeats 2000000 in
set_option maxRecDepth 100000 in
theorem cli_zero (a : Addr) (c : Nat) (w : World) : Calls Tryd.prog 28 #[.slice (some a) 0 c] w fun e w' => ∃ v', e = .returned v' ∧ w'.ownsRow w.heap.size 3 1 v' 0 [] ∧ Below w.heap.size w w' := by
  have mixed : Tryd.prog.follows .mixedOrders = true := by kernel_rfl
  have t0 := Tryd.underlying3; have a0 := Tryd.isAgg3; have z0 := Tryd.sizeOf3; have v0 := Tryd.zeroValue3; have t1 := Tryd.underlying47; have a1 := Tryd.isAgg47; have z1 := Tryd.sizeOf47; have v1 := Tryd.zeroValue47; have t2 := Tryd.underlying4; have a2 := Tryd.isAgg4; have z2 := Tryd.sizeOf4; have v2 := Tryd.zeroValue4
  have q22 : ∀ (w : World) (a : Option Addr) (n c n' c' : Nat), (binOp .eql 47 (.slice a n c) (.slice none n' c')).run Tryd.prog w = .ok (.bool a.isNone) w := fun w a n c n' c' => Lib.run_eql_slice_nil w _ _ a n c n' c' t1
  have hinfo : (Tryd.prog.info? 3).map (fun i => (i.zero, i.size, i.bytes)) = some (some (.int .i64 0), 1, 8) := by kernel_rfl
  obtain ⟨i0, hi, hz0, hz1, hz2⟩ := info_parts hinfo
  have u22 : ∀ w, Sem.run Tryd.prog (underlying 47) w = .ok (TypeDesc.slice 3) w := run_underlying t1
  go_enter Tryd.func28, Tryd.ntmps28
  go_wp2_with (at_builtin; refine wpList_append_own _ rfl _ _ 47 rfl w.heap.size 3 i0 (.int .i64 0) 1 8 t1 hi hz0 hz1 hz2 rfl (by decide) _ _ _ rfl (World.ownsRow_made w #[] 0 (Nat.le_refl _) (Nat.zero_le _) rfl) a 0 c [] rfl rfl (by intro j u hj; simp at hj) (by intro u hu; cases hu) (by unfold maxLen; omega) (by omega) (by simp) ?_)
  intro v' w1 hown hgrow hnil
  go_wp2
  go_ret
  refine ⟨v', rfl, by simpa using hown, ?_⟩
  exact ((Below.refl _ w).alloc (Nat.le_refl _) _).grown hgrow (by simp) (by intro k hk; simp [Value.ownBlock] at hk; omega)
set_option maxHeartbeats 2000000 in
set_option maxRecDepth 100000 in
theorem cli_some (b off c : Nat) (zs : List Value) (w : World) (hbig : zs.length * 8 ≤ 140737488355328) (hsc : zs.all scal = true) (hc : ∀ (j : Nat) z, zs[j]? = some z → w.cell? ⟨b, off + j, none⟩ = some z) :
    Calls Tryd.prog 28 #[.slice (some ⟨b, off, none⟩) zs.length c] w fun e w' => ∃ v', e = .returned v' ∧ w'.ownsRow w.heap.size 3 1 v' zs.length zs ∧ Below w.heap.size w w' := by
  have mixed : Tryd.prog.follows .mixedOrders = true := by kernel_rfl
  have t0 := Tryd.underlying3; have a0 := Tryd.isAgg3; have z0 := Tryd.sizeOf3; have v0 := Tryd.zeroValue3; have t1 := Tryd.underlying47; have a1 := Tryd.isAgg47; have z1 := Tryd.sizeOf47; have v1 := Tryd.zeroValue47; have t2 := Tryd.underlying4; have a2 := Tryd.isAgg4; have z2 := Tryd.sizeOf4; have v2 := Tryd.zeroValue4
  have q22 : ∀ (w : World) (a : Option Addr) (n c n' c' : Nat), (binOp .eql 47 (.slice a n c) (.slice none n' c')).run Tryd.prog w = .ok (.bool a.isNone) w := fun w a n c n' c' => Lib.run_eql_slice_nil w _ _ a n c n' c' t1
  have hinfo : (Tryd.prog.info? 3).map (fun i => (i.zero, i.size, i.bytes)) = some (some (.int .i64 0), 1, 8) := by kernel_rfl
  obtain ⟨i0, hi, hz0, hz1, hz2⟩ := info_parts hinfo
  have u22 : ∀ w, Sem.run Tryd.prog (underlying 47) w = .ok (TypeDesc.slice 3) w := run_underlying t1
  have A : Aside (∀ (j : Nat) z, zs[j]? = some z → w.cell? ⟨b, off + j, none⟩ = some z) := hc
  clear hc
  go_enter Tryd.func28, Tryd.ntmps28
  go_wp2_with (at_builtin; refine wpList_append_own _ rfl _ _ 47 rfl w.heap.size 3 i0 (.int .i64 0) 1 8 t1 hi hz0 hz1 hz2 rfl (by decide) _ _ _ rfl (World.ownsRow_made w #[] 0 (Nat.le_refl _) (Nat.zero_le _) rfl) ⟨b, off, none⟩ zs.length c zs rfl ?qc1 ?qc2 ?qc3 ?qc4 ?qc5 ?qc6 ?_)
  case qc1 => simp
  case qc2 =>
    intro j u hj
    rw [Addr.add_lit]
    exact Lib.cell?_alloc_some _ (A.out j u hj)
  case qc3 => intro u hu; exact oneCell_leaf (c := oldCtx w) (w := w) (.sc u (List.all_eq_true.1 hsc u hu)) rfl
  case qc4 => unfold maxLen; omega
  case qc5 => omega
  case qc6 => simp
  intro v' w1 hown hgrow hnil
  go_wp2
  go_ret
  refine ⟨v', rfl, by simpa using hown, ?_⟩
  exact ((Below.refl _ w).alloc (Nat.le_refl _) _).grown hgrow (by simp) (by intro k hk; simp [Value.ownBlock] at hk; omega)

set_option maxHeartbeats 2000000 in
set_option maxRecDepth 100000 in
theorem cls_nil (n c : Nat) (w : World) : Calls Tryd.prog 13 #[.slice none n c] w fun e w' => e = .returned (.slice none 0 0) ∧ w' = w := by
  have mixed : Tryd.prog.follows .mixedOrders = true := by kernel_rfl
  have t0 := Tryd.underlying9; have a0 := Tryd.isAgg9; have z0 := Tryd.sizeOf9; have v0 := Tryd.zeroValue9; have t1 := Tryd.underlying25; have a1 := Tryd.isAgg25; have z1 := Tryd.sizeOf25; have v1 := Tryd.zeroValue25; have t2 := Tryd.underlying4; have a2 := Tryd.isAgg4; have z2 := Tryd.sizeOf4; have v2 := Tryd.zeroValue4
  have q22 : ∀ (w : World) (a : Option Addr) (n c n' c' : Nat), (binOp .eql 25 (.slice a n c) (.slice none n' c')).run Tryd.prog w = .ok (.bool a.isNone) w := fun w a n c n' c' => Lib.run_eql_slice_nil w _ _ a n c n' c' t1
  go_enter Tryd.func13, Tryd.ntmps13
  go_wp2
  go_ret
  exact ⟨rfl, rfl⟩
set_option maxHeartbeats 2000000 in
set_option maxRecDepth 100000 in
theorem cls_zero (a : Addr) (c : Nat) (w : World) : Calls Tryd.prog 13 #[.slice (some a) 0 c] w fun e w' => ∃ v', e = .returned v' ∧ w'.ownsRow w.heap.size 9 1 v' 0 [] ∧ Below w.heap.size w w' := by
  have mixed : Tryd.prog.follows .mixedOrders = true := by kernel_rfl
  have t0 := Tryd.underlying9; have a0 := Tryd.isAgg9; have z0 := Tryd.sizeOf9; have v0 := Tryd.zeroValue9; have t1 := Tryd.underlying25; have a1 := Tryd.isAgg25; have z1 := Tryd.sizeOf25; have v1 := Tryd.zeroValue25; have t2 := Tryd.underlying4; have a2 := Tryd.isAgg4; have z2 := Tryd.sizeOf4; have v2 := Tryd.zeroValue4
  have q22 : ∀ (w : World) (a : Option Addr) (n c n' c' : Nat), (binOp .eql 25 (.slice a n c) (.slice none n' c')).run Tryd.prog w = .ok (.bool a.isNone) w := fun w a n c n' c' => Lib.run_eql_slice_nil w _ _ a n c n' c' t1
  have hinfo : (Tryd.prog.info? 9).map (fun i => (i.zero, i.size, i.bytes)) = some (some (.string ByteArray.empty), 1, 16) := by kernel_rfl
  obtain ⟨i0, hi, hz0, hz1, hz2⟩ := info_parts hinfo
  have u22 : ∀ w, Sem.run Tryd.prog (underlying 25) w = .ok (TypeDesc.slice 9) w := run_underlying t1
  go_enter Tryd.func13, Tryd.ntmps13
  go_wp2_with (at_builtin; refine wpList_append_own _ rfl _ _ 25 rfl w.heap.size 9 i0 (.string ByteArray.empty) 1 16 t1 hi hz0 hz1 hz2 rfl (by decide) _ _ _ rfl (World.ownsRow_made w #[] 0 (Nat.le_refl _) (Nat.zero_le _) rfl) a 0 c [] rfl rfl (by intro j u hj; simp at hj) (by intro u hu; cases hu) (by unfold maxLen; omega) (by omega) (by simp) ?_)
  intro v' w1 hown hgrow hnil
  go_wp2
  go_ret
  refine ⟨v', rfl, by simpa using hown, ?_⟩
  exact ((Below.refl _ w).alloc (Nat.le_refl _) _).grown hgrow (by simp) (by intro k hk; simp [Value.ownBlock] at hk; omega)
set_option maxHeartbeats 2000000 in
set_option maxRecDepth 100000 in
theorem cls_some (b off n c : Nat) (zs : List Value) (w : World) (hl : zs.length = n * 1) (hbig : n * 16 ≤ 140737488355328) (hml : n ≤ maxLen) (hsc : zs.all scal = true) (hc : ∀ (j : Nat) z, zs[j]? = some z → w.cell? ⟨b, off + j, none⟩ = some z) :
    Calls Tryd.prog 13 #[.slice (some ⟨b, off, none⟩) n c] w fun e w' => ∃ v', e = .returned v' ∧ w'.ownsRow w.heap.size 9 1 v' n zs ∧ Below w.heap.size w w' := by
  have mixed : Tryd.prog.follows .mixedOrders = true := by kernel_rfl
  have t0 := Tryd.underlying9; have a0 := Tryd.isAgg9; have z0 := Tryd.sizeOf9; have v0 := Tryd.zeroValue9; have t1 := Tryd.underlying25; have a1 := Tryd.isAgg25; have z1 := Tryd.sizeOf25; have v1 := Tryd.zeroValue25; have t2 := Tryd.underlying4; have a2 := Tryd.isAgg4; have z2 := Tryd.sizeOf4; have v2 := Tryd.zeroValue4
  have q22 : ∀ (w : World) (a : Option Addr) (n c n' c' : Nat), (binOp .eql 25 (.slice a n c) (.slice none n' c')).run Tryd.prog w = .ok (.bool a.isNone) w := fun w a n c n' c' => Lib.run_eql_slice_nil w _ _ a n c n' c' t1
  have hinfo : (Tryd.prog.info? 9).map (fun i => (i.zero, i.size, i.bytes)) = some (some (.string ByteArray.empty), 1, 16) := by kernel_rfl
  obtain ⟨i0, hi, hz0, hz1, hz2⟩ := info_parts hinfo
  have u22 : ∀ w, Sem.run Tryd.prog (underlying 25) w = .ok (TypeDesc.slice 9) w := run_underlying t1
  have A : Aside (∀ (j : Nat) z, zs[j]? = some z → w.cell? ⟨b, off + j, none⟩ = some z) := hc
  clear hc
  go_enter Tryd.func13, Tryd.ntmps13
  go_wp2_with (at_builtin; refine wpList_append_own _ rfl _ _ 25 rfl w.heap.size 9 i0 (.string ByteArray.empty) 1 16 t1 hi hz0 hz1 hz2 rfl (by decide) _ _ _ rfl (World.ownsRow_made w #[] 0 (Nat.le_refl _) (Nat.zero_le _) rfl) ⟨b, off, none⟩ n c zs rfl ?qc1 ?qc2 ?qc3 ?qc4 ?qc5 ?qc6 ?_)
  case qc1 => exact hl
  case qc2 =>
    intro j u hj
    rw [Addr.add_lit]
    exact Lib.cell?_alloc_some _ (A.out j u hj)
  case qc3 => intro u hu; exact oneCell_leaf (c := oldCtx w) (w := w) (.sc u (List.all_eq_true.1 hsc u hu)) rfl
  case qc4 => omega
  case qc5 => omega
  case qc6 => simp
  intro v' w1 hown hgrow hnil
  go_wp2
  go_ret
  refine ⟨v', rfl, by simpa using hown, ?_⟩
  exact ((Below.refl _ w).alloc (Nat.le_refl _) _).grown hgrow (by simp) (by intro k hk; simp [Value.ownBlock] at hk; omega)

set_option maxHeartbeats 2000000 in
set_option maxRecDepth 100000 in
theorem clf_nil (n c : Nat) (w : World) : Calls Tryd.prog 16 #[.slice none n c] w fun e w' => e = .returned (.slice none 0 0) ∧ w' = w := by
  have mixed : Tryd.prog.follows .mixedOrders = true := by kernel_rfl
  have t0 := Tryd.underlying35; have a0 := Tryd.isAgg35; have z0 := Tryd.sizeOf35; have v0 := Tryd.zeroValue35; have t1 := Tryd.underlying32; have a1 := Tryd.isAgg32; have z1 := Tryd.sizeOf32; have v1 := Tryd.zeroValue32; have t2 := Tryd.underlying4; have a2 := Tryd.isAgg4; have z2 := Tryd.sizeOf4; have v2 := Tryd.zeroValue4
  have q22 : ∀ (w : World) (a : Option Addr) (n c n' c' : Nat), (binOp .eql 32 (.slice a n c) (.slice none n' c')).run Tryd.prog w = .ok (.bool a.isNone) w := fun w a n c n' c' => Lib.run_eql_slice_nil w _ _ a n c n' c' t1
  go_enter Tryd.func16, Tryd.ntmps16
  go_wp2
  go_ret
  exact ⟨rfl, rfl⟩
set_option maxHeartbeats 2000000 in
set_option maxRecDepth 100000 in
theorem clf_zero (a : Addr) (c : Nat) (w : World) : Calls Tryd.prog 16 #[.slice (some a) 0 c] w fun e w' => ∃ v', e = .returned v' ∧ w'.ownsRow w.heap.size 35 2 v' 0 [] ∧ Below w.heap.size w w' := by
  have mixed : Tryd.prog.follows .mixedOrders = true := by kernel_rfl
  have t0 := Tryd.underlying35; have a0 := Tryd.isAgg35; have z0 := Tryd.sizeOf35; have v0 := Tryd.zeroValue35; have t1 := Tryd.underlying32; have a1 := Tryd.isAgg32; have z1 := Tryd.sizeOf32; have v1 := Tryd.zeroValue32; have t2 := Tryd.underlying4; have a2 := Tryd.isAgg4; have z2 := Tryd.sizeOf4; have v2 := Tryd.zeroValue4
  have q22 : ∀ (w : World) (a : Option Addr) (n c n' c' : Nat), (binOp .eql 32 (.slice a n c) (.slice none n' c')).run Tryd.prog w = .ok (.bool a.isNone) w := fun w a n c n' c' => Lib.run_eql_slice_nil w _ _ a n c n' c' t1
  have hinfo : (Tryd.prog.info? 35).map (fun i => (i.zero, i.size, i.bytes)) = some (some (.agg #[.string ByteArray.empty, .string ByteArray.empty]), 2, 32) := by kernel_rfl
  obtain ⟨i0, hi, hz0, hz1, hz2⟩ := info_parts hinfo
  have u22 : ∀ w, Sem.run Tryd.prog (underlying 32) w = .ok (TypeDesc.slice 35) w := run_underlying t1
  go_enter Tryd.func16, Tryd.ntmps16
  go_wp2_with (at_builtin; refine wpList_append_own _ rfl _ _ 32 rfl w.heap.size 35 i0 (.agg #[.string ByteArray.empty, .string ByteArray.empty]) 2 32 t1 hi hz0 hz1 hz2 rfl (by decide) _ _ _ rfl (World.ownsRow_made w #[] 0 (Nat.le_refl _) (Nat.zero_le _) rfl) a 0 c [] rfl rfl (by intro j u hj; simp at hj) (by intro u hu; cases hu) (by unfold maxLen; omega) (by omega) (by simp) ?_)
  intro v' w1 hown hgrow hnil
  go_wp2
  go_ret
  refine ⟨v', rfl, by simpa using hown, ?_⟩
  exact ((Below.refl _ w).alloc (Nat.le_refl _) _).grown hgrow (by simp) (by intro k hk; simp [Value.ownBlock] at hk; omega)
set_option maxHeartbeats 2000000 in
set_option maxRecDepth 100000 in
theorem clf_some (b off n c : Nat) (zs : List Value) (w : World) (hl : zs.length = n * 2) (hbig : n * 32 ≤ 140737488355328) (hml : n ≤ maxLen) (hsc : zs.all scal = true) (hc : ∀ (j : Nat) z, zs[j]? = some z → w.cell? ⟨b, off + j, none⟩ = some z) :
    Calls Tryd.prog 16 #[.slice (some ⟨b, off, none⟩) n c] w fun e w' => ∃ v', e = .returned v' ∧ w'.ownsRow w.heap.size 35 2 v' n zs ∧ Below w.heap.size w w' := by
  have mixed : Tryd.prog.follows .mixedOrders = true := by kernel_rfl
  have t0 := Tryd.underlying35; have a0 := Tryd.isAgg35; have z0 := Tryd.sizeOf35; have v0 := Tryd.zeroValue35; have t1 := Tryd.underlying32; have a1 := Tryd.isAgg32; have z1 := Tryd.sizeOf32; have v1 := Tryd.zeroValue32; have t2 := Tryd.underlying4; have a2 := Tryd.isAgg4; have z2 := Tryd.sizeOf4; have v2 := Tryd.zeroValue4
  have q22 : ∀ (w : World) (a : Option Addr) (n c n' c' : Nat), (binOp .eql 32 (.slice a n c) (.slice none n' c')).run Tryd.prog w = .ok (.bool a.isNone) w := fun w a n c n' c' => Lib.run_eql_slice_nil w _ _ a n c n' c' t1
  have hinfo : (Tryd.prog.info? 35).map (fun i => (i.zero, i.size, i.bytes)) = some (some (.agg #[.string ByteArray.empty, .string ByteArray.empty]), 2, 32) := by kernel_rfl
  obtain ⟨i0, hi, hz0, hz1, hz2⟩ := info_parts hinfo
  have u22 : ∀ w, Sem.run Tryd.prog (underlying 32) w = .ok (TypeDesc.slice 35) w := run_underlying t1
  have A : Aside (∀ (j : Nat) z, zs[j]? = some z → w.cell? ⟨b, off + j, none⟩ = some z) := hc
  clear hc
  go_enter Tryd.func16, Tryd.ntmps16
  go_wp2_with (at_builtin; refine wpList_append_own _ rfl _ _ 32 rfl w.heap.size 35 i0 (.agg #[.string ByteArray.empty, .string ByteArray.empty]) 2 32 t1 hi hz0 hz1 hz2 rfl (by decide) _ _ _ rfl (World.ownsRow_made w #[] 0 (Nat.le_refl _) (Nat.zero_le _) rfl) ⟨b, off, none⟩ n c zs rfl ?qc1 ?qc2 ?qc3 ?qc4 ?qc5 ?qc6 ?_)
  case qc1 => exact hl
  case qc2 =>
    intro j u hj
    rw [Addr.add_lit]
    exact Lib.cell?_alloc_some _ (A.out j u hj)
  case qc3 => intro u hu; exact oneCell_leaf (c := oldCtx w) (w := w) (.sc u (List.all_eq_true.1 hsc u hu)) rfl
  case qc4 => omega
  case qc5 => omega
  case qc6 => simp
  intro v' w1 hown hgrow hnil
  go_wp2
  go_ret
  refine ⟨v', rfl, by simpa using hown, ?_⟩
  exact ((Below.refl _ w).alloc (Nat.le_refl _) _).grown hgrow (by simp) (by intro k hk; simp [Value.ownBlock] at hk; omega)

structure Dr (w w' : World) : Prop where mk :: (out : ∃ n, w' = w.drewN n)
theorem Dr.refl (w : World) : Dr w w := ⟨⟨0, rfl⟩⟩
theorem Dr.step {w w' : World} (h : Dr w w') (n : Nat) : Dr w (w'.drewN n) := by
  obtain ⟨⟨k, rfl⟩⟩ := h
  exact ⟨⟨k + n, World.drewN_drewN ..⟩⟩
theorem Dr.below {w w' : World} (h : Dr w w') : Below w.heap.size w w' := by
  obtain ⟨⟨n, rfl⟩⟩ := h; exact Joins.below_draws _ _ _
open Go.Fl (ldw)
theorem fl_tobits (c : Nat) (w : World) : (callFunc 92 #[.float .f64 c]).run Tryd.prog w = .ok (.value (.int .u64 c)) w := by kernel_rfl
theorem fl_frombits (n : Int) (w : World) : (callFunc 95 #[.int .u64 n]).run Tryd.prog w = .ok (.value (.float .f64 n.toNat)) w := by kernel_rfl
theorem fl_absone : Go.bits .andNot .u64 4607182418800017408 9223372036854775808 = 4607182418800017408 := by decide +kernel
theorem fl_mulfmt : ∀ n : Fin 41, FloatKind.f64.format.mul 4607182418800017408 (Go.bits .or .u64 0 (((n.val : Int) + 1023) * 4503599627370496)).toNat = some (ldw n.val) := by decide +kernel
theorem fl_mulone (k : Int) (h0 : 0 ≤ k) (h1 : k ≤ 40) (w : World) : (binOp .mul 117 (.float .f64 4607182418800017408) (.float .f64 (Go.bits .or .u64 0 ((k + 1023) * 4503599627370496)).toNat)).run Tryd.prog w = .ok (.float .f64 (ldw k)) w := by
  have h := fl_mulfmt ⟨k.toNat, by omega⟩
  simp only [Int.toNat_of_nonneg h0] at h
  simp [binOp, Op.floatArith, h]
theorem fl_negfmt : ∀ n : Fin 41, Op.negFloat .f64 (ldw n.val) = 9223372036854775808 + ldw n.val := by decide +kernel
theorem fl_neg (k : Int) (h0 : 0 ≤ k) (h1 : k ≤ 40) (w : World) : (Op.unary .neg (.float .f64 (ldw k))).run Tryd.prog w = .ok (.float .f64 (9223372036854775808 + ldw k)) w := by
  have h := fl_negfmt ⟨k.toNat, by omega⟩
  simp only [Int.toNat_of_nonneg h0] at h
  simp [Op.unary, h]
set_option maxHeartbeats 2000000 in
theorem fl_ldexp (k : Int) (h0 : 0 ≤ k) (h1 : k ≤ 40) (w : World) : Calls Tryd.prog 67 #[.float .f64 4607182418800017408, .int .i64 k] w fun e w' => e = .returned (.float .f64 (ldw k)) ∧ w = w' := by
  have tb := fl_tobits
  have fb := fl_frombits
  have ao := fl_absone
  have a1 : Go.bits .and .i64 1023 2047 = 1023 := by decide +kernel
  have a2 : Go.bits .andNot .u64 4607182418800017408 9218868437227405312 = 0 := by decide +kernel
  have hm := fl_mulone k h0 h1
  go_enter Tryd.func67, Tryd.ntmps67
  go_wp2
  go_ret
  exact ⟨rfl, rfl⟩
theorem fl_close (a0 a1 : Int) (h0 : 1 ≤ a1) (h1 : a1 ≤ 41) :
    ((FloatKind.f64.format.order (floatOfInt FloatKind.f64 a0) (9223372036854775808 + ldw (a1 - 1)) == some Ordering.gt || FloatKind.f64.format.order (floatOfInt FloatKind.f64 a0) (9223372036854775808 + ldw (a1 - 1)) == some Ordering.eq) && FloatKind.f64.format.order (floatOfInt FloatKind.f64 a0) (ldw (a1 - 1)) == some Ordering.lt) = decide (-(2 ^ (a1 - 1).toNat) ≤ a0 ∧ a0 < 2 ^ (a1 - 1).toNat) := by
  have h := Go.Fl.fits_is a0 (a1 - 1).toNat (by omega)
  rw [Int.toNat_of_nonneg (by omega)] at h
  exact h
theorem fl_ret {a b : Bool} (h : a = b) : Ending.returned (.bool a) = Ending.returned (.bool b) := by rw [h]
theorem fl_no {a b : Option Ordering} (h : ¬(a = some Ordering.gt ∨ a = some Ordering.eq)) : false = ((a == some Ordering.gt || a == some Ordering.eq) && b == some Ordering.lt) := by
  symm
  rw [Bool.and_eq_false_iff]
  left
  rw [Bool.or_eq_false_iff]
  constructor
  · exact beq_eq_false_iff_ne.2 (fun e => h (.inl e))
  · exact beq_eq_false_iff_ne.2 (fun e => h (.inr e))
set_option maxHeartbeats 2000000 in
theorem imm_Fits.calls (a0 : Int) (a1 : Int) (r : Bool) (w : World) (h : fitsS a0 a1 = some r) :
    Calls Tryd.prog 57 #[.int .i64 a0, .int .i64 a1] w fun e w' => e = .returned (.bool r) ∧ Dr w w' := by
  unfold fitsS at h
  by_cases h0 : 1 ≤ a1
  · rw [if_pos h0] at h
    by_cases h1 : a1 ≤ 41
    · rw [if_pos h1] at h
      obtain rfl := Option.some.inj h
      clear h
      have hneg := fl_neg (a1 - 1) (by omega) (by omega)
      go_enter Tryd.func57, Tryd.ntmps57
      go_wp2_with (go_at_call 67; refine (fl_ldexp _ (by omega) (by omega) _).mono ?_; rintro e w' ⟨rfl, rfl⟩)
      all_goals
        go_ret
        refine ⟨fl_ret ?_, by repeat (first | exact Dr.refl _ | apply Dr.step)⟩
        first
        | exact fl_close a0 a1 h0 h1
        | exact (fl_no (by assumption)).trans (fl_close a0 a1 h0 h1)
    · rw [if_neg h1] at h; cases h
  · rw [if_neg h0] at h; cases h
theorem ok_fits : FnOK1 told Tryd.prog 57 fitsX := fnOK1_fits fun v b r w h => (imm_Fits.calls v b r w h).mono fun _ _ h => ⟨h.1, h.2.below⟩

theorem ok_cli : FnOK1 told Tryd.prog 28 (cloneV 8) := fnOK1_cloneV (e_ := 3) cli_nil cli_zero cli_some
theorem ok_cls : FnOK1 told Tryd.prog 13 (cloneO 1 16) := fnOK1_cloneO (e_ := 9) cls_nil cls_zero cls_some
theorem ok_clf : FnOK1 told Tryd.prog 16 (cloneO 2 32) := fnOK1_cloneO (e_ := 35) clf_nil clf_zero clf_some
theorem ok_itoa : FnOK1 told Tryd.prog 20 itoaX := by
  refine fnOK1_itoa fun n Z w h0 h1 hT => ?_
  refine (Tryd.strconv_Itoa n h0 h1 w hT.1.1.2.2.1).mono ?_
  rintro e w' ⟨rfl, k, os, rfl⟩
  exact ⟨rfl, Lib.below_grow _ _ (Nat.le_refl _) _ _⟩
theorem ok_fields : FnOK1 told Tryd.prog 29 fieldsX := fnOK1_fields fun s Z w h1 h2 hT => Tryd.strings_Fields_laid s w h1 h2 hT.1.2.2.2.1
theorem ok_contains : FnOK1 told Tryd.prog 49 containsX := fnOK1_contains fun s t Z w h1 hT => by
  obtain ⟨_, m, hm⟩ := hT.2
  exact Tryd.strings_Contains s t m w h1 hm
theorem ok_join : FnOK1 told Tryd.prog 33 joinX := fnOK1_join (fun a c sep w => Tryd.strings_Join_none a c sep w) (fun bk o c xs sep w h1 h2 h3 h4 h5 => Tryd.strings_Join bk o c xs sep w h1 h2 h3 h4 h5)
theorem ext_ok (f : FuncId) (x : List AV → Heap → Option (AV × Heap)) (h : G.ext f = some x) : FnOK1 told Tryd.prog f x := by
  have h' : Go.Ab.get f extT = some x := h
  simp only [extT, Go.Ab.get] at h'
  repeat' split at h'
  all_goals first
    | cases h'; done
    | (rename_i e; subst e; cases h'; first | exact ok_fields | exact ok_fits | exact ok_cli | exact ok_cls | exact ok_clf | exact ok_itoa | exact ok_contains | exact ok_join)
end Go.Proofs.YtpebnjoklniikaaDoor
set_option maxRecDepth 100000
namespace Go.Ab
theorem w6_known_true : w6_known = some true := cv_some w6_known.cv 2000 (by kernel_rfl)
theorem w6_within_eq (a n : Int) (hn : 0 < n) (hn2 : n ≤ 4611686018427387904) : w6_within a n = some (a % n) := by
  rw [w6_within.eq]; exact withinV_eq a n hn hn2
end Go.Ab
set_option maxRecDepth 100000
namespace Go.Ab
theorem ff_dec0 : isa_Decode [255, 255] = some (⟨0, []⟩, 0, false) := cv_some (isa_Decode.cv _) 2000 (by kernel_rfl)
theorem ff_size : isa_size 255 = some 2 := by rw [isa_size.eq]; rfl
theorem ff_dec (r : List Int) : isa_Decode (255 :: 255 :: r) = some (⟨0, []⟩, 0, false) := by
  rw [← ff_dec0, isa_Decode.eq, isa_Decode.eq]; unfold isa_Decode_b
  have g1 : decide ((((255 :: 255 :: r : List Int).length : Nat) : Int) < 2) = false := decide_eq_false (by simp only [List.length_cons]; omega)
  have g2 : decide (0 ≤ (0 : Int) ∧ 0 ≤ (2 : Int) ∧ 2 ≤ (((255 :: 255 :: r : List Int).length : Nat) : Int)) = true := decide_eq_true (by simp only [List.length_cons]; omega)
  rw [g1, cond_false, show (255 :: 255 :: r : List Int)[Int.toNat 0]? = some 255 from rfl, Option.bind_some, ff_size, Option.bind_some, g1, cond_false, Option.bind_some, ff_size, Option.bind_some, g2, cond_true]
  have g3 : decide (((([255, 255] : List Int).length : Nat) : Int) < 2) = false := rfl
  rw [g3, cond_false, show ([255, 255] : List Int)[Int.toNat 0]? = some 255 from rfl, Option.bind_some, ff_size, Option.bind_some, g3, cond_false, Option.bind_some, ff_size, Option.bind_some, show decide (0 ≤ (0 : Int) ∧ 0 ≤ (2 : Int) ∧ 2 ≤ (((([255, 255] : List Int)).length : Nat) : Int)) = true from rfl, cond_true]
  rfl
theorem ff_next1 (n : Nat) (s : ByteArray) (b : List Int) (h : n ≤ b.length) : dis_reader_next_1 (n : Int) s ⟨b⟩ = some (s, true, ⟨b.drop n⟩) := by
  rw [dis_reader_next_1.eq]; unfold dis_reader_next_1_b
  simp only
  rw [show decide (0 ≤ (n : Int) ∧ (n : Int) ≤ (b.length : Nat) ∧ ((b.length : Nat) : Int) ≤ (b.length : Nat)) = true from decide_eq_true (by omega), cond_true, Int.toNat_natCast, List.take_of_length_le (by rw [List.length_drop]; omega)]
def hlf : ByteArray := h_2e68616c66203635353335
def by3 : ByteArray := h_2e627974652033
def s65k : ByteArray := ⟨#[54, 53, 53, 51, 53]⟩
theorem ff_itoa : strconv_Itoa 65535 = some s65k := by
  show itoaQ 65535 = _
  rfl
theorem ff_next (r : List Int) : dis_reader_next ⟨255 :: 255 :: r⟩ = some (hlf, true, ⟨r⟩) := by
  rw [dis_reader_next.eq]; unfold dis_reader_next_b
  simp only
  have g0 : ((((255 :: 255 :: r : List Int).length : Nat) : Int) == 0) = false := beq_eq_false_iff_ne.2 (by simp only [List.length_cons]; omega)
  have g1 : ((((255 :: 255 :: r : List Int).length : Nat) : Int) == 1) = false := beq_eq_false_iff_ne.2 (by simp only [List.length_cons]; omega)
  have e := ff_next1 2 hlf (255 :: 255 :: r) (by simp only [List.length_cons]; omega)
  rw [show ((2 : Nat) : Int) = 2 from rfl] at e
  rw [g0, cond_false, ff_dec, Option.bind_some]
  simp only
  rw [cond_false, g1, cond_false, show (255 :: 255 :: r : List Int)[Int.toNat 0]? = some 255 from rfl, Option.bind_some, show (255 :: 255 :: r : List Int)[Int.toNat 1]? = some 255 from rfl, Option.bind_some, show orI .i64 (shlI .i64 (w64 255) 8) (w64 255) = 65535 from by decide +kernel, ff_itoa, Option.bind_some]
  rw [show decide (((h_2e68616c6620.size + (s65k : ByteArray).size : Nat) : Int) ≤ IntKind.i64.max) = true from by decide +kernel, cond_true, show h_2e68616c6620 ++ s65k = hlf from by kernel_rfl, e]
  rfl
theorem ff_end : dis_reader_next ⟨[]⟩ = some (s_, false, ⟨[]⟩) := by
  rw [dis_reader_next.eq]; rfl
theorem ff_odd : dis_reader_next ⟨[3]⟩ = some (by3, true, ⟨[]⟩) := cv_some (dis_reader_next.cv _) 2000 (by kernel_rfl)
theorem ff_last (s : ByteArray) (out : List ByteArray) (r : T_dis_reader) : dis_each_L1 ⟨s, false, r, out⟩ = some ⟨r, out⟩ := by
  rw [dis_each_L1.eq]; rfl
def ffs : Nat → List Int → List Int
  | 0, t => t
  | n + 1, t => 255 :: 255 :: ffs n t
def tlB (odd : Bool) : List Int := bif odd then [3] else []
def tlT (odd : Bool) : List ByteArray := bif odd then [by3] else []
def lnF (k : Nat) (odd : Bool) : List ByteArray := List.replicate k hlf ++ tlT odd
theorem ff_one (s : ByteArray) (out : List ByteArray) (h : out.length ≤ 1000) : dis_List_1 s out = some (out ++ [s]) := by
  rw [dis_List_1.eq]; unfold dis_List_1_b
  rw [show decide ((out.length + [s].length) * 16 ≤ most) = true from decide_eq_true (by rw [List.length_singleton]; unfold most; omega), cond_true]
theorem ff_each (odd : Bool) : ∀ (k : Nat) (s : ByteArray) (out : List ByteArray), out.length + k ≤ 900 → dis_each_L1 ⟨s, true, ⟨ffs k (tlB odd)⟩, out⟩ = some ⟨⟨[]⟩, out ++ s :: lnF k odd⟩
  | 0, s, out, h => by
    rw [dis_each_L1.eq]; unfold dis_each_L1_b; simp only
    rw [cond_true, ff_one s out (by omega), Option.bind_some]
    cases odd
    · rw [show ffs 0 (tlB false) = [] from rfl, ff_end, Option.bind_some, Option.bind_some, Sum.elim_inl, ff_last]; rfl
    · rw [show ffs 0 (tlB true) = [3] from rfl, ff_odd, Option.bind_some, Option.bind_some, Sum.elim_inl]
      rw [dis_each_L1.eq]; unfold dis_each_L1_b; simp only
      rw [cond_true, ff_one by3 (out ++ [s]) (by rw [List.length_append, List.length_singleton]; omega), Option.bind_some, ff_end, Option.bind_some, Option.bind_some, Sum.elim_inl, ff_last, List.append_assoc]; rfl
  | k + 1, s, out, h => by
    rw [dis_each_L1.eq]; unfold dis_each_L1_b; simp only
    rw [cond_true, ff_one s out (by omega), Option.bind_some, show ffs (k + 1) (tlB odd) = 255 :: 255 :: ffs k (tlB odd) from rfl, ff_next, Option.bind_some, Option.bind_some, Sum.elim_inl]
    have ih := ff_each odd k hlf (out ++ [s]) (by rw [List.length_append, List.length_singleton]; omega)
    refine Eq.trans ih ?_
    rw [List.append_assoc, show lnF (k + 1) odd = hlf :: lnF k odd from by unfold lnF; rw [List.replicate_succ, List.cons_append]]; rfl
theorem lnF_len (k : Nat) (odd : Bool) : (lnF k odd).length = k + (bif odd then 1 else 0) := by
  unfold lnF tlT
  rw [List.length_append, List.length_replicate]; cases odd <;> rfl
theorem ff_list (k : Nat) (odd : Bool) (hk : k ≤ 40) : dis_List (ffs k (tlB odd)) = some (lnF k odd) := by
  have hc : slices_Clone_2 (lnF k odd) = some (lnF k odd) := by
    have hl := lnF_len k odd
    have : (lnF k odd).length ≤ 41 := by rw [hl]; cases odd <;> simp <;> omega
    show cloneT 16 _ = _
    unfold cloneT
    rw [if_pos ⟨by omega, by rw [maxLen_lt]; omega⟩]
  rw [dis_List.eq]; unfold dis_List_b
  have e : dis_each ⟨ffs k (tlB odd)⟩ [] = some (⟨[]⟩, lnF k odd) := by
    rw [dis_each.eq]; unfold dis_each_b
    cases k with
    | zero =>
      cases odd
      · rw [show ffs 0 (tlB false) = [] from rfl, ff_end, Option.bind_some, ff_last]; rfl
      · rw [show ffs 0 (tlB true) = [3] from rfl, ff_odd, Option.bind_some]
        simp only
        have := ff_each false 0 by3 [] (by simp)
        rw [show ffs 0 (tlB false) = [] from rfl] at this
        rw [this]; rfl
    | succ k =>
      rw [show ffs (k + 1) (tlB odd) = 255 :: 255 :: ffs k (tlB odd) from rfl, ff_next, Option.bind_some]
      simp only
      rw [ff_each odd k hlf [] (by simp only [List.length_nil]; omega), show lnF (k + 1) odd = hlf :: lnF k odd from by unfold lnF; rw [List.replicate_succ, List.cons_append]]; rfl
  rw [e, Option.bind_some]
  simp only
  rw [hc, Option.bind_some]
theorem ffs_app : ∀ (k : Nat) (t : List Int), ffs k [] ++ t = ffs k t
  | 0, t => rfl
  | k + 1, t => by
    show 255 :: 255 :: (ffs k [] ++ t) = _
    rw [ffs_app k t]; rfl
theorem ffs_rep : ∀ (k : Nat), ffs k [] = List.replicate (2 * k) 255
  | 0 => rfl
  | k + 1 => by
    rw [show 2 * (k + 1) = 2 * k + 1 + 1 by omega, List.replicate_succ, List.replicate_succ, ← ffs_rep k]; rfl
theorem lay_l (odd : Bool) (k : Nat) (hk : k ≤ 40) : ∀ (d i : Nat), i + d = 2 * k → w6_DisData_L1 ⟨odd, (k : Int), (i : Int), List.replicate i 255 ++ List.replicate d 0⟩ = some ⟨odd, (k : Int), List.replicate (2 * k) 255⟩
  | 0, i, h => by
    rw [w6_DisData_L1.eq]; unfold w6_DisData_L1_b; simp only
    rw [w64_in (n := (2 : Int) * (k : Int)) (by omega) (by omega), show decide ((i : Int) < 2 * (k : Int)) = false from decide_eq_false (by omega), show i = 2 * k by omega]
    simp
  | d + 1, i, h => by
    have ih := lay_l odd k hk d (i + 1) (by omega)
    have hlen : (List.replicate i (255 : Int) ++ List.replicate (d + 1) 0).length = 2 * k := by rw [List.length_append, List.length_replicate, List.length_replicate]; omega
    have hset : (List.replicate i (255 : Int) ++ List.replicate (d + 1) 0).set i 255 = List.replicate (i + 1) 255 ++ List.replicate d 0 := by
      rw [List.set_append_right _ _ (by rw [List.length_replicate]; omega), List.length_replicate, Nat.sub_self, List.replicate_succ, List.set_cons_zero, List.replicate_succ' (n := i), List.append_assoc]; rfl
    have hget : (List.replicate i (255 : Int) ++ List.replicate (d + 1) 0)[i]? = some 0 := by
      rw [List.getElem?_append_right (by rw [List.length_replicate]; omega), List.length_replicate, Nat.sub_self]; rfl
    rw [w6_DisData_L1.eq]; unfold w6_DisData_L1_b; simp only
    rw [w64_in (n := (2 : Int) * (k : Int)) (by omega) (by omega), show decide ((i : Int) < 2 * (k : Int)) = true from decide_eq_true (by omega), cond_true, hlen, show decide (0 ≤ (i : Int) ∧ (i : Int) < ((2 * k : Nat) : Int)) = true from decide_eq_true (by omega), cond_true, Int.toNat_natCast, hget, Option.bind_some, hset, w64_in (n := (i : Int) + 1) (by omega) (by omega), Option.bind_some, Sum.elim_inl]
    exact ih
theorem look_l (odd : Bool) (k : Nat) (hk : k ≤ 40) : ∀ (d i : Nat), i + d = k → w6_DisData_L2 ⟨odd, (k : Int), lnF k odd, (i : Int)⟩ = some (.inr ⟨odd, (k : Int), lnF k odd⟩)
  | 0, i, h => by
    rw [w6_DisData_L2.eq]; unfold w6_DisData_L2_b; simp only
    rw [show decide ((i : Int) < (k : Int)) = false from decide_eq_false (by omega)]; rfl
  | d + 1, i, h => by
    have ih := look_l odd k hk d (i + 1) (by omega)
    have hl := lnF_len k odd
    have hg : (lnF k odd)[i]? = some hlf := by
      unfold lnF
      rw [List.getElem?_append_left (by rw [List.length_replicate]; omega), List.getElem?_replicate, if_pos (by omega)]
    rw [w6_DisData_L2.eq]; unfold w6_DisData_L2_b; simp only
    rw [show decide ((i : Int) < (k : Int)) = true from decide_eq_true (by omega), cond_true, show decide ((i : Int) ≥ (((lnF k odd).length : Nat) : Int)) = false from decide_eq_false (by omega), cond_false, show decide (0 ≤ (i : Int)) = true from decide_eq_true (by omega), cond_true, Int.toNat_natCast, hg, Option.bind_some, show eqS hlf h_2e68616c66203635353335 = true from by decide +kernel, show (!true) = false from rfl, cond_false, w64_in (n := (i : Int) + 1) (by omega) (by omega), Option.bind_some, Sum.elim_inl]
    exact ih
theorem w6_DisData_true (a0 : Int) (a1 : Bool) (w0 : IntKind.i64.min ≤ a0 ∧ a0 ≤ IntKind.i64.max) (w1 : True) : w6_DisData a0 a1 = some true := by
  have h1 := Int.emod_nonneg a0 (by decide : (40 : Int) ≠ 0)
  have h2 := Int.emod_lt_of_pos a0 (by decide : (0 : Int) < 40)
  have hw := w6_within_eq a0 40 (by decide) (by decide)
  rw [w6_DisData.eq]; unfold w6_DisData_b
  rw [w6_known_true, Option.bind_some, show (!true) = false from rfl, cond_false, hw, Option.bind_some]
  obtain ⟨k, hk⟩ : ∃ k : Nat, a0 % 40 = (k : Int) := ⟨(a0 % 40).toNat, by omega⟩
  rw [hk, w64_in (n := (2 : Int) * (k : Int)) (by omega) (by omega), show decide (0 ≤ (2 : Int) * (k : Int) ∧ (2 : Int) * (k : Int) = 2 * (k : Int) ∧ 2 * (k : Int) * 1 ≤ ((most : Nat) : Int)) = true from decide_eq_true (by unfold most; omega), cond_true]
  have e1 := lay_l a1 k (by omega) (2 * k) 0 (by omega)
  have e1' : w6_DisData_L1 ⟨a1, (k : Int), 0, List.replicate (2 * k) 0⟩ = _ := e1
  rw [show Int.toNat (2 * (k : Int)) = 2 * k by omega, e1', Option.bind_some]
  simp only
  have hl := lnF_len k a1
  have e3 := look_l a1 k (by omega) k 0 (Nat.zero_add _)
  have e3' : w6_DisData_L2 ⟨a1, (k : Int), lnF k a1, 0⟩ = _ := e3
  have e2 := ff_list k a1 (by omega)
  cases a1
  · rw [cond_false, ← ffs_rep, show ffs k [] = ffs k (tlB false) from rfl, e2, Option.bind_some, e3', Option.bind_some, Sum.elim_inr]
    simp only
    rw [cond_false, hl, cond_false, Nat.add_zero, beq_self_eq_true]
  · have hg : (lnF k true)[k]? = some by3 := by
      unfold lnF
      rw [List.getElem?_append_right (by rw [List.length_replicate]; omega), List.length_replicate, Nat.sub_self]; rfl
    rw [cond_true, show decide (((List.replicate (2 * k) (255 : Int)).length + [(3 : Int)].length) * 1 ≤ most) = true from decide_eq_true (by rw [List.length_replicate, List.length_singleton]; unfold most; omega), cond_true, ← ffs_rep, ffs_app, show ([3] : List Int) = tlB true from rfl, e2, Option.bind_some, e3', Option.bind_some, Sum.elim_inr]
    simp only
    rw [cond_true, hl, cond_true, w64_in (n := (k : Int) + 1) (by omega) (by omega), show ((((k + 1 : Nat)) : Int) == (k : Int) + 1) = true from beq_iff_eq.2 (by omega), cond_true, show decide (0 ≤ (k : Int)) = true from decide_eq_true (by omega), cond_true, Int.toNat_natCast, hg, Option.bind_some]
    exact congrArg some (by decide +kernel)
end Go.Ab
namespace Go.Proofs.YtpebnjoklniikaaDoor
open Go Go.Ab Go.ChangeShapes Go.WideShapes Go.ChangeAt Go.RowKit
open Go.ChangeMaps (open_string shut_string)
theorem repL_one {c : Ctx} {w : World} {a : AV} {v : Value} (h : RepL c w [a] [v]) : Rep c w a v := by cases h; assumption
theorem laidOut : laidOutB Tryd.prog = true := by kernel_rfl
theorem own : ownKnob Tryd.prog.godebug = none := by kernel_rfl
theorem door_met (os : Os) (args : Array Value) : laidMetH Tryd.prog [("math/bits.deBruijn32tab", Rows.laid_math_bits_deBruijn32tab), ("math/bits.deBruijn64tab", Rows.laid_math_bits_deBruijn64tab), ("internal/strconv.uint64pow10", Rows.laid_internal_strconv_uint64pow10), ("unicode.White_Space", Rows.laid_unicode_White_Space), ("strings.asciiSpace", Rows.laid_strings_asciiSpace)] ((World.doorLaid Tryd.prog 48 os).forCall (fun _ _ => 0) ⟨#[], args, []⟩).memory :=
  laidMetH_of_parts3 (fuel := 8) (laidMet_of_run' 8 (by kernel_rfl) (by kernel_rfl)) (by kernel_rfl) (by kernel_rfl)
namespace disData
set_option maxRecDepth 100000 in
theorem lifted (os : Os) (started : os.Started) (H : Type) (enc : TypeId × Value → H) :
    ReturnsInHanded {} Tryd.checked os 4 .any (fun w args => (Rows.disDataSpec.pre enc Tryd.prog Tryd.f4 [] false w args ∧ laidMetH Tryd.prog [("math/bits.deBruijn32tab", Rows.laid_math_bits_deBruijn32tab), ("math/bits.deBruijn64tab", Rows.laid_math_bits_deBruijn64tab), ("internal/strconv.uint64pow10", Rows.laid_internal_strconv_uint64pow10), ("unicode.White_Space", Rows.laid_unicode_White_Space), ("strings.asciiSpace", Rows.laid_strings_asciiSpace)] w) ∧ sizedMet enc Tryd.prog Tryd.f4 (OpenSpec.ofChange Rows.disDataSpec) false w args) (Rows.disDataSpec.post enc Tryd.prog Tryd.f4 false true false false) := by
  refine returns_shaped (C := Tryd.checked) (X := fun w _ => laidMetH Tryd.prog [("math/bits.deBruijn32tab", Rows.laid_math_bits_deBruijn32tab), ("math/bits.deBruijn64tab", Rows.laid_math_bits_deBruijn64tab), ("internal/strconv.uint64pow10", Rows.laid_internal_strconv_uint64pow10), ("unicode.White_Space", Rows.laid_unicode_White_Space), ("strings.asciiSpace", Rows.laid_strings_asciiSpace)] w) (fun _ _ _ hh h => h.of_heap hh) own started (by kernel_rfl) Tryd.func4
    (ChangeSpec.witness_shaped (enc := enc) (C := Tryd.checked) (os := os) (X := fun w _ => laidMetH Tryd.prog [("math/bits.deBruijn32tab", Rows.laid_math_bits_deBruijn32tab), ("math/bits.deBruijn64tab", Rows.laid_math_bits_deBruijn64tab), ("internal/strconv.uint64pow10", Rows.laid_internal_strconv_uint64pow10), ("unicode.White_Space", Rows.laid_unicode_White_Space), ("strings.asciiSpace", Rows.laid_strings_asciiSpace)] w) false (World.doorLaid Tryd.prog 48 os) #[.int .i64 0, .bool false] 8 rfl (World.shaped_of_RefB (by kernel_rfl) (by kernel_rfl)) (by kernel_rfl) (by kernel_rfl) (by kernel_rfl) (door_met os _)) ?_
  intro W base args ds gs before hval0 hW hcnd hsz0 hL _
  have hT := told_of hL
  have hW' := hW
  obtain ⟨p, q, hA0, hV, rfl, hfz, hnd⟩ := hW
  have hA : DataW.TrodAll enc Tryd.prog W 0 (fun _ => true) true Tryd.f4.params.toList args.toList ds p := hA0
  rw [Tryd.params4] at hA
  obtain ⟨v0, vs0, d0, ds0, p0, q0, hargs, rfl, rfl, h0, r0⟩ := trodAll_cons hA
  obtain ⟨v1, vs1, d1, ds1, p1, q1, rfl, rfl, rfl, h1, r1⟩ := trodAll_cons r0
  obtain ⟨rfl, rfl, rfl⟩ := trodAll_nil r1
  obtain rfl : args = #[v0, v1] := by cases args; simp_all
  obtain ⟨rfl, rfl⟩ := trodVars_none hV
  obtain ⟨u0, rfl⟩ := okWide_int Tryd.underlying3 (hval0 0 3 v0 rfl rfl)
  obtain ⟨a0, w0, y0⟩ := rd_fuel (enc := enc) (P := Tryd.prog) (W := W) (fun fuel => (rd_int Tryd.underlying3 fuel)) h0
  replace y0 := repL_one (show RepL (oldCtx W) W [_] [_] from y0)
  obtain ⟨u1, rfl⟩ := okWide_bool Tryd.underlying4 (hval0 1 4 v1 rfl rfl)
  obtain ⟨a1, w1, y1⟩ := rd_fuel (enc := enc) (P := Tryd.prog) (W := W) (fun fuel => (rd_bool Tryd.underlying4 fuel)) h1
  replace y1 := repL_one (show RepL (oldCtx W) W [_] [_] from y1)
  obtain ⟨k, hk⟩ := w6_DisData.run a0 a1 (w6_DisData_true a0 a1 w0 w1)
  have lt0 : ∀ x ∈ p0, x.block < W.heap.size := by obtain ⟨m, hm⟩ := h0; exact DataW.trod_lt m _ _ _ hm
  have lt1 : ∀ x ∈ p1, x.block < W.heap.size := by obtain ⟨m, hm⟩ := h1; exact DataW.trod_lt m _ _ _ hm
  refine (calls_of_eval (T := told) (by kernel_rfl) ext_ok hk hT (.cons _ _ _ _ y0 (.cons _ _ _ _ y1 .nil))).mono fun e W' ⟨he, bel⟩ => ?_
  subst he
  exact ⟨_, rfl, _, _, _, [], _, [], hW', trodAll_mk1 (shut_bool Tryd.underlying4 _), (trodAll_cons_mk (Below.trod laidOut (by kernel_rfl) (of_decide_eq_true (by kernel_rfl)) h0 bel lt0) (trodAll_cons_mk (Below.trod laidOut (by kernel_rfl) (of_decide_eq_true (by kernel_rfl)) h1 bel lt1) trodAll_mk0)), rfl, bel.frame _, fun h => by cases h⟩
theorem over : Rows.disDataRow.holds Tryd.pinned (OpenSpec.ofChange Rows.disDataSpec) :=
  OpenClaim.holds_of_wide 4 Tryd.f4 rfl rfl rfl rfl rfl rfl rfl ⟨rfl, rfl, rfl, rfl, rfl⟩ rfl rfl rfl rfl rfl (by kernel_rfl) Tryd.func4 (by kernel_rfl)
    (of_decide_eq_true (by kernel_rfl)) (by unfold Func.isWrapper; first | (rw [if_pos (by decide +kernel)]; kernel_rfl) | (rw [if_neg (by decide +kernel)]; exact ⟨rfl, rfl⟩))
    (fun os started H enc _ => lifted os started H enc)
theorem proved : Rows.DisDataSaid := over
theorem card : Rows.DisDataCardSaid :=
  Claim7.holds_tied_plain_at .later [] [.data, .data, .data, .listed, .data] true (true, "8be43116c825a79a0b6294bc5addf923d9bc953962bc862b703fafda50429f34") false
    proved (fun _ h => by cases h) (by kernel_rfl) (fun _ h => by cases h) disData_row_tie rfl ⟨rfl, rfl⟩ (by kernel_rfl) rfl
    (fun f fn hf hfn => by
      obtain rfl : f = 4 := Option.some.inj ((show Tryd.prog.funcNamed Tryd.f4.name = some 4 by kernel_rfl).symm.trans hf) |>.symm
      obtain rfl : fn = Tryd.f4 := (Option.some.inj (Tryd.func4.symm.trans hfn)).symm
      exact ⟨by kernel_rfl, fun j t ht => by
        rw [Tryd.params4] at ht
        have hm : t ∈ [3, 4] := by simpa using Array.mem_of_getElem? ht
        have hall : ([3, 4].all fun u => !Tryd.prog.wantsStandIn u) = true := by kernel_rfl
        exact (show Tryd.prog.wantsStandIn t = false by simpa using List.all_eq_true.1 hall t hm)⟩)
    (by kernel_rfl)
end disData
theorem disData_holds : Rows.DisDataCardSaid := disData.card
end Go.Proofs.YtpebnjoklniikaaDoor
