/- ExprBack: part 3 of the proof that, whatever the input, the law returns true and the input reads as it did; its conditions are those of the given row. -/
import Derived.Test.YtklkkgmflfioeaaDoorZExprBack2
import Derived.Test.YtklkkgmflfioeaaDoorSh
import Derived.Test.YtklkkgmflfioeaaDoorRows
import Derived.Lib.AppendIntMem
import Derived.LaidMore
import Derived.MakeChecks
set_option linter.unusedVariables false
set_option linter.unusedSimpArgs false
namespace Go.Ab
open Go.Proofs
def expr_Eval_b (c_expr_bound : Int → Option (Int × Int)) (c_slices_IndexFunc : (List T_api_Sym) → T_api_Expr → Option (Int × T_api_Expr)) (c_expr_Eval : T_api_Expr → Int → (List T_api_Sym) → Option (Int × Int)) (c_expr_both : Int → Int → Int → Option (Int × Int)) (a0 : T_api_Expr) (a1 : Int) (a2 : (List T_api_Sym)) : Option (Int × Int) := (bif (a0.Kind == (1 : Int)) then ((c_expr_bound a0.N).bind fun (r1 : (Int × Int)) => (some (r1.1, r1.2))) else (bif (a0.Kind == (3 : Int)) then ((c_expr_bound a1).bind fun (r2 : (Int × Int)) => (some (r2.1, r2.2))) else (bif (a0.Kind == (2 : Int)) then ((c_slices_IndexFunc a2 a0).bind fun (r3 : (Int × T_api_Expr)) => (bif (decide (r3.1 < (0 : Int))) then (some ((0 : Int), (4 : Int))) else (bif (decide (0 ≤ r3.1)) then ((a2[(Int.toNat r3.1)]?).bind fun (e4 : T_api_Sym) => ((c_expr_bound e4.Value).bind fun (r5 : (Int × Int)) => (some (r5.1, r5.2)))) else none))) else (bif ((((a0.L.length) : Nat) : Int) == (0 : Int)) then (some ((0 : Int), (6 : Int))) else ((a0.L[(Int.toNat (0 : Int))]?).bind fun (e6 : T_api_Expr) => ((c_expr_Eval e6 a1 a2).bind fun (r7 : (Int × Int)) => (bif (r7.2 != (0 : Int)) then (some ((0 : Int), r7.2)) else (bif ((((a0.L.length) : Nat) : Int) == (1 : Int)) then ((c_expr_bound (w64 (0 - r7.1))).bind fun (r8 : (Int × Int)) => (some (r8.1, r8.2))) else ((a0.L[(Int.toNat (1 : Int))]?).bind fun (e9 : T_api_Expr) => ((c_expr_Eval e9 a1 a2).bind fun (r10 : (Int × Int)) => (bif (r10.2 != (0 : Int)) then (some ((0 : Int), r10.2)) else ((c_expr_both a0.Kind r7.1 r10.1).bind fun (r11 : (Int × Int)) => (some (r11.1, r11.2))))))))))))))
def expr_Eval_t (P : Program) (call : CallF) (c_expr_bound : Int → Option (Int × Int)) (c_slices_IndexFunc : (List T_api_Sym) → T_api_Expr → Option (Int × T_api_Expr)) (c_expr_Eval : T_api_Expr → Int → (List T_api_Sym) → Option (Int × Int)) (c_expr_both : Int → Int → Int → Option (Int × Int)) (a0 : T_api_Expr) (a1 : Int) (a2 : (List T_api_Sym)) : Tr (Int × Int) (AV × Heap) := (.as (a0.Kind == (1 : Int)) (.call (call 39 [.sc (.int .i64 a0.N)] []) (c_expr_bound a0.N) expr_bound_e fun (r1 : (Int × Int)) => (rt expr_Eval_e (r1.1, r1.2))) (.as (a0.Kind == (3 : Int)) (.call (call 39 [.sc (.int .i64 a1)] []) (c_expr_bound a1) expr_bound_e fun (r2 : (Int × Int)) => (rt expr_Eval_e (r2.1, r2.2))) (.as (a0.Kind == (2 : Int)) (.call (call 40 [.sl (R_api_Sym a2), .fn (.func 41) [] [.ptr 0 0]] [(0, .box [] (C_api_Expr a0))]) (c_slices_IndexFunc a2 a0) slices_IndexFunc_e fun (r3 : (Int × T_api_Expr)) => (.as (decide (r3.1 < (0 : Int))) (rt expr_Eval_e ((0 : Int), (4 : Int))) (.as (decide (0 ≤ r3.1)) (.row ((R_api_Sym a2)[(Int.toNat r3.1)]?) (a2[(Int.toNat r3.1)]?) C_api_Sym fun (e4 : T_api_Sym) => (.call (call 39 [.sc (.int .i64 e4.Value)] []) (c_expr_bound e4.Value) expr_bound_e fun (r5 : (Int × Int)) => (rt expr_Eval_e (r5.1, r5.2)))) .fail))) (.num ((R_api_Expr a0.L).length) (a0.L.length) (.as ((((a0.L.length) : Nat) : Int) == (0 : Int)) (rt expr_Eval_e ((0 : Int), (6 : Int))) (.yes (decide (0 ≤ (0 : Int))) (.row ((R_api_Expr a0.L)[(Int.toNat (0 : Int))]?) (a0.L[(Int.toNat (0 : Int))]?) C_api_Expr fun (e6 : T_api_Expr) => (.call (call 23 [.agg (C_api_Expr e6), .sc (.int .i64 a1), .sl (R_api_Sym a2)] []) (c_expr_Eval e6 a1 a2) expr_Eval_e fun (r7 : (Int × Int)) => (.as (r7.2 != (0 : Int)) (rt expr_Eval_e ((0 : Int), r7.2)) (.num ((R_api_Expr a0.L).length) (a0.L.length) (.as ((((a0.L.length) : Nat) : Int) == (1 : Int)) (.call (call 39 [.sc (.int .i64 (w64 (0 - r7.1)))] []) (c_expr_bound (w64 (0 - r7.1))) expr_bound_e fun (r8 : (Int × Int)) => (rt expr_Eval_e (r8.1, r8.2))) (.yes (decide (0 ≤ (1 : Int))) (.row ((R_api_Expr a0.L)[(Int.toNat (1 : Int))]?) (a0.L[(Int.toNat (1 : Int))]?) C_api_Expr fun (e9 : T_api_Expr) => (.call (call 23 [.agg (C_api_Expr e9), .sc (.int .i64 a1), .sl (R_api_Sym a2)] []) (c_expr_Eval e9 a1 a2) expr_Eval_e fun (r10 : (Int × Int)) => (.as (r10.2 != (0 : Int)) (rt expr_Eval_e ((0 : Int), r10.2)) (.call (call 42 [.sc (.int .i64 a0.Kind), .sc (.int .i64 r7.1), .sc (.int .i64 r10.1)] []) (c_expr_both a0.Kind r7.1 r10.1) expr_both_e fun (r11 : (Int × Int)) => (rt expr_Eval_e (r11.1, r11.2))))))))))))))))))
theorem expr_Eval_d (P : Program) (call : CallF) (c_expr_bound : Int → Option (Int × Int)) (c_slices_IndexFunc : (List T_api_Sym) → T_api_Expr → Option (Int × T_api_Expr)) (c_expr_Eval : T_api_Expr → Int → (List T_api_Sym) → Option (Int × Int)) (c_expr_both : Int → Int → Int → Option (Int × Int)) (a0 : T_api_Expr) (a1 : Int) (a2 : (List T_api_Sym)) : (expr_Eval_t P call c_expr_bound c_slices_IndexFunc c_expr_Eval c_expr_both a0 a1 a2).den = expr_Eval_b c_expr_bound c_slices_IndexFunc c_expr_Eval c_expr_both a0 a1 a2 := rfl
theorem expr_Eval_n (call : CallF) (c_expr_bound : Int → Option (Int × Int)) (c_slices_IndexFunc : (List T_api_Sym) → T_api_Expr → Option (Int × T_api_Expr)) (c_expr_Eval : T_api_Expr → Int → (List T_api_Sym) → Option (Int × Int)) (c_expr_both : Int → Int → Int → Option (Int × Int)) (a0 : T_api_Expr) (a1 : Int) (a2 : (List T_api_Sym)) : (expr_Eval_t Tryd.prog call c_expr_bound c_slices_IndexFunc c_expr_Eval c_expr_both a0 a1 a2).norm (bodyT Tryd.prog call G 23 [.agg (C_api_Expr a0), .sc (.int .i64 a1), .sl (R_api_Sym a2)] []) = expr_Eval_t Tryd.prog call c_expr_bound c_slices_IndexFunc c_expr_Eval c_expr_both a0 a1 a2 := by kernel_rfl
theorem expr_Eval_k (P : Program) (call : CallF) (lp : Loops) (c_expr_bound : Int → Option (Int × Int)) (c_slices_IndexFunc : (List T_api_Sym) → T_api_Expr → Option (Int × T_api_Expr)) (c_expr_Eval : T_api_Expr → Int → (List T_api_Sym) → Option (Int × Int)) (c_expr_both : Int → Int → Int → Option (Int × Int)) (hc_expr_bound : ∀ (a0 : Int) (r : (Int × Int)), c_expr_bound a0 = some r → (call 39 [.sc (.int .i64 a0)] []) = some (expr_bound_e r)) (hc_slices_IndexFunc : ∀ (a0 : (List T_api_Sym)) (h0 : T_api_Expr) (r : (Int × T_api_Expr)), c_slices_IndexFunc a0 h0 = some r → (call 40 [.sl (R_api_Sym a0), .fn (.func 41) [] [.ptr 0 0]] [(0, .box [] (C_api_Expr h0))]) = some (slices_IndexFunc_e r)) (hc_expr_Eval : ∀ (a0 : T_api_Expr) (a1 : Int) (a2 : (List T_api_Sym)) (r : (Int × Int)), c_expr_Eval a0 a1 a2 = some r → (call 23 [.agg (C_api_Expr a0), .sc (.int .i64 a1), .sl (R_api_Sym a2)] []) = some (expr_Eval_e r)) (hc_expr_both : ∀ (a0 : Int) (a1 : Int) (a2 : Int) (r : (Int × Int)), c_expr_both a0 a1 a2 = some r → (call 42 [.sc (.int .i64 a0), .sc (.int .i64 a1), .sc (.int .i64 a2)] []) = some (expr_both_e r)) (a0 : T_api_Expr) (a1 : Int) (a2 : (List T_api_Sym)) : (expr_Eval_t P call c_expr_bound c_slices_IndexFunc c_expr_Eval c_expr_both a0 a1 a2).ok lp expr_Eval_e := ⟨rfl, fun h0 => fun r1 hr1 => ⟨hc_expr_bound _ _ hr1, rfl⟩, fun h0 => ⟨rfl, fun h1 => fun r2 hr2 => ⟨hc_expr_bound _ _ hr2, rfl⟩, fun h1 => ⟨rfl, fun h2 => fun r3 hr3 => ⟨hc_slices_IndexFunc _ _ _ hr3, ⟨rfl, fun h3 => rfl, fun h3 => ⟨rfl, fun h4 => fun e4 he4 => ⟨R_api_Sym_get he4, fun r5 hr5 => ⟨hc_expr_bound _ _ hr5, rfl⟩⟩, fun h4 => trivial⟩⟩⟩, fun h2 => ⟨(R_api_Expr_len _), ⟨rfl, fun h3 => rfl, fun h3 => ⟨rfl, fun e6 he6 => ⟨R_api_Expr_get he6, fun r7 hr7 => ⟨hc_expr_Eval _ _ _ _ hr7, ⟨rfl, fun h4 => rfl, fun h4 => ⟨(R_api_Expr_len _), ⟨rfl, fun h5 => fun r8 hr8 => ⟨hc_expr_bound _ _ hr8, rfl⟩, fun h5 => ⟨rfl, fun e9 he9 => ⟨R_api_Expr_get he9, fun r10 hr10 => ⟨hc_expr_Eval _ _ _ _ hr10, ⟨rfl, fun h6 => rfl, fun h6 => fun r11 hr11 => ⟨hc_expr_both _ _ _ _ hr11, rfl⟩⟩⟩⟩⟩⟩⟩⟩⟩⟩⟩⟩⟩⟩⟩⟩
theorem expr_Eval_m {c_expr_bound d_expr_bound : Int → Option (Int × Int)} (h_expr_bound : ∀ (a0 : Int), Le (c_expr_bound a0) (d_expr_bound a0)) {c_slices_IndexFunc d_slices_IndexFunc : (List T_api_Sym) → T_api_Expr → Option (Int × T_api_Expr)} (h_slices_IndexFunc : ∀ (a0 : (List T_api_Sym)) (h0 : T_api_Expr), Le (c_slices_IndexFunc a0 h0) (d_slices_IndexFunc a0 h0)) {c_expr_Eval d_expr_Eval : T_api_Expr → Int → (List T_api_Sym) → Option (Int × Int)} (h_expr_Eval : ∀ (a0 : T_api_Expr) (a1 : Int) (a2 : (List T_api_Sym)), Le (c_expr_Eval a0 a1 a2) (d_expr_Eval a0 a1 a2)) {c_expr_both d_expr_both : Int → Int → Int → Option (Int × Int)} (h_expr_both : ∀ (a0 : Int) (a1 : Int) (a2 : Int), Le (c_expr_both a0 a1 a2) (d_expr_both a0 a1 a2)) (a0 : T_api_Expr) (a1 : Int) (a2 : (List T_api_Sym)) : Le (expr_Eval_b c_expr_bound c_slices_IndexFunc c_expr_Eval c_expr_both a0 a1 a2) (expr_Eval_b d_expr_bound d_slices_IndexFunc d_expr_Eval d_expr_both a0 a1 a2) := by
  unfold expr_Eval_b
  exact .cond (.bind (h_expr_bound _) fun r1 => .refl _) (.cond (.bind (h_expr_bound _) fun r2 => .refl _) (.cond (.bind (h_slices_IndexFunc _ _) fun r3 => .cond (.refl _) (.cond (.bind (.refl (a2[(Int.toNat r3.1)]?)) fun e4 => .bind (h_expr_bound _) fun r5 => .refl _) (.refl _))) (.cond (.refl _) (.bind (.refl (a0.L[(Int.toNat (0 : Int))]?)) fun e6 => .bind (h_expr_Eval _ _ _) fun r7 => .cond (.refl _) (.cond (.bind (h_expr_bound _) fun r8 => .refl _) (.bind (.refl (a0.L[(Int.toNat (1 : Int))]?)) fun e9 => .bind (h_expr_Eval _ _ _) fun r10 => .cond (.refl _) (.bind (h_expr_both _ _ _) fun r11 => .refl _)))))))
theorem expr_Eval_c {c_expr_bound : Nat → Int → Option (Int × Int)} {d_expr_bound : Int → Option (Int × Int)} (h_expr_bound : ∀ (a0 : Int), Cv (fun k => c_expr_bound k a0) (d_expr_bound a0)) {c_slices_IndexFunc : Nat → (List T_api_Sym) → T_api_Expr → Option (Int × T_api_Expr)} {d_slices_IndexFunc : (List T_api_Sym) → T_api_Expr → Option (Int × T_api_Expr)} (h_slices_IndexFunc : ∀ (a0 : (List T_api_Sym)) (h0 : T_api_Expr), Cv (fun k => c_slices_IndexFunc k a0 h0) (d_slices_IndexFunc a0 h0)) {c_expr_Eval : Nat → T_api_Expr → Int → (List T_api_Sym) → Option (Int × Int)} {d_expr_Eval : T_api_Expr → Int → (List T_api_Sym) → Option (Int × Int)} (h_expr_Eval : ∀ (a0 : T_api_Expr) (a1 : Int) (a2 : (List T_api_Sym)), Cv (fun k => c_expr_Eval k a0 a1 a2) (d_expr_Eval a0 a1 a2)) {c_expr_both : Nat → Int → Int → Int → Option (Int × Int)} {d_expr_both : Int → Int → Int → Option (Int × Int)} (h_expr_both : ∀ (a0 : Int) (a1 : Int) (a2 : Int), Cv (fun k => c_expr_both k a0 a1 a2) (d_expr_both a0 a1 a2)) (a0 : T_api_Expr) (a1 : Int) (a2 : (List T_api_Sym)) : Cv (fun k => expr_Eval_b (c_expr_bound k) (c_slices_IndexFunc k) (c_expr_Eval k) (c_expr_both k) a0 a1 a2) (expr_Eval_b d_expr_bound d_slices_IndexFunc d_expr_Eval d_expr_both a0 a1 a2) := by
  unfold expr_Eval_b
  exact .cond (.bind (h_expr_bound _) fun r1 => by exact .const _) (.cond (.bind (h_expr_bound _) fun r2 => by exact .const _) (.cond (.bind (h_slices_IndexFunc _ _) fun r3 => .cond (by exact .const _) (.cond (.bind (.const (a2[(Int.toNat r3.1)]?)) fun e4 => .bind (h_expr_bound _) fun r5 => by exact .const _) (by exact .const _))) (.cond (by exact .const _) (.bind (.const (a0.L[(Int.toNat (0 : Int))]?)) fun e6 => .bind (h_expr_Eval _ _ _) fun r7 => .cond (by exact .const _) (.cond (.bind (h_expr_bound _) fun r8 => by exact .const _) (.bind (.const (a0.L[(Int.toNat (1 : Int))]?)) fun e9 => .bind (h_expr_Eval _ _ _) fun r10 => .cond (by exact .const _) (.bind (h_expr_both _ _ _) fun r11 => by exact .const _)))))))
def expr_Eval.s : Nat → T_api_Expr → Int → (List T_api_Sym) → Option (Int × Int)
  | 0, _, _, _ => none
  | k + 1, a0, a1, a2 => expr_Eval_b (fun a0 => expr_bound.s k a0) (fun a0 h0 => slices_IndexFunc.s k a0 h0) (fun a0 a1 a2 => expr_Eval.s k a0 a1 a2) (fun a0 a1 a2 => expr_both.s k a0 a1 a2) a0 a1 a2
termination_by structural k => k
theorem expr_Eval_all : ∀ (k : Nat), ∀ (a0 : T_api_Expr) (a1 : Int) (a2 : (List T_api_Sym)) (r : (Int × Int)), expr_Eval.s k a0 a1 a2 = some r → evalFn Tryd.prog G k 23 [.agg (C_api_Expr a0), .sc (.int .i64 a1), .sl (R_api_Sym a2)] [] = some (expr_Eval_e r)
  | 0 => fun _ _ _ _ h => (nomatch h)
  | k + 1 => by
    have i_expr_Eval := expr_Eval_all k
    exact fun a0 a1 a2 r h => fn_ok rfl (expr_Eval_t Tryd.prog (evalFn Tryd.prog G k) (fun a0 => expr_bound.s k a0) (fun a0 h0 => slices_IndexFunc.s k a0 h0) (fun a0 a1 a2 => expr_Eval.s k a0 a1 a2) (fun a0 a1 a2 => expr_both.s k a0 a1 a2) a0 a1 a2) (expr_Eval_n _ (fun a0 => expr_bound.s k a0) (fun a0 h0 => slices_IndexFunc.s k a0 h0) (fun a0 a1 a2 => expr_Eval.s k a0 a1 a2) (fun a0 a1 a2 => expr_both.s k a0 a1 a2) a0 a1 a2) (expr_Eval_k _ _ _ (fun a0 => expr_bound.s k a0) (fun a0 h0 => slices_IndexFunc.s k a0 h0) (fun a0 a1 a2 => expr_Eval.s k a0 a1 a2) (fun a0 a1 a2 => expr_both.s k a0 a1 a2) (expr_bound.ok k) (slices_IndexFunc.ok k) (i_expr_Eval) (expr_both.ok k)  a0 a1 a2) ((expr_Eval_d _ _ (fun a0 => expr_bound.s k a0) (fun a0 h0 => slices_IndexFunc.s k a0 h0) (fun a0 a1 a2 => expr_Eval.s k a0 a1 a2) (fun a0 a1 a2 => expr_both.s k a0 a1 a2) a0 a1 a2).trans h)
theorem expr_Eval.ok (k : Nat) : ∀ (a0 : T_api_Expr) (a1 : Int) (a2 : (List T_api_Sym)) (r : (Int × Int)), expr_Eval.s k a0 a1 a2 = some r → evalFn Tryd.prog G k 23 [.agg (C_api_Expr a0), .sc (.int .i64 a1), .sl (R_api_Sym a2)] [] = some (expr_Eval_e r) := (expr_Eval_all k)
theorem expr_Eval_mall : ∀ (k : Nat), (∀ (a0 : T_api_Expr) (a1 : Int) (a2 : (List T_api_Sym)), Le (expr_Eval.s k a0 a1 a2) (expr_Eval.s (k + 1) a0 a1 a2))
  | 0 => fun _ _ _ _ h => (nomatch h)
  | k + 1 => by
    have i_expr_Eval := expr_Eval_mall k
    exact fun a0 a1 a2 => expr_Eval_m (expr_bound.mono k) (slices_IndexFunc.mono k) (i_expr_Eval) (expr_both.mono k) a0 a1 a2
theorem expr_Eval.mono (k : Nat) : ∀ (a0 : T_api_Expr) (a1 : Int) (a2 : (List T_api_Sym)), Le (expr_Eval.s k a0 a1 a2) (expr_Eval.s (k + 1) a0 a1 a2) := (expr_Eval_mall k)
noncomputable def expr_Eval (a0 : T_api_Expr) (a1 : Int) (a2 : (List T_api_Sym)) : Option (Int × Int) := lim fun k => expr_Eval.s k a0 a1 a2
theorem expr_Eval.cv (a0 : T_api_Expr) (a1 : Int) (a2 : (List T_api_Sym)) : Cv (fun k => expr_Eval.s k a0 a1 a2) (expr_Eval a0 a1 a2) := .lim fun k => expr_Eval.mono k a0 a1 a2
theorem expr_Eval.eq (a0 : T_api_Expr) (a1 : Int) (a2 : (List T_api_Sym)) : expr_Eval a0 a1 a2 = expr_Eval_b expr_bound slices_IndexFunc expr_Eval expr_both a0 a1 a2 := Cv.uniq (expr_Eval.cv a0 a1 a2).shift (expr_Eval_c expr_bound.cv slices_IndexFunc.cv expr_Eval.cv expr_both.cv a0 a1 a2)
def expr_sign_e (r : ByteArray) : AV × Heap := (.sc (.string r), [])
def expr_sign_b (c_expr_signs : Option (List ByteArray)) (a0 : Int) : Option ByteArray := (bif (decide (a0 < (0 : Int))) then (some s_) else ((c_expr_signs).bind fun (r1 : (List ByteArray)) => (bif (decide (a0 ≥ (((r1.length) : Nat) : Int))) then (some s_) else ((c_expr_signs).bind fun (r2 : (List ByteArray)) => (bif (decide (0 ≤ a0)) then ((r2[(Int.toNat a0)]?).bind fun (e3 : ByteArray) => (some e3)) else none)))))
def expr_sign_t (P : Program) (call : CallF) (c_expr_signs : Option (List ByteArray)) (a0 : Int) : Tr ByteArray (AV × Heap) := (.as (decide (a0 < (0 : Int))) (yesN 4 (decide (a0 < (0 : Int))) (.yes true (rt expr_sign_e s_))) (.no (decide (a0 < (0 : Int))) (.call (call 60 [] []) (c_expr_signs) expr_signs_e fun (r1 : (List ByteArray)) => (.no (decide (a0 < (0 : Int))) (.num ((R_string r1).length) (r1.length) (noN 2 (decide (a0 < (0 : Int))) (.as (decide (a0 ≥ (((r1.length) : Nat) : Int))) (rt expr_sign_e s_) (.call (call 60 [] []) (c_expr_signs) expr_signs_e fun (r2 : (List ByteArray)) => (.as (decide (0 ≤ a0)) (.row ((R_string r2)[(Int.toNat a0)]?) (r2[(Int.toNat a0)]?) C_string fun (e3 : ByteArray) => (rt expr_sign_e e3)) .fail)))))))))
theorem expr_sign_d (P : Program) (call : CallF) (c_expr_signs : Option (List ByteArray)) (a0 : Int) : (expr_sign_t P call c_expr_signs a0).den = expr_sign_b c_expr_signs a0 := rfl
theorem expr_sign_n (call : CallF) (c_expr_signs : Option (List ByteArray)) (a0 : Int) : (expr_sign_t Tryd.prog call c_expr_signs a0).norm (bodyT Tryd.prog call G 45 [.sc (.int .i64 a0)] []) = expr_sign_t Tryd.prog call c_expr_signs a0 := by kernel_rfl
theorem expr_sign_k (P : Program) (call : CallF) (lp : Loops) (c_expr_signs : Option (List ByteArray)) (hc_expr_signs : ∀  (r : (List ByteArray)), c_expr_signs = some r → (call 60 [] []) = some (expr_signs_e r)) (a0 : Int) : (expr_sign_t P call c_expr_signs a0).ok lp expr_sign_e := ⟨rfl, fun h0 => yesN_ok 4 (h0) (⟨rfl, rfl⟩), fun h0 => ⟨h0, fun r1 hr1 => ⟨hc_expr_signs _ hr1, ⟨h0, ⟨(R_string_len _), noN_ok 2 (h0) (⟨rfl, fun h1 => rfl, fun h1 => fun r2 hr2 => ⟨hc_expr_signs _ hr2, ⟨rfl, fun h2 => fun e3 he3 => ⟨R_string_get he3, rfl⟩, fun h2 => trivial⟩⟩⟩)⟩⟩⟩⟩⟩
theorem expr_sign_m {c_expr_signs d_expr_signs : Option (List ByteArray)} (h_expr_signs : Le (c_expr_signs ) (d_expr_signs )) (a0 : Int) : Le (expr_sign_b c_expr_signs a0) (expr_sign_b d_expr_signs a0) := by
  unfold expr_sign_b
  exact .cond (.refl _) (.bind (h_expr_signs) fun r1 => .cond (.refl _) (.bind (h_expr_signs) fun r2 => .refl _))
theorem expr_sign_c {c_expr_signs : Nat → Option (List ByteArray)} {d_expr_signs : Option (List ByteArray)} (h_expr_signs : Cv (fun k => c_expr_signs k ) (d_expr_signs )) (a0 : Int) : Cv (fun k => expr_sign_b (c_expr_signs k) a0) (expr_sign_b d_expr_signs a0) := by
  unfold expr_sign_b
  exact .cond (by exact .const _) (.bind (h_expr_signs) fun r1 => .cond (by exact .const _) (.bind (h_expr_signs) fun r2 => by exact .const _))
def expr_sign.s : Nat → Int → Option ByteArray
  | 0, _ => none
  | k + 1, a0 => expr_sign_b (expr_signs.s k) a0
theorem expr_sign.ok : ∀ (k : Nat), ∀ (a0 : Int) (r : ByteArray), expr_sign.s k a0 = some r → evalFn Tryd.prog G k 45 [.sc (.int .i64 a0)] [] = some (expr_sign_e r)
  | 0, _, _, h => (nomatch h)
  | k + 1, a0, r, h => fn_ok rfl (expr_sign_t Tryd.prog (evalFn Tryd.prog G k) (expr_signs.s k) a0) (expr_sign_n _ (expr_signs.s k) a0) (expr_sign_k _ _ _ (expr_signs.s k) (expr_signs.ok k)  a0) ((expr_sign_d _ _ (expr_signs.s k) a0).trans h)
theorem expr_sign.mono : ∀ (k : Nat) (a0 : Int), Le (expr_sign.s k a0) (expr_sign.s (k + 1) a0)
  | 0, _ => fun r h => (nomatch h)
  | k + 1, a0 => expr_sign_m (expr_signs.mono k) a0
noncomputable def expr_sign (a0 : Int) : Option ByteArray := lim fun k => expr_sign.s k a0
theorem expr_sign.cv (a0 : Int) : Cv (fun k => expr_sign.s k a0) (expr_sign a0) := .lim fun k => expr_sign.mono k a0
theorem expr_sign.eq (a0 : Int) : expr_sign a0 = expr_sign_b expr_signs a0 := Cv.uniq (expr_sign.cv a0).shift (expr_sign_c expr_signs.cv a0)
def strconv_Itoa_e (r : ByteArray) : AV × Heap := (.sc (.string r), [])
def strconv_Itoa.s : Nat → Int → Option ByteArray
  | 0, _ => none
  | _ + 1, a0 => itoaS a0
theorem strconv_Itoa.ok : ∀ (k : Nat), ∀ (a0 : Int) (r : ByteArray), strconv_Itoa.s k a0 = some r → evalFn Tryd.prog G k 46 [.sc (.int .i64 a0)] [] = some (strconv_Itoa_e r)
  | 0, _, _, h => (nomatch h)
  | k + 1, a0, r, h => itoa_ok h
noncomputable def strconv_Itoa (a0 : Int) : Option ByteArray := itoaS a0
theorem strconv_Itoa.mono (k : Nat) (a0 : Int) : Le (strconv_Itoa.s k a0) (strconv_Itoa.s (k + 1) a0) := by
  cases k with
  | zero => exact fun r h => nomatch h
  | succ k => exact Le.refl _
theorem strconv_Itoa.cv (a0 : Int) : Cv (fun k => strconv_Itoa.s k a0) (strconv_Itoa a0) := ⟨fun k => strconv_Itoa.mono k a0, fun r => ⟨fun h => ⟨1, h⟩, fun ⟨k, h⟩ => by
  cases k with
  | zero => cases h
  | succ k => exact h⟩⟩
def expr_part_e (r : ByteArray) : AV × Heap := (.sc (.string r), [])
def expr_Text_e (r : ByteArray) : AV × Heap := (.sc (.string r), [])
def expr_part_b (c_expr_Text : T_api_Expr → Option ByteArray) (a0 : T_api_Expr) : Option ByteArray := (bif ((((a0.L.length) : Nat) : Int) == (2 : Int)) then ((c_expr_Text a0).bind fun (r1 : ByteArray) => (bif (decide (((h_28.size + r1.size : Nat) : Int) ≤ IntKind.i64.max)) then (bif (decide ((((h_28 ++ r1).size + h_29.size : Nat) : Int) ≤ IntKind.i64.max)) then (some ((h_28 ++ r1) ++ h_29)) else none) else none)) else ((c_expr_Text a0).bind fun (r2 : ByteArray) => (some r2)))
def expr_part_t (P : Program) (call : CallF) (c_expr_Text : T_api_Expr → Option ByteArray) (a0 : T_api_Expr) : Tr ByteArray (AV × Heap) := (.num ((R_api_Expr a0.L).length) (a0.L.length) (.as ((((a0.L.length) : Nat) : Int) == (2 : Int)) (.call (call 27 [.agg (C_api_Expr a0)] []) (c_expr_Text a0) expr_Text_e fun (r1 : ByteArray) => (.as (decide (((h_28.size + r1.size : Nat) : Int) ≤ IntKind.i64.max)) (.as (decide ((((h_28 ++ r1).size + h_29.size : Nat) : Int) ≤ IntKind.i64.max)) (rt expr_part_e ((h_28 ++ r1) ++ h_29)) .fail) .fail)) (.call (call 27 [.agg (C_api_Expr a0)] []) (c_expr_Text a0) expr_Text_e fun (r2 : ByteArray) => (rt expr_part_e r2))))
theorem expr_part_d (P : Program) (call : CallF) (c_expr_Text : T_api_Expr → Option ByteArray) (a0 : T_api_Expr) : (expr_part_t P call c_expr_Text a0).den = expr_part_b c_expr_Text a0 := rfl
theorem expr_part_n (call : CallF) (c_expr_Text : T_api_Expr → Option ByteArray) (a0 : T_api_Expr) : (expr_part_t Tryd.prog call c_expr_Text a0).norm (bodyT Tryd.prog call G 44 [.agg (C_api_Expr a0)] []) = expr_part_t Tryd.prog call c_expr_Text a0 := by kernel_rfl
theorem expr_part_k (P : Program) (call : CallF) (lp : Loops) (c_expr_Text : T_api_Expr → Option ByteArray) (hc_expr_Text : ∀ (a0 : T_api_Expr) (r : ByteArray), c_expr_Text a0 = some r → (call 27 [.agg (C_api_Expr a0)] []) = some (expr_Text_e r)) (a0 : T_api_Expr) : (expr_part_t P call c_expr_Text a0).ok lp expr_part_e := ⟨(R_api_Expr_len _), ⟨rfl, fun h0 => fun r1 hr1 => ⟨hc_expr_Text _ _ hr1, ⟨rfl, fun h1 => ⟨rfl, fun h2 => rfl, fun h2 => trivial⟩, fun h1 => trivial⟩⟩, fun h0 => fun r2 hr2 => ⟨hc_expr_Text _ _ hr2, rfl⟩⟩⟩
theorem expr_part_m {c_expr_Text d_expr_Text : T_api_Expr → Option ByteArray} (h_expr_Text : ∀ (a0 : T_api_Expr), Le (c_expr_Text a0) (d_expr_Text a0)) (a0 : T_api_Expr) : Le (expr_part_b c_expr_Text a0) (expr_part_b d_expr_Text a0) := by
  unfold expr_part_b
  exact .cond (.bind (h_expr_Text _) fun r1 => .refl _) (.bind (h_expr_Text _) fun r2 => .refl _)
theorem expr_part_c {c_expr_Text : Nat → T_api_Expr → Option ByteArray} {d_expr_Text : T_api_Expr → Option ByteArray} (h_expr_Text : ∀ (a0 : T_api_Expr), Cv (fun k => c_expr_Text k a0) (d_expr_Text a0)) (a0 : T_api_Expr) : Cv (fun k => expr_part_b (c_expr_Text k) a0) (expr_part_b d_expr_Text a0) := by
  unfold expr_part_b
  exact .cond (.bind (h_expr_Text _) fun r1 => by exact .const _) (.bind (h_expr_Text _) fun r2 => by exact .const _)
def expr_Text_b (c_expr_part : T_api_Expr → Option ByteArray) (c_expr_sign : Int → Option ByteArray) (c_strconv_Itoa : Int → Option ByteArray) (a0 : T_api_Expr) : Option ByteArray := (bif ((((a0.L.length) : Nat) : Int) == (1 : Int)) then ((a0.L[(Int.toNat (0 : Int))]?).bind fun (e1 : T_api_Expr) => ((c_expr_part e1).bind fun (r2 : ByteArray) => (bif (decide (((h_2d.size + r2.size : Nat) : Int) ≤ IntKind.i64.max)) then (some (h_2d ++ r2)) else none))) else (bif ((((a0.L.length) : Nat) : Int) == (2 : Int)) then ((a0.L[(Int.toNat (0 : Int))]?).bind fun (e3 : T_api_Expr) => ((c_expr_part e3).bind fun (r4 : ByteArray) => (bif (decide (((r4.size + h_20.size : Nat) : Int) ≤ IntKind.i64.max)) then ((c_expr_sign a0.Kind).bind fun (r5 : ByteArray) => (bif (decide ((((r4 ++ h_20).size + r5.size : Nat) : Int) ≤ IntKind.i64.max)) then (bif (decide (((((r4 ++ h_20) ++ r5).size + h_20.size : Nat) : Int) ≤ IntKind.i64.max)) then ((a0.L[(Int.toNat (1 : Int))]?).bind fun (e6 : T_api_Expr) => ((c_expr_part e6).bind fun (r7 : ByteArray) => (bif (decide ((((((r4 ++ h_20) ++ r5) ++ h_20).size + r7.size : Nat) : Int) ≤ IntKind.i64.max)) then (some ((((r4 ++ h_20) ++ r5) ++ h_20) ++ r7)) else none))) else none) else none)) else none))) else (bif (a0.Kind == (1 : Int)) then ((c_strconv_Itoa a0.N).bind fun (r8 : ByteArray) => (some r8)) else (bif (a0.Kind == (2 : Int)) then (some a0.Name) else (some h_2e)))))
def expr_Text_t (P : Program) (call : CallF) (c_expr_part : T_api_Expr → Option ByteArray) (c_expr_sign : Int → Option ByteArray) (c_strconv_Itoa : Int → Option ByteArray) (a0 : T_api_Expr) : Tr ByteArray (AV × Heap) := (.num ((R_api_Expr a0.L).length) (a0.L.length) (.as ((((a0.L.length) : Nat) : Int) == (1 : Int)) (.yes (decide (0 ≤ (0 : Int))) (.row ((R_api_Expr a0.L)[(Int.toNat (0 : Int))]?) (a0.L[(Int.toNat (0 : Int))]?) C_api_Expr fun (e1 : T_api_Expr) => (.call (call 44 [.agg (C_api_Expr e1)] []) (c_expr_part e1) expr_part_e fun (r2 : ByteArray) => (.as (decide (((h_2d.size + r2.size : Nat) : Int) ≤ IntKind.i64.max)) (rt expr_Text_e (h_2d ++ r2)) .fail)))) (.as ((((a0.L.length) : Nat) : Int) == (2 : Int)) (.yes (decide (0 ≤ (0 : Int))) (.row ((R_api_Expr a0.L)[(Int.toNat (0 : Int))]?) (a0.L[(Int.toNat (0 : Int))]?) C_api_Expr fun (e3 : T_api_Expr) => (.call (call 44 [.agg (C_api_Expr e3)] []) (c_expr_part e3) expr_part_e fun (r4 : ByteArray) => (.as (decide (((r4.size + h_20.size : Nat) : Int) ≤ IntKind.i64.max)) (.call (call 45 [.sc (.int .i64 a0.Kind)] []) (c_expr_sign a0.Kind) expr_sign_e fun (r5 : ByteArray) => (.as (decide ((((r4 ++ h_20).size + r5.size : Nat) : Int) ≤ IntKind.i64.max)) (.as (decide (((((r4 ++ h_20) ++ r5).size + h_20.size : Nat) : Int) ≤ IntKind.i64.max)) (.yes (decide (0 ≤ (1 : Int))) (.row ((R_api_Expr a0.L)[(Int.toNat (1 : Int))]?) (a0.L[(Int.toNat (1 : Int))]?) C_api_Expr fun (e6 : T_api_Expr) => (.call (call 44 [.agg (C_api_Expr e6)] []) (c_expr_part e6) expr_part_e fun (r7 : ByteArray) => (.as (decide ((((((r4 ++ h_20) ++ r5) ++ h_20).size + r7.size : Nat) : Int) ≤ IntKind.i64.max)) (rt expr_Text_e ((((r4 ++ h_20) ++ r5) ++ h_20) ++ r7)) .fail)))) .fail) .fail)) .fail)))) (.as (a0.Kind == (1 : Int)) (.call (call 46 [.sc (.int .i64 a0.N)] []) (c_strconv_Itoa a0.N) strconv_Itoa_e fun (r8 : ByteArray) => (rt expr_Text_e r8)) (.as (a0.Kind == (2 : Int)) (rt expr_Text_e a0.Name) (rt expr_Text_e h_2e))))))
theorem expr_Text_d (P : Program) (call : CallF) (c_expr_part : T_api_Expr → Option ByteArray) (c_expr_sign : Int → Option ByteArray) (c_strconv_Itoa : Int → Option ByteArray) (a0 : T_api_Expr) : (expr_Text_t P call c_expr_part c_expr_sign c_strconv_Itoa a0).den = expr_Text_b c_expr_part c_expr_sign c_strconv_Itoa a0 := rfl
theorem expr_Text_n (call : CallF) (c_expr_part : T_api_Expr → Option ByteArray) (c_expr_sign : Int → Option ByteArray) (c_strconv_Itoa : Int → Option ByteArray) (a0 : T_api_Expr) : (expr_Text_t Tryd.prog call c_expr_part c_expr_sign c_strconv_Itoa a0).norm (bodyT Tryd.prog call G 27 [.agg (C_api_Expr a0)] []) = expr_Text_t Tryd.prog call c_expr_part c_expr_sign c_strconv_Itoa a0 := by kernel_rfl
theorem expr_Text_k (P : Program) (call : CallF) (lp : Loops) (c_expr_part : T_api_Expr → Option ByteArray) (c_expr_sign : Int → Option ByteArray) (c_strconv_Itoa : Int → Option ByteArray) (hc_expr_part : ∀ (a0 : T_api_Expr) (r : ByteArray), c_expr_part a0 = some r → (call 44 [.agg (C_api_Expr a0)] []) = some (expr_part_e r)) (hc_expr_sign : ∀ (a0 : Int) (r : ByteArray), c_expr_sign a0 = some r → (call 45 [.sc (.int .i64 a0)] []) = some (expr_sign_e r)) (hc_strconv_Itoa : ∀ (a0 : Int) (r : ByteArray), c_strconv_Itoa a0 = some r → (call 46 [.sc (.int .i64 a0)] []) = some (strconv_Itoa_e r)) (a0 : T_api_Expr) : (expr_Text_t P call c_expr_part c_expr_sign c_strconv_Itoa a0).ok lp expr_Text_e := ⟨(R_api_Expr_len _), ⟨rfl, fun h0 => ⟨rfl, fun e1 he1 => ⟨R_api_Expr_get he1, fun r2 hr2 => ⟨hc_expr_part _ _ hr2, ⟨rfl, fun h1 => rfl, fun h1 => trivial⟩⟩⟩⟩, fun h0 => ⟨rfl, fun h1 => ⟨rfl, fun e3 he3 => ⟨R_api_Expr_get he3, fun r4 hr4 => ⟨hc_expr_part _ _ hr4, ⟨rfl, fun h2 => fun r5 hr5 => ⟨hc_expr_sign _ _ hr5, ⟨rfl, fun h3 => ⟨rfl, fun h4 => ⟨rfl, fun e6 he6 => ⟨R_api_Expr_get he6, fun r7 hr7 => ⟨hc_expr_part _ _ hr7, ⟨rfl, fun h5 => rfl, fun h5 => trivial⟩⟩⟩⟩, fun h4 => trivial⟩, fun h3 => trivial⟩⟩, fun h2 => trivial⟩⟩⟩⟩, fun h1 => ⟨rfl, fun h2 => fun r8 hr8 => ⟨hc_strconv_Itoa _ _ hr8, rfl⟩, fun h2 => ⟨rfl, fun h3 => rfl, fun h3 => rfl⟩⟩⟩⟩⟩
theorem expr_Text_m {c_expr_part d_expr_part : T_api_Expr → Option ByteArray} (h_expr_part : ∀ (a0 : T_api_Expr), Le (c_expr_part a0) (d_expr_part a0)) {c_expr_sign d_expr_sign : Int → Option ByteArray} (h_expr_sign : ∀ (a0 : Int), Le (c_expr_sign a0) (d_expr_sign a0)) {c_strconv_Itoa d_strconv_Itoa : Int → Option ByteArray} (h_strconv_Itoa : ∀ (a0 : Int), Le (c_strconv_Itoa a0) (d_strconv_Itoa a0)) (a0 : T_api_Expr) : Le (expr_Text_b c_expr_part c_expr_sign c_strconv_Itoa a0) (expr_Text_b d_expr_part d_expr_sign d_strconv_Itoa a0) := by
  unfold expr_Text_b
  exact .cond (.bind (.refl (a0.L[(Int.toNat (0 : Int))]?)) fun e1 => .bind (h_expr_part _) fun r2 => .refl _) (.cond (.bind (.refl (a0.L[(Int.toNat (0 : Int))]?)) fun e3 => .bind (h_expr_part _) fun r4 => .cond (.bind (h_expr_sign _) fun r5 => .cond (.cond (.bind (.refl (a0.L[(Int.toNat (1 : Int))]?)) fun e6 => .bind (h_expr_part _) fun r7 => .refl _) (.refl _)) (.refl _)) (.refl _)) (.cond (.bind (h_strconv_Itoa _) fun r8 => .refl _) (.refl _)))
theorem expr_Text_c {c_expr_part : Nat → T_api_Expr → Option ByteArray} {d_expr_part : T_api_Expr → Option ByteArray} (h_expr_part : ∀ (a0 : T_api_Expr), Cv (fun k => c_expr_part k a0) (d_expr_part a0)) {c_expr_sign : Nat → Int → Option ByteArray} {d_expr_sign : Int → Option ByteArray} (h_expr_sign : ∀ (a0 : Int), Cv (fun k => c_expr_sign k a0) (d_expr_sign a0)) {c_strconv_Itoa : Nat → Int → Option ByteArray} {d_strconv_Itoa : Int → Option ByteArray} (h_strconv_Itoa : ∀ (a0 : Int), Cv (fun k => c_strconv_Itoa k a0) (d_strconv_Itoa a0)) (a0 : T_api_Expr) : Cv (fun k => expr_Text_b (c_expr_part k) (c_expr_sign k) (c_strconv_Itoa k) a0) (expr_Text_b d_expr_part d_expr_sign d_strconv_Itoa a0) := by
  unfold expr_Text_b
  exact .cond (.bind (.const (a0.L[(Int.toNat (0 : Int))]?)) fun e1 => .bind (h_expr_part _) fun r2 => by exact .const _) (.cond (.bind (.const (a0.L[(Int.toNat (0 : Int))]?)) fun e3 => .bind (h_expr_part _) fun r4 => .cond (.bind (h_expr_sign _) fun r5 => .cond (.cond (.bind (.const (a0.L[(Int.toNat (1 : Int))]?)) fun e6 => .bind (h_expr_part _) fun r7 => by exact .const _) (by exact .const _)) (by exact .const _)) (by exact .const _)) (.cond (.bind (h_strconv_Itoa _) fun r8 => by exact .const _) (by exact .const _)))
mutual
def expr_part.s : Nat → T_api_Expr → Option ByteArray
  | 0, _ => none
  | k + 1, a0 => expr_part_b (fun a0 => expr_Text.s k a0) a0
termination_by structural k => k
def expr_Text.s : Nat → T_api_Expr → Option ByteArray
  | 0, _ => none
  | k + 1, a0 => expr_Text_b (fun a0 => expr_part.s k a0) (fun a0 => expr_sign.s k a0) (fun a0 => strconv_Itoa.s k a0) a0
termination_by structural k => k
end
theorem expr_part_all : ∀ (k : Nat), (∀ (a0 : T_api_Expr) (r : ByteArray), expr_part.s k a0 = some r → evalFn Tryd.prog G k 44 [.agg (C_api_Expr a0)] [] = some (expr_part_e r)) ∧ (∀ (a0 : T_api_Expr) (r : ByteArray), expr_Text.s k a0 = some r → evalFn Tryd.prog G k 27 [.agg (C_api_Expr a0)] [] = some (expr_Text_e r))
  | 0 => ⟨fun _ _ h => (nomatch h), fun _ _ h => (nomatch h)⟩
  | k + 1 => by
    obtain ⟨i_expr_part, i_expr_Text⟩ := expr_part_all k
    exact ⟨fun a0 r h => fn_ok rfl (expr_part_t Tryd.prog (evalFn Tryd.prog G k) (fun a0 => expr_Text.s k a0) a0) (expr_part_n _ (fun a0 => expr_Text.s k a0) a0) (expr_part_k _ _ _ (fun a0 => expr_Text.s k a0) (i_expr_Text)  a0) ((expr_part_d _ _ (fun a0 => expr_Text.s k a0) a0).trans h),
      fun a0 r h => fn_ok rfl (expr_Text_t Tryd.prog (evalFn Tryd.prog G k) (fun a0 => expr_part.s k a0) (fun a0 => expr_sign.s k a0) (fun a0 => strconv_Itoa.s k a0) a0) (expr_Text_n _ (fun a0 => expr_part.s k a0) (fun a0 => expr_sign.s k a0) (fun a0 => strconv_Itoa.s k a0) a0) (expr_Text_k _ _ _ (fun a0 => expr_part.s k a0) (fun a0 => expr_sign.s k a0) (fun a0 => strconv_Itoa.s k a0) (i_expr_part) (expr_sign.ok k) (strconv_Itoa.ok k)  a0) ((expr_Text_d _ _ (fun a0 => expr_part.s k a0) (fun a0 => expr_sign.s k a0) (fun a0 => strconv_Itoa.s k a0) a0).trans h)⟩
theorem expr_part.ok (k : Nat) : ∀ (a0 : T_api_Expr) (r : ByteArray), expr_part.s k a0 = some r → evalFn Tryd.prog G k 44 [.agg (C_api_Expr a0)] [] = some (expr_part_e r) := (expr_part_all k).1
theorem expr_Text.ok (k : Nat) : ∀ (a0 : T_api_Expr) (r : ByteArray), expr_Text.s k a0 = some r → evalFn Tryd.prog G k 27 [.agg (C_api_Expr a0)] [] = some (expr_Text_e r) := (expr_part_all k).2
theorem expr_part_mall : ∀ (k : Nat), (∀ (a0 : T_api_Expr), Le (expr_part.s k a0) (expr_part.s (k + 1) a0)) ∧ (∀ (a0 : T_api_Expr), Le (expr_Text.s k a0) (expr_Text.s (k + 1) a0))
  | 0 => ⟨fun _ _ h => (nomatch h), fun _ _ h => (nomatch h)⟩
  | k + 1 => by
    obtain ⟨i_expr_part, i_expr_Text⟩ := expr_part_mall k
    exact ⟨fun a0 => expr_part_m (i_expr_Text) a0,
      fun a0 => expr_Text_m (i_expr_part) (expr_sign.mono k) (strconv_Itoa.mono k) a0⟩
theorem expr_part.mono (k : Nat) : ∀ (a0 : T_api_Expr), Le (expr_part.s k a0) (expr_part.s (k + 1) a0) := (expr_part_mall k).1
theorem expr_Text.mono (k : Nat) : ∀ (a0 : T_api_Expr), Le (expr_Text.s k a0) (expr_Text.s (k + 1) a0) := (expr_part_mall k).2
noncomputable def expr_part (a0 : T_api_Expr) : Option ByteArray := lim fun k => expr_part.s k a0
theorem expr_part.cv (a0 : T_api_Expr) : Cv (fun k => expr_part.s k a0) (expr_part a0) := .lim fun k => expr_part.mono k a0
noncomputable def expr_Text (a0 : T_api_Expr) : Option ByteArray := lim fun k => expr_Text.s k a0
theorem expr_Text.cv (a0 : T_api_Expr) : Cv (fun k => expr_Text.s k a0) (expr_Text a0) := .lim fun k => expr_Text.mono k a0
theorem expr_part.eq (a0 : T_api_Expr) : expr_part a0 = expr_part_b expr_Text a0 := Cv.uniq (expr_part.cv a0).shift (expr_part_c expr_Text.cv a0)
theorem expr_Text.eq (a0 : T_api_Expr) : expr_Text a0 = expr_Text_b expr_part expr_sign strconv_Itoa a0 := Cv.uniq (expr_Text.cv a0).shift (expr_Text_c expr_part.cv expr_sign.cv strconv_Itoa.cv a0)
def w3_known_e (r : Bool) : AV × Heap := (.sc (.bool r), [])
def w3_known_b (c_expr_Parse : ByteArray → Option (T_api_Expr × Bool)) (c_expr_Eval : T_api_Expr → Int → (List T_api_Sym) → Option (Int × Int)) (c_expr_Text : T_api_Expr → Option ByteArray)  : Option Bool := ((c_expr_Parse s_).bind fun (r1 : (T_api_Expr × Bool)) => ((c_expr_Parse h_31202b20322a78).bind fun (r2 : (T_api_Expr × Bool)) => ((c_expr_Eval r2.1 (0 : Int) [(T_api_Sym.mk s_x (5 : Int))]).bind fun (r3 : (Int × Int)) => (bif (!r1.2) then (bif r2.2 then (bif (r3.2 == (0 : Int)) then (bif (r3.1 == (11 : Int)) then ((c_expr_Text r2.1).bind fun (r4 : ByteArray) => (some (eqS r4 h_31202b202832202a207829))) else (some false)) else (some false)) else (some false)) else (some false)))))
def w3_known_t (P : Program) (call : CallF) (c_expr_Parse : ByteArray → Option (T_api_Expr × Bool)) (c_expr_Eval : T_api_Expr → Int → (List T_api_Sym) → Option (Int × Int)) (c_expr_Text : T_api_Expr → Option ByteArray)  : Tr Bool (AV × Heap) := (.call (call 19 [.sc (.string s_)] []) (c_expr_Parse s_) expr_Parse_e fun (r1 : (T_api_Expr × Bool)) => (.call (call 19 [.sc (.string h_31202b20322a78)] []) (c_expr_Parse h_31202b20322a78) expr_Parse_e fun (r2 : (T_api_Expr × Bool)) => (.rows [[.sc (.string s_x), .sc (.int .i64 (5 : Int))]] (R_api_Sym [(T_api_Sym.mk s_x (5 : Int))]) (.call (call 23 [.agg (C_api_Expr r2.1), .sc (.int .i64 (0 : Int)), .sl (R_api_Sym [(T_api_Sym.mk s_x (5 : Int))])] []) (c_expr_Eval r2.1 (0 : Int) [(T_api_Sym.mk s_x (5 : Int))]) expr_Eval_e fun (r3 : (Int × Int)) => (.as (!r1.2) (.yes (!r1.2) (.as r2.2 (yesN 2 r2.2 (.as (r3.2 == (0 : Int)) (yesN 2 (r3.2 == (0 : Int)) (.as (r3.1 == (11 : Int)) (.yes (r3.1 == (11 : Int)) (.call (call 27 [.agg (C_api_Expr r2.1)] []) (c_expr_Text r2.1) expr_Text_e fun (r4 : ByteArray) => (yesN 2 (r3.1 == (11 : Int)) (rt w3_known_e (eqS r4 h_31202b202832202a207829))))) (noN 3 (r3.1 == (11 : Int)) (rt w3_known_e false)))) (noN 2 (r3.2 == (0 : Int)) (noN 4 false (rt w3_known_e false))))) (noN 2 r2.2 (noN 7 false (rt w3_known_e false))))) (.no (!r1.2) (noN 10 false (rt w3_known_e false))))))))
theorem w3_known_d (P : Program) (call : CallF) (c_expr_Parse : ByteArray → Option (T_api_Expr × Bool)) (c_expr_Eval : T_api_Expr → Int → (List T_api_Sym) → Option (Int × Int)) (c_expr_Text : T_api_Expr → Option ByteArray)  : (w3_known_t P call c_expr_Parse c_expr_Eval c_expr_Text ).den = w3_known_b c_expr_Parse c_expr_Eval c_expr_Text  := rfl
theorem w3_known_n (call : CallF) (c_expr_Parse : ByteArray → Option (T_api_Expr × Bool)) (c_expr_Eval : T_api_Expr → Int → (List T_api_Sym) → Option (Int × Int)) (c_expr_Text : T_api_Expr → Option ByteArray)  : (w3_known_t Tryd.prog call c_expr_Parse c_expr_Eval c_expr_Text ).norm (bodyT Tryd.prog call G 14 [] []) = w3_known_t Tryd.prog call c_expr_Parse c_expr_Eval c_expr_Text  := by kernel_rfl
theorem w3_known_k (P : Program) (call : CallF) (lp : Loops) (c_expr_Parse : ByteArray → Option (T_api_Expr × Bool)) (c_expr_Eval : T_api_Expr → Int → (List T_api_Sym) → Option (Int × Int)) (c_expr_Text : T_api_Expr → Option ByteArray) (hc_expr_Parse : ∀ (a0 : ByteArray) (r : (T_api_Expr × Bool)), c_expr_Parse a0 = some r → (call 19 [.sc (.string a0)] []) = some (expr_Parse_e r)) (hc_expr_Eval : ∀ (a0 : T_api_Expr) (a1 : Int) (a2 : (List T_api_Sym)) (r : (Int × Int)), c_expr_Eval a0 a1 a2 = some r → (call 23 [.agg (C_api_Expr a0), .sc (.int .i64 a1), .sl (R_api_Sym a2)] []) = some (expr_Eval_e r)) (hc_expr_Text : ∀ (a0 : T_api_Expr) (r : ByteArray), c_expr_Text a0 = some r → (call 27 [.agg (C_api_Expr a0)] []) = some (expr_Text_e r))  : (w3_known_t P call c_expr_Parse c_expr_Eval c_expr_Text ).ok lp w3_known_e := fun r1 hr1 => ⟨hc_expr_Parse _ _ hr1, fun r2 hr2 => ⟨hc_expr_Parse _ _ hr2, ⟨(R_api_Sym_map [(T_api_Sym.mk s_x (5 : Int))]), fun r3 hr3 => ⟨hc_expr_Eval _ _ _ _ hr3, ⟨rfl, fun h0 => ⟨h0, ⟨rfl, fun h1 => yesN_ok 2 (h1) (⟨rfl, fun h2 => yesN_ok 2 (h2) (⟨rfl, fun h3 => ⟨h3, fun r4 hr4 => ⟨hc_expr_Text _ _ hr4, yesN_ok 2 (h3) (rfl)⟩⟩, fun h3 => noN_ok 3 (h3) (rfl)⟩), fun h2 => noN_ok 2 (h2) (noN_ok 4 (rfl) (rfl))⟩), fun h1 => noN_ok 2 (h1) (noN_ok 7 (rfl) (rfl))⟩⟩, fun h0 => ⟨h0, noN_ok 10 (rfl) (rfl)⟩⟩⟩⟩⟩⟩
theorem w3_known_m {c_expr_Parse d_expr_Parse : ByteArray → Option (T_api_Expr × Bool)} (h_expr_Parse : ∀ (a0 : ByteArray), Le (c_expr_Parse a0) (d_expr_Parse a0)) {c_expr_Eval d_expr_Eval : T_api_Expr → Int → (List T_api_Sym) → Option (Int × Int)} (h_expr_Eval : ∀ (a0 : T_api_Expr) (a1 : Int) (a2 : (List T_api_Sym)), Le (c_expr_Eval a0 a1 a2) (d_expr_Eval a0 a1 a2)) {c_expr_Text d_expr_Text : T_api_Expr → Option ByteArray} (h_expr_Text : ∀ (a0 : T_api_Expr), Le (c_expr_Text a0) (d_expr_Text a0))  : Le (w3_known_b c_expr_Parse c_expr_Eval c_expr_Text ) (w3_known_b d_expr_Parse d_expr_Eval d_expr_Text ) := by
  unfold w3_known_b
  exact .bind (h_expr_Parse _) fun r1 => .bind (h_expr_Parse _) fun r2 => .bind (h_expr_Eval _ _ _) fun r3 => .cond (.cond (.cond (.cond (.bind (h_expr_Text _) fun r4 => .refl _) (.refl _)) (.refl _)) (.refl _)) (.refl _)
theorem w3_known_c {c_expr_Parse : Nat → ByteArray → Option (T_api_Expr × Bool)} {d_expr_Parse : ByteArray → Option (T_api_Expr × Bool)} (h_expr_Parse : ∀ (a0 : ByteArray), Cv (fun k => c_expr_Parse k a0) (d_expr_Parse a0)) {c_expr_Eval : Nat → T_api_Expr → Int → (List T_api_Sym) → Option (Int × Int)} {d_expr_Eval : T_api_Expr → Int → (List T_api_Sym) → Option (Int × Int)} (h_expr_Eval : ∀ (a0 : T_api_Expr) (a1 : Int) (a2 : (List T_api_Sym)), Cv (fun k => c_expr_Eval k a0 a1 a2) (d_expr_Eval a0 a1 a2)) {c_expr_Text : Nat → T_api_Expr → Option ByteArray} {d_expr_Text : T_api_Expr → Option ByteArray} (h_expr_Text : ∀ (a0 : T_api_Expr), Cv (fun k => c_expr_Text k a0) (d_expr_Text a0))  : Cv (fun k => w3_known_b (c_expr_Parse k) (c_expr_Eval k) (c_expr_Text k) ) (w3_known_b d_expr_Parse d_expr_Eval d_expr_Text ) := by
  unfold w3_known_b
  exact .bind (h_expr_Parse _) fun r1 => .bind (h_expr_Parse _) fun r2 => .bind (h_expr_Eval _ _ _) fun r3 => .cond (.cond (.cond (.cond (.bind (h_expr_Text _) fun r4 => by exact .const _) (by exact .const _)) (by exact .const _)) (by exact .const _)) (by exact .const _)
def w3_known.s : Nat → Option Bool
  | 0 => none
  | k + 1 => w3_known_b (fun a0 => expr_Parse.s k a0) (fun a0 a1 a2 => expr_Eval.s k a0 a1 a2) (fun a0 => expr_Text.s k a0) 
theorem w3_known.ok : ∀ (k : Nat), ∀  (r : Bool), w3_known.s k  = some r → evalFn Tryd.prog G k 14 [] [] = some (w3_known_e r)
  | 0, _, h => (nomatch h)
  | k + 1, r, h => fn_ok rfl (w3_known_t Tryd.prog (evalFn Tryd.prog G k) (fun a0 => expr_Parse.s k a0) (fun a0 a1 a2 => expr_Eval.s k a0 a1 a2) (fun a0 => expr_Text.s k a0) ) (w3_known_n _ (fun a0 => expr_Parse.s k a0) (fun a0 a1 a2 => expr_Eval.s k a0 a1 a2) (fun a0 => expr_Text.s k a0) ) (w3_known_k _ _ _ (fun a0 => expr_Parse.s k a0) (fun a0 a1 a2 => expr_Eval.s k a0 a1 a2) (fun a0 => expr_Text.s k a0) (expr_Parse.ok k) (expr_Eval.ok k) (expr_Text.ok k)  ) ((w3_known_d _ _ (fun a0 => expr_Parse.s k a0) (fun a0 a1 a2 => expr_Eval.s k a0 a1 a2) (fun a0 => expr_Text.s k a0) ).trans h)
theorem w3_known.mono : ∀ (k : Nat), Le (w3_known.s k ) (w3_known.s (k + 1) )
  | 0 => fun r h => (nomatch h)
  | k + 1 => w3_known_m (expr_Parse.mono k) (expr_Eval.mono k) (expr_Text.mono k) 
noncomputable def w3_known  : Option Bool := lim fun k => w3_known.s k 
theorem w3_known.cv  : Cv (fun k => w3_known.s k ) (w3_known ) := .lim fun k => w3_known.mono k 
theorem w3_known.eq  : w3_known  = w3_known_b expr_Parse expr_Eval expr_Text  := Cv.uniq (w3_known.cv ).shift (w3_known_c expr_Parse.cv expr_Eval.cv expr_Text.cv )
def w3_size_e (r : Int) : AV × Heap := (.sc (.int .i64 r), [])
structure w3_size_L1_A where
  x0 : (List T_w3_Raw)
  x1 : Int
  x5 : Int
  x6 : Int
def w3_size_L1_s (a : w3_size_L1_A) : St := { n := 31, nx := 0, env := [(0, .sl (R_w3_Raw a.x0)), (1, .sc (.int .i64 a.x1)), (5, .sc (.int .i64 a.x5)), (6, .sc (.int .i64 a.x6))], heap := [] }
def w3_size_L1_e (a : Int) : Ex × St := (.exit 0, { n := 31, nx := 0, env := [(5, .sc (.int .i64 a))], heap := [] })
def w3_size_L1_b (c_w3_size : (List T_w3_Raw) → Int → Option Int) (a : w3_size_L1_A) : Option (w3_size_L1_A ⊕ Int) := (bif (decide (a.x6 < (((a.x0.length) : Nat) : Int))) then (bif (decide (a.x5 ≤ (16 : Int))) then (bif (decide (0 ≤ a.x6)) then ((a.x0[(Int.toNat a.x6)]?).bind fun (e1 : T_w3_Raw) => ((c_w3_size e1.L (w64 (a.x1 + (1 : Int)))).bind fun (r2 : Int) => (some (.inl (w3_size_L1_A.mk a.x0 a.x1 (w64 ((w64 (a.x5 + (1 : Int))) + r2)) (w64 (a.x6 + (1 : Int)))))))) else none) else (some (.inr a.x5))) else (some (.inr a.x5)))
def w3_size_L1_t (P : Program) (call : CallF) (c_w3_size : (List T_w3_Raw) → Int → Option Int) (a : w3_size_L1_A) : Tr (w3_size_L1_A ⊕ Int) (Ex × St) := (.num ((R_w3_Raw a.x0).length) (a.x0.length) (.as (decide (a.x6 < (((a.x0.length) : Nat) : Int))) (yesN 2 (decide (a.x6 < (((a.x0.length) : Nat) : Int))) (.as (decide (a.x5 ≤ (16 : Int))) (.as (decide (0 ≤ a.x6)) (.row ((R_w3_Raw a.x0)[(Int.toNat a.x6)]?) (a.x0[(Int.toNat a.x6)]?) C_w3_Raw fun (e1 : T_w3_Raw) => (.call (call 30 [.sl (R_w3_Raw e1.L), .sc (.int .i64 (w64 (a.x1 + (1 : Int))))] []) (c_w3_size e1.L (w64 (a.x1 + (1 : Int)))) w3_size_e fun (r2 : Int) => (lf w3_size_L1_s (w3_size_L1_A.mk a.x0 a.x1 (w64 ((w64 (a.x5 + (1 : Int))) + r2)) (w64 (a.x6 + (1 : Int))))))) .fail) (rx w3_size_L1_e a.x5))) (noN 2 (decide (a.x6 < (((a.x0.length) : Nat) : Int))) (.no false (rx w3_size_L1_e a.x5)))))
theorem w3_size_L1_d (P : Program) (call : CallF) (c_w3_size : (List T_w3_Raw) → Int → Option Int) (a : w3_size_L1_A) : (w3_size_L1_t P call c_w3_size a).den = w3_size_L1_b c_w3_size a := rfl
theorem w3_size_L1_n (call : CallF) (c_w3_size : (List T_w3_Raw) → Int → Option Int) (a : w3_size_L1_A) : (w3_size_L1_t Tryd.prog call c_w3_size a).norm (roundT Tryd.prog G.kd call 0 (G.an 30) (loopAt Tryd.prog 30 5) (w3_size_L1_s a)) = w3_size_L1_t Tryd.prog call c_w3_size a := by kernel_rfl
theorem w3_size_L1_k (P : Program) (call : CallF) (lp : Loops) (c_w3_size : (List T_w3_Raw) → Int → Option Int) (hc_w3_size : ∀ (a0 : (List T_w3_Raw)) (a1 : Int) (r : Int), c_w3_size a0 a1 = some r → (call 30 [.sl (R_w3_Raw a0), .sc (.int .i64 a1)] []) = some (w3_size_e r)) (a : w3_size_L1_A) : (w3_size_L1_t P call c_w3_size a).ok lp (Sum.elim (fun a => (.norm, w3_size_L1_s a)) w3_size_L1_e) := ⟨(R_w3_Raw_len _), ⟨rfl, fun h0 => yesN_ok 2 (h0) (⟨rfl, fun h1 => ⟨rfl, fun h2 => fun e1 he1 => ⟨R_w3_Raw_get he1, fun r2 hr2 => ⟨hc_w3_size _ _ _ hr2, rfl⟩⟩, fun h2 => trivial⟩, fun h1 => rfl⟩), fun h0 => noN_ok 2 (h0) (⟨rfl, rfl⟩)⟩⟩
theorem w3_size_L1_m {c_w3_size d_w3_size : (List T_w3_Raw) → Int → Option Int} (h_w3_size : ∀ (a0 : (List T_w3_Raw)) (a1 : Int), Le (c_w3_size a0 a1) (d_w3_size a0 a1)) (a : w3_size_L1_A) : Le (w3_size_L1_b c_w3_size a) (w3_size_L1_b d_w3_size a) := by
  unfold w3_size_L1_b
  exact .cond (.cond (.cond (.bind (.refl (a.x0[(Int.toNat a.x6)]?)) fun e1 => .bind (h_w3_size _ _) fun r2 => .refl _) (.refl _)) (.refl _)) (.refl _)
theorem w3_size_L1_c {c_w3_size : Nat → (List T_w3_Raw) → Int → Option Int} {d_w3_size : (List T_w3_Raw) → Int → Option Int} (h_w3_size : ∀ (a0 : (List T_w3_Raw)) (a1 : Int), Cv (fun k => c_w3_size k a0 a1) (d_w3_size a0 a1)) (a : w3_size_L1_A) : Cv (fun k => w3_size_L1_b (c_w3_size k) a) (w3_size_L1_b d_w3_size a) := by
  unfold w3_size_L1_b
  exact .cond (.cond (.cond (.bind (.const (a.x0[(Int.toNat a.x6)]?)) fun e1 => .bind (h_w3_size _ _) fun r2 => by exact .const _) (by exact .const _)) (by exact .const _)) (by exact .const _)
def w3_size_L1.s (k : Nat) (c_w3_size : (List T_w3_Raw) → Int → Option Int) : w3_size_L1_A → Option Int := iter (w3_size_L1_b c_w3_size) k
theorem w3_size_L1_ok (call : CallF) (k : Nat) (c_w3_size : (List T_w3_Raw) → Int → Option Int) (hc_w3_size : ∀ (a0 : (List T_w3_Raw)) (a1 : Int) (r : Int), c_w3_size a0 a1 = some r → (call 30 [.sl (R_w3_Raw a0), .sc (.int .i64 a1)] []) = some (w3_size_e r)) (a : w3_size_L1_A) (r : Int) (h : w3_size_L1.s k c_w3_size a = some r) : loopsF Tryd.prog G.kd call 0 (G.an 30) k (loopAt Tryd.prog 30 5) (w3_size_L1_s a) = some (w3_size_L1_e r) :=
  loop_ok (fun a => w3_size_L1_t Tryd.prog call c_w3_size a) (fun a => w3_size_L1_d _ call c_w3_size a) (fun a => w3_size_L1_n call c_w3_size a) (fun a => w3_size_L1_k _ call _ c_w3_size hc_w3_size a) (fun r => nofun) h
theorem w3_size_L1.m {j k : Nat} (hj : j ≤ k) (c_w3_size : (List T_w3_Raw) → Int → Option Int) (d_w3_size : (List T_w3_Raw) → Int → Option Int) (h_w3_size : ∀ (a0 : (List T_w3_Raw)) (a1 : Int), Le (c_w3_size a0 a1) (d_w3_size a0 a1)) (a : w3_size_L1_A) : Le (w3_size_L1.s j c_w3_size a) (w3_size_L1.s k d_w3_size a) := Le.iter (fun a => w3_size_L1_m h_w3_size a) hj a
noncomputable def w3_size_L1.w (c_w3_size : (List T_w3_Raw) → Int → Option Int) : w3_size_L1_A → Option Int := loopW (w3_size_L1_b c_w3_size)
theorem w3_size_L1.cv (c_w3_size : Nat → (List T_w3_Raw) → Int → Option Int) (d_w3_size : (List T_w3_Raw) → Int → Option Int) (h_w3_size : ∀ (a0 : (List T_w3_Raw)) (a1 : Int), Cv (fun k => c_w3_size k a0 a1) (d_w3_size a0 a1)) (a : w3_size_L1_A) : Cv (fun k => w3_size_L1.s k (c_w3_size k) a) (w3_size_L1.w d_w3_size a) := Cv.iter (fun a => w3_size_L1_c h_w3_size a) a
def w3_size_b (l_w3_size_L1 : w3_size_L1_A → Option Int) (a0 : (List T_w3_Raw)) (a1 : Int) : Option Int := (bif (decide (a1 > (7 : Int))) then (some (1000 : Int)) else ((l_w3_size_L1 (w3_size_L1_A.mk a0 a1 (0 : Int) (0 : Int))).bind (fun (o1 : Int) => (some o1))))
def w3_size_t (P : Program) (call : CallF) (l_w3_size_L1 : w3_size_L1_A → Option Int) (a0 : (List T_w3_Raw)) (a1 : Int) : Tr Int (AV × Heap) := (.as (decide (a1 > (7 : Int))) (rt w3_size_e (1000 : Int)) (.loop (loopAt P 30 5) (w3_size_L1_s (w3_size_L1_A.mk a0 a1 (0 : Int) (0 : Int))) (l_w3_size_L1 (w3_size_L1_A.mk a0 a1 (0 : Int) (0 : Int))) w3_size_L1_e (fun (o1 : Int) => (rt w3_size_e o1))))
theorem w3_size_d (P : Program) (call : CallF) (l_w3_size_L1 : w3_size_L1_A → Option Int) (a0 : (List T_w3_Raw)) (a1 : Int) : (w3_size_t P call l_w3_size_L1 a0 a1).den = w3_size_b l_w3_size_L1 a0 a1 := rfl
theorem w3_size_n (call : CallF) (l_w3_size_L1 : w3_size_L1_A → Option Int) (a0 : (List T_w3_Raw)) (a1 : Int) : (w3_size_t Tryd.prog call l_w3_size_L1 a0 a1).norm (bodyT Tryd.prog call G 30 [.sl (R_w3_Raw a0), .sc (.int .i64 a1)] []) = w3_size_t Tryd.prog call l_w3_size_L1 a0 a1 := by kernel_rfl
theorem w3_size_k (P : Program) (call : CallF) (lp : Loops) (l_w3_size_L1 : w3_size_L1_A → Option Int) (hl_w3_size_L1 : ∀ (a : w3_size_L1_A) (r : Int), l_w3_size_L1 a = some r → lp (loopAt P 30 5) (w3_size_L1_s a) = some (w3_size_L1_e r)) (a0 : (List T_w3_Raw)) (a1 : Int) : (w3_size_t P call l_w3_size_L1 a0 a1).ok lp w3_size_e := ⟨rfl, fun h0 => rfl, fun h0 => fun o1 ho1 => ⟨hl_w3_size_L1 _ _ ho1, rfl⟩⟩
theorem w3_size_m {l_w3_size_L1 m_w3_size_L1 : w3_size_L1_A → Option Int} (hl_w3_size_L1 : ∀ a, Le (l_w3_size_L1 a) (m_w3_size_L1 a)) (a0 : (List T_w3_Raw)) (a1 : Int) : Le (w3_size_b l_w3_size_L1 a0 a1) (w3_size_b m_w3_size_L1 a0 a1) := by
  unfold w3_size_b
  exact .cond (.refl _) (.bind (hl_w3_size_L1 _) (fun o1 => .refl _))
theorem w3_size_c {l_w3_size_L1 : Nat → w3_size_L1_A → Option Int} {m_w3_size_L1 : w3_size_L1_A → Option Int} (hl_w3_size_L1 : ∀ a, Cv (fun k => l_w3_size_L1 k a) (m_w3_size_L1 a)) (a0 : (List T_w3_Raw)) (a1 : Int) : Cv (fun k => w3_size_b (l_w3_size_L1 k) a0 a1) (w3_size_b m_w3_size_L1 a0 a1) := by
  unfold w3_size_b
  exact .cond (by exact .const _) (.bind (hl_w3_size_L1 _) (fun o1 => by exact .const _))
def w3_size.s : Nat → (List T_w3_Raw) → Int → Option Int
  | 0, _, _ => none
  | k + 1, a0, a1 => w3_size_b (w3_size_L1.s k (fun a0 a1 => w3_size.s k a0 a1)) a0 a1
termination_by structural k => k
theorem w3_size_all : ∀ (k : Nat), ∀ (a0 : (List T_w3_Raw)) (a1 : Int) (r : Int), w3_size.s k a0 a1 = some r → evalFn Tryd.prog G k 30 [.sl (R_w3_Raw a0), .sc (.int .i64 a1)] [] = some (w3_size_e r)
  | 0 => fun _ _ _ h => (nomatch h)
  | k + 1 => by
    have i_w3_size := w3_size_all k
    exact fun a0 a1 r h => fn_ok rfl (w3_size_t Tryd.prog (evalFn Tryd.prog G k) (w3_size_L1.s k (fun a0 a1 => w3_size.s k a0 a1)) a0 a1) (w3_size_n _ (w3_size_L1.s k (fun a0 a1 => w3_size.s k a0 a1)) a0 a1) (w3_size_k _ _ _ (w3_size_L1.s k (fun a0 a1 => w3_size.s k a0 a1))  (w3_size_L1_ok _ k (fun a0 a1 => w3_size.s k a0 a1) (i_w3_size)) a0 a1) ((w3_size_d _ _ (w3_size_L1.s k (fun a0 a1 => w3_size.s k a0 a1)) a0 a1).trans h)
theorem w3_size.ok (k : Nat) : ∀ (a0 : (List T_w3_Raw)) (a1 : Int) (r : Int), w3_size.s k a0 a1 = some r → evalFn Tryd.prog G k 30 [.sl (R_w3_Raw a0), .sc (.int .i64 a1)] [] = some (w3_size_e r) := (w3_size_all k)
theorem w3_size_mall : ∀ (k : Nat), (∀ (a0 : (List T_w3_Raw)) (a1 : Int), Le (w3_size.s k a0 a1) (w3_size.s (k + 1) a0 a1))
  | 0 => fun _ _ _ h => (nomatch h)
  | k + 1 => by
    have i_w3_size := w3_size_mall k
    exact fun a0 a1 => w3_size_m (w3_size_L1.m (Nat.le_succ k) (fun a0 a1 => w3_size.s k a0 a1) (fun a0 a1 => w3_size.s (k + 1) a0 a1) (i_w3_size)) a0 a1
theorem w3_size.mono (k : Nat) : ∀ (a0 : (List T_w3_Raw)) (a1 : Int), Le (w3_size.s k a0 a1) (w3_size.s (k + 1) a0 a1) := (w3_size_mall k)
noncomputable def w3_size (a0 : (List T_w3_Raw)) (a1 : Int) : Option Int := lim fun k => w3_size.s k a0 a1
theorem w3_size.cv (a0 : (List T_w3_Raw)) (a1 : Int) : Cv (fun k => w3_size.s k a0 a1) (w3_size a0 a1) := .lim fun k => w3_size.mono k a0 a1
noncomputable def w3_size_L1 : w3_size_L1_A → Option Int := w3_size_L1.w w3_size
theorem w3_size_L1.eq (a : w3_size_L1_A) : w3_size_L1 a = (w3_size_L1_b w3_size a).bind (Sum.elim w3_size_L1 some) := loopW_eq _ _
theorem w3_size.eq (a0 : (List T_w3_Raw)) (a1 : Int) : w3_size a0 a1 = w3_size_b w3_size_L1 a0 a1 := Cv.uniq (w3_size.cv a0 a1).shift (w3_size_c (w3_size_L1.cv (fun k => fun a0 a1 => w3_size.s k a0 a1) w3_size w3_size.cv) a0 a1)
def w3_Few_e (r : Bool) : AV × Heap := (.sc (.bool r), [])
def w3_Few_b (c_w3_size : (List T_w3_Raw) → Int → Option Int) (a0 : (List T_w3_Raw)) : Option Bool := ((c_w3_size a0 (0 : Int)).bind fun (r1 : Int) => (some (decide (r1 ≤ (16 : Int)))))
def w3_Few_t (P : Program) (call : CallF) (c_w3_size : (List T_w3_Raw) → Int → Option Int) (a0 : (List T_w3_Raw)) : Tr Bool (AV × Heap) := (.call (call 30 [.sl (R_w3_Raw a0), .sc (.int .i64 (0 : Int))] []) (c_w3_size a0 (0 : Int)) w3_size_e fun (r1 : Int) => (rt w3_Few_e (decide (r1 ≤ (16 : Int)))))
theorem w3_Few_d (P : Program) (call : CallF) (c_w3_size : (List T_w3_Raw) → Int → Option Int) (a0 : (List T_w3_Raw)) : (w3_Few_t P call c_w3_size a0).den = w3_Few_b c_w3_size a0 := rfl
theorem w3_Few_n (call : CallF) (c_w3_size : (List T_w3_Raw) → Int → Option Int) (a0 : (List T_w3_Raw)) : (w3_Few_t Tryd.prog call c_w3_size a0).norm (bodyT Tryd.prog call G 15 [.sl (R_w3_Raw a0)] []) = w3_Few_t Tryd.prog call c_w3_size a0 := by kernel_rfl
theorem w3_Few_k (P : Program) (call : CallF) (lp : Loops) (c_w3_size : (List T_w3_Raw) → Int → Option Int) (hc_w3_size : ∀ (a0 : (List T_w3_Raw)) (a1 : Int) (r : Int), c_w3_size a0 a1 = some r → (call 30 [.sl (R_w3_Raw a0), .sc (.int .i64 a1)] []) = some (w3_size_e r)) (a0 : (List T_w3_Raw)) : (w3_Few_t P call c_w3_size a0).ok lp w3_Few_e := fun r1 hr1 => ⟨hc_w3_size _ _ _ hr1, rfl⟩
theorem w3_Few_m {c_w3_size d_w3_size : (List T_w3_Raw) → Int → Option Int} (h_w3_size : ∀ (a0 : (List T_w3_Raw)) (a1 : Int), Le (c_w3_size a0 a1) (d_w3_size a0 a1)) (a0 : (List T_w3_Raw)) : Le (w3_Few_b c_w3_size a0) (w3_Few_b d_w3_size a0) := by
  unfold w3_Few_b
  exact .bind (h_w3_size _ _) fun r1 => .refl _
theorem w3_Few_c {c_w3_size : Nat → (List T_w3_Raw) → Int → Option Int} {d_w3_size : (List T_w3_Raw) → Int → Option Int} (h_w3_size : ∀ (a0 : (List T_w3_Raw)) (a1 : Int), Cv (fun k => c_w3_size k a0 a1) (d_w3_size a0 a1)) (a0 : (List T_w3_Raw)) : Cv (fun k => w3_Few_b (c_w3_size k) a0) (w3_Few_b d_w3_size a0) := by
  unfold w3_Few_b
  exact .bind (h_w3_size _ _) fun r1 => by exact .const _
def w3_Few.s : Nat → (List T_w3_Raw) → Option Bool
  | 0, _ => none
  | k + 1, a0 => w3_Few_b (fun a0 a1 => w3_size.s k a0 a1) a0
theorem w3_Few.ok : ∀ (k : Nat), ∀ (a0 : (List T_w3_Raw)) (r : Bool), w3_Few.s k a0 = some r → evalFn Tryd.prog G k 15 [.sl (R_w3_Raw a0)] [] = some (w3_Few_e r)
  | 0, _, _, h => (nomatch h)
  | k + 1, a0, r, h => fn_ok rfl (w3_Few_t Tryd.prog (evalFn Tryd.prog G k) (fun a0 a1 => w3_size.s k a0 a1) a0) (w3_Few_n _ (fun a0 a1 => w3_size.s k a0 a1) a0) (w3_Few_k _ _ _ (fun a0 a1 => w3_size.s k a0 a1) (w3_size.ok k)  a0) ((w3_Few_d _ _ (fun a0 a1 => w3_size.s k a0 a1) a0).trans h)
theorem w3_Few.mono : ∀ (k : Nat) (a0 : (List T_w3_Raw)), Le (w3_Few.s k a0) (w3_Few.s (k + 1) a0)
  | 0, _ => fun r h => (nomatch h)
  | k + 1, a0 => w3_Few_m (w3_size.mono k) a0
noncomputable def w3_Few (a0 : (List T_w3_Raw)) : Option Bool := lim fun k => w3_Few.s k a0
theorem w3_Few.cv (a0 : (List T_w3_Raw)) : Cv (fun k => w3_Few.s k a0) (w3_Few a0) := .lim fun k => w3_Few.mono k a0
theorem w3_Few.eq (a0 : (List T_w3_Raw)) : w3_Few a0 = w3_Few_b w3_size a0 := Cv.uniq (w3_Few.cv a0).shift (w3_Few_c w3_size.cv a0)
def w3_within_e (r : Int) : AV × Heap := (.sc (.int .i64 r), [])
def w3_within_b  (a0 : Int) (a1 : Int) : Option Int := (bif (decide (a1 ≠ 0)) then (bif (decide ((Int.tmod a0 a1) < (0 : Int))) then (some (w64 ((Int.tmod a0 a1) + a1))) else (some (Int.tmod a0 a1))) else none)
def w3_within_t (P : Program) (call : CallF)  (a0 : Int) (a1 : Int) : Tr Int (AV × Heap) := (.as (decide (a1 ≠ 0)) (.as (decide ((Int.tmod a0 a1) < (0 : Int))) (rt w3_within_e (w64 ((Int.tmod a0 a1) + a1))) (rt w3_within_e (Int.tmod a0 a1))) .fail)
theorem w3_within_d (P : Program) (call : CallF)  (a0 : Int) (a1 : Int) : (w3_within_t P call  a0 a1).den = w3_within_b  a0 a1 := rfl
theorem w3_within_n (call : CallF)  (a0 : Int) (a1 : Int) : (w3_within_t Tryd.prog call  a0 a1).norm (bodyT Tryd.prog call G 18 [.sc (.int .i64 a0), .sc (.int .i64 a1)] []) = w3_within_t Tryd.prog call  a0 a1 := by kernel_rfl
theorem w3_within_k (P : Program) (call : CallF) (lp : Loops)   (a0 : Int) (a1 : Int) : (w3_within_t P call  a0 a1).ok lp w3_within_e := ⟨rfl, fun h0 => ⟨rfl, fun h1 => rfl, fun h1 => rfl⟩, fun h0 => trivial⟩
def w3_within.s : Nat → Int → Int → Option Int
  | 0, _, _ => none
  | k + 1, a0, a1 => w3_within_b  a0 a1
theorem w3_within.ok : ∀ (k : Nat), ∀ (a0 : Int) (a1 : Int) (r : Int), w3_within.s k a0 a1 = some r → evalFn Tryd.prog G k 18 [.sc (.int .i64 a0), .sc (.int .i64 a1)] [] = some (w3_within_e r)
  | 0, _, _, _, h => (nomatch h)
  | k + 1, a0, a1, r, h => fn_ok rfl (w3_within_t Tryd.prog (evalFn Tryd.prog G k)  a0 a1) (w3_within_n _  a0 a1) (w3_within_k _ _ _    a0 a1) ((w3_within_d _ _  a0 a1).trans h)
theorem w3_within.mono : ∀ (k : Nat) (a0 : Int) (a1 : Int), Le (w3_within.s k a0 a1) (w3_within.s (k + 1) a0 a1)
  | 0, _, _ => fun r h => (nomatch h)
  | k + 1, a0, a1 => .refl _
noncomputable def w3_within (a0 : Int) (a1 : Int) : Option Int := lim fun k => w3_within.s k a0 a1
theorem w3_within.cv (a0 : Int) (a1 : Int) : Cv (fun k => w3_within.s k a0 a1) (w3_within a0 a1) := .lim fun k => w3_within.mono k a0 a1
theorem w3_within.eq (a0 : Int) (a1 : Int) : w3_within a0 a1 = w3_within_b  a0 a1 := Cv.uniq (w3_within.cv a0 a1).shift (by exact .const _)
def w3_Names_e (r : (List ByteArray)) : AV × Heap := (.sl (R_string r), [])
def w3_Names_b   : Option (List ByteArray) := (some [s_base, s_x, s_end_1, s_r])
def w3_Names_t (P : Program) (call : CallF)   : Tr (List ByteArray) (AV × Heap) := (.rows [[.sc (.string s_base)], [.sc (.string s_x)], [.sc (.string s_end_1)], [.sc (.string s_r)]] (R_string [s_base, s_x, s_end_1, s_r]) (rt w3_Names_e [s_base, s_x, s_end_1, s_r]))
theorem w3_Names_d (P : Program) (call : CallF)   : (w3_Names_t P call  ).den = w3_Names_b   := rfl
theorem w3_Names_n (call : CallF)   : (w3_Names_t Tryd.prog call  ).norm (bodyT Tryd.prog call G 38 [] []) = w3_Names_t Tryd.prog call   := by kernel_rfl
theorem w3_Names_k (P : Program) (call : CallF) (lp : Loops)    : (w3_Names_t P call  ).ok lp w3_Names_e := ⟨(R_string_map [s_base, s_x, s_end_1, s_r]), rfl⟩
def w3_Names.s : Nat → Option (List ByteArray)
  | 0 => none
  | k + 1 => w3_Names_b  
theorem w3_Names.ok : ∀ (k : Nat), ∀  (r : (List ByteArray)), w3_Names.s k  = some r → evalFn Tryd.prog G k 38 [] [] = some (w3_Names_e r)
  | 0, _, h => (nomatch h)
  | k + 1, r, h => fn_ok rfl (w3_Names_t Tryd.prog (evalFn Tryd.prog G k)  ) (w3_Names_n _  ) (w3_Names_k _ _ _    ) ((w3_Names_d _ _  ).trans h)
theorem w3_Names.mono : ∀ (k : Nat), Le (w3_Names.s k ) (w3_Names.s (k + 1) )
  | 0 => fun r h => (nomatch h)
  | k + 1 => .refl _
noncomputable def w3_Names  : Option (List ByteArray) := lim fun k => w3_Names.s k 
theorem w3_Names.cv  : Cv (fun k => w3_Names.s k ) (w3_Names ) := .lim fun k => w3_Names.mono k 
theorem w3_Names.eq  : w3_Names  = w3_Names_b   := Cv.uniq (w3_Names.cv ).shift (by exact .const _)
def w3_Raw_part_e (r : T_api_Expr) : AV × Heap := (.agg (C_api_Expr r), [])
def w3_Raw_Make_e (r : T_api_Expr) : AV × Heap := (.agg (C_api_Expr r), [])
def w3_Raw_part_b (c_w3_Raw_Make : T_w3_Raw → Option T_api_Expr) (c_w3_within : Int → Int → Option Int) (a0 : T_w3_Raw) (a1 : Int) : Option T_api_Expr := (bif (decide (a1 < (((a0.L.length) : Nat) : Int))) then (bif (decide (0 ≤ a1)) then ((a0.L[(Int.toNat a1)]?).bind fun (e1 : T_w3_Raw) => ((c_w3_Raw_Make e1).bind fun (r2 : T_api_Expr) => (some r2))) else none) else ((c_w3_within (w64 (a0.N + a1)) (5 : Int)).bind fun (r3 : Int) => (some (T_api_Expr.mk (1 : Int) r3 s_ ([] : List T_api_Expr)))))
def w3_Raw_part_t (P : Program) (call : CallF) (c_w3_Raw_Make : T_w3_Raw → Option T_api_Expr) (c_w3_within : Int → Int → Option Int) (a0 : T_w3_Raw) (a1 : Int) : Tr T_api_Expr (AV × Heap) := (.num ((R_w3_Raw a0.L).length) (a0.L.length) (.as (decide (a1 < (((a0.L.length) : Nat) : Int))) (.as (decide (0 ≤ a1)) (.row ((R_w3_Raw a0.L)[(Int.toNat a1)]?) (a0.L[(Int.toNat a1)]?) C_w3_Raw fun (e1 : T_w3_Raw) => (.call (call 33 [.agg (C_w3_Raw e1)] []) (c_w3_Raw_Make e1) w3_Raw_Make_e fun (r2 : T_api_Expr) => (rt w3_Raw_part_e r2))) .fail) (.call (call 18 [.sc (.int .i64 (w64 (a0.N + a1))), .sc (.int .i64 (5 : Int))] []) (c_w3_within (w64 (a0.N + a1)) (5 : Int)) w3_within_e fun (r3 : Int) => (rt w3_Raw_part_e (T_api_Expr.mk (1 : Int) r3 s_ ([] : List T_api_Expr))))))
theorem w3_Raw_part_d (P : Program) (call : CallF) (c_w3_Raw_Make : T_w3_Raw → Option T_api_Expr) (c_w3_within : Int → Int → Option Int) (a0 : T_w3_Raw) (a1 : Int) : (w3_Raw_part_t P call c_w3_Raw_Make c_w3_within a0 a1).den = w3_Raw_part_b c_w3_Raw_Make c_w3_within a0 a1 := rfl
theorem w3_Raw_part_n (call : CallF) (c_w3_Raw_Make : T_w3_Raw → Option T_api_Expr) (c_w3_within : Int → Int → Option Int) (a0 : T_w3_Raw) (a1 : Int) : (w3_Raw_part_t Tryd.prog call c_w3_Raw_Make c_w3_within a0 a1).norm (bodyT Tryd.prog call G 50 [.agg (C_w3_Raw a0), .sc (.int .i64 a1)] []) = w3_Raw_part_t Tryd.prog call c_w3_Raw_Make c_w3_within a0 a1 := by kernel_rfl
theorem w3_Raw_part_k (P : Program) (call : CallF) (lp : Loops) (c_w3_Raw_Make : T_w3_Raw → Option T_api_Expr) (c_w3_within : Int → Int → Option Int) (hc_w3_Raw_Make : ∀ (a0 : T_w3_Raw) (r : T_api_Expr), c_w3_Raw_Make a0 = some r → (call 33 [.agg (C_w3_Raw a0)] []) = some (w3_Raw_Make_e r)) (hc_w3_within : ∀ (a0 : Int) (a1 : Int) (r : Int), c_w3_within a0 a1 = some r → (call 18 [.sc (.int .i64 a0), .sc (.int .i64 a1)] []) = some (w3_within_e r)) (a0 : T_w3_Raw) (a1 : Int) : (w3_Raw_part_t P call c_w3_Raw_Make c_w3_within a0 a1).ok lp w3_Raw_part_e := ⟨(R_w3_Raw_len _), ⟨rfl, fun h0 => ⟨rfl, fun h1 => fun e1 he1 => ⟨R_w3_Raw_get he1, fun r2 hr2 => ⟨hc_w3_Raw_Make _ _ hr2, rfl⟩⟩, fun h1 => trivial⟩, fun h0 => fun r3 hr3 => ⟨hc_w3_within _ _ _ hr3, rfl⟩⟩⟩
theorem w3_Raw_part_m {c_w3_Raw_Make d_w3_Raw_Make : T_w3_Raw → Option T_api_Expr} (h_w3_Raw_Make : ∀ (a0 : T_w3_Raw), Le (c_w3_Raw_Make a0) (d_w3_Raw_Make a0)) {c_w3_within d_w3_within : Int → Int → Option Int} (h_w3_within : ∀ (a0 : Int) (a1 : Int), Le (c_w3_within a0 a1) (d_w3_within a0 a1)) (a0 : T_w3_Raw) (a1 : Int) : Le (w3_Raw_part_b c_w3_Raw_Make c_w3_within a0 a1) (w3_Raw_part_b d_w3_Raw_Make d_w3_within a0 a1) := by
  unfold w3_Raw_part_b
  exact .cond (.cond (.bind (.refl (a0.L[(Int.toNat a1)]?)) fun e1 => .bind (h_w3_Raw_Make _) fun r2 => .refl _) (.refl _)) (.bind (h_w3_within _ _) fun r3 => .refl _)
theorem w3_Raw_part_c {c_w3_Raw_Make : Nat → T_w3_Raw → Option T_api_Expr} {d_w3_Raw_Make : T_w3_Raw → Option T_api_Expr} (h_w3_Raw_Make : ∀ (a0 : T_w3_Raw), Cv (fun k => c_w3_Raw_Make k a0) (d_w3_Raw_Make a0)) {c_w3_within : Nat → Int → Int → Option Int} {d_w3_within : Int → Int → Option Int} (h_w3_within : ∀ (a0 : Int) (a1 : Int), Cv (fun k => c_w3_within k a0 a1) (d_w3_within a0 a1)) (a0 : T_w3_Raw) (a1 : Int) : Cv (fun k => w3_Raw_part_b (c_w3_Raw_Make k) (c_w3_within k) a0 a1) (w3_Raw_part_b d_w3_Raw_Make d_w3_within a0 a1) := by
  unfold w3_Raw_part_b
  exact .cond (.cond (.bind (.const (a0.L[(Int.toNat a1)]?)) fun e1 => .bind (h_w3_Raw_Make _) fun r2 => by exact .const _) (by exact .const _)) (.bind (h_w3_within _ _) fun r3 => by exact .const _)
def w3_Raw_Make_b (c_w3_within : Int → Int → Option Int) (c_w3_Names : Option (List ByteArray)) (c_w3_Raw_part : T_w3_Raw → Int → Option T_api_Expr) (a0 : T_w3_Raw) : Option T_api_Expr := ((c_w3_within a0.K (18 : Int)).bind fun (r1 : Int) => (bif (decide (r1 < (4 : Int))) then ((c_w3_within a0.N (8 : Int)).bind fun (r2 : Int) => (bif (decide (0 ≤ r2 ∧ r2 < (([(0 : Int), (1 : Int), (2 : Int), (255 : Int), (65536 : Int), (4294967295 : Int), (40 : Int), (7 : Int)].length : Nat) : Int))) then (([(0 : Int), (1 : Int), (2 : Int), (255 : Int), (65536 : Int), (4294967295 : Int), (40 : Int), (7 : Int)][(Int.toNat r2)]?).bind fun (e3 : Int) => (some (T_api_Expr.mk (1 : Int) e3 s_ ([] : List T_api_Expr)))) else none)) else (bif (decide (r1 < (8 : Int))) then ((c_w3_Names).bind fun (r4 : (List ByteArray)) => ((c_w3_within a0.N (4 : Int)).bind fun (r5 : Int) => (bif (decide (0 ≤ r5)) then ((r4[(Int.toNat r5)]?).bind fun (e6 : ByteArray) => (some (T_api_Expr.mk (2 : Int) (0 : Int) e6 ([] : List T_api_Expr)))) else none))) else (bif (r1 == (8 : Int)) then (some (T_api_Expr.mk (3 : Int) (0 : Int) s_ ([] : List T_api_Expr))) else (bif (decide (r1 < (11 : Int))) then ((c_w3_Raw_part a0 (0 : Int)).bind fun (r7 : T_api_Expr) => (some (T_api_Expr.mk (4 : Int) (0 : Int) s_ [r7]))) else ((c_w3_Raw_part a0 (0 : Int)).bind fun (r8 : T_api_Expr) => ((c_w3_Raw_part a0 (1 : Int)).bind fun (r9 : T_api_Expr) => (some (T_api_Expr.mk (w64 ((w64 ((5 : Int) + r1)) - (11 : Int))) (0 : Int) s_ [r8, r9])))))))))
def w3_Raw_Make_t (P : Program) (call : CallF) (c_w3_within : Int → Int → Option Int) (c_w3_Names : Option (List ByteArray)) (c_w3_Raw_part : T_w3_Raw → Int → Option T_api_Expr) (a0 : T_w3_Raw) : Tr T_api_Expr (AV × Heap) := (.call (call 18 [.sc (.int .i64 a0.K), .sc (.int .i64 (18 : Int))] []) (c_w3_within a0.K (18 : Int)) w3_within_e fun (r1 : Int) => (.as (decide (r1 < (4 : Int))) (.rows [[.sc (.int .i64 (0 : Int))], [.sc (.int .i64 (1 : Int))], [.sc (.int .i64 (2 : Int))], [.sc (.int .i64 (255 : Int))], [.sc (.int .i64 (65536 : Int))], [.sc (.int .i64 (4294967295 : Int))], [.sc (.int .i64 (40 : Int))], [.sc (.int .i64 (7 : Int))]] (R_i64 [(0 : Int), (1 : Int), (2 : Int), (255 : Int), (65536 : Int), (4294967295 : Int), (40 : Int), (7 : Int)]) (.call (call 18 [.sc (.int .i64 a0.N), .sc (.int .i64 (8 : Int))] []) (c_w3_within a0.N (8 : Int)) w3_within_e fun (r2 : Int) => (.ask (decide (0 ≤ r2 ∧ r2 < (((R_i64 [(0 : Int), (1 : Int), (2 : Int), (255 : Int), (65536 : Int), (4294967295 : Int), (40 : Int), (7 : Int)]).length : Nat) : Int))) (decide (0 ≤ r2 ∧ r2 < (([(0 : Int), (1 : Int), (2 : Int), (255 : Int), (65536 : Int), (4294967295 : Int), (40 : Int), (7 : Int)].length : Nat) : Int))) (.row ((R_i64 [(0 : Int), (1 : Int), (2 : Int), (255 : Int), (65536 : Int), (4294967295 : Int), (40 : Int), (7 : Int)])[(Int.toNat r2)]?) ([(0 : Int), (1 : Int), (2 : Int), (255 : Int), (65536 : Int), (4294967295 : Int), (40 : Int), (7 : Int)][(Int.toNat r2)]?) C_i64 fun (e3 : Int) => (rt w3_Raw_Make_e (T_api_Expr.mk (1 : Int) e3 s_ ([] : List T_api_Expr)))) .fail))) (.as (decide (r1 < (8 : Int))) (.call (call 38 [] []) (c_w3_Names) w3_Names_e fun (r4 : (List ByteArray)) => (.call (call 18 [.sc (.int .i64 a0.N), .sc (.int .i64 (4 : Int))] []) (c_w3_within a0.N (4 : Int)) w3_within_e fun (r5 : Int) => (.as (decide (0 ≤ r5)) (.row ((R_string r4)[(Int.toNat r5)]?) (r4[(Int.toNat r5)]?) C_string fun (e6 : ByteArray) => (rt w3_Raw_Make_e (T_api_Expr.mk (2 : Int) (0 : Int) e6 ([] : List T_api_Expr)))) .fail))) (.as (r1 == (8 : Int)) (rt w3_Raw_Make_e (T_api_Expr.mk (3 : Int) (0 : Int) s_ ([] : List T_api_Expr))) (.as (decide (r1 < (11 : Int))) (.call (call 50 [.agg (C_w3_Raw a0), .sc (.int .i64 (0 : Int))] []) (c_w3_Raw_part a0 (0 : Int)) w3_Raw_part_e fun (r7 : T_api_Expr) => (.rows [[.sc (.int .i64 r7.Kind), .sc (.int .i64 r7.N), .sc (.string r7.Name), .sl (R_api_Expr r7.L)]] (R_api_Expr [r7]) (rt w3_Raw_Make_e (T_api_Expr.mk (4 : Int) (0 : Int) s_ [r7])))) (.call (call 50 [.agg (C_w3_Raw a0), .sc (.int .i64 (0 : Int))] []) (c_w3_Raw_part a0 (0 : Int)) w3_Raw_part_e fun (r8 : T_api_Expr) => (.call (call 50 [.agg (C_w3_Raw a0), .sc (.int .i64 (1 : Int))] []) (c_w3_Raw_part a0 (1 : Int)) w3_Raw_part_e fun (r9 : T_api_Expr) => (.rows [[.sc (.int .i64 r8.Kind), .sc (.int .i64 r8.N), .sc (.string r8.Name), .sl (R_api_Expr r8.L)], [.sc (.int .i64 r9.Kind), .sc (.int .i64 r9.N), .sc (.string r9.Name), .sl (R_api_Expr r9.L)]] (R_api_Expr [r8, r9]) (rt w3_Raw_Make_e (T_api_Expr.mk (w64 ((w64 ((5 : Int) + r1)) - (11 : Int))) (0 : Int) s_ [r8, r9]))))))))))
theorem w3_Raw_Make_d (P : Program) (call : CallF) (c_w3_within : Int → Int → Option Int) (c_w3_Names : Option (List ByteArray)) (c_w3_Raw_part : T_w3_Raw → Int → Option T_api_Expr) (a0 : T_w3_Raw) : (w3_Raw_Make_t P call c_w3_within c_w3_Names c_w3_Raw_part a0).den = w3_Raw_Make_b c_w3_within c_w3_Names c_w3_Raw_part a0 := rfl
theorem w3_Raw_Make_n (call : CallF) (c_w3_within : Int → Int → Option Int) (c_w3_Names : Option (List ByteArray)) (c_w3_Raw_part : T_w3_Raw → Int → Option T_api_Expr) (a0 : T_w3_Raw) : (w3_Raw_Make_t Tryd.prog call c_w3_within c_w3_Names c_w3_Raw_part a0).norm (bodyT Tryd.prog call G 33 [.agg (C_w3_Raw a0)] []) = w3_Raw_Make_t Tryd.prog call c_w3_within c_w3_Names c_w3_Raw_part a0 := by kernel_rfl
theorem w3_Raw_Make_k (P : Program) (call : CallF) (lp : Loops) (c_w3_within : Int → Int → Option Int) (c_w3_Names : Option (List ByteArray)) (c_w3_Raw_part : T_w3_Raw → Int → Option T_api_Expr) (hc_w3_within : ∀ (a0 : Int) (a1 : Int) (r : Int), c_w3_within a0 a1 = some r → (call 18 [.sc (.int .i64 a0), .sc (.int .i64 a1)] []) = some (w3_within_e r)) (hc_w3_Names : ∀  (r : (List ByteArray)), c_w3_Names = some r → (call 38 [] []) = some (w3_Names_e r)) (hc_w3_Raw_part : ∀ (a0 : T_w3_Raw) (a1 : Int) (r : T_api_Expr), c_w3_Raw_part a0 a1 = some r → (call 50 [.agg (C_w3_Raw a0), .sc (.int .i64 a1)] []) = some (w3_Raw_part_e r)) (a0 : T_w3_Raw) : (w3_Raw_Make_t P call c_w3_within c_w3_Names c_w3_Raw_part a0).ok lp w3_Raw_Make_e := fun r1 hr1 => ⟨hc_w3_within _ _ _ hr1, ⟨rfl, fun h0 => ⟨(R_i64_map [(0 : Int), (1 : Int), (2 : Int), (255 : Int), (65536 : Int), (4294967295 : Int), (40 : Int), (7 : Int)]), fun r2 hr2 => ⟨hc_w3_within _ _ _ hr2, ⟨(by rw [R_i64_len]), fun h1 => fun e3 he3 => ⟨R_i64_get he3, rfl⟩, fun h1 => trivial⟩⟩⟩, fun h0 => ⟨rfl, fun h1 => fun r4 hr4 => ⟨hc_w3_Names _ hr4, fun r5 hr5 => ⟨hc_w3_within _ _ _ hr5, ⟨rfl, fun h2 => fun e6 he6 => ⟨R_string_get he6, rfl⟩, fun h2 => trivial⟩⟩⟩, fun h1 => ⟨rfl, fun h2 => rfl, fun h2 => ⟨rfl, fun h3 => fun r7 hr7 => ⟨hc_w3_Raw_part _ _ _ hr7, ⟨(R_api_Expr_map [r7]), rfl⟩⟩, fun h3 => fun r8 hr8 => ⟨hc_w3_Raw_part _ _ _ hr8, fun r9 hr9 => ⟨hc_w3_Raw_part _ _ _ hr9, ⟨(R_api_Expr_map [r8, r9]), rfl⟩⟩⟩⟩⟩⟩⟩⟩
theorem w3_Raw_Make_m {c_w3_within d_w3_within : Int → Int → Option Int} (h_w3_within : ∀ (a0 : Int) (a1 : Int), Le (c_w3_within a0 a1) (d_w3_within a0 a1)) {c_w3_Names d_w3_Names : Option (List ByteArray)} (h_w3_Names : Le (c_w3_Names ) (d_w3_Names )) {c_w3_Raw_part d_w3_Raw_part : T_w3_Raw → Int → Option T_api_Expr} (h_w3_Raw_part : ∀ (a0 : T_w3_Raw) (a1 : Int), Le (c_w3_Raw_part a0 a1) (d_w3_Raw_part a0 a1)) (a0 : T_w3_Raw) : Le (w3_Raw_Make_b c_w3_within c_w3_Names c_w3_Raw_part a0) (w3_Raw_Make_b d_w3_within d_w3_Names d_w3_Raw_part a0) := by
  unfold w3_Raw_Make_b
  exact .bind (h_w3_within _ _) fun r1 => .cond (.bind (h_w3_within _ _) fun r2 => .refl _) (.cond (.bind (h_w3_Names) fun r4 => .bind (h_w3_within _ _) fun r5 => .refl _) (.cond (.refl _) (.cond (.bind (h_w3_Raw_part _ _) fun r7 => .refl _) (.bind (h_w3_Raw_part _ _) fun r8 => .bind (h_w3_Raw_part _ _) fun r9 => .refl _))))
theorem w3_Raw_Make_c {c_w3_within : Nat → Int → Int → Option Int} {d_w3_within : Int → Int → Option Int} (h_w3_within : ∀ (a0 : Int) (a1 : Int), Cv (fun k => c_w3_within k a0 a1) (d_w3_within a0 a1)) {c_w3_Names : Nat → Option (List ByteArray)} {d_w3_Names : Option (List ByteArray)} (h_w3_Names : Cv (fun k => c_w3_Names k ) (d_w3_Names )) {c_w3_Raw_part : Nat → T_w3_Raw → Int → Option T_api_Expr} {d_w3_Raw_part : T_w3_Raw → Int → Option T_api_Expr} (h_w3_Raw_part : ∀ (a0 : T_w3_Raw) (a1 : Int), Cv (fun k => c_w3_Raw_part k a0 a1) (d_w3_Raw_part a0 a1)) (a0 : T_w3_Raw) : Cv (fun k => w3_Raw_Make_b (c_w3_within k) (c_w3_Names k) (c_w3_Raw_part k) a0) (w3_Raw_Make_b d_w3_within d_w3_Names d_w3_Raw_part a0) := by
  unfold w3_Raw_Make_b
  exact .bind (h_w3_within _ _) fun r1 => .cond (.bind (h_w3_within _ _) fun r2 => by exact .const _) (.cond (.bind (h_w3_Names) fun r4 => .bind (h_w3_within _ _) fun r5 => by exact .const _) (.cond (by exact .const _) (.cond (.bind (h_w3_Raw_part _ _) fun r7 => by exact .const _) (.bind (h_w3_Raw_part _ _) fun r8 => .bind (h_w3_Raw_part _ _) fun r9 => by exact .const _))))
mutual
def w3_Raw_part.s : Nat → T_w3_Raw → Int → Option T_api_Expr
  | 0, _, _ => none
  | k + 1, a0, a1 => w3_Raw_part_b (fun a0 => w3_Raw_Make.s k a0) (fun a0 a1 => w3_within.s k a0 a1) a0 a1
termination_by structural k => k
def w3_Raw_Make.s : Nat → T_w3_Raw → Option T_api_Expr
  | 0, _ => none
  | k + 1, a0 => w3_Raw_Make_b (fun a0 a1 => w3_within.s k a0 a1) (w3_Names.s k) (fun a0 a1 => w3_Raw_part.s k a0 a1) a0
termination_by structural k => k
end
theorem w3_Raw_part_all : ∀ (k : Nat), (∀ (a0 : T_w3_Raw) (a1 : Int) (r : T_api_Expr), w3_Raw_part.s k a0 a1 = some r → evalFn Tryd.prog G k 50 [.agg (C_w3_Raw a0), .sc (.int .i64 a1)] [] = some (w3_Raw_part_e r)) ∧ (∀ (a0 : T_w3_Raw) (r : T_api_Expr), w3_Raw_Make.s k a0 = some r → evalFn Tryd.prog G k 33 [.agg (C_w3_Raw a0)] [] = some (w3_Raw_Make_e r))
  | 0 => ⟨fun _ _ _ h => (nomatch h), fun _ _ h => (nomatch h)⟩
  | k + 1 => by
    obtain ⟨i_w3_Raw_part, i_w3_Raw_Make⟩ := w3_Raw_part_all k
    exact ⟨fun a0 a1 r h => fn_ok rfl (w3_Raw_part_t Tryd.prog (evalFn Tryd.prog G k) (fun a0 => w3_Raw_Make.s k a0) (fun a0 a1 => w3_within.s k a0 a1) a0 a1) (w3_Raw_part_n _ (fun a0 => w3_Raw_Make.s k a0) (fun a0 a1 => w3_within.s k a0 a1) a0 a1) (w3_Raw_part_k _ _ _ (fun a0 => w3_Raw_Make.s k a0) (fun a0 a1 => w3_within.s k a0 a1) (i_w3_Raw_Make) (w3_within.ok k)  a0 a1) ((w3_Raw_part_d _ _ (fun a0 => w3_Raw_Make.s k a0) (fun a0 a1 => w3_within.s k a0 a1) a0 a1).trans h),
      fun a0 r h => fn_ok rfl (w3_Raw_Make_t Tryd.prog (evalFn Tryd.prog G k) (fun a0 a1 => w3_within.s k a0 a1) (w3_Names.s k) (fun a0 a1 => w3_Raw_part.s k a0 a1) a0) (w3_Raw_Make_n _ (fun a0 a1 => w3_within.s k a0 a1) (w3_Names.s k) (fun a0 a1 => w3_Raw_part.s k a0 a1) a0) (w3_Raw_Make_k _ _ _ (fun a0 a1 => w3_within.s k a0 a1) (w3_Names.s k) (fun a0 a1 => w3_Raw_part.s k a0 a1) (w3_within.ok k) (w3_Names.ok k) (i_w3_Raw_part)  a0) ((w3_Raw_Make_d _ _ (fun a0 a1 => w3_within.s k a0 a1) (w3_Names.s k) (fun a0 a1 => w3_Raw_part.s k a0 a1) a0).trans h)⟩
theorem w3_Raw_part.ok (k : Nat) : ∀ (a0 : T_w3_Raw) (a1 : Int) (r : T_api_Expr), w3_Raw_part.s k a0 a1 = some r → evalFn Tryd.prog G k 50 [.agg (C_w3_Raw a0), .sc (.int .i64 a1)] [] = some (w3_Raw_part_e r) := (w3_Raw_part_all k).1
theorem w3_Raw_Make.ok (k : Nat) : ∀ (a0 : T_w3_Raw) (r : T_api_Expr), w3_Raw_Make.s k a0 = some r → evalFn Tryd.prog G k 33 [.agg (C_w3_Raw a0)] [] = some (w3_Raw_Make_e r) := (w3_Raw_part_all k).2
theorem w3_Raw_part_mall : ∀ (k : Nat), (∀ (a0 : T_w3_Raw) (a1 : Int), Le (w3_Raw_part.s k a0 a1) (w3_Raw_part.s (k + 1) a0 a1)) ∧ (∀ (a0 : T_w3_Raw), Le (w3_Raw_Make.s k a0) (w3_Raw_Make.s (k + 1) a0))
  | 0 => ⟨fun _ _ _ h => (nomatch h), fun _ _ h => (nomatch h)⟩
  | k + 1 => by
    obtain ⟨i_w3_Raw_part, i_w3_Raw_Make⟩ := w3_Raw_part_mall k
    exact ⟨fun a0 a1 => w3_Raw_part_m (i_w3_Raw_Make) (w3_within.mono k) a0 a1,
      fun a0 => w3_Raw_Make_m (w3_within.mono k) (w3_Names.mono k) (i_w3_Raw_part) a0⟩
theorem w3_Raw_part.mono (k : Nat) : ∀ (a0 : T_w3_Raw) (a1 : Int), Le (w3_Raw_part.s k a0 a1) (w3_Raw_part.s (k + 1) a0 a1) := (w3_Raw_part_mall k).1
theorem w3_Raw_Make.mono (k : Nat) : ∀ (a0 : T_w3_Raw), Le (w3_Raw_Make.s k a0) (w3_Raw_Make.s (k + 1) a0) := (w3_Raw_part_mall k).2
noncomputable def w3_Raw_part (a0 : T_w3_Raw) (a1 : Int) : Option T_api_Expr := lim fun k => w3_Raw_part.s k a0 a1
theorem w3_Raw_part.cv (a0 : T_w3_Raw) (a1 : Int) : Cv (fun k => w3_Raw_part.s k a0 a1) (w3_Raw_part a0 a1) := .lim fun k => w3_Raw_part.mono k a0 a1
noncomputable def w3_Raw_Make (a0 : T_w3_Raw) : Option T_api_Expr := lim fun k => w3_Raw_Make.s k a0
theorem w3_Raw_Make.cv (a0 : T_w3_Raw) : Cv (fun k => w3_Raw_Make.s k a0) (w3_Raw_Make a0) := .lim fun k => w3_Raw_Make.mono k a0
theorem w3_Raw_part.eq (a0 : T_w3_Raw) (a1 : Int) : w3_Raw_part a0 a1 = w3_Raw_part_b w3_Raw_Make w3_within a0 a1 := Cv.uniq (w3_Raw_part.cv a0 a1).shift (w3_Raw_part_c w3_Raw_Make.cv w3_within.cv a0 a1)
theorem w3_Raw_Make.eq (a0 : T_w3_Raw) : w3_Raw_Make a0 = w3_Raw_Make_b w3_within w3_Names w3_Raw_part a0 := Cv.uniq (w3_Raw_Make.cv a0).shift (w3_Raw_Make_c w3_within.cv w3_Names.cv w3_Raw_part.cv a0)
def w3_One_e (r : T_api_Expr) : AV × Heap := (.agg (C_api_Expr r), [])
def w3_One_b (c_w3_Raw_Make : T_w3_Raw → Option T_api_Expr) (a0 : (List T_w3_Raw)) : Option T_api_Expr := (bif ((((a0.length) : Nat) : Int) == (0 : Int)) then (some (T_api_Expr.mk (1 : Int) (1 : Int) s_ ([] : List T_api_Expr))) else ((a0[(Int.toNat (0 : Int))]?).bind fun (e1 : T_w3_Raw) => ((c_w3_Raw_Make e1).bind fun (r2 : T_api_Expr) => (some r2))))
def w3_One_t (P : Program) (call : CallF) (c_w3_Raw_Make : T_w3_Raw → Option T_api_Expr) (a0 : (List T_w3_Raw)) : Tr T_api_Expr (AV × Heap) := (.num ((R_w3_Raw a0).length) (a0.length) (.as ((((a0.length) : Nat) : Int) == (0 : Int)) (rt w3_One_e (T_api_Expr.mk (1 : Int) (1 : Int) s_ ([] : List T_api_Expr))) (.yes (decide (0 ≤ (0 : Int))) (.row ((R_w3_Raw a0)[(Int.toNat (0 : Int))]?) (a0[(Int.toNat (0 : Int))]?) C_w3_Raw fun (e1 : T_w3_Raw) => (.call (call 33 [.agg (C_w3_Raw e1)] []) (c_w3_Raw_Make e1) w3_Raw_Make_e fun (r2 : T_api_Expr) => (rt w3_One_e r2))))))
theorem w3_One_d (P : Program) (call : CallF) (c_w3_Raw_Make : T_w3_Raw → Option T_api_Expr) (a0 : (List T_w3_Raw)) : (w3_One_t P call c_w3_Raw_Make a0).den = w3_One_b c_w3_Raw_Make a0 := rfl
theorem w3_One_n (call : CallF) (c_w3_Raw_Make : T_w3_Raw → Option T_api_Expr) (a0 : (List T_w3_Raw)) : (w3_One_t Tryd.prog call c_w3_Raw_Make a0).norm (bodyT Tryd.prog call G 17 [.sl (R_w3_Raw a0)] []) = w3_One_t Tryd.prog call c_w3_Raw_Make a0 := by kernel_rfl
theorem w3_One_k (P : Program) (call : CallF) (lp : Loops) (c_w3_Raw_Make : T_w3_Raw → Option T_api_Expr) (hc_w3_Raw_Make : ∀ (a0 : T_w3_Raw) (r : T_api_Expr), c_w3_Raw_Make a0 = some r → (call 33 [.agg (C_w3_Raw a0)] []) = some (w3_Raw_Make_e r)) (a0 : (List T_w3_Raw)) : (w3_One_t P call c_w3_Raw_Make a0).ok lp w3_One_e := ⟨(R_w3_Raw_len _), ⟨rfl, fun h0 => rfl, fun h0 => ⟨rfl, fun e1 he1 => ⟨R_w3_Raw_get he1, fun r2 hr2 => ⟨hc_w3_Raw_Make _ _ hr2, rfl⟩⟩⟩⟩⟩
theorem w3_One_m {c_w3_Raw_Make d_w3_Raw_Make : T_w3_Raw → Option T_api_Expr} (h_w3_Raw_Make : ∀ (a0 : T_w3_Raw), Le (c_w3_Raw_Make a0) (d_w3_Raw_Make a0)) (a0 : (List T_w3_Raw)) : Le (w3_One_b c_w3_Raw_Make a0) (w3_One_b d_w3_Raw_Make a0) := by
  unfold w3_One_b
  exact .cond (.refl _) (.bind (.refl (a0[(Int.toNat (0 : Int))]?)) fun e1 => .bind (h_w3_Raw_Make _) fun r2 => .refl _)
theorem w3_One_c {c_w3_Raw_Make : Nat → T_w3_Raw → Option T_api_Expr} {d_w3_Raw_Make : T_w3_Raw → Option T_api_Expr} (h_w3_Raw_Make : ∀ (a0 : T_w3_Raw), Cv (fun k => c_w3_Raw_Make k a0) (d_w3_Raw_Make a0)) (a0 : (List T_w3_Raw)) : Cv (fun k => w3_One_b (c_w3_Raw_Make k) a0) (w3_One_b d_w3_Raw_Make a0) := by
  unfold w3_One_b
  exact .cond (by exact .const _) (.bind (.const (a0[(Int.toNat (0 : Int))]?)) fun e1 => .bind (h_w3_Raw_Make _) fun r2 => by exact .const _)
def w3_One.s : Nat → (List T_w3_Raw) → Option T_api_Expr
  | 0, _ => none
  | k + 1, a0 => w3_One_b (fun a0 => w3_Raw_Make.s k a0) a0
theorem w3_One.ok : ∀ (k : Nat), ∀ (a0 : (List T_w3_Raw)) (r : T_api_Expr), w3_One.s k a0 = some r → evalFn Tryd.prog G k 17 [.sl (R_w3_Raw a0)] [] = some (w3_One_e r)
  | 0, _, _, h => (nomatch h)
  | k + 1, a0, r, h => fn_ok rfl (w3_One_t Tryd.prog (evalFn Tryd.prog G k) (fun a0 => w3_Raw_Make.s k a0) a0) (w3_One_n _ (fun a0 => w3_Raw_Make.s k a0) a0) (w3_One_k _ _ _ (fun a0 => w3_Raw_Make.s k a0) (w3_Raw_Make.ok k)  a0) ((w3_One_d _ _ (fun a0 => w3_Raw_Make.s k a0) a0).trans h)
theorem w3_One.mono : ∀ (k : Nat) (a0 : (List T_w3_Raw)), Le (w3_One.s k a0) (w3_One.s (k + 1) a0)
  | 0, _ => fun r h => (nomatch h)
  | k + 1, a0 => w3_One_m (w3_Raw_Make.mono k) a0
noncomputable def w3_One (a0 : (List T_w3_Raw)) : Option T_api_Expr := lim fun k => w3_One.s k a0
theorem w3_One.cv (a0 : (List T_w3_Raw)) : Cv (fun k => w3_One.s k a0) (w3_One a0) := .lim fun k => w3_One.mono k a0
theorem w3_One.eq (a0 : (List T_w3_Raw)) : w3_One a0 = w3_One_b w3_Raw_Make a0 := Cv.uniq (w3_One.cv a0).shift (w3_One_c w3_Raw_Make.cv a0)
def r3_Digits_e (r : ByteArray) : AV × Heap := (.sc (.string r), [])
def r3_Digits_b (c_r3_Digits : Int → Option ByteArray) (a0 : Int) : Option ByteArray := (bif (decide (a0 < (0 : Int))) then ((c_r3_Digits (w64 ((0 : Int) - a0))).bind fun (r1 : ByteArray) => (bif (decide (((h_2d.size + r1.size : Nat) : Int) ≤ IntKind.i64.max)) then (some (h_2d ++ r1)) else none)) else (bif (decide (a0 ≥ (10 : Int))) then ((c_r3_Digits (w64 (Int.tdiv a0 (10 : Int)))).bind fun (r2 : ByteArray) => ((c_r3_Digits (Int.tmod a0 (10 : Int))).bind fun (r3 : ByteArray) => (bif (decide (((r2.size + r3.size : Nat) : Int) ≤ IntKind.i64.max)) then (some (r2 ++ r3)) else none))) else ((some (listB [(IntKind.u8.wrap (w64 ((48 : Int) + a0)))])).bind fun (e4 : List UInt8) => (some (⟨e4.toArray⟩ : ByteArray)))))
def r3_Digits_t (P : Program) (call : CallF) (c_r3_Digits : Int → Option ByteArray) (a0 : Int) : Tr ByteArray (AV × Heap) := (.as (decide (a0 < (0 : Int))) (.call (call 25 [.sc (.int .i64 (w64 ((0 : Int) - a0)))] []) (c_r3_Digits (w64 ((0 : Int) - a0))) r3_Digits_e fun (r1 : ByteArray) => (.as (decide (((h_2d.size + r1.size : Nat) : Int) ≤ IntKind.i64.max)) (rt r3_Digits_e (h_2d ++ r1)) .fail)) (.as (decide (a0 ≥ (10 : Int))) (.yes (decide ((10 : Int) ≠ 0)) (.call (call 25 [.sc (.int .i64 (w64 (Int.tdiv a0 (10 : Int))))] []) (c_r3_Digits (w64 (Int.tdiv a0 (10 : Int)))) r3_Digits_e fun (r2 : ByteArray) => (.yes (decide ((10 : Int) ≠ 0)) (.call (call 25 [.sc (.int .i64 (Int.tmod a0 (10 : Int)))] []) (c_r3_Digits (Int.tmod a0 (10 : Int))) r3_Digits_e fun (r3 : ByteArray) => (.as (decide (((r2.size + r3.size : Nat) : Int) ≤ IntKind.i64.max)) (rt r3_Digits_e (r2 ++ r3)) .fail))))) (.rows [[.sc (.int .u8 (IntKind.u8.wrap (w64 ((48 : Int) + a0))))]] (R_u8 [(IntKind.u8.wrap (w64 ((48 : Int) + a0)))]) (.byt (bytesOfRows (R_u8 [(IntKind.u8.wrap (w64 ((48 : Int) + a0)))])) (some (listB [(IntKind.u8.wrap (w64 ((48 : Int) + a0)))])) fun (e4 : List UInt8) => (rt r3_Digits_e (⟨e4.toArray⟩ : ByteArray))))))
theorem r3_Digits_d (P : Program) (call : CallF) (c_r3_Digits : Int → Option ByteArray) (a0 : Int) : (r3_Digits_t P call c_r3_Digits a0).den = r3_Digits_b c_r3_Digits a0 := rfl
theorem r3_Digits_n (call : CallF) (c_r3_Digits : Int → Option ByteArray) (a0 : Int) : (r3_Digits_t Tryd.prog call c_r3_Digits a0).norm (bodyT Tryd.prog call G 25 [.sc (.int .i64 a0)] []) = r3_Digits_t Tryd.prog call c_r3_Digits a0 := by kernel_rfl
theorem r3_Digits_k (P : Program) (call : CallF) (lp : Loops) (c_r3_Digits : Int → Option ByteArray) (hc_r3_Digits : ∀ (a0 : Int) (r : ByteArray), c_r3_Digits a0 = some r → (call 25 [.sc (.int .i64 a0)] []) = some (r3_Digits_e r)) (a0 : Int) : (r3_Digits_t P call c_r3_Digits a0).ok lp r3_Digits_e := ⟨rfl, fun h0 => fun r1 hr1 => ⟨hc_r3_Digits _ _ hr1, ⟨rfl, fun h1 => rfl, fun h1 => trivial⟩⟩, fun h0 => ⟨rfl, fun h1 => ⟨rfl, fun r2 hr2 => ⟨hc_r3_Digits _ _ hr2, ⟨rfl, fun r3 hr3 => ⟨hc_r3_Digits _ _ hr3, ⟨rfl, fun h2 => rfl, fun h2 => trivial⟩⟩⟩⟩⟩, fun h1 => ⟨(R_u8_map [(IntKind.u8.wrap (w64 ((48 : Int) + a0)))]), fun e4 he4 => ⟨(R_u8_list _).trans he4, rfl⟩⟩⟩⟩
theorem r3_Digits_m {c_r3_Digits d_r3_Digits : Int → Option ByteArray} (h_r3_Digits : ∀ (a0 : Int), Le (c_r3_Digits a0) (d_r3_Digits a0)) (a0 : Int) : Le (r3_Digits_b c_r3_Digits a0) (r3_Digits_b d_r3_Digits a0) := by
  unfold r3_Digits_b
  exact .cond (.bind (h_r3_Digits _) fun r1 => .refl _) (.cond (.bind (h_r3_Digits _) fun r2 => .bind (h_r3_Digits _) fun r3 => .refl _) (.refl _))
theorem r3_Digits_c {c_r3_Digits : Nat → Int → Option ByteArray} {d_r3_Digits : Int → Option ByteArray} (h_r3_Digits : ∀ (a0 : Int), Cv (fun k => c_r3_Digits k a0) (d_r3_Digits a0)) (a0 : Int) : Cv (fun k => r3_Digits_b (c_r3_Digits k) a0) (r3_Digits_b d_r3_Digits a0) := by
  unfold r3_Digits_b
  exact .cond (.bind (h_r3_Digits _) fun r1 => by exact .const _) (.cond (.bind (h_r3_Digits _) fun r2 => .bind (h_r3_Digits _) fun r3 => by exact .const _) (by exact .const _))
def r3_Digits.s : Nat → Int → Option ByteArray
  | 0, _ => none
  | k + 1, a0 => r3_Digits_b (fun a0 => r3_Digits.s k a0) a0
termination_by structural k => k
theorem r3_Digits_all : ∀ (k : Nat), ∀ (a0 : Int) (r : ByteArray), r3_Digits.s k a0 = some r → evalFn Tryd.prog G k 25 [.sc (.int .i64 a0)] [] = some (r3_Digits_e r)
  | 0 => fun _ _ h => (nomatch h)
  | k + 1 => by
    have i_r3_Digits := r3_Digits_all k
    exact fun a0 r h => fn_ok rfl (r3_Digits_t Tryd.prog (evalFn Tryd.prog G k) (fun a0 => r3_Digits.s k a0) a0) (r3_Digits_n _ (fun a0 => r3_Digits.s k a0) a0) (r3_Digits_k _ _ _ (fun a0 => r3_Digits.s k a0) (i_r3_Digits)  a0) ((r3_Digits_d _ _ (fun a0 => r3_Digits.s k a0) a0).trans h)
theorem r3_Digits.ok (k : Nat) : ∀ (a0 : Int) (r : ByteArray), r3_Digits.s k a0 = some r → evalFn Tryd.prog G k 25 [.sc (.int .i64 a0)] [] = some (r3_Digits_e r) := (r3_Digits_all k)
theorem r3_Digits_mall : ∀ (k : Nat), (∀ (a0 : Int), Le (r3_Digits.s k a0) (r3_Digits.s (k + 1) a0))
  | 0 => fun _ _ h => (nomatch h)
  | k + 1 => by
    have i_r3_Digits := r3_Digits_mall k
    exact fun a0 => r3_Digits_m (i_r3_Digits) a0
theorem r3_Digits.mono (k : Nat) : ∀ (a0 : Int), Le (r3_Digits.s k a0) (r3_Digits.s (k + 1) a0) := (r3_Digits_mall k)
noncomputable def r3_Digits (a0 : Int) : Option ByteArray := lim fun k => r3_Digits.s k a0
theorem r3_Digits.cv (a0 : Int) : Cv (fun k => r3_Digits.s k a0) (r3_Digits a0) := .lim fun k => r3_Digits.mono k a0
theorem r3_Digits.eq (a0 : Int) : r3_Digits a0 = r3_Digits_b r3_Digits a0 := Cv.uniq (r3_Digits.cv a0).shift (r3_Digits_c r3_Digits.cv a0)
def r3_sign_e (r : (ByteArray × Int)) : AV × Heap := (.tup [.sc (.string r.1), .sc (.int .i64 r.2)], [])
def r3_sign_b  (a0 : Int) : Option (ByteArray × Int) := (bif (a0 == (5 : Int)) then (some (h_2b, (3 : Int))) else (bif (a0 == (6 : Int)) then (some (h_2d, (3 : Int))) else (bif (a0 == (7 : Int)) then (some (h_2a, (4 : Int))) else (bif (a0 == (8 : Int)) then (some (h_26, (1 : Int))) else (bif (a0 == (9 : Int)) then (some (h_7c, (0 : Int))) else (bif (a0 == (10 : Int)) then (some (h_3c3c, (2 : Int))) else (some (h_3e3e, (2 : Int)))))))))
def r3_sign_t (P : Program) (call : CallF)  (a0 : Int) : Tr (ByteArray × Int) (AV × Heap) := (.as (a0 == (5 : Int)) (rt r3_sign_e (h_2b, (3 : Int))) (.as (a0 == (6 : Int)) (rt r3_sign_e (h_2d, (3 : Int))) (.as (a0 == (7 : Int)) (rt r3_sign_e (h_2a, (4 : Int))) (.as (a0 == (8 : Int)) (rt r3_sign_e (h_26, (1 : Int))) (.as (a0 == (9 : Int)) (rt r3_sign_e (h_7c, (0 : Int))) (.as (a0 == (10 : Int)) (rt r3_sign_e (h_3c3c, (2 : Int))) (rt r3_sign_e (h_3e3e, (2 : Int)))))))))
theorem r3_sign_d (P : Program) (call : CallF)  (a0 : Int) : (r3_sign_t P call  a0).den = r3_sign_b  a0 := rfl
theorem r3_sign_n (call : CallF)  (a0 : Int) : (r3_sign_t Tryd.prog call  a0).norm (bodyT Tryd.prog call G 32 [.sc (.int .i64 a0)] []) = r3_sign_t Tryd.prog call  a0 := by kernel_rfl
theorem r3_sign_k (P : Program) (call : CallF) (lp : Loops)   (a0 : Int) : (r3_sign_t P call  a0).ok lp r3_sign_e := ⟨rfl, fun h0 => rfl, fun h0 => ⟨rfl, fun h1 => rfl, fun h1 => ⟨rfl, fun h2 => rfl, fun h2 => ⟨rfl, fun h3 => rfl, fun h3 => ⟨rfl, fun h4 => rfl, fun h4 => ⟨rfl, fun h5 => rfl, fun h5 => rfl⟩⟩⟩⟩⟩⟩
def r3_sign.s : Nat → Int → Option (ByteArray × Int)
  | 0, _ => none
  | k + 1, a0 => r3_sign_b  a0
theorem r3_sign.ok : ∀ (k : Nat), ∀ (a0 : Int) (r : (ByteArray × Int)), r3_sign.s k a0 = some r → evalFn Tryd.prog G k 32 [.sc (.int .i64 a0)] [] = some (r3_sign_e r)
  | 0, _, _, h => (nomatch h)
  | k + 1, a0, r, h => fn_ok rfl (r3_sign_t Tryd.prog (evalFn Tryd.prog G k)  a0) (r3_sign_n _  a0) (r3_sign_k _ _ _    a0) ((r3_sign_d _ _  a0).trans h)
theorem r3_sign.mono : ∀ (k : Nat) (a0 : Int), Le (r3_sign.s k a0) (r3_sign.s (k + 1) a0)
  | 0, _ => fun r h => (nomatch h)
  | k + 1, a0 => .refl _
noncomputable def r3_sign (a0 : Int) : Option (ByteArray × Int) := lim fun k => r3_sign.s k a0
theorem r3_sign.cv (a0 : Int) : Cv (fun k => r3_sign.s k a0) (r3_sign a0) := .lim fun k => r3_sign.mono k a0
theorem r3_sign.eq (a0 : Int) : r3_sign a0 = r3_sign_b  a0 := Cv.uniq (r3_sign.cv a0).shift (by exact .const _)
def r3_bracketed_e (r : ByteArray) : AV × Heap := (.sc (.string r), [])
def r3_Text_e (r : ByteArray) : AV × Heap := (.sc (.string r), [])
def r3_bracketed_b (c_r3_Text : T_api_Expr → Option ByteArray) (a0 : T_api_Expr) : Option ByteArray := (bif ((((a0.L.length) : Nat) : Int) == (2 : Int)) then ((c_r3_Text a0).bind fun (r1 : ByteArray) => (bif (decide (((h_28.size + r1.size : Nat) : Int) ≤ IntKind.i64.max)) then (bif (decide ((((h_28 ++ r1).size + h_29.size : Nat) : Int) ≤ IntKind.i64.max)) then (some ((h_28 ++ r1) ++ h_29)) else none) else none)) else ((c_r3_Text a0).bind fun (r2 : ByteArray) => (some r2)))
def r3_bracketed_t (P : Program) (call : CallF) (c_r3_Text : T_api_Expr → Option ByteArray) (a0 : T_api_Expr) : Tr ByteArray (AV × Heap) := (.num ((R_api_Expr a0.L).length) (a0.L.length) (.as ((((a0.L.length) : Nat) : Int) == (2 : Int)) (.call (call 16 [.agg (C_api_Expr a0)] []) (c_r3_Text a0) r3_Text_e fun (r1 : ByteArray) => (.as (decide (((h_28.size + r1.size : Nat) : Int) ≤ IntKind.i64.max)) (.as (decide ((((h_28 ++ r1).size + h_29.size : Nat) : Int) ≤ IntKind.i64.max)) (rt r3_bracketed_e ((h_28 ++ r1) ++ h_29)) .fail) .fail)) (.call (call 16 [.agg (C_api_Expr a0)] []) (c_r3_Text a0) r3_Text_e fun (r2 : ByteArray) => (rt r3_bracketed_e r2))))
theorem r3_bracketed_d (P : Program) (call : CallF) (c_r3_Text : T_api_Expr → Option ByteArray) (a0 : T_api_Expr) : (r3_bracketed_t P call c_r3_Text a0).den = r3_bracketed_b c_r3_Text a0 := rfl
theorem r3_bracketed_n (call : CallF) (c_r3_Text : T_api_Expr → Option ByteArray) (a0 : T_api_Expr) : (r3_bracketed_t Tryd.prog call c_r3_Text a0).norm (bodyT Tryd.prog call G 31 [.agg (C_api_Expr a0)] []) = r3_bracketed_t Tryd.prog call c_r3_Text a0 := by kernel_rfl
theorem r3_bracketed_k (P : Program) (call : CallF) (lp : Loops) (c_r3_Text : T_api_Expr → Option ByteArray) (hc_r3_Text : ∀ (a0 : T_api_Expr) (r : ByteArray), c_r3_Text a0 = some r → (call 16 [.agg (C_api_Expr a0)] []) = some (r3_Text_e r)) (a0 : T_api_Expr) : (r3_bracketed_t P call c_r3_Text a0).ok lp r3_bracketed_e := ⟨(R_api_Expr_len _), ⟨rfl, fun h0 => fun r1 hr1 => ⟨hc_r3_Text _ _ hr1, ⟨rfl, fun h1 => ⟨rfl, fun h2 => rfl, fun h2 => trivial⟩, fun h1 => trivial⟩⟩, fun h0 => fun r2 hr2 => ⟨hc_r3_Text _ _ hr2, rfl⟩⟩⟩
theorem r3_bracketed_m {c_r3_Text d_r3_Text : T_api_Expr → Option ByteArray} (h_r3_Text : ∀ (a0 : T_api_Expr), Le (c_r3_Text a0) (d_r3_Text a0)) (a0 : T_api_Expr) : Le (r3_bracketed_b c_r3_Text a0) (r3_bracketed_b d_r3_Text a0) := by
  unfold r3_bracketed_b
  exact .cond (.bind (h_r3_Text _) fun r1 => .refl _) (.bind (h_r3_Text _) fun r2 => .refl _)
theorem r3_bracketed_c {c_r3_Text : Nat → T_api_Expr → Option ByteArray} {d_r3_Text : T_api_Expr → Option ByteArray} (h_r3_Text : ∀ (a0 : T_api_Expr), Cv (fun k => c_r3_Text k a0) (d_r3_Text a0)) (a0 : T_api_Expr) : Cv (fun k => r3_bracketed_b (c_r3_Text k) a0) (r3_bracketed_b d_r3_Text a0) := by
  unfold r3_bracketed_b
  exact .cond (.bind (h_r3_Text _) fun r1 => by exact .const _) (.bind (h_r3_Text _) fun r2 => by exact .const _)
def r3_Text_b (c_r3_Digits : Int → Option ByteArray) (c_r3_bracketed : T_api_Expr → Option ByteArray) (c_r3_sign : Int → Option (ByteArray × Int)) (a0 : T_api_Expr) : Option ByteArray := (bif (a0.Kind == (1 : Int)) then ((c_r3_Digits a0.N).bind fun (r1 : ByteArray) => (some r1)) else (bif (a0.Kind == (2 : Int)) then (some a0.Name) else (bif (a0.Kind == (3 : Int)) then (some h_2e) else (bif (a0.Kind == (4 : Int)) then ((a0.L[(Int.toNat (0 : Int))]?).bind fun (e2 : T_api_Expr) => ((c_r3_bracketed e2).bind fun (r3 : ByteArray) => (bif (decide (((h_2d.size + r3.size : Nat) : Int) ≤ IntKind.i64.max)) then (some (h_2d ++ r3)) else none))) else ((c_r3_sign a0.Kind).bind fun (r4 : (ByteArray × Int)) => ((a0.L[(Int.toNat (0 : Int))]?).bind fun (e5 : T_api_Expr) => ((c_r3_bracketed e5).bind fun (r6 : ByteArray) => (bif (decide (((r6.size + h_20.size : Nat) : Int) ≤ IntKind.i64.max)) then (bif (decide ((((r6 ++ h_20).size + r4.1.size : Nat) : Int) ≤ IntKind.i64.max)) then (bif (decide (((((r6 ++ h_20) ++ r4.1).size + h_20.size : Nat) : Int) ≤ IntKind.i64.max)) then ((a0.L[(Int.toNat (1 : Int))]?).bind fun (e7 : T_api_Expr) => ((c_r3_bracketed e7).bind fun (r8 : ByteArray) => (bif (decide ((((((r6 ++ h_20) ++ r4.1) ++ h_20).size + r8.size : Nat) : Int) ≤ IntKind.i64.max)) then (some ((((r6 ++ h_20) ++ r4.1) ++ h_20) ++ r8)) else none))) else none) else none) else none))))))))
def r3_Text_t (P : Program) (call : CallF) (c_r3_Digits : Int → Option ByteArray) (c_r3_bracketed : T_api_Expr → Option ByteArray) (c_r3_sign : Int → Option (ByteArray × Int)) (a0 : T_api_Expr) : Tr ByteArray (AV × Heap) := (.as (a0.Kind == (1 : Int)) (.call (call 25 [.sc (.int .i64 a0.N)] []) (c_r3_Digits a0.N) r3_Digits_e fun (r1 : ByteArray) => (rt r3_Text_e r1)) (.as (a0.Kind == (2 : Int)) (rt r3_Text_e a0.Name) (.as (a0.Kind == (3 : Int)) (rt r3_Text_e h_2e) (.as (a0.Kind == (4 : Int)) (.yes (decide (0 ≤ (0 : Int))) (.row ((R_api_Expr a0.L)[(Int.toNat (0 : Int))]?) (a0.L[(Int.toNat (0 : Int))]?) C_api_Expr fun (e2 : T_api_Expr) => (.call (call 31 [.agg (C_api_Expr e2)] []) (c_r3_bracketed e2) r3_bracketed_e fun (r3 : ByteArray) => (.as (decide (((h_2d.size + r3.size : Nat) : Int) ≤ IntKind.i64.max)) (rt r3_Text_e (h_2d ++ r3)) .fail)))) (.call (call 32 [.sc (.int .i64 a0.Kind)] []) (c_r3_sign a0.Kind) r3_sign_e fun (r4 : (ByteArray × Int)) => (.yes (decide (0 ≤ (0 : Int))) (.row ((R_api_Expr a0.L)[(Int.toNat (0 : Int))]?) (a0.L[(Int.toNat (0 : Int))]?) C_api_Expr fun (e5 : T_api_Expr) => (.call (call 31 [.agg (C_api_Expr e5)] []) (c_r3_bracketed e5) r3_bracketed_e fun (r6 : ByteArray) => (.as (decide (((r6.size + h_20.size : Nat) : Int) ≤ IntKind.i64.max)) (.as (decide ((((r6 ++ h_20).size + r4.1.size : Nat) : Int) ≤ IntKind.i64.max)) (.as (decide (((((r6 ++ h_20) ++ r4.1).size + h_20.size : Nat) : Int) ≤ IntKind.i64.max)) (.yes (decide (0 ≤ (1 : Int))) (.row ((R_api_Expr a0.L)[(Int.toNat (1 : Int))]?) (a0.L[(Int.toNat (1 : Int))]?) C_api_Expr fun (e7 : T_api_Expr) => (.call (call 31 [.agg (C_api_Expr e7)] []) (c_r3_bracketed e7) r3_bracketed_e fun (r8 : ByteArray) => (.as (decide ((((((r6 ++ h_20) ++ r4.1) ++ h_20).size + r8.size : Nat) : Int) ≤ IntKind.i64.max)) (rt r3_Text_e ((((r6 ++ h_20) ++ r4.1) ++ h_20) ++ r8)) .fail)))) .fail) .fail) .fail)))))))))
theorem r3_Text_d (P : Program) (call : CallF) (c_r3_Digits : Int → Option ByteArray) (c_r3_bracketed : T_api_Expr → Option ByteArray) (c_r3_sign : Int → Option (ByteArray × Int)) (a0 : T_api_Expr) : (r3_Text_t P call c_r3_Digits c_r3_bracketed c_r3_sign a0).den = r3_Text_b c_r3_Digits c_r3_bracketed c_r3_sign a0 := rfl
theorem r3_Text_n (call : CallF) (c_r3_Digits : Int → Option ByteArray) (c_r3_bracketed : T_api_Expr → Option ByteArray) (c_r3_sign : Int → Option (ByteArray × Int)) (a0 : T_api_Expr) : (r3_Text_t Tryd.prog call c_r3_Digits c_r3_bracketed c_r3_sign a0).norm (bodyT Tryd.prog call G 16 [.agg (C_api_Expr a0)] []) = r3_Text_t Tryd.prog call c_r3_Digits c_r3_bracketed c_r3_sign a0 := by kernel_rfl
theorem r3_Text_k (P : Program) (call : CallF) (lp : Loops) (c_r3_Digits : Int → Option ByteArray) (c_r3_bracketed : T_api_Expr → Option ByteArray) (c_r3_sign : Int → Option (ByteArray × Int)) (hc_r3_Digits : ∀ (a0 : Int) (r : ByteArray), c_r3_Digits a0 = some r → (call 25 [.sc (.int .i64 a0)] []) = some (r3_Digits_e r)) (hc_r3_bracketed : ∀ (a0 : T_api_Expr) (r : ByteArray), c_r3_bracketed a0 = some r → (call 31 [.agg (C_api_Expr a0)] []) = some (r3_bracketed_e r)) (hc_r3_sign : ∀ (a0 : Int) (r : (ByteArray × Int)), c_r3_sign a0 = some r → (call 32 [.sc (.int .i64 a0)] []) = some (r3_sign_e r)) (a0 : T_api_Expr) : (r3_Text_t P call c_r3_Digits c_r3_bracketed c_r3_sign a0).ok lp r3_Text_e := ⟨rfl, fun h0 => fun r1 hr1 => ⟨hc_r3_Digits _ _ hr1, rfl⟩, fun h0 => ⟨rfl, fun h1 => rfl, fun h1 => ⟨rfl, fun h2 => rfl, fun h2 => ⟨rfl, fun h3 => ⟨rfl, fun e2 he2 => ⟨R_api_Expr_get he2, fun r3 hr3 => ⟨hc_r3_bracketed _ _ hr3, ⟨rfl, fun h4 => rfl, fun h4 => trivial⟩⟩⟩⟩, fun h3 => fun r4 hr4 => ⟨hc_r3_sign _ _ hr4, ⟨rfl, fun e5 he5 => ⟨R_api_Expr_get he5, fun r6 hr6 => ⟨hc_r3_bracketed _ _ hr6, ⟨rfl, fun h4 => ⟨rfl, fun h5 => ⟨rfl, fun h6 => ⟨rfl, fun e7 he7 => ⟨R_api_Expr_get he7, fun r8 hr8 => ⟨hc_r3_bracketed _ _ hr8, ⟨rfl, fun h7 => rfl, fun h7 => trivial⟩⟩⟩⟩, fun h6 => trivial⟩, fun h5 => trivial⟩, fun h4 => trivial⟩⟩⟩⟩⟩⟩⟩⟩⟩
theorem r3_Text_m {c_r3_Digits d_r3_Digits : Int → Option ByteArray} (h_r3_Digits : ∀ (a0 : Int), Le (c_r3_Digits a0) (d_r3_Digits a0)) {c_r3_bracketed d_r3_bracketed : T_api_Expr → Option ByteArray} (h_r3_bracketed : ∀ (a0 : T_api_Expr), Le (c_r3_bracketed a0) (d_r3_bracketed a0)) {c_r3_sign d_r3_sign : Int → Option (ByteArray × Int)} (h_r3_sign : ∀ (a0 : Int), Le (c_r3_sign a0) (d_r3_sign a0)) (a0 : T_api_Expr) : Le (r3_Text_b c_r3_Digits c_r3_bracketed c_r3_sign a0) (r3_Text_b d_r3_Digits d_r3_bracketed d_r3_sign a0) := by
  unfold r3_Text_b
  exact .cond (.bind (h_r3_Digits _) fun r1 => .refl _) (.cond (.refl _) (.cond (.refl _) (.cond (.bind (.refl (a0.L[(Int.toNat (0 : Int))]?)) fun e2 => .bind (h_r3_bracketed _) fun r3 => .refl _) (.bind (h_r3_sign _) fun r4 => .bind (.refl (a0.L[(Int.toNat (0 : Int))]?)) fun e5 => .bind (h_r3_bracketed _) fun r6 => .cond (.cond (.cond (.bind (.refl (a0.L[(Int.toNat (1 : Int))]?)) fun e7 => .bind (h_r3_bracketed _) fun r8 => .refl _) (.refl _)) (.refl _)) (.refl _)))))
theorem r3_Text_c {c_r3_Digits : Nat → Int → Option ByteArray} {d_r3_Digits : Int → Option ByteArray} (h_r3_Digits : ∀ (a0 : Int), Cv (fun k => c_r3_Digits k a0) (d_r3_Digits a0)) {c_r3_bracketed : Nat → T_api_Expr → Option ByteArray} {d_r3_bracketed : T_api_Expr → Option ByteArray} (h_r3_bracketed : ∀ (a0 : T_api_Expr), Cv (fun k => c_r3_bracketed k a0) (d_r3_bracketed a0)) {c_r3_sign : Nat → Int → Option (ByteArray × Int)} {d_r3_sign : Int → Option (ByteArray × Int)} (h_r3_sign : ∀ (a0 : Int), Cv (fun k => c_r3_sign k a0) (d_r3_sign a0)) (a0 : T_api_Expr) : Cv (fun k => r3_Text_b (c_r3_Digits k) (c_r3_bracketed k) (c_r3_sign k) a0) (r3_Text_b d_r3_Digits d_r3_bracketed d_r3_sign a0) := by
  unfold r3_Text_b
  exact .cond (.bind (h_r3_Digits _) fun r1 => by exact .const _) (.cond (by exact .const _) (.cond (by exact .const _) (.cond (.bind (.const (a0.L[(Int.toNat (0 : Int))]?)) fun e2 => .bind (h_r3_bracketed _) fun r3 => by exact .const _) (.bind (h_r3_sign _) fun r4 => .bind (.const (a0.L[(Int.toNat (0 : Int))]?)) fun e5 => .bind (h_r3_bracketed _) fun r6 => .cond (.cond (.cond (.bind (.const (a0.L[(Int.toNat (1 : Int))]?)) fun e7 => .bind (h_r3_bracketed _) fun r8 => by exact .const _) (by exact .const _)) (by exact .const _)) (by exact .const _)))))
mutual
def r3_bracketed.s : Nat → T_api_Expr → Option ByteArray
  | 0, _ => none
  | k + 1, a0 => r3_bracketed_b (fun a0 => r3_Text.s k a0) a0
termination_by structural k => k
def r3_Text.s : Nat → T_api_Expr → Option ByteArray
  | 0, _ => none
  | k + 1, a0 => r3_Text_b (fun a0 => r3_Digits.s k a0) (fun a0 => r3_bracketed.s k a0) (fun a0 => r3_sign.s k a0) a0
termination_by structural k => k
end
theorem r3_bracketed_all : ∀ (k : Nat), (∀ (a0 : T_api_Expr) (r : ByteArray), r3_bracketed.s k a0 = some r → evalFn Tryd.prog G k 31 [.agg (C_api_Expr a0)] [] = some (r3_bracketed_e r)) ∧ (∀ (a0 : T_api_Expr) (r : ByteArray), r3_Text.s k a0 = some r → evalFn Tryd.prog G k 16 [.agg (C_api_Expr a0)] [] = some (r3_Text_e r))
  | 0 => ⟨fun _ _ h => (nomatch h), fun _ _ h => (nomatch h)⟩
  | k + 1 => by
    obtain ⟨i_r3_bracketed, i_r3_Text⟩ := r3_bracketed_all k
    exact ⟨fun a0 r h => fn_ok rfl (r3_bracketed_t Tryd.prog (evalFn Tryd.prog G k) (fun a0 => r3_Text.s k a0) a0) (r3_bracketed_n _ (fun a0 => r3_Text.s k a0) a0) (r3_bracketed_k _ _ _ (fun a0 => r3_Text.s k a0) (i_r3_Text)  a0) ((r3_bracketed_d _ _ (fun a0 => r3_Text.s k a0) a0).trans h),
      fun a0 r h => fn_ok rfl (r3_Text_t Tryd.prog (evalFn Tryd.prog G k) (fun a0 => r3_Digits.s k a0) (fun a0 => r3_bracketed.s k a0) (fun a0 => r3_sign.s k a0) a0) (r3_Text_n _ (fun a0 => r3_Digits.s k a0) (fun a0 => r3_bracketed.s k a0) (fun a0 => r3_sign.s k a0) a0) (r3_Text_k _ _ _ (fun a0 => r3_Digits.s k a0) (fun a0 => r3_bracketed.s k a0) (fun a0 => r3_sign.s k a0) (r3_Digits.ok k) (i_r3_bracketed) (r3_sign.ok k)  a0) ((r3_Text_d _ _ (fun a0 => r3_Digits.s k a0) (fun a0 => r3_bracketed.s k a0) (fun a0 => r3_sign.s k a0) a0).trans h)⟩
theorem r3_bracketed.ok (k : Nat) : ∀ (a0 : T_api_Expr) (r : ByteArray), r3_bracketed.s k a0 = some r → evalFn Tryd.prog G k 31 [.agg (C_api_Expr a0)] [] = some (r3_bracketed_e r) := (r3_bracketed_all k).1
theorem r3_Text.ok (k : Nat) : ∀ (a0 : T_api_Expr) (r : ByteArray), r3_Text.s k a0 = some r → evalFn Tryd.prog G k 16 [.agg (C_api_Expr a0)] [] = some (r3_Text_e r) := (r3_bracketed_all k).2
theorem r3_bracketed_mall : ∀ (k : Nat), (∀ (a0 : T_api_Expr), Le (r3_bracketed.s k a0) (r3_bracketed.s (k + 1) a0)) ∧ (∀ (a0 : T_api_Expr), Le (r3_Text.s k a0) (r3_Text.s (k + 1) a0))
  | 0 => ⟨fun _ _ h => (nomatch h), fun _ _ h => (nomatch h)⟩
  | k + 1 => by
    obtain ⟨i_r3_bracketed, i_r3_Text⟩ := r3_bracketed_mall k
    exact ⟨fun a0 => r3_bracketed_m (i_r3_Text) a0,
      fun a0 => r3_Text_m (r3_Digits.mono k) (i_r3_bracketed) (r3_sign.mono k) a0⟩
theorem r3_bracketed.mono (k : Nat) : ∀ (a0 : T_api_Expr), Le (r3_bracketed.s k a0) (r3_bracketed.s (k + 1) a0) := (r3_bracketed_mall k).1
theorem r3_Text.mono (k : Nat) : ∀ (a0 : T_api_Expr), Le (r3_Text.s k a0) (r3_Text.s (k + 1) a0) := (r3_bracketed_mall k).2
noncomputable def r3_bracketed (a0 : T_api_Expr) : Option ByteArray := lim fun k => r3_bracketed.s k a0
theorem r3_bracketed.cv (a0 : T_api_Expr) : Cv (fun k => r3_bracketed.s k a0) (r3_bracketed a0) := .lim fun k => r3_bracketed.mono k a0
noncomputable def r3_Text (a0 : T_api_Expr) : Option ByteArray := lim fun k => r3_Text.s k a0
theorem r3_Text.cv (a0 : T_api_Expr) : Cv (fun k => r3_Text.s k a0) (r3_Text a0) := .lim fun k => r3_Text.mono k a0
theorem r3_bracketed.eq (a0 : T_api_Expr) : r3_bracketed a0 = r3_bracketed_b r3_Text a0 := Cv.uniq (r3_bracketed.cv a0).shift (r3_bracketed_c r3_Text.cv a0)
theorem r3_Text.eq (a0 : T_api_Expr) : r3_Text a0 = r3_Text_b r3_Digits r3_bracketed r3_sign a0 := Cv.uniq (r3_Text.cv a0).shift (r3_Text_c r3_Digits.cv r3_bracketed.cv r3_sign.cv a0)
def r3_Same_e (r : Bool) : AV × Heap := (.sc (.bool r), [])
structure r3_Same_L1_A where
  x5 : Int
  h0 : T_api_Expr
  h1 : T_api_Expr
def r3_Same_L1_s (a : r3_Same_L1_A) : St := { n := 53, nx := 2, env := [(2, .ptr 0 0), (3, .ptr 1 0), (5, .sc (.int .i64 a.x5))], heap := [(0, .box [] (C_api_Expr a.h0)), (1, .box [] (C_api_Expr a.h1))] }
def r3_Same_L1_e0 (a : Bool) : Ex × St := (.ret, { n := 53, nx := 0, env := [(4, .sc (.bool a))], heap := [] })
def r3_Same_L1_e1 (a : Unit) : Ex × St := (.exit 0, { n := 53, nx := 0, env := [], heap := [] })
def r3_Same_L1_e (a : (Bool ⊕ Unit)) : Ex × St := Sum.elim r3_Same_L1_e0 r3_Same_L1_e1 a
def r3_Same_L1_b (c_r3_Same : T_api_Expr → T_api_Expr → Option Bool) (a : r3_Same_L1_A) : Option (r3_Same_L1_A ⊕ (Bool ⊕ Unit)) := (bif (decide (a.x5 < (((a.h0.L.length) : Nat) : Int))) then (bif (decide (0 ≤ a.x5)) then ((a.h0.L[(Int.toNat a.x5)]?).bind fun (e1 : T_api_Expr) => ((a.h1.L[(Int.toNat a.x5)]?).bind fun (e2 : T_api_Expr) => ((c_r3_Same e1 e2).bind fun (r3 : Bool) => (bif (!r3) then (some (.inr (.inl false))) else (some (.inl (r3_Same_L1_A.mk (w64 (a.x5 + (1 : Int))) a.h0 a.h1))))))) else none) else (some (.inr (.inr ()))))
def r3_Same_L1_t (P : Program) (call : CallF) (c_r3_Same : T_api_Expr → T_api_Expr → Option Bool) (a : r3_Same_L1_A) : Tr (r3_Same_L1_A ⊕ (Bool ⊕ Unit)) (Ex × St) := (.num ((R_api_Expr a.h0.L).length) (a.h0.L.length) (.as (decide (a.x5 < (((a.h0.L.length) : Nat) : Int))) (.as (decide (0 ≤ a.x5)) (.row ((R_api_Expr a.h0.L)[(Int.toNat a.x5)]?) (a.h0.L[(Int.toNat a.x5)]?) C_api_Expr fun (e1 : T_api_Expr) => (.yes (decide (0 ≤ a.x5)) (.row ((R_api_Expr a.h1.L)[(Int.toNat a.x5)]?) (a.h1.L[(Int.toNat a.x5)]?) C_api_Expr fun (e2 : T_api_Expr) => (.call (call 21 [.agg (C_api_Expr e1), .agg (C_api_Expr e2)] []) (c_r3_Same e1 e2) r3_Same_e fun (r3 : Bool) => (.as (!r3) (rx r3_Same_L1_e (.inl false)) (lf r3_Same_L1_s (r3_Same_L1_A.mk (w64 (a.x5 + (1 : Int))) a.h0 a.h1))))))) .fail) (rx r3_Same_L1_e (.inr ()))))
theorem r3_Same_L1_d (P : Program) (call : CallF) (c_r3_Same : T_api_Expr → T_api_Expr → Option Bool) (a : r3_Same_L1_A) : (r3_Same_L1_t P call c_r3_Same a).den = r3_Same_L1_b c_r3_Same a := rfl
theorem r3_Same_L1_n (call : CallF) (c_r3_Same : T_api_Expr → T_api_Expr → Option Bool) (a : r3_Same_L1_A) : (r3_Same_L1_t Tryd.prog call c_r3_Same a).norm (roundT Tryd.prog G.kd call 0 (G.an 21) (loopAt Tryd.prog 21 4) (r3_Same_L1_s a)) = r3_Same_L1_t Tryd.prog call c_r3_Same a := by kernel_rfl
theorem r3_Same_L1_k (P : Program) (call : CallF) (lp : Loops) (c_r3_Same : T_api_Expr → T_api_Expr → Option Bool) (hc_r3_Same : ∀ (a0 : T_api_Expr) (a1 : T_api_Expr) (r : Bool), c_r3_Same a0 a1 = some r → (call 21 [.agg (C_api_Expr a0), .agg (C_api_Expr a1)] []) = some (r3_Same_e r)) (a : r3_Same_L1_A) : (r3_Same_L1_t P call c_r3_Same a).ok lp (Sum.elim (fun a => (.norm, r3_Same_L1_s a)) r3_Same_L1_e) := ⟨(R_api_Expr_len _), ⟨rfl, fun h0 => ⟨rfl, fun h1 => fun e1 he1 => ⟨R_api_Expr_get he1, ⟨h1, fun e2 he2 => ⟨R_api_Expr_get he2, fun r3 hr3 => ⟨hc_r3_Same _ _ _ hr3, ⟨rfl, fun h2 => rfl, fun h2 => rfl⟩⟩⟩⟩⟩, fun h1 => trivial⟩, fun h0 => rfl⟩⟩
theorem r3_Same_L1_m {c_r3_Same d_r3_Same : T_api_Expr → T_api_Expr → Option Bool} (h_r3_Same : ∀ (a0 : T_api_Expr) (a1 : T_api_Expr), Le (c_r3_Same a0 a1) (d_r3_Same a0 a1)) (a : r3_Same_L1_A) : Le (r3_Same_L1_b c_r3_Same a) (r3_Same_L1_b d_r3_Same a) := by
  unfold r3_Same_L1_b
  exact .cond (.cond (.bind (.refl (a.h0.L[(Int.toNat a.x5)]?)) fun e1 => .bind (.refl (a.h1.L[(Int.toNat a.x5)]?)) fun e2 => .bind (h_r3_Same _ _) fun r3 => .refl _) (.refl _)) (.refl _)
theorem r3_Same_L1_c {c_r3_Same : Nat → T_api_Expr → T_api_Expr → Option Bool} {d_r3_Same : T_api_Expr → T_api_Expr → Option Bool} (h_r3_Same : ∀ (a0 : T_api_Expr) (a1 : T_api_Expr), Cv (fun k => c_r3_Same k a0 a1) (d_r3_Same a0 a1)) (a : r3_Same_L1_A) : Cv (fun k => r3_Same_L1_b (c_r3_Same k) a) (r3_Same_L1_b d_r3_Same a) := by
  unfold r3_Same_L1_b
  exact .cond (.cond (.bind (.const (a.h0.L[(Int.toNat a.x5)]?)) fun e1 => .bind (.const (a.h1.L[(Int.toNat a.x5)]?)) fun e2 => .bind (h_r3_Same _ _) fun r3 => by exact .const _) (by exact .const _)) (by exact .const _)
def r3_Same_L1.s (k : Nat) (c_r3_Same : T_api_Expr → T_api_Expr → Option Bool) : r3_Same_L1_A → Option (Bool ⊕ Unit) := iter (r3_Same_L1_b c_r3_Same) k
theorem r3_Same_L1_ok (call : CallF) (k : Nat) (c_r3_Same : T_api_Expr → T_api_Expr → Option Bool) (hc_r3_Same : ∀ (a0 : T_api_Expr) (a1 : T_api_Expr) (r : Bool), c_r3_Same a0 a1 = some r → (call 21 [.agg (C_api_Expr a0), .agg (C_api_Expr a1)] []) = some (r3_Same_e r)) (a : r3_Same_L1_A) (r : (Bool ⊕ Unit)) (h : r3_Same_L1.s k c_r3_Same a = some r) : loopsF Tryd.prog G.kd call 0 (G.an 21) k (loopAt Tryd.prog 21 4) (r3_Same_L1_s a) = some (r3_Same_L1_e r) :=
  loop_ok (fun a => r3_Same_L1_t Tryd.prog call c_r3_Same a) (fun a => r3_Same_L1_d _ call c_r3_Same a) (fun a => r3_Same_L1_n call c_r3_Same a) (fun a => r3_Same_L1_k _ call _ c_r3_Same hc_r3_Same a) (fun r => by cases r <;> nofun) h
theorem r3_Same_L1.m {j k : Nat} (hj : j ≤ k) (c_r3_Same : T_api_Expr → T_api_Expr → Option Bool) (d_r3_Same : T_api_Expr → T_api_Expr → Option Bool) (h_r3_Same : ∀ (a0 : T_api_Expr) (a1 : T_api_Expr), Le (c_r3_Same a0 a1) (d_r3_Same a0 a1)) (a : r3_Same_L1_A) : Le (r3_Same_L1.s j c_r3_Same a) (r3_Same_L1.s k d_r3_Same a) := Le.iter (fun a => r3_Same_L1_m h_r3_Same a) hj a
noncomputable def r3_Same_L1.w (c_r3_Same : T_api_Expr → T_api_Expr → Option Bool) : r3_Same_L1_A → Option (Bool ⊕ Unit) := loopW (r3_Same_L1_b c_r3_Same)
theorem r3_Same_L1.cv (c_r3_Same : Nat → T_api_Expr → T_api_Expr → Option Bool) (d_r3_Same : T_api_Expr → T_api_Expr → Option Bool) (h_r3_Same : ∀ (a0 : T_api_Expr) (a1 : T_api_Expr), Cv (fun k => c_r3_Same k a0 a1) (d_r3_Same a0 a1)) (a : r3_Same_L1_A) : Cv (fun k => r3_Same_L1.s k (c_r3_Same k) a) (r3_Same_L1.w d_r3_Same a) := Cv.iter (fun a => r3_Same_L1_c h_r3_Same a) a
def r3_Same_b (l_r3_Same_L1 : r3_Same_L1_A → Option (Bool ⊕ Unit)) (a0 : T_api_Expr) (a1 : T_api_Expr) : Option Bool := (bif (a0.Kind != a1.Kind) then (some false) else (bif (a0.N != a1.N) then (some false) else (bif (!(eqS a0.Name a1.Name)) then (some false) else (bif ((((a0.L.length) : Nat) : Int) != (((a1.L.length) : Nat) : Int)) then (some false) else ((l_r3_Same_L1 (r3_Same_L1_A.mk (0 : Int) a0 a1)).bind fun x => Sum.elim (fun (o1 : Bool) => (some o1)) (fun (o2 : Unit) => (some true)) x)))))
def r3_Same_t (P : Program) (call : CallF) (l_r3_Same_L1 : r3_Same_L1_A → Option (Bool ⊕ Unit)) (a0 : T_api_Expr) (a1 : T_api_Expr) : Tr Bool (AV × Heap) := (.as (a0.Kind != a1.Kind) (yesN 5 (a0.Kind != a1.Kind) (yesN 15 true (rt r3_Same_e false))) (noN 5 (a0.Kind != a1.Kind) (.as (a0.N != a1.N) (yesN 5 (a0.N != a1.N) (yesN 9 true (rt r3_Same_e false))) (noN 5 (a0.N != a1.N) (.as (!(eqS a0.Name a1.Name)) (yesN 7 (!(eqS a0.Name a1.Name)) (.yes true (rt r3_Same_e false))) (noN 2 (!(eqS a0.Name a1.Name)) (.num ((R_api_Expr a0.L).length) (a0.L.length) (noN 3 (!(eqS a0.Name a1.Name)) (.num ((R_api_Expr a1.L).length) (a1.L.length) (noN 2 (!(eqS a0.Name a1.Name)) (.as ((((a0.L.length) : Nat) : Int) != (((a1.L.length) : Nat) : Int)) (rt r3_Same_e false) (.loop2 (loopAt P 21 4) (r3_Same_L1_s (r3_Same_L1_A.mk (0 : Int) a0 a1)) (l_r3_Same_L1 (r3_Same_L1_A.mk (0 : Int) a0 a1)) r3_Same_L1_e0 r3_Same_L1_e1 (fun (o1 : Bool) => (rt r3_Same_e o1)) (fun (o2 : Unit) => (rt r3_Same_e true))))))))))))))
theorem r3_Same_d (P : Program) (call : CallF) (l_r3_Same_L1 : r3_Same_L1_A → Option (Bool ⊕ Unit)) (a0 : T_api_Expr) (a1 : T_api_Expr) : (r3_Same_t P call l_r3_Same_L1 a0 a1).den = r3_Same_b l_r3_Same_L1 a0 a1 := rfl
theorem r3_Same_n (call : CallF) (l_r3_Same_L1 : r3_Same_L1_A → Option (Bool ⊕ Unit)) (a0 : T_api_Expr) (a1 : T_api_Expr) : (r3_Same_t Tryd.prog call l_r3_Same_L1 a0 a1).norm (bodyT Tryd.prog call G 21 [.agg (C_api_Expr a0), .agg (C_api_Expr a1)] []) = r3_Same_t Tryd.prog call l_r3_Same_L1 a0 a1 := by kernel_rfl
theorem r3_Same_k (P : Program) (call : CallF) (lp : Loops) (l_r3_Same_L1 : r3_Same_L1_A → Option (Bool ⊕ Unit)) (hl_r3_Same_L1 : ∀ (a : r3_Same_L1_A) (r : (Bool ⊕ Unit)), l_r3_Same_L1 a = some r → lp (loopAt P 21 4) (r3_Same_L1_s a) = some (r3_Same_L1_e r)) (a0 : T_api_Expr) (a1 : T_api_Expr) : (r3_Same_t P call l_r3_Same_L1 a0 a1).ok lp r3_Same_e := ⟨rfl, fun h0 => yesN_ok 5 (h0) (yesN_ok 15 (rfl) (rfl)), fun h0 => noN_ok 5 (h0) (⟨rfl, fun h1 => yesN_ok 5 (h1) (yesN_ok 9 (rfl) (rfl)), fun h1 => noN_ok 5 (h1) (⟨rfl, fun h2 => yesN_ok 7 (h2) (⟨rfl, rfl⟩), fun h2 => noN_ok 2 (h2) (⟨(R_api_Expr_len _), noN_ok 3 (h2) (⟨(R_api_Expr_len _), noN_ok 2 (h2) (⟨rfl, fun h3 => rfl, fun h3 => ⟨fun o1 ho1 => ⟨hl_r3_Same_L1 _ (.inl _) ho1, rfl⟩, fun o2 ho2 => ⟨hl_r3_Same_L1 _ (.inr _) ho2, rfl⟩⟩⟩)⟩)⟩)⟩)⟩)⟩
theorem r3_Same_m {l_r3_Same_L1 m_r3_Same_L1 : r3_Same_L1_A → Option (Bool ⊕ Unit)} (hl_r3_Same_L1 : ∀ a, Le (l_r3_Same_L1 a) (m_r3_Same_L1 a)) (a0 : T_api_Expr) (a1 : T_api_Expr) : Le (r3_Same_b l_r3_Same_L1 a0 a1) (r3_Same_b m_r3_Same_L1 a0 a1) := by
  unfold r3_Same_b
  exact .cond (.refl _) (.cond (.refl _) (.cond (.refl _) (.cond (.refl _) (.bind (hl_r3_Same_L1 _) fun x => .sum (fun o1 => .refl _) (fun o2 => .refl _) x))))
theorem r3_Same_c {l_r3_Same_L1 : Nat → r3_Same_L1_A → Option (Bool ⊕ Unit)} {m_r3_Same_L1 : r3_Same_L1_A → Option (Bool ⊕ Unit)} (hl_r3_Same_L1 : ∀ a, Cv (fun k => l_r3_Same_L1 k a) (m_r3_Same_L1 a)) (a0 : T_api_Expr) (a1 : T_api_Expr) : Cv (fun k => r3_Same_b (l_r3_Same_L1 k) a0 a1) (r3_Same_b m_r3_Same_L1 a0 a1) := by
  unfold r3_Same_b
  exact .cond (by exact .const _) (.cond (by exact .const _) (.cond (by exact .const _) (.cond (by exact .const _) (.bind (hl_r3_Same_L1 _) fun x => .sum (fun o1 => by exact .const _) (fun o2 => by exact .const _) x))))
def r3_Same.s : Nat → T_api_Expr → T_api_Expr → Option Bool
  | 0, _, _ => none
  | k + 1, a0, a1 => r3_Same_b (r3_Same_L1.s k (fun a0 a1 => r3_Same.s k a0 a1)) a0 a1
termination_by structural k => k
theorem r3_Same_all : ∀ (k : Nat), ∀ (a0 : T_api_Expr) (a1 : T_api_Expr) (r : Bool), r3_Same.s k a0 a1 = some r → evalFn Tryd.prog G k 21 [.agg (C_api_Expr a0), .agg (C_api_Expr a1)] [] = some (r3_Same_e r)
  | 0 => fun _ _ _ h => (nomatch h)
  | k + 1 => by
    have i_r3_Same := r3_Same_all k
    exact fun a0 a1 r h => fn_ok rfl (r3_Same_t Tryd.prog (evalFn Tryd.prog G k) (r3_Same_L1.s k (fun a0 a1 => r3_Same.s k a0 a1)) a0 a1) (r3_Same_n _ (r3_Same_L1.s k (fun a0 a1 => r3_Same.s k a0 a1)) a0 a1) (r3_Same_k _ _ _ (r3_Same_L1.s k (fun a0 a1 => r3_Same.s k a0 a1))  (r3_Same_L1_ok _ k (fun a0 a1 => r3_Same.s k a0 a1) (i_r3_Same)) a0 a1) ((r3_Same_d _ _ (r3_Same_L1.s k (fun a0 a1 => r3_Same.s k a0 a1)) a0 a1).trans h)
theorem r3_Same.ok (k : Nat) : ∀ (a0 : T_api_Expr) (a1 : T_api_Expr) (r : Bool), r3_Same.s k a0 a1 = some r → evalFn Tryd.prog G k 21 [.agg (C_api_Expr a0), .agg (C_api_Expr a1)] [] = some (r3_Same_e r) := (r3_Same_all k)
theorem r3_Same_mall : ∀ (k : Nat), (∀ (a0 : T_api_Expr) (a1 : T_api_Expr), Le (r3_Same.s k a0 a1) (r3_Same.s (k + 1) a0 a1))
  | 0 => fun _ _ _ h => (nomatch h)
  | k + 1 => by
    have i_r3_Same := r3_Same_mall k
    exact fun a0 a1 => r3_Same_m (r3_Same_L1.m (Nat.le_succ k) (fun a0 a1 => r3_Same.s k a0 a1) (fun a0 a1 => r3_Same.s (k + 1) a0 a1) (i_r3_Same)) a0 a1
theorem r3_Same.mono (k : Nat) : ∀ (a0 : T_api_Expr) (a1 : T_api_Expr), Le (r3_Same.s k a0 a1) (r3_Same.s (k + 1) a0 a1) := (r3_Same_mall k)
noncomputable def r3_Same (a0 : T_api_Expr) (a1 : T_api_Expr) : Option Bool := lim fun k => r3_Same.s k a0 a1
theorem r3_Same.cv (a0 : T_api_Expr) (a1 : T_api_Expr) : Cv (fun k => r3_Same.s k a0 a1) (r3_Same a0 a1) := .lim fun k => r3_Same.mono k a0 a1
noncomputable def r3_Same_L1 : r3_Same_L1_A → Option (Bool ⊕ Unit) := r3_Same_L1.w r3_Same
theorem r3_Same_L1.eq (a : r3_Same_L1_A) : r3_Same_L1 a = (r3_Same_L1_b r3_Same a).bind (Sum.elim r3_Same_L1 some) := loopW_eq _ _
theorem r3_Same.eq (a0 : T_api_Expr) (a1 : T_api_Expr) : r3_Same a0 a1 = r3_Same_b r3_Same_L1 a0 a1 := Cv.uniq (r3_Same.cv a0 a1).shift (r3_Same_c (r3_Same_L1.cv (fun k => fun a0 a1 => r3_Same.s k a0 a1) r3_Same r3_Same.cv) a0 a1)
def w3_Syms_e (r : (List T_api_Sym)) : AV × Heap := (.sl (R_api_Sym r), [])
structure w3_Syms_L1_A where
  x0 : (List Int)
  x4 : Int
  r0 : (List T_api_Sym)
def w3_Syms_L1_s (a : w3_Syms_L1_A) : St := { n := 39, nx := 1, env := [(0, .sl (R_i64 a.x0)), (3, .arr 0), (4, .sc (.int .i64 a.x4))], heap := [(0, .arr true 2 (R_api_Sym a.r0))] }
def w3_Syms_L1_e (a : (List T_api_Sym)) : Ex × St := (.exit 0, { n := 39, nx := 1, env := [(3, .arr 0)], heap := [(0, .arr true 2 (R_api_Sym a))] })
def w3_Syms_L1_b (c_w3_within : Int → Int → Option Int) (c_w3_Names : Option (List ByteArray)) (a : w3_Syms_L1_A) : Option (w3_Syms_L1_A ⊕ (List T_api_Sym)) := (bif (decide (a.x4 < (((a.x0.length) : Nat) : Int))) then (bif (decide (a.x4 < (4 : Int))) then (bif (decide (0 ≤ a.x4)) then ((a.x0[(Int.toNat a.x4)]?).bind fun (e1 : Int) => ((c_w3_within e1 (5 : Int)).bind fun (r2 : Int) => (bif (decide (r2 > (0 : Int))) then ((c_w3_Names).bind fun (r3 : (List ByteArray)) => ((r3[(Int.toNat a.x4)]?).bind fun (e4 : ByteArray) => ((a.x0[(Int.toNat a.x4)]?).bind fun (e5 : Int) => ((c_w3_within (w64 (Int.tdiv e5 (5 : Int))) (8 : Int)).bind fun (r6 : Int) => (bif (decide (0 ≤ r6 ∧ r6 < (([(0 : Int), (1 : Int), (-1 : Int), (1099511627776 : Int), (-1099511627776 : Int), (100 : Int), (3 : Int), (1048576 : Int)].length : Nat) : Int))) then (([(0 : Int), (1 : Int), (-1 : Int), (1099511627776 : Int), (-1099511627776 : Int), (100 : Int), (3 : Int), (1048576 : Int)][(Int.toNat r6)]?).bind fun (e7 : Int) => (bif (decide ((a.r0.length + [(T_api_Sym.mk e4 e7)].length) * 24 ≤ most)) then (some (.inl (w3_Syms_L1_A.mk a.x0 (w64 (a.x4 + (1 : Int))) (a.r0 ++ [(T_api_Sym.mk e4 e7)])))) else none)) else none))))) else (some (.inl (w3_Syms_L1_A.mk a.x0 (w64 (a.x4 + (1 : Int))) a.r0)))))) else none) else (some (.inr a.r0))) else (some (.inr a.r0)))
def w3_Syms_L1_t (P : Program) (call : CallF) (c_w3_within : Int → Int → Option Int) (c_w3_Names : Option (List ByteArray)) (a : w3_Syms_L1_A) : Tr (w3_Syms_L1_A ⊕ (List T_api_Sym)) (Ex × St) := (.num ((R_i64 a.x0).length) (a.x0.length) (.as (decide (a.x4 < (((a.x0.length) : Nat) : Int))) (yesN 2 (decide (a.x4 < (((a.x0.length) : Nat) : Int))) (.as (decide (a.x4 < (4 : Int))) (.as (decide (0 ≤ a.x4)) (.row ((R_i64 a.x0)[(Int.toNat a.x4)]?) (a.x0[(Int.toNat a.x4)]?) C_i64 fun (e1 : Int) => (.call (call 18 [.sc (.int .i64 e1), .sc (.int .i64 (5 : Int))] []) (c_w3_within e1 (5 : Int)) w3_within_e fun (r2 : Int) => (.as (decide (r2 > (0 : Int))) (.call (call 38 [] []) (c_w3_Names) w3_Names_e fun (r3 : (List ByteArray)) => (.yes (decide (0 ≤ a.x4)) (.row ((R_string r3)[(Int.toNat a.x4)]?) (r3[(Int.toNat a.x4)]?) C_string fun (e4 : ByteArray) => (.rows [[.sc (.int .i64 (0 : Int))], [.sc (.int .i64 (1 : Int))], [.sc (.int .i64 (-1 : Int))], [.sc (.int .i64 (1099511627776 : Int))], [.sc (.int .i64 (-1099511627776 : Int))], [.sc (.int .i64 (100 : Int))], [.sc (.int .i64 (3 : Int))], [.sc (.int .i64 (1048576 : Int))]] (R_i64 [(0 : Int), (1 : Int), (-1 : Int), (1099511627776 : Int), (-1099511627776 : Int), (100 : Int), (3 : Int), (1048576 : Int)]) (.yes (decide (0 ≤ a.x4)) (.row ((R_i64 a.x0)[(Int.toNat a.x4)]?) (a.x0[(Int.toNat a.x4)]?) C_i64 fun (e5 : Int) => (.yes (decide ((5 : Int) ≠ 0)) (.call (call 18 [.sc (.int .i64 (w64 (Int.tdiv e5 (5 : Int)))), .sc (.int .i64 (8 : Int))] []) (c_w3_within (w64 (Int.tdiv e5 (5 : Int))) (8 : Int)) w3_within_e fun (r6 : Int) => (.ask (decide (0 ≤ r6 ∧ r6 < (((R_i64 [(0 : Int), (1 : Int), (-1 : Int), (1099511627776 : Int), (-1099511627776 : Int), (100 : Int), (3 : Int), (1048576 : Int)]).length : Nat) : Int))) (decide (0 ≤ r6 ∧ r6 < (([(0 : Int), (1 : Int), (-1 : Int), (1099511627776 : Int), (-1099511627776 : Int), (100 : Int), (3 : Int), (1048576 : Int)].length : Nat) : Int))) (.row ((R_i64 [(0 : Int), (1 : Int), (-1 : Int), (1099511627776 : Int), (-1099511627776 : Int), (100 : Int), (3 : Int), (1048576 : Int)])[(Int.toNat r6)]?) ([(0 : Int), (1 : Int), (-1 : Int), (1099511627776 : Int), (-1099511627776 : Int), (100 : Int), (3 : Int), (1048576 : Int)][(Int.toNat r6)]?) C_i64 fun (e7 : Int) => (.rows [[.sc (.string e4), .sc (.int .i64 e7)]] (R_api_Sym [(T_api_Sym.mk e4 e7)]) (.yes (decide ((R_api_Sym [(T_api_Sym.mk e4 e7)]).all (fun r => r.length == 2) = true)) (.ask (decide (((R_api_Sym a.r0).length + (R_api_Sym [(T_api_Sym.mk e4 e7)]).length) * 24 ≤ most)) (decide ((a.r0.length + [(T_api_Sym.mk e4 e7)].length) * 24 ≤ most)) (.rows ((R_api_Sym a.r0) ++ (R_api_Sym [(T_api_Sym.mk e4 e7)])) (R_api_Sym (a.r0 ++ [(T_api_Sym.mk e4 e7)])) (lf w3_Syms_L1_s (w3_Syms_L1_A.mk a.x0 (w64 (a.x4 + (1 : Int))) (a.r0 ++ [(T_api_Sym.mk e4 e7)])))) .fail)))) .fail))))))))) (lf w3_Syms_L1_s (w3_Syms_L1_A.mk a.x0 (w64 (a.x4 + (1 : Int))) a.r0))))) .fail) (rx w3_Syms_L1_e a.r0))) (noN 2 (decide (a.x4 < (((a.x0.length) : Nat) : Int))) (.no false (rx w3_Syms_L1_e a.r0)))))
theorem w3_Syms_L1_d (P : Program) (call : CallF) (c_w3_within : Int → Int → Option Int) (c_w3_Names : Option (List ByteArray)) (a : w3_Syms_L1_A) : (w3_Syms_L1_t P call c_w3_within c_w3_Names a).den = w3_Syms_L1_b c_w3_within c_w3_Names a := rfl
theorem w3_Syms_L1_n (call : CallF) (c_w3_within : Int → Int → Option Int) (c_w3_Names : Option (List ByteArray)) (a : w3_Syms_L1_A) : (w3_Syms_L1_t Tryd.prog call c_w3_within c_w3_Names a).norm (roundT Tryd.prog G.kd call 0 (G.an 22) (loopAt Tryd.prog 22 3) (w3_Syms_L1_s a)) = w3_Syms_L1_t Tryd.prog call c_w3_within c_w3_Names a := by kernel_rfl
theorem w3_Syms_L1_k (P : Program) (call : CallF) (lp : Loops) (c_w3_within : Int → Int → Option Int) (c_w3_Names : Option (List ByteArray)) (hc_w3_within : ∀ (a0 : Int) (a1 : Int) (r : Int), c_w3_within a0 a1 = some r → (call 18 [.sc (.int .i64 a0), .sc (.int .i64 a1)] []) = some (w3_within_e r)) (hc_w3_Names : ∀  (r : (List ByteArray)), c_w3_Names = some r → (call 38 [] []) = some (w3_Names_e r)) (a : w3_Syms_L1_A) : (w3_Syms_L1_t P call c_w3_within c_w3_Names a).ok lp (Sum.elim (fun a => (.norm, w3_Syms_L1_s a)) w3_Syms_L1_e) := ⟨(R_i64_len _), ⟨rfl, fun h0 => yesN_ok 2 (h0) (⟨rfl, fun h1 => ⟨rfl, fun h2 => fun e1 he1 => ⟨R_i64_get he1, fun r2 hr2 => ⟨hc_w3_within _ _ _ hr2, ⟨rfl, fun h3 => fun r3 hr3 => ⟨hc_w3_Names _ hr3, ⟨h2, fun e4 he4 => ⟨R_string_get he4, ⟨(R_i64_map [(0 : Int), (1 : Int), (-1 : Int), (1099511627776 : Int), (-1099511627776 : Int), (100 : Int), (3 : Int), (1048576 : Int)]), ⟨h2, fun e5 he5 => ⟨R_i64_get he5, ⟨rfl, fun r6 hr6 => ⟨hc_w3_within _ _ _ hr6, ⟨(by rw [R_i64_len]), fun h4 => fun e7 he7 => ⟨R_i64_get he7, ⟨(R_api_Sym_map [(T_api_Sym.mk e4 e7)]), ⟨(decide_eq_true (R_api_Sym_all _)), ⟨(by rw [R_api_Sym_len, R_api_Sym_len]), fun h5 => ⟨(R_api_Sym_append _ _), rfl⟩, fun h5 => trivial⟩⟩⟩⟩, fun h4 => trivial⟩⟩⟩⟩⟩⟩⟩⟩⟩, fun h3 => rfl⟩⟩⟩, fun h2 => trivial⟩, fun h1 => rfl⟩), fun h0 => noN_ok 2 (h0) (⟨rfl, rfl⟩)⟩⟩
theorem w3_Syms_L1_m {c_w3_within d_w3_within : Int → Int → Option Int} (h_w3_within : ∀ (a0 : Int) (a1 : Int), Le (c_w3_within a0 a1) (d_w3_within a0 a1)) {c_w3_Names d_w3_Names : Option (List ByteArray)} (h_w3_Names : Le (c_w3_Names ) (d_w3_Names )) (a : w3_Syms_L1_A) : Le (w3_Syms_L1_b c_w3_within c_w3_Names a) (w3_Syms_L1_b d_w3_within d_w3_Names a) := by
  unfold w3_Syms_L1_b
  exact .cond (.cond (.cond (.bind (.refl (a.x0[(Int.toNat a.x4)]?)) fun e1 => .bind (h_w3_within _ _) fun r2 => .cond (.bind (h_w3_Names) fun r3 => .bind (.refl (r3[(Int.toNat a.x4)]?)) fun e4 => .bind (.refl (a.x0[(Int.toNat a.x4)]?)) fun e5 => .bind (h_w3_within _ _) fun r6 => .refl _) (.refl _)) (.refl _)) (.refl _)) (.refl _)
theorem w3_Syms_L1_c {c_w3_within : Nat → Int → Int → Option Int} {d_w3_within : Int → Int → Option Int} (h_w3_within : ∀ (a0 : Int) (a1 : Int), Cv (fun k => c_w3_within k a0 a1) (d_w3_within a0 a1)) {c_w3_Names : Nat → Option (List ByteArray)} {d_w3_Names : Option (List ByteArray)} (h_w3_Names : Cv (fun k => c_w3_Names k ) (d_w3_Names )) (a : w3_Syms_L1_A) : Cv (fun k => w3_Syms_L1_b (c_w3_within k) (c_w3_Names k) a) (w3_Syms_L1_b d_w3_within d_w3_Names a) := by
  unfold w3_Syms_L1_b
  exact .cond (.cond (.cond (.bind (.const (a.x0[(Int.toNat a.x4)]?)) fun e1 => .bind (h_w3_within _ _) fun r2 => .cond (.bind (h_w3_Names) fun r3 => .bind (.const (r3[(Int.toNat a.x4)]?)) fun e4 => .bind (.const (a.x0[(Int.toNat a.x4)]?)) fun e5 => .bind (h_w3_within _ _) fun r6 => by exact .const _) (by exact .const _)) (by exact .const _)) (by exact .const _)) (by exact .const _)
def w3_Syms_L1.s (k : Nat) (c_w3_within : Int → Int → Option Int) (c_w3_Names : Option (List ByteArray)) : w3_Syms_L1_A → Option (List T_api_Sym) := iter (w3_Syms_L1_b c_w3_within c_w3_Names) k
theorem w3_Syms_L1_ok (call : CallF) (k : Nat) (c_w3_within : Int → Int → Option Int) (c_w3_Names : Option (List ByteArray)) (hc_w3_within : ∀ (a0 : Int) (a1 : Int) (r : Int), c_w3_within a0 a1 = some r → (call 18 [.sc (.int .i64 a0), .sc (.int .i64 a1)] []) = some (w3_within_e r)) (hc_w3_Names : ∀  (r : (List ByteArray)), c_w3_Names = some r → (call 38 [] []) = some (w3_Names_e r)) (a : w3_Syms_L1_A) (r : (List T_api_Sym)) (h : w3_Syms_L1.s k c_w3_within c_w3_Names a = some r) : loopsF Tryd.prog G.kd call 0 (G.an 22) k (loopAt Tryd.prog 22 3) (w3_Syms_L1_s a) = some (w3_Syms_L1_e r) :=
  loop_ok (fun a => w3_Syms_L1_t Tryd.prog call c_w3_within c_w3_Names a) (fun a => w3_Syms_L1_d _ call c_w3_within c_w3_Names a) (fun a => w3_Syms_L1_n call c_w3_within c_w3_Names a) (fun a => w3_Syms_L1_k _ call _ c_w3_within c_w3_Names hc_w3_within hc_w3_Names a) (fun r => nofun) h
theorem w3_Syms_L1.m {j k : Nat} (hj : j ≤ k) (c_w3_within : Int → Int → Option Int) (c_w3_Names : Option (List ByteArray)) (d_w3_within : Int → Int → Option Int) (d_w3_Names : Option (List ByteArray)) (h_w3_within : ∀ (a0 : Int) (a1 : Int), Le (c_w3_within a0 a1) (d_w3_within a0 a1)) (h_w3_Names : Le (c_w3_Names ) (d_w3_Names )) (a : w3_Syms_L1_A) : Le (w3_Syms_L1.s j c_w3_within c_w3_Names a) (w3_Syms_L1.s k d_w3_within d_w3_Names a) := Le.iter (fun a => w3_Syms_L1_m h_w3_within h_w3_Names a) hj a
noncomputable def w3_Syms_L1.w (c_w3_within : Int → Int → Option Int) (c_w3_Names : Option (List ByteArray)) : w3_Syms_L1_A → Option (List T_api_Sym) := loopW (w3_Syms_L1_b c_w3_within c_w3_Names)
theorem w3_Syms_L1.cv (c_w3_within : Nat → Int → Int → Option Int) (c_w3_Names : Nat → Option (List ByteArray)) (d_w3_within : Int → Int → Option Int) (d_w3_Names : Option (List ByteArray)) (h_w3_within : ∀ (a0 : Int) (a1 : Int), Cv (fun k => c_w3_within k a0 a1) (d_w3_within a0 a1)) (h_w3_Names : Cv (fun k => c_w3_Names k ) (d_w3_Names )) (a : w3_Syms_L1_A) : Cv (fun k => w3_Syms_L1.s k (c_w3_within k) (c_w3_Names k) a) (w3_Syms_L1.w d_w3_within d_w3_Names a) := Cv.iter (fun a => w3_Syms_L1_c h_w3_within h_w3_Names a) a
def w3_Syms_b (l_w3_Syms_L1 : w3_Syms_L1_A → Option (List T_api_Sym)) (a0 : (List Int)) : Option (List T_api_Sym) := ((l_w3_Syms_L1 (w3_Syms_L1_A.mk a0 (0 : Int) ([] : List T_api_Sym))).bind (fun (o1 : (List T_api_Sym)) => (some o1)))
def w3_Syms_t (P : Program) (call : CallF) (l_w3_Syms_L1 : w3_Syms_L1_A → Option (List T_api_Sym)) (a0 : (List Int)) : Tr (List T_api_Sym) (AV × Heap) := (.loop (loopAt P 22 3) (w3_Syms_L1_s (w3_Syms_L1_A.mk a0 (0 : Int) ([] : List T_api_Sym))) (l_w3_Syms_L1 (w3_Syms_L1_A.mk a0 (0 : Int) ([] : List T_api_Sym))) w3_Syms_L1_e (fun (o1 : (List T_api_Sym)) => (rt w3_Syms_e o1)))
theorem w3_Syms_d (P : Program) (call : CallF) (l_w3_Syms_L1 : w3_Syms_L1_A → Option (List T_api_Sym)) (a0 : (List Int)) : (w3_Syms_t P call l_w3_Syms_L1 a0).den = w3_Syms_b l_w3_Syms_L1 a0 := rfl
theorem w3_Syms_n (call : CallF) (l_w3_Syms_L1 : w3_Syms_L1_A → Option (List T_api_Sym)) (a0 : (List Int)) : (w3_Syms_t Tryd.prog call l_w3_Syms_L1 a0).norm (bodyT Tryd.prog call G 22 [.sl (R_i64 a0)] []) = w3_Syms_t Tryd.prog call l_w3_Syms_L1 a0 := by kernel_rfl
theorem w3_Syms_k (P : Program) (call : CallF) (lp : Loops) (l_w3_Syms_L1 : w3_Syms_L1_A → Option (List T_api_Sym)) (hl_w3_Syms_L1 : ∀ (a : w3_Syms_L1_A) (r : (List T_api_Sym)), l_w3_Syms_L1 a = some r → lp (loopAt P 22 3) (w3_Syms_L1_s a) = some (w3_Syms_L1_e r)) (a0 : (List Int)) : (w3_Syms_t P call l_w3_Syms_L1 a0).ok lp w3_Syms_e := fun o1 ho1 => ⟨hl_w3_Syms_L1 _ _ ho1, rfl⟩
theorem w3_Syms_m {l_w3_Syms_L1 m_w3_Syms_L1 : w3_Syms_L1_A → Option (List T_api_Sym)} (hl_w3_Syms_L1 : ∀ a, Le (l_w3_Syms_L1 a) (m_w3_Syms_L1 a)) (a0 : (List Int)) : Le (w3_Syms_b l_w3_Syms_L1 a0) (w3_Syms_b m_w3_Syms_L1 a0) := by
  unfold w3_Syms_b
  exact .bind (hl_w3_Syms_L1 _) (fun o1 => .refl _)
theorem w3_Syms_c {l_w3_Syms_L1 : Nat → w3_Syms_L1_A → Option (List T_api_Sym)} {m_w3_Syms_L1 : w3_Syms_L1_A → Option (List T_api_Sym)} (hl_w3_Syms_L1 : ∀ a, Cv (fun k => l_w3_Syms_L1 k a) (m_w3_Syms_L1 a)) (a0 : (List Int)) : Cv (fun k => w3_Syms_b (l_w3_Syms_L1 k) a0) (w3_Syms_b m_w3_Syms_L1 a0) := by
  unfold w3_Syms_b
  exact .bind (hl_w3_Syms_L1 _) (fun o1 => by exact .const _)
def w3_Syms.s : Nat → (List Int) → Option (List T_api_Sym)
  | 0, _ => none
  | k + 1, a0 => w3_Syms_b (w3_Syms_L1.s k (fun a0 a1 => w3_within.s k a0 a1) (w3_Names.s k)) a0
theorem w3_Syms.ok : ∀ (k : Nat), ∀ (a0 : (List Int)) (r : (List T_api_Sym)), w3_Syms.s k a0 = some r → evalFn Tryd.prog G k 22 [.sl (R_i64 a0)] [] = some (w3_Syms_e r)
  | 0, _, _, h => (nomatch h)
  | k + 1, a0, r, h => fn_ok rfl (w3_Syms_t Tryd.prog (evalFn Tryd.prog G k) (w3_Syms_L1.s k (fun a0 a1 => w3_within.s k a0 a1) (w3_Names.s k)) a0) (w3_Syms_n _ (w3_Syms_L1.s k (fun a0 a1 => w3_within.s k a0 a1) (w3_Names.s k)) a0) (w3_Syms_k _ _ _ (w3_Syms_L1.s k (fun a0 a1 => w3_within.s k a0 a1) (w3_Names.s k))  (w3_Syms_L1_ok _ k (fun a0 a1 => w3_within.s k a0 a1) (w3_Names.s k) (w3_within.ok k) (w3_Names.ok k)) a0) ((w3_Syms_d _ _ (w3_Syms_L1.s k (fun a0 a1 => w3_within.s k a0 a1) (w3_Names.s k)) a0).trans h)
theorem w3_Syms.mono : ∀ (k : Nat) (a0 : (List Int)), Le (w3_Syms.s k a0) (w3_Syms.s (k + 1) a0)
  | 0, _ => fun r h => (nomatch h)
  | k + 1, a0 => w3_Syms_m (w3_Syms_L1.m (Nat.le_succ k) (fun a0 a1 => w3_within.s k a0 a1) (w3_Names.s k) (fun a0 a1 => w3_within.s (k + 1) a0 a1) (w3_Names.s (k + 1)) (w3_within.mono k) (w3_Names.mono k)) a0
noncomputable def w3_Syms (a0 : (List Int)) : Option (List T_api_Sym) := lim fun k => w3_Syms.s k a0
theorem w3_Syms.cv (a0 : (List Int)) : Cv (fun k => w3_Syms.s k a0) (w3_Syms a0) := .lim fun k => w3_Syms.mono k a0
noncomputable def w3_Syms_L1 : w3_Syms_L1_A → Option (List T_api_Sym) := w3_Syms_L1.w w3_within w3_Names
theorem w3_Syms_L1.eq (a : w3_Syms_L1_A) : w3_Syms_L1 a = (w3_Syms_L1_b w3_within w3_Names a).bind (Sum.elim w3_Syms_L1 some) := loopW_eq _ _
theorem w3_Syms.eq (a0 : (List Int)) : w3_Syms a0 = w3_Syms_b w3_Syms_L1 a0 := Cv.uniq (w3_Syms.cv a0).shift (w3_Syms_c (w3_Syms_L1.cv (fun k => fun a0 a1 => w3_within.s k a0 a1) (fun k => w3_Names.s k) w3_within w3_Names w3_within.cv w3_Names.cv) a0)
def r3_bound_e (r : (Int × Int)) : AV × Heap := (.tup [.sc (.int .i64 r.1), .sc (.int .i64 r.2)], [])
def r3_bound_b  (a0 : Int) : Option (Int × Int) := (bif (decide (a0 < (-1099511627776 : Int))) then (some ((0 : Int), (6 : Int))) else (bif (decide (a0 > (1099511627776 : Int))) then (some ((0 : Int), (6 : Int))) else (some (a0, (0 : Int)))))
def r3_bound_t (P : Program) (call : CallF)  (a0 : Int) : Tr (Int × Int) (AV × Heap) := (.as (decide (a0 < (-1099511627776 : Int))) (yesN 2 (decide (a0 < (-1099511627776 : Int))) (.yes true (rt r3_bound_e ((0 : Int), (6 : Int))))) (noN 2 (decide (a0 < (-1099511627776 : Int))) (.as (decide (a0 > (1099511627776 : Int))) (rt r3_bound_e ((0 : Int), (6 : Int))) (rt r3_bound_e (a0, (0 : Int))))))
theorem r3_bound_d (P : Program) (call : CallF)  (a0 : Int) : (r3_bound_t P call  a0).den = r3_bound_b  a0 := rfl
theorem r3_bound_n (call : CallF)  (a0 : Int) : (r3_bound_t Tryd.prog call  a0).norm (bodyT Tryd.prog call G 58 [.sc (.int .i64 a0)] []) = r3_bound_t Tryd.prog call  a0 := by kernel_rfl
theorem r3_bound_k (P : Program) (call : CallF) (lp : Loops)   (a0 : Int) : (r3_bound_t P call  a0).ok lp r3_bound_e := ⟨rfl, fun h0 => yesN_ok 2 (h0) (⟨rfl, rfl⟩), fun h0 => noN_ok 2 (h0) (⟨rfl, fun h1 => rfl, fun h1 => rfl⟩)⟩
def r3_bound.s : Nat → Int → Option (Int × Int)
  | 0, _ => none
  | k + 1, a0 => r3_bound_b  a0
theorem r3_bound.ok : ∀ (k : Nat), ∀ (a0 : Int) (r : (Int × Int)), r3_bound.s k a0 = some r → evalFn Tryd.prog G k 58 [.sc (.int .i64 a0)] [] = some (r3_bound_e r)
  | 0, _, _, h => (nomatch h)
  | k + 1, a0, r, h => fn_ok rfl (r3_bound_t Tryd.prog (evalFn Tryd.prog G k)  a0) (r3_bound_n _  a0) (r3_bound_k _ _ _    a0) ((r3_bound_d _ _  a0).trans h)
theorem r3_bound.mono : ∀ (k : Nat) (a0 : Int), Le (r3_bound.s k a0) (r3_bound.s (k + 1) a0)
  | 0, _ => fun r h => (nomatch h)
  | k + 1, a0 => .refl _
noncomputable def r3_bound (a0 : Int) : Option (Int × Int) := lim fun k => r3_bound.s k a0
theorem r3_bound.cv (a0 : Int) : Cv (fun k => r3_bound.s k a0) (r3_bound a0) := .lim fun k => r3_bound.mono k a0
theorem r3_bound.eq (a0 : Int) : r3_bound a0 = r3_bound_b  a0 := Cv.uniq (r3_bound.cv a0).shift (by exact .const _)
def r3_times_e (r : (Int × Int)) : AV × Heap := (.tup [.sc (.int .i64 r.1), .sc (.int .i64 r.2)], [])
def r3_times_b  (a0 : Int) (a1 : Int) : Option (Int × Int) := (bif (a0 == (0 : Int)) then (some ((0 : Int), (0 : Int))) else (bif (a1 == (0 : Int)) then (some ((0 : Int), (0 : Int))) else (bif (decide ((if (w64 ((0 : Int) - a1)) > a1 then (w64 ((0 : Int) - a1)) else a1) ≠ 0)) then (bif (decide ((if (w64 ((0 : Int) - a0)) > a0 then (w64 ((0 : Int) - a0)) else a0) > (w64 (Int.tdiv (1099511627776 : Int) (if (w64 ((0 : Int) - a1)) > a1 then (w64 ((0 : Int) - a1)) else a1))))) then (some ((0 : Int), (6 : Int))) else (some ((w64 (a0 * a1)), (0 : Int)))) else none)))
def r3_times_t (P : Program) (call : CallF)  (a0 : Int) (a1 : Int) : Tr (Int × Int) (AV × Heap) := (.as (a0 == (0 : Int)) (yesN 2 (a0 == (0 : Int)) (.yes true (rt r3_times_e ((0 : Int), (0 : Int))))) (noN 2 (a0 == (0 : Int)) (.as (a1 == (0 : Int)) (rt r3_times_e ((0 : Int), (0 : Int))) (.as (decide ((if (w64 ((0 : Int) - a1)) > a1 then (w64 ((0 : Int) - a1)) else a1) ≠ 0)) (.as (decide ((if (w64 ((0 : Int) - a0)) > a0 then (w64 ((0 : Int) - a0)) else a0) > (w64 (Int.tdiv (1099511627776 : Int) (if (w64 ((0 : Int) - a1)) > a1 then (w64 ((0 : Int) - a1)) else a1))))) (rt r3_times_e ((0 : Int), (6 : Int))) (rt r3_times_e ((w64 (a0 * a1)), (0 : Int)))) .fail))))
theorem r3_times_d (P : Program) (call : CallF)  (a0 : Int) (a1 : Int) : (r3_times_t P call  a0 a1).den = r3_times_b  a0 a1 := rfl
theorem r3_times_n (call : CallF)  (a0 : Int) (a1 : Int) : (r3_times_t Tryd.prog call  a0 a1).norm (bodyT Tryd.prog call G 59 [.sc (.int .i64 a0), .sc (.int .i64 a1)] []) = r3_times_t Tryd.prog call  a0 a1 := by kernel_rfl
theorem r3_times_k (P : Program) (call : CallF) (lp : Loops)   (a0 : Int) (a1 : Int) : (r3_times_t P call  a0 a1).ok lp r3_times_e := ⟨rfl, fun h0 => yesN_ok 2 (h0) (⟨rfl, rfl⟩), fun h0 => noN_ok 2 (h0) (⟨rfl, fun h1 => rfl, fun h1 => ⟨rfl, fun h2 => ⟨rfl, fun h3 => rfl, fun h3 => rfl⟩, fun h2 => trivial⟩⟩)⟩
def r3_times.s : Nat → Int → Int → Option (Int × Int)
  | 0, _, _ => none
  | k + 1, a0, a1 => r3_times_b  a0 a1
theorem r3_times.ok : ∀ (k : Nat), ∀ (a0 : Int) (a1 : Int) (r : (Int × Int)), r3_times.s k a0 a1 = some r → evalFn Tryd.prog G k 59 [.sc (.int .i64 a0), .sc (.int .i64 a1)] [] = some (r3_times_e r)
  | 0, _, _, _, h => (nomatch h)
  | k + 1, a0, a1, r, h => fn_ok rfl (r3_times_t Tryd.prog (evalFn Tryd.prog G k)  a0 a1) (r3_times_n _  a0 a1) (r3_times_k _ _ _    a0 a1) ((r3_times_d _ _  a0 a1).trans h)
theorem r3_times.mono : ∀ (k : Nat) (a0 : Int) (a1 : Int), Le (r3_times.s k a0 a1) (r3_times.s (k + 1) a0 a1)
  | 0, _, _ => fun r h => (nomatch h)
  | k + 1, a0, a1 => .refl _
noncomputable def r3_times (a0 : Int) (a1 : Int) : Option (Int × Int) := lim fun k => r3_times.s k a0 a1
theorem r3_times.cv (a0 : Int) (a1 : Int) : Cv (fun k => r3_times.s k a0 a1) (r3_times a0 a1) := .lim fun k => r3_times.mono k a0 a1
theorem r3_times.eq (a0 : Int) (a1 : Int) : r3_times a0 a1 = r3_times_b  a0 a1 := Cv.uniq (r3_times.cv a0 a1).shift (by exact .const _)
def r3_reckon_e (r : (Int × Int)) : AV × Heap := (.tup [.sc (.int .i64 r.1), .sc (.int .i64 r.2)], [])
def r3_reckon_b (c_r3_bound : Int → Option (Int × Int)) (c_r3_times : Int → Int → Option (Int × Int)) (a0 : Int) (a1 : Int) (a2 : Int) : Option (Int × Int) := (bif (a0 == (5 : Int)) then ((c_r3_bound (w64 (a1 + a2))).bind fun (r1 : (Int × Int)) => (some (r1.1, r1.2))) else (bif (a0 == (6 : Int)) then ((c_r3_bound (w64 (a1 - a2))).bind fun (r2 : (Int × Int)) => (some (r2.1, r2.2))) else (bif (a0 == (7 : Int)) then ((c_r3_times a1 a2).bind fun (r3 : (Int × Int)) => (some (r3.1, r3.2))) else (bif (a0 == (8 : Int)) then ((c_r3_bound (andI .i64 a1 a2)).bind fun (r4 : (Int × Int)) => (some (r4.1, r4.2))) else (bif (a0 == (9 : Int)) then ((c_r3_bound (orI .i64 a1 a2)).bind fun (r5 : (Int × Int)) => (some (r5.1, r5.2))) else (bif (decide (a2 < (0 : Int))) then (some ((0 : Int), (6 : Int))) else (bif (decide (a2 > (40 : Int))) then (some ((0 : Int), (6 : Int))) else (bif (a0 == (11 : Int)) then (bif (decide (0 ≤ (IntKind.u64.wrap a2))) then (some ((shrI .i64 a1 (IntKind.u64.wrap a2)), (0 : Int))) else none) else (bif (decide (0 ≤ (IntKind.u64.wrap a2))) then ((c_r3_times a1 (shlI .i64 (1 : Int) (IntKind.u64.wrap a2))).bind fun (r6 : (Int × Int)) => (some (r6.1, r6.2))) else none)))))))))
def r3_reckon_t (P : Program) (call : CallF) (c_r3_bound : Int → Option (Int × Int)) (c_r3_times : Int → Int → Option (Int × Int)) (a0 : Int) (a1 : Int) (a2 : Int) : Tr (Int × Int) (AV × Heap) := (.as (a0 == (5 : Int)) (.call (call 58 [.sc (.int .i64 (w64 (a1 + a2)))] []) (c_r3_bound (w64 (a1 + a2))) r3_bound_e fun (r1 : (Int × Int)) => (rt r3_reckon_e (r1.1, r1.2))) (.as (a0 == (6 : Int)) (.call (call 58 [.sc (.int .i64 (w64 (a1 - a2)))] []) (c_r3_bound (w64 (a1 - a2))) r3_bound_e fun (r2 : (Int × Int)) => (rt r3_reckon_e (r2.1, r2.2))) (.as (a0 == (7 : Int)) (.call (call 59 [.sc (.int .i64 a1), .sc (.int .i64 a2)] []) (c_r3_times a1 a2) r3_times_e fun (r3 : (Int × Int)) => (rt r3_reckon_e (r3.1, r3.2))) (.as (a0 == (8 : Int)) (.call (call 58 [.sc (.int .i64 (andI .i64 a1 a2))] []) (c_r3_bound (andI .i64 a1 a2)) r3_bound_e fun (r4 : (Int × Int)) => (rt r3_reckon_e (r4.1, r4.2))) (.as (a0 == (9 : Int)) (.call (call 58 [.sc (.int .i64 (orI .i64 a1 a2))] []) (c_r3_bound (orI .i64 a1 a2)) r3_bound_e fun (r5 : (Int × Int)) => (rt r3_reckon_e (r5.1, r5.2))) (.as (decide (a2 < (0 : Int))) (yesN 2 (decide (a2 < (0 : Int))) (.yes true (rt r3_reckon_e ((0 : Int), (6 : Int))))) (noN 2 (decide (a2 < (0 : Int))) (.as (decide (a2 > (40 : Int))) (rt r3_reckon_e ((0 : Int), (6 : Int))) (.as (a0 == (11 : Int)) (.as (decide (0 ≤ (IntKind.u64.wrap a2))) (rt r3_reckon_e ((shrI .i64 a1 (IntKind.u64.wrap a2)), (0 : Int))) .fail) (.as (decide (0 ≤ (IntKind.u64.wrap a2))) (.call (call 59 [.sc (.int .i64 a1), .sc (.int .i64 (shlI .i64 (1 : Int) (IntKind.u64.wrap a2)))] []) (c_r3_times a1 (shlI .i64 (1 : Int) (IntKind.u64.wrap a2))) r3_times_e fun (r6 : (Int × Int)) => (rt r3_reckon_e (r6.1, r6.2))) .fail))))))))))
theorem r3_reckon_d (P : Program) (call : CallF) (c_r3_bound : Int → Option (Int × Int)) (c_r3_times : Int → Int → Option (Int × Int)) (a0 : Int) (a1 : Int) (a2 : Int) : (r3_reckon_t P call c_r3_bound c_r3_times a0 a1 a2).den = r3_reckon_b c_r3_bound c_r3_times a0 a1 a2 := rfl
theorem r3_reckon_n (call : CallF) (c_r3_bound : Int → Option (Int × Int)) (c_r3_times : Int → Int → Option (Int × Int)) (a0 : Int) (a1 : Int) (a2 : Int) : (r3_reckon_t Tryd.prog call c_r3_bound c_r3_times a0 a1 a2).norm (bodyT Tryd.prog call G 43 [.sc (.int .i64 a0), .sc (.int .i64 a1), .sc (.int .i64 a2)] []) = r3_reckon_t Tryd.prog call c_r3_bound c_r3_times a0 a1 a2 := by kernel_rfl
theorem r3_reckon_k (P : Program) (call : CallF) (lp : Loops) (c_r3_bound : Int → Option (Int × Int)) (c_r3_times : Int → Int → Option (Int × Int)) (hc_r3_bound : ∀ (a0 : Int) (r : (Int × Int)), c_r3_bound a0 = some r → (call 58 [.sc (.int .i64 a0)] []) = some (r3_bound_e r)) (hc_r3_times : ∀ (a0 : Int) (a1 : Int) (r : (Int × Int)), c_r3_times a0 a1 = some r → (call 59 [.sc (.int .i64 a0), .sc (.int .i64 a1)] []) = some (r3_times_e r)) (a0 : Int) (a1 : Int) (a2 : Int) : (r3_reckon_t P call c_r3_bound c_r3_times a0 a1 a2).ok lp r3_reckon_e := ⟨rfl, fun h0 => fun r1 hr1 => ⟨hc_r3_bound _ _ hr1, rfl⟩, fun h0 => ⟨rfl, fun h1 => fun r2 hr2 => ⟨hc_r3_bound _ _ hr2, rfl⟩, fun h1 => ⟨rfl, fun h2 => fun r3 hr3 => ⟨hc_r3_times _ _ _ hr3, rfl⟩, fun h2 => ⟨rfl, fun h3 => fun r4 hr4 => ⟨hc_r3_bound _ _ hr4, rfl⟩, fun h3 => ⟨rfl, fun h4 => fun r5 hr5 => ⟨hc_r3_bound _ _ hr5, rfl⟩, fun h4 => ⟨rfl, fun h5 => yesN_ok 2 (h5) (⟨rfl, rfl⟩), fun h5 => noN_ok 2 (h5) (⟨rfl, fun h6 => rfl, fun h6 => ⟨rfl, fun h7 => ⟨rfl, fun h8 => rfl, fun h8 => trivial⟩, fun h7 => ⟨rfl, fun h8 => fun r6 hr6 => ⟨hc_r3_times _ _ _ hr6, rfl⟩, fun h8 => trivial⟩⟩⟩)⟩⟩⟩⟩⟩⟩
theorem r3_reckon_m {c_r3_bound d_r3_bound : Int → Option (Int × Int)} (h_r3_bound : ∀ (a0 : Int), Le (c_r3_bound a0) (d_r3_bound a0)) {c_r3_times d_r3_times : Int → Int → Option (Int × Int)} (h_r3_times : ∀ (a0 : Int) (a1 : Int), Le (c_r3_times a0 a1) (d_r3_times a0 a1)) (a0 : Int) (a1 : Int) (a2 : Int) : Le (r3_reckon_b c_r3_bound c_r3_times a0 a1 a2) (r3_reckon_b d_r3_bound d_r3_times a0 a1 a2) := by
  unfold r3_reckon_b
  exact .cond (.bind (h_r3_bound _) fun r1 => .refl _) (.cond (.bind (h_r3_bound _) fun r2 => .refl _) (.cond (.bind (h_r3_times _ _) fun r3 => .refl _) (.cond (.bind (h_r3_bound _) fun r4 => .refl _) (.cond (.bind (h_r3_bound _) fun r5 => .refl _) (.cond (.refl _) (.cond (.refl _) (.cond (.refl _) (.cond (.bind (h_r3_times _ _) fun r6 => .refl _) (.refl _)))))))))
theorem r3_reckon_c {c_r3_bound : Nat → Int → Option (Int × Int)} {d_r3_bound : Int → Option (Int × Int)} (h_r3_bound : ∀ (a0 : Int), Cv (fun k => c_r3_bound k a0) (d_r3_bound a0)) {c_r3_times : Nat → Int → Int → Option (Int × Int)} {d_r3_times : Int → Int → Option (Int × Int)} (h_r3_times : ∀ (a0 : Int) (a1 : Int), Cv (fun k => c_r3_times k a0 a1) (d_r3_times a0 a1)) (a0 : Int) (a1 : Int) (a2 : Int) : Cv (fun k => r3_reckon_b (c_r3_bound k) (c_r3_times k) a0 a1 a2) (r3_reckon_b d_r3_bound d_r3_times a0 a1 a2) := by
  unfold r3_reckon_b
  exact .cond (.bind (h_r3_bound _) fun r1 => by exact .const _) (.cond (.bind (h_r3_bound _) fun r2 => by exact .const _) (.cond (.bind (h_r3_times _ _) fun r3 => by exact .const _) (.cond (.bind (h_r3_bound _) fun r4 => by exact .const _) (.cond (.bind (h_r3_bound _) fun r5 => by exact .const _) (.cond (by exact .const _) (.cond (by exact .const _) (.cond (by exact .const _) (.cond (.bind (h_r3_times _ _) fun r6 => by exact .const _) (by exact .const _)))))))))
def r3_reckon.s : Nat → Int → Int → Int → Option (Int × Int)
  | 0, _, _, _ => none
  | k + 1, a0, a1, a2 => r3_reckon_b (fun a0 => r3_bound.s k a0) (fun a0 a1 => r3_times.s k a0 a1) a0 a1 a2
theorem r3_reckon.ok : ∀ (k : Nat), ∀ (a0 : Int) (a1 : Int) (a2 : Int) (r : (Int × Int)), r3_reckon.s k a0 a1 a2 = some r → evalFn Tryd.prog G k 43 [.sc (.int .i64 a0), .sc (.int .i64 a1), .sc (.int .i64 a2)] [] = some (r3_reckon_e r)
  | 0, _, _, _, _, h => (nomatch h)
  | k + 1, a0, a1, a2, r, h => fn_ok rfl (r3_reckon_t Tryd.prog (evalFn Tryd.prog G k) (fun a0 => r3_bound.s k a0) (fun a0 a1 => r3_times.s k a0 a1) a0 a1 a2) (r3_reckon_n _ (fun a0 => r3_bound.s k a0) (fun a0 a1 => r3_times.s k a0 a1) a0 a1 a2) (r3_reckon_k _ _ _ (fun a0 => r3_bound.s k a0) (fun a0 a1 => r3_times.s k a0 a1) (r3_bound.ok k) (r3_times.ok k)  a0 a1 a2) ((r3_reckon_d _ _ (fun a0 => r3_bound.s k a0) (fun a0 a1 => r3_times.s k a0 a1) a0 a1 a2).trans h)
theorem r3_reckon.mono : ∀ (k : Nat) (a0 : Int) (a1 : Int) (a2 : Int), Le (r3_reckon.s k a0 a1 a2) (r3_reckon.s (k + 1) a0 a1 a2)
  | 0, _, _, _ => fun r h => (nomatch h)
  | k + 1, a0, a1, a2 => r3_reckon_m (r3_bound.mono k) (r3_times.mono k) a0 a1 a2
noncomputable def r3_reckon (a0 : Int) (a1 : Int) (a2 : Int) : Option (Int × Int) := lim fun k => r3_reckon.s k a0 a1 a2
theorem r3_reckon.cv (a0 : Int) (a1 : Int) (a2 : Int) : Cv (fun k => r3_reckon.s k a0 a1 a2) (r3_reckon a0 a1 a2) := .lim fun k => r3_reckon.mono k a0 a1 a2
theorem r3_reckon.eq (a0 : Int) (a1 : Int) (a2 : Int) : r3_reckon a0 a1 a2 = r3_reckon_b r3_bound r3_times a0 a1 a2 := Cv.uniq (r3_reckon.cv a0 a1 a2).shift (r3_reckon_c r3_bound.cv r3_times.cv a0 a1 a2)
def r3_Eval_e (r : (Int × Int)) : AV × Heap := (.tup [.sc (.int .i64 r.1), .sc (.int .i64 r.2)], [])
structure r3_Eval_L1_A where
  x2 : (List T_api_Sym)
  x8 : Int
  h0 : T_api_Expr
structure r3_Eval_L1_O0 where
  x6 : Int
  x7 : Int
def r3_Eval_L1_s (a : r3_Eval_L1_A) : St := { n := 81, nx := 1, env := [(2, .sl (R_api_Sym a.x2)), (3, .ptr 0 0), (8, .sc (.int .i64 a.x8))], heap := [(0, .box [] (C_api_Expr a.h0))] }
def r3_Eval_L1_e0 (a : r3_Eval_L1_O0) : Ex × St := (.ret, { n := 81, nx := 0, env := [(6, .sc (.int .i64 a.x6)), (7, .sc (.int .i64 a.x7))], heap := [] })
def r3_Eval_L1_e1 (a : Unit) : Ex × St := (.exit 1, { n := 81, nx := 0, env := [], heap := [] })
def r3_Eval_L1_e (a : (r3_Eval_L1_O0 ⊕ Unit)) : Ex × St := Sum.elim r3_Eval_L1_e0 r3_Eval_L1_e1 a
def r3_Eval_L1_b  (a : r3_Eval_L1_A) : Option (r3_Eval_L1_A ⊕ (r3_Eval_L1_O0 ⊕ Unit)) := (bif (decide (a.x8 < (((a.x2.length) : Nat) : Int))) then (bif (decide (0 ≤ a.x8)) then ((a.x2[(Int.toNat a.x8)]?).bind fun (e1 : T_api_Sym) => (bif (eqS e1.Name a.h0.Name) then ((a.x2[(Int.toNat a.x8)]?).bind fun (e2 : T_api_Sym) => (some (.inr (.inl (r3_Eval_L1_O0.mk e2.Value (0 : Int)))))) else (some (.inl (r3_Eval_L1_A.mk a.x2 (w64 (a.x8 + (1 : Int))) a.h0))))) else none) else (some (.inr (.inr ()))))
def r3_Eval_L1_t (P : Program) (call : CallF)  (a : r3_Eval_L1_A) : Tr (r3_Eval_L1_A ⊕ (r3_Eval_L1_O0 ⊕ Unit)) (Ex × St) := (.num ((R_api_Sym a.x2).length) (a.x2.length) (.as (decide (a.x8 < (((a.x2.length) : Nat) : Int))) (.as (decide (0 ≤ a.x8)) (.row ((R_api_Sym a.x2)[(Int.toNat a.x8)]?) (a.x2[(Int.toNat a.x8)]?) C_api_Sym fun (e1 : T_api_Sym) => (.as (eqS e1.Name a.h0.Name) (.yes (decide (0 ≤ a.x8)) (.row ((R_api_Sym a.x2)[(Int.toNat a.x8)]?) (a.x2[(Int.toNat a.x8)]?) C_api_Sym fun (e2 : T_api_Sym) => (rx r3_Eval_L1_e (.inl (r3_Eval_L1_O0.mk e2.Value (0 : Int)))))) (lf r3_Eval_L1_s (r3_Eval_L1_A.mk a.x2 (w64 (a.x8 + (1 : Int))) a.h0)))) .fail) (rx r3_Eval_L1_e (.inr ()))))
theorem r3_Eval_L1_d (P : Program) (call : CallF)  (a : r3_Eval_L1_A) : (r3_Eval_L1_t P call  a).den = r3_Eval_L1_b  a := rfl
theorem r3_Eval_L1_n (call : CallF)  (a : r3_Eval_L1_A) : (r3_Eval_L1_t Tryd.prog call  a).norm (roundT Tryd.prog G.kd call 0 (G.an 24) (loopAt Tryd.prog 24 8) (r3_Eval_L1_s a)) = r3_Eval_L1_t Tryd.prog call  a := by kernel_rfl
theorem r3_Eval_L1_k (P : Program) (call : CallF) (lp : Loops)   (a : r3_Eval_L1_A) : (r3_Eval_L1_t P call  a).ok lp (Sum.elim (fun a => (.norm, r3_Eval_L1_s a)) r3_Eval_L1_e) := ⟨(R_api_Sym_len _), ⟨rfl, fun h0 => ⟨rfl, fun h1 => fun e1 he1 => ⟨R_api_Sym_get he1, ⟨rfl, fun h2 => ⟨h1, fun e2 he2 => ⟨R_api_Sym_get he2, rfl⟩⟩, fun h2 => rfl⟩⟩, fun h1 => trivial⟩, fun h0 => rfl⟩⟩
def r3_Eval_L1.s (k : Nat)  : r3_Eval_L1_A → Option (r3_Eval_L1_O0 ⊕ Unit) := iter (r3_Eval_L1_b ) k
theorem r3_Eval_L1_ok (call : CallF) (k : Nat)   (a : r3_Eval_L1_A) (r : (r3_Eval_L1_O0 ⊕ Unit)) (h : r3_Eval_L1.s k  a = some r) : loopsF Tryd.prog G.kd call 0 (G.an 24) k (loopAt Tryd.prog 24 8) (r3_Eval_L1_s a) = some (r3_Eval_L1_e r) :=
  loop_ok (fun a => r3_Eval_L1_t Tryd.prog call  a) (fun a => r3_Eval_L1_d _ call  a) (fun a => r3_Eval_L1_n call  a) (fun a => r3_Eval_L1_k _ call _   a) (fun r => by cases r <;> nofun) h
theorem r3_Eval_L1.m {j k : Nat} (hj : j ≤ k)    (a : r3_Eval_L1_A) : Le (r3_Eval_L1.s j  a) (r3_Eval_L1.s k  a) := Le.iter (fun a => .refl _) hj a
noncomputable def r3_Eval_L1.w  : r3_Eval_L1_A → Option (r3_Eval_L1_O0 ⊕ Unit) := loopW (r3_Eval_L1_b )
theorem r3_Eval_L1.cv    (a : r3_Eval_L1_A) : Cv (fun k => r3_Eval_L1.s k  a) (r3_Eval_L1.w  a) := Cv.iter (fun a => by exact .const _) a
def r3_Eval_b (c_r3_Eval : T_api_Expr → Int → (List T_api_Sym) → Option (Int × Int)) (c_r3_reckon : Int → Int → Int → Option (Int × Int)) (l_r3_Eval_L1 : r3_Eval_L1_A → Option (r3_Eval_L1_O0 ⊕ Unit)) (a0 : T_api_Expr) (a1 : Int) (a2 : (List T_api_Sym)) : Option (Int × Int) := (bif (a0.Kind == (1 : Int)) then (some (a0.N, (0 : Int))) else (bif (a0.Kind == (3 : Int)) then (some (a1, (0 : Int))) else (bif (a0.Kind == (2 : Int)) then ((l_r3_Eval_L1 (r3_Eval_L1_A.mk a2 (0 : Int) a0)).bind fun x => Sum.elim (fun (o1 : r3_Eval_L1_O0) => (some (o1.x6, o1.x7))) (fun (o2 : Unit) => (some ((0 : Int), (4 : Int)))) x) else ((a0.L[(Int.toNat (0 : Int))]?).bind fun (e3 : T_api_Expr) => ((c_r3_Eval e3 a1 a2).bind fun (r4 : (Int × Int)) => (bif (r4.2 != (0 : Int)) then (some ((0 : Int), r4.2)) else (bif (a0.Kind == (4 : Int)) then (some ((w64 ((0 : Int) - r4.1)), (0 : Int))) else ((a0.L[(Int.toNat (1 : Int))]?).bind fun (e5 : T_api_Expr) => ((c_r3_Eval e5 a1 a2).bind fun (r6 : (Int × Int)) => (bif (r6.2 != (0 : Int)) then (some ((0 : Int), r6.2)) else ((c_r3_reckon a0.Kind r4.1 r6.1).bind fun (r7 : (Int × Int)) => (some (r7.1, r7.2)))))))))))))
def r3_Eval_t (P : Program) (call : CallF) (c_r3_Eval : T_api_Expr → Int → (List T_api_Sym) → Option (Int × Int)) (c_r3_reckon : Int → Int → Int → Option (Int × Int)) (l_r3_Eval_L1 : r3_Eval_L1_A → Option (r3_Eval_L1_O0 ⊕ Unit)) (a0 : T_api_Expr) (a1 : Int) (a2 : (List T_api_Sym)) : Tr (Int × Int) (AV × Heap) := (.as (a0.Kind == (1 : Int)) (rt r3_Eval_e (a0.N, (0 : Int))) (.as (a0.Kind == (3 : Int)) (rt r3_Eval_e (a1, (0 : Int))) (.as (a0.Kind == (2 : Int)) (.loop2 (loopAt P 24 8) (r3_Eval_L1_s (r3_Eval_L1_A.mk a2 (0 : Int) a0)) (l_r3_Eval_L1 (r3_Eval_L1_A.mk a2 (0 : Int) a0)) r3_Eval_L1_e0 r3_Eval_L1_e1 (fun (o1 : r3_Eval_L1_O0) => (rt r3_Eval_e (o1.x6, o1.x7))) (fun (o2 : Unit) => (rt r3_Eval_e ((0 : Int), (4 : Int))))) (.yes (decide (0 ≤ (0 : Int))) (.row ((R_api_Expr a0.L)[(Int.toNat (0 : Int))]?) (a0.L[(Int.toNat (0 : Int))]?) C_api_Expr fun (e3 : T_api_Expr) => (.call (call 24 [.agg (C_api_Expr e3), .sc (.int .i64 a1), .sl (R_api_Sym a2)] []) (c_r3_Eval e3 a1 a2) r3_Eval_e fun (r4 : (Int × Int)) => (.as (r4.2 != (0 : Int)) (rt r3_Eval_e ((0 : Int), r4.2)) (.as (a0.Kind == (4 : Int)) (rt r3_Eval_e ((w64 ((0 : Int) - r4.1)), (0 : Int))) (.yes (decide (0 ≤ (1 : Int))) (.row ((R_api_Expr a0.L)[(Int.toNat (1 : Int))]?) (a0.L[(Int.toNat (1 : Int))]?) C_api_Expr fun (e5 : T_api_Expr) => (.call (call 24 [.agg (C_api_Expr e5), .sc (.int .i64 a1), .sl (R_api_Sym a2)] []) (c_r3_Eval e5 a1 a2) r3_Eval_e fun (r6 : (Int × Int)) => (.as (r6.2 != (0 : Int)) (rt r3_Eval_e ((0 : Int), r6.2)) (.call (call 43 [.sc (.int .i64 a0.Kind), .sc (.int .i64 r4.1), .sc (.int .i64 r6.1)] []) (c_r3_reckon a0.Kind r4.1 r6.1) r3_reckon_e fun (r7 : (Int × Int)) => (rt r3_Eval_e (r7.1, r7.2)))))))))))))))
theorem r3_Eval_d (P : Program) (call : CallF) (c_r3_Eval : T_api_Expr → Int → (List T_api_Sym) → Option (Int × Int)) (c_r3_reckon : Int → Int → Int → Option (Int × Int)) (l_r3_Eval_L1 : r3_Eval_L1_A → Option (r3_Eval_L1_O0 ⊕ Unit)) (a0 : T_api_Expr) (a1 : Int) (a2 : (List T_api_Sym)) : (r3_Eval_t P call c_r3_Eval c_r3_reckon l_r3_Eval_L1 a0 a1 a2).den = r3_Eval_b c_r3_Eval c_r3_reckon l_r3_Eval_L1 a0 a1 a2 := rfl
theorem r3_Eval_n (call : CallF) (c_r3_Eval : T_api_Expr → Int → (List T_api_Sym) → Option (Int × Int)) (c_r3_reckon : Int → Int → Int → Option (Int × Int)) (l_r3_Eval_L1 : r3_Eval_L1_A → Option (r3_Eval_L1_O0 ⊕ Unit)) (a0 : T_api_Expr) (a1 : Int) (a2 : (List T_api_Sym)) : (r3_Eval_t Tryd.prog call c_r3_Eval c_r3_reckon l_r3_Eval_L1 a0 a1 a2).norm (bodyT Tryd.prog call G 24 [.agg (C_api_Expr a0), .sc (.int .i64 a1), .sl (R_api_Sym a2)] []) = r3_Eval_t Tryd.prog call c_r3_Eval c_r3_reckon l_r3_Eval_L1 a0 a1 a2 := by kernel_rfl
theorem r3_Eval_k (P : Program) (call : CallF) (lp : Loops) (c_r3_Eval : T_api_Expr → Int → (List T_api_Sym) → Option (Int × Int)) (c_r3_reckon : Int → Int → Int → Option (Int × Int)) (l_r3_Eval_L1 : r3_Eval_L1_A → Option (r3_Eval_L1_O0 ⊕ Unit)) (hc_r3_Eval : ∀ (a0 : T_api_Expr) (a1 : Int) (a2 : (List T_api_Sym)) (r : (Int × Int)), c_r3_Eval a0 a1 a2 = some r → (call 24 [.agg (C_api_Expr a0), .sc (.int .i64 a1), .sl (R_api_Sym a2)] []) = some (r3_Eval_e r)) (hc_r3_reckon : ∀ (a0 : Int) (a1 : Int) (a2 : Int) (r : (Int × Int)), c_r3_reckon a0 a1 a2 = some r → (call 43 [.sc (.int .i64 a0), .sc (.int .i64 a1), .sc (.int .i64 a2)] []) = some (r3_reckon_e r)) (hl_r3_Eval_L1 : ∀ (a : r3_Eval_L1_A) (r : (r3_Eval_L1_O0 ⊕ Unit)), l_r3_Eval_L1 a = some r → lp (loopAt P 24 8) (r3_Eval_L1_s a) = some (r3_Eval_L1_e r)) (a0 : T_api_Expr) (a1 : Int) (a2 : (List T_api_Sym)) : (r3_Eval_t P call c_r3_Eval c_r3_reckon l_r3_Eval_L1 a0 a1 a2).ok lp r3_Eval_e := ⟨rfl, fun h0 => rfl, fun h0 => ⟨rfl, fun h1 => rfl, fun h1 => ⟨rfl, fun h2 => ⟨fun o1 ho1 => ⟨hl_r3_Eval_L1 _ (.inl _) ho1, rfl⟩, fun o2 ho2 => ⟨hl_r3_Eval_L1 _ (.inr _) ho2, rfl⟩⟩, fun h2 => ⟨rfl, fun e3 he3 => ⟨R_api_Expr_get he3, fun r4 hr4 => ⟨hc_r3_Eval _ _ _ _ hr4, ⟨rfl, fun h3 => rfl, fun h3 => ⟨rfl, fun h4 => rfl, fun h4 => ⟨rfl, fun e5 he5 => ⟨R_api_Expr_get he5, fun r6 hr6 => ⟨hc_r3_Eval _ _ _ _ hr6, ⟨rfl, fun h5 => rfl, fun h5 => fun r7 hr7 => ⟨hc_r3_reckon _ _ _ _ hr7, rfl⟩⟩⟩⟩⟩⟩⟩⟩⟩⟩⟩⟩⟩
theorem r3_Eval_m {c_r3_Eval d_r3_Eval : T_api_Expr → Int → (List T_api_Sym) → Option (Int × Int)} (h_r3_Eval : ∀ (a0 : T_api_Expr) (a1 : Int) (a2 : (List T_api_Sym)), Le (c_r3_Eval a0 a1 a2) (d_r3_Eval a0 a1 a2)) {c_r3_reckon d_r3_reckon : Int → Int → Int → Option (Int × Int)} (h_r3_reckon : ∀ (a0 : Int) (a1 : Int) (a2 : Int), Le (c_r3_reckon a0 a1 a2) (d_r3_reckon a0 a1 a2)) {l_r3_Eval_L1 m_r3_Eval_L1 : r3_Eval_L1_A → Option (r3_Eval_L1_O0 ⊕ Unit)} (hl_r3_Eval_L1 : ∀ a, Le (l_r3_Eval_L1 a) (m_r3_Eval_L1 a)) (a0 : T_api_Expr) (a1 : Int) (a2 : (List T_api_Sym)) : Le (r3_Eval_b c_r3_Eval c_r3_reckon l_r3_Eval_L1 a0 a1 a2) (r3_Eval_b d_r3_Eval d_r3_reckon m_r3_Eval_L1 a0 a1 a2) := by
  unfold r3_Eval_b
  exact .cond (.refl _) (.cond (.refl _) (.cond (.bind (hl_r3_Eval_L1 _) fun x => .sum (fun o1 => .refl _) (fun o2 => .refl _) x) (.bind (.refl (a0.L[(Int.toNat (0 : Int))]?)) fun e3 => .bind (h_r3_Eval _ _ _) fun r4 => .cond (.refl _) (.cond (.refl _) (.bind (.refl (a0.L[(Int.toNat (1 : Int))]?)) fun e5 => .bind (h_r3_Eval _ _ _) fun r6 => .cond (.refl _) (.bind (h_r3_reckon _ _ _) fun r7 => .refl _))))))
theorem r3_Eval_c {c_r3_Eval : Nat → T_api_Expr → Int → (List T_api_Sym) → Option (Int × Int)} {d_r3_Eval : T_api_Expr → Int → (List T_api_Sym) → Option (Int × Int)} (h_r3_Eval : ∀ (a0 : T_api_Expr) (a1 : Int) (a2 : (List T_api_Sym)), Cv (fun k => c_r3_Eval k a0 a1 a2) (d_r3_Eval a0 a1 a2)) {c_r3_reckon : Nat → Int → Int → Int → Option (Int × Int)} {d_r3_reckon : Int → Int → Int → Option (Int × Int)} (h_r3_reckon : ∀ (a0 : Int) (a1 : Int) (a2 : Int), Cv (fun k => c_r3_reckon k a0 a1 a2) (d_r3_reckon a0 a1 a2)) {l_r3_Eval_L1 : Nat → r3_Eval_L1_A → Option (r3_Eval_L1_O0 ⊕ Unit)} {m_r3_Eval_L1 : r3_Eval_L1_A → Option (r3_Eval_L1_O0 ⊕ Unit)} (hl_r3_Eval_L1 : ∀ a, Cv (fun k => l_r3_Eval_L1 k a) (m_r3_Eval_L1 a)) (a0 : T_api_Expr) (a1 : Int) (a2 : (List T_api_Sym)) : Cv (fun k => r3_Eval_b (c_r3_Eval k) (c_r3_reckon k) (l_r3_Eval_L1 k) a0 a1 a2) (r3_Eval_b d_r3_Eval d_r3_reckon m_r3_Eval_L1 a0 a1 a2) := by
  unfold r3_Eval_b
  exact .cond (by exact .const _) (.cond (by exact .const _) (.cond (.bind (hl_r3_Eval_L1 _) fun x => .sum (fun o1 => by exact .const _) (fun o2 => by exact .const _) x) (.bind (.const (a0.L[(Int.toNat (0 : Int))]?)) fun e3 => .bind (h_r3_Eval _ _ _) fun r4 => .cond (by exact .const _) (.cond (by exact .const _) (.bind (.const (a0.L[(Int.toNat (1 : Int))]?)) fun e5 => .bind (h_r3_Eval _ _ _) fun r6 => .cond (by exact .const _) (.bind (h_r3_reckon _ _ _) fun r7 => by exact .const _))))))
def r3_Eval.s : Nat → T_api_Expr → Int → (List T_api_Sym) → Option (Int × Int)
  | 0, _, _, _ => none
  | k + 1, a0, a1, a2 => r3_Eval_b (fun a0 a1 a2 => r3_Eval.s k a0 a1 a2) (fun a0 a1 a2 => r3_reckon.s k a0 a1 a2) (r3_Eval_L1.s k) a0 a1 a2
termination_by structural k => k
theorem r3_Eval_all : ∀ (k : Nat), ∀ (a0 : T_api_Expr) (a1 : Int) (a2 : (List T_api_Sym)) (r : (Int × Int)), r3_Eval.s k a0 a1 a2 = some r → evalFn Tryd.prog G k 24 [.agg (C_api_Expr a0), .sc (.int .i64 a1), .sl (R_api_Sym a2)] [] = some (r3_Eval_e r)
  | 0 => fun _ _ _ _ h => (nomatch h)
  | k + 1 => by
    have i_r3_Eval := r3_Eval_all k
    exact fun a0 a1 a2 r h => fn_ok rfl (r3_Eval_t Tryd.prog (evalFn Tryd.prog G k) (fun a0 a1 a2 => r3_Eval.s k a0 a1 a2) (fun a0 a1 a2 => r3_reckon.s k a0 a1 a2) (r3_Eval_L1.s k) a0 a1 a2) (r3_Eval_n _ (fun a0 a1 a2 => r3_Eval.s k a0 a1 a2) (fun a0 a1 a2 => r3_reckon.s k a0 a1 a2) (r3_Eval_L1.s k) a0 a1 a2) (r3_Eval_k _ _ _ (fun a0 a1 a2 => r3_Eval.s k a0 a1 a2) (fun a0 a1 a2 => r3_reckon.s k a0 a1 a2) (r3_Eval_L1.s k) (i_r3_Eval) (r3_reckon.ok k) (r3_Eval_L1_ok _ k) a0 a1 a2) ((r3_Eval_d _ _ (fun a0 a1 a2 => r3_Eval.s k a0 a1 a2) (fun a0 a1 a2 => r3_reckon.s k a0 a1 a2) (r3_Eval_L1.s k) a0 a1 a2).trans h)
theorem r3_Eval.ok (k : Nat) : ∀ (a0 : T_api_Expr) (a1 : Int) (a2 : (List T_api_Sym)) (r : (Int × Int)), r3_Eval.s k a0 a1 a2 = some r → evalFn Tryd.prog G k 24 [.agg (C_api_Expr a0), .sc (.int .i64 a1), .sl (R_api_Sym a2)] [] = some (r3_Eval_e r) := (r3_Eval_all k)
theorem r3_Eval_mall : ∀ (k : Nat), (∀ (a0 : T_api_Expr) (a1 : Int) (a2 : (List T_api_Sym)), Le (r3_Eval.s k a0 a1 a2) (r3_Eval.s (k + 1) a0 a1 a2))
  | 0 => fun _ _ _ _ h => (nomatch h)
  | k + 1 => by
    have i_r3_Eval := r3_Eval_mall k
    exact fun a0 a1 a2 => r3_Eval_m (i_r3_Eval) (r3_reckon.mono k) (r3_Eval_L1.m (Nat.le_succ k)) a0 a1 a2
theorem r3_Eval.mono (k : Nat) : ∀ (a0 : T_api_Expr) (a1 : Int) (a2 : (List T_api_Sym)), Le (r3_Eval.s k a0 a1 a2) (r3_Eval.s (k + 1) a0 a1 a2) := (r3_Eval_mall k)
noncomputable def r3_Eval (a0 : T_api_Expr) (a1 : Int) (a2 : (List T_api_Sym)) : Option (Int × Int) := lim fun k => r3_Eval.s k a0 a1 a2
theorem r3_Eval.cv (a0 : T_api_Expr) (a1 : Int) (a2 : (List T_api_Sym)) : Cv (fun k => r3_Eval.s k a0 a1 a2) (r3_Eval a0 a1 a2) := .lim fun k => r3_Eval.mono k a0 a1 a2
noncomputable def r3_Eval_L1 : r3_Eval_L1_A → Option (r3_Eval_L1_O0 ⊕ Unit) := r3_Eval_L1.w 
theorem r3_Eval_L1.eq (a : r3_Eval_L1_A) : r3_Eval_L1 a = (r3_Eval_L1_b  a).bind (Sum.elim r3_Eval_L1 some) := loopW_eq _ _
theorem r3_Eval.eq (a0 : T_api_Expr) (a1 : Int) (a2 : (List T_api_Sym)) : r3_Eval a0 a1 a2 = r3_Eval_b r3_Eval r3_reckon r3_Eval_L1 a0 a1 a2 := Cv.uniq (r3_Eval.cv a0 a1 a2).shift (r3_Eval_c r3_Eval.cv r3_reckon.cv (r3_Eval_L1.cv) a0 a1 a2)
def w3_ExprEvals_e (r : Bool) : AV × Heap := (.sc (.bool r), [])
def w3_ExprEvals_b (c_w3_known : Option Bool) (c_w3_Few : (List T_w3_Raw) → Option Bool) (c_w3_One : (List T_w3_Raw) → Option T_api_Expr) (c_w3_Syms : (List Int) → Option (List T_api_Sym)) (c_w3_within : Int → Int → Option Int) (c_expr_Eval : T_api_Expr → Int → (List T_api_Sym) → Option (Int × Int)) (c_r3_Eval : T_api_Expr → Int → (List T_api_Sym) → Option (Int × Int)) (a0 : (List T_w3_Raw)) (a1 : Int) (a2 : (List Int)) : Option Bool := ((c_w3_known).bind fun (r1 : Bool) => (bif (!r1) then (some false) else ((c_w3_Few a0).bind fun (r2 : Bool) => (bif (!r2) then (some true) else ((c_w3_One a0).bind fun (r3 : T_api_Expr) => ((c_w3_Syms a2).bind fun (r4 : (List T_api_Sym)) => ((c_w3_within a1 (1048577 : Int)).bind fun (r5 : Int) => ((c_expr_Eval r3 r5 r4).bind fun (r6 : (Int × Int)) => ((c_r3_Eval r3 r5 r4).bind fun (r7 : (Int × Int)) => (bif (r6.1 == r7.1) then (some (r6.2 == r7.2)) else (some false)))))))))))
def w3_ExprEvals_t (P : Program) (call : CallF) (c_w3_known : Option Bool) (c_w3_Few : (List T_w3_Raw) → Option Bool) (c_w3_One : (List T_w3_Raw) → Option T_api_Expr) (c_w3_Syms : (List Int) → Option (List T_api_Sym)) (c_w3_within : Int → Int → Option Int) (c_expr_Eval : T_api_Expr → Int → (List T_api_Sym) → Option (Int × Int)) (c_r3_Eval : T_api_Expr → Int → (List T_api_Sym) → Option (Int × Int)) (a0 : (List T_w3_Raw)) (a1 : Int) (a2 : (List Int)) : Tr Bool (AV × Heap) := (.call (call 14 [] []) (c_w3_known) w3_known_e fun (r1 : Bool) => (.as (!r1) (rt w3_ExprEvals_e false) (.call (call 15 [.sl (R_w3_Raw a0)] []) (c_w3_Few a0) w3_Few_e fun (r2 : Bool) => (.as (!r2) (rt w3_ExprEvals_e true) (.call (call 17 [.sl (R_w3_Raw a0)] []) (c_w3_One a0) w3_One_e fun (r3 : T_api_Expr) => (.call (call 22 [.sl (R_i64 a2)] []) (c_w3_Syms a2) w3_Syms_e fun (r4 : (List T_api_Sym)) => (.call (call 18 [.sc (.int .i64 a1), .sc (.int .i64 (1048577 : Int))] []) (c_w3_within a1 (1048577 : Int)) w3_within_e fun (r5 : Int) => (.call (call 23 [.agg (C_api_Expr r3), .sc (.int .i64 r5), .sl (R_api_Sym r4)] []) (c_expr_Eval r3 r5 r4) expr_Eval_e fun (r6 : (Int × Int)) => (.call (call 24 [.agg (C_api_Expr r3), .sc (.int .i64 r5), .sl (R_api_Sym r4)] []) (c_r3_Eval r3 r5 r4) r3_Eval_e fun (r7 : (Int × Int)) => (.as (r6.1 == r7.1) (yesN 3 (r6.1 == r7.1) (rt w3_ExprEvals_e (r6.2 == r7.2))) (noN 3 (r6.1 == r7.1) (rt w3_ExprEvals_e false))))))))))))
theorem w3_ExprEvals_d (P : Program) (call : CallF) (c_w3_known : Option Bool) (c_w3_Few : (List T_w3_Raw) → Option Bool) (c_w3_One : (List T_w3_Raw) → Option T_api_Expr) (c_w3_Syms : (List Int) → Option (List T_api_Sym)) (c_w3_within : Int → Int → Option Int) (c_expr_Eval : T_api_Expr → Int → (List T_api_Sym) → Option (Int × Int)) (c_r3_Eval : T_api_Expr → Int → (List T_api_Sym) → Option (Int × Int)) (a0 : (List T_w3_Raw)) (a1 : Int) (a2 : (List Int)) : (w3_ExprEvals_t P call c_w3_known c_w3_Few c_w3_One c_w3_Syms c_w3_within c_expr_Eval c_r3_Eval a0 a1 a2).den = w3_ExprEvals_b c_w3_known c_w3_Few c_w3_One c_w3_Syms c_w3_within c_expr_Eval c_r3_Eval a0 a1 a2 := rfl
theorem w3_ExprEvals_n (call : CallF) (c_w3_known : Option Bool) (c_w3_Few : (List T_w3_Raw) → Option Bool) (c_w3_One : (List T_w3_Raw) → Option T_api_Expr) (c_w3_Syms : (List Int) → Option (List T_api_Sym)) (c_w3_within : Int → Int → Option Int) (c_expr_Eval : T_api_Expr → Int → (List T_api_Sym) → Option (Int × Int)) (c_r3_Eval : T_api_Expr → Int → (List T_api_Sym) → Option (Int × Int)) (a0 : (List T_w3_Raw)) (a1 : Int) (a2 : (List Int)) : (w3_ExprEvals_t Tryd.prog call c_w3_known c_w3_Few c_w3_One c_w3_Syms c_w3_within c_expr_Eval c_r3_Eval a0 a1 a2).norm (bodyT Tryd.prog call G 4 [.sl (R_w3_Raw a0), .sc (.int .i64 a1), .sl (R_i64 a2)] []) = w3_ExprEvals_t Tryd.prog call c_w3_known c_w3_Few c_w3_One c_w3_Syms c_w3_within c_expr_Eval c_r3_Eval a0 a1 a2 := by kernel_rfl
theorem w3_ExprEvals_k (P : Program) (call : CallF) (lp : Loops) (c_w3_known : Option Bool) (c_w3_Few : (List T_w3_Raw) → Option Bool) (c_w3_One : (List T_w3_Raw) → Option T_api_Expr) (c_w3_Syms : (List Int) → Option (List T_api_Sym)) (c_w3_within : Int → Int → Option Int) (c_expr_Eval : T_api_Expr → Int → (List T_api_Sym) → Option (Int × Int)) (c_r3_Eval : T_api_Expr → Int → (List T_api_Sym) → Option (Int × Int)) (hc_w3_known : ∀  (r : Bool), c_w3_known = some r → (call 14 [] []) = some (w3_known_e r)) (hc_w3_Few : ∀ (a0 : (List T_w3_Raw)) (r : Bool), c_w3_Few a0 = some r → (call 15 [.sl (R_w3_Raw a0)] []) = some (w3_Few_e r)) (hc_w3_One : ∀ (a0 : (List T_w3_Raw)) (r : T_api_Expr), c_w3_One a0 = some r → (call 17 [.sl (R_w3_Raw a0)] []) = some (w3_One_e r)) (hc_w3_Syms : ∀ (a0 : (List Int)) (r : (List T_api_Sym)), c_w3_Syms a0 = some r → (call 22 [.sl (R_i64 a0)] []) = some (w3_Syms_e r)) (hc_w3_within : ∀ (a0 : Int) (a1 : Int) (r : Int), c_w3_within a0 a1 = some r → (call 18 [.sc (.int .i64 a0), .sc (.int .i64 a1)] []) = some (w3_within_e r)) (hc_expr_Eval : ∀ (a0 : T_api_Expr) (a1 : Int) (a2 : (List T_api_Sym)) (r : (Int × Int)), c_expr_Eval a0 a1 a2 = some r → (call 23 [.agg (C_api_Expr a0), .sc (.int .i64 a1), .sl (R_api_Sym a2)] []) = some (expr_Eval_e r)) (hc_r3_Eval : ∀ (a0 : T_api_Expr) (a1 : Int) (a2 : (List T_api_Sym)) (r : (Int × Int)), c_r3_Eval a0 a1 a2 = some r → (call 24 [.agg (C_api_Expr a0), .sc (.int .i64 a1), .sl (R_api_Sym a2)] []) = some (r3_Eval_e r)) (a0 : (List T_w3_Raw)) (a1 : Int) (a2 : (List Int)) : (w3_ExprEvals_t P call c_w3_known c_w3_Few c_w3_One c_w3_Syms c_w3_within c_expr_Eval c_r3_Eval a0 a1 a2).ok lp w3_ExprEvals_e := fun r1 hr1 => ⟨hc_w3_known _ hr1, ⟨rfl, fun h0 => rfl, fun h0 => fun r2 hr2 => ⟨hc_w3_Few _ _ hr2, ⟨rfl, fun h1 => rfl, fun h1 => fun r3 hr3 => ⟨hc_w3_One _ _ hr3, fun r4 hr4 => ⟨hc_w3_Syms _ _ hr4, fun r5 hr5 => ⟨hc_w3_within _ _ _ hr5, fun r6 hr6 => ⟨hc_expr_Eval _ _ _ _ hr6, fun r7 hr7 => ⟨hc_r3_Eval _ _ _ _ hr7, ⟨rfl, fun h2 => yesN_ok 3 (h2) (rfl), fun h2 => noN_ok 3 (h2) (rfl)⟩⟩⟩⟩⟩⟩⟩⟩⟩⟩
theorem w3_ExprEvals_m {c_w3_known d_w3_known : Option Bool} (h_w3_known : Le (c_w3_known ) (d_w3_known )) {c_w3_Few d_w3_Few : (List T_w3_Raw) → Option Bool} (h_w3_Few : ∀ (a0 : (List T_w3_Raw)), Le (c_w3_Few a0) (d_w3_Few a0)) {c_w3_One d_w3_One : (List T_w3_Raw) → Option T_api_Expr} (h_w3_One : ∀ (a0 : (List T_w3_Raw)), Le (c_w3_One a0) (d_w3_One a0)) {c_w3_Syms d_w3_Syms : (List Int) → Option (List T_api_Sym)} (h_w3_Syms : ∀ (a0 : (List Int)), Le (c_w3_Syms a0) (d_w3_Syms a0)) {c_w3_within d_w3_within : Int → Int → Option Int} (h_w3_within : ∀ (a0 : Int) (a1 : Int), Le (c_w3_within a0 a1) (d_w3_within a0 a1)) {c_expr_Eval d_expr_Eval : T_api_Expr → Int → (List T_api_Sym) → Option (Int × Int)} (h_expr_Eval : ∀ (a0 : T_api_Expr) (a1 : Int) (a2 : (List T_api_Sym)), Le (c_expr_Eval a0 a1 a2) (d_expr_Eval a0 a1 a2)) {c_r3_Eval d_r3_Eval : T_api_Expr → Int → (List T_api_Sym) → Option (Int × Int)} (h_r3_Eval : ∀ (a0 : T_api_Expr) (a1 : Int) (a2 : (List T_api_Sym)), Le (c_r3_Eval a0 a1 a2) (d_r3_Eval a0 a1 a2)) (a0 : (List T_w3_Raw)) (a1 : Int) (a2 : (List Int)) : Le (w3_ExprEvals_b c_w3_known c_w3_Few c_w3_One c_w3_Syms c_w3_within c_expr_Eval c_r3_Eval a0 a1 a2) (w3_ExprEvals_b d_w3_known d_w3_Few d_w3_One d_w3_Syms d_w3_within d_expr_Eval d_r3_Eval a0 a1 a2) := by
  unfold w3_ExprEvals_b
  exact .bind (h_w3_known) fun r1 => .cond (.refl _) (.bind (h_w3_Few _) fun r2 => .cond (.refl _) (.bind (h_w3_One _) fun r3 => .bind (h_w3_Syms _) fun r4 => .bind (h_w3_within _ _) fun r5 => .bind (h_expr_Eval _ _ _) fun r6 => .bind (h_r3_Eval _ _ _) fun r7 => .refl _))
theorem w3_ExprEvals_c {c_w3_known : Nat → Option Bool} {d_w3_known : Option Bool} (h_w3_known : Cv (fun k => c_w3_known k ) (d_w3_known )) {c_w3_Few : Nat → (List T_w3_Raw) → Option Bool} {d_w3_Few : (List T_w3_Raw) → Option Bool} (h_w3_Few : ∀ (a0 : (List T_w3_Raw)), Cv (fun k => c_w3_Few k a0) (d_w3_Few a0)) {c_w3_One : Nat → (List T_w3_Raw) → Option T_api_Expr} {d_w3_One : (List T_w3_Raw) → Option T_api_Expr} (h_w3_One : ∀ (a0 : (List T_w3_Raw)), Cv (fun k => c_w3_One k a0) (d_w3_One a0)) {c_w3_Syms : Nat → (List Int) → Option (List T_api_Sym)} {d_w3_Syms : (List Int) → Option (List T_api_Sym)} (h_w3_Syms : ∀ (a0 : (List Int)), Cv (fun k => c_w3_Syms k a0) (d_w3_Syms a0)) {c_w3_within : Nat → Int → Int → Option Int} {d_w3_within : Int → Int → Option Int} (h_w3_within : ∀ (a0 : Int) (a1 : Int), Cv (fun k => c_w3_within k a0 a1) (d_w3_within a0 a1)) {c_expr_Eval : Nat → T_api_Expr → Int → (List T_api_Sym) → Option (Int × Int)} {d_expr_Eval : T_api_Expr → Int → (List T_api_Sym) → Option (Int × Int)} (h_expr_Eval : ∀ (a0 : T_api_Expr) (a1 : Int) (a2 : (List T_api_Sym)), Cv (fun k => c_expr_Eval k a0 a1 a2) (d_expr_Eval a0 a1 a2)) {c_r3_Eval : Nat → T_api_Expr → Int → (List T_api_Sym) → Option (Int × Int)} {d_r3_Eval : T_api_Expr → Int → (List T_api_Sym) → Option (Int × Int)} (h_r3_Eval : ∀ (a0 : T_api_Expr) (a1 : Int) (a2 : (List T_api_Sym)), Cv (fun k => c_r3_Eval k a0 a1 a2) (d_r3_Eval a0 a1 a2)) (a0 : (List T_w3_Raw)) (a1 : Int) (a2 : (List Int)) : Cv (fun k => w3_ExprEvals_b (c_w3_known k) (c_w3_Few k) (c_w3_One k) (c_w3_Syms k) (c_w3_within k) (c_expr_Eval k) (c_r3_Eval k) a0 a1 a2) (w3_ExprEvals_b d_w3_known d_w3_Few d_w3_One d_w3_Syms d_w3_within d_expr_Eval d_r3_Eval a0 a1 a2) := by
  unfold w3_ExprEvals_b
  exact .bind (h_w3_known) fun r1 => .cond (by exact .const _) (.bind (h_w3_Few _) fun r2 => .cond (by exact .const _) (.bind (h_w3_One _) fun r3 => .bind (h_w3_Syms _) fun r4 => .bind (h_w3_within _ _) fun r5 => .bind (h_expr_Eval _ _ _) fun r6 => .bind (h_r3_Eval _ _ _) fun r7 => by exact .const _))
def w3_ExprEvals.s : Nat → (List T_w3_Raw) → Int → (List Int) → Option Bool
  | 0, _, _, _ => none
  | k + 1, a0, a1, a2 => w3_ExprEvals_b (w3_known.s k) (fun a0 => w3_Few.s k a0) (fun a0 => w3_One.s k a0) (fun a0 => w3_Syms.s k a0) (fun a0 a1 => w3_within.s k a0 a1) (fun a0 a1 a2 => expr_Eval.s k a0 a1 a2) (fun a0 a1 a2 => r3_Eval.s k a0 a1 a2) a0 a1 a2
theorem w3_ExprEvals.ok : ∀ (k : Nat), ∀ (a0 : (List T_w3_Raw)) (a1 : Int) (a2 : (List Int)) (r : Bool), w3_ExprEvals.s k a0 a1 a2 = some r → evalFn Tryd.prog G k 4 [.sl (R_w3_Raw a0), .sc (.int .i64 a1), .sl (R_i64 a2)] [] = some (w3_ExprEvals_e r)
  | 0, _, _, _, _, h => (nomatch h)
  | k + 1, a0, a1, a2, r, h => fn_ok rfl (w3_ExprEvals_t Tryd.prog (evalFn Tryd.prog G k) (w3_known.s k) (fun a0 => w3_Few.s k a0) (fun a0 => w3_One.s k a0) (fun a0 => w3_Syms.s k a0) (fun a0 a1 => w3_within.s k a0 a1) (fun a0 a1 a2 => expr_Eval.s k a0 a1 a2) (fun a0 a1 a2 => r3_Eval.s k a0 a1 a2) a0 a1 a2) (w3_ExprEvals_n _ (w3_known.s k) (fun a0 => w3_Few.s k a0) (fun a0 => w3_One.s k a0) (fun a0 => w3_Syms.s k a0) (fun a0 a1 => w3_within.s k a0 a1) (fun a0 a1 a2 => expr_Eval.s k a0 a1 a2) (fun a0 a1 a2 => r3_Eval.s k a0 a1 a2) a0 a1 a2) (w3_ExprEvals_k _ _ _ (w3_known.s k) (fun a0 => w3_Few.s k a0) (fun a0 => w3_One.s k a0) (fun a0 => w3_Syms.s k a0) (fun a0 a1 => w3_within.s k a0 a1) (fun a0 a1 a2 => expr_Eval.s k a0 a1 a2) (fun a0 a1 a2 => r3_Eval.s k a0 a1 a2) (w3_known.ok k) (w3_Few.ok k) (w3_One.ok k) (w3_Syms.ok k) (w3_within.ok k) (expr_Eval.ok k) (r3_Eval.ok k)  a0 a1 a2) ((w3_ExprEvals_d _ _ (w3_known.s k) (fun a0 => w3_Few.s k a0) (fun a0 => w3_One.s k a0) (fun a0 => w3_Syms.s k a0) (fun a0 a1 => w3_within.s k a0 a1) (fun a0 a1 a2 => expr_Eval.s k a0 a1 a2) (fun a0 a1 a2 => r3_Eval.s k a0 a1 a2) a0 a1 a2).trans h)
theorem w3_ExprEvals.mono : ∀ (k : Nat) (a0 : (List T_w3_Raw)) (a1 : Int) (a2 : (List Int)), Le (w3_ExprEvals.s k a0 a1 a2) (w3_ExprEvals.s (k + 1) a0 a1 a2)
  | 0, _, _, _ => fun r h => (nomatch h)
  | k + 1, a0, a1, a2 => w3_ExprEvals_m (w3_known.mono k) (w3_Few.mono k) (w3_One.mono k) (w3_Syms.mono k) (w3_within.mono k) (expr_Eval.mono k) (r3_Eval.mono k) a0 a1 a2
noncomputable def w3_ExprEvals (a0 : (List T_w3_Raw)) (a1 : Int) (a2 : (List Int)) : Option Bool := lim fun k => w3_ExprEvals.s k a0 a1 a2
theorem w3_ExprEvals.cv (a0 : (List T_w3_Raw)) (a1 : Int) (a2 : (List Int)) : Cv (fun k => w3_ExprEvals.s k a0 a1 a2) (w3_ExprEvals a0 a1 a2) := .lim fun k => w3_ExprEvals.mono k a0 a1 a2
theorem w3_ExprEvals.eq (a0 : (List T_w3_Raw)) (a1 : Int) (a2 : (List Int)) : w3_ExprEvals a0 a1 a2 = w3_ExprEvals_b w3_known w3_Few w3_One w3_Syms w3_within expr_Eval r3_Eval a0 a1 a2 := Cv.uniq (w3_ExprEvals.cv a0 a1 a2).shift (w3_ExprEvals_c w3_known.cv w3_Few.cv w3_One.cv w3_Syms.cv w3_within.cv expr_Eval.cv r3_Eval.cv a0 a1 a2)
theorem w3_ExprEvals.run (a0 : (List T_w3_Raw)) (a1 : Int) (a2 : (List Int)) {r : Bool} (h : w3_ExprEvals a0 a1 a2 = some r) : ∃ k, evalFn Tryd.prog G k 4 [.sl (R_w3_Raw a0), .sc (.int .i64 a1), .sl (R_i64 a2)] [] = some (w3_ExprEvals_e r) :=
  let ⟨k, hk⟩ := ((w3_ExprEvals.cv a0 a1 a2).2 r).1 h
  ⟨k, w3_ExprEvals.ok k a0 a1 a2 r hk⟩
def slices_Index_e (r : Int) : AV × Heap := (.sc (.int .i64 r), [])
structure slices_Index_L1_A where
  x0 : (List ByteArray)
  x1 : ByteArray
  x7 : Int
  x8 : Int
def slices_Index_L1_s (a : slices_Index_L1_A) : St := { n := 19, nx := 0, env := [(0, .sl (R_string a.x0)), (1, .sc (.string a.x1)), (7, .sc (.int .i64 a.x7)), (8, .sc (.int .i64 a.x8))], heap := [] }
def slices_Index_L1_e0 (a : Int) : Ex × St := (.ret, { n := 19, nx := 0, env := [(4, .sc (.int .i64 a))], heap := [] })
def slices_Index_L1_e1 (a : Unit) : Ex × St := (.exit 0, { n := 19, nx := 0, env := [], heap := [] })
def slices_Index_L1_e (a : (Int ⊕ Unit)) : Ex × St := Sum.elim slices_Index_L1_e0 slices_Index_L1_e1 a
def slices_Index_L1_b  (a : slices_Index_L1_A) : Option (slices_Index_L1_A ⊕ (Int ⊕ Unit)) := (bif (decide (a.x8 < a.x7)) then (bif (decide (0 ≤ a.x8)) then ((a.x0[(Int.toNat a.x8)]?).bind fun (e1 : ByteArray) => (bif (eqS a.x1 e1) then (some (.inr (.inl a.x8))) else (some (.inl (slices_Index_L1_A.mk a.x0 a.x1 a.x7 (w64 (a.x8 + (1 : Int)))))))) else none) else (some (.inr (.inr ()))))
def slices_Index_L1_t (P : Program) (call : CallF)  (a : slices_Index_L1_A) : Tr (slices_Index_L1_A ⊕ (Int ⊕ Unit)) (Ex × St) := (.as (decide (a.x8 < a.x7)) (.as (decide (0 ≤ a.x8)) (.row ((R_string a.x0)[(Int.toNat a.x8)]?) (a.x0[(Int.toNat a.x8)]?) C_string fun (e1 : ByteArray) => (.as (eqS a.x1 e1) (rx slices_Index_L1_e (.inl a.x8)) (lf slices_Index_L1_s (slices_Index_L1_A.mk a.x0 a.x1 a.x7 (w64 (a.x8 + (1 : Int))))))) .fail) (rx slices_Index_L1_e (.inr ())))
theorem slices_Index_L1_d (P : Program) (call : CallF)  (a : slices_Index_L1_A) : (slices_Index_L1_t P call  a).den = slices_Index_L1_b  a := rfl
theorem slices_Index_L1_n (call : CallF)  (a : slices_Index_L1_A) : (slices_Index_L1_t Tryd.prog call  a).norm (roundT Tryd.prog G.kd call 0 (G.an 62) (loopAt Tryd.prog 62 2) (slices_Index_L1_s a)) = slices_Index_L1_t Tryd.prog call  a := by kernel_rfl
theorem slices_Index_L1_k (P : Program) (call : CallF) (lp : Loops)   (a : slices_Index_L1_A) : (slices_Index_L1_t P call  a).ok lp (Sum.elim (fun a => (.norm, slices_Index_L1_s a)) slices_Index_L1_e) := ⟨rfl, fun h0 => ⟨rfl, fun h1 => fun e1 he1 => ⟨R_string_get he1, ⟨rfl, fun h2 => rfl, fun h2 => rfl⟩⟩, fun h1 => trivial⟩, fun h0 => rfl⟩
def slices_Index_L1.s (k : Nat)  : slices_Index_L1_A → Option (Int ⊕ Unit) := iter (slices_Index_L1_b ) k
theorem slices_Index_L1_ok (call : CallF) (k : Nat)   (a : slices_Index_L1_A) (r : (Int ⊕ Unit)) (h : slices_Index_L1.s k  a = some r) : loopsF Tryd.prog G.kd call 0 (G.an 62) k (loopAt Tryd.prog 62 2) (slices_Index_L1_s a) = some (slices_Index_L1_e r) :=
  loop_ok (fun a => slices_Index_L1_t Tryd.prog call  a) (fun a => slices_Index_L1_d _ call  a) (fun a => slices_Index_L1_n call  a) (fun a => slices_Index_L1_k _ call _   a) (fun r => by cases r <;> nofun) h
theorem slices_Index_L1.m {j k : Nat} (hj : j ≤ k)    (a : slices_Index_L1_A) : Le (slices_Index_L1.s j  a) (slices_Index_L1.s k  a) := Le.iter (fun a => .refl _) hj a
noncomputable def slices_Index_L1.w  : slices_Index_L1_A → Option (Int ⊕ Unit) := loopW (slices_Index_L1_b )
theorem slices_Index_L1.cv    (a : slices_Index_L1_A) : Cv (fun k => slices_Index_L1.s k  a) (slices_Index_L1.w  a) := Cv.iter (fun a => by exact .const _) a
def slices_Index_b (l_slices_Index_L1 : slices_Index_L1_A → Option (Int ⊕ Unit)) (a0 : (List ByteArray)) (a1 : ByteArray) : Option Int := ((l_slices_Index_L1 (slices_Index_L1_A.mk a0 a1 (((a0.length) : Nat) : Int) (0 : Int))).bind fun x => Sum.elim (fun (o1 : Int) => (some o1)) (fun (o2 : Unit) => (some (-1 : Int))) x)
def slices_Index_t (P : Program) (call : CallF) (l_slices_Index_L1 : slices_Index_L1_A → Option (Int ⊕ Unit)) (a0 : (List ByteArray)) (a1 : ByteArray) : Tr Int (AV × Heap) := (.num ((R_string a0).length) (a0.length) (.loop2 (loopAt P 62 2) (slices_Index_L1_s (slices_Index_L1_A.mk a0 a1 (((a0.length) : Nat) : Int) (0 : Int))) (l_slices_Index_L1 (slices_Index_L1_A.mk a0 a1 (((a0.length) : Nat) : Int) (0 : Int))) slices_Index_L1_e0 slices_Index_L1_e1 (fun (o1 : Int) => (rt slices_Index_e o1)) (fun (o2 : Unit) => (rt slices_Index_e (-1 : Int)))))
theorem slices_Index_d (P : Program) (call : CallF) (l_slices_Index_L1 : slices_Index_L1_A → Option (Int ⊕ Unit)) (a0 : (List ByteArray)) (a1 : ByteArray) : (slices_Index_t P call l_slices_Index_L1 a0 a1).den = slices_Index_b l_slices_Index_L1 a0 a1 := rfl
theorem slices_Index_n (call : CallF) (l_slices_Index_L1 : slices_Index_L1_A → Option (Int ⊕ Unit)) (a0 : (List ByteArray)) (a1 : ByteArray) : (slices_Index_t Tryd.prog call l_slices_Index_L1 a0 a1).norm (bodyT Tryd.prog call G 62 [.sl (R_string a0), .sc (.string a1)] []) = slices_Index_t Tryd.prog call l_slices_Index_L1 a0 a1 := by kernel_rfl
theorem slices_Index_k (P : Program) (call : CallF) (lp : Loops) (l_slices_Index_L1 : slices_Index_L1_A → Option (Int ⊕ Unit)) (hl_slices_Index_L1 : ∀ (a : slices_Index_L1_A) (r : (Int ⊕ Unit)), l_slices_Index_L1 a = some r → lp (loopAt P 62 2) (slices_Index_L1_s a) = some (slices_Index_L1_e r)) (a0 : (List ByteArray)) (a1 : ByteArray) : (slices_Index_t P call l_slices_Index_L1 a0 a1).ok lp slices_Index_e := ⟨(R_string_len _), ⟨fun o1 ho1 => ⟨hl_slices_Index_L1 _ (.inl _) ho1, rfl⟩, fun o2 ho2 => ⟨hl_slices_Index_L1 _ (.inr _) ho2, rfl⟩⟩⟩
theorem slices_Index_m {l_slices_Index_L1 m_slices_Index_L1 : slices_Index_L1_A → Option (Int ⊕ Unit)} (hl_slices_Index_L1 : ∀ a, Le (l_slices_Index_L1 a) (m_slices_Index_L1 a)) (a0 : (List ByteArray)) (a1 : ByteArray) : Le (slices_Index_b l_slices_Index_L1 a0 a1) (slices_Index_b m_slices_Index_L1 a0 a1) := by
  unfold slices_Index_b
  exact .bind (hl_slices_Index_L1 _) fun x => .sum (fun o1 => .refl _) (fun o2 => .refl _) x
theorem slices_Index_c {l_slices_Index_L1 : Nat → slices_Index_L1_A → Option (Int ⊕ Unit)} {m_slices_Index_L1 : slices_Index_L1_A → Option (Int ⊕ Unit)} (hl_slices_Index_L1 : ∀ a, Cv (fun k => l_slices_Index_L1 k a) (m_slices_Index_L1 a)) (a0 : (List ByteArray)) (a1 : ByteArray) : Cv (fun k => slices_Index_b (l_slices_Index_L1 k) a0 a1) (slices_Index_b m_slices_Index_L1 a0 a1) := by
  unfold slices_Index_b
  exact .bind (hl_slices_Index_L1 _) fun x => .sum (fun o1 => by exact .const _) (fun o2 => by exact .const _) x
def slices_Index.s : Nat → (List ByteArray) → ByteArray → Option Int
  | 0, _, _ => none
  | k + 1, a0, a1 => slices_Index_b (slices_Index_L1.s k) a0 a1
theorem slices_Index.ok : ∀ (k : Nat), ∀ (a0 : (List ByteArray)) (a1 : ByteArray) (r : Int), slices_Index.s k a0 a1 = some r → evalFn Tryd.prog G k 62 [.sl (R_string a0), .sc (.string a1)] [] = some (slices_Index_e r)
  | 0, _, _, _, h => (nomatch h)
  | k + 1, a0, a1, r, h => fn_ok rfl (slices_Index_t Tryd.prog (evalFn Tryd.prog G k) (slices_Index_L1.s k) a0 a1) (slices_Index_n _ (slices_Index_L1.s k) a0 a1) (slices_Index_k _ _ _ (slices_Index_L1.s k)  (slices_Index_L1_ok _ k) a0 a1) ((slices_Index_d _ _ (slices_Index_L1.s k) a0 a1).trans h)
theorem slices_Index.mono : ∀ (k : Nat) (a0 : (List ByteArray)) (a1 : ByteArray), Le (slices_Index.s k a0 a1) (slices_Index.s (k + 1) a0 a1)
  | 0, _, _ => fun r h => (nomatch h)
  | k + 1, a0, a1 => slices_Index_m (slices_Index_L1.m (Nat.le_succ k)) a0 a1
noncomputable def slices_Index (a0 : (List ByteArray)) (a1 : ByteArray) : Option Int := lim fun k => slices_Index.s k a0 a1
theorem slices_Index.cv (a0 : (List ByteArray)) (a1 : ByteArray) : Cv (fun k => slices_Index.s k a0 a1) (slices_Index a0 a1) := .lim fun k => slices_Index.mono k a0 a1
noncomputable def slices_Index_L1 : slices_Index_L1_A → Option (Int ⊕ Unit) := slices_Index_L1.w 
theorem slices_Index_L1.eq (a : slices_Index_L1_A) : slices_Index_L1 a = (slices_Index_L1_b  a).bind (Sum.elim slices_Index_L1 some) := loopW_eq _ _
theorem slices_Index.eq (a0 : (List ByteArray)) (a1 : ByteArray) : slices_Index a0 a1 = slices_Index_b slices_Index_L1 a0 a1 := Cv.uniq (slices_Index.cv a0 a1).shift (slices_Index_c (slices_Index_L1.cv) a0 a1)
def slices_Contains_e (r : Bool) : AV × Heap := (.sc (.bool r), [])
def slices_Contains_b (c_slices_Index : (List ByteArray) → ByteArray → Option Int) (a0 : (List ByteArray)) (a1 : ByteArray) : Option Bool := ((c_slices_Index a0 a1).bind fun (r1 : Int) => (some (decide (r1 ≥ (0 : Int)))))
def slices_Contains_t (P : Program) (call : CallF) (c_slices_Index : (List ByteArray) → ByteArray → Option Int) (a0 : (List ByteArray)) (a1 : ByteArray) : Tr Bool (AV × Heap) := (.call (call 62 [.sl (R_string a0), .sc (.string a1)] []) (c_slices_Index a0 a1) slices_Index_e fun (r1 : Int) => (rt slices_Contains_e (decide (r1 ≥ (0 : Int)))))
theorem slices_Contains_d (P : Program) (call : CallF) (c_slices_Index : (List ByteArray) → ByteArray → Option Int) (a0 : (List ByteArray)) (a1 : ByteArray) : (slices_Contains_t P call c_slices_Index a0 a1).den = slices_Contains_b c_slices_Index a0 a1 := rfl
theorem slices_Contains_n (call : CallF) (c_slices_Index : (List ByteArray) → ByteArray → Option Int) (a0 : (List ByteArray)) (a1 : ByteArray) : (slices_Contains_t Tryd.prog call c_slices_Index a0 a1).norm (bodyT Tryd.prog call G 47 [.sl (R_string a0), .sc (.string a1)] []) = slices_Contains_t Tryd.prog call c_slices_Index a0 a1 := by kernel_rfl
theorem slices_Contains_k (P : Program) (call : CallF) (lp : Loops) (c_slices_Index : (List ByteArray) → ByteArray → Option Int) (hc_slices_Index : ∀ (a0 : (List ByteArray)) (a1 : ByteArray) (r : Int), c_slices_Index a0 a1 = some r → (call 62 [.sl (R_string a0), .sc (.string a1)] []) = some (slices_Index_e r)) (a0 : (List ByteArray)) (a1 : ByteArray) : (slices_Contains_t P call c_slices_Index a0 a1).ok lp slices_Contains_e := fun r1 hr1 => ⟨hc_slices_Index _ _ _ hr1, rfl⟩
theorem slices_Contains_m {c_slices_Index d_slices_Index : (List ByteArray) → ByteArray → Option Int} (h_slices_Index : ∀ (a0 : (List ByteArray)) (a1 : ByteArray), Le (c_slices_Index a0 a1) (d_slices_Index a0 a1)) (a0 : (List ByteArray)) (a1 : ByteArray) : Le (slices_Contains_b c_slices_Index a0 a1) (slices_Contains_b d_slices_Index a0 a1) := by
  unfold slices_Contains_b
  exact .bind (h_slices_Index _ _) fun r1 => .refl _
theorem slices_Contains_c {c_slices_Index : Nat → (List ByteArray) → ByteArray → Option Int} {d_slices_Index : (List ByteArray) → ByteArray → Option Int} (h_slices_Index : ∀ (a0 : (List ByteArray)) (a1 : ByteArray), Cv (fun k => c_slices_Index k a0 a1) (d_slices_Index a0 a1)) (a0 : (List ByteArray)) (a1 : ByteArray) : Cv (fun k => slices_Contains_b (c_slices_Index k) a0 a1) (slices_Contains_b d_slices_Index a0 a1) := by
  unfold slices_Contains_b
  exact .bind (h_slices_Index _ _) fun r1 => by exact .const _
def slices_Contains.s : Nat → (List ByteArray) → ByteArray → Option Bool
  | 0, _, _ => none
  | k + 1, a0, a1 => slices_Contains_b (fun a0 a1 => slices_Index.s k a0 a1) a0 a1
theorem slices_Contains.ok : ∀ (k : Nat), ∀ (a0 : (List ByteArray)) (a1 : ByteArray) (r : Bool), slices_Contains.s k a0 a1 = some r → evalFn Tryd.prog G k 47 [.sl (R_string a0), .sc (.string a1)] [] = some (slices_Contains_e r)
  | 0, _, _, _, h => (nomatch h)
  | k + 1, a0, a1, r, h => fn_ok rfl (slices_Contains_t Tryd.prog (evalFn Tryd.prog G k) (fun a0 a1 => slices_Index.s k a0 a1) a0 a1) (slices_Contains_n _ (fun a0 a1 => slices_Index.s k a0 a1) a0 a1) (slices_Contains_k _ _ _ (fun a0 a1 => slices_Index.s k a0 a1) (slices_Index.ok k)  a0 a1) ((slices_Contains_d _ _ (fun a0 a1 => slices_Index.s k a0 a1) a0 a1).trans h)
theorem slices_Contains.mono : ∀ (k : Nat) (a0 : (List ByteArray)) (a1 : ByteArray), Le (slices_Contains.s k a0 a1) (slices_Contains.s (k + 1) a0 a1)
  | 0, _, _ => fun r h => (nomatch h)
  | k + 1, a0, a1 => slices_Contains_m (slices_Index.mono k) a0 a1
noncomputable def slices_Contains (a0 : (List ByteArray)) (a1 : ByteArray) : Option Bool := lim fun k => slices_Contains.s k a0 a1
theorem slices_Contains.cv (a0 : (List ByteArray)) (a1 : ByteArray) : Cv (fun k => slices_Contains.s k a0 a1) (slices_Contains a0 a1) := .lim fun k => slices_Contains.mono k a0 a1
theorem slices_Contains.eq (a0 : (List ByteArray)) (a1 : ByteArray) : slices_Contains a0 a1 = slices_Contains_b slices_Index a0 a1 := Cv.uniq (slices_Contains.cv a0 a1).shift (slices_Contains_c slices_Index.cv a0 a1)
def slices_Clone_e (r : (List ByteArray)) : AV × Heap := (.sl (R_string r), [])
def slices_Clone.s : Nat → (List ByteArray) → Option (List ByteArray)
  | 0, _ => none
  | _ + 1, a0 => cloneS a0
theorem slices_Clone.ok : ∀ (k : Nat), ∀ (a0 : (List ByteArray)) (r : (List ByteArray)), slices_Clone.s k a0 = some r → evalFn Tryd.prog G k 48 [.sl (R_string a0)] [] = some (slices_Clone_e r)
  | 0, _, _, h => (nomatch h)
  | k + 1, a0, r, h => clone_ok h
noncomputable def slices_Clone (a0 : (List ByteArray)) : Option (List ByteArray) := cloneS a0
theorem slices_Clone.mono (k : Nat) (a0 : (List ByteArray)) : Le (slices_Clone.s k a0) (slices_Clone.s (k + 1) a0) := by
  cases k with
  | zero => exact fun r h => nomatch h
  | succ k => exact Le.refl _
theorem slices_Clone.cv (a0 : (List ByteArray)) : Cv (fun k => slices_Clone.s k a0) (slices_Clone a0) := ⟨fun k => slices_Clone.mono k a0, fun r => ⟨fun h => ⟨1, h⟩, fun ⟨k, h⟩ => by
  cases k with
  | zero => cases h
  | succ k => exact h⟩⟩
def expr_Names_e (r : (List ByteArray)) : AV × Heap := (.sl (R_string r), [])
structure expr_Names_L2_A where
  x17 : (List T_api_Expr)
  x18 : Int
  x19 : Int
  x24 : (List ByteArray)
  x25 : Int
  x26 : Int
  r0 : (List ByteArray)
structure expr_Names_L2_O0 where
  x17 : (List T_api_Expr)
  x18 : Int
  x19 : Int
  r0 : (List ByteArray)
def expr_Names_L2_s (a : expr_Names_L2_A) : St := { n := 42, nx := 1, env := [(3, .arr 0), (17, .sl (R_api_Expr a.x17)), (18, .sc (.int .i64 a.x18)), (19, .sc (.int .i64 a.x19)), (24, .sl (R_string a.x24)), (25, .sc (.int .i64 a.x25)), (26, .sc (.int .i64 a.x26))], heap := [(0, .arr true 1 (R_string a.r0))] }
def expr_Names_L2_e (a : expr_Names_L2_O0) : Ex × St := (.exit 2, { n := 42, nx := 1, env := [(3, .arr 0), (17, .sl (R_api_Expr a.x17)), (18, .sc (.int .i64 a.x18)), (19, .sc (.int .i64 a.x19))], heap := [(0, .arr true 1 (R_string a.r0))] })
def expr_Names_L2_b (c_slices_Contains : (List ByteArray) → ByteArray → Option Bool) (a : expr_Names_L2_A) : Option (expr_Names_L2_A ⊕ expr_Names_L2_O0) := (bif (decide (a.x26 < a.x25)) then (bif (decide (0 ≤ a.x26)) then ((a.x24[(Int.toNat a.x26)]?).bind fun (e1 : ByteArray) => ((c_slices_Contains a.r0 e1).bind fun (r2 : Bool) => (bif (!r2) then (bif (decide ((a.r0.length + [e1].length) * 16 ≤ most)) then (some (.inl (expr_Names_L2_A.mk a.x17 a.x18 a.x19 a.x24 a.x25 (w64 (a.x26 + (1 : Int))) (a.r0 ++ [e1])))) else none) else (some (.inl (expr_Names_L2_A.mk a.x17 a.x18 a.x19 a.x24 a.x25 (w64 (a.x26 + (1 : Int))) a.r0)))))) else none) else (some (.inr (expr_Names_L2_O0.mk a.x17 a.x18 a.x19 a.r0))))
def expr_Names_L2_t (P : Program) (call : CallF) (c_slices_Contains : (List ByteArray) → ByteArray → Option Bool) (a : expr_Names_L2_A) : Tr (expr_Names_L2_A ⊕ expr_Names_L2_O0) (Ex × St) := (.as (decide (a.x26 < a.x25)) (.as (decide (0 ≤ a.x26)) (.row ((R_string a.x24)[(Int.toNat a.x26)]?) (a.x24[(Int.toNat a.x26)]?) C_string fun (e1 : ByteArray) => (.call (call 47 [.sl (R_string a.r0), .sc (.string e1)] []) (c_slices_Contains a.r0 e1) slices_Contains_e fun (r2 : Bool) => (.as (!r2) (.rows [[.sc (.string e1)]] (R_string [e1]) (.yes (decide ((R_string [e1]).all (fun r => r.length == 1) = true)) (.ask (decide (((R_string a.r0).length + (R_string [e1]).length) * 16 ≤ most)) (decide ((a.r0.length + [e1].length) * 16 ≤ most)) (.rows ((R_string a.r0) ++ (R_string [e1])) (R_string (a.r0 ++ [e1])) (lf expr_Names_L2_s (expr_Names_L2_A.mk a.x17 a.x18 a.x19 a.x24 a.x25 (w64 (a.x26 + (1 : Int))) (a.r0 ++ [e1])))) .fail))) (lf expr_Names_L2_s (expr_Names_L2_A.mk a.x17 a.x18 a.x19 a.x24 a.x25 (w64 (a.x26 + (1 : Int))) a.r0))))) .fail) (rx expr_Names_L2_e (expr_Names_L2_O0.mk a.x17 a.x18 a.x19 a.r0)))
theorem expr_Names_L2_d (P : Program) (call : CallF) (c_slices_Contains : (List ByteArray) → ByteArray → Option Bool) (a : expr_Names_L2_A) : (expr_Names_L2_t P call c_slices_Contains a).den = expr_Names_L2_b c_slices_Contains a := rfl
theorem expr_Names_L2_n (call : CallF) (c_slices_Contains : (List ByteArray) → ByteArray → Option Bool) (a : expr_Names_L2_A) : (expr_Names_L2_t Tryd.prog call c_slices_Contains a).norm (roundT Tryd.prog G.kd call 0 (G.an 28) (loopAt Tryd.prog 28 8) (expr_Names_L2_s a)) = expr_Names_L2_t Tryd.prog call c_slices_Contains a := by kernel_rfl
theorem expr_Names_L2_k (P : Program) (call : CallF) (lp : Loops) (c_slices_Contains : (List ByteArray) → ByteArray → Option Bool) (hc_slices_Contains : ∀ (a0 : (List ByteArray)) (a1 : ByteArray) (r : Bool), c_slices_Contains a0 a1 = some r → (call 47 [.sl (R_string a0), .sc (.string a1)] []) = some (slices_Contains_e r)) (a : expr_Names_L2_A) : (expr_Names_L2_t P call c_slices_Contains a).ok lp (Sum.elim (fun a => (.norm, expr_Names_L2_s a)) expr_Names_L2_e) := ⟨rfl, fun h0 => ⟨rfl, fun h1 => fun e1 he1 => ⟨R_string_get he1, fun r2 hr2 => ⟨hc_slices_Contains _ _ _ hr2, ⟨rfl, fun h2 => ⟨(R_string_map [e1]), ⟨(decide_eq_true (R_string_all _)), ⟨(by rw [R_string_len, R_string_len]), fun h3 => ⟨(R_string_append _ _), rfl⟩, fun h3 => trivial⟩⟩⟩, fun h2 => rfl⟩⟩⟩, fun h1 => trivial⟩, fun h0 => rfl⟩
theorem expr_Names_L2_m {c_slices_Contains d_slices_Contains : (List ByteArray) → ByteArray → Option Bool} (h_slices_Contains : ∀ (a0 : (List ByteArray)) (a1 : ByteArray), Le (c_slices_Contains a0 a1) (d_slices_Contains a0 a1)) (a : expr_Names_L2_A) : Le (expr_Names_L2_b c_slices_Contains a) (expr_Names_L2_b d_slices_Contains a) := by
  unfold expr_Names_L2_b
  exact .cond (.cond (.bind (.refl (a.x24[(Int.toNat a.x26)]?)) fun e1 => .bind (h_slices_Contains _ _) fun r2 => .refl _) (.refl _)) (.refl _)
theorem expr_Names_L2_c {c_slices_Contains : Nat → (List ByteArray) → ByteArray → Option Bool} {d_slices_Contains : (List ByteArray) → ByteArray → Option Bool} (h_slices_Contains : ∀ (a0 : (List ByteArray)) (a1 : ByteArray), Cv (fun k => c_slices_Contains k a0 a1) (d_slices_Contains a0 a1)) (a : expr_Names_L2_A) : Cv (fun k => expr_Names_L2_b (c_slices_Contains k) a) (expr_Names_L2_b d_slices_Contains a) := by
  unfold expr_Names_L2_b
  exact .cond (.cond (.bind (.const (a.x24[(Int.toNat a.x26)]?)) fun e1 => .bind (h_slices_Contains _ _) fun r2 => by exact .const _) (by exact .const _)) (by exact .const _)
def expr_Names_L2.s (k : Nat) (c_slices_Contains : (List ByteArray) → ByteArray → Option Bool) : expr_Names_L2_A → Option expr_Names_L2_O0 := iter (expr_Names_L2_b c_slices_Contains) k
theorem expr_Names_L2_ok (call : CallF) (k : Nat) (c_slices_Contains : (List ByteArray) → ByteArray → Option Bool) (hc_slices_Contains : ∀ (a0 : (List ByteArray)) (a1 : ByteArray) (r : Bool), c_slices_Contains a0 a1 = some r → (call 47 [.sl (R_string a0), .sc (.string a1)] []) = some (slices_Contains_e r)) (a : expr_Names_L2_A) (r : expr_Names_L2_O0) (h : expr_Names_L2.s k c_slices_Contains a = some r) : loopsF Tryd.prog G.kd call 0 (G.an 28) k (loopAt Tryd.prog 28 8) (expr_Names_L2_s a) = some (expr_Names_L2_e r) :=
  loop_ok (fun a => expr_Names_L2_t Tryd.prog call c_slices_Contains a) (fun a => expr_Names_L2_d _ call c_slices_Contains a) (fun a => expr_Names_L2_n call c_slices_Contains a) (fun a => expr_Names_L2_k _ call _ c_slices_Contains hc_slices_Contains a) (fun r => nofun) h
theorem expr_Names_L2.m {j k : Nat} (hj : j ≤ k) (c_slices_Contains : (List ByteArray) → ByteArray → Option Bool) (d_slices_Contains : (List ByteArray) → ByteArray → Option Bool) (h_slices_Contains : ∀ (a0 : (List ByteArray)) (a1 : ByteArray), Le (c_slices_Contains a0 a1) (d_slices_Contains a0 a1)) (a : expr_Names_L2_A) : Le (expr_Names_L2.s j c_slices_Contains a) (expr_Names_L2.s k d_slices_Contains a) := Le.iter (fun a => expr_Names_L2_m h_slices_Contains a) hj a
noncomputable def expr_Names_L2.w (c_slices_Contains : (List ByteArray) → ByteArray → Option Bool) : expr_Names_L2_A → Option expr_Names_L2_O0 := loopW (expr_Names_L2_b c_slices_Contains)
theorem expr_Names_L2.cv (c_slices_Contains : Nat → (List ByteArray) → ByteArray → Option Bool) (d_slices_Contains : (List ByteArray) → ByteArray → Option Bool) (h_slices_Contains : ∀ (a0 : (List ByteArray)) (a1 : ByteArray), Cv (fun k => c_slices_Contains k a0 a1) (d_slices_Contains a0 a1)) (a : expr_Names_L2_A) : Cv (fun k => expr_Names_L2.s k (c_slices_Contains k) a) (expr_Names_L2.w d_slices_Contains a) := Cv.iter (fun a => expr_Names_L2_c h_slices_Contains a) a
structure expr_Names_L1_A where
  x17 : (List T_api_Expr)
  x18 : Int
  x19 : Int
  r0 : (List ByteArray)
def expr_Names_L1_s (a : expr_Names_L1_A) : St := { n := 42, nx := 1, env := [(3, .arr 0), (17, .sl (R_api_Expr a.x17)), (18, .sc (.int .i64 a.x18)), (19, .sc (.int .i64 a.x19))], heap := [(0, .arr true 1 (R_string a.r0))] }
def expr_Names_L1_e (a : (List ByteArray)) : Ex × St := (.exit 0, { n := 42, nx := 1, env := [(3, .arr 0)], heap := [(0, .arr true 1 (R_string a))] })
def expr_Names_L1_b (c_expr_Names : T_api_Expr → Option (List ByteArray)) (l_expr_Names_L2 : expr_Names_L2_A → Option expr_Names_L2_O0) (a : expr_Names_L1_A) : Option (expr_Names_L1_A ⊕ (List ByteArray)) := (bif (decide (a.x19 < a.x18)) then (bif (decide (0 ≤ a.x19)) then ((a.x17[(Int.toNat a.x19)]?).bind fun (e1 : T_api_Expr) => ((c_expr_Names e1).bind fun (r2 : (List ByteArray)) => ((l_expr_Names_L2 (expr_Names_L2_A.mk a.x17 a.x18 a.x19 r2 (((r2.length) : Nat) : Int) (0 : Int) a.r0)).bind (fun (o3 : expr_Names_L2_O0) => (some (.inl (expr_Names_L1_A.mk o3.x17 o3.x18 (w64 (o3.x19 + (1 : Int))) o3.r0))))))) else none) else (some (.inr a.r0)))
def expr_Names_L1_t (P : Program) (call : CallF) (c_expr_Names : T_api_Expr → Option (List ByteArray)) (l_expr_Names_L2 : expr_Names_L2_A → Option expr_Names_L2_O0) (a : expr_Names_L1_A) : Tr (expr_Names_L1_A ⊕ (List ByteArray)) (Ex × St) := (.as (decide (a.x19 < a.x18)) (.as (decide (0 ≤ a.x19)) (.row ((R_api_Expr a.x17)[(Int.toNat a.x19)]?) (a.x17[(Int.toNat a.x19)]?) C_api_Expr fun (e1 : T_api_Expr) => (.call (call 28 [.agg (C_api_Expr e1)] []) (c_expr_Names e1) expr_Names_e fun (r2 : (List ByteArray)) => (.num ((R_string r2).length) (r2.length) (.loop (loopAt P 28 8) (expr_Names_L2_s (expr_Names_L2_A.mk a.x17 a.x18 a.x19 r2 (((r2.length) : Nat) : Int) (0 : Int) a.r0)) (l_expr_Names_L2 (expr_Names_L2_A.mk a.x17 a.x18 a.x19 r2 (((r2.length) : Nat) : Int) (0 : Int) a.r0)) expr_Names_L2_e (fun (o3 : expr_Names_L2_O0) => (lf expr_Names_L1_s (expr_Names_L1_A.mk o3.x17 o3.x18 (w64 (o3.x19 + (1 : Int))) o3.r0))))))) .fail) (rx expr_Names_L1_e a.r0))
theorem expr_Names_L1_d (P : Program) (call : CallF) (c_expr_Names : T_api_Expr → Option (List ByteArray)) (l_expr_Names_L2 : expr_Names_L2_A → Option expr_Names_L2_O0) (a : expr_Names_L1_A) : (expr_Names_L1_t P call c_expr_Names l_expr_Names_L2 a).den = expr_Names_L1_b c_expr_Names l_expr_Names_L2 a := rfl
theorem expr_Names_L1_n (call : CallF) (c_expr_Names : T_api_Expr → Option (List ByteArray)) (l_expr_Names_L2 : expr_Names_L2_A → Option expr_Names_L2_O0) (a : expr_Names_L1_A) : (expr_Names_L1_t Tryd.prog call c_expr_Names l_expr_Names_L2 a).norm (roundT Tryd.prog G.kd call 0 (G.an 28) (loopAt Tryd.prog 28 5) (expr_Names_L1_s a)) = expr_Names_L1_t Tryd.prog call c_expr_Names l_expr_Names_L2 a := by kernel_rfl
theorem expr_Names_L1_k (P : Program) (call : CallF) (lp : Loops) (c_expr_Names : T_api_Expr → Option (List ByteArray)) (l_expr_Names_L2 : expr_Names_L2_A → Option expr_Names_L2_O0) (hc_expr_Names : ∀ (a0 : T_api_Expr) (r : (List ByteArray)), c_expr_Names a0 = some r → (call 28 [.agg (C_api_Expr a0)] []) = some (expr_Names_e r)) (hl_expr_Names_L2 : ∀ (a : expr_Names_L2_A) (r : expr_Names_L2_O0), l_expr_Names_L2 a = some r → lp (loopAt P 28 8) (expr_Names_L2_s a) = some (expr_Names_L2_e r)) (a : expr_Names_L1_A) : (expr_Names_L1_t P call c_expr_Names l_expr_Names_L2 a).ok lp (Sum.elim (fun a => (.norm, expr_Names_L1_s a)) expr_Names_L1_e) := ⟨rfl, fun h0 => ⟨rfl, fun h1 => fun e1 he1 => ⟨R_api_Expr_get he1, fun r2 hr2 => ⟨hc_expr_Names _ _ hr2, ⟨(R_string_len _), fun o3 ho3 => ⟨hl_expr_Names_L2 _ _ ho3, rfl⟩⟩⟩⟩, fun h1 => trivial⟩, fun h0 => rfl⟩
theorem expr_Names_L1_m {c_expr_Names d_expr_Names : T_api_Expr → Option (List ByteArray)} (h_expr_Names : ∀ (a0 : T_api_Expr), Le (c_expr_Names a0) (d_expr_Names a0)) {l_expr_Names_L2 m_expr_Names_L2 : expr_Names_L2_A → Option expr_Names_L2_O0} (hl_expr_Names_L2 : ∀ a, Le (l_expr_Names_L2 a) (m_expr_Names_L2 a)) (a : expr_Names_L1_A) : Le (expr_Names_L1_b c_expr_Names l_expr_Names_L2 a) (expr_Names_L1_b d_expr_Names m_expr_Names_L2 a) := by
  unfold expr_Names_L1_b
  exact .cond (.cond (.bind (.refl (a.x17[(Int.toNat a.x19)]?)) fun e1 => .bind (h_expr_Names _) fun r2 => .bind (hl_expr_Names_L2 _) (fun o3 => .refl _)) (.refl _)) (.refl _)
theorem expr_Names_L1_c {c_expr_Names : Nat → T_api_Expr → Option (List ByteArray)} {d_expr_Names : T_api_Expr → Option (List ByteArray)} (h_expr_Names : ∀ (a0 : T_api_Expr), Cv (fun k => c_expr_Names k a0) (d_expr_Names a0)) {l_expr_Names_L2 : Nat → expr_Names_L2_A → Option expr_Names_L2_O0} {m_expr_Names_L2 : expr_Names_L2_A → Option expr_Names_L2_O0} (hl_expr_Names_L2 : ∀ a, Cv (fun k => l_expr_Names_L2 k a) (m_expr_Names_L2 a)) (a : expr_Names_L1_A) : Cv (fun k => expr_Names_L1_b (c_expr_Names k) (l_expr_Names_L2 k) a) (expr_Names_L1_b d_expr_Names m_expr_Names_L2 a) := by
  unfold expr_Names_L1_b
  exact .cond (.cond (.bind (.const (a.x17[(Int.toNat a.x19)]?)) fun e1 => .bind (h_expr_Names _) fun r2 => .bind (hl_expr_Names_L2 _) (fun o3 => by exact .const _)) (by exact .const _)) (by exact .const _)
def expr_Names_L1.s (k : Nat) (c_expr_Names : T_api_Expr → Option (List ByteArray)) (c_slices_Contains : (List ByteArray) → ByteArray → Option Bool) : expr_Names_L1_A → Option (List ByteArray) := iter (expr_Names_L1_b c_expr_Names (expr_Names_L2.s k c_slices_Contains)) k
theorem expr_Names_L1_ok (call : CallF) (k : Nat) (c_expr_Names : T_api_Expr → Option (List ByteArray)) (c_slices_Contains : (List ByteArray) → ByteArray → Option Bool) (hc_expr_Names : ∀ (a0 : T_api_Expr) (r : (List ByteArray)), c_expr_Names a0 = some r → (call 28 [.agg (C_api_Expr a0)] []) = some (expr_Names_e r)) (hc_slices_Contains : ∀ (a0 : (List ByteArray)) (a1 : ByteArray) (r : Bool), c_slices_Contains a0 a1 = some r → (call 47 [.sl (R_string a0), .sc (.string a1)] []) = some (slices_Contains_e r)) (a : expr_Names_L1_A) (r : (List ByteArray)) (h : expr_Names_L1.s k c_expr_Names c_slices_Contains a = some r) : loopsF Tryd.prog G.kd call 0 (G.an 28) k (loopAt Tryd.prog 28 5) (expr_Names_L1_s a) = some (expr_Names_L1_e r) :=
  loop_ok (fun a => expr_Names_L1_t Tryd.prog call c_expr_Names (expr_Names_L2.s k c_slices_Contains) a) (fun a => expr_Names_L1_d _ call c_expr_Names (expr_Names_L2.s k c_slices_Contains) a) (fun a => expr_Names_L1_n call c_expr_Names (expr_Names_L2.s k c_slices_Contains) a) (fun a => expr_Names_L1_k _ call _ c_expr_Names (expr_Names_L2.s k c_slices_Contains) hc_expr_Names (expr_Names_L2_ok call k c_slices_Contains hc_slices_Contains) a) (fun r => nofun) h
theorem expr_Names_L1.m {j k : Nat} (hj : j ≤ k) (c_expr_Names : T_api_Expr → Option (List ByteArray)) (c_slices_Contains : (List ByteArray) → ByteArray → Option Bool) (d_expr_Names : T_api_Expr → Option (List ByteArray)) (d_slices_Contains : (List ByteArray) → ByteArray → Option Bool) (h_expr_Names : ∀ (a0 : T_api_Expr), Le (c_expr_Names a0) (d_expr_Names a0)) (h_slices_Contains : ∀ (a0 : (List ByteArray)) (a1 : ByteArray), Le (c_slices_Contains a0 a1) (d_slices_Contains a0 a1)) (a : expr_Names_L1_A) : Le (expr_Names_L1.s j c_expr_Names c_slices_Contains a) (expr_Names_L1.s k d_expr_Names d_slices_Contains a) := Le.iter (fun a => expr_Names_L1_m h_expr_Names (expr_Names_L2.m hj c_slices_Contains d_slices_Contains h_slices_Contains) a) hj a
noncomputable def expr_Names_L1.w (c_expr_Names : T_api_Expr → Option (List ByteArray)) (c_slices_Contains : (List ByteArray) → ByteArray → Option Bool) : expr_Names_L1_A → Option (List ByteArray) := loopW (expr_Names_L1_b c_expr_Names (expr_Names_L2.w c_slices_Contains))
theorem expr_Names_L1.cv (c_expr_Names : Nat → T_api_Expr → Option (List ByteArray)) (c_slices_Contains : Nat → (List ByteArray) → ByteArray → Option Bool) (d_expr_Names : T_api_Expr → Option (List ByteArray)) (d_slices_Contains : (List ByteArray) → ByteArray → Option Bool) (h_expr_Names : ∀ (a0 : T_api_Expr), Cv (fun k => c_expr_Names k a0) (d_expr_Names a0)) (h_slices_Contains : ∀ (a0 : (List ByteArray)) (a1 : ByteArray), Cv (fun k => c_slices_Contains k a0 a1) (d_slices_Contains a0 a1)) (a : expr_Names_L1_A) : Cv (fun k => expr_Names_L1.s k (c_expr_Names k) (c_slices_Contains k) a) (expr_Names_L1.w d_expr_Names d_slices_Contains a) := Cv.iter (fun a => expr_Names_L1_c h_expr_Names (expr_Names_L2.cv c_slices_Contains d_slices_Contains h_slices_Contains) a) a
def expr_Names_b (c_slices_Clone : (List ByteArray) → Option (List ByteArray)) (l_expr_Names_L1 : expr_Names_L1_A → Option (List ByteArray)) (a0 : T_api_Expr) : Option (List ByteArray) := (bif (a0.Kind == (2 : Int)) then (bif (decide ([a0.Name].length * 16 ≤ most)) then ((l_expr_Names_L1 (expr_Names_L1_A.mk a0.L (((a0.L.length) : Nat) : Int) (0 : Int) [a0.Name])).bind (fun (o1 : (List ByteArray)) => ((c_slices_Clone o1).bind fun (r2 : (List ByteArray)) => (some r2)))) else none) else ((l_expr_Names_L1 (expr_Names_L1_A.mk a0.L (((a0.L.length) : Nat) : Int) (0 : Int) ([] : List ByteArray))).bind (fun (o3 : (List ByteArray)) => ((c_slices_Clone o3).bind fun (r4 : (List ByteArray)) => (some r4)))))
def expr_Names_t (P : Program) (call : CallF) (c_slices_Clone : (List ByteArray) → Option (List ByteArray)) (l_expr_Names_L1 : expr_Names_L1_A → Option (List ByteArray)) (a0 : T_api_Expr) : Tr (List ByteArray) (AV × Heap) := (.as (a0.Kind == (2 : Int)) (.rows [[.sc (.string a0.Name)]] (R_string [a0.Name]) (.yes (decide ((R_string [a0.Name]).all (fun r => r.length == 1) = true)) (.ask (decide ((R_string [a0.Name]).length * 16 ≤ most)) (decide ([a0.Name].length * 16 ≤ most)) (.rows (R_string [a0.Name]) (R_string [a0.Name]) (.num ((R_api_Expr a0.L).length) (a0.L.length) (.loop (loopAt P 28 5) (expr_Names_L1_s (expr_Names_L1_A.mk a0.L (((a0.L.length) : Nat) : Int) (0 : Int) [a0.Name])) (l_expr_Names_L1 (expr_Names_L1_A.mk a0.L (((a0.L.length) : Nat) : Int) (0 : Int) [a0.Name])) expr_Names_L1_e (fun (o1 : (List ByteArray)) => (.call (call 48 [.sl (R_string o1)] []) (c_slices_Clone o1) slices_Clone_e fun (r2 : (List ByteArray)) => (rt expr_Names_e r2)))))) .fail))) (.num ((R_api_Expr a0.L).length) (a0.L.length) (.loop (loopAt P 28 5) (expr_Names_L1_s (expr_Names_L1_A.mk a0.L (((a0.L.length) : Nat) : Int) (0 : Int) ([] : List ByteArray))) (l_expr_Names_L1 (expr_Names_L1_A.mk a0.L (((a0.L.length) : Nat) : Int) (0 : Int) ([] : List ByteArray))) expr_Names_L1_e (fun (o3 : (List ByteArray)) => (.call (call 48 [.sl (R_string o3)] []) (c_slices_Clone o3) slices_Clone_e fun (r4 : (List ByteArray)) => (rt expr_Names_e r4))))))
theorem expr_Names_d (P : Program) (call : CallF) (c_slices_Clone : (List ByteArray) → Option (List ByteArray)) (l_expr_Names_L1 : expr_Names_L1_A → Option (List ByteArray)) (a0 : T_api_Expr) : (expr_Names_t P call c_slices_Clone l_expr_Names_L1 a0).den = expr_Names_b c_slices_Clone l_expr_Names_L1 a0 := rfl
theorem expr_Names_n (call : CallF) (c_slices_Clone : (List ByteArray) → Option (List ByteArray)) (l_expr_Names_L1 : expr_Names_L1_A → Option (List ByteArray)) (a0 : T_api_Expr) : (expr_Names_t Tryd.prog call c_slices_Clone l_expr_Names_L1 a0).norm (bodyT Tryd.prog call G 28 [.agg (C_api_Expr a0)] []) = expr_Names_t Tryd.prog call c_slices_Clone l_expr_Names_L1 a0 := by kernel_rfl
theorem expr_Names_k (P : Program) (call : CallF) (lp : Loops) (c_slices_Clone : (List ByteArray) → Option (List ByteArray)) (l_expr_Names_L1 : expr_Names_L1_A → Option (List ByteArray)) (hc_slices_Clone : ∀ (a0 : (List ByteArray)) (r : (List ByteArray)), c_slices_Clone a0 = some r → (call 48 [.sl (R_string a0)] []) = some (slices_Clone_e r)) (hl_expr_Names_L1 : ∀ (a : expr_Names_L1_A) (r : (List ByteArray)), l_expr_Names_L1 a = some r → lp (loopAt P 28 5) (expr_Names_L1_s a) = some (expr_Names_L1_e r)) (a0 : T_api_Expr) : (expr_Names_t P call c_slices_Clone l_expr_Names_L1 a0).ok lp expr_Names_e := ⟨rfl, fun h0 => ⟨(R_string_map [a0.Name]), ⟨(decide_eq_true (R_string_all _)), ⟨(by rw [R_string_len]), fun h1 => ⟨rfl, ⟨(R_api_Expr_len _), fun o1 ho1 => ⟨hl_expr_Names_L1 _ _ ho1, fun r2 hr2 => ⟨hc_slices_Clone _ _ hr2, rfl⟩⟩⟩⟩, fun h1 => trivial⟩⟩⟩, fun h0 => ⟨(R_api_Expr_len _), fun o3 ho3 => ⟨hl_expr_Names_L1 _ _ ho3, fun r4 hr4 => ⟨hc_slices_Clone _ _ hr4, rfl⟩⟩⟩⟩
theorem expr_Names_m {c_slices_Clone d_slices_Clone : (List ByteArray) → Option (List ByteArray)} (h_slices_Clone : ∀ (a0 : (List ByteArray)), Le (c_slices_Clone a0) (d_slices_Clone a0)) {l_expr_Names_L1 m_expr_Names_L1 : expr_Names_L1_A → Option (List ByteArray)} (hl_expr_Names_L1 : ∀ a, Le (l_expr_Names_L1 a) (m_expr_Names_L1 a)) (a0 : T_api_Expr) : Le (expr_Names_b c_slices_Clone l_expr_Names_L1 a0) (expr_Names_b d_slices_Clone m_expr_Names_L1 a0) := by
  unfold expr_Names_b
  exact .cond (.cond (.bind (hl_expr_Names_L1 _) (fun o1 => .bind (h_slices_Clone _) fun r2 => .refl _)) (.refl _)) (.bind (hl_expr_Names_L1 _) (fun o3 => .bind (h_slices_Clone _) fun r4 => .refl _))
theorem expr_Names_c {c_slices_Clone : Nat → (List ByteArray) → Option (List ByteArray)} {d_slices_Clone : (List ByteArray) → Option (List ByteArray)} (h_slices_Clone : ∀ (a0 : (List ByteArray)), Cv (fun k => c_slices_Clone k a0) (d_slices_Clone a0)) {l_expr_Names_L1 : Nat → expr_Names_L1_A → Option (List ByteArray)} {m_expr_Names_L1 : expr_Names_L1_A → Option (List ByteArray)} (hl_expr_Names_L1 : ∀ a, Cv (fun k => l_expr_Names_L1 k a) (m_expr_Names_L1 a)) (a0 : T_api_Expr) : Cv (fun k => expr_Names_b (c_slices_Clone k) (l_expr_Names_L1 k) a0) (expr_Names_b d_slices_Clone m_expr_Names_L1 a0) := by
  unfold expr_Names_b
  exact .cond (.cond (.bind (hl_expr_Names_L1 _) (fun o1 => .bind (h_slices_Clone _) fun r2 => by exact .const _)) (by exact .const _)) (.bind (hl_expr_Names_L1 _) (fun o3 => .bind (h_slices_Clone _) fun r4 => by exact .const _))
def expr_Names.s : Nat → T_api_Expr → Option (List ByteArray)
  | 0, _ => none
  | k + 1, a0 => expr_Names_b (fun a0 => slices_Clone.s k a0) (expr_Names_L1.s k (fun a0 => expr_Names.s k a0) (fun a0 a1 => slices_Contains.s k a0 a1)) a0
termination_by structural k => k
theorem expr_Names_all : ∀ (k : Nat), ∀ (a0 : T_api_Expr) (r : (List ByteArray)), expr_Names.s k a0 = some r → evalFn Tryd.prog G k 28 [.agg (C_api_Expr a0)] [] = some (expr_Names_e r)
  | 0 => fun _ _ h => (nomatch h)
  | k + 1 => by
    have i_expr_Names := expr_Names_all k
    exact fun a0 r h => fn_ok rfl (expr_Names_t Tryd.prog (evalFn Tryd.prog G k) (fun a0 => slices_Clone.s k a0) (expr_Names_L1.s k (fun a0 => expr_Names.s k a0) (fun a0 a1 => slices_Contains.s k a0 a1)) a0) (expr_Names_n _ (fun a0 => slices_Clone.s k a0) (expr_Names_L1.s k (fun a0 => expr_Names.s k a0) (fun a0 a1 => slices_Contains.s k a0 a1)) a0) (expr_Names_k _ _ _ (fun a0 => slices_Clone.s k a0) (expr_Names_L1.s k (fun a0 => expr_Names.s k a0) (fun a0 a1 => slices_Contains.s k a0 a1)) (slices_Clone.ok k) (expr_Names_L1_ok _ k (fun a0 => expr_Names.s k a0) (fun a0 a1 => slices_Contains.s k a0 a1) (i_expr_Names) (slices_Contains.ok k)) a0) ((expr_Names_d _ _ (fun a0 => slices_Clone.s k a0) (expr_Names_L1.s k (fun a0 => expr_Names.s k a0) (fun a0 a1 => slices_Contains.s k a0 a1)) a0).trans h)
theorem expr_Names.ok (k : Nat) : ∀ (a0 : T_api_Expr) (r : (List ByteArray)), expr_Names.s k a0 = some r → evalFn Tryd.prog G k 28 [.agg (C_api_Expr a0)] [] = some (expr_Names_e r) := (expr_Names_all k)
theorem expr_Names_mall : ∀ (k : Nat), (∀ (a0 : T_api_Expr), Le (expr_Names.s k a0) (expr_Names.s (k + 1) a0))
  | 0 => fun _ _ h => (nomatch h)
  | k + 1 => by
    have i_expr_Names := expr_Names_mall k
    exact fun a0 => expr_Names_m (slices_Clone.mono k) (expr_Names_L1.m (Nat.le_succ k) (fun a0 => expr_Names.s k a0) (fun a0 a1 => slices_Contains.s k a0 a1) (fun a0 => expr_Names.s (k + 1) a0) (fun a0 a1 => slices_Contains.s (k + 1) a0 a1) (i_expr_Names) (slices_Contains.mono k)) a0
theorem expr_Names.mono (k : Nat) : ∀ (a0 : T_api_Expr), Le (expr_Names.s k a0) (expr_Names.s (k + 1) a0) := (expr_Names_mall k)
noncomputable def expr_Names (a0 : T_api_Expr) : Option (List ByteArray) := lim fun k => expr_Names.s k a0
theorem expr_Names.cv (a0 : T_api_Expr) : Cv (fun k => expr_Names.s k a0) (expr_Names a0) := .lim fun k => expr_Names.mono k a0
noncomputable def expr_Names_L2 : expr_Names_L2_A → Option expr_Names_L2_O0 := expr_Names_L2.w slices_Contains
theorem expr_Names_L2.eq (a : expr_Names_L2_A) : expr_Names_L2 a = (expr_Names_L2_b slices_Contains a).bind (Sum.elim expr_Names_L2 some) := loopW_eq _ _
noncomputable def expr_Names_L1 : expr_Names_L1_A → Option (List ByteArray) := expr_Names_L1.w expr_Names slices_Contains
theorem expr_Names_L1.eq (a : expr_Names_L1_A) : expr_Names_L1 a = (expr_Names_L1_b expr_Names expr_Names_L2 a).bind (Sum.elim expr_Names_L1 some) := loopW_eq _ _
theorem expr_Names.eq (a0 : T_api_Expr) : expr_Names a0 = expr_Names_b slices_Clone expr_Names_L1 a0 := Cv.uniq (expr_Names.cv a0).shift (expr_Names_c slices_Clone.cv (expr_Names_L1.cv (fun k => fun a0 => expr_Names.s k a0) (fun k => fun a0 a1 => slices_Contains.s k a0 a1) expr_Names slices_Contains expr_Names.cv slices_Contains.cv) a0)
def r3_has_e (r : Bool) : AV × Heap := (.sc (.bool r), [])
structure r3_has_L1_A where
  x0 : (List ByteArray)
  x1 : ByteArray
  x5 : Int
def r3_has_L1_s (a : r3_has_L1_A) : St := { n := 18, nx := 0, env := [(0, .sl (R_string a.x0)), (1, .sc (.string a.x1)), (5, .sc (.int .i64 a.x5))], heap := [] }
def r3_has_L1_e0 (a : Bool) : Ex × St := (.ret, { n := 18, nx := 0, env := [(4, .sc (.bool a))], heap := [] })
def r3_has_L1_e1 (a : Unit) : Ex × St := (.exit 0, { n := 18, nx := 0, env := [], heap := [] })
def r3_has_L1_e (a : (Bool ⊕ Unit)) : Ex × St := Sum.elim r3_has_L1_e0 r3_has_L1_e1 a
def r3_has_L1_b  (a : r3_has_L1_A) : Option (r3_has_L1_A ⊕ (Bool ⊕ Unit)) := (bif (decide (a.x5 < (((a.x0.length) : Nat) : Int))) then (bif (decide (0 ≤ a.x5)) then ((a.x0[(Int.toNat a.x5)]?).bind fun (e1 : ByteArray) => (bif (eqS e1 a.x1) then (some (.inr (.inl true))) else (some (.inl (r3_has_L1_A.mk a.x0 a.x1 (w64 (a.x5 + (1 : Int)))))))) else none) else (some (.inr (.inr ()))))
def r3_has_L1_t (P : Program) (call : CallF)  (a : r3_has_L1_A) : Tr (r3_has_L1_A ⊕ (Bool ⊕ Unit)) (Ex × St) := (.num ((R_string a.x0).length) (a.x0.length) (.as (decide (a.x5 < (((a.x0.length) : Nat) : Int))) (.as (decide (0 ≤ a.x5)) (.row ((R_string a.x0)[(Int.toNat a.x5)]?) (a.x0[(Int.toNat a.x5)]?) C_string fun (e1 : ByteArray) => (.as (eqS e1 a.x1) (rx r3_has_L1_e (.inl true)) (lf r3_has_L1_s (r3_has_L1_A.mk a.x0 a.x1 (w64 (a.x5 + (1 : Int))))))) .fail) (rx r3_has_L1_e (.inr ()))))
theorem r3_has_L1_d (P : Program) (call : CallF)  (a : r3_has_L1_A) : (r3_has_L1_t P call  a).den = r3_has_L1_b  a := rfl
theorem r3_has_L1_n (call : CallF)  (a : r3_has_L1_A) : (r3_has_L1_t Tryd.prog call  a).norm (roundT Tryd.prog G.kd call 0 (G.an 49) (loopAt Tryd.prog 49 2) (r3_has_L1_s a)) = r3_has_L1_t Tryd.prog call  a := by kernel_rfl
theorem r3_has_L1_k (P : Program) (call : CallF) (lp : Loops)   (a : r3_has_L1_A) : (r3_has_L1_t P call  a).ok lp (Sum.elim (fun a => (.norm, r3_has_L1_s a)) r3_has_L1_e) := ⟨(R_string_len _), ⟨rfl, fun h0 => ⟨rfl, fun h1 => fun e1 he1 => ⟨R_string_get he1, ⟨rfl, fun h2 => rfl, fun h2 => rfl⟩⟩, fun h1 => trivial⟩, fun h0 => rfl⟩⟩
def r3_has_L1.s (k : Nat)  : r3_has_L1_A → Option (Bool ⊕ Unit) := iter (r3_has_L1_b ) k
theorem r3_has_L1_ok (call : CallF) (k : Nat)   (a : r3_has_L1_A) (r : (Bool ⊕ Unit)) (h : r3_has_L1.s k  a = some r) : loopsF Tryd.prog G.kd call 0 (G.an 49) k (loopAt Tryd.prog 49 2) (r3_has_L1_s a) = some (r3_has_L1_e r) :=
  loop_ok (fun a => r3_has_L1_t Tryd.prog call  a) (fun a => r3_has_L1_d _ call  a) (fun a => r3_has_L1_n call  a) (fun a => r3_has_L1_k _ call _   a) (fun r => by cases r <;> nofun) h
theorem r3_has_L1.m {j k : Nat} (hj : j ≤ k)    (a : r3_has_L1_A) : Le (r3_has_L1.s j  a) (r3_has_L1.s k  a) := Le.iter (fun a => .refl _) hj a
noncomputable def r3_has_L1.w  : r3_has_L1_A → Option (Bool ⊕ Unit) := loopW (r3_has_L1_b )
theorem r3_has_L1.cv    (a : r3_has_L1_A) : Cv (fun k => r3_has_L1.s k  a) (r3_has_L1.w  a) := Cv.iter (fun a => by exact .const _) a
def r3_has_b (l_r3_has_L1 : r3_has_L1_A → Option (Bool ⊕ Unit)) (a0 : (List ByteArray)) (a1 : ByteArray) : Option Bool := ((l_r3_has_L1 (r3_has_L1_A.mk a0 a1 (0 : Int))).bind fun x => Sum.elim (fun (o1 : Bool) => (some o1)) (fun (o2 : Unit) => (some false)) x)
def r3_has_t (P : Program) (call : CallF) (l_r3_has_L1 : r3_has_L1_A → Option (Bool ⊕ Unit)) (a0 : (List ByteArray)) (a1 : ByteArray) : Tr Bool (AV × Heap) := (.loop2 (loopAt P 49 2) (r3_has_L1_s (r3_has_L1_A.mk a0 a1 (0 : Int))) (l_r3_has_L1 (r3_has_L1_A.mk a0 a1 (0 : Int))) r3_has_L1_e0 r3_has_L1_e1 (fun (o1 : Bool) => (rt r3_has_e o1)) (fun (o2 : Unit) => (rt r3_has_e false)))
theorem r3_has_d (P : Program) (call : CallF) (l_r3_has_L1 : r3_has_L1_A → Option (Bool ⊕ Unit)) (a0 : (List ByteArray)) (a1 : ByteArray) : (r3_has_t P call l_r3_has_L1 a0 a1).den = r3_has_b l_r3_has_L1 a0 a1 := rfl
theorem r3_has_n (call : CallF) (l_r3_has_L1 : r3_has_L1_A → Option (Bool ⊕ Unit)) (a0 : (List ByteArray)) (a1 : ByteArray) : (r3_has_t Tryd.prog call l_r3_has_L1 a0 a1).norm (bodyT Tryd.prog call G 49 [.sl (R_string a0), .sc (.string a1)] []) = r3_has_t Tryd.prog call l_r3_has_L1 a0 a1 := by kernel_rfl
theorem r3_has_k (P : Program) (call : CallF) (lp : Loops) (l_r3_has_L1 : r3_has_L1_A → Option (Bool ⊕ Unit)) (hl_r3_has_L1 : ∀ (a : r3_has_L1_A) (r : (Bool ⊕ Unit)), l_r3_has_L1 a = some r → lp (loopAt P 49 2) (r3_has_L1_s a) = some (r3_has_L1_e r)) (a0 : (List ByteArray)) (a1 : ByteArray) : (r3_has_t P call l_r3_has_L1 a0 a1).ok lp r3_has_e := ⟨fun o1 ho1 => ⟨hl_r3_has_L1 _ (.inl _) ho1, rfl⟩, fun o2 ho2 => ⟨hl_r3_has_L1 _ (.inr _) ho2, rfl⟩⟩
theorem r3_has_m {l_r3_has_L1 m_r3_has_L1 : r3_has_L1_A → Option (Bool ⊕ Unit)} (hl_r3_has_L1 : ∀ a, Le (l_r3_has_L1 a) (m_r3_has_L1 a)) (a0 : (List ByteArray)) (a1 : ByteArray) : Le (r3_has_b l_r3_has_L1 a0 a1) (r3_has_b m_r3_has_L1 a0 a1) := by
  unfold r3_has_b
  exact .bind (hl_r3_has_L1 _) fun x => .sum (fun o1 => .refl _) (fun o2 => .refl _) x
theorem r3_has_c {l_r3_has_L1 : Nat → r3_has_L1_A → Option (Bool ⊕ Unit)} {m_r3_has_L1 : r3_has_L1_A → Option (Bool ⊕ Unit)} (hl_r3_has_L1 : ∀ a, Cv (fun k => l_r3_has_L1 k a) (m_r3_has_L1 a)) (a0 : (List ByteArray)) (a1 : ByteArray) : Cv (fun k => r3_has_b (l_r3_has_L1 k) a0 a1) (r3_has_b m_r3_has_L1 a0 a1) := by
  unfold r3_has_b
  exact .bind (hl_r3_has_L1 _) fun x => .sum (fun o1 => by exact .const _) (fun o2 => by exact .const _) x
def r3_has.s : Nat → (List ByteArray) → ByteArray → Option Bool
  | 0, _, _ => none
  | k + 1, a0, a1 => r3_has_b (r3_has_L1.s k) a0 a1
theorem r3_has.ok : ∀ (k : Nat), ∀ (a0 : (List ByteArray)) (a1 : ByteArray) (r : Bool), r3_has.s k a0 a1 = some r → evalFn Tryd.prog G k 49 [.sl (R_string a0), .sc (.string a1)] [] = some (r3_has_e r)
  | 0, _, _, _, h => (nomatch h)
  | k + 1, a0, a1, r, h => fn_ok rfl (r3_has_t Tryd.prog (evalFn Tryd.prog G k) (r3_has_L1.s k) a0 a1) (r3_has_n _ (r3_has_L1.s k) a0 a1) (r3_has_k _ _ _ (r3_has_L1.s k)  (r3_has_L1_ok _ k) a0 a1) ((r3_has_d _ _ (r3_has_L1.s k) a0 a1).trans h)
theorem r3_has.mono : ∀ (k : Nat) (a0 : (List ByteArray)) (a1 : ByteArray), Le (r3_has.s k a0 a1) (r3_has.s (k + 1) a0 a1)
  | 0, _, _ => fun r h => (nomatch h)
  | k + 1, a0, a1 => r3_has_m (r3_has_L1.m (Nat.le_succ k)) a0 a1
noncomputable def r3_has (a0 : (List ByteArray)) (a1 : ByteArray) : Option Bool := lim fun k => r3_has.s k a0 a1
theorem r3_has.cv (a0 : (List ByteArray)) (a1 : ByteArray) : Cv (fun k => r3_has.s k a0 a1) (r3_has a0 a1) := .lim fun k => r3_has.mono k a0 a1
noncomputable def r3_has_L1 : r3_has_L1_A → Option (Bool ⊕ Unit) := r3_has_L1.w 
theorem r3_has_L1.eq (a : r3_has_L1_A) : r3_has_L1 a = (r3_has_L1_b  a).bind (Sum.elim r3_has_L1 some) := loopW_eq _ _
theorem r3_has.eq (a0 : (List ByteArray)) (a1 : ByteArray) : r3_has a0 a1 = r3_has_b r3_has_L1 a0 a1 := Cv.uniq (r3_has.cv a0 a1).shift (r3_has_c (r3_has_L1.cv) a0 a1)
def r3_Names_e (r : (List ByteArray)) : AV × Heap := (.sl (R_string r), [])
structure r3_Names_L2_A where
  x4 : Int
  x5 : (List ByteArray)
  x6 : Int
  h0 : T_api_Expr
  r1 : (List ByteArray)
structure r3_Names_L2_O0 where
  x4 : Int
  h0 : T_api_Expr
  r1 : (List ByteArray)
def r3_Names_L2_s (a : r3_Names_L2_A) : St := { n := 47, nx := 2, env := [(1, .ptr 0 0), (3, .arr 1), (4, .sc (.int .i64 a.x4)), (5, .sl (R_string a.x5)), (6, .sc (.int .i64 a.x6))], heap := [(0, .box [] (C_api_Expr a.h0)), (1, .arr true 1 (R_string a.r1))] }
def r3_Names_L2_e (a : r3_Names_L2_O0) : Ex × St := (.exit 2, { n := 47, nx := 2, env := [(1, .ptr 0 0), (3, .arr 1), (4, .sc (.int .i64 a.x4))], heap := [(0, .box [] (C_api_Expr a.h0)), (1, .arr true 1 (R_string a.r1))] })
def r3_Names_L2_b (c_r3_has : (List ByteArray) → ByteArray → Option Bool) (a : r3_Names_L2_A) : Option (r3_Names_L2_A ⊕ r3_Names_L2_O0) := (bif (decide (a.x6 < (((a.x5.length) : Nat) : Int))) then (bif (decide (0 ≤ a.x6)) then ((a.x5[(Int.toNat a.x6)]?).bind fun (e1 : ByteArray) => ((c_r3_has a.r1 e1).bind fun (r2 : Bool) => (bif (!r2) then ((a.x5[(Int.toNat a.x6)]?).bind fun (e3 : ByteArray) => (bif (decide ((a.r1.length + [e3].length) * 16 ≤ most)) then (some (.inl (r3_Names_L2_A.mk a.x4 a.x5 (w64 (a.x6 + (1 : Int))) a.h0 (a.r1 ++ [e3])))) else none)) else (some (.inl (r3_Names_L2_A.mk a.x4 a.x5 (w64 (a.x6 + (1 : Int))) a.h0 a.r1)))))) else none) else (some (.inr (r3_Names_L2_O0.mk a.x4 a.h0 a.r1))))
def r3_Names_L2_t (P : Program) (call : CallF) (c_r3_has : (List ByteArray) → ByteArray → Option Bool) (a : r3_Names_L2_A) : Tr (r3_Names_L2_A ⊕ r3_Names_L2_O0) (Ex × St) := (.num ((R_string a.x5).length) (a.x5.length) (.as (decide (a.x6 < (((a.x5.length) : Nat) : Int))) (.as (decide (0 ≤ a.x6)) (.row ((R_string a.x5)[(Int.toNat a.x6)]?) (a.x5[(Int.toNat a.x6)]?) C_string fun (e1 : ByteArray) => (.call (call 49 [.sl (R_string a.r1), .sc (.string e1)] []) (c_r3_has a.r1 e1) r3_has_e fun (r2 : Bool) => (.as (!r2) (.yes (decide (0 ≤ a.x6)) (.row ((R_string a.x5)[(Int.toNat a.x6)]?) (a.x5[(Int.toNat a.x6)]?) C_string fun (e3 : ByteArray) => (.rows [[.sc (.string e3)]] (R_string [e3]) (.yes (decide ((R_string [e3]).all (fun r => r.length == 1) = true)) (.ask (decide (((R_string a.r1).length + (R_string [e3]).length) * 16 ≤ most)) (decide ((a.r1.length + [e3].length) * 16 ≤ most)) (.rows ((R_string a.r1) ++ (R_string [e3])) (R_string (a.r1 ++ [e3])) (lf r3_Names_L2_s (r3_Names_L2_A.mk a.x4 a.x5 (w64 (a.x6 + (1 : Int))) a.h0 (a.r1 ++ [e3])))) .fail))))) (lf r3_Names_L2_s (r3_Names_L2_A.mk a.x4 a.x5 (w64 (a.x6 + (1 : Int))) a.h0 a.r1))))) .fail) (rx r3_Names_L2_e (r3_Names_L2_O0.mk a.x4 a.h0 a.r1))))
theorem r3_Names_L2_d (P : Program) (call : CallF) (c_r3_has : (List ByteArray) → ByteArray → Option Bool) (a : r3_Names_L2_A) : (r3_Names_L2_t P call c_r3_has a).den = r3_Names_L2_b c_r3_has a := rfl
theorem r3_Names_L2_n (call : CallF) (c_r3_has : (List ByteArray) → ByteArray → Option Bool) (a : r3_Names_L2_A) : (r3_Names_L2_t Tryd.prog call c_r3_has a).norm (roundT Tryd.prog G.kd call 0 (G.an 29) (loopAt Tryd.prog 29 9) (r3_Names_L2_s a)) = r3_Names_L2_t Tryd.prog call c_r3_has a := by kernel_rfl
theorem r3_Names_L2_k (P : Program) (call : CallF) (lp : Loops) (c_r3_has : (List ByteArray) → ByteArray → Option Bool) (hc_r3_has : ∀ (a0 : (List ByteArray)) (a1 : ByteArray) (r : Bool), c_r3_has a0 a1 = some r → (call 49 [.sl (R_string a0), .sc (.string a1)] []) = some (r3_has_e r)) (a : r3_Names_L2_A) : (r3_Names_L2_t P call c_r3_has a).ok lp (Sum.elim (fun a => (.norm, r3_Names_L2_s a)) r3_Names_L2_e) := ⟨(R_string_len _), ⟨rfl, fun h0 => ⟨rfl, fun h1 => fun e1 he1 => ⟨R_string_get he1, fun r2 hr2 => ⟨hc_r3_has _ _ _ hr2, ⟨rfl, fun h2 => ⟨h1, fun e3 he3 => ⟨R_string_get he3, ⟨(R_string_map [e3]), ⟨(decide_eq_true (R_string_all _)), ⟨(by rw [R_string_len, R_string_len]), fun h3 => ⟨(R_string_append _ _), rfl⟩, fun h3 => trivial⟩⟩⟩⟩⟩, fun h2 => rfl⟩⟩⟩, fun h1 => trivial⟩, fun h0 => rfl⟩⟩
theorem r3_Names_L2_m {c_r3_has d_r3_has : (List ByteArray) → ByteArray → Option Bool} (h_r3_has : ∀ (a0 : (List ByteArray)) (a1 : ByteArray), Le (c_r3_has a0 a1) (d_r3_has a0 a1)) (a : r3_Names_L2_A) : Le (r3_Names_L2_b c_r3_has a) (r3_Names_L2_b d_r3_has a) := by
  unfold r3_Names_L2_b
  exact .cond (.cond (.bind (.refl (a.x5[(Int.toNat a.x6)]?)) fun e1 => .bind (h_r3_has _ _) fun r2 => .refl _) (.refl _)) (.refl _)
theorem r3_Names_L2_c {c_r3_has : Nat → (List ByteArray) → ByteArray → Option Bool} {d_r3_has : (List ByteArray) → ByteArray → Option Bool} (h_r3_has : ∀ (a0 : (List ByteArray)) (a1 : ByteArray), Cv (fun k => c_r3_has k a0 a1) (d_r3_has a0 a1)) (a : r3_Names_L2_A) : Cv (fun k => r3_Names_L2_b (c_r3_has k) a) (r3_Names_L2_b d_r3_has a) := by
  unfold r3_Names_L2_b
  exact .cond (.cond (.bind (.const (a.x5[(Int.toNat a.x6)]?)) fun e1 => .bind (h_r3_has _ _) fun r2 => by exact .const _) (by exact .const _)) (by exact .const _)
def r3_Names_L2.s (k : Nat) (c_r3_has : (List ByteArray) → ByteArray → Option Bool) : r3_Names_L2_A → Option r3_Names_L2_O0 := iter (r3_Names_L2_b c_r3_has) k
theorem r3_Names_L2_ok (call : CallF) (k : Nat) (c_r3_has : (List ByteArray) → ByteArray → Option Bool) (hc_r3_has : ∀ (a0 : (List ByteArray)) (a1 : ByteArray) (r : Bool), c_r3_has a0 a1 = some r → (call 49 [.sl (R_string a0), .sc (.string a1)] []) = some (r3_has_e r)) (a : r3_Names_L2_A) (r : r3_Names_L2_O0) (h : r3_Names_L2.s k c_r3_has a = some r) : loopsF Tryd.prog G.kd call 0 (G.an 29) k (loopAt Tryd.prog 29 9) (r3_Names_L2_s a) = some (r3_Names_L2_e r) :=
  loop_ok (fun a => r3_Names_L2_t Tryd.prog call c_r3_has a) (fun a => r3_Names_L2_d _ call c_r3_has a) (fun a => r3_Names_L2_n call c_r3_has a) (fun a => r3_Names_L2_k _ call _ c_r3_has hc_r3_has a) (fun r => nofun) h
theorem r3_Names_L2.m {j k : Nat} (hj : j ≤ k) (c_r3_has : (List ByteArray) → ByteArray → Option Bool) (d_r3_has : (List ByteArray) → ByteArray → Option Bool) (h_r3_has : ∀ (a0 : (List ByteArray)) (a1 : ByteArray), Le (c_r3_has a0 a1) (d_r3_has a0 a1)) (a : r3_Names_L2_A) : Le (r3_Names_L2.s j c_r3_has a) (r3_Names_L2.s k d_r3_has a) := Le.iter (fun a => r3_Names_L2_m h_r3_has a) hj a
noncomputable def r3_Names_L2.w (c_r3_has : (List ByteArray) → ByteArray → Option Bool) : r3_Names_L2_A → Option r3_Names_L2_O0 := loopW (r3_Names_L2_b c_r3_has)
theorem r3_Names_L2.cv (c_r3_has : Nat → (List ByteArray) → ByteArray → Option Bool) (d_r3_has : (List ByteArray) → ByteArray → Option Bool) (h_r3_has : ∀ (a0 : (List ByteArray)) (a1 : ByteArray), Cv (fun k => c_r3_has k a0 a1) (d_r3_has a0 a1)) (a : r3_Names_L2_A) : Cv (fun k => r3_Names_L2.s k (c_r3_has k) a) (r3_Names_L2.w d_r3_has a) := Cv.iter (fun a => r3_Names_L2_c h_r3_has a) a
structure r3_Names_L1_A where
  x4 : Int
  h0 : T_api_Expr
  r1 : (List ByteArray)
def r3_Names_L1_s (a : r3_Names_L1_A) : St := { n := 47, nx := 2, env := [(1, .ptr 0 0), (3, .arr 1), (4, .sc (.int .i64 a.x4))], heap := [(0, .box [] (C_api_Expr a.h0)), (1, .arr true 1 (R_string a.r1))] }
def r3_Names_L1_e (a : (List ByteArray)) : Ex × St := (.exit 0, { n := 47, nx := 1, env := [(3, .arr 0)], heap := [(0, .arr true 1 (R_string a))] })
def r3_Names_L1_b (c_r3_Names : T_api_Expr → Option (List ByteArray)) (l_r3_Names_L2 : r3_Names_L2_A → Option r3_Names_L2_O0) (a : r3_Names_L1_A) : Option (r3_Names_L1_A ⊕ (List ByteArray)) := (bif (decide (a.x4 < (((a.h0.L.length) : Nat) : Int))) then (bif (decide (0 ≤ a.x4)) then ((a.h0.L[(Int.toNat a.x4)]?).bind fun (e1 : T_api_Expr) => ((c_r3_Names e1).bind fun (r2 : (List ByteArray)) => ((l_r3_Names_L2 (r3_Names_L2_A.mk a.x4 r2 (0 : Int) a.h0 a.r1)).bind (fun (o3 : r3_Names_L2_O0) => (some (.inl (r3_Names_L1_A.mk (w64 (o3.x4 + (1 : Int))) o3.h0 o3.r1))))))) else none) else (some (.inr a.r1)))
def r3_Names_L1_t (P : Program) (call : CallF) (c_r3_Names : T_api_Expr → Option (List ByteArray)) (l_r3_Names_L2 : r3_Names_L2_A → Option r3_Names_L2_O0) (a : r3_Names_L1_A) : Tr (r3_Names_L1_A ⊕ (List ByteArray)) (Ex × St) := (.num ((R_api_Expr a.h0.L).length) (a.h0.L.length) (.as (decide (a.x4 < (((a.h0.L.length) : Nat) : Int))) (.as (decide (0 ≤ a.x4)) (.row ((R_api_Expr a.h0.L)[(Int.toNat a.x4)]?) (a.h0.L[(Int.toNat a.x4)]?) C_api_Expr fun (e1 : T_api_Expr) => (.call (call 29 [.agg (C_api_Expr e1)] []) (c_r3_Names e1) r3_Names_e fun (r2 : (List ByteArray)) => (.loop (loopAt P 29 9) (r3_Names_L2_s (r3_Names_L2_A.mk a.x4 r2 (0 : Int) a.h0 a.r1)) (l_r3_Names_L2 (r3_Names_L2_A.mk a.x4 r2 (0 : Int) a.h0 a.r1)) r3_Names_L2_e (fun (o3 : r3_Names_L2_O0) => (lf r3_Names_L1_s (r3_Names_L1_A.mk (w64 (o3.x4 + (1 : Int))) o3.h0 o3.r1)))))) .fail) (rx r3_Names_L1_e a.r1)))
theorem r3_Names_L1_d (P : Program) (call : CallF) (c_r3_Names : T_api_Expr → Option (List ByteArray)) (l_r3_Names_L2 : r3_Names_L2_A → Option r3_Names_L2_O0) (a : r3_Names_L1_A) : (r3_Names_L1_t P call c_r3_Names l_r3_Names_L2 a).den = r3_Names_L1_b c_r3_Names l_r3_Names_L2 a := rfl
theorem r3_Names_L1_n (call : CallF) (c_r3_Names : T_api_Expr → Option (List ByteArray)) (l_r3_Names_L2 : r3_Names_L2_A → Option r3_Names_L2_O0) (a : r3_Names_L1_A) : (r3_Names_L1_t Tryd.prog call c_r3_Names l_r3_Names_L2 a).norm (roundT Tryd.prog G.kd call 0 (G.an 29) (loopAt Tryd.prog 29 5) (r3_Names_L1_s a)) = r3_Names_L1_t Tryd.prog call c_r3_Names l_r3_Names_L2 a := by kernel_rfl
theorem r3_Names_L1_k (P : Program) (call : CallF) (lp : Loops) (c_r3_Names : T_api_Expr → Option (List ByteArray)) (l_r3_Names_L2 : r3_Names_L2_A → Option r3_Names_L2_O0) (hc_r3_Names : ∀ (a0 : T_api_Expr) (r : (List ByteArray)), c_r3_Names a0 = some r → (call 29 [.agg (C_api_Expr a0)] []) = some (r3_Names_e r)) (hl_r3_Names_L2 : ∀ (a : r3_Names_L2_A) (r : r3_Names_L2_O0), l_r3_Names_L2 a = some r → lp (loopAt P 29 9) (r3_Names_L2_s a) = some (r3_Names_L2_e r)) (a : r3_Names_L1_A) : (r3_Names_L1_t P call c_r3_Names l_r3_Names_L2 a).ok lp (Sum.elim (fun a => (.norm, r3_Names_L1_s a)) r3_Names_L1_e) := ⟨(R_api_Expr_len _), ⟨rfl, fun h0 => ⟨rfl, fun h1 => fun e1 he1 => ⟨R_api_Expr_get he1, fun r2 hr2 => ⟨hc_r3_Names _ _ hr2, fun o3 ho3 => ⟨hl_r3_Names_L2 _ _ ho3, rfl⟩⟩⟩, fun h1 => trivial⟩, fun h0 => rfl⟩⟩
theorem r3_Names_L1_m {c_r3_Names d_r3_Names : T_api_Expr → Option (List ByteArray)} (h_r3_Names : ∀ (a0 : T_api_Expr), Le (c_r3_Names a0) (d_r3_Names a0)) {l_r3_Names_L2 m_r3_Names_L2 : r3_Names_L2_A → Option r3_Names_L2_O0} (hl_r3_Names_L2 : ∀ a, Le (l_r3_Names_L2 a) (m_r3_Names_L2 a)) (a : r3_Names_L1_A) : Le (r3_Names_L1_b c_r3_Names l_r3_Names_L2 a) (r3_Names_L1_b d_r3_Names m_r3_Names_L2 a) := by
  unfold r3_Names_L1_b
  exact .cond (.cond (.bind (.refl (a.h0.L[(Int.toNat a.x4)]?)) fun e1 => .bind (h_r3_Names _) fun r2 => .bind (hl_r3_Names_L2 _) (fun o3 => .refl _)) (.refl _)) (.refl _)
theorem r3_Names_L1_c {c_r3_Names : Nat → T_api_Expr → Option (List ByteArray)} {d_r3_Names : T_api_Expr → Option (List ByteArray)} (h_r3_Names : ∀ (a0 : T_api_Expr), Cv (fun k => c_r3_Names k a0) (d_r3_Names a0)) {l_r3_Names_L2 : Nat → r3_Names_L2_A → Option r3_Names_L2_O0} {m_r3_Names_L2 : r3_Names_L2_A → Option r3_Names_L2_O0} (hl_r3_Names_L2 : ∀ a, Cv (fun k => l_r3_Names_L2 k a) (m_r3_Names_L2 a)) (a : r3_Names_L1_A) : Cv (fun k => r3_Names_L1_b (c_r3_Names k) (l_r3_Names_L2 k) a) (r3_Names_L1_b d_r3_Names m_r3_Names_L2 a) := by
  unfold r3_Names_L1_b
  exact .cond (.cond (.bind (.const (a.h0.L[(Int.toNat a.x4)]?)) fun e1 => .bind (h_r3_Names _) fun r2 => .bind (hl_r3_Names_L2 _) (fun o3 => by exact .const _)) (by exact .const _)) (by exact .const _)
def r3_Names_L1.s (k : Nat) (c_r3_Names : T_api_Expr → Option (List ByteArray)) (c_r3_has : (List ByteArray) → ByteArray → Option Bool) : r3_Names_L1_A → Option (List ByteArray) := iter (r3_Names_L1_b c_r3_Names (r3_Names_L2.s k c_r3_has)) k
theorem r3_Names_L1_ok (call : CallF) (k : Nat) (c_r3_Names : T_api_Expr → Option (List ByteArray)) (c_r3_has : (List ByteArray) → ByteArray → Option Bool) (hc_r3_Names : ∀ (a0 : T_api_Expr) (r : (List ByteArray)), c_r3_Names a0 = some r → (call 29 [.agg (C_api_Expr a0)] []) = some (r3_Names_e r)) (hc_r3_has : ∀ (a0 : (List ByteArray)) (a1 : ByteArray) (r : Bool), c_r3_has a0 a1 = some r → (call 49 [.sl (R_string a0), .sc (.string a1)] []) = some (r3_has_e r)) (a : r3_Names_L1_A) (r : (List ByteArray)) (h : r3_Names_L1.s k c_r3_Names c_r3_has a = some r) : loopsF Tryd.prog G.kd call 0 (G.an 29) k (loopAt Tryd.prog 29 5) (r3_Names_L1_s a) = some (r3_Names_L1_e r) :=
  loop_ok (fun a => r3_Names_L1_t Tryd.prog call c_r3_Names (r3_Names_L2.s k c_r3_has) a) (fun a => r3_Names_L1_d _ call c_r3_Names (r3_Names_L2.s k c_r3_has) a) (fun a => r3_Names_L1_n call c_r3_Names (r3_Names_L2.s k c_r3_has) a) (fun a => r3_Names_L1_k _ call _ c_r3_Names (r3_Names_L2.s k c_r3_has) hc_r3_Names (r3_Names_L2_ok call k c_r3_has hc_r3_has) a) (fun r => nofun) h
theorem r3_Names_L1.m {j k : Nat} (hj : j ≤ k) (c_r3_Names : T_api_Expr → Option (List ByteArray)) (c_r3_has : (List ByteArray) → ByteArray → Option Bool) (d_r3_Names : T_api_Expr → Option (List ByteArray)) (d_r3_has : (List ByteArray) → ByteArray → Option Bool) (h_r3_Names : ∀ (a0 : T_api_Expr), Le (c_r3_Names a0) (d_r3_Names a0)) (h_r3_has : ∀ (a0 : (List ByteArray)) (a1 : ByteArray), Le (c_r3_has a0 a1) (d_r3_has a0 a1)) (a : r3_Names_L1_A) : Le (r3_Names_L1.s j c_r3_Names c_r3_has a) (r3_Names_L1.s k d_r3_Names d_r3_has a) := Le.iter (fun a => r3_Names_L1_m h_r3_Names (r3_Names_L2.m hj c_r3_has d_r3_has h_r3_has) a) hj a
noncomputable def r3_Names_L1.w (c_r3_Names : T_api_Expr → Option (List ByteArray)) (c_r3_has : (List ByteArray) → ByteArray → Option Bool) : r3_Names_L1_A → Option (List ByteArray) := loopW (r3_Names_L1_b c_r3_Names (r3_Names_L2.w c_r3_has))
theorem r3_Names_L1.cv (c_r3_Names : Nat → T_api_Expr → Option (List ByteArray)) (c_r3_has : Nat → (List ByteArray) → ByteArray → Option Bool) (d_r3_Names : T_api_Expr → Option (List ByteArray)) (d_r3_has : (List ByteArray) → ByteArray → Option Bool) (h_r3_Names : ∀ (a0 : T_api_Expr), Cv (fun k => c_r3_Names k a0) (d_r3_Names a0)) (h_r3_has : ∀ (a0 : (List ByteArray)) (a1 : ByteArray), Cv (fun k => c_r3_has k a0 a1) (d_r3_has a0 a1)) (a : r3_Names_L1_A) : Cv (fun k => r3_Names_L1.s k (c_r3_Names k) (c_r3_has k) a) (r3_Names_L1.w d_r3_Names d_r3_has a) := Cv.iter (fun a => r3_Names_L1_c h_r3_Names (r3_Names_L2.cv c_r3_has d_r3_has h_r3_has) a) a
def r3_Names_b (l_r3_Names_L1 : r3_Names_L1_A → Option (List ByteArray)) (a0 : T_api_Expr) : Option (List ByteArray) := (bif (a0.Kind == (2 : Int)) then (some [a0.Name]) else ((l_r3_Names_L1 (r3_Names_L1_A.mk (0 : Int) a0 ([] : List ByteArray))).bind (fun (o1 : (List ByteArray)) => (some o1))))
def r3_Names_t (P : Program) (call : CallF) (l_r3_Names_L1 : r3_Names_L1_A → Option (List ByteArray)) (a0 : T_api_Expr) : Tr (List ByteArray) (AV × Heap) := (.as (a0.Kind == (2 : Int)) (.rows [[.sc (.string a0.Name)]] (R_string [a0.Name]) (rt r3_Names_e [a0.Name])) (.loop (loopAt P 29 5) (r3_Names_L1_s (r3_Names_L1_A.mk (0 : Int) a0 ([] : List ByteArray))) (l_r3_Names_L1 (r3_Names_L1_A.mk (0 : Int) a0 ([] : List ByteArray))) r3_Names_L1_e (fun (o1 : (List ByteArray)) => (rt r3_Names_e o1))))
theorem r3_Names_d (P : Program) (call : CallF) (l_r3_Names_L1 : r3_Names_L1_A → Option (List ByteArray)) (a0 : T_api_Expr) : (r3_Names_t P call l_r3_Names_L1 a0).den = r3_Names_b l_r3_Names_L1 a0 := rfl
theorem r3_Names_n (call : CallF) (l_r3_Names_L1 : r3_Names_L1_A → Option (List ByteArray)) (a0 : T_api_Expr) : (r3_Names_t Tryd.prog call l_r3_Names_L1 a0).norm (bodyT Tryd.prog call G 29 [.agg (C_api_Expr a0)] []) = r3_Names_t Tryd.prog call l_r3_Names_L1 a0 := by kernel_rfl
theorem r3_Names_k (P : Program) (call : CallF) (lp : Loops) (l_r3_Names_L1 : r3_Names_L1_A → Option (List ByteArray)) (hl_r3_Names_L1 : ∀ (a : r3_Names_L1_A) (r : (List ByteArray)), l_r3_Names_L1 a = some r → lp (loopAt P 29 5) (r3_Names_L1_s a) = some (r3_Names_L1_e r)) (a0 : T_api_Expr) : (r3_Names_t P call l_r3_Names_L1 a0).ok lp r3_Names_e := ⟨rfl, fun h0 => ⟨(R_string_map [a0.Name]), rfl⟩, fun h0 => fun o1 ho1 => ⟨hl_r3_Names_L1 _ _ ho1, rfl⟩⟩
theorem r3_Names_m {l_r3_Names_L1 m_r3_Names_L1 : r3_Names_L1_A → Option (List ByteArray)} (hl_r3_Names_L1 : ∀ a, Le (l_r3_Names_L1 a) (m_r3_Names_L1 a)) (a0 : T_api_Expr) : Le (r3_Names_b l_r3_Names_L1 a0) (r3_Names_b m_r3_Names_L1 a0) := by
  unfold r3_Names_b
  exact .cond (.refl _) (.bind (hl_r3_Names_L1 _) (fun o1 => .refl _))
theorem r3_Names_c {l_r3_Names_L1 : Nat → r3_Names_L1_A → Option (List ByteArray)} {m_r3_Names_L1 : r3_Names_L1_A → Option (List ByteArray)} (hl_r3_Names_L1 : ∀ a, Cv (fun k => l_r3_Names_L1 k a) (m_r3_Names_L1 a)) (a0 : T_api_Expr) : Cv (fun k => r3_Names_b (l_r3_Names_L1 k) a0) (r3_Names_b m_r3_Names_L1 a0) := by
  unfold r3_Names_b
  exact .cond (by exact .const _) (.bind (hl_r3_Names_L1 _) (fun o1 => by exact .const _))
def r3_Names.s : Nat → T_api_Expr → Option (List ByteArray)
  | 0, _ => none
  | k + 1, a0 => r3_Names_b (r3_Names_L1.s k (fun a0 => r3_Names.s k a0) (fun a0 a1 => r3_has.s k a0 a1)) a0
termination_by structural k => k
theorem r3_Names_all : ∀ (k : Nat), ∀ (a0 : T_api_Expr) (r : (List ByteArray)), r3_Names.s k a0 = some r → evalFn Tryd.prog G k 29 [.agg (C_api_Expr a0)] [] = some (r3_Names_e r)
  | 0 => fun _ _ h => (nomatch h)
  | k + 1 => by
    have i_r3_Names := r3_Names_all k
    exact fun a0 r h => fn_ok rfl (r3_Names_t Tryd.prog (evalFn Tryd.prog G k) (r3_Names_L1.s k (fun a0 => r3_Names.s k a0) (fun a0 a1 => r3_has.s k a0 a1)) a0) (r3_Names_n _ (r3_Names_L1.s k (fun a0 => r3_Names.s k a0) (fun a0 a1 => r3_has.s k a0 a1)) a0) (r3_Names_k _ _ _ (r3_Names_L1.s k (fun a0 => r3_Names.s k a0) (fun a0 a1 => r3_has.s k a0 a1))  (r3_Names_L1_ok _ k (fun a0 => r3_Names.s k a0) (fun a0 a1 => r3_has.s k a0 a1) (i_r3_Names) (r3_has.ok k)) a0) ((r3_Names_d _ _ (r3_Names_L1.s k (fun a0 => r3_Names.s k a0) (fun a0 a1 => r3_has.s k a0 a1)) a0).trans h)
theorem r3_Names.ok (k : Nat) : ∀ (a0 : T_api_Expr) (r : (List ByteArray)), r3_Names.s k a0 = some r → evalFn Tryd.prog G k 29 [.agg (C_api_Expr a0)] [] = some (r3_Names_e r) := (r3_Names_all k)
theorem r3_Names_mall : ∀ (k : Nat), (∀ (a0 : T_api_Expr), Le (r3_Names.s k a0) (r3_Names.s (k + 1) a0))
  | 0 => fun _ _ h => (nomatch h)
  | k + 1 => by
    have i_r3_Names := r3_Names_mall k
    exact fun a0 => r3_Names_m (r3_Names_L1.m (Nat.le_succ k) (fun a0 => r3_Names.s k a0) (fun a0 a1 => r3_has.s k a0 a1) (fun a0 => r3_Names.s (k + 1) a0) (fun a0 a1 => r3_has.s (k + 1) a0 a1) (i_r3_Names) (r3_has.mono k)) a0
theorem r3_Names.mono (k : Nat) : ∀ (a0 : T_api_Expr), Le (r3_Names.s k a0) (r3_Names.s (k + 1) a0) := (r3_Names_mall k)
noncomputable def r3_Names (a0 : T_api_Expr) : Option (List ByteArray) := lim fun k => r3_Names.s k a0
theorem r3_Names.cv (a0 : T_api_Expr) : Cv (fun k => r3_Names.s k a0) (r3_Names a0) := .lim fun k => r3_Names.mono k a0
noncomputable def r3_Names_L2 : r3_Names_L2_A → Option r3_Names_L2_O0 := r3_Names_L2.w r3_has
theorem r3_Names_L2.eq (a : r3_Names_L2_A) : r3_Names_L2 a = (r3_Names_L2_b r3_has a).bind (Sum.elim r3_Names_L2 some) := loopW_eq _ _
noncomputable def r3_Names_L1 : r3_Names_L1_A → Option (List ByteArray) := r3_Names_L1.w r3_Names r3_has
theorem r3_Names_L1.eq (a : r3_Names_L1_A) : r3_Names_L1 a = (r3_Names_L1_b r3_Names r3_Names_L2 a).bind (Sum.elim r3_Names_L1 some) := loopW_eq _ _
theorem r3_Names.eq (a0 : T_api_Expr) : r3_Names a0 = r3_Names_b r3_Names_L1 a0 := Cv.uniq (r3_Names.cv a0).shift (r3_Names_c (r3_Names_L1.cv (fun k => fun a0 => r3_Names.s k a0) (fun k => fun a0 a1 => r3_has.s k a0 a1) r3_Names r3_has r3_Names.cv r3_has.cv) a0)
def w3_ExprBack_e (r : Bool) : AV × Heap := (.sc (.bool r), [])
structure w3_ExprBack_L1_A where
  x4 : ByteArray
  x6 : Bool
  x7 : (List ByteArray)
  x8 : (List ByteArray)
  x9 : Int
  h0 : T_api_Expr
  h1 : T_api_Expr
structure w3_ExprBack_L1_O1 where
  x4 : ByteArray
  x6 : Bool
  h0 : T_api_Expr
  h1 : T_api_Expr
def w3_ExprBack_L1_s (a : w3_ExprBack_L1_A) : St := { n := 60, nx := 2, env := [(3, .ptr 0 0), (4, .sc (.string a.x4)), (5, .ptr 1 0), (6, .sc (.bool a.x6)), (7, .sl (R_string a.x7)), (8, .sl (R_string a.x8)), (9, .sc (.int .i64 a.x9))], heap := [(0, .box [] (C_api_Expr a.h0)), (1, .box [] (C_api_Expr a.h1))] }
def w3_ExprBack_L1_e0 (a : Bool) : Ex × St := (.ret, { n := 60, nx := 0, env := [(2, .sc (.bool a))], heap := [] })
def w3_ExprBack_L1_e1 (a : w3_ExprBack_L1_O1) : Ex × St := (.exit 0, { n := 60, nx := 2, env := [(3, .ptr 0 0), (4, .sc (.string a.x4)), (5, .ptr 1 0), (6, .sc (.bool a.x6))], heap := [(0, .box [] (C_api_Expr a.h0)), (1, .box [] (C_api_Expr a.h1))] })
def w3_ExprBack_L1_e (a : (Bool ⊕ w3_ExprBack_L1_O1)) : Ex × St := Sum.elim w3_ExprBack_L1_e0 w3_ExprBack_L1_e1 a
def w3_ExprBack_L1_b  (a : w3_ExprBack_L1_A) : Option (w3_ExprBack_L1_A ⊕ (Bool ⊕ w3_ExprBack_L1_O1)) := (bif (decide (a.x9 < (((a.x7.length) : Nat) : Int))) then (bif (decide (0 ≤ a.x9)) then ((a.x7[(Int.toNat a.x9)]?).bind fun (e1 : ByteArray) => ((a.x8[(Int.toNat a.x9)]?).bind fun (e2 : ByteArray) => (bif (!(eqS e1 e2)) then (some (.inr (.inl false))) else (some (.inl (w3_ExprBack_L1_A.mk a.x4 a.x6 a.x7 a.x8 (w64 (a.x9 + (1 : Int))) a.h0 a.h1)))))) else none) else (some (.inr (.inr (w3_ExprBack_L1_O1.mk a.x4 a.x6 a.h0 a.h1)))))
def w3_ExprBack_L1_t (P : Program) (call : CallF)  (a : w3_ExprBack_L1_A) : Tr (w3_ExprBack_L1_A ⊕ (Bool ⊕ w3_ExprBack_L1_O1)) (Ex × St) := (.num ((R_string a.x7).length) (a.x7.length) (.as (decide (a.x9 < (((a.x7.length) : Nat) : Int))) (.as (decide (0 ≤ a.x9)) (.row ((R_string a.x7)[(Int.toNat a.x9)]?) (a.x7[(Int.toNat a.x9)]?) C_string fun (e1 : ByteArray) => (.yes (decide (0 ≤ a.x9)) (.row ((R_string a.x8)[(Int.toNat a.x9)]?) (a.x8[(Int.toNat a.x9)]?) C_string fun (e2 : ByteArray) => (.as (!(eqS e1 e2)) (rx w3_ExprBack_L1_e (.inl false)) (lf w3_ExprBack_L1_s (w3_ExprBack_L1_A.mk a.x4 a.x6 a.x7 a.x8 (w64 (a.x9 + (1 : Int))) a.h0 a.h1)))))) .fail) (rx w3_ExprBack_L1_e (.inr (w3_ExprBack_L1_O1.mk a.x4 a.x6 a.h0 a.h1)))))
theorem w3_ExprBack_L1_d (P : Program) (call : CallF)  (a : w3_ExprBack_L1_A) : (w3_ExprBack_L1_t P call  a).den = w3_ExprBack_L1_b  a := rfl
theorem w3_ExprBack_L1_n (call : CallF)  (a : w3_ExprBack_L1_A) : (w3_ExprBack_L1_t Tryd.prog call  a).norm (roundT Tryd.prog G.kd call 0 (G.an 13) (loopAt Tryd.prog 13 12) (w3_ExprBack_L1_s a)) = w3_ExprBack_L1_t Tryd.prog call  a := by kernel_rfl
theorem w3_ExprBack_L1_k (P : Program) (call : CallF) (lp : Loops)   (a : w3_ExprBack_L1_A) : (w3_ExprBack_L1_t P call  a).ok lp (Sum.elim (fun a => (.norm, w3_ExprBack_L1_s a)) w3_ExprBack_L1_e) := ⟨(R_string_len _), ⟨rfl, fun h0 => ⟨rfl, fun h1 => fun e1 he1 => ⟨R_string_get he1, ⟨h1, fun e2 he2 => ⟨R_string_get he2, ⟨rfl, fun h2 => rfl, fun h2 => rfl⟩⟩⟩⟩, fun h1 => trivial⟩, fun h0 => rfl⟩⟩
def w3_ExprBack_L1.s (k : Nat)  : w3_ExprBack_L1_A → Option (Bool ⊕ w3_ExprBack_L1_O1) := iter (w3_ExprBack_L1_b ) k
theorem w3_ExprBack_L1_ok (call : CallF) (k : Nat)   (a : w3_ExprBack_L1_A) (r : (Bool ⊕ w3_ExprBack_L1_O1)) (h : w3_ExprBack_L1.s k  a = some r) : loopsF Tryd.prog G.kd call 0 (G.an 13) k (loopAt Tryd.prog 13 12) (w3_ExprBack_L1_s a) = some (w3_ExprBack_L1_e r) :=
  loop_ok (fun a => w3_ExprBack_L1_t Tryd.prog call  a) (fun a => w3_ExprBack_L1_d _ call  a) (fun a => w3_ExprBack_L1_n call  a) (fun a => w3_ExprBack_L1_k _ call _   a) (fun r => by cases r <;> nofun) h
theorem w3_ExprBack_L1.m {j k : Nat} (hj : j ≤ k)    (a : w3_ExprBack_L1_A) : Le (w3_ExprBack_L1.s j  a) (w3_ExprBack_L1.s k  a) := Le.iter (fun a => .refl _) hj a
noncomputable def w3_ExprBack_L1.w  : w3_ExprBack_L1_A → Option (Bool ⊕ w3_ExprBack_L1_O1) := loopW (w3_ExprBack_L1_b )
theorem w3_ExprBack_L1.cv    (a : w3_ExprBack_L1_A) : Cv (fun k => w3_ExprBack_L1.s k  a) (w3_ExprBack_L1.w  a) := Cv.iter (fun a => by exact .const _) a
def w3_ExprBack_b (c_w3_known : Option Bool) (c_w3_Few : (List T_w3_Raw) → Option Bool) (c_w3_One : (List T_w3_Raw) → Option T_api_Expr) (c_expr_Text : T_api_Expr → Option ByteArray) (c_expr_Parse : ByteArray → Option (T_api_Expr × Bool)) (c_expr_Names : T_api_Expr → Option (List ByteArray)) (c_r3_Names : T_api_Expr → Option (List ByteArray)) (c_r3_Text : T_api_Expr → Option ByteArray) (c_r3_Same : T_api_Expr → T_api_Expr → Option Bool) (l_w3_ExprBack_L1 : w3_ExprBack_L1_A → Option (Bool ⊕ w3_ExprBack_L1_O1)) (a0 : (List T_w3_Raw)) : Option Bool := ((c_w3_known).bind fun (r1 : Bool) => (bif (!r1) then (some false) else ((c_w3_Few a0).bind fun (r2 : Bool) => (bif (!r2) then (some true) else ((c_w3_One a0).bind fun (r3 : T_api_Expr) => ((c_expr_Text r3).bind fun (r4 : ByteArray) => ((c_expr_Parse r4).bind fun (r5 : (T_api_Expr × Bool)) => ((c_expr_Names r3).bind fun (r6 : (List ByteArray)) => ((c_r3_Names r3).bind fun (r7 : (List ByteArray)) => (bif ((((r6.length) : Nat) : Int) != (((r7.length) : Nat) : Int)) then (some false) else ((l_w3_ExprBack_L1 (w3_ExprBack_L1_A.mk r4 r5.2 r6 r7 (0 : Int) r3 r5.1)).bind fun x => Sum.elim (fun (o8 : Bool) => (some o8)) (fun (o9 : w3_ExprBack_L1_O1) => ((c_r3_Text o9.h0).bind fun (r10 : ByteArray) => (bif (eqS o9.x4 r10) then (bif o9.x6 then ((c_r3_Same o9.h0 o9.h1).bind fun (r11 : Bool) => (some r11)) else (some false)) else (some false)))) x)))))))))))
def w3_ExprBack_t (P : Program) (call : CallF) (c_w3_known : Option Bool) (c_w3_Few : (List T_w3_Raw) → Option Bool) (c_w3_One : (List T_w3_Raw) → Option T_api_Expr) (c_expr_Text : T_api_Expr → Option ByteArray) (c_expr_Parse : ByteArray → Option (T_api_Expr × Bool)) (c_expr_Names : T_api_Expr → Option (List ByteArray)) (c_r3_Names : T_api_Expr → Option (List ByteArray)) (c_r3_Text : T_api_Expr → Option ByteArray) (c_r3_Same : T_api_Expr → T_api_Expr → Option Bool) (l_w3_ExprBack_L1 : w3_ExprBack_L1_A → Option (Bool ⊕ w3_ExprBack_L1_O1)) (a0 : (List T_w3_Raw)) : Tr Bool (AV × Heap) := (.call (call 14 [] []) (c_w3_known) w3_known_e fun (r1 : Bool) => (.as (!r1) (rt w3_ExprBack_e false) (.call (call 15 [.sl (R_w3_Raw a0)] []) (c_w3_Few a0) w3_Few_e fun (r2 : Bool) => (.as (!r2) (rt w3_ExprBack_e true) (.call (call 17 [.sl (R_w3_Raw a0)] []) (c_w3_One a0) w3_One_e fun (r3 : T_api_Expr) => (.call (call 27 [.agg (C_api_Expr r3)] []) (c_expr_Text r3) expr_Text_e fun (r4 : ByteArray) => (.call (call 19 [.sc (.string r4)] []) (c_expr_Parse r4) expr_Parse_e fun (r5 : (T_api_Expr × Bool)) => (.call (call 28 [.agg (C_api_Expr r3)] []) (c_expr_Names r3) expr_Names_e fun (r6 : (List ByteArray)) => (.call (call 29 [.agg (C_api_Expr r3)] []) (c_r3_Names r3) r3_Names_e fun (r7 : (List ByteArray)) => (.num ((R_string r6).length) (r6.length) (.num ((R_string r7).length) (r7.length) (.as ((((r6.length) : Nat) : Int) != (((r7.length) : Nat) : Int)) (rt w3_ExprBack_e false) (.loop2 (loopAt P 13 12) (w3_ExprBack_L1_s (w3_ExprBack_L1_A.mk r4 r5.2 r6 r7 (0 : Int) r3 r5.1)) (l_w3_ExprBack_L1 (w3_ExprBack_L1_A.mk r4 r5.2 r6 r7 (0 : Int) r3 r5.1)) w3_ExprBack_L1_e0 w3_ExprBack_L1_e1 (fun (o8 : Bool) => (rt w3_ExprBack_e o8)) (fun (o9 : w3_ExprBack_L1_O1) => (.call (call 16 [.agg (C_api_Expr o9.h0)] []) (c_r3_Text o9.h0) r3_Text_e fun (r10 : ByteArray) => (.as (eqS o9.x4 r10) (.yes (eqS o9.x4 r10) (.as o9.x6 (yesN 2 o9.x6 (.call (call 21 [.agg (C_api_Expr o9.h0), .agg (C_api_Expr o9.h1)] []) (c_r3_Same o9.h0 o9.h1) r3_Same_e fun (r11 : Bool) => (.yes o9.x6 (rt w3_ExprBack_e r11)))) (noN 3 o9.x6 (rt w3_ExprBack_e false)))) (.no (eqS o9.x4 r10) (noN 4 false (rt w3_ExprBack_e false)))))))))))))))))))
theorem w3_ExprBack_d (P : Program) (call : CallF) (c_w3_known : Option Bool) (c_w3_Few : (List T_w3_Raw) → Option Bool) (c_w3_One : (List T_w3_Raw) → Option T_api_Expr) (c_expr_Text : T_api_Expr → Option ByteArray) (c_expr_Parse : ByteArray → Option (T_api_Expr × Bool)) (c_expr_Names : T_api_Expr → Option (List ByteArray)) (c_r3_Names : T_api_Expr → Option (List ByteArray)) (c_r3_Text : T_api_Expr → Option ByteArray) (c_r3_Same : T_api_Expr → T_api_Expr → Option Bool) (l_w3_ExprBack_L1 : w3_ExprBack_L1_A → Option (Bool ⊕ w3_ExprBack_L1_O1)) (a0 : (List T_w3_Raw)) : (w3_ExprBack_t P call c_w3_known c_w3_Few c_w3_One c_expr_Text c_expr_Parse c_expr_Names c_r3_Names c_r3_Text c_r3_Same l_w3_ExprBack_L1 a0).den = w3_ExprBack_b c_w3_known c_w3_Few c_w3_One c_expr_Text c_expr_Parse c_expr_Names c_r3_Names c_r3_Text c_r3_Same l_w3_ExprBack_L1 a0 := rfl
theorem w3_ExprBack_n (call : CallF) (c_w3_known : Option Bool) (c_w3_Few : (List T_w3_Raw) → Option Bool) (c_w3_One : (List T_w3_Raw) → Option T_api_Expr) (c_expr_Text : T_api_Expr → Option ByteArray) (c_expr_Parse : ByteArray → Option (T_api_Expr × Bool)) (c_expr_Names : T_api_Expr → Option (List ByteArray)) (c_r3_Names : T_api_Expr → Option (List ByteArray)) (c_r3_Text : T_api_Expr → Option ByteArray) (c_r3_Same : T_api_Expr → T_api_Expr → Option Bool) (l_w3_ExprBack_L1 : w3_ExprBack_L1_A → Option (Bool ⊕ w3_ExprBack_L1_O1)) (a0 : (List T_w3_Raw)) : (w3_ExprBack_t Tryd.prog call c_w3_known c_w3_Few c_w3_One c_expr_Text c_expr_Parse c_expr_Names c_r3_Names c_r3_Text c_r3_Same l_w3_ExprBack_L1 a0).norm (bodyT Tryd.prog call G 13 [.sl (R_w3_Raw a0)] []) = w3_ExprBack_t Tryd.prog call c_w3_known c_w3_Few c_w3_One c_expr_Text c_expr_Parse c_expr_Names c_r3_Names c_r3_Text c_r3_Same l_w3_ExprBack_L1 a0 := by kernel_rfl
theorem w3_ExprBack_k (P : Program) (call : CallF) (lp : Loops) (c_w3_known : Option Bool) (c_w3_Few : (List T_w3_Raw) → Option Bool) (c_w3_One : (List T_w3_Raw) → Option T_api_Expr) (c_expr_Text : T_api_Expr → Option ByteArray) (c_expr_Parse : ByteArray → Option (T_api_Expr × Bool)) (c_expr_Names : T_api_Expr → Option (List ByteArray)) (c_r3_Names : T_api_Expr → Option (List ByteArray)) (c_r3_Text : T_api_Expr → Option ByteArray) (c_r3_Same : T_api_Expr → T_api_Expr → Option Bool) (l_w3_ExprBack_L1 : w3_ExprBack_L1_A → Option (Bool ⊕ w3_ExprBack_L1_O1)) (hc_w3_known : ∀  (r : Bool), c_w3_known = some r → (call 14 [] []) = some (w3_known_e r)) (hc_w3_Few : ∀ (a0 : (List T_w3_Raw)) (r : Bool), c_w3_Few a0 = some r → (call 15 [.sl (R_w3_Raw a0)] []) = some (w3_Few_e r)) (hc_w3_One : ∀ (a0 : (List T_w3_Raw)) (r : T_api_Expr), c_w3_One a0 = some r → (call 17 [.sl (R_w3_Raw a0)] []) = some (w3_One_e r)) (hc_expr_Text : ∀ (a0 : T_api_Expr) (r : ByteArray), c_expr_Text a0 = some r → (call 27 [.agg (C_api_Expr a0)] []) = some (expr_Text_e r)) (hc_expr_Parse : ∀ (a0 : ByteArray) (r : (T_api_Expr × Bool)), c_expr_Parse a0 = some r → (call 19 [.sc (.string a0)] []) = some (expr_Parse_e r)) (hc_expr_Names : ∀ (a0 : T_api_Expr) (r : (List ByteArray)), c_expr_Names a0 = some r → (call 28 [.agg (C_api_Expr a0)] []) = some (expr_Names_e r)) (hc_r3_Names : ∀ (a0 : T_api_Expr) (r : (List ByteArray)), c_r3_Names a0 = some r → (call 29 [.agg (C_api_Expr a0)] []) = some (r3_Names_e r)) (hc_r3_Text : ∀ (a0 : T_api_Expr) (r : ByteArray), c_r3_Text a0 = some r → (call 16 [.agg (C_api_Expr a0)] []) = some (r3_Text_e r)) (hc_r3_Same : ∀ (a0 : T_api_Expr) (a1 : T_api_Expr) (r : Bool), c_r3_Same a0 a1 = some r → (call 21 [.agg (C_api_Expr a0), .agg (C_api_Expr a1)] []) = some (r3_Same_e r)) (hl_w3_ExprBack_L1 : ∀ (a : w3_ExprBack_L1_A) (r : (Bool ⊕ w3_ExprBack_L1_O1)), l_w3_ExprBack_L1 a = some r → lp (loopAt P 13 12) (w3_ExprBack_L1_s a) = some (w3_ExprBack_L1_e r)) (a0 : (List T_w3_Raw)) : (w3_ExprBack_t P call c_w3_known c_w3_Few c_w3_One c_expr_Text c_expr_Parse c_expr_Names c_r3_Names c_r3_Text c_r3_Same l_w3_ExprBack_L1 a0).ok lp w3_ExprBack_e := fun r1 hr1 => ⟨hc_w3_known _ hr1, ⟨rfl, fun h0 => rfl, fun h0 => fun r2 hr2 => ⟨hc_w3_Few _ _ hr2, ⟨rfl, fun h1 => rfl, fun h1 => fun r3 hr3 => ⟨hc_w3_One _ _ hr3, fun r4 hr4 => ⟨hc_expr_Text _ _ hr4, fun r5 hr5 => ⟨hc_expr_Parse _ _ hr5, fun r6 hr6 => ⟨hc_expr_Names _ _ hr6, fun r7 hr7 => ⟨hc_r3_Names _ _ hr7, ⟨(R_string_len _), ⟨(R_string_len _), ⟨rfl, fun h2 => rfl, fun h2 => ⟨fun o8 ho8 => ⟨hl_w3_ExprBack_L1 _ (.inl _) ho8, rfl⟩, fun o9 ho9 => ⟨hl_w3_ExprBack_L1 _ (.inr _) ho9, fun r10 hr10 => ⟨hc_r3_Text _ _ hr10, ⟨rfl, fun h3 => ⟨h3, ⟨rfl, fun h4 => yesN_ok 2 (h4) (fun r11 hr11 => ⟨hc_r3_Same _ _ _ hr11, ⟨h4, rfl⟩⟩), fun h4 => noN_ok 3 (h4) (rfl)⟩⟩, fun h3 => ⟨h3, noN_ok 4 (rfl) (rfl)⟩⟩⟩⟩⟩⟩⟩⟩⟩⟩⟩⟩⟩⟩⟩⟩⟩
theorem w3_ExprBack_m {c_w3_known d_w3_known : Option Bool} (h_w3_known : Le (c_w3_known ) (d_w3_known )) {c_w3_Few d_w3_Few : (List T_w3_Raw) → Option Bool} (h_w3_Few : ∀ (a0 : (List T_w3_Raw)), Le (c_w3_Few a0) (d_w3_Few a0)) {c_w3_One d_w3_One : (List T_w3_Raw) → Option T_api_Expr} (h_w3_One : ∀ (a0 : (List T_w3_Raw)), Le (c_w3_One a0) (d_w3_One a0)) {c_expr_Text d_expr_Text : T_api_Expr → Option ByteArray} (h_expr_Text : ∀ (a0 : T_api_Expr), Le (c_expr_Text a0) (d_expr_Text a0)) {c_expr_Parse d_expr_Parse : ByteArray → Option (T_api_Expr × Bool)} (h_expr_Parse : ∀ (a0 : ByteArray), Le (c_expr_Parse a0) (d_expr_Parse a0)) {c_expr_Names d_expr_Names : T_api_Expr → Option (List ByteArray)} (h_expr_Names : ∀ (a0 : T_api_Expr), Le (c_expr_Names a0) (d_expr_Names a0)) {c_r3_Names d_r3_Names : T_api_Expr → Option (List ByteArray)} (h_r3_Names : ∀ (a0 : T_api_Expr), Le (c_r3_Names a0) (d_r3_Names a0)) {c_r3_Text d_r3_Text : T_api_Expr → Option ByteArray} (h_r3_Text : ∀ (a0 : T_api_Expr), Le (c_r3_Text a0) (d_r3_Text a0)) {c_r3_Same d_r3_Same : T_api_Expr → T_api_Expr → Option Bool} (h_r3_Same : ∀ (a0 : T_api_Expr) (a1 : T_api_Expr), Le (c_r3_Same a0 a1) (d_r3_Same a0 a1)) {l_w3_ExprBack_L1 m_w3_ExprBack_L1 : w3_ExprBack_L1_A → Option (Bool ⊕ w3_ExprBack_L1_O1)} (hl_w3_ExprBack_L1 : ∀ a, Le (l_w3_ExprBack_L1 a) (m_w3_ExprBack_L1 a)) (a0 : (List T_w3_Raw)) : Le (w3_ExprBack_b c_w3_known c_w3_Few c_w3_One c_expr_Text c_expr_Parse c_expr_Names c_r3_Names c_r3_Text c_r3_Same l_w3_ExprBack_L1 a0) (w3_ExprBack_b d_w3_known d_w3_Few d_w3_One d_expr_Text d_expr_Parse d_expr_Names d_r3_Names d_r3_Text d_r3_Same m_w3_ExprBack_L1 a0) := by
  unfold w3_ExprBack_b
  exact .bind (h_w3_known) fun r1 => .cond (.refl _) (.bind (h_w3_Few _) fun r2 => .cond (.refl _) (.bind (h_w3_One _) fun r3 => .bind (h_expr_Text _) fun r4 => .bind (h_expr_Parse _) fun r5 => .bind (h_expr_Names _) fun r6 => .bind (h_r3_Names _) fun r7 => .cond (.refl _) (.bind (hl_w3_ExprBack_L1 _) fun x => .sum (fun o8 => .refl _) (fun o9 => .bind (h_r3_Text _) fun r10 => .cond (.cond (.bind (h_r3_Same _ _) fun r11 => .refl _) (.refl _)) (.refl _)) x)))
theorem w3_ExprBack_c {c_w3_known : Nat → Option Bool} {d_w3_known : Option Bool} (h_w3_known : Cv (fun k => c_w3_known k ) (d_w3_known )) {c_w3_Few : Nat → (List T_w3_Raw) → Option Bool} {d_w3_Few : (List T_w3_Raw) → Option Bool} (h_w3_Few : ∀ (a0 : (List T_w3_Raw)), Cv (fun k => c_w3_Few k a0) (d_w3_Few a0)) {c_w3_One : Nat → (List T_w3_Raw) → Option T_api_Expr} {d_w3_One : (List T_w3_Raw) → Option T_api_Expr} (h_w3_One : ∀ (a0 : (List T_w3_Raw)), Cv (fun k => c_w3_One k a0) (d_w3_One a0)) {c_expr_Text : Nat → T_api_Expr → Option ByteArray} {d_expr_Text : T_api_Expr → Option ByteArray} (h_expr_Text : ∀ (a0 : T_api_Expr), Cv (fun k => c_expr_Text k a0) (d_expr_Text a0)) {c_expr_Parse : Nat → ByteArray → Option (T_api_Expr × Bool)} {d_expr_Parse : ByteArray → Option (T_api_Expr × Bool)} (h_expr_Parse : ∀ (a0 : ByteArray), Cv (fun k => c_expr_Parse k a0) (d_expr_Parse a0)) {c_expr_Names : Nat → T_api_Expr → Option (List ByteArray)} {d_expr_Names : T_api_Expr → Option (List ByteArray)} (h_expr_Names : ∀ (a0 : T_api_Expr), Cv (fun k => c_expr_Names k a0) (d_expr_Names a0)) {c_r3_Names : Nat → T_api_Expr → Option (List ByteArray)} {d_r3_Names : T_api_Expr → Option (List ByteArray)} (h_r3_Names : ∀ (a0 : T_api_Expr), Cv (fun k => c_r3_Names k a0) (d_r3_Names a0)) {c_r3_Text : Nat → T_api_Expr → Option ByteArray} {d_r3_Text : T_api_Expr → Option ByteArray} (h_r3_Text : ∀ (a0 : T_api_Expr), Cv (fun k => c_r3_Text k a0) (d_r3_Text a0)) {c_r3_Same : Nat → T_api_Expr → T_api_Expr → Option Bool} {d_r3_Same : T_api_Expr → T_api_Expr → Option Bool} (h_r3_Same : ∀ (a0 : T_api_Expr) (a1 : T_api_Expr), Cv (fun k => c_r3_Same k a0 a1) (d_r3_Same a0 a1)) {l_w3_ExprBack_L1 : Nat → w3_ExprBack_L1_A → Option (Bool ⊕ w3_ExprBack_L1_O1)} {m_w3_ExprBack_L1 : w3_ExprBack_L1_A → Option (Bool ⊕ w3_ExprBack_L1_O1)} (hl_w3_ExprBack_L1 : ∀ a, Cv (fun k => l_w3_ExprBack_L1 k a) (m_w3_ExprBack_L1 a)) (a0 : (List T_w3_Raw)) : Cv (fun k => w3_ExprBack_b (c_w3_known k) (c_w3_Few k) (c_w3_One k) (c_expr_Text k) (c_expr_Parse k) (c_expr_Names k) (c_r3_Names k) (c_r3_Text k) (c_r3_Same k) (l_w3_ExprBack_L1 k) a0) (w3_ExprBack_b d_w3_known d_w3_Few d_w3_One d_expr_Text d_expr_Parse d_expr_Names d_r3_Names d_r3_Text d_r3_Same m_w3_ExprBack_L1 a0) := by
  unfold w3_ExprBack_b
  exact .bind (h_w3_known) fun r1 => .cond (by exact .const _) (.bind (h_w3_Few _) fun r2 => .cond (by exact .const _) (.bind (h_w3_One _) fun r3 => .bind (h_expr_Text _) fun r4 => .bind (h_expr_Parse _) fun r5 => .bind (h_expr_Names _) fun r6 => .bind (h_r3_Names _) fun r7 => .cond (by exact .const _) (.bind (hl_w3_ExprBack_L1 _) fun x => .sum (fun o8 => by exact .const _) (fun o9 => .bind (h_r3_Text _) fun r10 => .cond (.cond (.bind (h_r3_Same _ _) fun r11 => by exact .const _) (by exact .const _)) (by exact .const _)) x)))
def w3_ExprBack.s : Nat → (List T_w3_Raw) → Option Bool
  | 0, _ => none
  | k + 1, a0 => w3_ExprBack_b (w3_known.s k) (fun a0 => w3_Few.s k a0) (fun a0 => w3_One.s k a0) (fun a0 => expr_Text.s k a0) (fun a0 => expr_Parse.s k a0) (fun a0 => expr_Names.s k a0) (fun a0 => r3_Names.s k a0) (fun a0 => r3_Text.s k a0) (fun a0 a1 => r3_Same.s k a0 a1) (w3_ExprBack_L1.s k) a0
theorem w3_ExprBack.ok : ∀ (k : Nat), ∀ (a0 : (List T_w3_Raw)) (r : Bool), w3_ExprBack.s k a0 = some r → evalFn Tryd.prog G k 13 [.sl (R_w3_Raw a0)] [] = some (w3_ExprBack_e r)
  | 0, _, _, h => (nomatch h)
  | k + 1, a0, r, h => fn_ok rfl (w3_ExprBack_t Tryd.prog (evalFn Tryd.prog G k) (w3_known.s k) (fun a0 => w3_Few.s k a0) (fun a0 => w3_One.s k a0) (fun a0 => expr_Text.s k a0) (fun a0 => expr_Parse.s k a0) (fun a0 => expr_Names.s k a0) (fun a0 => r3_Names.s k a0) (fun a0 => r3_Text.s k a0) (fun a0 a1 => r3_Same.s k a0 a1) (w3_ExprBack_L1.s k) a0) (w3_ExprBack_n _ (w3_known.s k) (fun a0 => w3_Few.s k a0) (fun a0 => w3_One.s k a0) (fun a0 => expr_Text.s k a0) (fun a0 => expr_Parse.s k a0) (fun a0 => expr_Names.s k a0) (fun a0 => r3_Names.s k a0) (fun a0 => r3_Text.s k a0) (fun a0 a1 => r3_Same.s k a0 a1) (w3_ExprBack_L1.s k) a0) (w3_ExprBack_k _ _ _ (w3_known.s k) (fun a0 => w3_Few.s k a0) (fun a0 => w3_One.s k a0) (fun a0 => expr_Text.s k a0) (fun a0 => expr_Parse.s k a0) (fun a0 => expr_Names.s k a0) (fun a0 => r3_Names.s k a0) (fun a0 => r3_Text.s k a0) (fun a0 a1 => r3_Same.s k a0 a1) (w3_ExprBack_L1.s k) (w3_known.ok k) (w3_Few.ok k) (w3_One.ok k) (expr_Text.ok k) (expr_Parse.ok k) (expr_Names.ok k) (r3_Names.ok k) (r3_Text.ok k) (r3_Same.ok k) (w3_ExprBack_L1_ok _ k) a0) ((w3_ExprBack_d _ _ (w3_known.s k) (fun a0 => w3_Few.s k a0) (fun a0 => w3_One.s k a0) (fun a0 => expr_Text.s k a0) (fun a0 => expr_Parse.s k a0) (fun a0 => expr_Names.s k a0) (fun a0 => r3_Names.s k a0) (fun a0 => r3_Text.s k a0) (fun a0 a1 => r3_Same.s k a0 a1) (w3_ExprBack_L1.s k) a0).trans h)
theorem w3_ExprBack.mono : ∀ (k : Nat) (a0 : (List T_w3_Raw)), Le (w3_ExprBack.s k a0) (w3_ExprBack.s (k + 1) a0)
  | 0, _ => fun r h => (nomatch h)
  | k + 1, a0 => w3_ExprBack_m (w3_known.mono k) (w3_Few.mono k) (w3_One.mono k) (expr_Text.mono k) (expr_Parse.mono k) (expr_Names.mono k) (r3_Names.mono k) (r3_Text.mono k) (r3_Same.mono k) (w3_ExprBack_L1.m (Nat.le_succ k)) a0
noncomputable def w3_ExprBack (a0 : (List T_w3_Raw)) : Option Bool := lim fun k => w3_ExprBack.s k a0
theorem w3_ExprBack.cv (a0 : (List T_w3_Raw)) : Cv (fun k => w3_ExprBack.s k a0) (w3_ExprBack a0) := .lim fun k => w3_ExprBack.mono k a0
noncomputable def w3_ExprBack_L1 : w3_ExprBack_L1_A → Option (Bool ⊕ w3_ExprBack_L1_O1) := w3_ExprBack_L1.w 
theorem w3_ExprBack_L1.eq (a : w3_ExprBack_L1_A) : w3_ExprBack_L1 a = (w3_ExprBack_L1_b  a).bind (Sum.elim w3_ExprBack_L1 some) := loopW_eq _ _
theorem w3_ExprBack.eq (a0 : (List T_w3_Raw)) : w3_ExprBack a0 = w3_ExprBack_b w3_known w3_Few w3_One expr_Text expr_Parse expr_Names r3_Names r3_Text r3_Same w3_ExprBack_L1 a0 := Cv.uniq (w3_ExprBack.cv a0).shift (w3_ExprBack_c w3_known.cv w3_Few.cv w3_One.cv expr_Text.cv expr_Parse.cv expr_Names.cv r3_Names.cv r3_Text.cv r3_Same.cv (w3_ExprBack_L1.cv) a0)
theorem w3_ExprBack.run (a0 : (List T_w3_Raw)) {r : Bool} (h : w3_ExprBack a0 = some r) : ∃ k, evalFn Tryd.prog G k 13 [.sl (R_w3_Raw a0)] [] = some (w3_ExprBack_e r) :=
  let ⟨k, hk⟩ := ((w3_ExprBack.cv a0).2 r).1 h
  ⟨k, w3_ExprBack.ok k a0 r hk⟩

end Go.Ab
namespace Go.Proofs.YtklkkgmflfioeaaDoor
open Go Go.Ab Go.RowKit
theorem gPow : Tryd.prog.globalNamed "internal/strconv.uint64pow10" = some 0 := by kernel_rfl
theorem tPow : (Tryd.prog.globals[0]?).map (·.type) = some 119 := by kernel_rfl
theorem cells_u64 : Tryd.prog.cellsOf 112 = 1 := by kernel_rfl
theorem cells_pow : Tryd.prog.cellsOf 119 = 20 := by kernel_rfl
theorem datum {H : Type} : (Rows.laid_internal_strconv_uint64pow10 : DataW H) = Lib.tabData .u64 Lib.pow10Tab := by kernel_rfl
def told : Ab.Told := told1 Tryd.prog "internal/strconv.uint64pow10" 0 (Lib.pow10Tab.map fun z => Value.int .u64 z).toArray
theorem told_of {W : World} (h : laidMetH Tryd.prog [("math/bits.deBruijn32tab", Rows.laid_math_bits_deBruijn32tab), ("math/bits.deBruijn64tab", Rows.laid_math_bits_deBruijn64tab), ("internal/strconv.uint64pow10", Rows.laid_internal_strconv_uint64pow10), ("unicode/utf8.acceptRanges", Rows.laid_unicode_utf8_acceptRanges), ("unicode/utf8.first", Rows.laid_unicode_utf8_first)] W) : told.T (oldCtx W).Z W := by
  rw [MakeChecks.laidMetH_plain _ _ _ (by kernel_rfl)] at h
  obtain ⟨ps, ⟨g0, t0, cs0, f0, p0, q0, hg0, ht0, hv0, hd0, ⟨g1, t1, cs1, f1, p1, q1, hg1, ht1, hv1, hd1, ⟨g2, t2, cs2, f2, p2, q2, hg2, ht2, hv2, hd2, _⟩, _⟩, _⟩, _, _⟩ := h
  obtain rfl := Option.some.inj (gPow.symm.trans hg2)
  obtain rfl := Option.some.inj (tPow.symm.trans ht2)
  rw [datum] at hd2
  refine tabT_old gPow (hv2.trans ?_) (by decide)
  have := Lib.cells_of_tab Tryd.underlying119 Tryd.underlying112 cells_u64 cells_pow hd2
  rw [← this]
theorem ok_itoa : FnOK1 told Tryd.prog 46 itoaX := by
  refine fnOK1_itoa fun n Z w h0 h1 hT => ?_
  refine (Tryd.strconv_Itoa n h0 h1 w hT.2.2.1).mono ?_
  rintro e w' ⟨rfl, k, os, rfl⟩
  exact ⟨rfl, Lib.below_grow _ _ (Nat.le_refl _) _ _⟩
theorem ok_clone : FnOK1 told Tryd.prog 48 cloneX := by
  refine fnOK1_clone (e_ := 9) (fun n cap w => (Tryd.slices_Clone_string_nil n cap w).mono fun e w' h => h) (fun p cap w => (Tryd.slices_Clone_string_zero p cap w).mono ?_) (fun b off n cap zs w hz hbig hc => (Tryd.slices_Clone_string b off n cap zs w hz hbig hc).mono fun e w' h => h)
  rintro e w' ⟨v, rfl, h1, h2, h3⟩
  exact ⟨v, rfl, h1, h3⟩
theorem ext_ok (f : FuncId) (x : List AV → Heap → Option (AV × Heap)) (h : G.ext f = some x) : FnOK1 told Tryd.prog f x := by
  have h' : Go.Ab.get f extT = some x := h
  simp only [extT, Go.Ab.get] at h'
  repeat' split at h'
  all_goals first
    | cases h'; done
    | (rename_i e; subst e; cases h'; first | exact ok_itoa | exact ok_clone)
end Go.Proofs.YtklkkgmflfioeaaDoor
namespace Go.Ab
theorem w3_within_eq (a n : Int) (hn : 0 < n) (hn2 : n ≤ 4611686018427387904) : w3_within a n = some (a % n) := by
  rw [w3_within.eq]; exact withinV_eq a n hn hn2
theorem within_mod (a n : Int) (hn : 0 < n) (hn2 : n ≤ 4611686018427387904) : w3_within a n = w3_within (a % n) n := by
  rw [w3_within_eq a _ hn hn2, w3_within_eq (a % n) _ hn hn2, Int.emod_emod_of_dvd a (Int.dvd_refl n)]
theorem w3_known_true : w3_known = some true := cv_some w3_known.cv 60 (by kernel_rfl)
end Go.Ab
namespace Go.Ab
abbrev S0 : ByteArray := s_
inductive X3 where
  | num (n : Int)
  | nm (s : ByteArray)
  | here
  | neg (x : X3)
  | bin (k : Nat) (x y : X3)
namespace X3
def t : X3 → T_api_Expr
  | num n => ⟨1, n, S0, []⟩
  | nm s => ⟨2, 0, s, []⟩
  | here => ⟨3, 0, S0, []⟩
  | neg x => ⟨4, 0, S0, [x.t]⟩
  | bin k x y => ⟨k, 0, S0, [x.t, y.t]⟩
def d : X3 → Nat
  | neg x => x.d + 1
  | bin _ x y => max x.d y.d + 1
  | _ => 0
/-- what may be made -/
def ok (p : ByteArray → Prop) : X3 → Prop
  | num n => 0 ≤ n ∧ n < 4294967296
  | nm s => p s
  | here => True
  | neg x => x.ok p
  | bin k x y => 5 ≤ k ∧ k ≤ 11 ∧ x.ok p ∧ y.ok p
def hereB : X3 → Bool
  | here => true
  | neg x => x.hereB
  | bin _ x y => x.hereB || y.hereB
  | _ => false
end X3
def bnd (n : Int) : Int × Int := if n < -1099511627776 ∨ n > 1099511627776 then (0, 6) else (n, 0)
def tms (a b : Int) : Int × Int := if a = 0 ∨ b = 0 then (0, 0) else if (a.natAbs * b.natAbs : Nat) > 1099511627776 then (0, 6) else (a * b, 0)
def rck (k : Nat) (a b : Int) : Int × Int := match k with
  | 5 => bnd (a + b)
  | 6 => bnd (a - b)
  | 7 => tms a b
  | 8 => bnd (andI .i64 a b)
  | 9 => bnd (orI .i64 a b)
  | 10 => if b < 0 ∨ b > 40 then (0, 6) else tms a (2 ^ b.toNat)
  | _ => if b < 0 ∨ b > 40 then (0, 6) else (a.fdiv (2 ^ b.toNat), 0)
def lk (l : List T_api_Sym) (s : ByteArray) : Option Int := match l with
  | [] => none
  | x :: l => if x.Name = s then some x.Value else lk l s
def ev : X3 → Int → List T_api_Sym → Int × Int
  | .num n, _, _ => (n, 0)
  | .nm s, _, l => match lk l s with
    | some v => (v, 0)
    | none => (0, 4)
  | .here, h, _ => (h, 0)
  | .neg x, h, l => let r := ev x h l; if r.2 ≠ 0 then (0, r.2) else (-r.1, 0)
  | .bin k x y, h, l => let r := ev x h l; if r.2 ≠ 0 then (0, r.2) else let s := ev y h l; if s.2 ≠ 0 then (0, s.2) else rck k r.1 s.1
abbrev B40 (n : Int) : Prop := -1099511627776 ≤ n ∧ n ≤ 1099511627776
theorem bnd_B (n : Int) : B40 (bnd n).1 := by unfold bnd; split <;> simp [B40] <;> omega
theorem tms_B (a b : Int) : B40 (tms a b).1 := by
  unfold tms; split
  · simp [B40]
  · split
    · simp [B40]
    · rename_i h
      have : (a * b).natAbs ≤ 1099511627776 := by rw [Int.natAbs_mul]; omega
      simp only [B40]; omega
theorem fdiv_B {a : Int} (h : B40 a) (n : Nat) : B40 (a.fdiv (2 ^ n)) := by
  have hp : (0 : Int) < 2 ^ n := Int.pow_pos (by decide)
  have h1 : (1 : Int) ≤ 2 ^ n := by omega
  rw [Int.fdiv_eq_ediv_of_nonneg _ (by omega)]
  simp only [B40] at h ⊢
  constructor
  · exact Int.le_ediv_of_mul_le hp (by
      have : (1099511627776 : Int) * 1 ≤ 1099511627776 * 2 ^ n := Int.mul_le_mul_of_nonneg_left h1 (by decide)
      rw [Int.neg_mul]; omega)
  · have := Int.ediv_le_self (a := a) (b := 2 ^ n)
    by_cases ha : 0 ≤ a
    · have := this ha; omega
    · have : a / 2 ^ n < 0 := Int.ediv_neg_of_neg_of_pos (by omega) hp
      omega
theorem rck_B (k : Nat) {a b : Int} (h : B40 a) : B40 (rck k a b).1 := by
  unfold rck; split
  · exact bnd_B _
  · exact bnd_B _
  · exact tms_B _ _
  · exact bnd_B _
  · exact bnd_B _
  · split
    · simp [B40]
    · exact tms_B _ _
  · split
    · simp [B40]
    · exact fdiv_B h _
theorem lk_mem {l : List T_api_Sym} {s : ByteArray} {v : Int} (h : lk l s = some v) : ∃ x ∈ l, x.Value = v := by
  induction l with
  | nil => cases h
  | cons x l ih =>
    simp only [lk] at h
    split at h
    · cases h; exact ⟨x, by simp, rfl⟩
    · obtain ⟨y, hy, e⟩ := ih h; exact ⟨y, by simp [hy], e⟩
theorem ev_B {p : ByteArray → Prop} {h : Int} {l : List T_api_Sym} (hh : B40 h) (hl : ∀ s ∈ l, B40 s.Value) : ∀ (x : X3), x.ok p → B40 (ev x h l).1
  | .num n, hx => by simp only [X3.ok] at hx; simp only [ev, B40]; omega
  | .nm s, hx => by
    simp only [ev]
    split
    · rename_i v hv
      obtain ⟨x, hx, rfl⟩ := lk_mem hv
      exact hl x hx
    · simp [B40]
  | .here, hx => hh
  | .neg x, hx => by
    have ih := ev_B hh hl x hx
    simp only [ev]; split
    · simp [B40]
    · simp only [B40] at ih ⊢; omega
  | .bin k x y, hx => by
    have ih := ev_B hh hl x hx.2.2.1
    simp only [ev]; split
    · simp [B40]
    · split
      · simp [B40]
      · exact rck_B k ih
/-! ### The program's functions -/
theorem expr_bound_eq (n : Int) : expr_bound n = some (bnd n) := by
  rw [expr_bound.eq]; unfold expr_bound_b bnd
  by_cases h1 : n < -1099511627776
  · simp [h1]
  · by_cases h2 : n > 1099511627776
    · simp [h1, h2]
    · simp [h1, h2]
theorem r3_bound_eq (n : Int) : r3_bound n = some (bnd n) := by
  rw [r3_bound.eq]; unfold r3_bound_b bnd
  by_cases h1 : n < -1099511627776
  · simp [h1]
  · by_cases h2 : n > 1099511627776
    · simp [h1, h2]
    · simp [h1, h2]
theorem mx_abs {a : Int} (h : B40 a) : (if w64 (0 - a) > a then w64 (0 - a) else a) = (a.natAbs : Int) := by
  simp only [B40] at h
  rw [w64_in (by omega) (by omega)]; split <;> omega
theorem tms_test {a b : Int} (ha : B40 a) (hb : B40 b) (hb0 : b ≠ 0) : ((a.natAbs : Int) > w64 (Int.tdiv 1099511627776 (b.natAbs : Int))) ↔ (a.natAbs * b.natAbs : Nat) > 1099511627776 := by
  have hb1 : 0 < b.natAbs := by omega
  have e : Int.tdiv 1099511627776 (b.natAbs : Int) = ((1099511627776 / b.natAbs : Nat) : Int) := by
    rw [show (1099511627776 : Int) = ((1099511627776 : Nat) : Int) from rfl, ← Int.ofNat_tdiv]
  have h2 : 1099511627776 / b.natAbs ≤ 1099511627776 := Nat.div_le_self _ _
  have h3 := Nat.div_lt_iff_lt_mul (x := 1099511627776) (y := a.natAbs) hb1
  rw [e]
  generalize 1099511627776 / b.natAbs = q at h2 h3
  rw [w64_in (by omega) (by omega)]
  omega
theorem r3_times_eq {a b : Int} (ha : B40 a) (hb : B40 b) : r3_times a b = some (tms a b) := by
  rw [r3_times.eq]; unfold r3_times_b tms
  by_cases h1 : a = 0
  · simp [h1]
  by_cases h2 : b = 0
  · simp [h1, h2]
  have hm := mx_abs ha
  have hn := mx_abs hb
  have ht := tms_test ha hb h2
  rw [hm, hn]
  simp only [h1, h2, or_self, if_false, beq_iff_eq, Bool.cond_eq_ite, decide_eq_true_eq]
  rw [if_pos (by omega)]
  by_cases h3 : (a.natAbs * b.natAbs : Nat) > 1099511627776
  · rw [if_pos (ht.2 h3), if_pos h3]
  · rw [if_neg (fun h => h3 (ht.1 h)), if_neg h3]
    have : (a * b).natAbs ≤ 1099511627776 := by rw [Int.natAbs_mul]; omega
    rw [w64_in (by omega) (by omega)]
theorem expr_times_eq {a b : Int} (ha : B40 a) (hb : B40 b) : expr_times a b = some (tms a b) := by
  rw [expr_times.eq]; unfold expr_times_b tms
  by_cases h1 : a = 0
  · simp [h1]
  by_cases h2 : b = 0
  · simp [h1, h2]
  have hm := mx_abs ha
  have hn := mx_abs hb
  have ht := tms_test ha hb h2
  rw [hm, hn]
  simp only [h1, h2, or_self, if_false, beq_iff_eq, Bool.cond_eq_ite, decide_eq_true_eq]
  rw [if_pos (by omega)]
  by_cases h3 : (a.natAbs * b.natAbs : Nat) > 1099511627776
  · rw [if_pos (ht.2 h3), if_pos h3]
  · rw [if_neg (fun h => h3 (ht.1 h)), if_neg h3, expr_bound_eq]
    have : (a * b).natAbs ≤ 1099511627776 := by rw [Int.natAbs_mul]; omega
    rw [w64_in (by omega) (by omega)]
    simp only [Option.bind_some, bnd]
    rw [if_neg (by omega)]
theorem pow_le40 {b : Int} (h0 : 0 ≤ b) (h1 : b ≤ 40) : (1 : Int) ≤ 2 ^ b.toNat ∧ (2 : Int) ^ b.toNat ≤ 1099511627776 := by
  have : ∀ n : Nat, n ≤ 40 → (1 : Int) ≤ 2 ^ n ∧ (2 : Int) ^ n ≤ 1099511627776 := by decide
  exact this _ (by omega)
theorem shl_one {b : Int} (h0 : 0 ≤ b) (h1 : b ≤ 40) : shlI .i64 1 b = 2 ^ b.toNat := by
  have hp := pow_le40 h0 h1
  unfold shlI
  rw [show min b.toNat IntKind.i64.bits = b.toNat from by simp only [IntKind.bits]; omega, Int.one_mul]
  exact w64_in (by omega) (by omega)
theorem shr_eq {a b : Int} (h0 : 0 ≤ b) (h1 : b ≤ 40) : shrI .i64 a b = a.fdiv (2 ^ b.toNat) := by
  unfold shrI
  rw [show min b.toNat IntKind.i64.bits = b.toNat from by simp only [IntKind.bits]; omega]
theorem bnd_in {n : Int} (h : B40 n) : bnd n = (n, 0) := by
  unfold bnd; rw [if_neg (by simp only [B40] at h; omega)]
theorem expr_both_eq {k : Nat} (hk : 5 ≤ k ∧ k ≤ 11) {a b : Int} (ha : B40 a) (hb : B40 b) : expr_both k a b = some (rck k a b) := by
  rw [expr_both.eq]; unfold expr_both_b
  simp only [B40] at ha hb
  have hc : k = 5 ∨ k = 6 ∨ k = 7 ∨ k = 8 ∨ k = 9 ∨ k = 10 ∨ k = 11 := by omega
  rcases hc with rfl | rfl | rfl | rfl | rfl | rfl | rfl
  · simp [expr_bound_eq, rck, w64_in (n := a + b) (by omega) (by omega)]
  · simp [expr_bound_eq, rck, w64_in (n := a - b) (by omega) (by omega)]
  · simp [expr_times_eq ha hb, rck]
  · simp [expr_bound_eq, rck]
  · simp [expr_bound_eq, rck]
  · by_cases h0 : b < 0
    · simp [h0, rck]
    · by_cases h1 : b > 40
      · simp [h0, h1, rck]
      · have hp := pow_le40 (b := b) (by omega) (by omega)
        simp [h0, h1, rck, show (0 : Int) ≤ b by omega, shl_one (b := b) (by omega) (by omega), expr_times_eq ha (b := 2 ^ b.toNat) ⟨by omega, by omega⟩]
  · by_cases h0 : b < 0
    · simp [h0, rck]
    · by_cases h1 : b > 40
      · simp [h0, h1, rck]
      · have hp := fdiv_B ha b.toNat
        simp [h0, h1, rck, show (0 : Int) ≤ b by omega, shr_eq (a := a) (b := b) (by omega) (by omega), expr_bound_eq, bnd_in hp]
theorem u64_in {n : Int} (h1 : 0 ≤ n) (h2 : n ≤ 9223372036854775807) : IntKind.u64.wrap n = n := by
  simp only [IntKind.wrap, IntKind.bits, IntKind.signed, Bool.false_and, Bool.false_eq_true, if_false]
  exact Int.emod_eq_of_lt h1 (by simp; omega)
theorem r3_reckon_eq {k : Nat} (hk : 5 ≤ k ∧ k ≤ 11) {a b : Int} (ha : B40 a) (hb : B40 b) : r3_reckon k a b = some (rck k a b) := by
  rw [r3_reckon.eq]; unfold r3_reckon_b
  simp only [B40] at ha hb
  have hc : k = 5 ∨ k = 6 ∨ k = 7 ∨ k = 8 ∨ k = 9 ∨ k = 10 ∨ k = 11 := by omega
  rcases hc with rfl | rfl | rfl | rfl | rfl | rfl | rfl
  · simp [r3_bound_eq, rck, w64_in (n := a + b) (by omega) (by omega)]
  · simp [r3_bound_eq, rck, w64_in (n := a - b) (by omega) (by omega)]
  · simp [r3_times_eq ha hb, rck]
  · simp [r3_bound_eq, rck]
  · simp [r3_bound_eq, rck]
  · by_cases h0 : b < 0
    · simp [h0, rck]
    · by_cases h1 : b > 40
      · simp [h0, h1, rck]
      · have hp := pow_le40 (b := b) (by omega) (by omega)
        simp [h0, h1, rck, u64_in (n := b) (by omega) (by omega), show (0 : Int) ≤ b by omega, shl_one (b := b) (by omega) (by omega), r3_times_eq ha (b := 2 ^ b.toNat) ⟨by omega, by omega⟩]
  · by_cases h0 : b < 0
    · simp [h0, rck]
    · by_cases h1 : b > 40
      · simp [h0, h1, rck]
      · simp [h0, h1, rck, u64_in (n := b) (by omega) (by omega), show (0 : Int) ≤ b by omega, shr_eq (a := a) (b := b) (by omega) (by omega)]
/-- the symbols' search -/
theorem r3_look (l : List T_api_Sym) (hl : l.length ≤ 1000) (x : T_api_Expr) : r3_Eval_L1 ⟨l, 0, x⟩ = some (match lk l x.Name with | some v => .inl ⟨v, 0⟩ | none => .inr ()) := by
  obtain ⟨r, h1, h2⟩ := loop_ind r3_Eval_L1.eq (fun a => ∃ i : Nat, i ≤ l.length ∧ a = ⟨l, i, x⟩) (fun a r => r = match lk (l.drop a.x8.toNat) x.Name with | some v => .inl ⟨v, 0⟩ | none => .inr ())
    (fun a => l.length - a.x8.toNat) (by
      rintro a ⟨i, hi, rfl⟩
      simp only [r3_Eval_L1_b, Int.toNat_natCast]
      by_cases h : i < l.length
      · have hd : l.drop i = l[i] :: l.drop (i + 1) := List.drop_eq_getElem_cons h
        rw [List.getElem?_eq_getElem h]
        by_cases he : l[i].Name = x.Name
        · refine .inr ⟨_, ?_, rfl⟩
          have e1 : eqS x.Name x.Name = true := eqS_iff.2 rfl
          have e2 : (i : Int) < (l.length : Int) := by omega
          rw [hd]
          simp only [e1, e2, lk, he, decide_true, cond_true, Option.bind_some, if_true, Int.natCast_nonneg, decide_true]
        · refine .inl ⟨⟨l, (i + 1 : Nat), x⟩, ?_, ⟨i + 1, by omega, rfl⟩, ?_, fun r hr => ?_⟩
          · have : eqS l[i].Name x.Name = false := by rw [Bool.eq_false_iff]; exact fun h => he (eqS_iff.1 h)
            simp [h, this, w64_in (n := (i : Int) + 1) (by omega) (by omega)]
          · simp only [Int.toNat_natCast]; omega
          · rw [hr, hd]; simp only [Int.toNat_natCast, lk, if_neg he]
      · refine .inr ⟨_, ?_, rfl⟩
        simp [h, List.drop_eq_nil_of_le (by omega : l.length ≤ i), lk]) ⟨l, 0, x⟩ ⟨0, by omega, rfl⟩
  rw [h1, h2]; rfl
theorem eqS_ne {x y : ByteArray} (h : x ≠ y) : eqS x y = false := by rw [Bool.eq_false_iff]; exact fun e => h (eqS_iff.1 e)
theorem expr_look (l : List T_api_Sym) (hl : l.length ≤ 1000) (x : T_api_Expr) : ∃ r, slices_IndexFunc l x = some (r, x) ∧ (match lk l x.Name with | some v => ∃ i : Nat, ∃ s, r = i ∧ l[i]? = some s ∧ s.Value = v | none => r = -1) := by
  obtain ⟨r, h1, h2⟩ := loop_ind slices_IndexFunc_L1.eq (fun a => ∃ i : Nat, i ≤ l.length ∧ a = ⟨l, l.length, i, x⟩)
    (fun a r => match lk (l.drop a.x8.toNat) x.Name with | some v => ∃ i : Nat, ∃ s, r = .inl ⟨(i : Int), x⟩ ∧ l[i]? = some s ∧ s.Value = v | none => r = .inr x)
    (fun a => l.length - a.x8.toNat) (by
      rintro a ⟨i, hi, rfl⟩
      simp only [slices_IndexFunc_L1_b, Int.toNat_natCast, expr_Eval_1.eq, expr_Eval_1_b]
      by_cases h : i < l.length
      · have hd : l.drop i = l[i] :: l.drop (i + 1) := List.drop_eq_getElem_cons h
        have e2 : (i : Int) < (l.length : Int) := by omega
        rw [List.getElem?_eq_getElem h]
        by_cases he : l[i].Name = x.Name
        · have e1 : eqS l[i].Name x.Name = true := eqS_iff.2 he
          refine .inr ⟨.inl ⟨i, x⟩, ?_, ?_⟩
          · simp only [e1, e2, decide_true, cond_true, Option.bind_some, Int.natCast_nonneg]
          · rw [hd]; simp only [lk, if_pos he]; exact ⟨i, l[i], rfl, List.getElem?_eq_getElem h, rfl⟩
        · refine .inl ⟨⟨l, l.length, (i + 1 : Nat), x⟩, ?_, ⟨i + 1, by omega, rfl⟩, ?_, fun r hr => ?_⟩
          · simp [e2, eqS_ne he, w64_in (n := (i : Int) + 1) (by omega) (by omega)]
          · simp only [Int.toNat_natCast]; omega
          · rw [hd]; simp only [Int.toNat_natCast, lk, if_neg he] at hr ⊢; exact hr
      · refine .inr ⟨.inr x, ?_, ?_⟩
        · simp [h]
        · rw [List.drop_eq_nil_of_le (by omega : l.length ≤ i)]; rfl) ⟨l, l.length, 0, x⟩ ⟨0, by omega, rfl⟩
  simp only [Int.toNat_zero, List.drop_zero] at h2
  rw [slices_IndexFunc.eq]; unfold slices_IndexFunc_b
  rw [h1]
  split at h2
  · rename_i v hv
    obtain ⟨i, s, rfl, hi, hs⟩ := h2
    refine ⟨i, by simp, ?_⟩
    exact ⟨i, s, rfl, hi, hs⟩
  · rename_i hv
    subst h2
    exact ⟨-1, by simp, rfl⟩
/-- what an expression comes to, by the program and by the document -/
theorem expr_Eval_eq {p : ByteArray → Prop} {h : Int} {l : List T_api_Sym} (hll : l.length ≤ 1000) (hh : B40 h) (hl : ∀ s ∈ l, B40 s.Value) : ∀ (x : X3), x.ok p → expr_Eval x.t h l = some (ev x h l)
  | .num n, hx => by
    rw [expr_Eval.eq]; unfold expr_Eval_b
    simp only [X3.ok] at hx
    simp [X3.t, ev, expr_bound_eq, bnd_in (n := n) ⟨by omega, by omega⟩]
  | .here, hx => by
    rw [expr_Eval.eq]; unfold expr_Eval_b
    simp [X3.t, ev, expr_bound_eq, bnd_in hh]
  | .nm s, hx => by
    rw [expr_Eval.eq]; unfold expr_Eval_b
    obtain ⟨r, h1, h2⟩ := expr_look l hll (X3.nm s).t
    simp only [ev]
    simp only [X3.t] at h1 h2 ⊢
    simp only [h1]
    cases hk : lk l s with
    | none => rw [hk] at h2; simp only at h2; subst h2; simp
    | some v =>
      rw [hk] at h2; simp only at h2
      obtain ⟨i, s', rfl, hi, rfl⟩ := h2
      have hneg : decide ((i : Int) < 0) = false := by simp
      simp [hneg, hi, expr_bound_eq, bnd_in (hl s' (List.mem_of_getElem? hi))]
  | .neg x, hx => by
    have ih := expr_Eval_eq hll hh hl x hx
    have hB := ev_B hh hl x hx
    rw [expr_Eval.eq]; unfold expr_Eval_b
    simp only [X3.t, ev]
    simp [ih]
    by_cases he : (ev x h l).2 = 0
    · have : bnd (w64 (-(ev x h l).1)) = (-(ev x h l).1, 0) := by
        simp only [B40] at hB
        rw [w64_in (by omega) (by omega)]; exact bnd_in ⟨by omega, by omega⟩
      simp [he, expr_bound_eq, this]
    · simp [bne_iff_ne.2 he, he]
  | .bin k x y, hx => by
    obtain ⟨h1, h2, h3, h4⟩ := hx
    have ihx := expr_Eval_eq hll hh hl x h3
    have ihy := expr_Eval_eq hll hh hl y h4
    have hBx := ev_B hh hl x h3
    have hBy := ev_B hh hl y h4
    rw [expr_Eval.eq]; unfold expr_Eval_b
    simp only [X3.t, ev]
    have k1 : ((k : Int) == 1) = false := by simp; omega
    have k2 : ((k : Int) == 2) = false := by simp; omega
    have k3 : ((k : Int) == 3) = false := by simp; omega
    simp [k1, k2, k3, ihx, ihy]
    by_cases he : (ev x h l).2 = 0
    · by_cases hf : (ev y h l).2 = 0
      · simp [he, hf, expr_both_eq ⟨h1, h2⟩ hBx hBy]
      · simp [he, bne_iff_ne.2 hf, hf]
    · simp [bne_iff_ne.2 he, he]
theorem r3_Eval_eq {p : ByteArray → Prop} {h : Int} {l : List T_api_Sym} (hll : l.length ≤ 1000) (hh : B40 h) (hl : ∀ s ∈ l, B40 s.Value) : ∀ (x : X3), x.ok p → r3_Eval x.t h l = some (ev x h l)
  | .num n, hx => by
    rw [r3_Eval.eq]; unfold r3_Eval_b
    simp [X3.t, ev]
  | .here, hx => by
    rw [r3_Eval.eq]; unfold r3_Eval_b
    simp [X3.t, ev]
  | .nm s, hx => by
    rw [r3_Eval.eq]; unfold r3_Eval_b
    have h1 := r3_look l hll (X3.nm s).t
    simp only [ev]
    simp only [X3.t] at h1 ⊢
    simp only [h1]
    cases hk : lk l s <;> simp
  | .neg x, hx => by
    have ih := r3_Eval_eq hll hh hl x hx
    have hB := ev_B hh hl x hx
    rw [r3_Eval.eq]; unfold r3_Eval_b
    simp only [X3.t, ev]
    simp [ih]
    by_cases he : (ev x h l).2 = 0
    · simp only [B40] at hB
      simp [he, w64_in (n := -(ev x h l).1) (by omega) (by omega)]
    · simp [bne_iff_ne.2 he, he]
  | .bin k x y, hx => by
    obtain ⟨h1, h2, h3, h4⟩ := hx
    have ihx := r3_Eval_eq hll hh hl x h3
    have ihy := r3_Eval_eq hll hh hl y h4
    have hBx := ev_B hh hl x h3
    have hBy := ev_B hh hl y h4
    rw [r3_Eval.eq]; unfold r3_Eval_b
    simp only [X3.t, ev]
    have k1 : ((k : Int) == 1) = false := by simp; omega
    have k2 : ((k : Int) == 2) = false := by simp; omega
    have k3 : ((k : Int) == 3) = false := by simp; omega
    have k4 : ((k : Int) == 4) = false := by simp; omega
    simp [k1, k2, k3, k4, ihx, ihy]
    by_cases he : (ev x h l).2 = 0
    · by_cases hf : (ev y h l).2 = 0
      · simp [he, hf, r3_reckon_eq ⟨h1, h2⟩ hBx hBy]
      · simp [he, bne_iff_ne.2 hf, hf]
    · simp [bne_iff_ne.2 he, he]
end Go.Ab
