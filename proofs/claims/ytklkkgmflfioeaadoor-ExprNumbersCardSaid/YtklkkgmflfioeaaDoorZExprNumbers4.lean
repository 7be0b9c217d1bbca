/- ExprNumbers: part 4 of the proof that, whatever the input, the law returns true and the input reads as it did; its conditions are those of the given row. -/
import Derived.Test.YtklkkgmflfioeaaDoorZExprNumbers3
import Derived.Test.YtklkkgmflfioeaaDoorSh
import Derived.Test.YtklkkgmflfioeaaDoorRows
import Derived.Lib.AppendIntMem
import Derived.LaidMore
import Derived.MakeChecks
import Derived.Test.YtklkkgmflfioeaaDoorTie
import Derived.Test.YtklkkgmflfioeaaDoorCards
import Derived.ProofKit
import Derived.OpenShut
import Derived.Stop.Joined
import Derived.Lay
import Derived.SevenTiedAt
set_option linter.unusedVariables false
set_option linter.unusedSimpArgs false
namespace Go.Ab
open Go.Proofs
theorem w3_ExprBack_L1_d (P : Program) (call : CallF)  (a : w3_ExprBack_L1_A) : (w3_ExprBack_L1_t P call  a).den = w3_ExprBack_L1_b  a := rfl
theorem w3_ExprBack_L1_n (call : CallF)  (a : w3_ExprBack_L1_A) : (w3_ExprBack_L1_t Tryd.prog call  a).norm (roundT Tryd.prog G.kd call 0 (G.an 13) (loopAt Tryd.prog 13 12) (w3_ExprBack_L1_s a)) = w3_ExprBack_L1_t Tryd.prog call  a := by kernel_rfl
theorem w3_ExprBack_L1_k (P : Program) (call : CallF) (lp : Loops)   (a : w3_ExprBack_L1_A) : (w3_ExprBack_L1_t P call  a).ok lp (Sum.elim (fun a => (.norm, w3_ExprBack_L1_s a)) w3_ExprBack_L1_e) := ⟨(R_string_len _), ⟨rfl, fun h0 => ⟨rfl, fun h1 => fun e1 he1 => ⟨R_string_get he1, ⟨h1, fun e2 he2 => ⟨R_string_get he2, ⟨rfl, fun h2 => rfl, fun h2 => rfl⟩⟩⟩⟩, fun h1 => trivial⟩, fun h0 => rfl⟩⟩
def w3_ExprBack_L1.s (k : Nat)  : w3_ExprBack_L1_A → Option (Bool ⊕ w3_ExprBack_L1_O1) := iter (w3_ExprBack_L1_b ) k
theorem w3_ExprBack_L1_ok (call : CallF) (k : Nat)   (a : w3_ExprBack_L1_A) (r : (Bool ⊕ w3_ExprBack_L1_O1)) (h : w3_ExprBack_L1.s k  a = some r) : loopsF Tryd.prog G.kd call 0 (G.an 13) k (loopAt Tryd.prog 13 12) (w3_ExprBack_L1_s a) = some (w3_ExprBack_L1_e r) :=
  loop_ok (fun a => w3_ExprBack_L1_t Tryd.prog call  a) (fun a => w3_ExprBack_L1_d _ call  a) (fun a => w3_ExprBack_L1_n call  a) (fun a => w3_ExprBack_L1_k _ call _   a) (fun r => by cases r <;> nofun) h
theorem w3_ExprBack_L1.m {j k : Nat} (hj : j ≤ k)    (a : w3_ExprBack_L1_A) : Le (w3_ExprBack_L1.s j  a) (w3_ExprBack_L1.s k  a) := Le.iter (fun a => .refl _) hj a
noncomputable def w3_ExprBack_L1.w  : w3_ExprBack_L1_A → Option (Bool ⊕ w3_ExprBack_L1_O1) := loopW (w3_ExprBack_L1_b )
theorem w3_ExprBack_L1.cv    (a : w3_ExprBack_L1_A) : Cv (fun k => w3_ExprBack_L1.s k  a) (w3_ExprBack_L1.w  a) := Cv.iter (fun a => by exact .const _) a
def w3_ExprBack_b (c_w3_known : Option Bool) (c_w3_Few : (List T_w3_Raw) → Option Bool) (c_w3_One : (List T_w3_Raw) → Option T_api_Expr) (c_expr_Text : T_api_Expr → Option ByteArray) (c_expr_Parse : ByteArray → Option (T_api_Expr × Bool)) (c_expr_Names : T_api_Expr → Option (List ByteArray)) (c_r3_Names : T_api_Expr → Option (List ByteArray)) (c_r3_Text : T_api_Expr → Option ByteArray) (c_r3_Same : T_api_Expr → T_api_Expr → Option Bool) (l_w3_ExprBack_L1 : w3_ExprBack_L1_A → Option (Bool ⊕ w3_ExprBack_L1_O1)) (a0 : (List T_w3_Raw)) : Option Bool := ((c_w3_known).bind fun (r1 : Bool) => (bif (!r1) then (some false) else ((c_w3_Few a0).bind fun (r2 : Bool) => (bif (!r2) then (some true) else ((c_w3_One a0).bind fun (r3 : T_api_Expr) => ((c_expr_Text r3).bind fun (r4 : ByteArray) => ((c_expr_Parse r4).bind fun (r5 : (T_api_Expr × Bool)) => ((c_expr_Names r3).bind fun (r6 : (List ByteArray)) => ((c_r3_Names r3).bind fun (r7 : (List ByteArray)) => (bif ((((r6.length) : Nat) : Int) != (((r7.length) : Nat) : Int)) then (some false) else ((l_w3_ExprBack_L1 (w3_ExprBack_L1_A.mk r4 r5.2 r6 r7 (0 : Int) r3 r5.1)).bind fun x => Sum.elim (fun (o8 : Bool) => (some o8)) (fun (o9 : w3_ExprBack_L1_O1) => ((c_r3_Text o9.h0).bind fun (r10 : ByteArray) => (bif (eqS o9.x4 r10) then (bif o9.x6 then ((c_r3_Same o9.h0 o9.h1).bind fun (r11 : Bool) => (some r11)) else (some false)) else (some false)))) x)))))))))))
def w3_ExprBack_t (P : Program) (call : CallF) (c_w3_known : Option Bool) (c_w3_Few : (List T_w3_Raw) → Option Bool) (c_w3_One : (List T_w3_Raw) → Option T_api_Expr) (c_expr_Text : T_api_Expr → Option ByteArray) (c_expr_Parse : ByteArray → Option (T_api_Expr × Bool)) (c_expr_Names : T_api_Expr → Option (List ByteArray)) (c_r3_Names : T_api_Expr → Option (List ByteArray)) (c_r3_Text : T_api_Expr → Option ByteArray) (c_r3_Same : T_api_Expr → T_api_Expr → Option Bool) (l_w3_ExprBack_L1 : w3_ExprBack_L1_A → Option (Bool ⊕ w3_ExprBack_L1_O1)) (a0 : (List T_w3_Raw)) : Tr Bool (AV × Heap) := (.call (call 14 [] []) (c_w3_known) w3_known_e fun (r1 : Bool) => (.as (!r1) (rt w3_ExprBack_e false) (.call (call 15 [.sl (R_w3_Raw a0)] []) (c_w3_Few a0) w3_Few_e fun (r2 : Bool) => (.as (!r2) (rt w3_ExprBack_e true) (.call (call 17 [.sl (R_w3_Raw a0)] []) (c_w3_One a0) w3_One_e fun (r3 : T_api_Expr) => (.call (call 27 [.agg (C_api_Expr r3)] []) (c_expr_Text r3) expr_Text_e fun (r4 : ByteArray) => (.call (call 19 [.sc (.string r4)] []) (c_expr_Parse r4) expr_Parse_e fun (r5 : (T_api_Expr × Bool)) => (.call (call 28 [.agg (C_api_Expr r3)] []) (c_expr_Names r3) expr_Names_e fun (r6 : (List ByteArray)) => (.call (call 29 [.agg (C_api_Expr r3)] []) (c_r3_Names r3) r3_Names_e fun (r7 : (List ByteArray)) => (.num ((R_string r6).length) (r6.length) (.num ((R_string r7).length) (r7.length) (.as ((((r6.length) : Nat) : Int) != (((r7.length) : Nat) : Int)) (rt w3_ExprBack_e false) (.loop2 (loopAt P 13 12) (w3_ExprBack_L1_s (w3_ExprBack_L1_A.mk r4 r5.2 r6 r7 (0 : Int) r3 r5.1)) (l_w3_ExprBack_L1 (w3_ExprBack_L1_A.mk r4 r5.2 r6 r7 (0 : Int) r3 r5.1)) w3_ExprBack_L1_e0 w3_ExprBack_L1_e1 (fun (o8 : Bool) => (rt w3_ExprBack_e o8)) (fun (o9 : w3_ExprBack_L1_O1) => (.call (call 16 [.agg (C_api_Expr o9.h0)] []) (c_r3_Text o9.h0) r3_Text_e fun (r10 : ByteArray) => (.as (eqS o9.x4 r10) (.yes (eqS o9.x4 r10) (.as o9.x6 (yesN 2 o9.x6 (.call (call 21 [.agg (C_api_Expr o9.h0), .agg (C_api_Expr o9.h1)] []) (c_r3_Same o9.h0 o9.h1) r3_Same_e fun (r11 : Bool) => (.yes o9.x6 (rt w3_ExprBack_e r11)))) (noN 3 o9.x6 (rt w3_ExprBack_e false)))) (.no (eqS o9.x4 r10) (noN 4 false (rt w3_ExprBack_e false)))))))))))))))))))
theorem w3_ExprBack_d (P : Program) (call : CallF) (c_w3_known : Option Bool) (c_w3_Few : (List T_w3_Raw) → Option Bool) (c_w3_One : (List T_w3_Raw) → Option T_api_Expr) (c_expr_Text : T_api_Expr → Option ByteArray) (c_expr_Parse : ByteArray → Option (T_api_Expr × Bool)) (c_expr_Names : T_api_Expr → Option (List ByteArray)) (c_r3_Names : T_api_Expr → Option (List ByteArray)) (c_r3_Text : T_api_Expr → Option ByteArray) (c_r3_Same : T_api_Expr → T_api_Expr → Option Bool) (l_w3_ExprBack_L1 : w3_ExprBack_L1_A → Option (Bool ⊕ w3_ExprBack_L1_O1)) (a0 : (List T_w3_Raw)) : (w3_ExprBack_t P call c_w3_known c_w3_Few c_w3_One c_expr_Text c_expr_Parse c_expr_Names c_r3_Names c_r3_Text c_r3_Same l_w3_ExprBack_L1 a0).den = w3_ExprBack_b c_w3_known c_w3_Few c_w3_One c_expr_Text c_expr_Parse c_expr_Names c_r3_Names c_r3_Text c_r3_Same l_w3_ExprBack_L1 a0 := rfl
theorem w3_ExprBack_n (call : CallF) (c_w3_known : Option Bool) (c_w3_Few : (List T_w3_Raw) → Option Bool) (c_w3_One : (List T_w3_Raw) → Option T_api_Expr) (c_expr_Text : T_api_Expr → Option ByteArray) (c_expr_Parse : ByteArray → Option (T_api_Expr × Bool)) (c_expr_Names : T_api_Expr → Option (List ByteArray)) (c_r3_Names : T_api_Expr → Option (List ByteArray)) (c_r3_Text : T_api_Expr → Option ByteArray) (c_r3_Same : T_api_Expr → T_api_Expr → Option Bool) (l_w3_ExprBack_L1 : w3_ExprBack_L1_A → Option (Bool ⊕ w3_ExprBack_L1_O1)) (a0 : (List T_w3_Raw)) : (w3_ExprBack_t Tryd.prog call c_w3_known c_w3_Few c_w3_One c_expr_Text c_expr_Parse c_expr_Names c_r3_Names c_r3_Text c_r3_Same l_w3_ExprBack_L1 a0).norm (bodyT Tryd.prog call G 13 [.sl (R_w3_Raw a0)] []) = w3_ExprBack_t Tryd.prog call c_w3_known c_w3_Few c_w3_One c_expr_Text c_expr_Parse c_expr_Names c_r3_Names c_r3_Text c_r3_Same l_w3_ExprBack_L1 a0 := by kernel_rfl
theorem w3_ExprBack_k (P : Program) (call : CallF) (lp : Loops) (c_w3_known : Option Bool) (c_w3_Few : (List T_w3_Raw) → Option Bool) (c_w3_One : (List T_w3_Raw) → Option T_api_Expr) (c_expr_Text : T_api_Expr → Option ByteArray) (c_expr_Parse : ByteArray → Option (T_api_Expr × Bool)) (c_expr_Names : T_api_Expr → Option (List ByteArray)) (c_r3_Names : T_api_Expr → Option (List ByteArray)) (c_r3_Text : T_api_Expr → Option ByteArray) (c_r3_Same : T_api_Expr → T_api_Expr → Option Bool) (l_w3_ExprBack_L1 : w3_ExprBack_L1_A → Option (Bool ⊕ w3_ExprBack_L1_O1)) (hc_w3_known : ∀  (r : Bool), c_w3_known = some r → (call 14 [] []) = some (w3_known_e r)) (hc_w3_Few : ∀ (a0 : (List T_w3_Raw)) (r : Bool), c_w3_Few a0 = some r → (call 15 [.sl (R_w3_Raw a0)] []) = some (w3_Few_e r)) (hc_w3_One : ∀ (a0 : (List T_w3_Raw)) (r : T_api_Expr), c_w3_One a0 = some r → (call 17 [.sl (R_w3_Raw a0)] []) = some (w3_One_e r)) (hc_expr_Text : ∀ (a0 : T_api_Expr) (r : ByteArray), c_expr_Text a0 = some r → (call 27 [.agg (C_api_Expr a0)] []) = some (expr_Text_e r)) (hc_expr_Parse : ∀ (a0 : ByteArray) (r : (T_api_Expr × Bool)), c_expr_Parse a0 = some r → (call 19 [.sc (.string a0)] []) = some (expr_Parse_e r)) (hc_expr_Names : ∀ (a0 : T_api_Expr) (r : (List ByteArray)), c_expr_Names a0 = some r → (call 28 [.agg (C_api_Expr a0)] []) = some (expr_Names_e r)) (hc_r3_Names : ∀ (a0 : T_api_Expr) (r : (List ByteArray)), c_r3_Names a0 = some r → (call 29 [.agg (C_api_Expr a0)] []) = some (r3_Names_e r)) (hc_r3_Text : ∀ (a0 : T_api_Expr) (r : ByteArray), c_r3_Text a0 = some r → (call 16 [.agg (C_api_Expr a0)] []) = some (r3_Text_e r)) (hc_r3_Same : ∀ (a0 : T_api_Expr) (a1 : T_api_Expr) (r : Bool), c_r3_Same a0 a1 = some r → (call 21 [.agg (C_api_Expr a0), .agg (C_api_Expr a1)] []) = some (r3_Same_e r)) (hl_w3_ExprBack_L1 : ∀ (a : w3_ExprBack_L1_A) (r : (Bool ⊕ w3_ExprBack_L1_O1)), l_w3_ExprBack_L1 a = some r → lp (loopAt P 13 12) (w3_ExprBack_L1_s a) = some (w3_ExprBack_L1_e r)) (a0 : (List T_w3_Raw)) : (w3_ExprBack_t P call c_w3_known c_w3_Few c_w3_One c_expr_Text c_expr_Parse c_expr_Names c_r3_Names c_r3_Text c_r3_Same l_w3_ExprBack_L1 a0).ok lp w3_ExprBack_e := fun r1 hr1 => ⟨hc_w3_known _ hr1, ⟨rfl, fun h0 => rfl, fun h0 => fun r2 hr2 => ⟨hc_w3_Few _ _ hr2, ⟨rfl, fun h1 => rfl, fun h1 => fun r3 hr3 => ⟨hc_w3_One _ _ hr3, fun r4 hr4 => ⟨hc_expr_Text _ _ hr4, fun r5 hr5 => ⟨hc_expr_Parse _ _ hr5, fun r6 hr6 => ⟨hc_expr_Names _ _ hr6, fun r7 hr7 => ⟨hc_r3_Names _ _ hr7, ⟨(R_string_len _), ⟨(R_string_len _), ⟨rfl, fun h2 => rfl, fun h2 => ⟨fun o8 ho8 => ⟨hl_w3_ExprBack_L1 _ (.inl _) ho8, rfl⟩, fun o9 ho9 => ⟨hl_w3_ExprBack_L1 _ (.inr _) ho9, fun r10 hr10 => ⟨hc_r3_Text _ _ hr10, ⟨rfl, fun h3 => ⟨h3, ⟨rfl, fun h4 => yesN_ok 2 (h4) (fun r11 hr11 => ⟨hc_r3_Same _ _ _ hr11, ⟨h4, rfl⟩⟩), fun h4 => noN_ok 3 (h4) (rfl)⟩⟩, fun h3 => ⟨h3, noN_ok 4 (rfl) (rfl)⟩⟩⟩⟩⟩⟩⟩⟩⟩⟩⟩⟩⟩⟩⟩⟩⟩
theorem w3_ExprBack_m {c_w3_known d_w3_known : Option Bool} (h_w3_known : Le (c_w3_known ) (d_w3_known )) {c_w3_Few d_w3_Few : (List T_w3_Raw) → Option Bool} (h_w3_Few : ∀ (a0 : (List T_w3_Raw)), Le (c_w3_Few a0) (d_w3_Few a0)) {c_w3_One d_w3_One : (List T_w3_Raw) → Option T_api_Expr} (h_w3_One : ∀ (a0 : (List T_w3_Raw)), Le (c_w3_One a0) (d_w3_One a0)) {c_expr_Text d_expr_Text : T_api_Expr → Option ByteArray} (h_expr_Text : ∀ (a0 : T_api_Expr), Le (c_expr_Text a0) (d_expr_Text a0)) {c_expr_Parse d_expr_Parse : ByteArray → Option (T_api_Expr × Bool)} (h_expr_Parse : ∀ (a0 : ByteArray), Le (c_expr_Parse a0) (d_expr_Parse a0)) {c_expr_Names d_expr_Names : T_api_Expr → Option (List ByteArray)} (h_expr_Names : ∀ (a0 : T_api_Expr), Le (c_expr_Names a0) (d_expr_Names a0)) {c_r3_Names d_r3_Names : T_api_Expr → Option (List ByteArray)} (h_r3_Names : ∀ (a0 : T_api_Expr), Le (c_r3_Names a0) (d_r3_Names a0)) {c_r3_Text d_r3_Text : T_api_Expr → Option ByteArray} (h_r3_Text : ∀ (a0 : T_api_Expr), Le (c_r3_Text a0) (d_r3_Text a0)) {c_r3_Same d_r3_Same : T_api_Expr → T_api_Expr → Option Bool} (h_r3_Same : ∀ (a0 : T_api_Expr) (a1 : T_api_Expr), Le (c_r3_Same a0 a1) (d_r3_Same a0 a1)) {l_w3_ExprBack_L1 m_w3_ExprBack_L1 : w3_ExprBack_L1_A → Option (Bool ⊕ w3_ExprBack_L1_O1)} (hl_w3_ExprBack_L1 : ∀ a, Le (l_w3_ExprBack_L1 a) (m_w3_ExprBack_L1 a)) (a0 : (List T_w3_Raw)) : Le (w3_ExprBack_b c_w3_known c_w3_Few c_w3_One c_expr_Text c_expr_Parse c_expr_Names c_r3_Names c_r3_Text c_r3_Same l_w3_ExprBack_L1 a0) (w3_ExprBack_b d_w3_known d_w3_Few d_w3_One d_expr_Text d_expr_Parse d_expr_Names d_r3_Names d_r3_Text d_r3_Same m_w3_ExprBack_L1 a0) := by
  unfold w3_ExprBack_b
  exact .bind (h_w3_known) fun r1 => .cond (.refl _) (.bind (h_w3_Few _) fun r2 => .cond (.refl _) (.bind (h_w3_One _) fun r3 => .bind (h_expr_Text _) fun r4 => .bind (h_expr_Parse _) fun r5 => .bind (h_expr_Names _) fun r6 => .bind (h_r3_Names _) fun r7 => .cond (.refl _) (.bind (hl_w3_ExprBack_L1 _) fun x => .sum (fun o8 => .refl _) (fun o9 => .bind (h_r3_Text _) fun r10 => .cond (.cond (.bind (h_r3_Same _ _) fun r11 => .refl _) (.refl _)) (.refl _)) x)))
theorem w3_ExprBack_c {c_w3_known : Nat → Option Bool} {d_w3_known : Option Bool} (h_w3_known : Cv (fun k => c_w3_known k ) (d_w3_known )) {c_w3_Few : Nat → (List T_w3_Raw) → Option Bool} {d_w3_Few : (List T_w3_Raw) → Option Bool} (h_w3_Few : ∀ (a0 : (List T_w3_Raw)), Cv (fun k => c_w3_Few k a0) (d_w3_Few a0)) {c_w3_One : Nat → (List T_w3_Raw) → Option T_api_Expr} {d_w3_One : (List T_w3_Raw) → Option T_api_Expr} (h_w3_One : ∀ (a0 : (List T_w3_Raw)), Cv (fun k => c_w3_One k a0) (d_w3_One a0)) {c_expr_Text : Nat → T_api_Expr → Option ByteArray} {d_expr_Text : T_api_Expr → Option ByteArray} (h_expr_Text : ∀ (a0 : T_api_Expr), Cv (fun k => c_expr_Text k a0) (d_expr_Text a0)) {c_expr_Parse : Nat → ByteArray → Option (T_api_Expr × Bool)} {d_expr_Parse : ByteArray → Option (T_api_Expr × Bool)} (h_expr_Parse : ∀ (a0 : ByteArray), Cv (fun k => c_expr_Parse k a0) (d_expr_Parse a0)) {c_expr_Names : Nat → T_api_Expr → Option (List ByteArray)} {d_expr_Names : T_api_Expr → Option (List ByteArray)} (h_expr_Names : ∀ (a0 : T_api_Expr), Cv (fun k => c_expr_Names k a0) (d_expr_Names a0)) {c_r3_Names : Nat → T_api_Expr → Option (List ByteArray)} {d_r3_Names : T_api_Expr → Option (List ByteArray)} (h_r3_Names : ∀ (a0 : T_api_Expr), Cv (fun k => c_r3_Names k a0) (d_r3_Names a0)) {c_r3_Text : Nat → T_api_Expr → Option ByteArray} {d_r3_Text : T_api_Expr → Option ByteArray} (h_r3_Text : ∀ (a0 : T_api_Expr), Cv (fun k => c_r3_Text k a0) (d_r3_Text a0)) {c_r3_Same : Nat → T_api_Expr → T_api_Expr → Option Bool} {d_r3_Same : T_api_Expr → T_api_Expr → Option Bool} (h_r3_Same : ∀ (a0 : T_api_Expr) (a1 : T_api_Expr), Cv (fun k => c_r3_Same k a0 a1) (d_r3_Same a0 a1)) {l_w3_ExprBack_L1 : Nat → w3_ExprBack_L1_A → Option (Bool ⊕ w3_ExprBack_L1_O1)} {m_w3_ExprBack_L1 : w3_ExprBack_L1_A → Option (Bool ⊕ w3_ExprBack_L1_O1)} (hl_w3_ExprBack_L1 : ∀ a, Cv (fun k => l_w3_ExprBack_L1 k a) (m_w3_ExprBack_L1 a)) (a0 : (List T_w3_Raw)) : Cv (fun k => w3_ExprBack_b (c_w3_known k) (c_w3_Few k) (c_w3_One k) (c_expr_Text k) (c_expr_Parse k) (c_expr_Names k) (c_r3_Names k) (c_r3_Text k) (c_r3_Same k) (l_w3_ExprBack_L1 k) a0) (w3_ExprBack_b d_w3_known d_w3_Few d_w3_One d_expr_Text d_expr_Parse d_expr_Names d_r3_Names d_r3_Text d_r3_Same m_w3_ExprBack_L1 a0) := by
  unfold w3_ExprBack_b
  exact .bind (h_w3_known) fun r1 => .cond (by exact .const _) (.bind (h_w3_Few _) fun r2 => .cond (by exact .const _) (.bind (h_w3_One _) fun r3 => .bind (h_expr_Text _) fun r4 => .bind (h_expr_Parse _) fun r5 => .bind (h_expr_Names _) fun r6 => .bind (h_r3_Names _) fun r7 => .cond (by exact .const _) (.bind (hl_w3_ExprBack_L1 _) fun x => .sum (fun o8 => by exact .const _) (fun o9 => .bind (h_r3_Text _) fun r10 => .cond (.cond (.bind (h_r3_Same _ _) fun r11 => by exact .const _) (by exact .const _)) (by exact .const _)) x)))
def w3_ExprBack.s : Nat → (List T_w3_Raw) → Option Bool
  | 0, _ => none
  | k + 1, a0 => w3_ExprBack_b (w3_known.s k) (fun a0 => w3_Few.s k a0) (fun a0 => w3_One.s k a0) (fun a0 => expr_Text.s k a0) (fun a0 => expr_Parse.s k a0) (fun a0 => expr_Names.s k a0) (fun a0 => r3_Names.s k a0) (fun a0 => r3_Text.s k a0) (fun a0 a1 => r3_Same.s k a0 a1) (w3_ExprBack_L1.s k) a0
theorem w3_ExprBack.ok : ∀ (k : Nat), ∀ (a0 : (List T_w3_Raw)) (r : Bool), w3_ExprBack.s k a0 = some r → evalFn Tryd.prog G k 13 [.sl (R_w3_Raw a0)] [] = some (w3_ExprBack_e r)
  | 0, _, _, h => (nomatch h)
  | k + 1, a0, r, h => fn_ok rfl (w3_ExprBack_t Tryd.prog (evalFn Tryd.prog G k) (w3_known.s k) (fun a0 => w3_Few.s k a0) (fun a0 => w3_One.s k a0) (fun a0 => expr_Text.s k a0) (fun a0 => expr_Parse.s k a0) (fun a0 => expr_Names.s k a0) (fun a0 => r3_Names.s k a0) (fun a0 => r3_Text.s k a0) (fun a0 a1 => r3_Same.s k a0 a1) (w3_ExprBack_L1.s k) a0) (w3_ExprBack_n _ (w3_known.s k) (fun a0 => w3_Few.s k a0) (fun a0 => w3_One.s k a0) (fun a0 => expr_Text.s k a0) (fun a0 => expr_Parse.s k a0) (fun a0 => expr_Names.s k a0) (fun a0 => r3_Names.s k a0) (fun a0 => r3_Text.s k a0) (fun a0 a1 => r3_Same.s k a0 a1) (w3_ExprBack_L1.s k) a0) (w3_ExprBack_k _ _ _ (w3_known.s k) (fun a0 => w3_Few.s k a0) (fun a0 => w3_One.s k a0) (fun a0 => expr_Text.s k a0) (fun a0 => expr_Parse.s k a0) (fun a0 => expr_Names.s k a0) (fun a0 => r3_Names.s k a0) (fun a0 => r3_Text.s k a0) (fun a0 a1 => r3_Same.s k a0 a1) (w3_ExprBack_L1.s k) (w3_known.ok k) (w3_Few.ok k) (w3_One.ok k) (expr_Text.ok k) (expr_Parse.ok k) (expr_Names.ok k) (r3_Names.ok k) (r3_Text.ok k) (r3_Same.ok k) (w3_ExprBack_L1_ok _ k) a0) ((w3_ExprBack_d _ _ (w3_known.s k) (fun a0 => w3_Few.s k a0) (fun a0 => w3_One.s k a0) (fun a0 => expr_Text.s k a0) (fun a0 => expr_Parse.s k a0) (fun a0 => expr_Names.s k a0) (fun a0 => r3_Names.s k a0) (fun a0 => r3_Text.s k a0) (fun a0 a1 => r3_Same.s k a0 a1) (w3_ExprBack_L1.s k) a0).trans h)
theorem w3_ExprBack.mono : ∀ (k : Nat) (a0 : (List T_w3_Raw)), Le (w3_ExprBack.s k a0) (w3_ExprBack.s (k + 1) a0)
  | 0, _ => fun r h => (nomatch h)
  | k + 1, a0 => w3_ExprBack_m (w3_known.mono k) (w3_Few.mono k) (w3_One.mono k) (expr_Text.mono k) (expr_Parse.mono k) (expr_Names.mono k) (r3_Names.mono k) (r3_Text.mono k) (r3_Same.mono k) (w3_ExprBack_L1.m (Nat.le_succ k)) a0
noncomputable def w3_ExprBack (a0 : (List T_w3_Raw)) : Option Bool := lim fun k => w3_ExprBack.s k a0
theorem w3_ExprBack.cv (a0 : (List T_w3_Raw)) : Cv (fun k => w3_ExprBack.s k a0) (w3_ExprBack a0) := .lim fun k => w3_ExprBack.mono k a0
noncomputable def w3_ExprBack_L1 : w3_ExprBack_L1_A → Option (Bool ⊕ w3_ExprBack_L1_O1) := w3_ExprBack_L1.w 
theorem w3_ExprBack_L1.eq (a : w3_ExprBack_L1_A) : w3_ExprBack_L1 a = (w3_ExprBack_L1_b  a).bind (Sum.elim w3_ExprBack_L1 some) := loopW_eq _ _
theorem w3_ExprBack.eq (a0 : (List T_w3_Raw)) : w3_ExprBack a0 = w3_ExprBack_b w3_known w3_Few w3_One expr_Text expr_Parse expr_Names r3_Names r3_Text r3_Same w3_ExprBack_L1 a0 := Cv.uniq (w3_ExprBack.cv a0).shift (w3_ExprBack_c w3_known.cv w3_Few.cv w3_One.cv expr_Text.cv expr_Parse.cv expr_Names.cv r3_Names.cv r3_Text.cv r3_Same.cv (w3_ExprBack_L1.cv) a0)
theorem w3_ExprBack.run (a0 : (List T_w3_Raw)) {r : Bool} (h : w3_ExprBack a0 = some r) : ∃ k, evalFn Tryd.prog G k 13 [.sl (R_w3_Raw a0)] [] = some (w3_ExprBack_e r) :=
  let ⟨k, hk⟩ := ((w3_ExprBack.cv a0).2 r).1 h
  ⟨k, w3_ExprBack.ok k a0 r hk⟩

end Go.Ab
namespace Go.Proofs.YtklkkgmflfioeaaDoor
open Go Go.Ab Go.RowKit
theorem gPow : Tryd.prog.globalNamed "internal/strconv.uint64pow10" = some 0 := by kernel_rfl
theorem tPow : (Tryd.prog.globals[0]?).map (·.type) = some 119 := by kernel_rfl
theorem cells_u64 : Tryd.prog.cellsOf 112 = 1 := by kernel_rfl
theorem cells_pow : Tryd.prog.cellsOf 119 = 20 := by kernel_rfl
theorem datum {H : Type} : (Rows.laid_internal_strconv_uint64pow10 : DataW H) = Lib.tabData .u64 Lib.pow10Tab := by kernel_rfl
def told : Ab.Told := told1 Tryd.prog "internal/strconv.uint64pow10" 0 (Lib.pow10Tab.map fun z => Value.int .u64 z).toArray
theorem told_of {W : World} (h : laidMetH Tryd.prog [("math/bits.deBruijn32tab", Rows.laid_math_bits_deBruijn32tab), ("math/bits.deBruijn64tab", Rows.laid_math_bits_deBruijn64tab), ("internal/strconv.uint64pow10", Rows.laid_internal_strconv_uint64pow10), ("unicode/utf8.acceptRanges", Rows.laid_unicode_utf8_acceptRanges), ("unicode/utf8.first", Rows.laid_unicode_utf8_first)] W) : told.T (oldCtx W).Z W := by
  rw [MakeChecks.laidMetH_plain _ _ _ (by kernel_rfl)] at h
  obtain ⟨ps, ⟨g0, t0, cs0, f0, p0, q0, hg0, ht0, hv0, hd0, ⟨g1, t1, cs1, f1, p1, q1, hg1, ht1, hv1, hd1, ⟨g2, t2, cs2, f2, p2, q2, hg2, ht2, hv2, hd2, _⟩, _⟩, _⟩, _, _⟩ := h
  obtain rfl := Option.some.inj (gPow.symm.trans hg2)
  obtain rfl := Option.some.inj (tPow.symm.trans ht2)
  rw [datum] at hd2
  refine tabT_old gPow (hv2.trans ?_) (by decide)
  have := Lib.cells_of_tab Tryd.underlying119 Tryd.underlying112 cells_u64 cells_pow hd2
  rw [← this]
theorem ok_itoa : FnOK1 told Tryd.prog 46 itoaX := by
  refine fnOK1_itoa fun n Z w h0 h1 hT => ?_
  refine (Tryd.strconv_Itoa n h0 h1 w hT.2.2.1).mono ?_
  rintro e w' ⟨rfl, k, os, rfl⟩
  exact ⟨rfl, Lib.below_grow _ _ (Nat.le_refl _) _ _⟩
theorem ok_clone : FnOK1 told Tryd.prog 48 cloneX := by
  refine fnOK1_clone (e_ := 9) (fun n cap w => (Tryd.slices_Clone_string_nil n cap w).mono fun e w' h => h) (fun p cap w => (Tryd.slices_Clone_string_zero p cap w).mono ?_) (fun b off n cap zs w hz hbig hc => (Tryd.slices_Clone_string b off n cap zs w hz hbig hc).mono fun e w' h => h)
  rintro e w' ⟨v, rfl, h1, h2, h3⟩
  exact ⟨v, rfl, h1, h3⟩
theorem ext_ok (f : FuncId) (x : List AV → Heap → Option (AV × Heap)) (h : G.ext f = some x) : FnOK1 told Tryd.prog f x := by
  have h' : Go.Ab.get f extT = some x := h
  simp only [extT, Go.Ab.get] at h'
  repeat' split at h'
  all_goals first
    | cases h'; done
    | (rename_i e; subst e; cases h'; first | exact ok_itoa | exact ok_clone)
end Go.Proofs.YtklkkgmflfioeaaDoor
namespace Go.Ab
theorem w3_within_eq (a n : Int) (hn : 0 < n) (hn2 : n ≤ 4611686018427387904) : w3_within a n = some (a % n) := by
  rw [w3_within.eq]; exact withinV_eq a n hn hn2
theorem within_mod (a n : Int) (hn : 0 < n) (hn2 : n ≤ 4611686018427387904) : w3_within a n = w3_within (a % n) n := by
  rw [w3_within_eq a _ hn hn2, w3_within_eq (a % n) _ hn hn2, Int.emod_emod_of_dvd a (Int.dvd_refl n)]
theorem w3_known_true : w3_known = some true := cv_some w3_known.cv 60 (by kernel_rfl)
end Go.Ab
namespace Go.Ab
abbrev S0 : ByteArray := s_
inductive X3 where
  | num (n : Int)
  | nm (s : ByteArray)
  | here
  | neg (x : X3)
  | bin (k : Nat) (x y : X3)
namespace X3
def t : X3 → T_api_Expr
  | num n => ⟨1, n, S0, []⟩
  | nm s => ⟨2, 0, s, []⟩
  | here => ⟨3, 0, S0, []⟩
  | neg x => ⟨4, 0, S0, [x.t]⟩
  | bin k x y => ⟨k, 0, S0, [x.t, y.t]⟩
def d : X3 → Nat
  | neg x => x.d + 1
  | bin _ x y => max x.d y.d + 1
  | _ => 0
/-- what may be made -/
def ok (p : ByteArray → Prop) : X3 → Prop
  | num n => 0 ≤ n ∧ n < 4294967296
  | nm s => p s
  | here => True
  | neg x => x.ok p
  | bin k x y => 5 ≤ k ∧ k ≤ 11 ∧ x.ok p ∧ y.ok p
def hereB : X3 → Bool
  | here => true
  | neg x => x.hereB
  | bin _ x y => x.hereB || y.hereB
  | _ => false
end X3
def bnd (n : Int) : Int × Int := if n < -1099511627776 ∨ n > 1099511627776 then (0, 6) else (n, 0)
def tms (a b : Int) : Int × Int := if a = 0 ∨ b = 0 then (0, 0) else if (a.natAbs * b.natAbs : Nat) > 1099511627776 then (0, 6) else (a * b, 0)
def rck (k : Nat) (a b : Int) : Int × Int := match k with
  | 5 => bnd (a + b)
  | 6 => bnd (a - b)
  | 7 => tms a b
  | 8 => bnd (andI .i64 a b)
  | 9 => bnd (orI .i64 a b)
  | 10 => if b < 0 ∨ b > 40 then (0, 6) else tms a (2 ^ b.toNat)
  | _ => if b < 0 ∨ b > 40 then (0, 6) else (a.fdiv (2 ^ b.toNat), 0)
def lk (l : List T_api_Sym) (s : ByteArray) : Option Int := match l with
  | [] => none
  | x :: l => if x.Name = s then some x.Value else lk l s
def ev : X3 → Int → List T_api_Sym → Int × Int
  | .num n, _, _ => (n, 0)
  | .nm s, _, l => match lk l s with
    | some v => (v, 0)
    | none => (0, 4)
  | .here, h, _ => (h, 0)
  | .neg x, h, l => let r := ev x h l; if r.2 ≠ 0 then (0, r.2) else (-r.1, 0)
  | .bin k x y, h, l => let r := ev x h l; if r.2 ≠ 0 then (0, r.2) else let s := ev y h l; if s.2 ≠ 0 then (0, s.2) else rck k r.1 s.1
abbrev B40 (n : Int) : Prop := -1099511627776 ≤ n ∧ n ≤ 1099511627776
theorem bnd_B (n : Int) : B40 (bnd n).1 := by unfold bnd; split <;> simp [B40] <;> omega
theorem tms_B (a b : Int) : B40 (tms a b).1 := by
  unfold tms; split
  · simp [B40]
  · split
    · simp [B40]
    · rename_i h
      have : (a * b).natAbs ≤ 1099511627776 := by rw [Int.natAbs_mul]; omega
      simp only [B40]; omega
theorem fdiv_B {a : Int} (h : B40 a) (n : Nat) : B40 (a.fdiv (2 ^ n)) := by
  have hp : (0 : Int) < 2 ^ n := Int.pow_pos (by decide)
  have h1 : (1 : Int) ≤ 2 ^ n := by omega
  rw [Int.fdiv_eq_ediv_of_nonneg _ (by omega)]
  simp only [B40] at h ⊢
  constructor
  · exact Int.le_ediv_of_mul_le hp (by
      have : (1099511627776 : Int) * 1 ≤ 1099511627776 * 2 ^ n := Int.mul_le_mul_of_nonneg_left h1 (by decide)
      rw [Int.neg_mul]; omega)
  · have := Int.ediv_le_self (a := a) (b := 2 ^ n)
    by_cases ha : 0 ≤ a
    · have := this ha; omega
    · have : a / 2 ^ n < 0 := Int.ediv_neg_of_neg_of_pos (by omega) hp
      omega
theorem rck_B (k : Nat) {a b : Int} (h : B40 a) : B40 (rck k a b).1 := by
  unfold rck; split
  · exact bnd_B _
  · exact bnd_B _
  · exact tms_B _ _
  · exact bnd_B _
  · exact bnd_B _
  · split
    · simp [B40]
    · exact tms_B _ _
  · split
    · simp [B40]
    · exact fdiv_B h _
theorem lk_mem {l : List T_api_Sym} {s : ByteArray} {v : Int} (h : lk l s = some v) : ∃ x ∈ l, x.Value = v := by
  induction l with
  | nil => cases h
  | cons x l ih =>
    simp only [lk] at h
    split at h
    · cases h; exact ⟨x, by simp, rfl⟩
    · obtain ⟨y, hy, e⟩ := ih h; exact ⟨y, by simp [hy], e⟩
theorem ev_B {p : ByteArray → Prop} {h : Int} {l : List T_api_Sym} (hh : B40 h) (hl : ∀ s ∈ l, B40 s.Value) : ∀ (x : X3), x.ok p → B40 (ev x h l).1
  | .num n, hx => by simp only [X3.ok] at hx; simp only [ev, B40]; omega
  | .nm s, hx => by
    simp only [ev]
    split
    · rename_i v hv
      obtain ⟨x, hx, rfl⟩ := lk_mem hv
      exact hl x hx
    · simp [B40]
  | .here, hx => hh
  | .neg x, hx => by
    have ih := ev_B hh hl x hx
    simp only [ev]; split
    · simp [B40]
    · simp only [B40] at ih ⊢; omega
  | .bin k x y, hx => by
    have ih := ev_B hh hl x hx.2.2.1
    simp only [ev]; split
    · simp [B40]
    · split
      · simp [B40]
      · exact rck_B k ih
/-! ### The program's functions -/
theorem expr_bound_eq (n : Int) : expr_bound n = some (bnd n) := by
  rw [expr_bound.eq]; unfold expr_bound_b bnd
  by_cases h1 : n < -1099511627776
  · simp [h1]
  · by_cases h2 : n > 1099511627776
    · simp [h1, h2]
    · simp [h1, h2]
theorem r3_bound_eq (n : Int) : r3_bound n = some (bnd n) := by
  rw [r3_bound.eq]; unfold r3_bound_b bnd
  by_cases h1 : n < -1099511627776
  · simp [h1]
  · by_cases h2 : n > 1099511627776
    · simp [h1, h2]
    · simp [h1, h2]
theorem mx_abs {a : Int} (h : B40 a) : (if w64 (0 - a) > a then w64 (0 - a) else a) = (a.natAbs : Int) := by
  simp only [B40] at h
  rw [w64_in (by omega) (by omega)]; split <;> omega
theorem tms_test {a b : Int} (ha : B40 a) (hb : B40 b) (hb0 : b ≠ 0) : ((a.natAbs : Int) > w64 (Int.tdiv 1099511627776 (b.natAbs : Int))) ↔ (a.natAbs * b.natAbs : Nat) > 1099511627776 := by
  have hb1 : 0 < b.natAbs := by omega
  have e : Int.tdiv 1099511627776 (b.natAbs : Int) = ((1099511627776 / b.natAbs : Nat) : Int) := by
    rw [show (1099511627776 : Int) = ((1099511627776 : Nat) : Int) from rfl, ← Int.ofNat_tdiv]
  have h2 : 1099511627776 / b.natAbs ≤ 1099511627776 := Nat.div_le_self _ _
  have h3 := Nat.div_lt_iff_lt_mul (x := 1099511627776) (y := a.natAbs) hb1
  rw [e]
  generalize 1099511627776 / b.natAbs = q at h2 h3
  rw [w64_in (by omega) (by omega)]
  omega
theorem r3_times_eq {a b : Int} (ha : B40 a) (hb : B40 b) : r3_times a b = some (tms a b) := by
  rw [r3_times.eq]; unfold r3_times_b tms
  by_cases h1 : a = 0
  · simp [h1]
  by_cases h2 : b = 0
  · simp [h1, h2]
  have hm := mx_abs ha
  have hn := mx_abs hb
  have ht := tms_test ha hb h2
  rw [hm, hn]
  simp only [h1, h2, or_self, if_false, beq_iff_eq, Bool.cond_eq_ite, decide_eq_true_eq]
  rw [if_pos (by omega)]
  by_cases h3 : (a.natAbs * b.natAbs : Nat) > 1099511627776
  · rw [if_pos (ht.2 h3), if_pos h3]
  · rw [if_neg (fun h => h3 (ht.1 h)), if_neg h3]
    have : (a * b).natAbs ≤ 1099511627776 := by rw [Int.natAbs_mul]; omega
    rw [w64_in (by omega) (by omega)]
theorem expr_times_eq {a b : Int} (ha : B40 a) (hb : B40 b) : expr_times a b = some (tms a b) := by
  rw [expr_times.eq]; unfold expr_times_b tms
  by_cases h1 : a = 0
  · simp [h1]
  by_cases h2 : b = 0
  · simp [h1, h2]
  have hm := mx_abs ha
  have hn := mx_abs hb
  have ht := tms_test ha hb h2
  rw [hm, hn]
  simp only [h1, h2, or_self, if_false, beq_iff_eq, Bool.cond_eq_ite, decide_eq_true_eq]
  rw [if_pos (by omega)]
  by_cases h3 : (a.natAbs * b.natAbs : Nat) > 1099511627776
  · rw [if_pos (ht.2 h3), if_pos h3]
  · rw [if_neg (fun h => h3 (ht.1 h)), if_neg h3, expr_bound_eq]
    have : (a * b).natAbs ≤ 1099511627776 := by rw [Int.natAbs_mul]; omega
    rw [w64_in (by omega) (by omega)]
    simp only [Option.bind_some, bnd]
    rw [if_neg (by omega)]
theorem pow_le40 {b : Int} (h0 : 0 ≤ b) (h1 : b ≤ 40) : (1 : Int) ≤ 2 ^ b.toNat ∧ (2 : Int) ^ b.toNat ≤ 1099511627776 := by
  have : ∀ n : Nat, n ≤ 40 → (1 : Int) ≤ 2 ^ n ∧ (2 : Int) ^ n ≤ 1099511627776 := by decide
  exact this _ (by omega)
theorem shl_one {b : Int} (h0 : 0 ≤ b) (h1 : b ≤ 40) : shlI .i64 1 b = 2 ^ b.toNat := by
  have hp := pow_le40 h0 h1
  unfold shlI
  rw [show min b.toNat IntKind.i64.bits = b.toNat from by simp only [IntKind.bits]; omega, Int.one_mul]
  exact w64_in (by omega) (by omega)
theorem shr_eq {a b : Int} (h0 : 0 ≤ b) (h1 : b ≤ 40) : shrI .i64 a b = a.fdiv (2 ^ b.toNat) := by
  unfold shrI
  rw [show min b.toNat IntKind.i64.bits = b.toNat from by simp only [IntKind.bits]; omega]
theorem bnd_in {n : Int} (h : B40 n) : bnd n = (n, 0) := by
  unfold bnd; rw [if_neg (by simp only [B40] at h; omega)]
theorem expr_both_eq {k : Nat} (hk : 5 ≤ k ∧ k ≤ 11) {a b : Int} (ha : B40 a) (hb : B40 b) : expr_both k a b = some (rck k a b) := by
  rw [expr_both.eq]; unfold expr_both_b
  simp only [B40] at ha hb
  have hc : k = 5 ∨ k = 6 ∨ k = 7 ∨ k = 8 ∨ k = 9 ∨ k = 10 ∨ k = 11 := by omega
  rcases hc with rfl | rfl | rfl | rfl | rfl | rfl | rfl
  · simp [expr_bound_eq, rck, w64_in (n := a + b) (by omega) (by omega)]
  · simp [expr_bound_eq, rck, w64_in (n := a - b) (by omega) (by omega)]
  · simp [expr_times_eq ha hb, rck]
  · simp [expr_bound_eq, rck]
  · simp [expr_bound_eq, rck]
  · by_cases h0 : b < 0
    · simp [h0, rck]
    · by_cases h1 : b > 40
      · simp [h0, h1, rck]
      · have hp := pow_le40 (b := b) (by omega) (by omega)
        simp [h0, h1, rck, show (0 : Int) ≤ b by omega, shl_one (b := b) (by omega) (by omega), expr_times_eq ha (b := 2 ^ b.toNat) ⟨by omega, by omega⟩]
  · by_cases h0 : b < 0
    · simp [h0, rck]
    · by_cases h1 : b > 40
      · simp [h0, h1, rck]
      · have hp := fdiv_B ha b.toNat
        simp [h0, h1, rck, show (0 : Int) ≤ b by omega, shr_eq (a := a) (b := b) (by omega) (by omega), expr_bound_eq, bnd_in hp]
theorem u64_in {n : Int} (h1 : 0 ≤ n) (h2 : n ≤ 9223372036854775807) : IntKind.u64.wrap n = n := by
  simp only [IntKind.wrap, IntKind.bits, IntKind.signed, Bool.false_and, Bool.false_eq_true, if_false]
  exact Int.emod_eq_of_lt h1 (by simp; omega)
theorem r3_reckon_eq {k : Nat} (hk : 5 ≤ k ∧ k ≤ 11) {a b : Int} (ha : B40 a) (hb : B40 b) : r3_reckon k a b = some (rck k a b) := by
  rw [r3_reckon.eq]; unfold r3_reckon_b
  simp only [B40] at ha hb
  have hc : k = 5 ∨ k = 6 ∨ k = 7 ∨ k = 8 ∨ k = 9 ∨ k = 10 ∨ k = 11 := by omega
  rcases hc with rfl | rfl | rfl | rfl | rfl | rfl | rfl
  · simp [r3_bound_eq, rck, w64_in (n := a + b) (by omega) (by omega)]
  · simp [r3_bound_eq, rck, w64_in (n := a - b) (by omega) (by omega)]
  · simp [r3_times_eq ha hb, rck]
  · simp [r3_bound_eq, rck]
  · simp [r3_bound_eq, rck]
  · by_cases h0 : b < 0
    · simp [h0, rck]
    · by_cases h1 : b > 40
      · simp [h0, h1, rck]
      · have hp := pow_le40 (b := b) (by omega) (by omega)
        simp [h0, h1, rck, u64_in (n := b) (by omega) (by omega), show (0 : Int) ≤ b by omega, shl_one (b := b) (by omega) (by omega), r3_times_eq ha (b := 2 ^ b.toNat) ⟨by omega, by omega⟩]
  · by_cases h0 : b < 0
    · simp [h0, rck]
    · by_cases h1 : b > 40
      · simp [h0, h1, rck]
      · simp [h0, h1, rck, u64_in (n := b) (by omega) (by omega), show (0 : Int) ≤ b by omega, shr_eq (a := a) (b := b) (by omega) (by omega)]
/-- the symbols' search -/
theorem r3_look (l : List T_api_Sym) (hl : l.length ≤ 1000) (x : T_api_Expr) : r3_Eval_L1 ⟨l, 0, x⟩ = some (match lk l x.Name with | some v => .inl ⟨v, 0⟩ | none => .inr ()) := by
  obtain ⟨r, h1, h2⟩ := loop_ind r3_Eval_L1.eq (fun a => ∃ i : Nat, i ≤ l.length ∧ a = ⟨l, i, x⟩) (fun a r => r = match lk (l.drop a.x8.toNat) x.Name with | some v => .inl ⟨v, 0⟩ | none => .inr ())
    (fun a => l.length - a.x8.toNat) (by
      rintro a ⟨i, hi, rfl⟩
      simp only [r3_Eval_L1_b, Int.toNat_natCast]
      by_cases h : i < l.length
      · have hd : l.drop i = l[i] :: l.drop (i + 1) := List.drop_eq_getElem_cons h
        rw [List.getElem?_eq_getElem h]
        by_cases he : l[i].Name = x.Name
        · refine .inr ⟨_, ?_, rfl⟩
          have e1 : eqS x.Name x.Name = true := eqS_iff.2 rfl
          have e2 : (i : Int) < (l.length : Int) := by omega
          rw [hd]
          simp only [e1, e2, lk, he, decide_true, cond_true, Option.bind_some, if_true, Int.natCast_nonneg, decide_true]
        · refine .inl ⟨⟨l, (i + 1 : Nat), x⟩, ?_, ⟨i + 1, by omega, rfl⟩, ?_, fun r hr => ?_⟩
          · have : eqS l[i].Name x.Name = false := by rw [Bool.eq_false_iff]; exact fun h => he (eqS_iff.1 h)
            simp [h, this, w64_in (n := (i : Int) + 1) (by omega) (by omega)]
          · simp only [Int.toNat_natCast]; omega
          · rw [hr, hd]; simp only [Int.toNat_natCast, lk, if_neg he]
      · refine .inr ⟨_, ?_, rfl⟩
        simp [h, List.drop_eq_nil_of_le (by omega : l.length ≤ i), lk]) ⟨l, 0, x⟩ ⟨0, by omega, rfl⟩
  rw [h1, h2]; rfl
theorem eqS_ne {x y : ByteArray} (h : x ≠ y) : eqS x y = false := by rw [Bool.eq_false_iff]; exact fun e => h (eqS_iff.1 e)
theorem expr_look (l : List T_api_Sym) (hl : l.length ≤ 1000) (x : T_api_Expr) : ∃ r, slices_IndexFunc l x = some (r, x) ∧ (match lk l x.Name with | some v => ∃ i : Nat, ∃ s, r = i ∧ l[i]? = some s ∧ s.Value = v | none => r = -1) := by
  obtain ⟨r, h1, h2⟩ := loop_ind slices_IndexFunc_L1.eq (fun a => ∃ i : Nat, i ≤ l.length ∧ a = ⟨l, l.length, i, x⟩)
    (fun a r => match lk (l.drop a.x8.toNat) x.Name with | some v => ∃ i : Nat, ∃ s, r = .inl ⟨(i : Int), x⟩ ∧ l[i]? = some s ∧ s.Value = v | none => r = .inr x)
    (fun a => l.length - a.x8.toNat) (by
      rintro a ⟨i, hi, rfl⟩
      simp only [slices_IndexFunc_L1_b, Int.toNat_natCast, expr_Eval_1.eq, expr_Eval_1_b]
      by_cases h : i < l.length
      · have hd : l.drop i = l[i] :: l.drop (i + 1) := List.drop_eq_getElem_cons h
        have e2 : (i : Int) < (l.length : Int) := by omega
        rw [List.getElem?_eq_getElem h]
        by_cases he : l[i].Name = x.Name
        · have e1 : eqS l[i].Name x.Name = true := eqS_iff.2 he
          refine .inr ⟨.inl ⟨i, x⟩, ?_, ?_⟩
          · simp only [e1, e2, decide_true, cond_true, Option.bind_some, Int.natCast_nonneg]
          · rw [hd]; simp only [lk, if_pos he]; exact ⟨i, l[i], rfl, List.getElem?_eq_getElem h, rfl⟩
        · refine .inl ⟨⟨l, l.length, (i + 1 : Nat), x⟩, ?_, ⟨i + 1, by omega, rfl⟩, ?_, fun r hr => ?_⟩
          · simp [e2, eqS_ne he, w64_in (n := (i : Int) + 1) (by omega) (by omega)]
          · simp only [Int.toNat_natCast]; omega
          · rw [hd]; simp only [Int.toNat_natCast, lk, if_neg he] at hr ⊢; exact hr
      · refine .inr ⟨.inr x, ?_, ?_⟩
        · simp [h]
        · rw [List.drop_eq_nil_of_le (by omega : l.length ≤ i)]; rfl) ⟨l, l.length, 0, x⟩ ⟨0, by omega, rfl⟩
  simp only [Int.toNat_zero, List.drop_zero] at h2
  rw [slices_IndexFunc.eq]; unfold slices_IndexFunc_b
  rw [h1]
  split at h2
  · rename_i v hv
    obtain ⟨i, s, rfl, hi, hs⟩ := h2
    refine ⟨i, by simp, ?_⟩
    exact ⟨i, s, rfl, hi, hs⟩
  · rename_i hv
    subst h2
    exact ⟨-1, by simp, rfl⟩
/-- what an expression comes to, by the program and by the document -/
theorem expr_Eval_eq {p : ByteArray → Prop} {h : Int} {l : List T_api_Sym} (hll : l.length ≤ 1000) (hh : B40 h) (hl : ∀ s ∈ l, B40 s.Value) : ∀ (x : X3), x.ok p → expr_Eval x.t h l = some (ev x h l)
  | .num n, hx => by
    rw [expr_Eval.eq]; unfold expr_Eval_b
    simp only [X3.ok] at hx
    simp [X3.t, ev, expr_bound_eq, bnd_in (n := n) ⟨by omega, by omega⟩]
  | .here, hx => by
    rw [expr_Eval.eq]; unfold expr_Eval_b
    simp [X3.t, ev, expr_bound_eq, bnd_in hh]
  | .nm s, hx => by
    rw [expr_Eval.eq]; unfold expr_Eval_b
    obtain ⟨r, h1, h2⟩ := expr_look l hll (X3.nm s).t
    simp only [ev]
    simp only [X3.t] at h1 h2 ⊢
    simp only [h1]
    cases hk : lk l s with
    | none => rw [hk] at h2; simp only at h2; subst h2; simp
    | some v =>
      rw [hk] at h2; simp only at h2
      obtain ⟨i, s', rfl, hi, rfl⟩ := h2
      have hneg : decide ((i : Int) < 0) = false := by simp
      simp [hneg, hi, expr_bound_eq, bnd_in (hl s' (List.mem_of_getElem? hi))]
  | .neg x, hx => by
    have ih := expr_Eval_eq hll hh hl x hx
    have hB := ev_B hh hl x hx
    rw [expr_Eval.eq]; unfold expr_Eval_b
    simp only [X3.t, ev]
    simp [ih]
    by_cases he : (ev x h l).2 = 0
    · have : bnd (w64 (-(ev x h l).1)) = (-(ev x h l).1, 0) := by
        simp only [B40] at hB
        rw [w64_in (by omega) (by omega)]; exact bnd_in ⟨by omega, by omega⟩
      simp [he, expr_bound_eq, this]
    · simp [bne_iff_ne.2 he, he]
  | .bin k x y, hx => by
    obtain ⟨h1, h2, h3, h4⟩ := hx
    have ihx := expr_Eval_eq hll hh hl x h3
    have ihy := expr_Eval_eq hll hh hl y h4
    have hBx := ev_B hh hl x h3
    have hBy := ev_B hh hl y h4
    rw [expr_Eval.eq]; unfold expr_Eval_b
    simp only [X3.t, ev]
    have k1 : ((k : Int) == 1) = false := by simp; omega
    have k2 : ((k : Int) == 2) = false := by simp; omega
    have k3 : ((k : Int) == 3) = false := by simp; omega
    simp [k1, k2, k3, ihx, ihy]
    by_cases he : (ev x h l).2 = 0
    · by_cases hf : (ev y h l).2 = 0
      · simp [he, hf, expr_both_eq ⟨h1, h2⟩ hBx hBy]
      · simp [he, bne_iff_ne.2 hf, hf]
    · simp [bne_iff_ne.2 he, he]
theorem r3_Eval_eq {p : ByteArray → Prop} {h : Int} {l : List T_api_Sym} (hll : l.length ≤ 1000) (hh : B40 h) (hl : ∀ s ∈ l, B40 s.Value) : ∀ (x : X3), x.ok p → r3_Eval x.t h l = some (ev x h l)
  | .num n, hx => by
    rw [r3_Eval.eq]; unfold r3_Eval_b
    simp [X3.t, ev]
  | .here, hx => by
    rw [r3_Eval.eq]; unfold r3_Eval_b
    simp [X3.t, ev]
  | .nm s, hx => by
    rw [r3_Eval.eq]; unfold r3_Eval_b
    have h1 := r3_look l hll (X3.nm s).t
    simp only [ev]
    simp only [X3.t] at h1 ⊢
    simp only [h1]
    cases hk : lk l s <;> simp
  | .neg x, hx => by
    have ih := r3_Eval_eq hll hh hl x hx
    have hB := ev_B hh hl x hx
    rw [r3_Eval.eq]; unfold r3_Eval_b
    simp only [X3.t, ev]
    simp [ih]
    by_cases he : (ev x h l).2 = 0
    · simp only [B40] at hB
      simp [he, w64_in (n := -(ev x h l).1) (by omega) (by omega)]
    · simp [bne_iff_ne.2 he, he]
  | .bin k x y, hx => by
    obtain ⟨h1, h2, h3, h4⟩ := hx
    have ihx := r3_Eval_eq hll hh hl x h3
    have ihy := r3_Eval_eq hll hh hl y h4
    have hBx := ev_B hh hl x h3
    have hBy := ev_B hh hl y h4
    rw [r3_Eval.eq]; unfold r3_Eval_b
    simp only [X3.t, ev]
    have k1 : ((k : Int) == 1) = false := by simp; omega
    have k2 : ((k : Int) == 2) = false := by simp; omega
    have k3 : ((k : Int) == 3) = false := by simp; omega
    have k4 : ((k : Int) == 4) = false := by simp; omega
    simp [k1, k2, k3, k4, ihx, ihy]
    by_cases he : (ev x h l).2 = 0
    · by_cases hf : (ev y h l).2 = 0
      · simp [he, hf, r3_reckon_eq ⟨h1, h2⟩ hBx hBy]
      · simp [he, bne_iff_ne.2 hf, hf]
    · simp [bne_iff_ne.2 he, he]
end Go.Ab
namespace Go.Ab
theorem size_tot : ∀ (g d : Nat), g + d = 8 → ∀ l : List T_w3_Raw, l.length ≤ maxLen → (∀ r ∈ l, wf_w3_Raw r) → ∃ n : Int, w3_size l d = some n ∧ 0 ≤ n ∧ n ≤ 1000 + 20 * g ∧
    (n ≤ 16 → d ≤ 7 ∧ ∀ r ∈ l, ∃ m, w3_size r.L (d + 1 : Nat) = some m ∧ m ≤ 16)
  | 0, d, hd, l, hl, hw => by
    obtain rfl : d = 8 := by omega
    refine ⟨1000, ?_, by omega, by omega, by omega⟩
    rw [w3_size.eq]; simp [w3_size_b]
  | g + 1, d, hd, l, hl, hw => by
    rw [maxLen_lt] at hl
    obtain ⟨r, h1, h2⟩ := loop_ind w3_size_L1.eq
      (fun a => ∃ i : Nat, ∃ n : Int, i ≤ l.length ∧ a = ⟨l, d, n, i⟩ ∧ 0 ≤ n ∧ n ≤ 1000 + 20 * (g + 1 : Nat) ∧ (n ≤ 16 → ∀ r ∈ l.take i, ∃ m, w3_size r.L (d + 1 : Nat) = some m ∧ m ≤ 16))
      (fun a n => 0 ≤ n ∧ n ≤ 1000 + 20 * (g + 1 : Nat) ∧ (n ≤ 16 → ∀ r ∈ l, ∃ m, w3_size r.L (d + 1 : Nat) = some m ∧ m ≤ 16))
      (fun a => l.length - a.x6.toNat) (by
        rintro a ⟨i, n, hi, rfl, h0, hn, hall⟩
        simp only [w3_size_L1_b, Int.toNat_natCast]
        by_cases h : i < l.length
        · have e2 : (i : Int) < (l.length : Int) := by omega
          by_cases h16 : n ≤ 16
          · have hwi := hw l[i] (List.getElem_mem h)
            obtain ⟨_, _, _, hL, hLw⟩ := hwi
            obtain ⟨m, hm, hm0, hm1, _⟩ := size_tot g (d + 1) (by omega) l[i].L hL hLw
            refine .inl ⟨⟨l, d, n + 1 + m, (i + 1 : Nat)⟩, ?_, ⟨i + 1, n + 1 + m, by omega, rfl, by omega, by omega, ?_⟩, ?_, fun r hr => hr⟩
            · have ed : w64 ((d : Int) + 1) = ((d + 1 : Nat) : Int) := by rw [w64_in (by omega) (by omega)]; rfl
              rw [List.getElem?_eq_getElem h]
              simp only [e2, h16, decide_true, cond_true, Option.bind_some, Int.natCast_nonneg, ed, hm]
              rw [w64_in (n := n + 1) (by omega) (by omega), w64_in (n := n + 1 + m) (by omega) (by omega), w64_in (n := (i : Int) + 1) (by omega) (by omega)]
              rfl
            · intro hle r hr
              rw [List.take_succ_eq_append_getElem h, List.mem_append] at hr
              rcases hr with hr | hr
              · exact hall h16 r hr
              · simp only [List.mem_singleton] at hr; subst hr
                exact ⟨m, hm, by omega⟩
            · simp only [Int.toNat_natCast]; omega
          · exact .inr ⟨n, by simp [h, h16], h0, hn, fun h => absurd h h16⟩
        · refine .inr ⟨n, by simp [h], h0, hn, fun hle => ?_⟩
          have := hall hle
          rwa [List.take_of_length_le (by omega)] at this) ⟨l, d, 0, 0⟩ ⟨0, 0, by omega, rfl, by omega, by omega, by simp⟩
    refine ⟨r, ?_, h2.1, h2.2.1, fun h => ⟨by omega, h2.2.2 h⟩⟩
    rw [w3_size.eq]; unfold w3_size_b
    have : decide ((d : Int) > 7) = false := by simp; omega
    rw [this, cond_false, h1]; rfl
def isNm (s : ByteArray) : Prop := s = s_base ∨ s = s_x ∨ s = s_end_1 ∨ s = s_r
theorem names4 {i : Nat} (h : i < 4) : ∃ s, [s_base, s_x, s_end_1, s_r][i]? = some s ∧ isNm s := by
  have : i = 0 ∨ i = 1 ∨ i = 2 ∨ i = 3 := by omega
  rcases this with rfl | rfl | rfl | rfl <;> exact ⟨_, rfl, by simp [isNm]⟩
theorem w3_Names_eq : w3_Names = some [s_base, s_x, s_end_1, s_r] := by rw [w3_Names.eq]; rfl
theorem within_nat (a : Int) (n : Nat) (hn : 0 < n) (hn2 : n ≤ 4611686018427387904) : ∃ i : Nat, i < n ∧ w3_within a n = some (i : Int) := by
  have h1 := Int.emod_nonneg a (by omega : (n : Int) ≠ 0)
  have h2 := Int.emod_lt_of_pos a (by omega : (0 : Int) < n)
  exact ⟨(a % n).toNat, by omega, by rw [w3_within_eq a n (by omega) (by omega), Int.toNat_of_nonneg h1]⟩
theorem list_at {P : Int → Prop} (l : List Int) (h : ∀ x ∈ l, P x) {i : Nat} (hi : i < l.length) : ∃ v, l[i]? = some v ∧ P v := ⟨l[i], List.getElem?_eq_getElem hi, h _ (List.getElem_mem hi)⟩
theorem make_spec : ∀ (g d : Nat), g + d = 7 → ∀ r : T_w3_Raw, wf_w3_Raw r → (∃ m, w3_size r.L (d + 1 : Nat) = some m ∧ m ≤ 16) → ∃ x : X3, w3_Raw_Make r = some x.t ∧ x.ok isNm ∧ x.d ≤ g
  | 0, d, hd, r, hw, ⟨m, hm, hm2⟩ => by
    obtain rfl : d = 7 := by omega
    obtain ⟨_, _, _, hL, hLw⟩ := hw
    obtain ⟨n, h1, _, _, h2⟩ := size_tot 0 8 rfl r.L hL hLw
    rw [h1] at hm; cases hm
    exact absurd (h2 hm2).1 (by omega)
  | g + 1, d, hd, r, hw, ⟨m, hm, hm2⟩ => by
    obtain ⟨hK, hN, _, hL, hLw⟩ := hw
    obtain ⟨n, h1, _, _, h2⟩ := size_tot (g + 1) (d + 1) (by omega) r.L hL hLw
    rw [h1] at hm; cases hm
    obtain ⟨_, h3⟩ := h2 hm2
    have part : ∀ i : Nat, i < 2 → ∃ x : X3, w3_Raw_part r i = some x.t ∧ x.ok isNm ∧ x.d ≤ g := by
      intro i hi
      rw [w3_Raw_part.eq]; unfold w3_Raw_part_b
      by_cases h : i < r.L.length
      · obtain ⟨x, e1, e2, e3⟩ := make_spec g (d + 1) (by omega) r.L[i] (hLw _ (List.getElem_mem h)) (h3 _ (List.getElem_mem h))
        refine ⟨x, ?_, e2, e3⟩
        have e2 : (i : Int) < (r.L.length : Int) := by omega
        rw [get_nat _ h]
        simp only [e2, decide_true, cond_true, Option.bind_some, Int.natCast_nonneg, e1]
      · obtain ⟨j, hj, e⟩ := within_nat (w64 (r.N + i)) 5 (by decide) (by decide)
        have hj2 : (0 : Int) ≤ (j : Int) ∧ (j : Int) < 4294967296 := by omega
        refine ⟨.num j, ?_, hj2, by simp [X3.d]⟩
        have e2 : ¬ (i : Int) < (r.L.length : Int) := by omega
        have e' : w3_within (w64 (r.N + i)) 5 = some (j : Int) := e
        simp only [e2, decide_false, cond_false, e', Option.bind_some]; rfl
    obtain ⟨x0, p0, q0, r0⟩ := part 0 (by omega)
    obtain ⟨x1, p1, q1, r1⟩ := part 1 (by omega)
    have p0 : w3_Raw_part r 0 = some x0.t := p0
    have p1 : w3_Raw_part r 1 = some x1.t := p1
    obtain ⟨k, hk, ek⟩ := within_nat r.K 18 (by decide) (by decide)
    have ek : w3_within r.K 18 = some (k : Int) := ek
    rw [w3_Raw_Make.eq]; unfold w3_Raw_Make_b
    rw [ek]
    simp only [Option.bind_some]
    by_cases k4 : k < 4
    · obtain ⟨j, hj, ej⟩ := within_nat r.N 8 (by decide) (by decide)
      have ej : w3_within r.N 8 = some (j : Int) := ej
      obtain ⟨v, hv, hv2⟩ := list_at (P := fun x => 0 ≤ x ∧ x < 4294967296) [0, 1, 2, 255, 65536, 4294967295, 40, 7] (by decide) (i := j) (by simpa using hj)
      refine ⟨.num v, ?_, hv2, by simp [X3.d]⟩
      have e1 : decide ((k : Int) < 4) = true := by simp; omega
      have e3 : decide (0 ≤ (j : Int) ∧ (j : Int) < (([(0 : Int), (1 : Int), (2 : Int), (255 : Int), (65536 : Int), (4294967295 : Int), (40 : Int), (7 : Int)].length : Nat) : Int)) = true := by simp; omega
      simp only [e1, cond_true, ej, Option.bind_some, e3, Int.toNat_natCast, hv]; rfl
    · have e1 : decide ((k : Int) < 4) = false := by simp; omega
      by_cases k8 : k < 8
      · obtain ⟨j, hj, ej⟩ := within_nat r.N 4 (by decide) (by decide)
        have ej : w3_within r.N 4 = some (j : Int) := ej
        obtain ⟨s, hs, hs2⟩ := names4 hj
        refine ⟨.nm s, ?_, hs2, by simp [X3.d]⟩
        have e2 : decide ((k : Int) < 8) = true := by simp; omega
        simp only [e1, cond_false, e2, cond_true, w3_Names_eq, Option.bind_some, ej, Int.natCast_nonneg, decide_true, Int.toNat_natCast, hs]; rfl
      · have e2 : decide ((k : Int) < 8) = false := by simp; omega
        by_cases kh : k = 8
        · subst kh
          exact ⟨.here, rfl, trivial, by simp [X3.d]⟩
        · have e3 : ((k : Int) == 8) = false := by simp; omega
          by_cases k11 : k < 11
          · have e4 : decide ((k : Int) < 11) = true := by simp; omega
            refine ⟨.neg x0, ?_, q0, by simp only [X3.d]; omega⟩
            simp only [e1, e2, e3, e4, cond_false, cond_true, p0, Option.bind_some]; rfl
          · have e4 : decide ((k : Int) < 11) = false := by simp; omega
            refine ⟨.bin (k - 6) x0 x1, ?_, ⟨by omega, by omega, q0, q1⟩, by simp only [X3.d]; omega⟩
            simp only [e1, e2, e3, e4, cond_false, p0, p1, Option.bind_some]
            rw [w64_in (n := 5 + (k : Int)) (by omega) (by omega), w64_in (n := 5 + (k : Int) - 11) (by omega) (by omega)]
            simp only [X3.t]
            rw [show (5 : Int) + k - 11 = ((k - 6 : Nat) : Int) from by omega]
theorem few_one (l : List T_w3_Raw) (hl : l.length ≤ maxLen) (hw : ∀ r ∈ l, wf_w3_Raw r) : ∃ b, w3_Few l = some b ∧ (b = true → ∃ x : X3, w3_One l = some x.t ∧ x.ok isNm ∧ x.d ≤ 7) := by
  obtain ⟨n, h1, _, _, h2⟩ := size_tot 8 0 rfl l hl hw
  have h1 : w3_size l 0 = some n := h1
  refine ⟨decide (n ≤ 16), by rw [w3_Few.eq]; simp [w3_Few_b, h1], fun h => ?_⟩
  have h := of_decide_eq_true h
  obtain ⟨_, h3⟩ := h2 h
  rw [w3_One.eq]; unfold w3_One_b
  cases l with
  | nil => exact ⟨.num 1, rfl, by simp [X3.ok], by simp [X3.d]⟩
  | cons r l =>
    obtain ⟨x, e1, e2, e3⟩ := make_spec 7 0 rfl r (hw r (by simp)) (h3 r (by simp))
    refine ⟨x, ?_, e2, e3⟩
    have : ((((r :: l).length : Nat) : Int) == 0) = false := by simp; omega
    rw [this, cond_false]
    simp [e1]
theorem syms_spec (ns : List Int) (hl : ns.length ≤ maxLen) : ∃ s, w3_Syms ns = some s ∧ s.length ≤ 4 ∧ ∀ x ∈ s, B40 x.Value := by
  rw [maxLen_lt] at hl
  obtain ⟨r, h1, h2⟩ := loop_ind w3_Syms_L1.eq
    (fun a => ∃ i : Nat, ∃ s : List T_api_Sym, i ≤ ns.length ∧ i ≤ 4 ∧ a = ⟨ns, i, s⟩ ∧ s.length ≤ i ∧ ∀ x ∈ s, B40 x.Value) (fun a s => s.length ≤ 4 ∧ ∀ x ∈ s, B40 x.Value) (fun a => 4 - a.x4.toNat) (by
      rintro a ⟨i, s, hi, hi4, rfl, hs, hB⟩
      simp only [w3_Syms_L1_b, Int.toNat_natCast]
      by_cases h : i < ns.length
      · by_cases h4 : i < 4
        · have e1 : (i : Int) < (ns.length : Int) := by omega
          have e2 : (i : Int) < 4 := by omega
          obtain ⟨j, hj, ej⟩ := within_nat ns[i] 5 (by decide) (by decide)
          have ej : w3_within ns[i] 5 = some (j : Int) := ej
          obtain ⟨j2, hj2, ej2⟩ := within_nat (w64 (Int.tdiv ns[i] 5)) 8 (by decide) (by decide)
          have ej2 : w3_within (w64 (Int.tdiv ns[i] 5)) 8 = some (j2 : Int) := ej2
          obtain ⟨nm, hnm, _⟩ := names4 h4
          obtain ⟨v, hv, hv2⟩ := list_at (P := B40) [0, 1, -1, 1099511627776, -1099511627776, 100, 3, 1048576] (by decide) (i := j2) (by simpa using hj2)
          rw [List.getElem?_eq_getElem h]
          have e0 : decide (0 ≤ (i : Int)) = true := by simp
          simp only [e1, e2, decide_true, cond_true, e0, Option.bind_some, ej, w3_Names_eq, hnm, ej2, Int.toNat_natCast]
          by_cases hz : 0 < j
          · have e3 : decide ((j : Int) > 0) = true := by simp; omega
            have e4 : decide (0 ≤ (j2 : Int) ∧ (j2 : Int) < (([(0 : Int), (1 : Int), (-1 : Int), (1099511627776 : Int), (-1099511627776 : Int), (100 : Int), (3 : Int), (1048576 : Int)].length : Nat) : Int)) = true := by simp; omega
            have e5 : decide ((s.length + [T_api_Sym.mk nm v].length) * 24 ≤ most) = true := by simp [most]; omega
            refine .inl ⟨⟨ns, (i + 1 : Nat), s ++ [⟨nm, v⟩]⟩, ?_, ⟨i + 1, _, by omega, by omega, rfl, by simp; omega, ?_⟩, ?_, fun r hr => hr⟩
            · rw [e3, cond_true, e4, cond_true, hv]
              simp only [Option.bind_some, e5, cond_true]
              rw [w64_in (n := (i : Int) + 1) (by omega) (by omega)]; rfl
            · intro x hx
              rw [List.mem_append] at hx
              rcases hx with hx | hx
              · exact hB x hx
              · simp only [List.mem_singleton] at hx; subst hx; exact hv2
            · simp only [Int.toNat_natCast]; omega
          · have e3 : decide ((j : Int) > 0) = false := by simp; omega
            refine .inl ⟨⟨ns, (i + 1 : Nat), s⟩, ?_, ⟨i + 1, _, by omega, by omega, rfl, by omega, hB⟩, ?_, fun r hr => hr⟩
            · simp only [e3, cond_false]
              rw [w64_in (n := (i : Int) + 1) (by omega) (by omega)]; rfl
            · simp only [Int.toNat_natCast]; omega
        · have e1 : (i : Int) < (ns.length : Int) := by omega
          have e2 : ¬ (i : Int) < 4 := by omega
          exact .inr ⟨s, by simp only [e1, e2, decide_true, decide_false, cond_true, cond_false], by omega, hB⟩
      · have e1 : ¬ (i : Int) < (ns.length : Int) := by omega
        exact .inr ⟨s, by simp only [e1, decide_false, cond_false], by omega, hB⟩) ⟨ns, 0, []⟩ ⟨0, [], by omega, by omega, rfl, by simp, by simp⟩
  exact ⟨r, by rw [w3_Syms.eq]; unfold w3_Syms_b; rw [h1]; rfl, h2⟩
theorem w3_ExprEvals_true (l : List T_w3_Raw) (h : Int) (ns : List Int) (w : l.length ≤ maxLen ∧ ∀ y ∈ l, wf_w3_Raw y) (w1 : IntKind.i64.min ≤ h ∧ h ≤ IntKind.i64.max) (w2 : ns.length ≤ maxLen ∧ ∀ y ∈ ns, IntKind.i64.min ≤ y ∧ y ≤ IntKind.i64.max) :
    w3_ExprEvals l h ns = some true := by
  rw [w3_ExprEvals.eq]; unfold w3_ExprEvals_b
  obtain ⟨b, hb, hx⟩ := few_one l w.1 w.2
  obtain ⟨s, hs, hs1, hs2⟩ := syms_spec ns w2.1
  obtain ⟨j, hj, ej⟩ := within_nat h 1048577 (by decide) (by decide)
  have ej : w3_within h 1048577 = some (j : Int) := ej
  cases b with
  | false => simp [w3_known_true, hb]
  | true =>
    obtain ⟨x, e1, e2, e3⟩ := hx rfl
    have g1 := expr_Eval_eq (h := (j : Int)) (l := s) (by omega) ⟨by omega, by omega⟩ hs2 x e2
    have g2 := r3_Eval_eq (h := (j : Int)) (l := s) (by omega) ⟨by omega, by omega⟩ hs2 x e2
    simp [w3_known_true, hb, e1, hs, ej, g1, g2]
end Go.Ab
namespace Go.Ab
def ba (l : List UInt8) : ByteArray := ⟨l.toArray⟩
theorem bl_ba (l : List UInt8) : bl (ba l) = l := by simp [bl, ba]
theorem ba_bl (s : ByteArray) : ba (bl s) = s := by cases s; simp [bl, ba]
theorem ba_size (l : List UInt8) : (ba l).size = l.length := by rw [bl_size, bl_ba]
theorem ba_inj {a b : List UInt8} (h : ba a = ba b) : a = b := by rw [← bl_ba a, ← bl_ba b, h]
theorem ba_extract (l : List UInt8) (i j : Nat) : (ba l).extract i j = ba ((l.take j).drop i) := by rw [← ba_bl ((ba l).extract i j), bl_extract, bl_ba]
theorem ba_append (a b : List UInt8) : ba a ++ ba b = ba (a ++ b) := by rw [← ba_bl (ba a ++ ba b), bl_append, bl_ba, bl_ba]
theorem ba_getD (l : List UInt8) (i : Nat) (d : UInt8) : (ba l).data.getD i d = l.getD i d := by rw [bl_getD, bl_ba]
theorem eqS_ba (a b : List UInt8) : eqS (ba a) (ba b) = decide (a = b) := by rw [eqS_decide, bl_ba, bl_ba]
/-- what kind a byte is of -/
def isD (b : UInt8) : Bool := decide (48 ≤ b.toNat ∧ b.toNat ≤ 57)
def isS (b : UInt8) : Bool := decide (97 ≤ b.toNat ∧ b.toNat ≤ 122 ∨ b.toNat = 95)
def isI (b : UInt8) : Bool := isS b || isD b
def isH (b : UInt8) : Bool := isD b || decide (97 ≤ b.toNat ∧ b.toNat ≤ 102)
theorem get!_eq (s : ByteArray) (i : Nat) (h : i < s.size) : s.get! i = (bl s)[i]'h := by
  simp only [ByteArray.get!, bl]
  have h' : i < s.data.size := h
  simp [getElem!_def, Array.getElem?_eq_getElem h']
theorem decode_lt (s : List UInt8) {i : Nat} (h : i < s.length) (hb : s[i].toNat < 128) : Utf8.decode (ba s) i = (s[i].toNat, 1) := by
  have hg : ((ba s).get! (i + 0)).toNat = s[i].toNat := by
    rw [Nat.add_zero, get!_eq _ _ (by rw [ba_size]; exact h)]; simp [bl_ba]
  unfold Utf8.decode
  simp only [hg]
  rw [if_pos hb]
theorem decode_ge (s : List UInt8) {i : Nat} (h : i < s.length) (hb : ¬ s[i].toNat < 128) : 128 ≤ (Utf8.decode (ba s) i).1 := by
  have hg : ((ba s).get! (i + 0)).toNat = s[i].toNat := by
    rw [Nat.add_zero, get!_eq _ _ (by rw [ba_size]; exact h)]; simp [bl_ba]
  unfold Utf8.decode
  simp only [hg]
  rw [if_neg hb]
  have he : Utf8.runeError = 65533 := rfl
  repeat' split
  all_goals simp_all
  all_goals omega
theorem takeWhile_at {p : UInt8 → Bool} : ∀ (s : List UInt8) (i : Nat) (hi : i ≤ s.length), (s.take i).all p = true → (∀ h : i < s.length, p s[i] = false) → s.takeWhile p = s.take i
  | s, 0, _, _, h => by
    cases s with
    | nil => rfl
    | cons b s => have := h (by simp); simp at this; simp [this]
  | [], i + 1, hi, _, _ => by simp at hi
  | b :: s, i + 1, hi, ha, h => by
    simp only [List.take_succ_cons, List.all_cons, Bool.and_eq_true] at ha
    simp only [List.take_succ_cons, List.takeWhile_cons, ha.1, if_true]
    rw [takeWhile_at s i (by simpa using hi) ha.2 (fun hl => h (by simp only [List.length_cons]; omega))]
theorem all_take_succ {p : UInt8 → Bool} {s : List UInt8} {i : Nat} (h : i < s.length) (ha : (s.take i).all p = true) (hp : p s[i] = true) : (s.take (i + 1)).all p = true := by
  rw [List.take_succ_eq_append_getElem h, List.all_append, ha]; simp [hp]
theorem expr_digit_eq (n : Nat) : expr_digit n = some (decide (48 ≤ n ∧ n ≤ 57)) := by
  rw [expr_digit.eq]; unfold expr_digit_b
  have c1 : decide ((n : Int) ≥ 48) = decide (48 ≤ n) := decide_eq_decide.2 (by omega)
  have c2 : decide ((n : Int) ≤ 57) = decide (n ≤ 57) := decide_eq_decide.2 (by omega)
  rw [c1, c2, Bool.decide_and]
  cases decide (48 ≤ n) <;> rfl
theorem expr_small_eq (n : Nat) : expr_small n = some (decide (97 ≤ n ∧ n ≤ 122 ∨ n = 95)) := by
  rw [expr_small.eq]; unfold expr_small_b
  have c1 : decide ((n : Int) ≥ 97) = decide (97 ≤ n) := decide_eq_decide.2 (by omega)
  have c2 : decide ((n : Int) ≤ 122) = decide (n ≤ 122) := decide_eq_decide.2 (by omega)
  have c3 : (((n : Nat) : Int) == 95) = decide (n = 95) := by rw [Bool.eq_iff_iff, beq_iff_eq, decide_eq_true_iff]; omega
  rw [c1, c2, c3, Bool.decide_or, Bool.decide_and]
  cases decide (97 ≤ n) <;> cases decide (n ≤ 122) <;> rfl
theorem expr_inner_eq (n : Nat) : expr_inner n = some (decide (97 ≤ n ∧ n ≤ 122 ∨ n = 95) || decide (48 ≤ n ∧ n ≤ 57)) := by
  rw [expr_inner.eq]; unfold expr_inner_b
  rw [expr_small_eq, expr_digit_eq]
  simp only [Option.bind_some]
  cases decide (97 ≤ n ∧ n ≤ 122 ∨ n = 95) <;> rfl
theorem expr_hex_eq (n : Nat) : expr_hex n = some (decide (48 ≤ n ∧ n ≤ 57) || decide (97 ≤ n ∧ n ≤ 102)) := by
  rw [expr_hex.eq]; unfold expr_hex_b
  have c1 : decide ((n : Int) ≥ 97) = decide (97 ≤ n) := decide_eq_decide.2 (by omega)
  have c2 : decide ((n : Int) ≤ 102) = decide (n ≤ 102) := decide_eq_decide.2 (by omega)
  rw [expr_digit_eq, c1, c2]
  simp only [Option.bind_some]
  rw [Bool.decide_and (97 ≤ n)]
  cases decide (48 ≤ n ∧ n ≤ 57) <;> cases decide (97 ≤ n) <;> rfl
theorem expr_as_eq (s : List UInt8) : expr_as (ba s) = some (ba (s.takeWhile isH)) := by
  obtain ⟨r, h1, h2⟩ := loop_ind expr_as_L1.eq (fun a => ∃ i : Nat, i ≤ s.length ∧ a = ⟨ba s, ba s, i⟩ ∧ (s.take i).all isH = true) (fun _ r => r = .inl (ba (s.takeWhile isH)) ∨ r = .inr (ba (s.takeWhile isH))) (fun a => s.length - a.i0p) (by
    rintro a ⟨i, hi, rfl, ha⟩
    simp only [expr_as_L1_b, ba_size]
    by_cases h : i < s.length
    · have c1 : decide (i < s.length) = true := by simp [h]
      by_cases hb : s[i].toNat < 128
      · rw [decode_lt s h hb, c1, cond_true]
        simp only [expr_hex_eq, Option.bind_some]
        have hp : isH s[i] = (decide (48 ≤ s[i].toNat ∧ s[i].toNat ≤ 57) || decide (97 ≤ s[i].toNat ∧ s[i].toNat ≤ 102)) := by simp [isH, isS, isD, isI]
        rw [← hp]
        cases hq : isH s[i] with
        | true => exact .inl ⟨⟨ba s, ba s, i + 1⟩, rfl, ⟨i + 1, by omega, rfl, all_take_succ h ha hq⟩, by simp only; omega, fun r hr => hr⟩
        | false =>
          refine .inr ⟨_, ?_, .inl rfl⟩
          rw [takeWhile_at s i hi ha (fun _ => hq)]
          have c2 : decide (0 ≤ (0 : Int) ∧ (0 : Int) ≤ ((i : Nat) : Int) ∧ ((i : Nat) : Int) ≤ ((s.length : Nat) : Int)) = true := by simp; omega
          simp only [Bool.not_false, cond_true, c2, Int.toNat_natCast, Int.toNat_zero, ba_extract, List.drop_zero]
      · have hd := decode_ge s h hb
        have hq : isH s[i] = false := by simp [isH, isS, isD, isI]; omega
        rw [c1, cond_true]
        simp only [expr_hex_eq, Option.bind_some]
        generalize (Utf8.decode (ba s) i).1 = r at hd
        have hp : (decide (48 ≤ r ∧ r ≤ 57) || decide (97 ≤ r ∧ r ≤ 102)) = false := by simp; omega
        rw [hp]
        refine .inr ⟨_, ?_, .inl rfl⟩
        rw [takeWhile_at s i hi ha (fun _ => hq)]
        have c2 : decide (0 ≤ (0 : Int) ∧ (0 : Int) ≤ ((i : Nat) : Int) ∧ ((i : Nat) : Int) ≤ ((s.length : Nat) : Int)) = true := by simp; omega
        simp only [Bool.not_false, cond_true, c2, Int.toNat_natCast, Int.toNat_zero, ba_extract, List.drop_zero]
    · have c1 : decide (i < s.length) = false := by simp; omega
      refine .inr ⟨_, by rw [c1]; rfl, .inr ?_⟩
      rw [takeWhile_at s i hi ha (fun h' => absurd h' h), List.take_of_length_le (by omega)]) ⟨ba s, ba s, 0⟩ ⟨0, by omega, rfl, by simp⟩
  rw [expr_as.eq]; unfold expr_as_b
  rw [h1]
  rcases h2 with rfl | rfl <;> rfl
theorem expr_as_2_eq (s : List UInt8) : expr_as_2 (ba s) = some (ba (s.takeWhile isI)) := by
  obtain ⟨r, h1, h2⟩ := loop_ind expr_as_2_L1.eq (fun a => ∃ i : Nat, i ≤ s.length ∧ a = ⟨ba s, ba s, i⟩ ∧ (s.take i).all isI = true) (fun _ r => r = .inl (ba (s.takeWhile isI)) ∨ r = .inr (ba (s.takeWhile isI))) (fun a => s.length - a.i0p) (by
    rintro a ⟨i, hi, rfl, ha⟩
    simp only [expr_as_2_L1_b, ba_size]
    by_cases h : i < s.length
    · have c1 : decide (i < s.length) = true := by simp [h]
      by_cases hb : s[i].toNat < 128
      · rw [decode_lt s h hb, c1, cond_true]
        simp only [expr_inner_eq, Option.bind_some]
        have hp : isI s[i] = (decide (97 ≤ s[i].toNat ∧ s[i].toNat ≤ 122 ∨ s[i].toNat = 95) || decide (48 ≤ s[i].toNat ∧ s[i].toNat ≤ 57)) := by simp [isI, isS, isD, isI]
        rw [← hp]
        cases hq : isI s[i] with
        | true => exact .inl ⟨⟨ba s, ba s, i + 1⟩, rfl, ⟨i + 1, by omega, rfl, all_take_succ h ha hq⟩, by simp only; omega, fun r hr => hr⟩
        | false =>
          refine .inr ⟨_, ?_, .inl rfl⟩
          rw [takeWhile_at s i hi ha (fun _ => hq)]
          have c2 : decide (0 ≤ (0 : Int) ∧ (0 : Int) ≤ ((i : Nat) : Int) ∧ ((i : Nat) : Int) ≤ ((s.length : Nat) : Int)) = true := by simp; omega
          simp only [Bool.not_false, cond_true, c2, Int.toNat_natCast, Int.toNat_zero, ba_extract, List.drop_zero]
      · have hd := decode_ge s h hb
        have hq : isI s[i] = false := by simp [isI, isS, isD, isI]; omega
        rw [c1, cond_true]
        simp only [expr_inner_eq, Option.bind_some]
        generalize (Utf8.decode (ba s) i).1 = r at hd
        have hp : (decide (97 ≤ r ∧ r ≤ 122 ∨ r = 95) || decide (48 ≤ r ∧ r ≤ 57)) = false := by simp; omega
        rw [hp]
        refine .inr ⟨_, ?_, .inl rfl⟩
        rw [takeWhile_at s i hi ha (fun _ => hq)]
        have c2 : decide (0 ≤ (0 : Int) ∧ (0 : Int) ≤ ((i : Nat) : Int) ∧ ((i : Nat) : Int) ≤ ((s.length : Nat) : Int)) = true := by simp; omega
        simp only [Bool.not_false, cond_true, c2, Int.toNat_natCast, Int.toNat_zero, ba_extract, List.drop_zero]
    · have c1 : decide (i < s.length) = false := by simp; omega
      refine .inr ⟨_, by rw [c1]; rfl, .inr ?_⟩
      rw [takeWhile_at s i hi ha (fun h' => absurd h' h), List.take_of_length_le (by omega)]) ⟨ba s, ba s, 0⟩ ⟨0, by omega, rfl, by simp⟩
  rw [expr_as_2.eq]; unfold expr_as_2_b
  rw [h1]
  rcases h2 with rfl | rfl <;> rfl
theorem expr_as_3_eq (s : List UInt8) : expr_as_3 (ba s) = some (ba (s.takeWhile isD)) := by
  obtain ⟨r, h1, h2⟩ := loop_ind expr_as_3_L1.eq (fun a => ∃ i : Nat, i ≤ s.length ∧ a = ⟨ba s, ba s, i⟩ ∧ (s.take i).all isD = true) (fun _ r => r = .inl (ba (s.takeWhile isD)) ∨ r = .inr (ba (s.takeWhile isD))) (fun a => s.length - a.i0p) (by
    rintro a ⟨i, hi, rfl, ha⟩
    simp only [expr_as_3_L1_b, ba_size]
    by_cases h : i < s.length
    · have c1 : decide (i < s.length) = true := by simp [h]
      by_cases hb : s[i].toNat < 128
      · rw [decode_lt s h hb, c1, cond_true]
        simp only [expr_digit_eq, Option.bind_some]
        have hp : isD s[i] = decide (48 ≤ s[i].toNat ∧ s[i].toNat ≤ 57) := by simp [isD, isS, isD, isI]
        rw [← hp]
        cases hq : isD s[i] with
        | true => exact .inl ⟨⟨ba s, ba s, i + 1⟩, rfl, ⟨i + 1, by omega, rfl, all_take_succ h ha hq⟩, by simp only; omega, fun r hr => hr⟩
        | false =>
          refine .inr ⟨_, ?_, .inl rfl⟩
          rw [takeWhile_at s i hi ha (fun _ => hq)]
          have c2 : decide (0 ≤ (0 : Int) ∧ (0 : Int) ≤ ((i : Nat) : Int) ∧ ((i : Nat) : Int) ≤ ((s.length : Nat) : Int)) = true := by simp; omega
          simp only [Bool.not_false, cond_true, c2, Int.toNat_natCast, Int.toNat_zero, ba_extract, List.drop_zero]
      · have hd := decode_ge s h hb
        have hq : isD s[i] = false := by simp [isD, isS, isD, isI]; omega
        rw [c1, cond_true]
        simp only [expr_digit_eq, Option.bind_some]
        generalize (Utf8.decode (ba s) i).1 = r at hd
        have hp : (decide (48 ≤ r ∧ r ≤ 57)) = false := by simp; omega
        rw [hp]
        refine .inr ⟨_, ?_, .inl rfl⟩
        rw [takeWhile_at s i hi ha (fun _ => hq)]
        have c2 : decide (0 ≤ (0 : Int) ∧ (0 : Int) ≤ ((i : Nat) : Int) ∧ ((i : Nat) : Int) ≤ ((s.length : Nat) : Int)) = true := by simp; omega
        simp only [Bool.not_false, cond_true, c2, Int.toNat_natCast, Int.toNat_zero, ba_extract, List.drop_zero]
    · have c1 : decide (i < s.length) = false := by simp; omega
      refine .inr ⟨_, by rw [c1]; rfl, .inr ?_⟩
      rw [takeWhile_at s i hi ha (fun h' => absurd h' h), List.take_of_length_le (by omega)]) ⟨ba s, ba s, 0⟩ ⟨0, by omega, rfl, by simp⟩
  rw [expr_as_3.eq]; unfold expr_as_3_b
  rw [h1]
  rcases h2 with rfl | rfl <;> rfl
end Go.Ab
namespace Go.Ab
def dropB (s : List UInt8) : List UInt8 := s.dropWhile (· == 32)
theorem dropB_idem (s : List UInt8) : dropB (dropB s) = dropB s := by
  unfold dropB
  induction s with
  | nil => rfl
  | cons b s ih =>
    by_cases h : b = 32
    · simp [List.dropWhile_cons, h, ih]
    · simp [List.dropWhile_cons, h]
theorem dropB_le (s : List UInt8) : (dropB s).length ≤ s.length := by unfold dropB; exact (List.dropWhile_sublist _).length_le
abbrev PS (s : List UInt8) (d : Int) (b : Bool) : T_expr_parser := ⟨ba s, d, b⟩
theorem trimLeft_eq (s : List UInt8) : strings_TrimLeft (ba s) = some (ba (dropB s)) := by
  have loop : ∀ s : List UInt8, strings_trimLeftByte_L1 ⟨ba s, 32⟩ = some (ba (dropB s)) := by
    intro s
    induction s with
    | nil => rw [strings_trimLeftByte_L1.eq]; rfl
    | cons b s ih =>
      rw [strings_trimLeftByte_L1.eq]; unfold strings_trimLeftByte_L1_b
      have c1 : decide (((b :: s).length : Int) > 0) = true := by simp only [List.length_cons, decide_eq_true_eq]; omega
      have c2 : decide (0 ≤ (0 : Int) ∧ (0 : Int) < ((b :: s).length : Int)) = true := by simp only [List.length_cons, decide_eq_true_eq]; omega
      have c4 : decide (0 ≤ (1 : Int) ∧ (1 : Int) ≤ (((b :: s).length : Nat) : Int) ∧ (((b :: s).length : Nat) : Int) ≤ (((b :: s).length : Nat) : Int)) = true := by simp only [List.length_cons, decide_eq_true_eq]; omega
      simp only [ba_size, c1, c2, cond_true, ba_getD]
      by_cases h : b = 32
      · have c3 : ((((b :: s).getD (Int.toNat 0) 0).toNat : Int) == 32) = true := by subst h; rfl
        rw [c3, cond_true, c4, cond_true]
        simp only [Option.bind_some, Sum.elim_inl, ba_extract, Int.toNat_natCast]
        rw [show List.drop (Int.toNat 1) (List.take (b :: s).length (b :: s)) = s from by rw [List.take_length]; rfl, ih]
        simp [dropB, List.dropWhile_cons, h]
      · have c3 : ((((b :: s).getD (Int.toNat 0) 0).toNat : Int) == 32) = false := by
          rw [beq_eq_false_iff_ne]
          intro e
          apply h
          have e : (b.toNat : Int) = 32 := e
          exact UInt8.toNat_inj.1 (by have : (32 : UInt8).toNat = 32 := rfl; omega)
        rw [c3, cond_false]
        simp only [Option.bind_some, Sum.elim_inr]
        simp [dropB, List.dropWhile_cons, h]
  rw [strings_TrimLeft.eq]; unfold strings_TrimLeft_b
  by_cases h : s = []
  · subst h; have : eqS (ba []) s_ = true := eqS_iff.2 rfl
    rw [this]; rfl
  · have : eqS (ba s) s_ = false := by
      rw [show s_ = ba [] from rfl, eqS_ba]; simp [h]
    rw [this, cond_false, strings_trimLeftByte.eq]; unfold strings_trimLeftByte_b
    rw [loop s]; rfl
theorem blanks_eq (s : List UInt8) (d : Int) (b : Bool) : expr_parser_blanks (PS s d b) = some (PS (dropB s) d b) := by
  rw [expr_parser_blanks.eq]; unfold expr_parser_blanks_b
  simp only [trimLeft_eq, Option.bind_some]
/-- does a begin s? -/
def pre (a s : List UInt8) : Bool := decide (s.take a.length = a)
theorem hasPrefix_eq (s a : List UInt8) : strings_HasPrefix (ba s) (ba a) = some (pre a s) := by
  rw [strings_HasPrefix.eq]; unfold strings_HasPrefix_b
  rw [stringslite_HasPrefix.eq]; unfold stringslite_HasPrefix_b
  simp only [ba_size, ba_extract, eqS_ba, Int.toNat_natCast]
  by_cases h : a.length ≤ s.length
  · have c1 : decide ((s.length : Int) ≥ (a.length : Int)) = true := by simp; omega
    have c2 : decide (0 ≤ (0 : Int) ∧ (0 : Int) ≤ (a.length : Int) ∧ (a.length : Int) ≤ (s.length : Int)) = true := by simp; omega
    rw [c1, cond_true, c2, cond_true]; rfl
  · have c1 : decide ((s.length : Int) ≥ (a.length : Int)) = false := by simp; omega
    rw [c1, cond_false]
    simp only [Option.bind_some, pre]
    rw [decide_eq_false]
    intro e
    have := congrArg List.length e
    simp at this; omega
theorem hasPrefix2_eq (s : List UInt8) : strings_HasPrefix_2 (ba s) = some (pre [48, 120] s) := by
  rw [strings_HasPrefix_2.eq]; unfold strings_HasPrefix_2_b
  have h := hasPrefix_eq s [48, 120]
  rw [strings_HasPrefix.eq] at h; unfold strings_HasPrefix_b at h
  exact h
theorem pre_len {a s : List UInt8} (h : pre a s = true) : a.length ≤ s.length ∧ s = a ++ s.drop a.length := by
  have e : s.take a.length = a := of_decide_eq_true h
  refine ⟨?_, ?_⟩
  · have := congrArg List.length e; simp at this; omega
  · conv => lhs; rw [← List.take_append_drop a.length s, e]
theorem take_eq (a s : List UInt8) (d : Int) (b : Bool) : expr_parser_take (ba a) (PS s d b) = some (bif b then (false, PS (dropB s) d b) else bif pre a (dropB s) then (true, PS ((dropB s).drop a.length) d b) else (false, PS (dropB s) d b)) := by
  rw [expr_parser_take.eq]; unfold expr_parser_take_b
  simp only [blanks_eq, Option.bind_some]
  cases b with
  | true => rfl
  | false =>
    simp only [cond_false, hasPrefix_eq, Option.bind_some]
    cases h : pre a (dropB s) with
    | false => rfl
    | true =>
      obtain ⟨h1, h2⟩ := pre_len h
      simp only [Bool.not_true, cond_false, ba_size, ba_extract, Int.toNat_natCast, cond_true]
      have c2 : decide (0 ≤ (a.length : Int) ∧ (a.length : Int) ≤ ((dropB s).length : Int) ∧ ((dropB s).length : Int) ≤ ((dropB s).length : Int)) = true := by simp; omega
      rw [c2, cond_true, List.take_length]
/-- the signs of kinds of two -/
def sg (k : Nat) : List UInt8 := match k with
  | 5 => [43] | 6 => [45] | 7 => [42] | 8 => [38] | 9 => [124] | 10 => [60, 60] | 11 => [62, 62] | _ => []
theorem signs_eq : expr_signs = some [s_, s_, s_, h_2e, h_2d, ba (sg 5), ba (sg 6), ba (sg 7), ba (sg 8), ba (sg 9), ba (sg 10), ba (sg 11)] := by rw [expr_signs.eq]; rfl
theorem signs_at {k : Nat} (h : 5 ≤ k ∧ k ≤ 11) : [s_, s_, s_, h_2e, h_2d, ba (sg 5), ba (sg 6), ba (sg 7), ba (sg 8), ba (sg 9), ba (sg 10), ba (sg 11)][k]? = some (ba (sg k)) := by
  have : k = 5 ∨ k = 6 ∨ k = 7 ∨ k = 8 ∨ k = 9 ∨ k = 10 ∨ k = 11 := by omega
  rcases this with rfl | rfl | rfl | rfl | rfl | rfl | rfl <;> rfl
/-- the kinds of a level -/
def lv (l : Nat) : List Nat := match l with
  | 0 => [9] | 1 => [8] | 2 => [10, 11] | 3 => [5, 6] | _ => [7]
theorem lv_ok {l k : Nat} (h : k ∈ lv l) : 5 ≤ k ∧ k ≤ 11 := by
  unfold lv at h; split at h <;> simp at h <;> omega
/-- a sign of a level that stands here -/
def kindS (ks : List Nat) (t : List UInt8) : Option Nat := ks.find? fun k => pre (sg k) t
theorem kind_eq (ks : List Nat) (hk : ∀ k ∈ ks, 5 ≤ k ∧ k ≤ 11) (hne : ks ≠ []) (hl : ks.length ≤ 1000) (s : List UInt8) (d : Int) (b : Bool) : expr_parser_kind (ks.map fun k : Nat => (k : Int)) (PS s d b) =
    some (bif b then (0, PS (dropB s) d b) else match kindS ks (dropB s) with | some k => ((k : Int), PS ((dropB s).drop (sg k).length) d b) | none => (0, PS (dropB s) d b)) := by
  obtain ⟨r, h1, h2⟩ := loop_ind expr_parser_kind_L1.eq
    (fun a => ∃ i : Nat, ∃ s' : List UInt8, i ≤ ks.length ∧ dropB s' = dropB s ∧ (i = ks.length → s' = dropB s) ∧ a = ⟨ks.map fun k : Nat => (k : Int), ks.length, i, PS s' d b⟩ ∧ (b = false → kindS (ks.drop i) (dropB s) = kindS ks (dropB s)))
    (fun _ r => r = bif b then .inr (PS (dropB s) d b) else match kindS ks (dropB s) with | some k => .inl ⟨(k : Int), PS ((dropB s).drop (sg k).length) d b⟩ | none => .inr (PS (dropB s) d b)) (fun a => ks.length - a.x9.toNat) (by
    rintro a ⟨i, s', hi, hs, hend, rfl, hq⟩
    simp only [expr_parser_kind_L1_b, Int.toNat_natCast]
    by_cases h : i < ks.length
    · have c1 : decide ((i : Int) < (ks.length : Int)) = true := by simp; omega
      have hd : ks.drop i = ks[i] :: ks.drop (i + 1) := List.drop_eq_getElem_cons h
      have hki := hk ks[i] (List.getElem_mem h)
      rw [c1, cond_true, List.getElem?_map, List.getElem?_eq_getElem h]
      simp only [Int.natCast_nonneg, decide_true, cond_true, Option.map_some, Option.bind_some, signs_eq, Int.toNat_natCast, signs_at hki, take_eq, hs]
      cases b with
      | true =>
        refine .inl ⟨⟨ks.map fun k : Nat => (k : Int), ks.length, (i + 1 : Nat), PS (dropB s) d true⟩, ?_, ⟨i + 1, dropB s, by omega, dropB_idem s, fun _ => rfl, rfl, fun e => by cases e⟩, by simp only [Int.toNat_natCast]; omega, fun r hr => hr⟩
        simp only [cond_true, cond_false]
        rw [w64_in (n := (i : Int) + 1) (by omega) (by omega)]; rfl
      | false =>
        simp only [cond_false]
        have hq := hq rfl
        cases hp : pre (sg ks[i]) (dropB s) with
        | true =>
          have : kindS ks (dropB s) = some ks[i] := by rw [← hq, hd]; simp only [kindS, List.find?_cons, hp]
          refine .inr ⟨_, rfl, ?_⟩
          rw [this]; rfl
        | false =>
          refine .inl ⟨⟨ks.map fun k : Nat => (k : Int), ks.length, (i + 1 : Nat), PS (dropB s) d false⟩, ?_, ⟨i + 1, dropB s, by omega, dropB_idem s, fun _ => rfl, rfl, fun _ => ?_⟩, by simp only [Int.toNat_natCast]; omega, fun r hr => hr⟩
          · simp only [cond_false]
            rw [w64_in (n := (i : Int) + 1) (by omega) (by omega)]; rfl
          · rw [← hq, hd]; simp only [kindS, List.find?_cons, hp]
    · have c1 : decide ((i : Int) < (ks.length : Int)) = false := by simp; omega
      have he := hend (by omega)
      subst he
      refine .inr ⟨_, by rw [c1]; rfl, ?_⟩
      cases b with
      | true => rfl
      | false =>
        have hq := hq rfl
        rw [List.drop_eq_nil_of_le (by omega)] at hq
        rw [← hq]; rfl)
    ⟨ks.map fun k : Nat => (k : Int), ks.length, 0, PS s d b⟩ ⟨0, s, by omega, rfl, fun e => by cases ks with | nil => exact absurd rfl hne | cons => simp at e, rfl, fun _ => rfl⟩
  rw [expr_parser_kind.eq]; unfold expr_parser_kind_b
  rw [List.length_map, h1, h2]
  cases b with
  | true => rfl
  | false =>
    simp only [cond_false]
    cases kindS ks (dropB s) <;> rfl
end Go.Ab
namespace Go.Ab
abbrev E0 : T_api_Expr := ⟨0, 0, s_, []⟩
theorem i32_in {n : Int} (h1 : 0 ≤ n) (h2 : n ≤ 2147483647) : IntKind.i32.wrap n = n := by
  have e : n % 4294967296 = n := Int.emod_eq_of_lt h1 (by omega)
  unfold IntKind.wrap
  simp [IntKind.bits, IntKind.signed, e]
  omega
def dg (b : UInt8) : Nat := if 97 ≤ b.toNat then b.toNat - 97 + 10 else b.toNat - 48
def numv (base : Nat) : List UInt8 → Nat → Option Nat
  | [], n => some n
  | b :: l, n => if n * base + dg b ≥ 4294967296 then none else numv base l (n * base + dg b)
theorem dg_lt {b : UInt8} (h : isH b = true) : dg b < 16 := by
  unfold isH isD at h; unfold dg
  simp only [Bool.or_eq_true, decide_eq_true_eq] at h
  split <;> omega
theorem numv_lt {base : Nat} : ∀ {l : List UInt8} {n r : Nat}, n < 4294967296 → numv base l n = some r → r < 4294967296
  | [], n, r, h, e => by cases e; exact h
  | b :: l, n, r, h, e => by
    simp only [numv] at e
    split at e
    · cases e
    · exact numv_lt (by omega) e
theorem fail_eq (s : List UInt8) (d : Int) (b : Bool) : expr_parser_fail (PS s d b) = some (E0, PS s d true) := by rw [expr_parser_fail.eq]; rfl
theorem number_eq (ds r : List UInt8) (hds : ds.all isH = true) (base : Nat) (hb : base ≤ 16) (d : Int) (b : Bool) : expr_parser_number (ba ds) base (PS (ds ++ r) d b) =
    some (match numv base ds 0 with | some n => (⟨1, n, s_, []⟩, PS r d b) | none => (E0, PS (ds ++ r) d true)) := by
  obtain ⟨x, h1, h2⟩ := loop_ind expr_parser_number_L1.eq
    (fun a => ∃ i n : Nat, i ≤ ds.length ∧ n < 4294967296 ∧ a = ⟨ba ds, base, n, PS (ds ++ r) d b, E0, ba ds, i⟩ ∧ numv base (ds.drop i) n = numv base ds 0)
    (fun _ x => match numv base ds 0 with | some n => x = .inr ⟨ba ds, n, PS (ds ++ r) d b, E0⟩ | none => x = .inl ⟨PS (ds ++ r) d true, E0⟩)
    (fun a => ds.length - a.i2p) (by
    rintro a ⟨i, n, hi, hn, rfl, hq⟩
    simp only [expr_parser_number_L1_b, ba_size]
    by_cases h : i < ds.length
    · have c1 : decide (i < ds.length) = true := decide_eq_true h
      have hH : isH ds[i] = true := List.all_eq_true.1 hds _ (List.getElem_mem h)
      have hH2 := hH
      unfold isH isD at hH2
      simp only [Bool.or_eq_true, decide_eq_true_eq] at hH2
      have hdg := dg_lt hH
      have hd : ds.drop i = ds[i] :: ds.drop (i + 1) := List.drop_eq_getElem_cons h
      rw [hd] at hq
      simp only [numv] at hq
      rw [c1, cond_true, decode_lt ds h (by omega)]
      simp only [fail_eq, Option.bind_some]
      have hmul : n * base ≤ 4294967296 * 16 := Nat.mul_le_mul (by omega) hb
      have em : w64 ((n : Int) * (base : Int)) = ((n * base : Nat) : Int) := by rw [← Int.natCast_mul]; exact w64_in (by omega) (by omega)
      have key : ∀ x : Int, x = (dg ds[i] : Int) → w64 (w64 ((n : Int) * (base : Int)) + w64 x) = ((n * base + dg ds[i] : Nat) : Int) := by
        intro x hx
        rw [em, hx, w64_in (n := (dg ds[i] : Int)) (by omega) (by omega), w64_in (by omega) (by omega)]; omega
      by_cases h97 : 97 ≤ ds[i].toNat
      · have c2 : decide ((ds[i].toNat : Int) ≥ 97) = true := decide_eq_true (by omega)
        have hdv : dg ds[i] = ds[i].toNat - 97 + 10 := by unfold dg; rw [if_pos h97]
        have e1 : w64 (IntKind.i32.wrap ((ds[i].toNat : Int) - 97)) + 10 = (dg ds[i] : Int) := by
          rw [i32_in (by omega) (by omega), w64_in (by omega) (by omega)]; omega
        rw [c2, cond_true, key _ e1]
        by_cases hbig : n * base + dg ds[i] ≥ 4294967296
        · rw [if_pos hbig] at hq
          have c3 : decide (((n * base + dg ds[i] : Nat) : Int) ≥ 4294967296) = true := decide_eq_true (by omega)
          rw [c3, cond_true]
          exact .inr ⟨_, rfl, by rw [← hq]⟩
        · rw [if_neg hbig] at hq
          have c3 : decide (((n * base + dg ds[i] : Nat) : Int) ≥ 4294967296) = false := decide_eq_false (by omega)
          rw [c3, cond_false]
          exact .inl ⟨_, rfl, ⟨i + 1, _, by omega, by omega, rfl, hq⟩, by simp only; omega, fun x hx => hx⟩
      · have c2 : decide ((ds[i].toNat : Int) ≥ 97) = false := decide_eq_false (by omega)
        have hdv : dg ds[i] = ds[i].toNat - 48 := by unfold dg; rw [if_neg h97]
        have e1 : IntKind.i32.wrap ((ds[i].toNat : Int) - 48) = (dg ds[i] : Int) := by
          rw [i32_in (by omega) (by omega)]; omega
        rw [c2, cond_false, key _ e1]
        by_cases hbig : n * base + dg ds[i] ≥ 4294967296
        · rw [if_pos hbig] at hq
          have c3 : decide (((n * base + dg ds[i] : Nat) : Int) ≥ 4294967296) = true := decide_eq_true (by omega)
          rw [c3, cond_true]
          exact .inr ⟨_, rfl, by rw [← hq]⟩
        · rw [if_neg hbig] at hq
          have c3 : decide (((n * base + dg ds[i] : Nat) : Int) ≥ 4294967296) = false := decide_eq_false (by omega)
          rw [c3, cond_false]
          exact .inl ⟨_, rfl, ⟨i + 1, _, by omega, by omega, rfl, hq⟩, by simp only; omega, fun x hx => hx⟩
    · have c1 : decide (i < ds.length) = false := decide_eq_false h
      rw [List.drop_eq_nil_of_le (by omega)] at hq
      refine .inr ⟨_, by rw [c1]; rfl, ?_⟩
      rw [← hq]; rfl) ⟨ba ds, base, 0, PS (ds ++ r) d b, E0, ba ds, 0⟩ ⟨0, 0, by omega, by omega, rfl, rfl⟩
  rw [expr_parser_number.eq]; unfold expr_parser_number_b
  rw [h1]
  cases hv : numv base ds 0 with
  | none => rw [hv] at h2; simp only at h2; subst h2; rfl
  | some n =>
    rw [hv] at h2; simp only at h2; subst h2
    simp only [Option.bind_some, Sum.elim_inr, ba_size, ba_extract, Int.toNat_natCast, List.length_append]
    have c2 : decide (0 ≤ (ds.length : Int) ∧ (ds.length : Int) ≤ ((ds.length + r.length : Nat) : Int) ∧ ((ds.length + r.length : Nat) : Int) ≤ ((ds.length + r.length : Nat) : Int)) = true := decide_eq_true (by omega)
    rw [c2, cond_true, List.take_of_length_le (by simp), List.drop_left]
theorem apart_eq (x : T_api_Expr) (s : List UInt8) (d : Int) (b : Bool) : expr_parser_apart x (PS s d b) = some (if s.takeWhile isI = [] then (x, PS s d b) else (E0, PS s d true)) := by
  rw [expr_parser_apart.eq]; unfold expr_parser_apart_b
  simp only [expr_as_2_eq, Option.bind_some, fail_eq]
  rw [show s_ = ba [] from rfl, eqS_ba]
  by_cases h : s.takeWhile isI = []
  · rw [if_pos h]; simp [h]
  · rw [if_neg h]; simp [h]
/-- whether a row of bytes is a word -/
def wordB (w : List UInt8) : Bool := match w with
  | [] => false
  | c :: t => decide (t.length < 12) && (!isD c && (decide ((c :: t).takeWhile isI = c :: t) && (decide (c ≠ 114) || (decide (t = []) || !decide (t.takeWhile isD = t)))))
theorem word_eq (w : List UInt8) : expr_word (ba w) = some (wordB w) := by
  rw [expr_word.eq]; unfold expr_word_b
  rw [show s_ = ba [] from rfl, eqS_ba]
  cases w with
  | nil => rfl
  | cons c t =>
    simp only [ba_size, ba_getD, expr_as_2_eq, ba_extract, expr_as_3_eq, Option.bind_some, eqS_ba]
    have c0 : decide (c :: t = []) = false := by simp
    have c2 : decide (0 ≤ (0 : Int) ∧ (0 : Int) < (((c :: t).length : Nat) : Int)) = true := decide_eq_true (by simp only [List.length_cons]; omega)
    have c3 : decide (0 ≤ (1 : Int) ∧ (1 : Int) ≤ (((c :: t).length : Nat) : Int) ∧ (((c :: t).length : Nat) : Int) ≤ (((c :: t).length : Nat) : Int)) = true := decide_eq_true (by simp only [List.length_cons]; omega)
    have c4 : IntKind.i32.wrap (((((c :: t).getD (Int.toNat 0) 0).toNat : Nat) : Int)) = (c.toNat : Int) := by
      show IntKind.i32.wrap (c.toNat : Int) = _
      exact i32_in (by omega) (by have := c.toNat_lt; omega)
    have e1 : ((c :: t).take (Int.toNat (((c :: t).length : Nat) : Int))).drop (Int.toNat 1) = t := by rw [Int.toNat_natCast, List.take_length]; rfl
    rw [c0, cond_false, c2, cond_true, c4, expr_digit_eq, c3, e1]
    simp only [Option.bind_some, eqS_ba, cond_true]
    have c1 : decide ((((c :: t).length : Nat) : Int) > 12) = !decide (t.length < 12) := by
      by_cases h : t.length < 12
      · rw [decide_eq_true h, decide_eq_false (by simp only [List.length_cons]; omega)]; rfl
      · rw [decide_eq_false h, decide_eq_true (by simp only [List.length_cons]; omega)]; rfl
    have c5 : ((((c :: t).getD (Int.toNat 0) 0).toNat : Int) != 114) = decide (c ≠ 114) := by
      show ((c.toNat : Int) != 114) = _
      rw [Bool.eq_iff_iff, bne_iff_ne, decide_eq_true_iff]
      have : (114 : UInt8).toNat = 114 := rfl
      constructor
      · intro h e; subst e; exact h rfl
      · intro h e; exact h (UInt8.toNat_inj.1 (by omega))
    have c6 : ((((c :: t).length : Nat) : Int) == 1) = decide (t = []) := by
      rw [Bool.eq_iff_iff, beq_iff_eq, decide_eq_true_iff]
      cases t <;> simp <;> omega
    rw [c1, c5, c6]
    have hw : wordB (c :: t) = (decide (t.length < 12) && (!isD c && (decide ((c :: t).takeWhile isI = c :: t) && (decide (c ≠ 114) || (decide (t = []) || !decide (t.takeWhile isD = t)))))) := rfl
    rw [hw]
    have c7 : decide (48 ≤ c.toNat ∧ c.toNat ≤ 57) = isD c := rfl
    rw [c7]
    cases decide (t.length < 12) <;> cases isD c <;> cases decide ((c :: t).takeWhile isI = c :: t) <;> cases decide (c ≠ 114) <;> cases decide (t = []) <;> rfl
end Go.Ab
namespace Go.Ab
theorem drop_tw {p : UInt8 → Bool} (t : List UInt8) : t.drop (t.takeWhile p).length = t.dropWhile p := by
  conv => lhs; rw [← List.takeWhile_append_dropWhile (p := p) (l := t)]
  rw [List.takeWhile_append_dropWhile, ]
  conv => lhs; arg 2; rw [← List.takeWhile_append_dropWhile (p := p) (l := t)]
  exact List.drop_left
/-- a number, if no word begins right behind it -/
def tailA (base : Nat) (h r : List UInt8) : Option (X3 × List UInt8) := match numv base h 0 with
  | some n => if r.takeWhile isI = [] then some (.num n, r) else none
  | none => none
/-- what stands by itself, but brackets, signs, the place -/
def atomS (t : List UInt8) : Option (X3 × List UInt8) :=
  bif pre [48, 120] t && !decide ((t.drop 2).takeWhile isH = []) then tailA 16 ((t.drop 2).takeWhile isH) ((t.drop 2).dropWhile isH)
  else bif !decide (t.takeWhile isD = []) then tailA 10 (t.takeWhile isD) (t.dropWhile isD)
  else bif wordB (t.takeWhile isI) then some (.nm (ba (t.takeWhile isI)), t.dropWhile isI) else none
/-- what the program answers: an expression and what is left, or that something is wrong -/
def PR (f : Option (T_api_Expr × T_expr_parser)) (d : Int) (o : Option (X3 × List UInt8)) : Prop := match o with
  | some (x, r) => f = some (x.t, PS r d false)
  | none => ∃ e r, f = some (e, PS r d true)
theorem all_tw {p q : UInt8 → Bool} (hpq : ∀ b, p b = true → q b = true) (t : List UInt8) : (t.takeWhile p).all q = true := by
  rw [List.all_eq_true]; intro b hb; exact hpq b (List.all_eq_true.1 List.all_takeWhile b hb)
theorem tail_PR (base : Nat) (hb : base ≤ 16) (h r : List UInt8) (hh : h.all isH = true) (d : Int) :
    PR ((expr_parser_number (ba h) base (PS (h ++ r) d false)).bind fun q => (expr_parser_apart q.1 q.2).bind fun q => some (q.1, q.2)) d (tailA base h r) := by
  rw [number_eq h r hh base hb]
  unfold tailA
  cases hv : numv base h 0 with
  | none =>
    simp only [Option.bind_some, apart_eq]
    split <;> exact ⟨_, _, rfl⟩
  | some n =>
    simp only [Option.bind_some, apart_eq]
    split
    · rfl
    · exact ⟨_, _, rfl⟩
theorem one_bad (s : List UInt8) (d : Int) : expr_parser_one (PS s d true) = some (E0, PS (dropB s) d true) := by
  rw [expr_parser_one.eq]; unfold expr_parser_one_b
  simp only [show h_28 = ba [40] from rfl, show h_2d = ba [45] from rfl, show h_2e = ba [46] from rfl, take_eq, cond_true, Option.bind_some, cond_false, dropB_idem]
theorem one_open {s r : List UInt8} (h : dropB s = 40 :: r) (d : Int) : expr_parser_one (PS s d false) = expr_parser_within (PS r d false) := by
  rw [expr_parser_one.eq]; unfold expr_parser_one_b
  simp only [show h_28 = ba [40] from rfl, take_eq, cond_true, Option.bind_some, cond_false, h]
  rw [show pre [40] (40 :: r) = true from by simp [pre]]
  simp only [cond_true]
  show (expr_parser_within (PS r d false)).bind (fun r2 => some (r2.1, r2.2)) = _
  cases expr_parser_within (PS r d false) <;> rfl
theorem pre1_ne {a : UInt8} {t : List UInt8} (h : ∀ r, t ≠ a :: r) : pre [a] t = false := by
  cases t with
  | nil => simp [pre]
  | cons b t =>
    have : b ≠ a := fun e => h t (by rw [e])
    simp [pre, this]
theorem one_minus {s r : List UInt8} (h : dropB s = 45 :: r) (d : Int) : expr_parser_one (PS s d false) = expr_parser_within_2 (PS r d false) := by
  rw [expr_parser_one.eq]; unfold expr_parser_one_b
  simp only [show h_28 = ba [40] from rfl, show h_2d = ba [45] from rfl, take_eq, cond_true, Option.bind_some, cond_false, h]
  rw [show pre [40] (45 :: r) = false from by simp [pre]]
  simp only [cond_false, take_eq]
  rw [show dropB (45 :: r) = 45 :: r from by simp [dropB, List.dropWhile_cons], show pre [45] (45 :: r) = true from by simp [pre]]
  simp only [cond_true, Option.bind_some]
  show (expr_parser_within_2 (PS r d false)).bind (fun r2 => some (r2.1, r2.2)) = _
  cases expr_parser_within_2 (PS r d false) <;> rfl
theorem one_dot {s r : List UInt8} (h : dropB s = 46 :: r) (d : Int) : expr_parser_one (PS s d false) = some (X3.here.t, PS r d false) := by
  rw [expr_parser_one.eq]; unfold expr_parser_one_b
  simp only [show h_28 = ba [40] from rfl, show h_2d = ba [45] from rfl, show h_2e = ba [46] from rfl, take_eq, cond_true, Option.bind_some, cond_false, h]
  rw [show pre [40] (46 :: r) = false from by simp [pre]]
  simp only [cond_false, take_eq]
  rw [show dropB (46 :: r) = 46 :: r from by simp [dropB, List.dropWhile_cons], show pre [45] (46 :: r) = false from by simp [pre]]
  simp only [cond_false, Option.bind_some, take_eq]
  rw [show dropB (46 :: r) = 46 :: r from by simp [dropB, List.dropWhile_cons], show pre [46] (46 :: r) = true from by simp [pre]]
  rfl
theorem one_atom {s t : List UInt8} (h : dropB s = t) (h1 : ∀ r, t ≠ 40 :: r) (h2 : ∀ r, t ≠ 45 :: r) (h3 : ∀ r, t ≠ 46 :: r) (d : Int) : PR (expr_parser_one (PS s d false)) d (atomS t) := by
  have ht : dropB t = t := by rw [← h, dropB_idem]
  rw [expr_parser_one.eq]; unfold expr_parser_one_b
  simp only [show h_28 = ba [40] from rfl, show h_2d = ba [45] from rfl, show h_2e = ba [46] from rfl, take_eq, cond_true, Option.bind_some, cond_false, h, ht, pre1_ne h1, pre1_ne h2, pre1_ne h3, hasPrefix2_eq, expr_as_eq, expr_as_2_eq, expr_as_3_eq, ba_size, ba_extract, word_eq, fail_eq]
  have rest : ∀ (P : Prop), (PR (bif !eqS (ba (t.takeWhile isD)) s_ then (expr_parser_number (ba (t.takeWhile isD)) 10 (PS t d false)).bind fun r18 => (expr_parser_apart r18.1 r18.2).bind fun r19 => some (r19.1, r19.2)
      else bif wordB (t.takeWhile isI) then (bif decide (0 ≤ (((t.takeWhile isI).length : Nat) : Int) ∧ (((t.takeWhile isI).length : Nat) : Int) ≤ ((t.length : Nat) : Int) ∧ ((t.length : Nat) : Int) ≤ ((t.length : Nat) : Int)) then
        some ((⟨2, 0, ba (t.takeWhile isI), []⟩ : T_api_Expr), (⟨ba ((t.take (Int.toNat ((t.length : Nat) : Int))).drop (Int.toNat (((t.takeWhile isI).length : Nat) : Int))), d, false⟩ : T_expr_parser)) else none) else some ((⟨0, 0, s_, []⟩ : T_api_Expr), (⟨ba t, d, true⟩ : T_expr_parser))) d
      (bif !decide (t.takeWhile isD = []) then tailA 10 (t.takeWhile isD) (t.dropWhile isD) else bif wordB (t.takeWhile isI) then some (.nm (ba (t.takeWhile isI)), t.dropWhile isI) else none) → P) → P := by
    intro P k
    apply k
    rw [show s_ = ba [] from rfl, eqS_ba]
    cases hD : decide (t.takeWhile isD = []) with
    | false =>
      simp only [Bool.not_false, cond_true]
      have := tail_PR 10 (by decide) (t.takeWhile isD) (t.dropWhile isD) (all_tw (fun b hb => by simp [isH, hb]) t) d
      rw [List.takeWhile_append_dropWhile] at this
      exact this
    | true =>
      simp only [Bool.not_true, cond_false]
      cases hw : wordB (t.takeWhile isI) with
      | false => exact ⟨_, _, rfl⟩
      | true =>
        simp only [cond_true]
        have hl : (t.takeWhile isI).length ≤ t.length := (List.takeWhile_sublist _).length_le
        have c1 : decide (0 ≤ (((t.takeWhile isI).length : Nat) : Int) ∧ (((t.takeWhile isI).length : Nat) : Int) ≤ ((t.length : Nat) : Int) ∧ ((t.length : Nat) : Int) ≤ ((t.length : Nat) : Int)) = true := decide_eq_true (by omega)
        rw [c1, cond_true, Int.toNat_natCast, Int.toNat_natCast, List.take_length, drop_tw]
        rfl
  unfold atomS
  cases hp : pre [48, 120] t with
  | false =>
    simp only [Bool.false_and, cond_false]
    exact rest _ id
  | true =>
    have hlen := (pre_len hp).1
    have c1 : decide (0 ≤ (2 : Int) ∧ (2 : Int) ≤ ((t.length : Nat) : Int) ∧ ((t.length : Nat) : Int) ≤ ((t.length : Nat) : Int)) = true := decide_eq_true (by simp at hlen; omega)
    have e2 : (t.take (Int.toNat ((t.length : Nat) : Int))).drop (Int.toNat 2) = t.drop 2 := by rw [Int.toNat_natCast, List.take_length]; rfl
    simp only [Bool.true_and, cond_true]
    rw [c1, cond_true, e2]
    cases hH : decide ((t.drop 2).takeWhile isH = []) with
    | true =>
      have : eqS (ba ((t.drop 2).takeWhile isH)) s_ = true := by rw [show s_ = ba [] from rfl, eqS_ba, hH]
      rw [this]
      simp only [Bool.not_true, cond_false]
      exact rest _ id
    | false =>
      have : eqS (ba ((t.drop 2).takeWhile isH)) s_ = false := by rw [show s_ = ba [] from rfl, eqS_ba, hH]
      rw [this]
      simp only [Bool.not_false, cond_true]
      have := tail_PR 16 (by decide) ((t.drop 2).takeWhile isH) ((t.drop 2).dropWhile isH) (all_tw (fun b hb => hb) _) d
      rw [List.takeWhile_append_dropWhile] at this
      exact this
end Go.Ab
namespace Go.Ab
theorem levels_eq : expr_levels = some [[9], [8], [10, 11], [5, 6], [7]] := by rw [expr_levels.eq]; rfl
theorem levels_at {l : Nat} (h : l < 5) : ([[9], [8], [10, 11], [5, 6], [7]] : List (List Int))[l]? = some ((lv l).map fun k : Nat => (k : Int)) := by
  have : l = 0 ∨ l = 1 ∨ l = 2 ∨ l = 3 ∨ l = 4 := by omega
  rcases this with rfl | rfl | rfl | rfl | rfl <;> rfl
theorem lv_ne (l : Nat) : lv l ≠ [] := by unfold lv; split <;> simp
theorem lv_len (l : Nat) : (lv l).length ≤ 1000 := by unfold lv; split <;> simp
theorem two5 (p : T_expr_parser) : expr_parser_two 5 p = expr_parser_one p := by
  rw [expr_parser_two.eq]; unfold expr_parser_two_b
  simp only [levels_eq, Option.bind_some]
  show (expr_parser_one p).bind (fun r2 => some (r2.1, r2.2)) = _
  cases expr_parser_one p <;> rfl
/-- what is read behind x at a level -/
noncomputable def PL (l : Nat) (p : T_expr_parser) (x : T_api_Expr) : Option (T_api_Expr × T_expr_parser) :=
  (expr_parser_kind ((lv l).map fun k : Nat => (k : Int)) p).bind fun r6 => (expr_parser_two_L1 ⟨(l : Int), r6.1, r6.2, E0, x⟩).bind fun o => some (o.h2, o.h0)
theorem two_lt {l : Nat} (h : l < 5) (p : T_expr_parser) : expr_parser_two (l : Int) p = (expr_parser_two ((l + 1 : Nat) : Int) p).bind fun r => PL l r.2 r.1 := by
  rw [expr_parser_two.eq]; unfold expr_parser_two_b
  simp only [levels_eq, Option.bind_some]
  have c1 : ((l : Int) == (([[9], [8], [10, 11], [5, 6], [7]] : List (List Int)).length : Nat)) = false := by
    rw [beq_eq_false_iff_ne]; simp; omega
  have c2 : decide (0 ≤ (l : Int)) = true := decide_eq_true (by omega)
  rw [c1, cond_false, w64_in (n := (l : Int) + 1) (by omega) (by omega), c2]
  simp only [cond_true, Int.toNat_natCast, levels_at h, Option.bind_some]
  rfl
theorem PL_bad {l : Nat} (s : List UInt8) (d : Int) (x : T_api_Expr) : PL l (PS s d true) x = some (x, PS (dropB s) d true) := by
  unfold PL
  rw [kind_eq _ (fun k hk => lv_ok hk) (lv_ne l) (lv_len l)]
  simp only [cond_true, Option.bind_some]
  rw [expr_parser_two_L1.eq]; rfl
theorem PL_eq {l : Nat} (h : l < 5) (s : List UInt8) (d : Int) (x : T_api_Expr) : PL l (PS s d false) x = match kindS (lv l) (dropB s) with
    | none => some (x, PS (dropB s) d false)
    | some k => (expr_parser_two ((l + 1 : Nat) : Int) (PS ((dropB s).drop (sg k).length) d false)).bind fun r => PL l r.2 ⟨k, 0, s_, [x, r.1]⟩ := by
  conv => lhs; unfold PL
  rw [kind_eq _ (fun k hk => lv_ok hk) (lv_ne l) (lv_len l)]
  simp only [cond_false, Option.bind_some]
  cases hk : kindS (lv l) (dropB s) with
  | none => simp only; rw [expr_parser_two_L1.eq]; rfl
  | some k =>
    have h5 := lv_ok (List.mem_of_find?_eq_some hk)
    have c1 : ((k : Int) != 0) = true := by rw [bne_iff_ne]; omega
    have c2 : decide (0 ≤ (l : Int)) = true := decide_eq_true (by omega)
    simp only
    rw [expr_parser_two_L1.eq]; unfold expr_parser_two_L1_b
    simp only [c1, cond_true, Bool.not_false, c2, levels_eq, Option.bind_some, Int.toNat_natCast, levels_at h]
    rw [w64_in (n := (l : Int) + 1) (by omega) (by omega)]
    show Option.bind (Option.bind (Option.bind (expr_parser_two ((l + 1 : Nat) : Int) (PS ((dropB s).drop (sg k).length) d false)) _) _) _ = _
    cases expr_parser_two ((l + 1 : Nat) : Int) (PS ((dropB s).drop (sg k).length) d false) with
    | none => rfl
    | some r =>
      simp only [Option.bind_some]
      unfold PL
      cases expr_parser_kind ((lv l).map fun k : Nat => (k : Int)) r.2 <;> rfl
theorem within_max {d : Int} (h : d ≥ 12) (s : List UInt8) : expr_parser_within (PS s d false) = some (E0, PS s d true) ∧ expr_parser_within_2 (PS s d false) = some (E0, PS s d true) := by
  constructor
  · rw [expr_parser_within.eq]; unfold expr_parser_within_b
    simp only [fail_eq, decide_eq_true h, cond_true, Option.bind_some]
  · rw [expr_parser_within_2.eq]; unfold expr_parser_within_2_b
    simp only [fail_eq, decide_eq_true h, cond_true, Option.bind_some]
/-- brackets -/
theorem within_PR {d : Int} (h0 : 0 ≤ d) (h : d < 12) (s : List UInt8) {o : Option (X3 × List UInt8)} (ho : PR (expr_parser_two 0 (PS s (d + 1) false)) (d + 1) o) :
    PR (expr_parser_within (PS s d false)) d (o.bind fun xr => bif pre [41] (dropB xr.2) then some (xr.1, (dropB xr.2).drop 1) else none) := by
  rw [expr_parser_within.eq]; unfold expr_parser_within_b
  have c1 : decide (d ≥ 12) = false := decide_eq_false (by omega)
  simp only [c1, cond_false]
  rw [w64_in (n := d + 1) (by omega) (by omega), expr_parser_group.eq]; unfold expr_parser_group_b
  have wd : w64 (d + 1 - 1) = d := by rw [w64_in (by omega) (by omega)]; omega
  cases o with
  | none =>
    obtain ⟨e, r, he⟩ := ho
    have he : expr_parser_two 0 ⟨ba s, d + 1, false⟩ = some (e, PS r (d + 1) true) := he
    simp only [he, Option.bind_some, show h_29 = ba [41] from rfl, take_eq, cond_true, Bool.not_false, fail_eq, Option.bind_none, wd]
    exact ⟨_, _, rfl⟩
  | some xr =>
    obtain ⟨x, r⟩ := xr
    have ho : expr_parser_two 0 ⟨ba s, d + 1, false⟩ = some (x.t, PS r (d + 1) false) := ho
    simp only [ho, Option.bind_some, show h_29 = ba [41] from rfl, take_eq, cond_false]
    cases hp : pre [41] (dropB r) with
    | false =>
      simp only [cond_false, Bool.not_false, cond_true, fail_eq, Option.bind_some, wd]
      exact ⟨_, _, rfl⟩
    | true =>
      simp only [cond_true, Bool.not_true, cond_false, Option.bind_some, wd]
      rfl
/-- a sign ahead -/
theorem minus_PR {d : Int} (h0 : 0 ≤ d) (h : d < 12) (s : List UInt8) {o : Option (X3 × List UInt8)} (ho : PR (expr_parser_one (PS s (d + 1) false)) (d + 1) o) :
    PR (expr_parser_within_2 (PS s d false)) d (o.bind fun xr => some (.neg xr.1, xr.2)) := by
  rw [expr_parser_within_2.eq]; unfold expr_parser_within_2_b
  have c1 : decide (d ≥ 12) = false := decide_eq_false (by omega)
  simp only [c1, cond_false]
  rw [w64_in (n := d + 1) (by omega) (by omega), expr_parser_minus.eq]; unfold expr_parser_minus_b
  have wd : w64 (d + 1 - 1) = d := by rw [w64_in (by omega) (by omega)]; omega
  cases o with
  | none =>
    obtain ⟨e, r, he⟩ := ho
    have he : expr_parser_one ⟨ba s, d + 1, false⟩ = some (e, PS r (d + 1) true) := he
    simp only [he, Option.bind_some, wd, Option.bind_none]
    exact ⟨_, _, rfl⟩
  | some xr =>
    obtain ⟨x, r⟩ := xr
    have ho : expr_parser_one ⟨ba s, d + 1, false⟩ = some (x.t, PS r (d + 1) false) := ho
    simp only [ho, Option.bind_some, wd]
    rfl
theorem two_bad : ∀ (g l : Nat), g + l = 5 → ∀ (s : List UInt8) (d : Int), ∃ e r, expr_parser_two (l : Int) (PS s d true) = some (e, PS r d true)
  | 0, l, hl, s, d => by
    obtain rfl : l = 5 := by omega
    exact ⟨_, _, (two5 _).trans (one_bad s d)⟩
  | g + 1, l, hl, s, d => by
    obtain ⟨e, r, h⟩ := two_bad g (l + 1) (by omega) s d
    refine ⟨e, dropB r, ?_⟩
    rw [two_lt (by omega), h]
    simp only [Option.bind_some, PL_bad]
/-- the whole text -/
theorem parse_PR (s : List UInt8) {o : Option (X3 × List UInt8)} (ho : PR (expr_parser_two 0 (PS s 0 false)) 0 o) :
    expr_Parse (ba s) = some (match o with | some (x, r) => if dropB r = [] then (x.t, true) else (E0, false) | none => (E0, false)) := by
  rw [expr_Parse.eq]; unfold expr_Parse_b
  cases o with
  | none =>
    obtain ⟨e, r, he⟩ := ho
    have he : expr_parser_two 0 ⟨ba s, 0, false⟩ = some (e, PS r 0 true) := he
    simp only [he, Option.bind_some, blanks_eq, cond_true]
  | some xr =>
    obtain ⟨x, r⟩ := xr
    have ho : expr_parser_two 0 ⟨ba s, 0, false⟩ = some (x.t, PS r 0 false) := ho
    simp only [ho, Option.bind_some, blanks_eq, cond_false]
    rw [show s_ = ba [] from rfl, eqS_ba]
    by_cases h : dropB r = []
    · simp [h]
    · simp [h]; rfl
end Go.Ab
namespace Go.Ab
/-- signs, with blanks ahead of each, and at the end -/
inductive Sp : List (List UInt8) → List UInt8 → Prop
  | nil (b : List UInt8) (hb : ∀ c ∈ b, c = 32) : Sp [] b
  | cons (b t s : List UInt8) (ts : List (List UInt8)) (hb : ∀ c ∈ b, c = 32) (h : Sp ts s) : Sp (t :: ts) (b ++ (t ++ s))
theorem dropB_blanks {b s : List UInt8} (hb : ∀ c ∈ b, c = 32) : dropB (b ++ s) = dropB s := by
  induction b with
  | nil => rfl
  | cons c b ih =>
    have hc := hb c (by simp)
    subst hc
    rw [List.cons_append]
    show List.dropWhile _ _ = _
    rw [List.dropWhile_cons]
    simp only [beq_self_eq_true, if_true]
    exact ih fun c h => hb c (by simp [h])
theorem dropB_head {c : UInt8} {s : List UInt8} (h : c ≠ 32) : dropB (c :: s) = c :: s := by
  unfold dropB; rw [List.dropWhile_cons]; simp [h]
theorem Sp.nil_drop {s : List UInt8} (h : Sp [] s) : dropB s = [] := by
  cases h with
  | nil b hb =>
    have := dropB_blanks (s := []) hb
    rw [List.append_nil] at this; rw [this]; rfl
theorem Sp.cons_drop {c : UInt8} {t s : List UInt8} {ts : List (List UInt8)} (h : Sp ((c :: t) :: ts) s) (hc : c ≠ 32) : ∃ s', dropB s = c :: (t ++ s') ∧ Sp ts s' := by
  cases h with
  | cons b t' s' ts' hb h' => exact ⟨s', by rw [dropB_blanks hb]; exact dropB_head hc, h'⟩
theorem Sp.drop {s : List UInt8} {ts : List (List UInt8)} (h : Sp ts s) : Sp ts (dropB s) ∨ ∃ c t ts', ts = (c :: t) :: ts' ∧ c = 32 ∨ ts = [] :: ts' := by
  cases h with
  | nil b hb =>
    left
    have := dropB_blanks (s := []) hb
    rw [List.append_nil] at this; rw [this]; exact .nil [] (by simp)
  | cons b t s' ts' hb h' =>
    cases t with
    | nil => exact .inr ⟨0, [], ts', .inr rfl⟩
    | cons c t =>
      by_cases hc : c = 32
      · exact .inr ⟨c, t, ts', .inl ⟨rfl, hc⟩⟩
      · left
        rw [dropB_blanks hb]
        show Sp _ (dropB (c :: (t ++ s')))
        rw [dropB_head hc]
        exact .cons [] (c :: t) s' ts' (by simp) h'
/-- the signs that stand ahead of what follows: no word begins there, no blank -/
def front (ts : List (List UInt8)) : Prop := ∀ t ts', ts = t :: ts' → ∃ c u, t = c :: u ∧ isI c = false ∧ c ≠ 32
theorem Sp.drop' {s : List UInt8} {ts : List (List UInt8)} (hf : front ts) (h : Sp ts s) : Sp ts (dropB s) := by
  rcases h.drop with h | ⟨c, t, ts', ⟨rfl, rfl⟩ | rfl⟩
  · exact h
  · obtain ⟨c', u, e, _, h2⟩ := hf _ _ rfl
    cases e; exact absurd rfl h2
  · obtain ⟨c', u, e, _, h2⟩ := hf _ _ rfl
    cases e
/-- behind a sign stands no part of a word -/
theorem Sp.head {s : List UInt8} {ts : List (List UInt8)} (hf : front ts) (h : Sp ts s) : ∀ c t, s = c :: t → isI c = false := by
  intro c t e
  cases h with
  | nil b hb => subst e; have := hb c (by simp); subst this; rfl
  | cons b t' s' ts' hb h' =>
    cases b with
    | cons b0 b =>
      have : b0 = c := by simpa using congrArg List.head? e
      subst this
      have := hb b0 (by simp); subst this; rfl
    | nil =>
      obtain ⟨c', u, e', h1, _⟩ := hf _ _ rfl
      subst e'
      have : c' = c := by simpa using congrArg List.head? e
      subst this; exact h1
/-- how deep it stands in itself, as a part -/
def nsp : X3 → Nat
  | .neg x => nsp x + 1
  | .bin _ x y => max (nsp x) (nsp y) + 1
  | _ => 0
def isBin : X3 → Bool
  | .bin _ _ _ => true
  | _ => false
/-- the signs of an expression; of a part -/
def tk : X3 → List (List UInt8)
  | .num n => [Lib.decDigits n.toNat]
  | .nm s => [bl s]
  | .here => [[46]]
  | .neg x => [45] :: (if isBin x then [40] :: (tk x ++ [[41]]) else tk x)
  | .bin k x y => (if isBin x then [40] :: (tk x ++ [[41]]) else tk x) ++ (sg k :: (if isBin y then [40] :: (tk y ++ [[41]]) else tk y))
def tkp (x : X3) : List (List UInt8) := if isBin x then [40] :: (tk x ++ [[41]]) else tk x
theorem tk_neg (x : X3) : tk (.neg x) = [45] :: tkp x := rfl
theorem tk_bin (k : Nat) (x y : X3) : tk (.bin k x y) = tkp x ++ (sg k :: tkp y) := rfl
/-- names are words -/
def okW (x : X3) : Prop := x.ok fun s => wordB (bl s) = true
theorem isD_dec {u : Nat} : (Lib.decDigits u).all isD = true ∧ Lib.decDigits u ≠ [] := by
  induction u using Nat.strongRecOn with
  | _ u ih =>
    rw [Lib.decDigits]
    split
    · refine ⟨?_, by simp⟩
      have : ∀ v : Fin 10, isD (UInt8.ofNat (48 + v.val)) = true := by decide
      simp only [List.all_cons, List.all_nil, Bool.and_true]
      exact this ⟨u, by assumption⟩
    · have := ih (u / 10) (by omega)
      refine ⟨?_, by simp⟩
      rw [List.all_append, this.1]
      have h2 : ∀ v : Fin 10, isD (UInt8.ofNat (48 + v.val)) = true := by decide
      simp only [List.all_cons, List.all_nil, Bool.and_true, Bool.true_and]
      exact h2 ⟨u % 10, by omega⟩
theorem numv_append (base : Nat) (c : UInt8) : ∀ (l : List UInt8) (n : Nat), numv base (l ++ [c]) n = (numv base l n).bind fun m => if m * base + dg c ≥ 4294967296 then none else some (m * base + dg c)
  | [], n => rfl
  | b :: l, n => by
    simp only [List.cons_append, numv]
    split
    · rfl
    · exact numv_append base c l _
theorem numv_dec {u : Nat} (h : u < 4294967296) : numv 10 (Lib.decDigits u) 0 = some u := by
  induction u using Nat.strongRecOn with
  | _ u ih =>
    have dv : ∀ v : Fin 10, dg (UInt8.ofNat (48 + v.val)) = v.val := by decide
    rw [Lib.decDigits]
    split
    · rename_i hu
      have e := dv ⟨u, hu⟩
      simp only [numv, Nat.zero_mul, Nat.zero_add]
      simp only at e
      rw [e, if_neg (by omega)]
    · rw [numv_append, ih (u / 10) (by omega) (by omega)]
      have e := dv ⟨u % 10, by omega⟩
      simp only at e
      simp only [Option.bind_some, e]
      rw [if_neg (by omega)]; congr 1; omega
theorem tw_append {p : UInt8 → Bool} {a r : List UInt8} (ha : a.all p = true) (hr : ∀ c t, r = c :: t → p c = false) : (a ++ r).takeWhile p = a ∧ (a ++ r).dropWhile p = r := by
  induction a with
  | nil =>
    cases r with
    | nil => exact ⟨rfl, rfl⟩
    | cons c t => have := hr c t rfl; simp [List.takeWhile_cons, List.dropWhile_cons, this]
  | cons c a ih =>
    simp only [List.all_cons, Bool.and_eq_true] at ha
    obtain ⟨h1, h2⟩ := ih ha.2
    simp [List.takeWhile_cons, List.dropWhile_cons, ha.1, h1, h2]
/-- a number that is written is read -/
theorem atom_num {u : Nat} (h : u < 4294967296) {r : List UInt8} (hr : ∀ c t, r = c :: t → isI c = false) : atomS (Lib.decDigits u ++ r) = some (.num u, r) := by
  obtain ⟨h1, h2⟩ := @isD_dec u
  have hrD : ∀ c t, r = c :: t → isD c = false := fun c t e => by
    have := hr c t e
    simp only [isI, Bool.or_eq_false_iff] at this; exact this.2
  obtain ⟨e1, e2⟩ := tw_append h1 hrD
  unfold atomS
  have hp : pre [48, 120] (Lib.decDigits u ++ r) = false := by
    unfold pre
    rw [decide_eq_false]
    intro e
    match hd : Lib.decDigits u, h2 with
    | [c], _ =>
      rw [hd] at e
      cases r with
      | nil => simp at e
      | cons b r =>
        simp at e
        have := hr b r rfl
        rw [e.2] at this; cases this
    | c :: b :: l, _ =>
      rw [hd] at e h1
      simp at e
      simp only [List.all_cons, Bool.and_eq_true] at h1
      have := h1.2.1
      rw [e.2] at this; cases this
  rw [hp, e1, e2]
  simp only [Bool.false_and, cond_false, decide_eq_false h2, Bool.not_false, cond_true]
  unfold tailA
  rw [numv_dec h]
  simp only
  have : r.takeWhile isI = [] := by
    cases r with
    | nil => rfl
    | cons b r => simp [List.takeWhile_cons, hr b r rfl]
  rw [if_pos this]
/-- a word that is written is read -/
theorem word_parts {w : List UInt8} (h : wordB w = true) : ∃ c t, w = c :: t ∧ isI c = true ∧ isD c = false ∧ w.all isI = true := by
  match w, h with
  | c :: t, h =>
    have hw : wordB (c :: t) = (decide (t.length < 12) && (!isD c && (decide ((c :: t).takeWhile isI = c :: t) && (decide (c ≠ 114) || (decide (t = []) || !decide (t.takeWhile isD = t)))))) := rfl
    rw [hw] at h
    simp only [Bool.and_eq_true, Bool.not_eq_true', decide_eq_true_eq] at h
    have ha : (c :: t).all isI = true := by
      have := List.all_takeWhile (p := isI) (l := c :: t)
      rwa [h.2.2.1] at this
    refine ⟨c, t, rfl, ?_, h.2.1, ha⟩
    simp only [List.all_cons, Bool.and_eq_true] at ha; exact ha.1
theorem atom_word {w : List UInt8} (h : wordB w = true) {r : List UInt8} (hr : ∀ c t, r = c :: t → isI c = false) : atomS (w ++ r) = some (.nm (ba w), r) := by
  obtain ⟨c, t, rfl, hc, hd, ha⟩ := word_parts h
  obtain ⟨e1, e2⟩ := tw_append ha hr
  unfold atomS
  have hp : pre [48, 120] ((c :: t) ++ r) = false := by
    unfold pre
    rw [decide_eq_false]
    intro e
    simp at e
    rw [e.1] at hd; cases hd
  have hD : ((c :: t) ++ r).takeWhile isD = [] := by simp [List.takeWhile_cons, hd]
  rw [hp, hD, e1, e2, h]
  rfl
end Go.Ab
namespace Go.Ab
def lvlOf (k : Nat) : Nat := match k with
  | 9 => 0 | 8 => 1 | 10 => 2 | 11 => 2 | 5 => 3 | 6 => 3 | _ => 4
theorem kindS_sg {k l : Nat} (hk : 5 ≤ k ∧ k ≤ 11) (hl : l < 5) (s : List UInt8) : kindS (lv l) (sg k ++ s) = if lvlOf k = l then some k else none := by
  have h1 : k = 5 ∨ k = 6 ∨ k = 7 ∨ k = 8 ∨ k = 9 ∨ k = 10 ∨ k = 11 := by omega
  have h2 : l = 0 ∨ l = 1 ∨ l = 2 ∨ l = 3 ∨ l = 4 := by omega
  rcases h1 with rfl | rfl | rfl | rfl | rfl | rfl | rfl <;> rcases h2 with rfl | rfl | rfl | rfl | rfl <;> simp [kindS, lv, sg, pre, lvlOf]
theorem kindS_close {l : Nat} (hl : l < 5) (s : List UInt8) : kindS (lv l) (41 :: s) = none ∧ kindS (lv l) [] = none := by
  have h2 : l = 0 ∨ l = 1 ∨ l = 2 ∨ l = 3 ∨ l = 4 := by omega
  rcases h2 with rfl | rfl | rfl | rfl | rfl <;> simp [kindS, lv, sg, pre]
/-- no sign of this level or a closer one stands ahead -/
def stop (l : Nat) (ts : List (List UInt8)) : Prop := ∀ s, Sp ts s → ∀ l', l ≤ l' → l' < 5 → kindS (lv l') (dropB s) = none
theorem stop_nil (l : Nat) : stop l [] := fun s h l' _ h5 => by rw [h.nil_drop]; exact (kindS_close h5 []).2
theorem stop_close (l : Nat) (ts : List (List UInt8)) : stop l ([41] :: ts) := fun s h l' _ h5 => by
  obtain ⟨s', e, _⟩ := h.cons_drop (c := 41) (t := []) (by decide)
  rw [e]; exact (kindS_close h5 _).1
theorem sg_head {k : Nat} (hk : 5 ≤ k ∧ k ≤ 11) : ∃ c t, sg k = c :: t ∧ isI c = false ∧ c ≠ 32 := by
  have h1 : k = 5 ∨ k = 6 ∨ k = 7 ∨ k = 8 ∨ k = 9 ∨ k = 10 ∨ k = 11 := by omega
  rcases h1 with rfl | rfl | rfl | rfl | rfl | rfl | rfl <;> exact ⟨_, _, rfl, by decide, by decide⟩
theorem sg_drop {k : Nat} (hk : 5 ≤ k ∧ k ≤ 11) {ts : List (List UInt8)} {s : List UInt8} (h : Sp (sg k :: ts) s) : ∃ s', dropB s = sg k ++ s' ∧ Sp ts s' := by
  obtain ⟨c, t, e, _, h2⟩ := sg_head hk
  rw [e] at h ⊢
  exact h.cons_drop h2
theorem stop_sg {k l : Nat} (hk : 5 ≤ k ∧ k ≤ 11) (hl : lvlOf k < l) (ts : List (List UInt8)) : stop l (sg k :: ts) := fun s h l' h1 h5 => by
  obtain ⟨s', e, _⟩ := sg_drop hk h
  rw [e, kindS_sg hk h5, if_neg (by omega)]
theorem front_nil : front [] := fun t ts' e => by cases e
theorem front_close (ts : List (List UInt8)) : front ([41] :: ts) := fun t ts' e => by cases e; exact ⟨41, [], rfl, by decide, by decide⟩
theorem front_sg {k : Nat} (hk : 5 ≤ k ∧ k ≤ 11) (ts : List (List UInt8)) : front (sg k :: ts) := fun t ts' e => by cases e; exact sg_head hk
/-- it is read where one stands by itself -/
def ONE (x : X3) : Prop := ∀ (d : Int) (ts : List (List UInt8)) (s : List UInt8), front ts → 0 ≤ d → d + nsp x ≤ 12 → Sp (tkp x ++ ts) s → ∃ s', Sp ts s' ∧ expr_parser_one (PS s d false) = some (x.t, PS s' d false)
theorem PL_none {l : Nat} (h : l < 5) {s : List UInt8} (hk : kindS (lv l) (dropB s) = none) (d : Int) (x : T_api_Expr) : PL l (PS s d false) x = some (x, PS (dropB s) d false) := by rw [PL_eq h, hk]
theorem part_at {x : X3} (hx : ONE x) : ∀ (g l : Nat), g + l = 5 → ∀ (d : Int) (ts : List (List UInt8)) (s : List UInt8), front ts → stop l ts → 0 ≤ d → d + nsp x ≤ 12 → Sp (tkp x ++ ts) s → ∃ s', Sp ts s' ∧ expr_parser_two (l : Int) (PS s d false) = some (x.t, PS s' d false)
  | 0, l, hl, d, ts, s, hf, hs, h0, h12, h => by
    obtain rfl : l = 5 := by omega
    obtain ⟨s', h1, h2⟩ := hx d ts s hf h0 h12 h
    exact ⟨s', h1, (two5 _).trans h2⟩
  | g + 1, l, hl, d, ts, s, hf, hs, h0, h12, h => by
    obtain ⟨s', h1, h2⟩ := part_at hx g (l + 1) (by omega) d ts s hf (fun s h l' h1 h5 => hs s h l' (by omega) h5) h0 h12 h
    refine ⟨dropB s', h1.drop' hf, ?_⟩
    rw [two_lt (by omega), h2]
    simp only [Option.bind_some]
    exact PL_none (by omega) (hs s' h1 l (by omega) (by omega)) d _
theorem bin_at {k : Nat} (hk : 5 ≤ k ∧ k ≤ 11) {x y : X3} (hx : ONE x) (hy : ONE y) : ∀ (g l : Nat), g + l = lvlOf k → ∀ (d : Int) (ts : List (List UInt8)) (s : List UInt8), front ts → stop l ts → 0 ≤ d → d + nsp x ≤ 12 → d + nsp y ≤ 12 →
    Sp (tk (.bin k x y) ++ ts) s → ∃ s', Sp ts s' ∧ expr_parser_two (l : Int) (PS s d false) = some ((X3.bin k x y).t, PS s' d false)
  | 0, l, hl, d, ts, s, hf, hs, h0, h1, h2, h => by
    have hl5 : l < 5 := by
      have : lvlOf k ≤ 4 := by unfold lvlOf; split <;> omega
      omega
    rw [tk_bin, List.append_assoc, List.cons_append] at h
    obtain ⟨s1, e1, e2⟩ := part_at hx (5 - (l + 1)) (l + 1) (by omega) d _ s (front_sg hk _) (stop_sg hk (by omega) _) h0 h1 h
    obtain ⟨s2, e3, e4⟩ := sg_drop hk e1
    obtain ⟨s3, e5, e6⟩ := part_at hy (5 - (l + 1)) (l + 1) (by omega) d ts s2 hf (fun s h l' h1 h5 => hs s h l' (by omega) h5) h0 h2 e4
    refine ⟨dropB s3, e5.drop' hf, ?_⟩
    rw [two_lt hl5, e2]
    simp only [Option.bind_some]
    rw [PL_eq hl5, e3, kindS_sg hk hl5, if_pos (by omega)]
    simp only [List.drop_left, e6, Option.bind_some]
    exact PL_none hl5 (hs s3 e5 l (by omega) (by omega)) d _
  | g + 1, l, hl, d, ts, s, hf, hs, h0, h1, h2, h => by
    have hl5 : l < 5 := by
      have : lvlOf k ≤ 4 := by unfold lvlOf; split <;> omega
      omega
    obtain ⟨s', e1, e2⟩ := bin_at hk hx hy g (l + 1) (by omega) d ts s hf (fun s h l' h1 h5 => hs s h l' (by omega) h5) h0 h1 h2 h
    refine ⟨dropB s', e1.drop' hf, ?_⟩
    rw [two_lt hl5, e2]
    simp only [Option.bind_some]
    exact PL_none hl5 (hs s' e1 l (by omega) (by omega)) d _
theorem sp_head {c : UInt8} {t : List UInt8} {ts : List (List UInt8)} {s : List UInt8} (h : Sp ((c :: t) :: ts) s) (hc : c ≠ 32) : ∃ s', dropB s = c :: (t ++ s') ∧ Sp ts s' := h.cons_drop hc
theorem tkp_num (n : Int) : tkp (.num n) = [Lib.decDigits n.toNat] := rfl
theorem read_one : ∀ x : X3, okW x → ONE x
  | .num n, hx, d, ts, s, hf, h0, h12, h => by
    have hx : 0 ≤ n ∧ n < 4294967296 := hx
    obtain ⟨u, rfl⟩ := Int.eq_ofNat_of_zero_le hx.1
    have h : Sp (Lib.decDigits u :: ts) s := h
    obtain ⟨d1, d2⟩ := @isD_dec u
    match hd : Lib.decDigits u, d2 with
    | c :: t, _ =>
      rw [hd] at h d1
      simp only [List.all_cons, Bool.and_eq_true] at d1
      have hc32 : c ≠ 32 := fun e => by rw [e] at d1; cases d1.1
      obtain ⟨s', e1, e2⟩ := h.cons_drop hc32
      have ea := atom_num (u := u) (by omega) (r := s') (e2.head hf)
      rw [hd] at ea
      refine ⟨s', e2, ?_⟩
      have := one_atom (s := s) e1 (fun r e => by
          have : c = 40 := by simpa using congrArg List.head? e
          rw [this] at d1; cases d1.1) (fun r e => by
          have : c = 45 := by simpa using congrArg List.head? e
          rw [this] at d1; cases d1.1) (fun r e => by
          have : c = 46 := by simpa using congrArg List.head? e
          rw [this] at d1; cases d1.1) d
      rw [show c :: (t ++ s') = (c :: t) ++ s' from rfl, ea] at this
      exact this
  | .nm w, hx, d, ts, s, hf, h0, h12, h => by
    have hx : wordB (bl w) = true := hx
    have h : Sp (bl w :: ts) s := h
    obtain ⟨c, t, e0, hc, hd, ha⟩ := word_parts hx
    rw [e0] at h
    have hc32 : c ≠ 32 := fun e => by rw [e] at hc; cases hc
    obtain ⟨s', e1, e2⟩ := h.cons_drop hc32
    have ea := atom_word hx (r := s') (e2.head hf)
    rw [e0] at ea
    refine ⟨s', e2, ?_⟩
    have := one_atom (s := s) e1 (fun r e => by
        have : c = 40 := by simpa using congrArg List.head? e
        rw [this] at hc; cases hc) (fun r e => by
        have : c = 45 := by simpa using congrArg List.head? e
        rw [this] at hc; cases hc) (fun r e => by
        have : c = 46 := by simpa using congrArg List.head? e
        rw [this] at hc; cases hc) d
    rw [show c :: (t ++ s') = (c :: t) ++ s' from rfl, ea, ← e0, ba_bl] at this
    exact this
  | .here, hx, d, ts, s, hf, h0, h12, h => by
    obtain ⟨s', e1, e2⟩ := sp_head (c := 46) (t := []) h (by decide)
    exact ⟨s', e2, one_dot e1 d⟩
  | .neg x, hx, d, ts, s, hf, h0, h12, h => by
    have hx : okW x := hx
    have ih := read_one x hx
    have h : Sp ([45] :: (tkp x ++ ts)) s := h
    have hn : nsp (.neg x) = nsp x + 1 := rfl
    obtain ⟨s1, e1, e2⟩ := sp_head (c := 45) (t := []) h (by decide)
    obtain ⟨s', e3, e4⟩ := ih (d + 1) ts s1 hf (by omega) (by omega) e2
    refine ⟨s', e3, ?_⟩
    have e1 : dropB s = 45 :: s1 := e1
    rw [one_minus e1]
    exact minus_PR h0 (by omega) s1 (o := some (x, s')) e4
  | .bin k x y, hx, d, ts, s, hf, h0, h12, h => by
    obtain ⟨hk1, hk2, hx1, hy1⟩ := hx
    have hx1 : okW x := hx1
    have hy1 : okW y := hy1
    have ihx := read_one x hx1
    have ihy := read_one y hy1
    have hn : nsp (.bin k x y) = max (nsp x) (nsp y) + 1 := rfl
    have h : Sp (([40] :: (tk (.bin k x y) ++ [[41]])) ++ ts) s := h
    rw [List.cons_append, List.append_assoc] at h
    obtain ⟨s1, e1, e2⟩ := sp_head (c := 40) (t := []) h (by decide)
    have e2 : Sp (tk (.bin k x y) ++ ([41] :: ts)) s1 := e2
    have hm1 : nsp x ≤ max (nsp x) (nsp y) := Nat.le_max_left _ _
    have hm2 : nsp y ≤ max (nsp x) (nsp y) := Nat.le_max_right _ _
    obtain ⟨s2, e3, e4⟩ := bin_at ⟨hk1, hk2⟩ ihx ihy (lvlOf k) 0 (by omega) (d + 1) _ s1 (front_close ts) (stop_close 0 ts) (by omega) (by omega) (by omega) e2
    obtain ⟨s3, e5, e6⟩ := sp_head (c := 41) (t := []) e3 (by decide)
    have e1 : dropB s = 40 :: s1 := e1
    have e5 : dropB s2 = 41 :: s3 := e5
    refine ⟨s3, e6, ?_⟩
    rw [one_open e1]
    have := within_PR h0 (by omega) s1 (o := some (.bin k x y, s2)) e4
    rw [show (some (X3.bin k x y, s2)).bind (fun xr => bif pre [41] (dropB xr.2) then some (xr.1, (dropB xr.2).drop 1) else none) = some (.bin k x y, s3) from by
      simp only [Option.bind_some, e5]
      rw [show pre [41] (41 :: s3) = true from by simp [pre]]; rfl] at this
    exact this
/-- a text of an expression's signs is read as that -/
theorem read_text {x : X3} (hx : okW x) (hd : nsp x ≤ 12) {s : List UInt8} (h : Sp (tk x) s) : expr_Parse (ba s) = some (x.t, true) := by
  have key : ∃ s', Sp [] s' ∧ expr_parser_two 0 (PS s 0 false) = some (x.t, PS s' 0 false) := by
    cases hb : isBin x with
    | false =>
      have h : Sp (tkp x ++ []) s := by rw [List.append_nil]; unfold tkp; rw [hb]; exact h
      exact part_at (read_one x hx) 5 0 rfl 0 [] s front_nil (stop_nil 0) (by omega) (by omega) h
    | true =>
      match x, hb with
      | .bin k y z, _ =>
        obtain ⟨hk1, hk2, hx1, hy1⟩ := hx
        have hn : nsp (.bin k y z) = max (nsp y) (nsp z) + 1 := rfl
        have hm1 : nsp y ≤ max (nsp y) (nsp z) := Nat.le_max_left _ _
        have hm2 : nsp z ≤ max (nsp y) (nsp z) := Nat.le_max_right _ _
        exact bin_at ⟨hk1, hk2⟩ (read_one y hx1) (read_one z hy1) (lvlOf k) 0 (by omega) 0 [] s front_nil (stop_nil 0) (by omega) (by omega) (by omega) (by rw [List.append_nil]; exact h)
  obtain ⟨s', e1, e2⟩ := key
  rw [parse_PR s (o := some (x, s')) e2]
  simp only [e1.nil_drop, if_true]
end Go.Ab
namespace Go.Ab
theorem isNm_word {s : ByteArray} (h : isNm s) : wordB (bl s) = true := by
  rcases h with rfl | rfl | rfl | rfl <;> decide
theorem ok_okW : ∀ {x : X3}, x.ok isNm → okW x
  | .num n, h => h
  | .nm s, h => isNm_word h
  | .here, h => trivial
  | .neg x, h => ok_okW (x := x) h
  | .bin k x y, h => ⟨h.1, h.2.1, ok_okW h.2.2.1, ok_okW h.2.2.2⟩
theorem nsp_le : ∀ x : X3, nsp x ≤ x.d
  | .num n => Nat.le_refl _
  | .nm s => Nat.le_refl _
  | .here => Nat.le_refl _
  | .neg x => by have := nsp_le x; simp only [nsp, X3.d]; omega
  | .bin k x y => by have := nsp_le x; have := nsp_le y; simp only [nsp, X3.d]; omega
/-- an expression's text -/
def tx : X3 → List UInt8
  | .num n => Lib.decDigits n.toNat
  | .nm s => bl s
  | .here => [46]
  | .neg x => 45 :: (if isBin x then 40 :: (tx x ++ [41]) else tx x)
  | .bin k x y => (if isBin x then 40 :: (tx x ++ [41]) else tx x) ++ (32 :: (sg k ++ (32 :: (if isBin y then 40 :: (tx y ++ [41]) else tx y))))
def txp (x : X3) : List UInt8 := if isBin x then 40 :: (tx x ++ [41]) else tx x
theorem tx_neg (x : X3) : tx (.neg x) = 45 :: txp x := rfl
theorem tx_bin (k : Nat) (x y : X3) : tx (.bin k x y) = txp x ++ (32 :: (sg k ++ (32 :: txp y))) := rfl
theorem Sp.tok (t : List UInt8) {ts : List (List UInt8)} {s : List UInt8} (h : Sp ts s) : Sp (t :: ts) (t ++ s) := .cons [] t s ts (by simp) h
theorem Sp.btok (t : List UInt8) {ts : List (List UInt8)} {s : List UInt8} (h : Sp ts s) : Sp (t :: ts) (32 :: (t ++ s)) := .cons [32] t s ts (by simp) h
theorem Sp.blank {t : List UInt8} {ts : List (List UInt8)} {s : List UInt8} (h : Sp (t :: ts) s) : Sp (t :: ts) (32 :: s) := by
  cases h with
  | cons b t s' ts' hb h' => exact .cons (32 :: b) t s' ts (by intro c hc; rcases List.mem_cons.1 hc with h | h; exact h; exact hb c h) h'
theorem tk_ne : ∀ x : X3, ∃ t ts, tk x = t :: ts
  | .num n => ⟨_, _, rfl⟩
  | .nm s => ⟨_, _, rfl⟩
  | .here => ⟨_, _, rfl⟩
  | .neg x => ⟨_, _, rfl⟩
  | .bin k x y => by
    obtain ⟨t, ts, h⟩ := tk_ne x
    rw [tk_bin]; unfold tkp
    split
    · exact ⟨_, _, rfl⟩
    · rw [h]; exact ⟨_, _, rfl⟩
theorem tkp_ne (x : X3) : ∃ t ts, tkp x = t :: ts := by
  unfold tkp; split
  · exact ⟨_, _, rfl⟩
  · exact tk_ne x
theorem tx_sp : ∀ (x : X3) {ts : List (List UInt8)} {s : List UInt8}, Sp ts s → Sp (tk x ++ ts) (tx x ++ s) ∧ Sp (tkp x ++ ts) (txp x ++ s) := by
  have part : ∀ (x : X3), (∀ {ts : List (List UInt8)} {s : List UInt8}, Sp ts s → Sp (tk x ++ ts) (tx x ++ s)) → ∀ {ts : List (List UInt8)} {s : List UInt8}, Sp ts s → Sp (tkp x ++ ts) (txp x ++ s) := by
    intro x hx ts s h
    unfold tkp txp
    split
    · have := (hx (h.tok [41])).tok [40]
      simpa using this
    · exact hx h
  intro x
  induction x with
  | num n => intro ts s h; exact ⟨h.tok _, h.tok _⟩
  | nm w => intro ts s h; exact ⟨h.tok _, h.tok _⟩
  | here => intro ts s h; exact ⟨h.tok _, h.tok _⟩
  | neg x ih =>
    intro ts s h
    have := ((ih h).2).tok [45]
    exact ⟨this, this⟩
  | bin k x y ihx ihy =>
    have key : ∀ {ts : List (List UInt8)} {s : List UInt8}, Sp ts s → Sp (tk (.bin k x y) ++ ts) (tx (.bin k x y) ++ s) := by
      intro ts s h
      have h1 := (ihy h).2
      obtain ⟨t, ts', e⟩ := tkp_ne y
      rw [e] at h1
      have h2 := (ihx (h1.blank.btok (sg k))).2
      rw [tk_bin, tx_bin, e]
      simpa using h2
    intro ts s h
    exact ⟨key h, part _ key h⟩
theorem tx_tk (x : X3) : Sp (tk x) (tx x) := by
  have := (tx_sp x (.nil [] (by simp))).1
  simpa using this
theorem dec_len : ∀ (g u : Nat), u < 10 ^ g → 0 < g → (Lib.decDigits u).length ≤ g
  | 0, u, h, h0 => by omega
  | g + 1, u, h, h0 => by
    rw [Lib.decDigits]
    split
    · simp
    · rename_i hu
      cases g with
      | zero => omega
      | succ g =>
        have := dec_len (g + 1) (u / 10) (by rw [Nat.pow_succ] at h; omega) (by omega)
        simp; omega
theorem nm_len {s : ByteArray} (h : wordB (bl s) = true) : (bl s).length ≤ 12 := by
  match hb : bl s, h with
  | c :: t, h =>
    have hw : wordB (c :: t) = (decide (t.length < 12) && (!isD c && (decide ((c :: t).takeWhile isI = c :: t) && (decide (c ≠ 114) || (decide (t = []) || !decide (t.takeWhile isD = t)))))) := rfl
    rw [hw] at h
    simp only [Bool.and_eq_true, decide_eq_true_eq] at h
    simp only [List.length_cons]; omega
theorem tx_len : ∀ (x : X3), okW x → (tx x).length + 8 ≤ 20 * 2 ^ x.d ∧ (txp x).length + 6 ≤ 20 * 2 ^ x.d := by
  have part : ∀ x : X3, (tx x).length + 8 ≤ 20 * 2 ^ x.d → (txp x).length + 6 ≤ 20 * 2 ^ x.d := by
    intro x h
    unfold txp; split
    · simp; omega
    · omega
  intro x hx
  induction x with
  | num n =>
    have hx : 0 ≤ n ∧ n < 4294967296 := hx
    have := dec_len 10 n.toNat (by simp; omega) (by omega)
    have e : (tx (.num n)).length = (Lib.decDigits n.toNat).length := rfl
    have : (tx (.num n)).length + 8 ≤ 20 * 2 ^ (X3.num n).d := by rw [e]; simp only [X3.d, Nat.pow_zero]; omega
    exact ⟨this, part _ this⟩
  | nm s =>
    have := nm_len (s := s) hx
    have e : (tx (.nm s)).length = (bl s).length := rfl
    have : (tx (.nm s)).length + 8 ≤ 20 * 2 ^ (X3.nm s).d := by rw [e]; simp only [X3.d, Nat.pow_zero]; omega
    exact ⟨this, part _ this⟩
  | here => exact ⟨by decide, by decide⟩
  | neg x ih =>
    have ih := ih hx
    have : (tx (.neg x)).length + 8 ≤ 20 * 2 ^ (X3.neg x).d := by
      rw [tx_neg]; simp only [List.length_cons, X3.d, Nat.pow_succ]
      have : 1 ≤ 2 ^ x.d := Nat.one_le_two_pow
      omega
    exact ⟨this, part _ this⟩
  | bin k x y ihx ihy =>
    have h1 := ihx hx.2.2.1
    have h2 := ihy hx.2.2.2
    have hs : (sg k).length ≤ 2 := by unfold sg; split <;> simp
    have : (tx (.bin k x y)).length + 8 ≤ 20 * 2 ^ (X3.bin k x y).d := by
      rw [tx_bin]; simp only [List.length_append, List.length_cons, X3.d, Nat.pow_succ]
      have e1 : 2 ^ x.d ≤ 2 ^ max x.d y.d := Nat.pow_le_pow_right (by decide) (Nat.le_max_left _ _)
      have e2 : 2 ^ y.d ≤ 2 ^ max x.d y.d := Nat.pow_le_pow_right (by decide) (Nat.le_max_right _ _)
      omega
    exact ⟨this, part _ this⟩
theorem guard_ok {n : Nat} (h : n ≤ 1000000000) : decide (((n : Nat) : Int) ≤ IntKind.i64.max) = true := decide_eq_true (by rw [show IntKind.i64.max = 9223372036854775807 from by decide]; omega)
theorem guardS (a b : List UInt8) (h : a.length + b.length ≤ 1000000000) : decide ((((ba a).size + (ba b).size : Nat) : Int) ≤ IntKind.i64.max) = true := by rw [ba_size, ba_size]; exact guard_ok h
theorem sign_eq {k : Nat} (h : 5 ≤ k ∧ k ≤ 11) : expr_sign (k : Int) = some (ba (sg k)) := by
  rw [expr_sign.eq]; unfold expr_sign_b
  simp only [signs_eq, Option.bind_some]
  have c1 : decide ((k : Int) < 0) = false := decide_eq_false (by omega)
  have c2 : decide ((k : Int) ≥ (([s_, s_, s_, h_2e, h_2d, ba (sg 5), ba (sg 6), ba (sg 7), ba (sg 8), ba (sg 9), ba (sg 10), ba (sg 11)].length : Nat) : Int)) = false := decide_eq_false (by simp; omega)
  have c3 : decide (0 ≤ (k : Int)) = true := decide_eq_true (by omega)
  rw [c1, cond_false, c2, cond_false, c3, cond_true, Int.toNat_natCast, signs_at h]; rfl
theorem r3_sign_eq {k : Nat} (h : 5 ≤ k ∧ k ≤ 11) : r3_sign (k : Int) = some (ba (sg k), (lvlOf k : Int)) := by
  rw [r3_sign.eq]; unfold r3_sign_b
  have h1 : k = 5 ∨ k = 6 ∨ k = 7 ∨ k = 8 ∨ k = 9 ∨ k = 10 ∨ k = 11 := by omega
  rcases h1 with rfl | rfl | rfl | rfl | rfl | rfl | rfl <;> rfl
theorem itoa_dec {n : Int} (h : 0 ≤ n ∧ n < 4294967296) : strconv_Itoa n = some (ba (Lib.decDigits n.toNat)) := by
  show itoaS n = _
  unfold itoaS
  rw [if_pos (by omega)]
  unfold Lib.itoa
  rw [if_neg (by omega)]; rfl
theorem expr_Text_eq : ∀ (x : X3), okW x → x.d ≤ 12 → expr_Text x.t = some (ba (tx x)) ∧ expr_part x.t = some (ba (txp x)) := by
  have part : ∀ x : X3, okW x → x.d ≤ 12 → expr_Text x.t = some (ba (tx x)) → expr_part x.t = some (ba (txp x)) := by
    intro x hx hd h
    rw [expr_part.eq]; unfold expr_part_b
    have hl := (tx_len x hx).1
    have hp : 2 ^ x.d ≤ 2 ^ 12 := Nat.pow_le_pow_right (by decide) hd
    have hp2 : (2 : Nat) ^ 12 = 4096 := rfl
    simp only [h, Option.bind_some]
    cases x with
    | bin k y z =>
      have c1 : ((((X3.bin k y z).t.L.length : Nat) : Int) == 2) = true := rfl
      rw [c1, cond_true, show h_28 = ba [40] from rfl, show h_29 = ba [41] from rfl]
      simp only [ba_append, ba_size]
      rw [guard_ok (by simp; omega), cond_true, guard_ok (by simp; omega), cond_true]; rfl
    | _ => simp [X3.t, txp, isBin]
  intro x
  induction x with
  | num n =>
    intro hx hd
    have hx : 0 ≤ n ∧ n < 4294967296 := hx
    have : expr_Text (X3.num n).t = some (ba (tx (.num n))) := by
      have hL : (X3.num n).t = ⟨1, n, s_, []⟩ := rfl
      have hT : tx (.num n) = Lib.decDigits n.toNat := rfl
      have c1 : ((((([] : List T_api_Expr).length) : Nat) : Int) == 1) = false := rfl
      have c2 : ((((([] : List T_api_Expr).length) : Nat) : Int) == 2) = false := rfl
      have c3 : ((1 : Int) == 1) = true := rfl
      rw [expr_Text.eq]; unfold expr_Text_b
      rw [hL, hT]
      simp only [c1, c2, c3, cond_false, cond_true, itoa_dec hx, Option.bind_some]
    exact ⟨this, part _ hx hd this⟩
  | nm s =>
    intro hx hd
    have : expr_Text (X3.nm s).t = some (ba (tx (.nm s))) := by
      rw [expr_Text.eq]; unfold expr_Text_b
      show some s = some (ba (bl s)); rw [ba_bl]
    exact ⟨this, part _ hx hd this⟩
  | here =>
    intro hx hd
    have : expr_Text X3.here.t = some (ba (tx .here)) := by rw [expr_Text.eq]; rfl
    exact ⟨this, part _ hx hd this⟩
  | neg x ih =>
    intro hx hd
    have hx' : okW x := hx
    have hd' : x.d + 1 ≤ 12 := hd
    have ih := ih hx' (by omega)
    have hl := (tx_len x hx').2
    have hp : 2 ^ x.d ≤ 2 ^ 12 := Nat.pow_le_pow_right (by decide) (by omega)
    have hp2 : (2 : Nat) ^ 12 = 4096 := rfl
    have : expr_Text (X3.neg x).t = some (ba (tx (.neg x))) := by
      rw [expr_Text.eq]; unfold expr_Text_b
      have hL : (X3.neg x).t = ⟨4, 0, s_, [x.t]⟩ := rfl
      have c1 : (((([x.t] : List T_api_Expr).length : Nat) : Int) == 1) = true := rfl
      have g0 : ([x.t] : List T_api_Expr)[Int.toNat 0]? = some x.t := rfl
      rw [hL, c1, cond_true, g0]
      simp only [Option.bind_some, ih.2, show h_2d = ba [45] from rfl, ba_append, ba_size]
      rw [guard_ok (by simp; omega)]; rfl
    exact ⟨this, part _ hx hd this⟩
  | bin k x y ihx ihy =>
    intro hx hd
    obtain ⟨hk1, hk2, hx', hy'⟩ := id hx
    have hd' : max x.d y.d + 1 ≤ 12 := hd
    have e1 : x.d ≤ max x.d y.d := Nat.le_max_left _ _
    have e2 : y.d ≤ max x.d y.d := Nat.le_max_right _ _
    have ihx := ihx hx' (by omega)
    have ihy := ihy hy' (by omega)
    have hl := (tx_len x hx').2
    have hl2 := (tx_len y hy').2
    have hp : 2 ^ x.d ≤ 2 ^ 12 := Nat.pow_le_pow_right (by decide) (by omega)
    have hp' : 2 ^ y.d ≤ 2 ^ 12 := Nat.pow_le_pow_right (by decide) (by omega)
    have hp2 : (2 : Nat) ^ 12 = 4096 := rfl
    have hs : (sg k).length ≤ 2 := by unfold sg; split <;> simp
    have : expr_Text (X3.bin k x y).t = some (ba (tx (.bin k x y))) := by
      rw [expr_Text.eq]; unfold expr_Text_b
      have hL : (X3.bin k x y).t = ⟨k, 0, s_, [x.t, y.t]⟩ := rfl
      have c1 : (((([x.t, y.t] : List T_api_Expr).length : Nat) : Int) == 1) = false := rfl
      have c2 : (((([x.t, y.t] : List T_api_Expr).length : Nat) : Int) == 2) = true := rfl
      have g0 : ([x.t, y.t] : List T_api_Expr)[Int.toNat 0]? = some x.t := rfl
      have g1 : ([x.t, y.t] : List T_api_Expr)[Int.toNat 1]? = some y.t := rfl
      rw [hL, c1, cond_false, c2, cond_true, g0, g1, Option.bind_some, ihx.2, Option.bind_some, show h_20 = ba [32] from rfl, guardS (txp x) [32] (by simp; omega), cond_true]
      rw [sign_eq ⟨hk1, hk2⟩, Option.bind_some, ba_append (txp x) [32], guardS (txp x ++ [32]) (sg k) (by simp; omega), cond_true, ba_append (txp x ++ [32]) (sg k)]
      rw [guardS (txp x ++ [32] ++ sg k) [32] (by simp; omega), cond_true, Option.bind_some, ihy.2, Option.bind_some, ba_append (txp x ++ [32] ++ sg k) [32]]
      rw [guardS (txp x ++ [32] ++ sg k ++ [32]) (txp y) (by simp; omega), cond_true, ba_append, tx_bin]
      simp only [List.append_assoc, List.singleton_append, List.cons_append, List.nil_append]
    exact ⟨this, part _ hx hd this⟩
theorem u8_in {n : Int} (h1 : 0 ≤ n) (h2 : n ≤ 255) : IntKind.u8.wrap n = n := by
  have e : n % 256 = n := Int.emod_eq_of_lt h1 (by omega)
  unfold IntKind.wrap
  simp [IntKind.bits, IntKind.signed, e]
theorem r3_Digits_eq {u : Nat} (h : u < 9223372036854775808) : r3_Digits (u : Int) = some (ba (Lib.decDigits u)) := by
  induction u using Nat.strongRecOn with
  | _ u ih =>
    rw [r3_Digits.eq]; unfold r3_Digits_b
    have c1 : decide ((u : Int) < 0) = false := decide_eq_false (by omega)
    rw [c1, cond_false, Lib.decDigits]
    by_cases hu : u < 10
    · have c2 : decide ((u : Int) ≥ 10) = false := decide_eq_false (by omega)
      rw [c2, cond_false, dif_pos hu, w64_in (by omega) (by omega), u8_in (by omega) (by omega)]
      simp only [Option.bind_some, listB, List.map_cons, List.map_nil]
      rw [show ((48 : Int) + (u : Int)).toNat = 48 + u from by omega]; rfl
    · have c2 : decide ((u : Int) ≥ 10) = true := decide_eq_true (by omega)
      have e1 : w64 (Int.tdiv (u : Int) 10) = ((u / 10 : Nat) : Int) := by
        rw [show Int.tdiv (u : Int) 10 = ((u / 10 : Nat) : Int) from by rw [show (10 : Int) = ((10 : Nat) : Int) from rfl, ← Int.ofNat_tdiv]]
        exact w64_in (by omega) (by omega)
      have e2 : Int.tmod (u : Int) 10 = ((u % 10 : Nat) : Int) := by rw [show (10 : Int) = ((10 : Nat) : Int) from rfl, ← Int.ofNat_tmod]
      have hl1 := dec_len 19 (u / 10) (by simp; omega) (by omega)
      have hl2 := dec_len 19 (u % 10) (by simp; omega) (by omega)
      rw [c2, cond_true, dif_neg hu, e1, e2, ih (u / 10) (by omega) (by omega)]
      have e3 : Lib.decDigits (u % 10) = [UInt8.ofNat (48 + u % 10)] := by rw [Lib.decDigits, dif_pos (by omega)]
      simp only [Option.bind_some]
      rw [ih (u % 10) (by omega) (by omega)]
      simp only [Option.bind_some, ba_append, ba_size]
      rw [guard_ok (by omega), cond_true, e3]
theorem r3_Text_eq : ∀ (x : X3), okW x → x.d ≤ 12 → r3_Text x.t = some (ba (tx x)) ∧ r3_bracketed x.t = some (ba (txp x)) := by
  have part : ∀ x : X3, okW x → x.d ≤ 12 → r3_Text x.t = some (ba (tx x)) → r3_bracketed x.t = some (ba (txp x)) := by
    intro x hx hd h
    rw [r3_bracketed.eq]; unfold r3_bracketed_b
    have hl := (tx_len x hx).1
    have hp : 2 ^ x.d ≤ 2 ^ 12 := Nat.pow_le_pow_right (by decide) hd
    have hp2 : (2 : Nat) ^ 12 = 4096 := rfl
    simp only [h, Option.bind_some]
    cases x with
    | bin k y z =>
      have c1 : ((((X3.bin k y z).t.L.length : Nat) : Int) == 2) = true := rfl
      rw [c1, cond_true, show h_28 = ba [40] from rfl, show h_29 = ba [41] from rfl]
      simp only [ba_append, ba_size]
      rw [guard_ok (by simp; omega), cond_true, guard_ok (by simp; omega), cond_true]; rfl
    | _ => simp [X3.t, txp, isBin]
  intro x
  induction x with
  | num n =>
    intro hx hd
    have hx : 0 ≤ n ∧ n < 4294967296 := hx
    have : r3_Text (X3.num n).t = some (ba (tx (.num n))) := by
      obtain ⟨u, rfl⟩ := Int.eq_ofNat_of_zero_le hx.1
      have hL : (X3.num (u : Int)).t = ⟨1, (u : Int), s_, []⟩ := rfl
      have hT : tx (.num (u : Int)) = Lib.decDigits (u : Int).toNat := rfl
      have c3 : ((1 : Int) == 1) = true := rfl
      rw [r3_Text.eq]; unfold r3_Text_b
      rw [hL, hT]
      simp only [c3, cond_true, r3_Digits_eq (u := u) (by omega), Option.bind_some, Int.toNat_natCast]
    exact ⟨this, part _ hx hd this⟩
  | nm s =>
    intro hx hd
    have : r3_Text (X3.nm s).t = some (ba (tx (.nm s))) := by
      rw [r3_Text.eq]; unfold r3_Text_b
      show some s = some (ba (bl s)); rw [ba_bl]
    exact ⟨this, part _ hx hd this⟩
  | here =>
    intro hx hd
    have : r3_Text X3.here.t = some (ba (tx .here)) := by rw [r3_Text.eq]; rfl
    exact ⟨this, part _ hx hd this⟩
  | neg x ih =>
    intro hx hd
    have hx' : okW x := hx
    have hd' : x.d + 1 ≤ 12 := hd
    have ih := ih hx' (by omega)
    have hl := (tx_len x hx').2
    have hp : 2 ^ x.d ≤ 2 ^ 12 := Nat.pow_le_pow_right (by decide) (by omega)
    have hp2 : (2 : Nat) ^ 12 = 4096 := rfl
    have : r3_Text (X3.neg x).t = some (ba (tx (.neg x))) := by
      rw [r3_Text.eq]; unfold r3_Text_b
      have hL : (X3.neg x).t = ⟨4, 0, s_, [x.t]⟩ := rfl
      have g0 : ([x.t] : List T_api_Expr)[Int.toNat 0]? = some x.t := rfl
      have k1 : ((4 : Int) == 1) = false := rfl
      have k2 : ((4 : Int) == 2) = false := rfl
      have k3 : ((4 : Int) == 3) = false := rfl
      have k4 : ((4 : Int) == 4) = true := rfl
      rw [hL, k1, cond_false, k2, cond_false, k3, cond_false, k4, cond_true, g0]
      simp only [Option.bind_some, ih.2, show h_2d = ba [45] from rfl, ba_append, ba_size]
      rw [guard_ok (by simp; omega)]; rfl
    exact ⟨this, part _ hx hd this⟩
  | bin k x y ihx ihy =>
    intro hx hd
    obtain ⟨hk1, hk2, hx', hy'⟩ := id hx
    have hd' : max x.d y.d + 1 ≤ 12 := hd
    have e1 : x.d ≤ max x.d y.d := Nat.le_max_left _ _
    have e2 : y.d ≤ max x.d y.d := Nat.le_max_right _ _
    have ihx := ihx hx' (by omega)
    have ihy := ihy hy' (by omega)
    have hl := (tx_len x hx').2
    have hl2 := (tx_len y hy').2
    have hp : 2 ^ x.d ≤ 2 ^ 12 := Nat.pow_le_pow_right (by decide) (by omega)
    have hp' : 2 ^ y.d ≤ 2 ^ 12 := Nat.pow_le_pow_right (by decide) (by omega)
    have hp2 : (2 : Nat) ^ 12 = 4096 := rfl
    have hs : (sg k).length ≤ 2 := by unfold sg; split <;> simp
    have : r3_Text (X3.bin k x y).t = some (ba (tx (.bin k x y))) := by
      rw [r3_Text.eq]; unfold r3_Text_b
      have hL : (X3.bin k x y).t = ⟨k, 0, s_, [x.t, y.t]⟩ := rfl
      have k1 : ((k : Int) == 1) = false := by rw [beq_eq_false_iff_ne]; omega
      have k2 : ((k : Int) == 2) = false := by rw [beq_eq_false_iff_ne]; omega
      have k3 : ((k : Int) == 3) = false := by rw [beq_eq_false_iff_ne]; omega
      have k4 : ((k : Int) == 4) = false := by rw [beq_eq_false_iff_ne]; omega
      have g0 : ([x.t, y.t] : List T_api_Expr)[Int.toNat 0]? = some x.t := rfl
      have g1 : ([x.t, y.t] : List T_api_Expr)[Int.toNat 1]? = some y.t := rfl
      rw [hL, k1, cond_false, k2, cond_false, k3, cond_false, k4, cond_false, r3_sign_eq ⟨hk1, hk2⟩, g0, g1, Option.bind_some, Option.bind_some, ihx.2, Option.bind_some, show h_20 = ba [32] from rfl]
      rw [guardS (txp x) [32] (by simp; omega), cond_true, ba_append (txp x) [32], guardS (txp x ++ [32]) (sg k) (by simp; omega), cond_true, ba_append (txp x ++ [32]) (sg k)]
      rw [guardS (txp x ++ [32] ++ sg k) [32] (by simp; omega), cond_true, Option.bind_some, ihy.2, Option.bind_some, ba_append (txp x ++ [32] ++ sg k) [32]]
      rw [guardS (txp x ++ [32] ++ sg k ++ [32]) (txp y) (by simp; omega), cond_true, ba_append, tx_bin]
      simp only [List.append_assoc, List.singleton_append, List.cons_append, List.nil_append]
    exact ⟨this, part _ hx hd this⟩
end Go.Ab
namespace Go.Ab
theorem same_refl : ∀ x : X3, r3_Same x.t x.t = some true := by
  have head : ∀ e : T_api_Expr, r3_Same_L1 ⟨0, e, e⟩ = some (.inr ()) → r3_Same e e = some true := by
    intro e h
    rw [r3_Same.eq]; unfold r3_Same_b
    have h1 : (e.Kind != e.Kind) = false := by simp
    have h2 : (e.N != e.N) = false := by simp
    have h3 : eqS e.Name e.Name = true := eqS_iff.2 rfl
    have h4 : ((((e.L.length) : Nat) : Int) != (((e.L.length) : Nat) : Int)) = false := by simp
    rw [h1, h2, h3, h4, h]; rfl
  intro x
  induction x with
  | num n => apply head; rw [r3_Same_L1.eq]; rfl
  | nm s => apply head; rw [r3_Same_L1.eq]; rfl
  | here => apply head; rw [r3_Same_L1.eq]; rfl
  | neg x ih =>
    apply head
    have g0 : (X3.neg x).t.L[Int.toNat 0]? = some x.t := rfl
    have e1 : r3_Same_L1 ⟨1, (X3.neg x).t, (X3.neg x).t⟩ = some (.inr ()) := by rw [r3_Same_L1.eq]; rfl
    rw [r3_Same_L1.eq]; unfold r3_Same_L1_b
    have c1 : decide ((0 : Int) < (((X3.neg x).t.L.length : Nat) : Int)) = true := rfl
    have c2 : decide ((0 : Int) ≤ 0) = true := rfl
    have c3 : w64 (0 + 1) = 1 := by decide
    rw [c1, cond_true, c2, cond_true, g0, Option.bind_some, Option.bind_some, ih, Option.bind_some, c3]
    exact e1
  | bin k x y ihx ihy =>
    apply head
    have g0 : (X3.bin k x y).t.L[Int.toNat 0]? = some x.t := rfl
    have g1 : (X3.bin k x y).t.L[Int.toNat 1]? = some y.t := rfl
    have e2 : r3_Same_L1 ⟨2, (X3.bin k x y).t, (X3.bin k x y).t⟩ = some (.inr ()) := by rw [r3_Same_L1.eq]; rfl
    have e1 : r3_Same_L1 ⟨1, (X3.bin k x y).t, (X3.bin k x y).t⟩ = some (.inr ()) := by
      rw [r3_Same_L1.eq]; unfold r3_Same_L1_b
      have c1 : decide ((1 : Int) < (((X3.bin k x y).t.L.length : Nat) : Int)) = true := rfl
      have c2 : decide ((0 : Int) ≤ 1) = true := rfl
      have c3 : w64 (1 + 1) = 2 := by decide
      rw [c1, cond_true, c2, cond_true, g1, Option.bind_some, Option.bind_some, ihy, Option.bind_some, c3]
      exact e2
    rw [r3_Same_L1.eq]; unfold r3_Same_L1_b
    have c1 : decide ((0 : Int) < (((X3.bin k x y).t.L.length : Nat) : Int)) = true := rfl
    have c2 : decide ((0 : Int) ≤ 0) = true := rfl
    have c3 : w64 (0 + 1) = 1 := by decide
    rw [c1, cond_true, c2, cond_true, g0, Option.bind_some, Option.bind_some, ihx, Option.bind_some, c3]
    exact e1
theorem eqS_comm (a b : ByteArray) : eqS a b = eqS b a := by
  rw [Bool.eq_iff_iff, eqS_iff, eqS_iff]; exact eq_comm
/-- is a name among these? -/
def ctn (o : List ByteArray) (n : ByteArray) : Bool := o.any fun m => eqS m n
def addN (o l : List ByteArray) : List ByteArray := l.foldl (fun o n => if ctn o n then o else o ++ [n]) o
theorem addN_len (l : List ByteArray) : ∀ o, (addN o l).length ≤ o.length + l.length := by
  induction l with
  | nil => intro o; simp [addN]
  | cons n l ih =>
    intro o
    have := ih (if ctn o n then o else o ++ [n])
    simp only [addN, List.foldl_cons, List.length_cons] at this ⊢
    split at this <;> simp at this ⊢ <;> rename_i h <;> simp only [h, if_true, if_false, Bool.false_eq_true] <;> omega
theorem contains_eq (o : List ByteArray) (n : ByteArray) (hl : o.length ≤ 1000000) : slices_Contains o n = some (ctn o n) := by
  obtain ⟨r, h1, h2⟩ := loop_ind slices_Index_L1.eq (fun a => ∃ i : Nat, i ≤ o.length ∧ a = ⟨o, n, o.length, i⟩ ∧ ctn (o.drop i) n = ctn o n)
    (fun _ r => (∃ j : Nat, r = .inl (j : Int) ∧ ctn o n = true) ∨ (r = .inr () ∧ ctn o n = false)) (fun a => o.length - a.x8.toNat) (by
    rintro a ⟨i, hi, rfl, hq⟩
    simp only [slices_Index_L1_b, Int.toNat_natCast]
    by_cases h : i < o.length
    · have c1 : decide ((i : Int) < (o.length : Int)) = true := decide_eq_true (by omega)
      have c2 : decide (0 ≤ (i : Int)) = true := decide_eq_true (by omega)
      have hd : o.drop i = o[i] :: o.drop (i + 1) := List.drop_eq_getElem_cons h
      rw [hd] at hq
      rw [c1, cond_true, c2, cond_true, List.getElem?_eq_getElem h, Option.bind_some]
      cases he : eqS n o[i] with
      | true =>
        refine .inr ⟨_, rfl, .inl ⟨i, rfl, ?_⟩⟩
        rw [← hq]; simp only [ctn, List.any_cons, eqS_comm o[i] n, he, Bool.true_or]
      | false =>
        refine .inl ⟨⟨o, n, o.length, (i + 1 : Nat)⟩, ?_, ⟨i + 1, by omega, rfl, ?_⟩, by simp only [Int.toNat_natCast]; omega, fun r hr => hr⟩
        · rw [cond_false, w64_in (n := (i : Int) + 1) (by omega) (by omega)]; rfl
        · rw [← hq]; simp only [ctn, List.any_cons, eqS_comm o[i] n, he, Bool.false_or]
    · have c1 : decide ((i : Int) < (o.length : Int)) = false := decide_eq_false (by omega)
      rw [List.drop_eq_nil_of_le (by omega)] at hq
      exact .inr ⟨_, by rw [c1]; rfl, .inr ⟨rfl, hq.symm⟩⟩) ⟨o, n, o.length, 0⟩ ⟨0, by omega, rfl, rfl⟩
  rw [slices_Contains.eq]; unfold slices_Contains_b
  rw [slices_Index.eq]; unfold slices_Index_b
  rw [h1]
  rcases h2 with ⟨j, rfl, h⟩ | ⟨rfl, h⟩
  · rw [h]; simp
  · rw [h]; simp
theorem has_eq (o : List ByteArray) (n : ByteArray) (hl : o.length ≤ 1000000) : r3_has o n = some (ctn o n) := by
  obtain ⟨r, h1, h2⟩ := loop_ind r3_has_L1.eq (fun a => ∃ i : Nat, i ≤ o.length ∧ a = ⟨o, n, i⟩ ∧ ctn (o.drop i) n = ctn o n)
    (fun _ r => (r = .inl true ∧ ctn o n = true) ∨ (r = .inr () ∧ ctn o n = false)) (fun a => o.length - a.x5.toNat) (by
    rintro a ⟨i, hi, rfl, hq⟩
    simp only [r3_has_L1_b, Int.toNat_natCast]
    by_cases h : i < o.length
    · have c1 : decide ((i : Int) < (o.length : Int)) = true := decide_eq_true (by omega)
      have c2 : decide (0 ≤ (i : Int)) = true := decide_eq_true (by omega)
      have hd : o.drop i = o[i] :: o.drop (i + 1) := List.drop_eq_getElem_cons h
      rw [hd] at hq
      rw [c1, cond_true, c2, cond_true, List.getElem?_eq_getElem h, Option.bind_some]
      cases he : eqS o[i] n with
      | true =>
        refine .inr ⟨_, rfl, .inl ⟨rfl, ?_⟩⟩
        rw [← hq]; simp only [ctn, List.any_cons, he, Bool.true_or]
      | false =>
        refine .inl ⟨⟨o, n, (i + 1 : Nat)⟩, ?_, ⟨i + 1, by omega, rfl, ?_⟩, by simp only [Int.toNat_natCast]; omega, fun r hr => hr⟩
        · rw [cond_false, w64_in (n := (i : Int) + 1) (by omega) (by omega)]; rfl
        · rw [← hq]; simp only [ctn, List.any_cons, he, Bool.false_or]
    · have c1 : decide ((i : Int) < (o.length : Int)) = false := decide_eq_false (by omega)
      rw [List.drop_eq_nil_of_le (by omega)] at hq
      exact .inr ⟨_, by rw [c1]; rfl, .inr ⟨rfl, hq.symm⟩⟩) ⟨o, n, 0⟩ ⟨0, by omega, rfl, rfl⟩
  rw [r3_has.eq]; unfold r3_has_b
  rw [h1]
  rcases h2 with ⟨rfl, h⟩ | ⟨rfl, h⟩
  · rw [h]; rfl
  · rw [h]; rfl
/-- an expression's names -/
def nms : X3 → List ByteArray
  | .nm s => [s]
  | .neg x => addN [] (nms x)
  | .bin _ x y => addN (addN [] (nms x)) (nms y)
  | _ => []
theorem nms_len : ∀ x : X3, (nms x).length ≤ 2 ^ x.d
  | .num n => by simp [nms]
  | .nm s => by simp [nms, X3.d]
  | .here => by simp [nms]
  | .neg x => by
    have h1 := nms_len x
    have h2 := addN_len (nms x) []
    simp only [nms, X3.d, Nat.pow_succ, List.length_nil] at h2 ⊢; omega
  | .bin k x y => by
    have h1 := nms_len x
    have h2 := nms_len y
    have h3 := addN_len (nms x) []
    have h4 := addN_len (nms y) (addN [] (nms x))
    have e1 : 2 ^ x.d ≤ 2 ^ max x.d y.d := Nat.pow_le_pow_right (by decide) (Nat.le_max_left _ _)
    have e2 : 2 ^ y.d ≤ 2 ^ max x.d y.d := Nat.pow_le_pow_right (by decide) (Nat.le_max_right _ _)
    simp only [nms, X3.d, Nat.pow_succ, List.length_nil] at h3 ⊢; omega
theorem names_L2 (a : List T_api_Expr) (b c : Int) (l : List ByteArray) (o : List ByteArray) (ho : o.length + l.length ≤ 100000) : expr_Names_L2 ⟨a, b, c, l, l.length, 0, o⟩ = some ⟨a, b, c, addN o l⟩ := by
  obtain ⟨r, h1, h2⟩ := loop_ind expr_Names_L2.eq (fun q => ∃ i : Nat, ∃ o' : List ByteArray, i ≤ l.length ∧ q = ⟨a, b, c, l, l.length, i, o'⟩ ∧ addN o' (l.drop i) = addN o l ∧ o'.length ≤ o.length + i)
    (fun _ r => r = ⟨a, b, c, addN o l⟩) (fun q => l.length - q.x26.toNat) (by
    rintro q ⟨i, o', hi, rfl, hq, hlen⟩
    simp only [expr_Names_L2_b, Int.toNat_natCast]
    by_cases h : i < l.length
    · have c1 : decide ((i : Int) < (l.length : Int)) = true := decide_eq_true (by omega)
      have c2 : decide (0 ≤ (i : Int)) = true := decide_eq_true (by omega)
      have hd : l.drop i = l[i] :: l.drop (i + 1) := List.drop_eq_getElem_cons h
      rw [hd] at hq
      simp only [addN, List.foldl_cons] at hq
      rw [c1, cond_true, c2, cond_true, List.getElem?_eq_getElem h, Option.bind_some, contains_eq _ _ (by omega), Option.bind_some]
      cases hc : ctn o' l[i] with
      | true =>
        rw [hc] at hq
        refine .inl ⟨⟨a, b, c, l, l.length, (i + 1 : Nat), o'⟩, ?_, ⟨i + 1, o', by omega, rfl, hq, by omega⟩, by simp only [Int.toNat_natCast]; omega, fun r hr => hr⟩
        rw [w64_in (n := (i : Int) + 1) (by omega) (by omega)]; rfl
      | false =>
        rw [hc] at hq
        have c3 : decide ((o'.length + [l[i]].length) * 16 ≤ most) = true := decide_eq_true (by simp [most]; omega)
        refine .inl ⟨⟨a, b, c, l, l.length, (i + 1 : Nat), o' ++ [l[i]]⟩, ?_, ⟨i + 1, _, by omega, rfl, hq, by simp; omega⟩, by simp only [Int.toNat_natCast]; omega, fun r hr => hr⟩
        rw [w64_in (n := (i : Int) + 1) (by omega) (by omega), c3]; rfl
    · have c1 : decide ((i : Int) < (l.length : Int)) = false := decide_eq_false (by omega)
      rw [List.drop_eq_nil_of_le (by omega)] at hq
      exact .inr ⟨_, by rw [c1]; rfl, by rw [← hq]; rfl⟩) ⟨a, b, c, l, l.length, 0, o⟩ ⟨0, o, by omega, rfl, rfl, by omega⟩
  rw [h1, h2]
theorem r3names_L2 (a : Int) (e : T_api_Expr) (l : List ByteArray) (o : List ByteArray) (ho : o.length + l.length ≤ 100000) : r3_Names_L2 ⟨a, l, 0, e, o⟩ = some ⟨a, e, addN o l⟩ := by
  obtain ⟨r, h1, h2⟩ := loop_ind r3_Names_L2.eq (fun q => ∃ i : Nat, ∃ o' : List ByteArray, i ≤ l.length ∧ q = ⟨a, l, i, e, o'⟩ ∧ addN o' (l.drop i) = addN o l ∧ o'.length ≤ o.length + i)
    (fun _ r => r = ⟨a, e, addN o l⟩) (fun q => l.length - q.x6.toNat) (by
    rintro q ⟨i, o', hi, rfl, hq, hlen⟩
    simp only [r3_Names_L2_b, Int.toNat_natCast]
    by_cases h : i < l.length
    · have c1 : decide ((i : Int) < (l.length : Int)) = true := decide_eq_true (by omega)
      have c2 : decide (0 ≤ (i : Int)) = true := decide_eq_true (by omega)
      have hd : l.drop i = l[i] :: l.drop (i + 1) := List.drop_eq_getElem_cons h
      rw [hd] at hq
      simp only [addN, List.foldl_cons] at hq
      rw [c1, cond_true, c2, cond_true, List.getElem?_eq_getElem h, Option.bind_some, has_eq _ _ (by omega), Option.bind_some]
      cases hc : ctn o' l[i] with
      | true =>
        rw [hc] at hq
        refine .inl ⟨⟨a, l, (i + 1 : Nat), e, o'⟩, ?_, ⟨i + 1, o', by omega, rfl, hq, by omega⟩, by simp only [Int.toNat_natCast]; omega, fun r hr => hr⟩
        rw [w64_in (n := (i : Int) + 1) (by omega) (by omega)]; rfl
      | false =>
        rw [hc] at hq
        have c3 : decide ((o'.length + [l[i]].length) * 16 ≤ most) = true := decide_eq_true (by simp [most]; omega)
        refine .inl ⟨⟨a, l, (i + 1 : Nat), e, o' ++ [l[i]]⟩, ?_, ⟨i + 1, _, by omega, rfl, hq, by simp; omega⟩, by simp only [Int.toNat_natCast]; omega, fun r hr => hr⟩
        rw [w64_in (n := (i : Int) + 1) (by omega) (by omega), Bool.not_false, cond_true, Option.bind_some, c3]; rfl
    · have c1 : decide ((i : Int) < (l.length : Int)) = false := decide_eq_false (by omega)
      rw [List.drop_eq_nil_of_le (by omega)] at hq
      exact .inr ⟨_, by rw [c1]; rfl, by rw [← hq]; rfl⟩) ⟨a, l, 0, e, o⟩ ⟨0, o, by omega, rfl, rfl, by omega⟩
  rw [h1, h2]
theorem clone_eq {l : List ByteArray} (h : l.length ≤ 100000) : slices_Clone l = some l := by
  show cloneS l = some l
  unfold cloneS; rw [if_pos (by omega)]
theorem w1 : w64 (0 + 1) = 1 ∧ w64 (1 + 1) = 2 := by decide
theorem names_eq : ∀ x : X3, okW x → x.d ≤ 12 → expr_Names x.t = some (nms x) ∧ r3_Names x.t = some (nms x) := by
  intro x
  induction x with
  | num n =>
    intro _ _
    constructor
    · have e0 : expr_Names_L1 ⟨(X3.num n).t.L, (((X3.num n).t.L.length : Nat) : Int), 0, []⟩ = some [] := by rw [expr_Names_L1.eq]; rfl
      have c1 : ((X3.num n).t.Kind == 2) = false := rfl
      rw [expr_Names.eq]; unfold expr_Names_b
      rw [c1, cond_false, e0, Option.bind_some, clone_eq (by simp)]; rfl
    · rw [r3_Names.eq]; unfold r3_Names_b; rw [r3_Names_L1.eq]; rfl
  | here =>
    intro _ _
    constructor
    · have e0 : expr_Names_L1 ⟨X3.here.t.L, ((X3.here.t.L.length : Nat) : Int), 0, []⟩ = some [] := by rw [expr_Names_L1.eq]; rfl
      have c1 : (X3.here.t.Kind == 2) = false := rfl
      rw [expr_Names.eq]; unfold expr_Names_b
      rw [c1, cond_false, e0, Option.bind_some, clone_eq (by simp)]; rfl
    · rw [r3_Names.eq]; unfold r3_Names_b; rw [r3_Names_L1.eq]; rfl
  | nm s =>
    intro _ _
    constructor
    · rw [expr_Names.eq]; unfold expr_Names_b; rw [expr_Names_L1.eq]; rfl
    · rw [r3_Names.eq]; rfl
  | neg x ih =>
    intro hx hd
    have hd' : x.d + 1 ≤ 12 := hd
    obtain ⟨i1, i2⟩ := ih hx (by omega)
    have hl := nms_len x
    have hp : 2 ^ x.d ≤ 2 ^ 12 := Nat.pow_le_pow_right (by decide) (by omega)
    have hp2 : (2 : Nat) ^ 12 = 4096 := rfl
    have ha := addN_len (nms x) []
    constructor
    · have e2 : expr_Names_L1 ⟨[x.t], 1, 1, addN [] (nms x)⟩ = some (addN [] (nms x)) := by rw [expr_Names_L1.eq]; rfl
      have e1 : expr_Names_L1 ⟨[x.t], 1, 0, []⟩ = some (addN [] (nms x)) := by
        rw [expr_Names_L1.eq]; unfold expr_Names_L1_b
        have c1 : decide ((0 : Int) < 1) = true := rfl
        have c2 : decide ((0 : Int) ≤ 0) = true := rfl
        have g0 : ([x.t] : List T_api_Expr)[Int.toNat 0]? = some x.t := rfl
        rw [c1, cond_true, c2, cond_true, g0, Option.bind_some, i1, Option.bind_some, names_L2 _ _ _ (nms x) [] (by simp; omega), Option.bind_some, w1.1]
        exact e2
      rw [expr_Names.eq]; unfold expr_Names_b
      have c1 : ((X3.neg x).t.Kind == 2) = false := rfl
      have e0 : expr_Names_L1 ⟨(X3.neg x).t.L, (((X3.neg x).t.L.length : Nat) : Int), 0, []⟩ = some (addN [] (nms x)) := e1
      rw [c1, cond_false, e0, Option.bind_some, clone_eq (by simp at ha; omega)]; rfl
    · have e2 : r3_Names_L1 ⟨1, (X3.neg x).t, addN [] (nms x)⟩ = some (addN [] (nms x)) := by rw [r3_Names_L1.eq]; rfl
      rw [r3_Names.eq]; unfold r3_Names_b
      have c0 : ((X3.neg x).t.Kind == 2) = false := rfl
      rw [c0, cond_false, r3_Names_L1.eq]; unfold r3_Names_L1_b
      have c1 : decide ((0 : Int) < (((X3.neg x).t.L.length : Nat) : Int)) = true := rfl
      have c2 : decide ((0 : Int) ≤ 0) = true := rfl
      have g0 : (X3.neg x).t.L[Int.toNat 0]? = some x.t := rfl
      rw [c1, cond_true, c2, cond_true, g0, Option.bind_some, i2, Option.bind_some, r3names_L2 _ _ (nms x) [] (by simp; omega), Option.bind_some, w1.1, Option.bind_some]
      show Option.bind (r3_Names_L1 ⟨1, (X3.neg x).t, addN [] (nms x)⟩) _ = _
      rw [e2]; rfl
  | bin k x y ihx ihy =>
    intro hx hd
    obtain ⟨hk1, hk2, hx', hy'⟩ := hx
    have hd' : max x.d y.d + 1 ≤ 12 := hd
    have m1 : x.d ≤ max x.d y.d := Nat.le_max_left _ _
    have m2 : y.d ≤ max x.d y.d := Nat.le_max_right _ _
    obtain ⟨i1, i2⟩ := ihx hx' (by omega)
    obtain ⟨j1, j2⟩ := ihy hy' (by omega)
    have hl := nms_len x
    have hl2 := nms_len y
    have hp : 2 ^ x.d ≤ 2 ^ 12 := Nat.pow_le_pow_right (by decide) (by omega)
    have hp' : 2 ^ y.d ≤ 2 ^ 12 := Nat.pow_le_pow_right (by decide) (by omega)
    have hp2 : (2 : Nat) ^ 12 = 4096 := rfl
    have ha := addN_len (nms x) []
    have ha2 := addN_len (nms y) (addN [] (nms x))
    simp only [List.length_nil] at ha
    constructor
    · have e3 : expr_Names_L1 ⟨[x.t, y.t], 2, 2, addN (addN [] (nms x)) (nms y)⟩ = some (addN (addN [] (nms x)) (nms y)) := by rw [expr_Names_L1.eq]; rfl
      have e2 : expr_Names_L1 ⟨[x.t, y.t], 2, 1, addN [] (nms x)⟩ = some (addN (addN [] (nms x)) (nms y)) := by
        rw [expr_Names_L1.eq]; unfold expr_Names_L1_b
        have c1 : decide ((1 : Int) < 2) = true := rfl
        have c2 : decide ((0 : Int) ≤ 1) = true := rfl
        have g0 : ([x.t, y.t] : List T_api_Expr)[Int.toNat 1]? = some y.t := rfl
        rw [c1, cond_true, c2, cond_true, g0, Option.bind_some, j1, Option.bind_some, names_L2 _ _ _ (nms y) (addN [] (nms x)) (by omega), Option.bind_some, w1.2]
        exact e3
      have e1 : expr_Names_L1 ⟨[x.t, y.t], 2, 0, []⟩ = some (addN (addN [] (nms x)) (nms y)) := by
        rw [expr_Names_L1.eq]; unfold expr_Names_L1_b
        have c1 : decide ((0 : Int) < 2) = true := rfl
        have c2 : decide ((0 : Int) ≤ 0) = true := rfl
        have g0 : ([x.t, y.t] : List T_api_Expr)[Int.toNat 0]? = some x.t := rfl
        rw [c1, cond_true, c2, cond_true, g0, Option.bind_some, i1, Option.bind_some, names_L2 _ _ _ (nms x) [] (by simp; omega), Option.bind_some, w1.1]
        exact e2
      rw [expr_Names.eq]; unfold expr_Names_b
      have c1 : ((X3.bin k x y).t.Kind == 2) = false := by rw [beq_eq_false_iff_ne]; show (k : Int) ≠ 2; omega
      have e0 : expr_Names_L1 ⟨(X3.bin k x y).t.L, (((X3.bin k x y).t.L.length : Nat) : Int), 0, []⟩ = some (addN (addN [] (nms x)) (nms y)) := e1
      rw [c1, cond_false, e0, Option.bind_some, clone_eq (by omega)]; rfl
    · have e3 : r3_Names_L1 ⟨2, (X3.bin k x y).t, addN (addN [] (nms x)) (nms y)⟩ = some (addN (addN [] (nms x)) (nms y)) := by rw [r3_Names_L1.eq]; rfl
      have e2 : r3_Names_L1 ⟨1, (X3.bin k x y).t, addN [] (nms x)⟩ = some (addN (addN [] (nms x)) (nms y)) := by
        rw [r3_Names_L1.eq]; unfold r3_Names_L1_b
        have c1 : decide ((1 : Int) < (((X3.bin k x y).t.L.length : Nat) : Int)) = true := rfl
        have c2 : decide ((0 : Int) ≤ 1) = true := rfl
        have g0 : (X3.bin k x y).t.L[Int.toNat 1]? = some y.t := rfl
        rw [c1, cond_true, c2, cond_true, g0, Option.bind_some, j2, Option.bind_some, r3names_L2 _ _ (nms y) (addN [] (nms x)) (by omega), Option.bind_some, w1.2, Option.bind_some]
        exact e3
      rw [r3_Names.eq]; unfold r3_Names_b
      have c0 : ((X3.bin k x y).t.Kind == 2) = false := by rw [beq_eq_false_iff_ne]; show (k : Int) ≠ 2; omega
      rw [c0, cond_false, r3_Names_L1.eq]; unfold r3_Names_L1_b
      have c1 : decide ((0 : Int) < (((X3.bin k x y).t.L.length : Nat) : Int)) = true := rfl
      have c2 : decide ((0 : Int) ≤ 0) = true := rfl
      have g0 : (X3.bin k x y).t.L[Int.toNat 0]? = some x.t := rfl
      rw [c1, cond_true, c2, cond_true, g0, Option.bind_some, i2, Option.bind_some, r3names_L2 _ _ (nms x) [] (by simp; omega), Option.bind_some, w1.1, Option.bind_some]
      show Option.bind (r3_Names_L1 ⟨1, (X3.bin k x y).t, addN [] (nms x)⟩) _ = _
      rw [e2]; rfl
theorem back_L1 (s : ByteArray) (b : Bool) (l : List ByteArray) (hl : l.length ≤ 100000) (e f : T_api_Expr) : w3_ExprBack_L1 ⟨s, b, l, l, 0, e, f⟩ = some (.inr ⟨s, b, e, f⟩) := by
  obtain ⟨r, h1, h2⟩ := loop_ind w3_ExprBack_L1.eq (fun a => ∃ i : Nat, i ≤ l.length ∧ a = ⟨s, b, l, l, i, e, f⟩) (fun _ r => r = .inr ⟨s, b, e, f⟩) (fun a => l.length - a.x9.toNat) (by
    rintro a ⟨i, hi, rfl⟩
    simp only [w3_ExprBack_L1_b, Int.toNat_natCast]
    by_cases h : i < l.length
    · have c1 : decide ((i : Int) < (l.length : Int)) = true := decide_eq_true (by omega)
      have c2 : decide (0 ≤ (i : Int)) = true := decide_eq_true (by omega)
      have he : eqS l[i] l[i] = true := eqS_iff.2 rfl
      refine .inl ⟨⟨s, b, l, l, (i + 1 : Nat), e, f⟩, ?_, ⟨i + 1, by omega, rfl⟩, by simp only [Int.toNat_natCast]; omega, fun r hr => hr⟩
      rw [c1, cond_true, c2, cond_true, List.getElem?_eq_getElem h, Option.bind_some, Option.bind_some, he, w64_in (n := (i : Int) + 1) (by omega) (by omega)]; rfl
    · have c1 : decide ((i : Int) < (l.length : Int)) = false := decide_eq_false (by omega)
      exact .inr ⟨_, by rw [c1]; rfl, rfl⟩) ⟨s, b, l, l, 0, e, f⟩ ⟨0, by omega, rfl⟩
  rw [h1, h2]
theorem w3_ExprBack_true (l : List T_w3_Raw) (w : l.length ≤ maxLen ∧ ∀ y ∈ l, wf_w3_Raw y) : w3_ExprBack l = some true := by
  rw [w3_ExprBack.eq]; unfold w3_ExprBack_b
  obtain ⟨b, hb, hx⟩ := few_one l w.1 w.2
  rw [w3_known_true, Option.bind_some, hb, Option.bind_some]
  cases b with
  | false => rfl
  | true =>
    obtain ⟨x, e1, e2, e3⟩ := hx rfl
    have hW := ok_okW e2
    obtain ⟨n1, n2⟩ := names_eq x hW (by omega)
    have hn := nsp_le x
    have hl := nms_len x
    have hp : 2 ^ x.d ≤ 2 ^ 12 := Nat.pow_le_pow_right (by decide) (by omega)
    have hp2 : (2 : Nat) ^ 12 = 4096 := rfl
    have c1 : ((((nms x).length : Nat) : Int) != (((nms x).length : Nat) : Int)) = false := by simp
    have he : eqS (ba (tx x)) (ba (tx x)) = true := eqS_iff.2 rfl
    simp only [Bool.not_true, cond_false]
    rw [e1, Option.bind_some, (expr_Text_eq x hW (by omega)).1, Option.bind_some, read_text hW (by omega) (tx_tk x), Option.bind_some, n1, Option.bind_some, n2, Option.bind_some, c1, cond_false, back_L1 _ _ _ (by omega), Option.bind_some]
    simp only [Sum.elim_inr]
    rw [(r3_Text_eq x hW (by omega)).1, Option.bind_some, he, cond_true, cond_true, same_refl, Option.bind_some]
end Go.Ab
namespace Go.Ab
theorem two_of_one {s : List UInt8} {d : Int} {o : Option (X3 × List UInt8)} (h : PR (expr_parser_one (PS s d false)) d o) (hst : ∀ x r, o = some (x, r) → ∀ l, l < 5 → kindS (lv l) (dropB r) = none) :
    ∀ (g l : Nat), g + l = 5 → ∃ o', PR (expr_parser_two (l : Int) (PS s d false)) d o' ∧ (o = none → o' = none) ∧ ∀ x r, o = some (x, r) → o' = some (x, r) ∨ o' = some (x, dropB r)
  | 0, l, hl => by
    obtain rfl : l = 5 := by omega
    refine ⟨o, ?_, id, fun x r e => .inl e⟩
    rw [show ((5 : Nat) : Int) = 5 from rfl, two5]; exact h
  | g + 1, l, hl => by
    obtain ⟨o', h1, h2, h3⟩ := two_of_one h hst g (l + 1) (by omega)
    rw [two_lt (by omega)]
    cases o with
    | none =>
      have := h2 rfl
      subst this
      obtain ⟨e, r, he⟩ := h1
      refine ⟨none, ?_, fun _ => rfl, fun x r e => (nomatch e)⟩
      rw [he]
      simp only [Option.bind_some, PL_bad]
      exact ⟨_, _, rfl⟩
    | some xr =>
      obtain ⟨x, r⟩ := xr
      have hk := hst x r rfl l (by omega)
      refine ⟨some (x, dropB r), ?_, fun e => (nomatch e), fun x' r' e => by cases e; exact .inr rfl⟩
      rcases h3 x r rfl with rfl | rfl
      · have h1 : expr_parser_two ((l + 1 : Nat) : Int) (PS s d false) = some (x.t, PS r d false) := h1
        rw [h1]; simp only [Option.bind_some]
        exact PL_none (by omega) hk d _
      · have h1 : expr_parser_two ((l + 1 : Nat) : Int) (PS s d false) = some (x.t, PS (dropB r) d false) := h1
        rw [h1]; simp only [Option.bind_some]
        have := PL_none (l := l) (by omega) (s := dropB r) (by rw [dropB_idem]; exact hk) d x.t
        rw [dropB_idem] at this; exact this
/-- brackets (false), signs ahead (true), in one another, around a 7 -/
def W : List Bool → List UInt8
  | [] => [55]
  | true :: L => 45 :: 32 :: W L
  | false :: L => 40 :: (W L ++ [41])
def wX : List Bool → X3
  | [] => .num 7
  | true :: L => .neg (wX L)
  | false :: L => wX L
theorem W_head (L : List Bool) : ∃ c t, W L = c :: t ∧ c ≠ 32 := by
  match L with
  | [] => exact ⟨55, [], rfl, by decide⟩
  | true :: L => exact ⟨_, _, rfl, by decide⟩
  | false :: L => exact ⟨_, _, rfl, by decide⟩
theorem dec7 : Lib.decDigits 7 = [55] := by rw [Lib.decDigits]; rfl
theorem nest : ∀ (L : List Bool) (d : Int) (s r : List UInt8), 0 ≤ d → d ≤ 12 → dropB s = W L ++ r → (r = [] ∨ ∃ t, r = 41 :: t) → PR (expr_parser_one (PS s d false)) d (if d + L.length ≤ 12 then some (wX L, r) else none)
  | [], d, s, r, h0, h12, hs, hr => by
    rw [if_pos (by simpa using h12)]
    have ea := atom_num (u := 7) (by decide) (r := r) (fun c t e => by
      rcases hr with rfl | ⟨t', rfl⟩
      · cases e
      · cases e; decide)
    rw [dec7] at ea
    have := one_atom (s := s) hs (fun r e => by cases e) (fun r e => by cases e) (fun r e => by cases e) d
    rw [show W [] ++ r = [55] ++ r from rfl, ea] at this
    exact this
  | true :: L, d, s, r, h0, h12, hs, hr => by
    have hs : dropB s = 45 :: (32 :: (W L ++ r)) := hs
    rw [one_minus hs]
    by_cases h : d ≥ 12
    · rw [if_neg (by simp only [List.length_cons]; omega)]
      exact ⟨_, _, (within_max h _).2⟩
    · obtain ⟨c, t, e, hc⟩ := W_head L
      have hd : dropB (32 :: (W L ++ r)) = W L ++ r := by
        rw [show (32 : UInt8) :: (W L ++ r) = [32] ++ (W L ++ r) from rfl, dropB_blanks (by simp), e]; exact dropB_head hc
      have ih := nest L (d + 1) (32 :: (W L ++ r)) r (by omega) (by omega) hd hr
      have := minus_PR h0 (by omega) (32 :: (W L ++ r)) ih
      by_cases h2 : d + 1 + (L.length : Int) ≤ 12
      · rw [if_pos h2] at this; rw [if_pos (by simp only [List.length_cons]; omega)]; exact this
      · rw [if_neg h2] at this; rw [if_neg (by simp only [List.length_cons]; omega)]; exact this
  | false :: L, d, s, r, h0, h12, hs, hr => by
    have hs : dropB s = 40 :: (W L ++ (41 :: r)) := by rw [hs]; simp [W]
    rw [one_open hs]
    by_cases h : d ≥ 12
    · rw [if_neg (by simp only [List.length_cons]; omega)]
      exact ⟨_, _, (within_max h _).1⟩
    · obtain ⟨c, t, e, hc⟩ := W_head L
      have hd : dropB (W L ++ (41 :: r)) = W L ++ (41 :: r) := by rw [e]; exact dropB_head hc
      have ih := nest L (d + 1) (W L ++ (41 :: r)) (41 :: r) (by omega) (by omega) hd (.inr ⟨r, rfl⟩)
      have hcl : dropB (41 :: r) = 41 :: r := dropB_head (by decide)
      obtain ⟨o', h1, h2, h3⟩ := two_of_one ih (fun x r' e l hl => by
        split at e
        · cases e; rw [hcl]; exact (kindS_close hl _).1
        · cases e) 5 0 rfl
      have := within_PR h0 (by omega) _ h1
      by_cases h2' : d + 1 + (L.length : Int) ≤ 12
      · rw [if_pos (by simp only [List.length_cons]; omega)]
        rcases h3 (wX L) (41 :: r) (by rw [if_pos h2']) with rfl | rfl
        · simp only [Option.bind_some, hcl] at this
          rw [show pre [41] (41 :: r) = true from by simp [pre]] at this; exact this
        · simp only [Option.bind_some, hcl] at this
          rw [show pre [41] (41 :: r) = true from by simp [pre]] at this; exact this
      · rw [if_neg (by simp only [List.length_cons]; omega)]
        rw [h2 (by rw [if_neg h2'])] at this; exact this
theorem nest_parse (L : List Bool) : ∃ e, expr_Parse (ba (W L)) = some (e, decide (L.length ≤ 12)) := by
  obtain ⟨c, t, e, hc⟩ := W_head L
  have hd : dropB (W L) = W L ++ [] := by rw [List.append_nil, e]; exact dropB_head hc
  have h := nest L 0 (W L) [] (by omega) (by omega) hd (.inl rfl)
  obtain ⟨o', h1, h2, h3⟩ := two_of_one h (fun x r' e l hl => by
    split at e
    · cases e; exact (kindS_close hl []).2
    · cases e) 5 0 rfl
  have hp := parse_PR (W L) (o := o') h1
  by_cases hl : (0 : Int) + L.length ≤ 12
  · rcases h3 (wX L) [] (by rw [if_pos hl]) with rfl | rfl
    · exact ⟨_, by rw [hp, decide_eq_true (by omega)]; rfl⟩
    · exact ⟨_, by rw [hp, decide_eq_true (by omega)]; rfl⟩
  · have := h2 (by rw [if_neg hl])
    subst this
    exact ⟨_, by rw [hp, decide_eq_false (by omega)]⟩
def preW : List Bool → List UInt8
  | [] => []
  | true :: L => 45 :: 32 :: preW L
  | false :: L => 40 :: preW L
def postN (L : List Bool) : Nat := L.countP (· == false)
theorem W_eq : ∀ L : List Bool, W L = preW L ++ 55 :: List.replicate (postN L) 41
  | [] => rfl
  | true :: L => by simp [W, preW, postN, W_eq L]
  | false :: L => by
    simp only [W, preW, W_eq L, postN, List.countP_cons]
    simp [List.replicate_succ']
theorem preW_snoc : ∀ (L : List Bool) (b : Bool), preW (L ++ [b]) = preW L ++ (if b then [45, 32] else [40])
  | [], b => by cases b <;> rfl
  | true :: L, b => by simp [preW, preW_snoc L b]
  | false :: L, b => by simp [preW, preW_snoc L b]
theorem preW_len : ∀ L : List Bool, (preW L).length ≤ 2 * L.length
  | [] => by simp [preW]
  | true :: L => by have := preW_len L; simp [preW]; omega
  | false :: L => by have := preW_len L; simp [preW]; omega
theorem deep_loop (ns : List Int) (k : Nat) (hk : k < 20) : ∃ L : List Bool, L.length = k ∧ w3_ExprDeep_L1 ⟨ns, k, s_, s_, 0⟩ = some ⟨(k : Int), ba (preW L), ba (List.replicate (postN L) 41)⟩ := by
  obtain ⟨r, h1, L, h2, h3⟩ := loop_ind w3_ExprDeep_L1.eq (fun a => ∃ i : Nat, ∃ L : List Bool, i ≤ k ∧ L.length = i ∧ a = ⟨ns, k, ba (preW L), ba (List.replicate (postN L) 41), i⟩)
    (fun _ r => ∃ L : List Bool, L.length = k ∧ r = ⟨(k : Int), ba (preW L), ba (List.replicate (postN L) 41)⟩) (fun a => k - a.x8.toNat) (by
    rintro a ⟨i, L, hi, hL, rfl⟩
    have hp := preW_len L
    have hq : postN L ≤ L.length := List.countP_le_length
    unfold w3_ExprDeep_L1_b
    by_cases h : i < k
    · have c1 : decide ((i : Int) < (k : Int)) = true := decide_eq_true (by omega)
      have c3 : decide (0 ≤ (i : Int)) = true := decide_eq_true (by omega)
      have e1 : w64 ((i : Int) + 1) = ((i + 1 : Nat) : Int) := by rw [w64_in (by omega) (by omega)]; omega
      have open_ : (bif decide (((ba (preW L)).size + h_28.size : Nat) ≤ IntKind.i64.max) then bif decide ((((ba (List.replicate (postN L) 41)).size + h_29.size : Nat) : Int) ≤ IntKind.i64.max) then (some (.inl ⟨ns, (k : Int), ba (preW L) ++ h_28, ba (List.replicate (postN L) 41) ++ h_29, w64 ((i : Int) + 1)⟩) : Option (w3_ExprDeep_L1_A ⊕ w3_ExprDeep_L1_O0)) else none else none) =
          some (.inl ⟨ns, k, ba (preW (L ++ [false])), ba (List.replicate (postN (L ++ [false])) 41), ((i + 1 : Nat) : Int)⟩) := by
        rw [show h_28 = ba [40] from rfl, show h_29 = ba [41] from rfl, guardS (preW L) [40] (by simp; omega), cond_true, guardS (List.replicate (postN L) 41) [41] (by simp; omega), cond_true, ba_append, ba_append, e1, preW_snoc]
        rw [show postN (L ++ [false]) = postN L + 1 from by simp [postN], List.replicate_succ']; rfl
      have neg_ : (bif decide (((ba (preW L)).size + h_2d20.size : Nat) ≤ IntKind.i64.max) then (some (.inl ⟨ns, (k : Int), ba (preW L) ++ h_2d20, ba (List.replicate (postN L) 41), w64 ((i : Int) + 1)⟩) : Option (w3_ExprDeep_L1_A ⊕ w3_ExprDeep_L1_O0)) else none) =
          some (.inl ⟨ns, k, ba (preW (L ++ [true])), ba (List.replicate (postN (L ++ [true])) 41), ((i + 1 : Nat) : Int)⟩) := by
        rw [show h_2d20 = ba [45, 32] from rfl, guardS (preW L) [45, 32] (by simp; omega), cond_true, ba_append, e1, preW_snoc]
        rw [show postN (L ++ [true]) = postN L from by simp [postN]]; rfl
      left
      by_cases hn : i < ns.length
      · have c2 : decide ((i : Int) < (((ns.length) : Nat) : Int)) = true := decide_eq_true (by omega)
        obtain ⟨j, hj, ej⟩ := within_nat ns[i] 2 (by decide) (by decide)
        have ej : w3_within ns[i] 2 = some (j : Int) := ej
        simp only
        rw [c1, cond_true, c2, cond_true, c3, cond_true, get_nat _ hn, Option.bind_some, ej, Option.bind_some]
        by_cases hj0 : j = 0
        · have e0 : ((j : Int) == 0) = true := by rw [beq_iff_eq]; omega
          rw [e0, cond_true]
          exact ⟨_, neg_, ⟨i + 1, L ++ [true], by omega, by simp; omega, rfl⟩, by simp only [Int.toNat_natCast]; omega, fun r hr => hr⟩
        · have e0 : ((j : Int) == 0) = false := by rw [beq_eq_false_iff_ne]; omega
          rw [e0, cond_false]
          exact ⟨_, open_, ⟨i + 1, L ++ [false], by omega, by simp; omega, rfl⟩, by simp only [Int.toNat_natCast]; omega, fun r hr => hr⟩
      · have c2 : decide ((i : Int) < (((ns.length) : Nat) : Int)) = false := decide_eq_false (by omega)
        simp only
        rw [c1, cond_true, c2, cond_false]
        exact ⟨_, open_, ⟨i + 1, L ++ [false], by omega, by simp; omega, rfl⟩, by simp only [Int.toNat_natCast]; omega, fun r hr => hr⟩
    · have c1 : decide ((i : Int) < (k : Int)) = false := decide_eq_false (by omega)
      simp only
      rw [c1]
      exact .inr ⟨_, rfl, L, by omega, rfl⟩) ⟨ns, k, s_, s_, 0⟩ ⟨0, [], by omega, rfl, rfl⟩
  exact ⟨L, h2, by rw [h1, h3]⟩
theorem w3_ExprDeep_true (n : Int) (ns : List Int) (w1 : IntKind.i64.min ≤ n ∧ n ≤ IntKind.i64.max) (w2 : ns.length ≤ maxLen ∧ ∀ y ∈ ns, IntKind.i64.min ≤ y ∧ y ≤ IntKind.i64.max) : w3_ExprDeep n ns = some true := by
  rw [w3_ExprDeep.eq]; unfold w3_ExprDeep_b
  obtain ⟨k, hk, ek⟩ := within_nat n 20 (by decide) (by decide)
  have ek : w3_within n 20 = some (k : Int) := ek
  obtain ⟨L, hL, e1⟩ := deep_loop ns k hk
  obtain ⟨e, e2⟩ := nest_parse L
  have hp := preW_len L
  have hq : postN L ≤ L.length := List.countP_le_length
  rw [w3_known_true, Option.bind_some]
  simp only [Bool.not_true, cond_false]
  rw [ek, Option.bind_some, e1, Option.bind_some, show s_7 = ba [55] from rfl]
  rw [guardS (preW L) [55] (by simp; omega), cond_true, ba_append (preW L) [55], guardS (preW L ++ [55]) (List.replicate (postN L) 41) (by simp; omega), cond_true, ba_append (preW L ++ [55])]
  rw [show preW L ++ [55] ++ List.replicate (postN L) 41 = W L from by rw [W_eq]; simp, e2, Option.bind_some]
  have : decide (L.length ≤ 12) = decide ((k : Int) ≤ 12) := decide_eq_decide.2 (by omega)
  rw [this]; simp
end Go.Ab
namespace Go.Ab
/-- what digits stand for -/
def vl (base : Nat) : List UInt8 → Nat → Nat
  | [], n => n
  | b :: l, n => vl base l (n * base + dg b)
theorem vl_ge {base : Nat} (hb : 1 ≤ base) : ∀ (l : List UInt8) (n : Nat), n ≤ vl base l n
  | [], n => Nat.le_refl _
  | b :: l, n => by
    have := vl_ge hb l (n * base + dg b)
    have h2 : n * 1 ≤ n * base := Nat.mul_le_mul_left n hb
    simp only [vl]; omega
theorem numv_vl {base : Nat} (hb : 1 ≤ base) : ∀ (l : List UInt8) (n : Nat), n < 4294967296 → numv base l n = if vl base l n ≥ 4294967296 then none else some (vl base l n)
  | [], n, h => by
    rw [show vl base [] n = n from rfl, if_neg (by omega)]; rfl
  | b :: l, n, h => by
    rw [show vl base (b :: l) n = vl base l (n * base + dg b) from rfl, numv]
    by_cases hx : n * base + dg b ≥ 4294967296
    · have := vl_ge hb l (n * base + dg b)
      rw [if_pos hx, if_pos (by omega)]
    · rw [if_neg hx]; exact numv_vl hb l _ (by omega)
theorem vl_append (base : Nat) (c : UInt8) : ∀ (l : List UInt8) (n : Nat), vl base (l ++ [c]) n = vl base l n * base + dg c
  | [], n => rfl
  | b :: l, n => by simp only [List.cons_append, vl]; exact vl_append base c l _
theorem vl_dec (u : Nat) : vl 10 (Lib.decDigits u) 0 = u := by
  induction u using Nat.strongRecOn with
  | _ u ih =>
    have dv : ∀ v : Fin 10, dg (UInt8.ofNat (48 + v.val)) = v.val := by decide
    rw [Lib.decDigits]
    split
    · rename_i hu
      have e := dv ⟨u, hu⟩
      simp only at e
      simp only [vl, Nat.zero_mul, Nat.zero_add, e]
    · rw [vl_append, ih (u / 10) (by omega)]
      have e := dv ⟨u % 10, by omega⟩
      simp only at e
      rw [e]; omega
/-- a digit of sixteen -/
def hd (v : Nat) : UInt8 := if v < 10 then UInt8.ofNat (48 + v) else UInt8.ofNat (87 + v)
theorem hd_ok : ∀ v : Fin 16, dg (hd v.val) = v.val ∧ isH (hd v.val) = true := by decide
/-- digits of sixteen; none for 0 -/
def hexZ : Nat → Nat → List UInt8
  | 0, _ => []
  | g + 1, u => if u = 0 then [] else hexZ g (u / 16) ++ [hd (u % 16)]
theorem hexZ_ok : ∀ (g u : Nat), u < 16 ^ g → vl 16 (hexZ g u) 0 = u ∧ (hexZ g u).all isH = true ∧ (hexZ g u).length ≤ g ∧ (u ≠ 0 → hexZ g u ≠ [])
  | 0, u, h => by
    have : u = 0 := by simpa using h
    subst this; simp [hexZ, vl]
  | g + 1, u, h => by
    rw [hexZ]
    split
    · rename_i hu; subst hu; simp [vl]
    · obtain ⟨h1, h2, h3, _⟩ := hexZ_ok g (u / 16) (by rw [Nat.pow_succ] at h; omega)
      obtain ⟨d1, d2⟩ := hd_ok ⟨u % 16, by omega⟩
      simp only at d1 d2
      refine ⟨by rw [vl_append, h1, d1]; omega, by rw [List.all_append, h2]; simp [d2], by simp; omega, by simp⟩
theorem hex_digit {m : Nat} : s_0123456789abcdef.extract (m % 16) (m % 16 + 1) = ba [hd (m % 16)] := by
  have : ∀ v : Fin 16, eqS (s_0123456789abcdef.extract v.val (v.val + 1)) (ba [hd v.val]) = true := by decide +kernel
  exact eqS_iff.1 (this ⟨m % 16, by omega⟩)
/-- a row of hex digits, written behind 0x -/
theorem hex_parse {h : List UInt8} (hh : h.all isH = true) (hn : h ≠ []) : expr_Parse (ba ([48, 120] ++ h)) = some (if vl 16 h 0 ≥ 4294967296 then (E0, false) else ((X3.num (vl 16 h 0)).t, true)) := by
  have ht : dropB ([48, 120] ++ h) = [48, 120] ++ h := dropB_head (by decide)
  obtain ⟨e1, e2⟩ := tw_append (r := []) hh (fun c t e => by cases e)
  rw [List.append_nil] at e1 e2
  have ha : atomS ([48, 120] ++ h) = if vl 16 h 0 ≥ 4294967296 then none else some (.num (vl 16 h 0), []) := by
    unfold atomS
    rw [show pre [48, 120] ([48, 120] ++ h) = true from by simp [pre], show ([48, 120] ++ h : List UInt8).drop 2 = h from rfl, e1, e2, decide_eq_false hn]
    simp only [Bool.not_false, Bool.true_and, cond_true]
    unfold tailA
    rw [numv_vl (by decide) h 0 (by decide)]
    by_cases hv : vl 16 h 0 ≥ 4294967296
    · rw [if_pos hv, if_pos hv]
    · rw [if_neg hv, if_neg hv]; rfl
  have h1 := one_atom ht (fun r e => by cases e) (fun r e => by cases e) (fun r e => by cases e) 0
  rw [ha] at h1
  obtain ⟨o', h2, h3, h4⟩ := two_of_one h1 (fun x r' e l hl => by
    split at e
    · cases e
    · cases e; exact (kindS_close hl []).2) 5 0 rfl
  rw [parse_PR _ (o := o') h2]
  by_cases hv : vl 16 h 0 ≥ 4294967296
  · have := h3 (by rw [if_pos hv]); subst this; rw [if_pos hv]
  · rw [if_neg hv]
    rcases h4 _ _ (by rw [if_neg hv]) with rfl | rfl <;> rfl
theorem dec_parse (u : Nat) : expr_Parse (ba (Lib.decDigits u)) = some (if u ≥ 4294967296 then (E0, false) else ((X3.num u).t, true)) := by
  obtain ⟨d1, d2⟩ := @isD_dec u
  match hd : Lib.decDigits u, d2 with
  | c :: t, _ =>
    rw [hd] at d1
    have d1' := d1
    simp only [List.all_cons, Bool.and_eq_true] at d1
    have hc32 : c ≠ 32 := fun e => by rw [e] at d1; cases d1.1
    have ht : dropB (c :: t) = c :: t := dropB_head hc32
    have hrD : ∀ c' t', ([] : List UInt8) = c' :: t' → isD c' = false := fun c' t' e => by cases e
    obtain ⟨e1, e2⟩ := tw_append d1' hrD
    rw [List.append_nil] at e1 e2
    have hp : pre [48, 120] (c :: t) = false := by
      unfold pre
      rw [decide_eq_false]
      intro e
      match t, e, d1 with
      | [], e, _ => simp at e
      | b :: l, e, d1 =>
        simp at e
        have := d1.2
        simp only [List.all_cons, Bool.and_eq_true] at this
        rw [e.2] at this; cases this.1
    have ha : atomS (c :: t) = if u ≥ 4294967296 then none else some (.num u, []) := by
      unfold atomS
      rw [hp, e1, e2]
      simp only [Bool.false_and, cond_false, decide_eq_false (List.cons_ne_nil c t), Bool.not_false, cond_true]
      unfold tailA
      have hv : vl 10 (c :: t) 0 = u := by rw [← hd]; exact vl_dec u
      rw [numv_vl (by decide) _ 0 (by decide), hv]
      by_cases hb : u ≥ 4294967296
      · rw [if_pos hb, if_pos hb]
      · rw [if_neg hb, if_neg hb]; rfl
    have h1 := one_atom (s := c :: t) ht (fun r e => by
        have : c = 40 := by simpa using congrArg List.head? e
        rw [this] at d1; cases d1.1) (fun r e => by
        have : c = 45 := by simpa using congrArg List.head? e
        rw [this] at d1; cases d1.1) (fun r e => by
        have : c = 46 := by simpa using congrArg List.head? e
        rw [this] at d1; cases d1.1) 0
    rw [ha] at h1
    obtain ⟨o', h2, h3, h4⟩ := two_of_one h1 (fun x r' e l hl => by
      split at e
      · cases e
      · cases e; exact (kindS_close hl []).2) 5 0 rfl
    rw [parse_PR _ (o := o') h2]
    by_cases hv : u ≥ 4294967296
    · have := h3 (by rw [if_pos hv]); subst this; rw [if_pos hv]
    · rw [if_neg hv]
      rcases h4 _ _ (by rw [if_neg hv]) with rfl | rfl <;> rfl
theorem hex_loop (z v : Int) (h : List UInt8) : ∀ (g m : Nat), m < 16 ^ g → g ≤ 15 → h.length + g ≤ 100 → (m ≠ 0 ∨ h ≠ []) → w3_ExprNumbers_L1 ⟨z, v, ba h, m⟩ = some ⟨z, v, ba (hexZ g m ++ h)⟩ := by
  intro g
  induction g generalizing h with
  | zero =>
    intro m hm hg hl hn
    have : m = 0 := by simpa using hm
    subst this
    have hne : h ≠ [] := by rcases hn with h | h; exact absurd rfl h; exact h
    rw [w3_ExprNumbers_L1.eq]; unfold w3_ExprNumbers_L1_b
    have c1 : decide (((0 : Nat) : Int) > 0) = false := rfl
    have c2 : eqS (ba h) s_ = false := by rw [show s_ = ba [] from rfl, eqS_ba]; exact decide_eq_false hne
    simp only
    rw [c1, cond_false, c2, cond_false]; rfl
  | succ g ih =>
    intro m hm hg hl hn
    rw [w3_ExprNumbers_L1.eq]; unfold w3_ExprNumbers_L1_b
    by_cases hz : m = 0
    · subst hz
      have hne : h ≠ [] := by rcases hn with h | h; exact absurd rfl h; exact h
      have c1 : decide (((0 : Nat) : Int) > 0) = false := rfl
      have c2 : eqS (ba h) s_ = false := by rw [show s_ = ba [] from rfl, eqS_ba]; exact decide_eq_false hne
      simp only
      rw [c1, cond_false, c2, cond_false]; rfl
    · have hb : m < 16 ^ 15 := Nat.lt_of_lt_of_le hm (Nat.pow_le_pow_right (by decide) hg)
      have hb2 : (16 : Nat) ^ 15 = 1152921504606846976 := rfl
      have c1 : decide ((m : Int) > 0) = true := decide_eq_true (by omega)
      have e1 : Int.tmod (m : Int) 16 = ((m % 16 : Nat) : Int) := by rw [show (16 : Int) = ((16 : Nat) : Int) from rfl, ← Int.ofNat_tmod]
      have e2 : w64 (((m % 16 : Nat) : Int) + 1) = ((m % 16 + 1 : Nat) : Int) := by rw [w64_in (by omega) (by omega)]; omega
      have hsz : s_0123456789abcdef.size = 16 := rfl
      have c3 : decide (0 ≤ ((m % 16 : Nat) : Int) ∧ ((m % 16 : Nat) : Int) ≤ ((m % 16 + 1 : Nat) : Int) ∧ ((m % 16 + 1 : Nat) : Int) ≤ ((s_0123456789abcdef.size : Nat) : Int)) = true := decide_eq_true (by rw [hsz]; omega)
      have e3 : w64 (Int.tdiv (m : Int) 16) = ((m / 16 : Nat) : Int) := by
        rw [show Int.tdiv (m : Int) 16 = ((m / 16 : Nat) : Int) from by rw [show (16 : Int) = ((16 : Nat) : Int) from rfl, ← Int.ofNat_tdiv]]
        exact w64_in (by omega) (by omega)
      simp only
      rw [c1, cond_true, e1, e2, c3, cond_true, Int.toNat_natCast, Int.toNat_natCast, hex_digit, guardS [hd (m % 16)] h (by simp; omega), cond_true, Option.bind_some, e3, ba_append]
      show w3_ExprNumbers_L1 ⟨z, v, ba ([hd (m % 16)] ++ h), ((m / 16 : Nat) : Int)⟩ = _
      rw [ih ([hd (m % 16)] ++ h) (m / 16) (by rw [Nat.pow_succ] at hm; omega) (by omega) (by simp; omega) (.inr (by simp)), hexZ, if_neg hz]
      simp
theorem zero_loop (z v : Int) (h : List UInt8) (hh : h.length ≤ 100) : ∃ n : Nat, n ≤ 3 ∧ w3_ExprNumbers_L2 ⟨z, v, ba h, 0⟩ = some ⟨v, ba (List.replicate n 48 ++ h)⟩ := by
  obtain ⟨j, hj, ej⟩ := within_nat z 4 (by decide) (by decide)
  have ej : w3_within z 4 = some (j : Int) := ej
  obtain ⟨r, h1, h2⟩ := loop_ind w3_ExprNumbers_L2.eq (fun a => ∃ i : Nat, i ≤ j ∧ a = ⟨z, v, ba (List.replicate i 48 ++ h), i⟩) (fun _ r => r = ⟨v, ba (List.replicate j 48 ++ h)⟩) (fun a => j - a.x8.toNat) (by
    rintro a ⟨i, hi, rfl⟩
    unfold w3_ExprNumbers_L2_b
    simp only
    rw [ej, Option.bind_some]
    by_cases h : i < j
    · have c1 : decide ((i : Int) < (j : Int)) = true := decide_eq_true (by omega)
      refine .inl ⟨⟨z, v, ba (List.replicate (i + 1) 48 ++ _), (i + 1 : Nat)⟩, ?_, ⟨i + 1, by omega, rfl⟩, by simp only [Int.toNat_natCast]; omega, fun r hr => hr⟩
      rw [c1, cond_true, show s_0 = ba [48] from rfl, guardS [48] _ (by simp; omega), cond_true, ba_append, w64_in (n := (i : Int) + 1) (by omega) (by omega)]
      simp [List.replicate_succ]
    · have c1 : decide ((i : Int) < (j : Int)) = false := decide_eq_false (by omega)
      have : i = j := by omega
      subst this
      exact .inr ⟨_, by rw [c1]; rfl, rfl⟩) ⟨z, v, ba h, 0⟩ ⟨0, by omega, rfl⟩
  exact ⟨j, by omega, by rw [h1, h2]⟩
theorem vl_zeros (n : Nat) (h : List UInt8) : vl 16 (List.replicate n 48 ++ h) 0 = vl 16 h 0 := by
  induction n with
  | zero => rfl
  | succ n ih =>
    rw [List.replicate_succ, List.cons_append]
    show vl 16 (List.replicate n 48 ++ h) (0 * 16 + dg 48) = _
    rw [show 0 * 16 + dg 48 = 0 from rfl]; exact ih
theorem w3_ExprNumbers_true (n z : Int) (w1 : IntKind.i64.min ≤ n ∧ n ≤ IntKind.i64.max) (w2 : IntKind.i64.min ≤ z ∧ z ≤ IntKind.i64.max) : w3_ExprNumbers n z = some true := by
  rw [w3_ExprNumbers.eq]; unfold w3_ExprNumbers_b
  obtain ⟨v, hv, ev⟩ := within_nat n 8589934592 (by decide) (by decide)
  have ev : w3_within n 8589934592 = some (v : Int) := ev
  -- the digits
  have key : ∃ h : List UInt8, w3_ExprNumbers_L1 ⟨z, v, s_, v⟩ = some ⟨z, v, ba h⟩ ∧ vl 16 h 0 = v ∧ h.all isH = true ∧ h ≠ [] ∧ h.length ≤ 20 := by
    by_cases hz : v = 0
    · subst hz
      refine ⟨[48], ?_, rfl, by decide, by simp, by simp⟩
      rw [w3_ExprNumbers_L1.eq]
      have e := hex_loop z ((0 : Nat) : Int) [48] 0 0 (by decide) (by decide) (by decide) (.inr (by simp))
      have c1 : decide (((0 : Nat) : Int) > 0) = false := rfl
      have c2 : eqS s_ s_ = true := eqS_iff.2 rfl
      have e1 : Int.tmod ((0 : Nat) : Int) 16 = ((0 % 16 : Nat) : Int) := rfl
      have e2 : w64 (((0 % 16 : Nat) : Int) + 1) = ((0 % 16 + 1 : Nat) : Int) := by decide
      have hsz : s_0123456789abcdef.size = 16 := rfl
      have c3 : decide (0 ≤ ((0 % 16 : Nat) : Int) ∧ ((0 % 16 : Nat) : Int) ≤ ((0 % 16 + 1 : Nat) : Int) ∧ ((0 % 16 + 1 : Nat) : Int) ≤ ((s_0123456789abcdef.size : Nat) : Int)) = true := by rw [hsz]; decide
      have e3 : w64 (Int.tdiv ((0 : Nat) : Int) 16) = ((0 : Nat) : Int) := by decide
      unfold w3_ExprNumbers_L1_b
      simp only
      rw [c1, cond_false, c2, cond_true, e1, e2, c3, cond_true, Int.toNat_natCast, Int.toNat_natCast, hex_digit, show s_ = ba [] from rfl, guardS [hd (0 % 16)] [] (by simp), cond_true, Option.bind_some, e3, ba_append]
      exact e
    · have hb : v < 16 ^ 15 := by have : (16 : Nat) ^ 15 = 1152921504606846976 := rfl; omega
      obtain ⟨h1, h2, h3, h4⟩ := hexZ_ok 15 v hb
      refine ⟨hexZ 15 v, ?_, h1, h2, h4 hz, by omega⟩
      have e := hex_loop z (v : Int) [] 15 v hb (by decide) (by decide) (.inl hz)
      rw [List.append_nil] at e; exact e
  obtain ⟨h, k1, k2, k3, k4, k5⟩ := key
  obtain ⟨m, hm, k6⟩ := zero_loop z (v : Int) h (by omega)
  have hh : (List.replicate m 48 ++ h).all isH = true := by
    rw [List.all_append, k3, Bool.and_true, List.all_eq_true]
    intro b hb; rw [(List.mem_replicate.1 hb).2]; decide
  have hx := hex_parse hh (by simp [k4])
  rw [vl_zeros, k2] at hx
  have hdq := dec_parse v
  rw [w3_known_true, Option.bind_some]
  simp only [Bool.not_true, cond_false]
  rw [ev, Option.bind_some, k1, Option.bind_some]
  simp only
  rw [k6, Option.bind_some]
  simp only
  rw [show s_0x = ba [48, 120] from rfl, guardS [48, 120] _ (by simp; omega), cond_true, ba_append, hx, Option.bind_some, r3_Digits_eq (by omega), Option.bind_some, hdq, Option.bind_some]
  by_cases hbig : v ≥ 4294967296
  · have c1 : decide ((v : Int) ≥ 4294967296) = true := decide_eq_true (by omega)
    rw [c1, cond_true, if_pos hbig]; rfl
  · have c1 : decide ((v : Int) ≥ 4294967296) = false := decide_eq_false (by omega)
    rw [c1, cond_false, if_neg hbig]
    simp only [cond_true]
    rw [same_refl, Option.bind_some, cond_true]
    have c2 : ((X3.num (v : Int)).t.Kind == 1) = true := rfl
    rw [c2, cond_true]
    show some ((v : Int) == (v : Int)) = some true
    rw [beq_self_eq_true]
end Go.Ab
namespace Go.Proofs.YtklkkgmflfioeaaDoor
open Go Go.Ab Go.ChangeShapes Go.WideShapes Go.ChangeAt Go.RowKit
open Go.ChangeMaps (open_string shut_string)
theorem repL_one {c : Ctx} {w : World} {a : AV} {v : Value} (h : RepL c w [a] [v]) : Rep c w a v := by cases h; assumption
theorem laidOut : laidOutB Tryd.prog = true := by kernel_rfl
theorem own : ownKnob Tryd.prog.godebug = none := by kernel_rfl
theorem door_met (os : Os) (args : Array Value) : laidMetH Tryd.prog [("math/bits.deBruijn32tab", Rows.laid_math_bits_deBruijn32tab), ("math/bits.deBruijn64tab", Rows.laid_math_bits_deBruijn64tab), ("internal/strconv.uint64pow10", Rows.laid_internal_strconv_uint64pow10), ("unicode/utf8.acceptRanges", Rows.laid_unicode_utf8_acceptRanges), ("unicode/utf8.first", Rows.laid_unicode_utf8_first)] ((World.laidAll Tryd.prog os [("math/bits.deBruijn32tab", Rows.laid_math_bits_deBruijn32tab), ("math/bits.deBruijn64tab", Rows.laid_math_bits_deBruijn64tab), ("internal/strconv.uint64pow10", Rows.laid_internal_strconv_uint64pow10), ("unicode/utf8.acceptRanges", Rows.laid_unicode_utf8_acceptRanges), ("unicode/utf8.first", Rows.laid_unicode_utf8_first)]).forCall (fun _ _ => 0) ⟨#[], args, []⟩).memory := by
  rw [MakeChecks.laidMetH_plain _ _ _ (by kernel_rfl)]; exact laidMet_laidAll _ (by kernel_rfl) (by kernel_rfl)
namespace exprNumbers
set_option maxRecDepth 100000 in
theorem lifted (os : Os) (started : os.Started) (H : Type) (enc : TypeId × Value → H) :
    ReturnsInHanded {} Tryd.checked os 9 .any (fun w args => (Rows.exprNumbersSpec.pre enc Tryd.prog Tryd.f9 [] false w args ∧ laidMetH Tryd.prog [("math/bits.deBruijn32tab", Rows.laid_math_bits_deBruijn32tab), ("math/bits.deBruijn64tab", Rows.laid_math_bits_deBruijn64tab), ("internal/strconv.uint64pow10", Rows.laid_internal_strconv_uint64pow10), ("unicode/utf8.acceptRanges", Rows.laid_unicode_utf8_acceptRanges), ("unicode/utf8.first", Rows.laid_unicode_utf8_first)] w) ∧ sizedMet enc Tryd.prog Tryd.f9 (OpenSpec.ofChange Rows.exprNumbersSpec) false w args) (Rows.exprNumbersSpec.post enc Tryd.prog Tryd.f9 false true false false) := by
  refine returnsInHanded_of_change_and (C := Tryd.checked) (X := fun w _ => laidMetH Tryd.prog [("math/bits.deBruijn32tab", Rows.laid_math_bits_deBruijn32tab), ("math/bits.deBruijn64tab", Rows.laid_math_bits_deBruijn64tab), ("internal/strconv.uint64pow10", Rows.laid_internal_strconv_uint64pow10), ("unicode/utf8.acceptRanges", Rows.laid_unicode_utf8_acceptRanges), ("unicode/utf8.first", Rows.laid_unicode_utf8_first)] w) (fun _ _ _ hh h => h.of_heap hh) own started (by kernel_rfl) Tryd.func9
    (ChangeSpec.witness_shaped (enc := enc) (C := Tryd.checked) (os := os) (X := fun w _ => laidMetH Tryd.prog [("math/bits.deBruijn32tab", Rows.laid_math_bits_deBruijn32tab), ("math/bits.deBruijn64tab", Rows.laid_math_bits_deBruijn64tab), ("internal/strconv.uint64pow10", Rows.laid_internal_strconv_uint64pow10), ("unicode/utf8.acceptRanges", Rows.laid_unicode_utf8_acceptRanges), ("unicode/utf8.first", Rows.laid_unicode_utf8_first)] w) false (World.laidAll Tryd.prog os [("math/bits.deBruijn32tab", Rows.laid_math_bits_deBruijn32tab), ("math/bits.deBruijn64tab", Rows.laid_math_bits_deBruijn64tab), ("internal/strconv.uint64pow10", Rows.laid_internal_strconv_uint64pow10), ("unicode/utf8.acceptRanges", Rows.laid_unicode_utf8_acceptRanges), ("unicode/utf8.first", Rows.laid_unicode_utf8_first)]) #[.int .i64 0, .int .i64 0] 8 (World.laidAll_os _ _ _) (World.shaped_of_ZipB (by kernel_rfl) (by kernel_rfl)) (by kernel_rfl) (by kernel_rfl) (by kernel_rfl) (door_met os _)) ?_
  intro W base args ds gs before hval0 hW hcnd hsz0 hL _
  have hT := told_of hL
  have hW' := hW
  obtain ⟨p, q, hA0, hV, rfl, hfz, hnd⟩ := hW
  have hA : DataW.TrodAll enc Tryd.prog W 0 (fun _ => true) true Tryd.f9.params.toList args.toList ds p := hA0
  rw [Tryd.params9] at hA
  obtain ⟨v0, vs0, d0, ds0, p0, q0, hargs, rfl, rfl, h0, r0⟩ := trodAll_cons hA
  obtain ⟨v1, vs1, d1, ds1, p1, q1, rfl, rfl, rfl, h1, r1⟩ := trodAll_cons r0
  obtain ⟨rfl, rfl, rfl⟩ := trodAll_nil r1
  obtain rfl : args = #[v0, v1] := by cases args; simp_all
  obtain ⟨rfl, rfl⟩ := trodVars_none hV
  obtain ⟨u0, rfl⟩ := okWide_int Tryd.underlying3 (hval0 0 3 v0 rfl rfl)
  obtain ⟨a0, w0, y0⟩ := rd_fuel (enc := enc) (P := Tryd.prog) (W := W) (fun fuel => (rd_int Tryd.underlying3 fuel)) h0
  replace y0 := repL_one (show RepL (oldCtx W) W [_] [_] from y0)
  obtain ⟨u1, rfl⟩ := okWide_int Tryd.underlying3 (hval0 1 3 v1 rfl rfl)
  obtain ⟨a1, w1, y1⟩ := rd_fuel (enc := enc) (P := Tryd.prog) (W := W) (fun fuel => (rd_int Tryd.underlying3 fuel)) h1
  replace y1 := repL_one (show RepL (oldCtx W) W [_] [_] from y1)
  obtain ⟨k, hk⟩ := w3_ExprNumbers.run a0 a1 (w3_ExprNumbers_true a0 a1 w0 w1)
  have lt0 : ∀ x ∈ p0, x.block < W.heap.size := by obtain ⟨m, hm⟩ := h0; exact DataW.trod_lt m _ _ _ hm
  have lt1 : ∀ x ∈ p1, x.block < W.heap.size := by obtain ⟨m, hm⟩ := h1; exact DataW.trod_lt m _ _ _ hm
  refine (calls_of_eval (T := told) (by kernel_rfl) ext_ok hk hT (.cons _ _ _ _ y0 (.cons _ _ _ _ y1 .nil))).mono fun e W' ⟨he, bel⟩ => ?_
  subst he
  exact ⟨_, rfl, _, _, _, [], _, [], hW', trodAll_mk1 (shut_bool Tryd.underlying4 _), (trodAll_cons_mk (Below.trod laidOut (by kernel_rfl) (of_decide_eq_true (by kernel_rfl)) h0 bel lt0) (trodAll_cons_mk (Below.trod laidOut (by kernel_rfl) (of_decide_eq_true (by kernel_rfl)) h1 bel lt1) trodAll_mk0)), rfl, bel.frame _, fun h => by cases h⟩
theorem over : Rows.exprNumbersRow.holds Tryd.pinned (OpenSpec.ofChange Rows.exprNumbersSpec) :=
  OpenClaim.holds_of_wide 9 Tryd.f9 rfl rfl rfl rfl rfl rfl rfl ⟨rfl, rfl, rfl, rfl, rfl⟩ rfl rfl rfl rfl rfl (by kernel_rfl) Tryd.func9 (by kernel_rfl)
    (of_decide_eq_true (by kernel_rfl)) (by unfold Func.isWrapper; first | (rw [if_pos (by decide +kernel)]; kernel_rfl) | (rw [if_neg (by decide +kernel)]; exact ⟨rfl, rfl⟩))
    (fun os started H enc _ => lifted os started H enc)
theorem proved : Rows.ExprNumbersSaid := over
theorem card : Rows.ExprNumbersCardSaid :=
  Claim7.holds_tied_plain_at .later [] [.data, .data, .data, .data, .pinned] true (true, "81d4f43cb237afca914f61e8cf0b2df16f6704554aedcf2901d890bfb1c48d5f") false
    proved (fun _ h => by cases h) (by kernel_rfl) (fun _ h => by cases h) exprNumbers_row_tie rfl ⟨rfl, rfl⟩ (by kernel_rfl) rfl
    (fun f fn hf hfn => by
      obtain rfl : f = 9 := Option.some.inj ((show Tryd.prog.funcNamed Tryd.f9.name = some 9 by kernel_rfl).symm.trans hf) |>.symm
      obtain rfl : fn = Tryd.f9 := (Option.some.inj (Tryd.func9.symm.trans hfn)).symm
      exact ⟨by kernel_rfl, fun j t ht => by
        rw [Tryd.params9] at ht
        have hm : t ∈ [3, 3] := by simpa using Array.mem_of_getElem? ht
        have hall : ([3, 3].all fun u => !Tryd.prog.wantsStandIn u) = true := by kernel_rfl
        exact (show Tryd.prog.wantsStandIn t = false by simpa using List.all_eq_true.1 hall t hm)⟩)
    (by kernel_rfl)
end exprNumbers
/-- The row, under a short name, for the claim. -/
theorem exprNumbers_holds : Rows.ExprNumbersCardSaid := exprNumbers.card
end Go.Proofs.YtklkkgmflfioeaaDoor
