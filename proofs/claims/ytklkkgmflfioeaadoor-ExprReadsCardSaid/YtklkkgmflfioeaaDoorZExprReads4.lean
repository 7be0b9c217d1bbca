/- ExprReads: part 4 of the proof that, whatever the input, the law returns true and the input reads as it did; its conditions are those of the given row. -/
import Derived.Test.YtklkkgmflfioeaaDoorZExprReads3
import Derived.Test.YtklkkgmflfioeaaDoorSh
import Derived.Test.YtklkkgmflfioeaaDoorRows
import Derived.Lib.AppendIntMem
import Derived.LaidMore
import Derived.MakeChecks
set_option linter.unusedVariables false
set_option linter.unusedSimpArgs false
namespace Go.Ab
open Go.Proofs
def w3_ExprReads_t (P : Program) (call : CallF) (c_w3_known : Option Bool) (c_w3_Few : (List T_w3_Raw) → Option Bool) (c_w3_One : (List T_w3_Raw) → Option T_api_Expr) (c_r3_Text : T_api_Expr → Option ByteArray) (c_w3_within : Int → Int → Option Int) (l_w3_ExprReads_L1 : w3_ExprReads_L1_A → Option w3_ExprReads_L1_O0) (l_w3_ExprReads_L2 : w3_ExprReads_L2_A → Option (Bool ⊕ Unit)) (a0 : (List T_w3_Raw)) (a1 : Int) (a2 : Int) (a3 : Int) (a4 : (List Int)) (a5 : ByteArray) : Tr Bool (AV × Heap) := (.call (call 14 [] []) (c_w3_known) w3_known_e fun (r1 : Bool) => (.as (!r1) (rt w3_ExprReads_e false) (.call (call 15 [.sl (R_w3_Raw a0)] []) (c_w3_Few a0) w3_Few_e fun (r2 : Bool) => (.as (!r2) (yesN 3 (!r2) (.yes true (rt w3_ExprReads_e true))) (noN 3 (!r2) (.as (decide (((a5.size : Nat) : Int) > (100 : Int))) (rt w3_ExprReads_e true) (.call (call 17 [.sl (R_w3_Raw a0)] []) (c_w3_One a0) w3_One_e fun (r3 : T_api_Expr) => (.call (call 16 [.agg (C_api_Expr r3)] []) (c_r3_Text r3) r3_Text_e fun (r4 : ByteArray) => (.rows (byteRows r4.data.toList) (R_u8 (bytesL r4)) (.num ((R_u8 (bytesL r4)).length) ((bytesL r4).length) (.call (call 18 [.sc (.int .i64 a1), .sc (.int .i64 ((((bytesL r4).length) : Nat) : Int))] []) (c_w3_within a1 ((((bytesL r4).length) : Nat) : Int)) w3_within_e fun (r5 : Int) => (.ask (decide (0 ≤ r5 ∧ r5 < (((R_u8 (bytesL r4)).length : Nat) : Int))) (decide (0 ≤ r5 ∧ r5 < (((bytesL r4).length : Nat) : Int))) (.row ((R_u8 (bytesL r4))[(Int.toNat r5)]?) ((bytesL r4)[(Int.toNat r5)]?) C_u8 fun (e6 : Int) => (.yes (decide (0 ≤ r5 ∧ r5 < (((R_u8 (bytesL r4)).length : Nat) : Int))) (.row ((R_u8 (bytesL r4))[(Int.toNat r5)]?) ((bytesL r4)[(Int.toNat r5)]?) C_u8 fun (e7 : Int) => (.rows ((R_u8 (bytesL r4)).set (Int.toNat r5) [.sc (.int .u8 (IntKind.u8.wrap (e6 + a2)))]) (R_u8 ((bytesL r4).set (Int.toNat r5) (IntKind.u8.wrap (e6 + a2)))) (.call (call 18 [.sc (.int .i64 a3), .sc (.int .i64 (w64 (((r4.size : Nat) : Int) + (1 : Int))))] []) (c_w3_within a3 (w64 (((r4.size : Nat) : Int) + (1 : Int)))) w3_within_e fun (r8 : Int) => (.loop (loopAt P 3 11) (w3_ExprReads_L1_s (w3_ExprReads_L1_A.mk a4 a5 r4 r8 s_ (0 : Int) ((bytesL r4).set (Int.toNat r5) (IntKind.u8.wrap (e6 + a2))))) (l_w3_ExprReads_L1 (w3_ExprReads_L1_A.mk a4 a5 r4 r8 s_ (0 : Int) ((bytesL r4).set (Int.toNat r5) (IntKind.u8.wrap (e6 + a2))))) w3_ExprReads_L1_e (fun (o9 : w3_ExprReads_L1_O0) => (.byt (bytesOfRows (R_u8 o9.r0)) (some (listB o9.r0)) fun (e10 : List UInt8) => (.as (decide (0 ≤ (0 : Int) ∧ (0 : Int) ≤ o9.x15 ∧ o9.x15 ≤ ((o9.x13.size : Nat) : Int))) (.yes (decide (0 ≤ (0 : Int) ∧ (0 : Int) ≤ o9.x15 ∧ o9.x15 ≤ ((o9.x13.size : Nat) : Int))) (.as (decide ((((o9.x13.extract (Int.toNat (0 : Int)) (Int.toNat o9.x15)).size + o9.x16.size : Nat) : Int) ≤ IntKind.i64.max)) (.as (decide (0 ≤ o9.x15 ∧ o9.x15 ≤ ((o9.x13.size : Nat) : Int) ∧ ((o9.x13.size : Nat) : Int) ≤ ((o9.x13.size : Nat) : Int))) (.as (decide (((((o9.x13.extract (Int.toNat (0 : Int)) (Int.toNat o9.x15)) ++ o9.x16).size + (o9.x13.extract (Int.toNat o9.x15) (Int.toNat ((o9.x13.size : Nat) : Int))).size : Nat) : Int) ≤ IntKind.i64.max)) (.as (decide (((h_28.size + o9.x16.size : Nat) : Int) ≤ IntKind.i64.max)) (.as (decide ((((h_28 ++ o9.x16).size + h_29.size : Nat) : Int) ≤ IntKind.i64.max)) (.rows [[.sc (.string (⟨e10.toArray⟩ : ByteArray))], [.sc (.string (o9.x13.extract (Int.toNat (0 : Int)) (Int.toNat o9.x15)))], [.sc (.string (((o9.x13.extract (Int.toNat (0 : Int)) (Int.toNat o9.x15)) ++ o9.x16) ++ (o9.x13.extract (Int.toNat o9.x15) (Int.toNat ((o9.x13.size : Nat) : Int)))))], [.sc (.string o9.x5)], [.sc (.string o9.x16)], [.sc (.string ((h_28 ++ o9.x16) ++ h_29))]] (R_string [(⟨e10.toArray⟩ : ByteArray), (o9.x13.extract (Int.toNat (0 : Int)) (Int.toNat o9.x15)), (((o9.x13.extract (Int.toNat (0 : Int)) (Int.toNat o9.x15)) ++ o9.x16) ++ (o9.x13.extract (Int.toNat o9.x15) (Int.toNat ((o9.x13.size : Nat) : Int)))), o9.x5, o9.x16, ((h_28 ++ o9.x16) ++ h_29)]) (.loop2 (loopAt P 3 16) (w3_ExprReads_L2_s (w3_ExprReads_L2_A.mk [(⟨e10.toArray⟩ : ByteArray), (o9.x13.extract (Int.toNat (0 : Int)) (Int.toNat o9.x15)), (((o9.x13.extract (Int.toNat (0 : Int)) (Int.toNat o9.x15)) ++ o9.x16) ++ (o9.x13.extract (Int.toNat o9.x15) (Int.toNat ((o9.x13.size : Nat) : Int)))), o9.x5, o9.x16, ((h_28 ++ o9.x16) ++ h_29)] (0 : Int))) (l_w3_ExprReads_L2 (w3_ExprReads_L2_A.mk [(⟨e10.toArray⟩ : ByteArray), (o9.x13.extract (Int.toNat (0 : Int)) (Int.toNat o9.x15)), (((o9.x13.extract (Int.toNat (0 : Int)) (Int.toNat o9.x15)) ++ o9.x16) ++ (o9.x13.extract (Int.toNat o9.x15) (Int.toNat ((o9.x13.size : Nat) : Int)))), o9.x5, o9.x16, ((h_28 ++ o9.x16) ++ h_29)] (0 : Int))) w3_ExprReads_L2_e0 w3_ExprReads_L2_e1 (fun (o11 : Bool) => (rt w3_ExprReads_e o11)) (fun (o12 : Unit) => (rt w3_ExprReads_e true)))) .fail) .fail) .fail) .fail) .fail)) .fail))))))))) .fail))))))))))))
theorem w3_ExprReads_d (P : Program) (call : CallF) (c_w3_known : Option Bool) (c_w3_Few : (List T_w3_Raw) → Option Bool) (c_w3_One : (List T_w3_Raw) → Option T_api_Expr) (c_r3_Text : T_api_Expr → Option ByteArray) (c_w3_within : Int → Int → Option Int) (l_w3_ExprReads_L1 : w3_ExprReads_L1_A → Option w3_ExprReads_L1_O0) (l_w3_ExprReads_L2 : w3_ExprReads_L2_A → Option (Bool ⊕ Unit)) (a0 : (List T_w3_Raw)) (a1 : Int) (a2 : Int) (a3 : Int) (a4 : (List Int)) (a5 : ByteArray) : (w3_ExprReads_t P call c_w3_known c_w3_Few c_w3_One c_r3_Text c_w3_within l_w3_ExprReads_L1 l_w3_ExprReads_L2 a0 a1 a2 a3 a4 a5).den = w3_ExprReads_b c_w3_known c_w3_Few c_w3_One c_r3_Text c_w3_within l_w3_ExprReads_L1 l_w3_ExprReads_L2 a0 a1 a2 a3 a4 a5 := rfl
theorem w3_ExprReads_n (call : CallF) (c_w3_known : Option Bool) (c_w3_Few : (List T_w3_Raw) → Option Bool) (c_w3_One : (List T_w3_Raw) → Option T_api_Expr) (c_r3_Text : T_api_Expr → Option ByteArray) (c_w3_within : Int → Int → Option Int) (l_w3_ExprReads_L1 : w3_ExprReads_L1_A → Option w3_ExprReads_L1_O0) (l_w3_ExprReads_L2 : w3_ExprReads_L2_A → Option (Bool ⊕ Unit)) (a0 : (List T_w3_Raw)) (a1 : Int) (a2 : Int) (a3 : Int) (a4 : (List Int)) (a5 : ByteArray) : (w3_ExprReads_t Tryd.prog call c_w3_known c_w3_Few c_w3_One c_r3_Text c_w3_within l_w3_ExprReads_L1 l_w3_ExprReads_L2 a0 a1 a2 a3 a4 a5).norm (bodyT Tryd.prog call G 3 [.sl (R_w3_Raw a0), .sc (.int .i64 a1), .sc (.int .u8 a2), .sc (.int .i64 a3), .sl (R_i64 a4), .sc (.string a5)] []) = w3_ExprReads_t Tryd.prog call c_w3_known c_w3_Few c_w3_One c_r3_Text c_w3_within l_w3_ExprReads_L1 l_w3_ExprReads_L2 a0 a1 a2 a3 a4 a5 := by kernel_rfl
theorem w3_ExprReads_k (P : Program) (call : CallF) (lp : Loops) (c_w3_known : Option Bool) (c_w3_Few : (List T_w3_Raw) → Option Bool) (c_w3_One : (List T_w3_Raw) → Option T_api_Expr) (c_r3_Text : T_api_Expr → Option ByteArray) (c_w3_within : Int → Int → Option Int) (l_w3_ExprReads_L1 : w3_ExprReads_L1_A → Option w3_ExprReads_L1_O0) (l_w3_ExprReads_L2 : w3_ExprReads_L2_A → Option (Bool ⊕ Unit)) (hc_w3_known : ∀  (r : Bool), c_w3_known = some r → (call 14 [] []) = some (w3_known_e r)) (hc_w3_Few : ∀ (a0 : (List T_w3_Raw)) (r : Bool), c_w3_Few a0 = some r → (call 15 [.sl (R_w3_Raw a0)] []) = some (w3_Few_e r)) (hc_w3_One : ∀ (a0 : (List T_w3_Raw)) (r : T_api_Expr), c_w3_One a0 = some r → (call 17 [.sl (R_w3_Raw a0)] []) = some (w3_One_e r)) (hc_r3_Text : ∀ (a0 : T_api_Expr) (r : ByteArray), c_r3_Text a0 = some r → (call 16 [.agg (C_api_Expr a0)] []) = some (r3_Text_e r)) (hc_w3_within : ∀ (a0 : Int) (a1 : Int) (r : Int), c_w3_within a0 a1 = some r → (call 18 [.sc (.int .i64 a0), .sc (.int .i64 a1)] []) = some (w3_within_e r)) (hl_w3_ExprReads_L1 : ∀ (a : w3_ExprReads_L1_A) (r : w3_ExprReads_L1_O0), l_w3_ExprReads_L1 a = some r → lp (loopAt P 3 11) (w3_ExprReads_L1_s a) = some (w3_ExprReads_L1_e r)) (hl_w3_ExprReads_L2 : ∀ (a : w3_ExprReads_L2_A) (r : (Bool ⊕ Unit)), l_w3_ExprReads_L2 a = some r → lp (loopAt P 3 16) (w3_ExprReads_L2_s a) = some (w3_ExprReads_L2_e r)) (a0 : (List T_w3_Raw)) (a1 : Int) (a2 : Int) (a3 : Int) (a4 : (List Int)) (a5 : ByteArray) : (w3_ExprReads_t P call c_w3_known c_w3_Few c_w3_One c_r3_Text c_w3_within l_w3_ExprReads_L1 l_w3_ExprReads_L2 a0 a1 a2 a3 a4 a5).ok lp w3_ExprReads_e := fun r1 hr1 => ⟨hc_w3_known _ hr1, ⟨rfl, fun h0 => rfl, fun h0 => fun r2 hr2 => ⟨hc_w3_Few _ _ hr2, ⟨rfl, fun h1 => yesN_ok 3 (h1) (⟨rfl, rfl⟩), fun h1 => noN_ok 3 (h1) (⟨rfl, fun h2 => rfl, fun h2 => fun r3 hr3 => ⟨hc_w3_One _ _ hr3, fun r4 hr4 => ⟨hc_r3_Text _ _ hr4, ⟨(R_u8_bytes _), ⟨(R_u8_len _), fun r5 hr5 => ⟨hc_w3_within _ _ _ hr5, ⟨(by rw [R_u8_len]), fun h3 => fun e6 he6 => ⟨R_u8_get he6, ⟨(show (decide (0 ≤ r5 ∧ r5 < (((R_u8 (bytesL r4)).length : Nat) : Int))) = (decide (0 ≤ r5 ∧ r5 < (((bytesL r4).length : Nat) : Int))) from (by rw [R_u8_len])).trans h3, fun e7 he7 => ⟨R_u8_get he7, ⟨(R_u8_set _ _ _), fun r8 hr8 => ⟨hc_w3_within _ _ _ hr8, fun o9 ho9 => ⟨hl_w3_ExprReads_L1 _ _ ho9, fun e10 he10 => ⟨(R_u8_list _).trans he10, ⟨rfl, fun h4 => ⟨h4, ⟨rfl, fun h5 => ⟨rfl, fun h6 => ⟨rfl, fun h7 => ⟨rfl, fun h8 => ⟨rfl, fun h9 => ⟨(R_string_map [(⟨e10.toArray⟩ : ByteArray), (o9.x13.extract (Int.toNat (0 : Int)) (Int.toNat o9.x15)), (((o9.x13.extract (Int.toNat (0 : Int)) (Int.toNat o9.x15)) ++ o9.x16) ++ (o9.x13.extract (Int.toNat o9.x15) (Int.toNat ((o9.x13.size : Nat) : Int)))), o9.x5, o9.x16, ((h_28 ++ o9.x16) ++ h_29)]), ⟨fun o11 ho11 => ⟨hl_w3_ExprReads_L2 _ (.inl _) ho11, rfl⟩, fun o12 ho12 => ⟨hl_w3_ExprReads_L2 _ (.inr _) ho12, rfl⟩⟩⟩, fun h9 => trivial⟩, fun h8 => trivial⟩, fun h7 => trivial⟩, fun h6 => trivial⟩, fun h5 => trivial⟩⟩, fun h4 => trivial⟩⟩⟩⟩⟩⟩⟩⟩, fun h3 => trivial⟩⟩⟩⟩⟩⟩⟩)⟩⟩⟩⟩
theorem w3_ExprReads_m {c_w3_known d_w3_known : Option Bool} (h_w3_known : Le (c_w3_known ) (d_w3_known )) {c_w3_Few d_w3_Few : (List T_w3_Raw) → Option Bool} (h_w3_Few : ∀ (a0 : (List T_w3_Raw)), Le (c_w3_Few a0) (d_w3_Few a0)) {c_w3_One d_w3_One : (List T_w3_Raw) → Option T_api_Expr} (h_w3_One : ∀ (a0 : (List T_w3_Raw)), Le (c_w3_One a0) (d_w3_One a0)) {c_r3_Text d_r3_Text : T_api_Expr → Option ByteArray} (h_r3_Text : ∀ (a0 : T_api_Expr), Le (c_r3_Text a0) (d_r3_Text a0)) {c_w3_within d_w3_within : Int → Int → Option Int} (h_w3_within : ∀ (a0 : Int) (a1 : Int), Le (c_w3_within a0 a1) (d_w3_within a0 a1)) {l_w3_ExprReads_L1 m_w3_ExprReads_L1 : w3_ExprReads_L1_A → Option w3_ExprReads_L1_O0} (hl_w3_ExprReads_L1 : ∀ a, Le (l_w3_ExprReads_L1 a) (m_w3_ExprReads_L1 a)) {l_w3_ExprReads_L2 m_w3_ExprReads_L2 : w3_ExprReads_L2_A → Option (Bool ⊕ Unit)} (hl_w3_ExprReads_L2 : ∀ a, Le (l_w3_ExprReads_L2 a) (m_w3_ExprReads_L2 a)) (a0 : (List T_w3_Raw)) (a1 : Int) (a2 : Int) (a3 : Int) (a4 : (List Int)) (a5 : ByteArray) : Le (w3_ExprReads_b c_w3_known c_w3_Few c_w3_One c_r3_Text c_w3_within l_w3_ExprReads_L1 l_w3_ExprReads_L2 a0 a1 a2 a3 a4 a5) (w3_ExprReads_b d_w3_known d_w3_Few d_w3_One d_r3_Text d_w3_within m_w3_ExprReads_L1 m_w3_ExprReads_L2 a0 a1 a2 a3 a4 a5) := by
  unfold w3_ExprReads_b
  exact .bind (h_w3_known) fun r1 => .cond (.refl _) (.bind (h_w3_Few _) fun r2 => .cond (.refl _) (.cond (.refl _) (.bind (h_w3_One _) fun r3 => .bind (h_r3_Text _) fun r4 => .bind (h_w3_within _ _) fun r5 => .cond (.bind (.refl ((bytesL r4)[(Int.toNat r5)]?)) fun e6 => .bind (.refl ((bytesL r4)[(Int.toNat r5)]?)) fun e7 => .bind (h_w3_within _ _) fun r8 => .bind (hl_w3_ExprReads_L1 _) (fun o9 => .bind (.refl (some (listB o9.r0))) fun e10 => .cond (.cond (.cond (.cond (.cond (.cond (.bind (hl_w3_ExprReads_L2 _) fun x => .sum (fun o11 => .refl _) (fun o12 => .refl _) x) (.refl _)) (.refl _)) (.refl _)) (.refl _)) (.refl _)) (.refl _))) (.refl _))))
theorem w3_ExprReads_c {c_w3_known : Nat → Option Bool} {d_w3_known : Option Bool} (h_w3_known : Cv (fun k => c_w3_known k ) (d_w3_known )) {c_w3_Few : Nat → (List T_w3_Raw) → Option Bool} {d_w3_Few : (List T_w3_Raw) → Option Bool} (h_w3_Few : ∀ (a0 : (List T_w3_Raw)), Cv (fun k => c_w3_Few k a0) (d_w3_Few a0)) {c_w3_One : Nat → (List T_w3_Raw) → Option T_api_Expr} {d_w3_One : (List T_w3_Raw) → Option T_api_Expr} (h_w3_One : ∀ (a0 : (List T_w3_Raw)), Cv (fun k => c_w3_One k a0) (d_w3_One a0)) {c_r3_Text : Nat → T_api_Expr → Option ByteArray} {d_r3_Text : T_api_Expr → Option ByteArray} (h_r3_Text : ∀ (a0 : T_api_Expr), Cv (fun k => c_r3_Text k a0) (d_r3_Text a0)) {c_w3_within : Nat → Int → Int → Option Int} {d_w3_within : Int → Int → Option Int} (h_w3_within : ∀ (a0 : Int) (a1 : Int), Cv (fun k => c_w3_within k a0 a1) (d_w3_within a0 a1)) {l_w3_ExprReads_L1 : Nat → w3_ExprReads_L1_A → Option w3_ExprReads_L1_O0} {m_w3_ExprReads_L1 : w3_ExprReads_L1_A → Option w3_ExprReads_L1_O0} (hl_w3_ExprReads_L1 : ∀ a, Cv (fun k => l_w3_ExprReads_L1 k a) (m_w3_ExprReads_L1 a)) {l_w3_ExprReads_L2 : Nat → w3_ExprReads_L2_A → Option (Bool ⊕ Unit)} {m_w3_ExprReads_L2 : w3_ExprReads_L2_A → Option (Bool ⊕ Unit)} (hl_w3_ExprReads_L2 : ∀ a, Cv (fun k => l_w3_ExprReads_L2 k a) (m_w3_ExprReads_L2 a)) (a0 : (List T_w3_Raw)) (a1 : Int) (a2 : Int) (a3 : Int) (a4 : (List Int)) (a5 : ByteArray) : Cv (fun k => w3_ExprReads_b (c_w3_known k) (c_w3_Few k) (c_w3_One k) (c_r3_Text k) (c_w3_within k) (l_w3_ExprReads_L1 k) (l_w3_ExprReads_L2 k) a0 a1 a2 a3 a4 a5) (w3_ExprReads_b d_w3_known d_w3_Few d_w3_One d_r3_Text d_w3_within m_w3_ExprReads_L1 m_w3_ExprReads_L2 a0 a1 a2 a3 a4 a5) := by
  unfold w3_ExprReads_b
  exact .bind (h_w3_known) fun r1 => .cond (by exact .const _) (.bind (h_w3_Few _) fun r2 => .cond (by exact .const _) (.cond (by exact .const _) (.bind (h_w3_One _) fun r3 => .bind (h_r3_Text _) fun r4 => .bind (h_w3_within _ _) fun r5 => .cond (.bind (.const ((bytesL r4)[(Int.toNat r5)]?)) fun e6 => .bind (.const ((bytesL r4)[(Int.toNat r5)]?)) fun e7 => .bind (h_w3_within _ _) fun r8 => .bind (hl_w3_ExprReads_L1 _) (fun o9 => .bind (.const (some (listB o9.r0))) fun e10 => .cond (.cond (.cond (.cond (.cond (.cond (.bind (hl_w3_ExprReads_L2 _) fun x => .sum (fun o11 => by exact .const _) (fun o12 => by exact .const _) x) (by exact .const _)) (by exact .const _)) (by exact .const _)) (by exact .const _)) (by exact .const _)) (by exact .const _))) (by exact .const _))))
def w3_ExprReads.s : Nat → (List T_w3_Raw) → Int → Int → Int → (List Int) → ByteArray → Option Bool
  | 0, _, _, _, _, _, _ => none
  | k + 1, a0, a1, a2, a3, a4, a5 => w3_ExprReads_b (w3_known.s k) (fun a0 => w3_Few.s k a0) (fun a0 => w3_One.s k a0) (fun a0 => r3_Text.s k a0) (fun a0 a1 => w3_within.s k a0 a1) (w3_ExprReads_L1.s k (fun a0 a1 => w3_within.s k a0 a1)) (w3_ExprReads_L2.s k (fun a0 => expr_Parse.s k a0) (fun a0 => r3_Parse.s k a0) (fun a0 a1 => r3_Same.s k a0 a1)) a0 a1 a2 a3 a4 a5
theorem w3_ExprReads.ok : ∀ (k : Nat), ∀ (a0 : (List T_w3_Raw)) (a1 : Int) (a2 : Int) (a3 : Int) (a4 : (List Int)) (a5 : ByteArray) (r : Bool), w3_ExprReads.s k a0 a1 a2 a3 a4 a5 = some r → evalFn Tryd.prog G k 3 [.sl (R_w3_Raw a0), .sc (.int .i64 a1), .sc (.int .u8 a2), .sc (.int .i64 a3), .sl (R_i64 a4), .sc (.string a5)] [] = some (w3_ExprReads_e r)
  | 0, _, _, _, _, _, _, _, h => (nomatch h)
  | k + 1, a0, a1, a2, a3, a4, a5, r, h => fn_ok rfl (w3_ExprReads_t Tryd.prog (evalFn Tryd.prog G k) (w3_known.s k) (fun a0 => w3_Few.s k a0) (fun a0 => w3_One.s k a0) (fun a0 => r3_Text.s k a0) (fun a0 a1 => w3_within.s k a0 a1) (w3_ExprReads_L1.s k (fun a0 a1 => w3_within.s k a0 a1)) (w3_ExprReads_L2.s k (fun a0 => expr_Parse.s k a0) (fun a0 => r3_Parse.s k a0) (fun a0 a1 => r3_Same.s k a0 a1)) a0 a1 a2 a3 a4 a5) (w3_ExprReads_n _ (w3_known.s k) (fun a0 => w3_Few.s k a0) (fun a0 => w3_One.s k a0) (fun a0 => r3_Text.s k a0) (fun a0 a1 => w3_within.s k a0 a1) (w3_ExprReads_L1.s k (fun a0 a1 => w3_within.s k a0 a1)) (w3_ExprReads_L2.s k (fun a0 => expr_Parse.s k a0) (fun a0 => r3_Parse.s k a0) (fun a0 a1 => r3_Same.s k a0 a1)) a0 a1 a2 a3 a4 a5) (w3_ExprReads_k _ _ _ (w3_known.s k) (fun a0 => w3_Few.s k a0) (fun a0 => w3_One.s k a0) (fun a0 => r3_Text.s k a0) (fun a0 a1 => w3_within.s k a0 a1) (w3_ExprReads_L1.s k (fun a0 a1 => w3_within.s k a0 a1)) (w3_ExprReads_L2.s k (fun a0 => expr_Parse.s k a0) (fun a0 => r3_Parse.s k a0) (fun a0 a1 => r3_Same.s k a0 a1)) (w3_known.ok k) (w3_Few.ok k) (w3_One.ok k) (r3_Text.ok k) (w3_within.ok k) (w3_ExprReads_L1_ok _ k (fun a0 a1 => w3_within.s k a0 a1) (w3_within.ok k)) (w3_ExprReads_L2_ok _ k (fun a0 => expr_Parse.s k a0) (fun a0 => r3_Parse.s k a0) (fun a0 a1 => r3_Same.s k a0 a1) (expr_Parse.ok k) (r3_Parse.ok k) (r3_Same.ok k)) a0 a1 a2 a3 a4 a5) ((w3_ExprReads_d _ _ (w3_known.s k) (fun a0 => w3_Few.s k a0) (fun a0 => w3_One.s k a0) (fun a0 => r3_Text.s k a0) (fun a0 a1 => w3_within.s k a0 a1) (w3_ExprReads_L1.s k (fun a0 a1 => w3_within.s k a0 a1)) (w3_ExprReads_L2.s k (fun a0 => expr_Parse.s k a0) (fun a0 => r3_Parse.s k a0) (fun a0 a1 => r3_Same.s k a0 a1)) a0 a1 a2 a3 a4 a5).trans h)
theorem w3_ExprReads.mono : ∀ (k : Nat) (a0 : (List T_w3_Raw)) (a1 : Int) (a2 : Int) (a3 : Int) (a4 : (List Int)) (a5 : ByteArray), Le (w3_ExprReads.s k a0 a1 a2 a3 a4 a5) (w3_ExprReads.s (k + 1) a0 a1 a2 a3 a4 a5)
  | 0, _, _, _, _, _, _ => fun r h => (nomatch h)
  | k + 1, a0, a1, a2, a3, a4, a5 => w3_ExprReads_m (w3_known.mono k) (w3_Few.mono k) (w3_One.mono k) (r3_Text.mono k) (w3_within.mono k) (w3_ExprReads_L1.m (Nat.le_succ k) (fun a0 a1 => w3_within.s k a0 a1) (fun a0 a1 => w3_within.s (k + 1) a0 a1) (w3_within.mono k)) (w3_ExprReads_L2.m (Nat.le_succ k) (fun a0 => expr_Parse.s k a0) (fun a0 => r3_Parse.s k a0) (fun a0 a1 => r3_Same.s k a0 a1) (fun a0 => expr_Parse.s (k + 1) a0) (fun a0 => r3_Parse.s (k + 1) a0) (fun a0 a1 => r3_Same.s (k + 1) a0 a1) (expr_Parse.mono k) (r3_Parse.mono k) (r3_Same.mono k)) a0 a1 a2 a3 a4 a5
noncomputable def w3_ExprReads (a0 : (List T_w3_Raw)) (a1 : Int) (a2 : Int) (a3 : Int) (a4 : (List Int)) (a5 : ByteArray) : Option Bool := lim fun k => w3_ExprReads.s k a0 a1 a2 a3 a4 a5
theorem w3_ExprReads.cv (a0 : (List T_w3_Raw)) (a1 : Int) (a2 : Int) (a3 : Int) (a4 : (List Int)) (a5 : ByteArray) : Cv (fun k => w3_ExprReads.s k a0 a1 a2 a3 a4 a5) (w3_ExprReads a0 a1 a2 a3 a4 a5) := .lim fun k => w3_ExprReads.mono k a0 a1 a2 a3 a4 a5
noncomputable def w3_ExprReads_L1 : w3_ExprReads_L1_A → Option w3_ExprReads_L1_O0 := w3_ExprReads_L1.w w3_within
theorem w3_ExprReads_L1.eq (a : w3_ExprReads_L1_A) : w3_ExprReads_L1 a = (w3_ExprReads_L1_b w3_within a).bind (Sum.elim w3_ExprReads_L1 some) := loopW_eq _ _
noncomputable def w3_ExprReads_L2 : w3_ExprReads_L2_A → Option (Bool ⊕ Unit) := w3_ExprReads_L2.w expr_Parse r3_Parse r3_Same
theorem w3_ExprReads_L2.eq (a : w3_ExprReads_L2_A) : w3_ExprReads_L2 a = (w3_ExprReads_L2_b expr_Parse r3_Parse r3_Same a).bind (Sum.elim w3_ExprReads_L2 some) := loopW_eq _ _
theorem w3_ExprReads.eq (a0 : (List T_w3_Raw)) (a1 : Int) (a2 : Int) (a3 : Int) (a4 : (List Int)) (a5 : ByteArray) : w3_ExprReads a0 a1 a2 a3 a4 a5 = w3_ExprReads_b w3_known w3_Few w3_One r3_Text w3_within w3_ExprReads_L1 w3_ExprReads_L2 a0 a1 a2 a3 a4 a5 := Cv.uniq (w3_ExprReads.cv a0 a1 a2 a3 a4 a5).shift (w3_ExprReads_c w3_known.cv w3_Few.cv w3_One.cv r3_Text.cv w3_within.cv (w3_ExprReads_L1.cv (fun k => fun a0 a1 => w3_within.s k a0 a1) w3_within w3_within.cv) (w3_ExprReads_L2.cv (fun k => fun a0 => expr_Parse.s k a0) (fun k => fun a0 => r3_Parse.s k a0) (fun k => fun a0 a1 => r3_Same.s k a0 a1) expr_Parse r3_Parse r3_Same expr_Parse.cv r3_Parse.cv r3_Same.cv) a0 a1 a2 a3 a4 a5)
theorem w3_ExprReads.run (a0 : (List T_w3_Raw)) (a1 : Int) (a2 : Int) (a3 : Int) (a4 : (List Int)) (a5 : ByteArray) {r : Bool} (h : w3_ExprReads a0 a1 a2 a3 a4 a5 = some r) : ∃ k, evalFn Tryd.prog G k 3 [.sl (R_w3_Raw a0), .sc (.int .i64 a1), .sc (.int .u8 a2), .sc (.int .i64 a3), .sl (R_i64 a4), .sc (.string a5)] [] = some (w3_ExprReads_e r) :=
  let ⟨k, hk⟩ := ((w3_ExprReads.cv a0 a1 a2 a3 a4 a5).2 r).1 h
  ⟨k, w3_ExprReads.ok k a0 a1 a2 a3 a4 a5 r hk⟩
def w3_Syms_e (r : (List T_api_Sym)) : AV × Heap := (.sl (R_api_Sym r), [])
structure w3_Syms_L1_A where
  x0 : (List Int)
  x4 : Int
  r0 : (List T_api_Sym)
def w3_Syms_L1_s (a : w3_Syms_L1_A) : St := { n := 39, nx := 1, env := [(0, .sl (R_i64 a.x0)), (3, .arr 0), (4, .sc (.int .i64 a.x4))], heap := [(0, .arr true 2 (R_api_Sym a.r0))] }
def w3_Syms_L1_e (a : (List T_api_Sym)) : Ex × St := (.exit 0, { n := 39, nx := 1, env := [(3, .arr 0)], heap := [(0, .arr true 2 (R_api_Sym a))] })
def w3_Syms_L1_b (c_w3_within : Int → Int → Option Int) (c_w3_Names : Option (List ByteArray)) (a : w3_Syms_L1_A) : Option (w3_Syms_L1_A ⊕ (List T_api_Sym)) := (bif (decide (a.x4 < (((a.x0.length) : Nat) : Int))) then (bif (decide (a.x4 < (4 : Int))) then (bif (decide (0 ≤ a.x4)) then ((a.x0[(Int.toNat a.x4)]?).bind fun (e1 : Int) => ((c_w3_within e1 (5 : Int)).bind fun (r2 : Int) => (bif (decide (r2 > (0 : Int))) then ((c_w3_Names).bind fun (r3 : (List ByteArray)) => ((r3[(Int.toNat a.x4)]?).bind fun (e4 : ByteArray) => ((a.x0[(Int.toNat a.x4)]?).bind fun (e5 : Int) => ((c_w3_within (w64 (Int.tdiv e5 (5 : Int))) (8 : Int)).bind fun (r6 : Int) => (bif (decide (0 ≤ r6 ∧ r6 < (([(0 : Int), (1 : Int), (-1 : Int), (1099511627776 : Int), (-1099511627776 : Int), (100 : Int), (3 : Int), (1048576 : Int)].length : Nat) : Int))) then (([(0 : Int), (1 : Int), (-1 : Int), (1099511627776 : Int), (-1099511627776 : Int), (100 : Int), (3 : Int), (1048576 : Int)][(Int.toNat r6)]?).bind fun (e7 : Int) => (bif (decide ((a.r0.length + [(T_api_Sym.mk e4 e7)].length) * 24 ≤ most)) then (some (.inl (w3_Syms_L1_A.mk a.x0 (w64 (a.x4 + (1 : Int))) (a.r0 ++ [(T_api_Sym.mk e4 e7)])))) else none)) else none))))) else (some (.inl (w3_Syms_L1_A.mk a.x0 (w64 (a.x4 + (1 : Int))) a.r0)))))) else none) else (some (.inr a.r0))) else (some (.inr a.r0)))
def w3_Syms_L1_t (P : Program) (call : CallF) (c_w3_within : Int → Int → Option Int) (c_w3_Names : Option (List ByteArray)) (a : w3_Syms_L1_A) : Tr (w3_Syms_L1_A ⊕ (List T_api_Sym)) (Ex × St) := (.num ((R_i64 a.x0).length) (a.x0.length) (.as (decide (a.x4 < (((a.x0.length) : Nat) : Int))) (yesN 2 (decide (a.x4 < (((a.x0.length) : Nat) : Int))) (.as (decide (a.x4 < (4 : Int))) (.as (decide (0 ≤ a.x4)) (.row ((R_i64 a.x0)[(Int.toNat a.x4)]?) (a.x0[(Int.toNat a.x4)]?) C_i64 fun (e1 : Int) => (.call (call 18 [.sc (.int .i64 e1), .sc (.int .i64 (5 : Int))] []) (c_w3_within e1 (5 : Int)) w3_within_e fun (r2 : Int) => (.as (decide (r2 > (0 : Int))) (.call (call 38 [] []) (c_w3_Names) w3_Names_e fun (r3 : (List ByteArray)) => (.yes (decide (0 ≤ a.x4)) (.row ((R_string r3)[(Int.toNat a.x4)]?) (r3[(Int.toNat a.x4)]?) C_string fun (e4 : ByteArray) => (.rows [[.sc (.int .i64 (0 : Int))], [.sc (.int .i64 (1 : Int))], [.sc (.int .i64 (-1 : Int))], [.sc (.int .i64 (1099511627776 : Int))], [.sc (.int .i64 (-1099511627776 : Int))], [.sc (.int .i64 (100 : Int))], [.sc (.int .i64 (3 : Int))], [.sc (.int .i64 (1048576 : Int))]] (R_i64 [(0 : Int), (1 : Int), (-1 : Int), (1099511627776 : Int), (-1099511627776 : Int), (100 : Int), (3 : Int), (1048576 : Int)]) (.yes (decide (0 ≤ a.x4)) (.row ((R_i64 a.x0)[(Int.toNat a.x4)]?) (a.x0[(Int.toNat a.x4)]?) C_i64 fun (e5 : Int) => (.yes (decide ((5 : Int) ≠ 0)) (.call (call 18 [.sc (.int .i64 (w64 (Int.tdiv e5 (5 : Int)))), .sc (.int .i64 (8 : Int))] []) (c_w3_within (w64 (Int.tdiv e5 (5 : Int))) (8 : Int)) w3_within_e fun (r6 : Int) => (.ask (decide (0 ≤ r6 ∧ r6 < (((R_i64 [(0 : Int), (1 : Int), (-1 : Int), (1099511627776 : Int), (-1099511627776 : Int), (100 : Int), (3 : Int), (1048576 : Int)]).length : Nat) : Int))) (decide (0 ≤ r6 ∧ r6 < (([(0 : Int), (1 : Int), (-1 : Int), (1099511627776 : Int), (-1099511627776 : Int), (100 : Int), (3 : Int), (1048576 : Int)].length : Nat) : Int))) (.row ((R_i64 [(0 : Int), (1 : Int), (-1 : Int), (1099511627776 : Int), (-1099511627776 : Int), (100 : Int), (3 : Int), (1048576 : Int)])[(Int.toNat r6)]?) ([(0 : Int), (1 : Int), (-1 : Int), (1099511627776 : Int), (-1099511627776 : Int), (100 : Int), (3 : Int), (1048576 : Int)][(Int.toNat r6)]?) C_i64 fun (e7 : Int) => (.rows [[.sc (.string e4), .sc (.int .i64 e7)]] (R_api_Sym [(T_api_Sym.mk e4 e7)]) (.yes (decide ((R_api_Sym [(T_api_Sym.mk e4 e7)]).all (fun r => r.length == 2) = true)) (.ask (decide (((R_api_Sym a.r0).length + (R_api_Sym [(T_api_Sym.mk e4 e7)]).length) * 24 ≤ most)) (decide ((a.r0.length + [(T_api_Sym.mk e4 e7)].length) * 24 ≤ most)) (.rows ((R_api_Sym a.r0) ++ (R_api_Sym [(T_api_Sym.mk e4 e7)])) (R_api_Sym (a.r0 ++ [(T_api_Sym.mk e4 e7)])) (lf w3_Syms_L1_s (w3_Syms_L1_A.mk a.x0 (w64 (a.x4 + (1 : Int))) (a.r0 ++ [(T_api_Sym.mk e4 e7)])))) .fail)))) .fail))))))))) (lf w3_Syms_L1_s (w3_Syms_L1_A.mk a.x0 (w64 (a.x4 + (1 : Int))) a.r0))))) .fail) (rx w3_Syms_L1_e a.r0))) (noN 2 (decide (a.x4 < (((a.x0.length) : Nat) : Int))) (.no false (rx w3_Syms_L1_e a.r0)))))
theorem w3_Syms_L1_d (P : Program) (call : CallF) (c_w3_within : Int → Int → Option Int) (c_w3_Names : Option (List ByteArray)) (a : w3_Syms_L1_A) : (w3_Syms_L1_t P call c_w3_within c_w3_Names a).den = w3_Syms_L1_b c_w3_within c_w3_Names a := rfl
theorem w3_Syms_L1_n (call : CallF) (c_w3_within : Int → Int → Option Int) (c_w3_Names : Option (List ByteArray)) (a : w3_Syms_L1_A) : (w3_Syms_L1_t Tryd.prog call c_w3_within c_w3_Names a).norm (roundT Tryd.prog G.kd call 0 (G.an 22) (loopAt Tryd.prog 22 3) (w3_Syms_L1_s a)) = w3_Syms_L1_t Tryd.prog call c_w3_within c_w3_Names a := by kernel_rfl
theorem w3_Syms_L1_k (P : Program) (call : CallF) (lp : Loops) (c_w3_within : Int → Int → Option Int) (c_w3_Names : Option (List ByteArray)) (hc_w3_within : ∀ (a0 : Int) (a1 : Int) (r : Int), c_w3_within a0 a1 = some r → (call 18 [.sc (.int .i64 a0), .sc (.int .i64 a1)] []) = some (w3_within_e r)) (hc_w3_Names : ∀  (r : (List ByteArray)), c_w3_Names = some r → (call 38 [] []) = some (w3_Names_e r)) (a : w3_Syms_L1_A) : (w3_Syms_L1_t P call c_w3_within c_w3_Names a).ok lp (Sum.elim (fun a => (.norm, w3_Syms_L1_s a)) w3_Syms_L1_e) := ⟨(R_i64_len _), ⟨rfl, fun h0 => yesN_ok 2 (h0) (⟨rfl, fun h1 => ⟨rfl, fun h2 => fun e1 he1 => ⟨R_i64_get he1, fun r2 hr2 => ⟨hc_w3_within _ _ _ hr2, ⟨rfl, fun h3 => fun r3 hr3 => ⟨hc_w3_Names _ hr3, ⟨h2, fun e4 he4 => ⟨R_string_get he4, ⟨(R_i64_map [(0 : Int), (1 : Int), (-1 : Int), (1099511627776 : Int), (-1099511627776 : Int), (100 : Int), (3 : Int), (1048576 : Int)]), ⟨h2, fun e5 he5 => ⟨R_i64_get he5, ⟨rfl, fun r6 hr6 => ⟨hc_w3_within _ _ _ hr6, ⟨(by rw [R_i64_len]), fun h4 => fun e7 he7 => ⟨R_i64_get he7, ⟨(R_api_Sym_map [(T_api_Sym.mk e4 e7)]), ⟨(decide_eq_true (R_api_Sym_all _)), ⟨(by rw [R_api_Sym_len, R_api_Sym_len]), fun h5 => ⟨(R_api_Sym_append _ _), rfl⟩, fun h5 => trivial⟩⟩⟩⟩, fun h4 => trivial⟩⟩⟩⟩⟩⟩⟩⟩⟩, fun h3 => rfl⟩⟩⟩, fun h2 => trivial⟩, fun h1 => rfl⟩), fun h0 => noN_ok 2 (h0) (⟨rfl, rfl⟩)⟩⟩
theorem w3_Syms_L1_m {c_w3_within d_w3_within : Int → Int → Option Int} (h_w3_within : ∀ (a0 : Int) (a1 : Int), Le (c_w3_within a0 a1) (d_w3_within a0 a1)) {c_w3_Names d_w3_Names : Option (List ByteArray)} (h_w3_Names : Le (c_w3_Names ) (d_w3_Names )) (a : w3_Syms_L1_A) : Le (w3_Syms_L1_b c_w3_within c_w3_Names a) (w3_Syms_L1_b d_w3_within d_w3_Names a) := by
  unfold w3_Syms_L1_b
  exact .cond (.cond (.cond (.bind (.refl (a.x0[(Int.toNat a.x4)]?)) fun e1 => .bind (h_w3_within _ _) fun r2 => .cond (.bind (h_w3_Names) fun r3 => .bind (.refl (r3[(Int.toNat a.x4)]?)) fun e4 => .bind (.refl (a.x0[(Int.toNat a.x4)]?)) fun e5 => .bind (h_w3_within _ _) fun r6 => .refl _) (.refl _)) (.refl _)) (.refl _)) (.refl _)
theorem w3_Syms_L1_c {c_w3_within : Nat → Int → Int → Option Int} {d_w3_within : Int → Int → Option Int} (h_w3_within : ∀ (a0 : Int) (a1 : Int), Cv (fun k => c_w3_within k a0 a1) (d_w3_within a0 a1)) {c_w3_Names : Nat → Option (List ByteArray)} {d_w3_Names : Option (List ByteArray)} (h_w3_Names : Cv (fun k => c_w3_Names k ) (d_w3_Names )) (a : w3_Syms_L1_A) : Cv (fun k => w3_Syms_L1_b (c_w3_within k) (c_w3_Names k) a) (w3_Syms_L1_b d_w3_within d_w3_Names a) := by
  unfold w3_Syms_L1_b
  exact .cond (.cond (.cond (.bind (.const (a.x0[(Int.toNat a.x4)]?)) fun e1 => .bind (h_w3_within _ _) fun r2 => .cond (.bind (h_w3_Names) fun r3 => .bind (.const (r3[(Int.toNat a.x4)]?)) fun e4 => .bind (.const (a.x0[(Int.toNat a.x4)]?)) fun e5 => .bind (h_w3_within _ _) fun r6 => by exact .const _) (by exact .const _)) (by exact .const _)) (by exact .const _)) (by exact .const _)
def w3_Syms_L1.s (k : Nat) (c_w3_within : Int → Int → Option Int) (c_w3_Names : Option (List ByteArray)) : w3_Syms_L1_A → Option (List T_api_Sym) := iter (w3_Syms_L1_b c_w3_within c_w3_Names) k
theorem w3_Syms_L1_ok (call : CallF) (k : Nat) (c_w3_within : Int → Int → Option Int) (c_w3_Names : Option (List ByteArray)) (hc_w3_within : ∀ (a0 : Int) (a1 : Int) (r : Int), c_w3_within a0 a1 = some r → (call 18 [.sc (.int .i64 a0), .sc (.int .i64 a1)] []) = some (w3_within_e r)) (hc_w3_Names : ∀  (r : (List ByteArray)), c_w3_Names = some r → (call 38 [] []) = some (w3_Names_e r)) (a : w3_Syms_L1_A) (r : (List T_api_Sym)) (h : w3_Syms_L1.s k c_w3_within c_w3_Names a = some r) : loopsF Tryd.prog G.kd call 0 (G.an 22) k (loopAt Tryd.prog 22 3) (w3_Syms_L1_s a) = some (w3_Syms_L1_e r) :=
  loop_ok (fun a => w3_Syms_L1_t Tryd.prog call c_w3_within c_w3_Names a) (fun a => w3_Syms_L1_d _ call c_w3_within c_w3_Names a) (fun a => w3_Syms_L1_n call c_w3_within c_w3_Names a) (fun a => w3_Syms_L1_k _ call _ c_w3_within c_w3_Names hc_w3_within hc_w3_Names a) (fun r => nofun) h
theorem w3_Syms_L1.m {j k : Nat} (hj : j ≤ k) (c_w3_within : Int → Int → Option Int) (c_w3_Names : Option (List ByteArray)) (d_w3_within : Int → Int → Option Int) (d_w3_Names : Option (List ByteArray)) (h_w3_within : ∀ (a0 : Int) (a1 : Int), Le (c_w3_within a0 a1) (d_w3_within a0 a1)) (h_w3_Names : Le (c_w3_Names ) (d_w3_Names )) (a : w3_Syms_L1_A) : Le (w3_Syms_L1.s j c_w3_within c_w3_Names a) (w3_Syms_L1.s k d_w3_within d_w3_Names a) := Le.iter (fun a => w3_Syms_L1_m h_w3_within h_w3_Names a) hj a
noncomputable def w3_Syms_L1.w (c_w3_within : Int → Int → Option Int) (c_w3_Names : Option (List ByteArray)) : w3_Syms_L1_A → Option (List T_api_Sym) := loopW (w3_Syms_L1_b c_w3_within c_w3_Names)
theorem w3_Syms_L1.cv (c_w3_within : Nat → Int → Int → Option Int) (c_w3_Names : Nat → Option (List ByteArray)) (d_w3_within : Int → Int → Option Int) (d_w3_Names : Option (List ByteArray)) (h_w3_within : ∀ (a0 : Int) (a1 : Int), Cv (fun k => c_w3_within k a0 a1) (d_w3_within a0 a1)) (h_w3_Names : Cv (fun k => c_w3_Names k ) (d_w3_Names )) (a : w3_Syms_L1_A) : Cv (fun k => w3_Syms_L1.s k (c_w3_within k) (c_w3_Names k) a) (w3_Syms_L1.w d_w3_within d_w3_Names a) := Cv.iter (fun a => w3_Syms_L1_c h_w3_within h_w3_Names a) a
def w3_Syms_b (l_w3_Syms_L1 : w3_Syms_L1_A → Option (List T_api_Sym)) (a0 : (List Int)) : Option (List T_api_Sym) := ((l_w3_Syms_L1 (w3_Syms_L1_A.mk a0 (0 : Int) ([] : List T_api_Sym))).bind (fun (o1 : (List T_api_Sym)) => (some o1)))
def w3_Syms_t (P : Program) (call : CallF) (l_w3_Syms_L1 : w3_Syms_L1_A → Option (List T_api_Sym)) (a0 : (List Int)) : Tr (List T_api_Sym) (AV × Heap) := (.loop (loopAt P 22 3) (w3_Syms_L1_s (w3_Syms_L1_A.mk a0 (0 : Int) ([] : List T_api_Sym))) (l_w3_Syms_L1 (w3_Syms_L1_A.mk a0 (0 : Int) ([] : List T_api_Sym))) w3_Syms_L1_e (fun (o1 : (List T_api_Sym)) => (rt w3_Syms_e o1)))
theorem w3_Syms_d (P : Program) (call : CallF) (l_w3_Syms_L1 : w3_Syms_L1_A → Option (List T_api_Sym)) (a0 : (List Int)) : (w3_Syms_t P call l_w3_Syms_L1 a0).den = w3_Syms_b l_w3_Syms_L1 a0 := rfl
theorem w3_Syms_n (call : CallF) (l_w3_Syms_L1 : w3_Syms_L1_A → Option (List T_api_Sym)) (a0 : (List Int)) : (w3_Syms_t Tryd.prog call l_w3_Syms_L1 a0).norm (bodyT Tryd.prog call G 22 [.sl (R_i64 a0)] []) = w3_Syms_t Tryd.prog call l_w3_Syms_L1 a0 := by kernel_rfl
theorem w3_Syms_k (P : Program) (call : CallF) (lp : Loops) (l_w3_Syms_L1 : w3_Syms_L1_A → Option (List T_api_Sym)) (hl_w3_Syms_L1 : ∀ (a : w3_Syms_L1_A) (r : (List T_api_Sym)), l_w3_Syms_L1 a = some r → lp (loopAt P 22 3) (w3_Syms_L1_s a) = some (w3_Syms_L1_e r)) (a0 : (List Int)) : (w3_Syms_t P call l_w3_Syms_L1 a0).ok lp w3_Syms_e := fun o1 ho1 => ⟨hl_w3_Syms_L1 _ _ ho1, rfl⟩
theorem w3_Syms_m {l_w3_Syms_L1 m_w3_Syms_L1 : w3_Syms_L1_A → Option (List T_api_Sym)} (hl_w3_Syms_L1 : ∀ a, Le (l_w3_Syms_L1 a) (m_w3_Syms_L1 a)) (a0 : (List Int)) : Le (w3_Syms_b l_w3_Syms_L1 a0) (w3_Syms_b m_w3_Syms_L1 a0) := by
  unfold w3_Syms_b
  exact .bind (hl_w3_Syms_L1 _) (fun o1 => .refl _)
theorem w3_Syms_c {l_w3_Syms_L1 : Nat → w3_Syms_L1_A → Option (List T_api_Sym)} {m_w3_Syms_L1 : w3_Syms_L1_A → Option (List T_api_Sym)} (hl_w3_Syms_L1 : ∀ a, Cv (fun k => l_w3_Syms_L1 k a) (m_w3_Syms_L1 a)) (a0 : (List Int)) : Cv (fun k => w3_Syms_b (l_w3_Syms_L1 k) a0) (w3_Syms_b m_w3_Syms_L1 a0) := by
  unfold w3_Syms_b
  exact .bind (hl_w3_Syms_L1 _) (fun o1 => by exact .const _)
def w3_Syms.s : Nat → (List Int) → Option (List T_api_Sym)
  | 0, _ => none
  | k + 1, a0 => w3_Syms_b (w3_Syms_L1.s k (fun a0 a1 => w3_within.s k a0 a1) (w3_Names.s k)) a0
theorem w3_Syms.ok : ∀ (k : Nat), ∀ (a0 : (List Int)) (r : (List T_api_Sym)), w3_Syms.s k a0 = some r → evalFn Tryd.prog G k 22 [.sl (R_i64 a0)] [] = some (w3_Syms_e r)
  | 0, _, _, h => (nomatch h)
  | k + 1, a0, r, h => fn_ok rfl (w3_Syms_t Tryd.prog (evalFn Tryd.prog G k) (w3_Syms_L1.s k (fun a0 a1 => w3_within.s k a0 a1) (w3_Names.s k)) a0) (w3_Syms_n _ (w3_Syms_L1.s k (fun a0 a1 => w3_within.s k a0 a1) (w3_Names.s k)) a0) (w3_Syms_k _ _ _ (w3_Syms_L1.s k (fun a0 a1 => w3_within.s k a0 a1) (w3_Names.s k))  (w3_Syms_L1_ok _ k (fun a0 a1 => w3_within.s k a0 a1) (w3_Names.s k) (w3_within.ok k) (w3_Names.ok k)) a0) ((w3_Syms_d _ _ (w3_Syms_L1.s k (fun a0 a1 => w3_within.s k a0 a1) (w3_Names.s k)) a0).trans h)
theorem w3_Syms.mono : ∀ (k : Nat) (a0 : (List Int)), Le (w3_Syms.s k a0) (w3_Syms.s (k + 1) a0)
  | 0, _ => fun r h => (nomatch h)
  | k + 1, a0 => w3_Syms_m (w3_Syms_L1.m (Nat.le_succ k) (fun a0 a1 => w3_within.s k a0 a1) (w3_Names.s k) (fun a0 a1 => w3_within.s (k + 1) a0 a1) (w3_Names.s (k + 1)) (w3_within.mono k) (w3_Names.mono k)) a0
noncomputable def w3_Syms (a0 : (List Int)) : Option (List T_api_Sym) := lim fun k => w3_Syms.s k a0
theorem w3_Syms.cv (a0 : (List Int)) : Cv (fun k => w3_Syms.s k a0) (w3_Syms a0) := .lim fun k => w3_Syms.mono k a0
noncomputable def w3_Syms_L1 : w3_Syms_L1_A → Option (List T_api_Sym) := w3_Syms_L1.w w3_within w3_Names
theorem w3_Syms_L1.eq (a : w3_Syms_L1_A) : w3_Syms_L1 a = (w3_Syms_L1_b w3_within w3_Names a).bind (Sum.elim w3_Syms_L1 some) := loopW_eq _ _
theorem w3_Syms.eq (a0 : (List Int)) : w3_Syms a0 = w3_Syms_b w3_Syms_L1 a0 := Cv.uniq (w3_Syms.cv a0).shift (w3_Syms_c (w3_Syms_L1.cv (fun k => fun a0 a1 => w3_within.s k a0 a1) (fun k => w3_Names.s k) w3_within w3_Names w3_within.cv w3_Names.cv) a0)
def r3_bound_e (r : (Int × Int)) : AV × Heap := (.tup [.sc (.int .i64 r.1), .sc (.int .i64 r.2)], [])
def r3_bound_b  (a0 : Int) : Option (Int × Int) := (bif (decide (a0 < (-1099511627776 : Int))) then (some ((0 : Int), (6 : Int))) else (bif (decide (a0 > (1099511627776 : Int))) then (some ((0 : Int), (6 : Int))) else (some (a0, (0 : Int)))))
def r3_bound_t (P : Program) (call : CallF)  (a0 : Int) : Tr (Int × Int) (AV × Heap) := (.as (decide (a0 < (-1099511627776 : Int))) (yesN 2 (decide (a0 < (-1099511627776 : Int))) (.yes true (rt r3_bound_e ((0 : Int), (6 : Int))))) (noN 2 (decide (a0 < (-1099511627776 : Int))) (.as (decide (a0 > (1099511627776 : Int))) (rt r3_bound_e ((0 : Int), (6 : Int))) (rt r3_bound_e (a0, (0 : Int))))))
theorem r3_bound_d (P : Program) (call : CallF)  (a0 : Int) : (r3_bound_t P call  a0).den = r3_bound_b  a0 := rfl
theorem r3_bound_n (call : CallF)  (a0 : Int) : (r3_bound_t Tryd.prog call  a0).norm (bodyT Tryd.prog call G 58 [.sc (.int .i64 a0)] []) = r3_bound_t Tryd.prog call  a0 := by kernel_rfl
theorem r3_bound_k (P : Program) (call : CallF) (lp : Loops)   (a0 : Int) : (r3_bound_t P call  a0).ok lp r3_bound_e := ⟨rfl, fun h0 => yesN_ok 2 (h0) (⟨rfl, rfl⟩), fun h0 => noN_ok 2 (h0) (⟨rfl, fun h1 => rfl, fun h1 => rfl⟩)⟩
def r3_bound.s : Nat → Int → Option (Int × Int)
  | 0, _ => none
  | k + 1, a0 => r3_bound_b  a0
theorem r3_bound.ok : ∀ (k : Nat), ∀ (a0 : Int) (r : (Int × Int)), r3_bound.s k a0 = some r → evalFn Tryd.prog G k 58 [.sc (.int .i64 a0)] [] = some (r3_bound_e r)
  | 0, _, _, h => (nomatch h)
  | k + 1, a0, r, h => fn_ok rfl (r3_bound_t Tryd.prog (evalFn Tryd.prog G k)  a0) (r3_bound_n _  a0) (r3_bound_k _ _ _    a0) ((r3_bound_d _ _  a0).trans h)
theorem r3_bound.mono : ∀ (k : Nat) (a0 : Int), Le (r3_bound.s k a0) (r3_bound.s (k + 1) a0)
  | 0, _ => fun r h => (nomatch h)
  | k + 1, a0 => .refl _
noncomputable def r3_bound (a0 : Int) : Option (Int × Int) := lim fun k => r3_bound.s k a0
theorem r3_bound.cv (a0 : Int) : Cv (fun k => r3_bound.s k a0) (r3_bound a0) := .lim fun k => r3_bound.mono k a0
theorem r3_bound.eq (a0 : Int) : r3_bound a0 = r3_bound_b  a0 := Cv.uniq (r3_bound.cv a0).shift (by exact .const _)
def r3_times_e (r : (Int × Int)) : AV × Heap := (.tup [.sc (.int .i64 r.1), .sc (.int .i64 r.2)], [])
def r3_times_b  (a0 : Int) (a1 : Int) : Option (Int × Int) := (bif (a0 == (0 : Int)) then (some ((0 : Int), (0 : Int))) else (bif (a1 == (0 : Int)) then (some ((0 : Int), (0 : Int))) else (bif (decide ((if (w64 ((0 : Int) - a1)) > a1 then (w64 ((0 : Int) - a1)) else a1) ≠ 0)) then (bif (decide ((if (w64 ((0 : Int) - a0)) > a0 then (w64 ((0 : Int) - a0)) else a0) > (w64 (Int.tdiv (1099511627776 : Int) (if (w64 ((0 : Int) - a1)) > a1 then (w64 ((0 : Int) - a1)) else a1))))) then (some ((0 : Int), (6 : Int))) else (some ((w64 (a0 * a1)), (0 : Int)))) else none)))
def r3_times_t (P : Program) (call : CallF)  (a0 : Int) (a1 : Int) : Tr (Int × Int) (AV × Heap) := (.as (a0 == (0 : Int)) (yesN 2 (a0 == (0 : Int)) (.yes true (rt r3_times_e ((0 : Int), (0 : Int))))) (noN 2 (a0 == (0 : Int)) (.as (a1 == (0 : Int)) (rt r3_times_e ((0 : Int), (0 : Int))) (.as (decide ((if (w64 ((0 : Int) - a1)) > a1 then (w64 ((0 : Int) - a1)) else a1) ≠ 0)) (.as (decide ((if (w64 ((0 : Int) - a0)) > a0 then (w64 ((0 : Int) - a0)) else a0) > (w64 (Int.tdiv (1099511627776 : Int) (if (w64 ((0 : Int) - a1)) > a1 then (w64 ((0 : Int) - a1)) else a1))))) (rt r3_times_e ((0 : Int), (6 : Int))) (rt r3_times_e ((w64 (a0 * a1)), (0 : Int)))) .fail))))
theorem r3_times_d (P : Program) (call : CallF)  (a0 : Int) (a1 : Int) : (r3_times_t P call  a0 a1).den = r3_times_b  a0 a1 := rfl
theorem r3_times_n (call : CallF)  (a0 : Int) (a1 : Int) : (r3_times_t Tryd.prog call  a0 a1).norm (bodyT Tryd.prog call G 59 [.sc (.int .i64 a0), .sc (.int .i64 a1)] []) = r3_times_t Tryd.prog call  a0 a1 := by kernel_rfl
theorem r3_times_k (P : Program) (call : CallF) (lp : Loops)   (a0 : Int) (a1 : Int) : (r3_times_t P call  a0 a1).ok lp r3_times_e := ⟨rfl, fun h0 => yesN_ok 2 (h0) (⟨rfl, rfl⟩), fun h0 => noN_ok 2 (h0) (⟨rfl, fun h1 => rfl, fun h1 => ⟨rfl, fun h2 => ⟨rfl, fun h3 => rfl, fun h3 => rfl⟩, fun h2 => trivial⟩⟩)⟩
def r3_times.s : Nat → Int → Int → Option (Int × Int)
  | 0, _, _ => none
  | k + 1, a0, a1 => r3_times_b  a0 a1
theorem r3_times.ok : ∀ (k : Nat), ∀ (a0 : Int) (a1 : Int) (r : (Int × Int)), r3_times.s k a0 a1 = some r → evalFn Tryd.prog G k 59 [.sc (.int .i64 a0), .sc (.int .i64 a1)] [] = some (r3_times_e r)
  | 0, _, _, _, h => (nomatch h)
  | k + 1, a0, a1, r, h => fn_ok rfl (r3_times_t Tryd.prog (evalFn Tryd.prog G k)  a0 a1) (r3_times_n _  a0 a1) (r3_times_k _ _ _    a0 a1) ((r3_times_d _ _  a0 a1).trans h)
theorem r3_times.mono : ∀ (k : Nat) (a0 : Int) (a1 : Int), Le (r3_times.s k a0 a1) (r3_times.s (k + 1) a0 a1)
  | 0, _, _ => fun r h => (nomatch h)
  | k + 1, a0, a1 => .refl _
noncomputable def r3_times (a0 : Int) (a1 : Int) : Option (Int × Int) := lim fun k => r3_times.s k a0 a1
theorem r3_times.cv (a0 : Int) (a1 : Int) : Cv (fun k => r3_times.s k a0 a1) (r3_times a0 a1) := .lim fun k => r3_times.mono k a0 a1
theorem r3_times.eq (a0 : Int) (a1 : Int) : r3_times a0 a1 = r3_times_b  a0 a1 := Cv.uniq (r3_times.cv a0 a1).shift (by exact .const _)
def r3_reckon_e (r : (Int × Int)) : AV × Heap := (.tup [.sc (.int .i64 r.1), .sc (.int .i64 r.2)], [])
def r3_reckon_b (c_r3_bound : Int → Option (Int × Int)) (c_r3_times : Int → Int → Option (Int × Int)) (a0 : Int) (a1 : Int) (a2 : Int) : Option (Int × Int) := (bif (a0 == (5 : Int)) then ((c_r3_bound (w64 (a1 + a2))).bind fun (r1 : (Int × Int)) => (some (r1.1, r1.2))) else (bif (a0 == (6 : Int)) then ((c_r3_bound (w64 (a1 - a2))).bind fun (r2 : (Int × Int)) => (some (r2.1, r2.2))) else (bif (a0 == (7 : Int)) then ((c_r3_times a1 a2).bind fun (r3 : (Int × Int)) => (some (r3.1, r3.2))) else (bif (a0 == (8 : Int)) then ((c_r3_bound (andI .i64 a1 a2)).bind fun (r4 : (Int × Int)) => (some (r4.1, r4.2))) else (bif (a0 == (9 : Int)) then ((c_r3_bound (orI .i64 a1 a2)).bind fun (r5 : (Int × Int)) => (some (r5.1, r5.2))) else (bif (decide (a2 < (0 : Int))) then (some ((0 : Int), (6 : Int))) else (bif (decide (a2 > (40 : Int))) then (some ((0 : Int), (6 : Int))) else (bif (a0 == (11 : Int)) then (bif (decide (0 ≤ (IntKind.u64.wrap a2))) then (some ((shrI .i64 a1 (IntKind.u64.wrap a2)), (0 : Int))) else none) else (bif (decide (0 ≤ (IntKind.u64.wrap a2))) then ((c_r3_times a1 (shlI .i64 (1 : Int) (IntKind.u64.wrap a2))).bind fun (r6 : (Int × Int)) => (some (r6.1, r6.2))) else none)))))))))
def r3_reckon_t (P : Program) (call : CallF) (c_r3_bound : Int → Option (Int × Int)) (c_r3_times : Int → Int → Option (Int × Int)) (a0 : Int) (a1 : Int) (a2 : Int) : Tr (Int × Int) (AV × Heap) := (.as (a0 == (5 : Int)) (.call (call 58 [.sc (.int .i64 (w64 (a1 + a2)))] []) (c_r3_bound (w64 (a1 + a2))) r3_bound_e fun (r1 : (Int × Int)) => (rt r3_reckon_e (r1.1, r1.2))) (.as (a0 == (6 : Int)) (.call (call 58 [.sc (.int .i64 (w64 (a1 - a2)))] []) (c_r3_bound (w64 (a1 - a2))) r3_bound_e fun (r2 : (Int × Int)) => (rt r3_reckon_e (r2.1, r2.2))) (.as (a0 == (7 : Int)) (.call (call 59 [.sc (.int .i64 a1), .sc (.int .i64 a2)] []) (c_r3_times a1 a2) r3_times_e fun (r3 : (Int × Int)) => (rt r3_reckon_e (r3.1, r3.2))) (.as (a0 == (8 : Int)) (.call (call 58 [.sc (.int .i64 (andI .i64 a1 a2))] []) (c_r3_bound (andI .i64 a1 a2)) r3_bound_e fun (r4 : (Int × Int)) => (rt r3_reckon_e (r4.1, r4.2))) (.as (a0 == (9 : Int)) (.call (call 58 [.sc (.int .i64 (orI .i64 a1 a2))] []) (c_r3_bound (orI .i64 a1 a2)) r3_bound_e fun (r5 : (Int × Int)) => (rt r3_reckon_e (r5.1, r5.2))) (.as (decide (a2 < (0 : Int))) (yesN 2 (decide (a2 < (0 : Int))) (.yes true (rt r3_reckon_e ((0 : Int), (6 : Int))))) (noN 2 (decide (a2 < (0 : Int))) (.as (decide (a2 > (40 : Int))) (rt r3_reckon_e ((0 : Int), (6 : Int))) (.as (a0 == (11 : Int)) (.as (decide (0 ≤ (IntKind.u64.wrap a2))) (rt r3_reckon_e ((shrI .i64 a1 (IntKind.u64.wrap a2)), (0 : Int))) .fail) (.as (decide (0 ≤ (IntKind.u64.wrap a2))) (.call (call 59 [.sc (.int .i64 a1), .sc (.int .i64 (shlI .i64 (1 : Int) (IntKind.u64.wrap a2)))] []) (c_r3_times a1 (shlI .i64 (1 : Int) (IntKind.u64.wrap a2))) r3_times_e fun (r6 : (Int × Int)) => (rt r3_reckon_e (r6.1, r6.2))) .fail))))))))))
theorem r3_reckon_d (P : Program) (call : CallF) (c_r3_bound : Int → Option (Int × Int)) (c_r3_times : Int → Int → Option (Int × Int)) (a0 : Int) (a1 : Int) (a2 : Int) : (r3_reckon_t P call c_r3_bound c_r3_times a0 a1 a2).den = r3_reckon_b c_r3_bound c_r3_times a0 a1 a2 := rfl
theorem r3_reckon_n (call : CallF) (c_r3_bound : Int → Option (Int × Int)) (c_r3_times : Int → Int → Option (Int × Int)) (a0 : Int) (a1 : Int) (a2 : Int) : (r3_reckon_t Tryd.prog call c_r3_bound c_r3_times a0 a1 a2).norm (bodyT Tryd.prog call G 43 [.sc (.int .i64 a0), .sc (.int .i64 a1), .sc (.int .i64 a2)] []) = r3_reckon_t Tryd.prog call c_r3_bound c_r3_times a0 a1 a2 := by kernel_rfl
theorem r3_reckon_k (P : Program) (call : CallF) (lp : Loops) (c_r3_bound : Int → Option (Int × Int)) (c_r3_times : Int → Int → Option (Int × Int)) (hc_r3_bound : ∀ (a0 : Int) (r : (Int × Int)), c_r3_bound a0 = some r → (call 58 [.sc (.int .i64 a0)] []) = some (r3_bound_e r)) (hc_r3_times : ∀ (a0 : Int) (a1 : Int) (r : (Int × Int)), c_r3_times a0 a1 = some r → (call 59 [.sc (.int .i64 a0), .sc (.int .i64 a1)] []) = some (r3_times_e r)) (a0 : Int) (a1 : Int) (a2 : Int) : (r3_reckon_t P call c_r3_bound c_r3_times a0 a1 a2).ok lp r3_reckon_e := ⟨rfl, fun h0 => fun r1 hr1 => ⟨hc_r3_bound _ _ hr1, rfl⟩, fun h0 => ⟨rfl, fun h1 => fun r2 hr2 => ⟨hc_r3_bound _ _ hr2, rfl⟩, fun h1 => ⟨rfl, fun h2 => fun r3 hr3 => ⟨hc_r3_times _ _ _ hr3, rfl⟩, fun h2 => ⟨rfl, fun h3 => fun r4 hr4 => ⟨hc_r3_bound _ _ hr4, rfl⟩, fun h3 => ⟨rfl, fun h4 => fun r5 hr5 => ⟨hc_r3_bound _ _ hr5, rfl⟩, fun h4 => ⟨rfl, fun h5 => yesN_ok 2 (h5) (⟨rfl, rfl⟩), fun h5 => noN_ok 2 (h5) (⟨rfl, fun h6 => rfl, fun h6 => ⟨rfl, fun h7 => ⟨rfl, fun h8 => rfl, fun h8 => trivial⟩, fun h7 => ⟨rfl, fun h8 => fun r6 hr6 => ⟨hc_r3_times _ _ _ hr6, rfl⟩, fun h8 => trivial⟩⟩⟩)⟩⟩⟩⟩⟩⟩
theorem r3_reckon_m {c_r3_bound d_r3_bound : Int → Option (Int × Int)} (h_r3_bound : ∀ (a0 : Int), Le (c_r3_bound a0) (d_r3_bound a0)) {c_r3_times d_r3_times : Int → Int → Option (Int × Int)} (h_r3_times : ∀ (a0 : Int) (a1 : Int), Le (c_r3_times a0 a1) (d_r3_times a0 a1)) (a0 : Int) (a1 : Int) (a2 : Int) : Le (r3_reckon_b c_r3_bound c_r3_times a0 a1 a2) (r3_reckon_b d_r3_bound d_r3_times a0 a1 a2) := by
  unfold r3_reckon_b
  exact .cond (.bind (h_r3_bound _) fun r1 => .refl _) (.cond (.bind (h_r3_bound _) fun r2 => .refl _) (.cond (.bind (h_r3_times _ _) fun r3 => .refl _) (.cond (.bind (h_r3_bound _) fun r4 => .refl _) (.cond (.bind (h_r3_bound _) fun r5 => .refl _) (.cond (.refl _) (.cond (.refl _) (.cond (.refl _) (.cond (.bind (h_r3_times _ _) fun r6 => .refl _) (.refl _)))))))))
theorem r3_reckon_c {c_r3_bound : Nat → Int → Option (Int × Int)} {d_r3_bound : Int → Option (Int × Int)} (h_r3_bound : ∀ (a0 : Int), Cv (fun k => c_r3_bound k a0) (d_r3_bound a0)) {c_r3_times : Nat → Int → Int → Option (Int × Int)} {d_r3_times : Int → Int → Option (Int × Int)} (h_r3_times : ∀ (a0 : Int) (a1 : Int), Cv (fun k => c_r3_times k a0 a1) (d_r3_times a0 a1)) (a0 : Int) (a1 : Int) (a2 : Int) : Cv (fun k => r3_reckon_b (c_r3_bound k) (c_r3_times k) a0 a1 a2) (r3_reckon_b d_r3_bound d_r3_times a0 a1 a2) := by
  unfold r3_reckon_b
  exact .cond (.bind (h_r3_bound _) fun r1 => by exact .const _) (.cond (.bind (h_r3_bound _) fun r2 => by exact .const _) (.cond (.bind (h_r3_times _ _) fun r3 => by exact .const _) (.cond (.bind (h_r3_bound _) fun r4 => by exact .const _) (.cond (.bind (h_r3_bound _) fun r5 => by exact .const _) (.cond (by exact .const _) (.cond (by exact .const _) (.cond (by exact .const _) (.cond (.bind (h_r3_times _ _) fun r6 => by exact .const _) (by exact .const _)))))))))
def r3_reckon.s : Nat → Int → Int → Int → Option (Int × Int)
  | 0, _, _, _ => none
  | k + 1, a0, a1, a2 => r3_reckon_b (fun a0 => r3_bound.s k a0) (fun a0 a1 => r3_times.s k a0 a1) a0 a1 a2
theorem r3_reckon.ok : ∀ (k : Nat), ∀ (a0 : Int) (a1 : Int) (a2 : Int) (r : (Int × Int)), r3_reckon.s k a0 a1 a2 = some r → evalFn Tryd.prog G k 43 [.sc (.int .i64 a0), .sc (.int .i64 a1), .sc (.int .i64 a2)] [] = some (r3_reckon_e r)
  | 0, _, _, _, _, h => (nomatch h)
  | k + 1, a0, a1, a2, r, h => fn_ok rfl (r3_reckon_t Tryd.prog (evalFn Tryd.prog G k) (fun a0 => r3_bound.s k a0) (fun a0 a1 => r3_times.s k a0 a1) a0 a1 a2) (r3_reckon_n _ (fun a0 => r3_bound.s k a0) (fun a0 a1 => r3_times.s k a0 a1) a0 a1 a2) (r3_reckon_k _ _ _ (fun a0 => r3_bound.s k a0) (fun a0 a1 => r3_times.s k a0 a1) (r3_bound.ok k) (r3_times.ok k)  a0 a1 a2) ((r3_reckon_d _ _ (fun a0 => r3_bound.s k a0) (fun a0 a1 => r3_times.s k a0 a1) a0 a1 a2).trans h)
theorem r3_reckon.mono : ∀ (k : Nat) (a0 : Int) (a1 : Int) (a2 : Int), Le (r3_reckon.s k a0 a1 a2) (r3_reckon.s (k + 1) a0 a1 a2)
  | 0, _, _, _ => fun r h => (nomatch h)
  | k + 1, a0, a1, a2 => r3_reckon_m (r3_bound.mono k) (r3_times.mono k) a0 a1 a2
noncomputable def r3_reckon (a0 : Int) (a1 : Int) (a2 : Int) : Option (Int × Int) := lim fun k => r3_reckon.s k a0 a1 a2
theorem r3_reckon.cv (a0 : Int) (a1 : Int) (a2 : Int) : Cv (fun k => r3_reckon.s k a0 a1 a2) (r3_reckon a0 a1 a2) := .lim fun k => r3_reckon.mono k a0 a1 a2
theorem r3_reckon.eq (a0 : Int) (a1 : Int) (a2 : Int) : r3_reckon a0 a1 a2 = r3_reckon_b r3_bound r3_times a0 a1 a2 := Cv.uniq (r3_reckon.cv a0 a1 a2).shift (r3_reckon_c r3_bound.cv r3_times.cv a0 a1 a2)
def r3_Eval_e (r : (Int × Int)) : AV × Heap := (.tup [.sc (.int .i64 r.1), .sc (.int .i64 r.2)], [])
structure r3_Eval_L1_A where
  x2 : (List T_api_Sym)
  x8 : Int
  h0 : T_api_Expr
structure r3_Eval_L1_O0 where
  x6 : Int
  x7 : Int
def r3_Eval_L1_s (a : r3_Eval_L1_A) : St := { n := 81, nx := 1, env := [(2, .sl (R_api_Sym a.x2)), (3, .ptr 0 0), (8, .sc (.int .i64 a.x8))], heap := [(0, .box [] (C_api_Expr a.h0))] }
def r3_Eval_L1_e0 (a : r3_Eval_L1_O0) : Ex × St := (.ret, { n := 81, nx := 0, env := [(6, .sc (.int .i64 a.x6)), (7, .sc (.int .i64 a.x7))], heap := [] })
def r3_Eval_L1_e1 (a : Unit) : Ex × St := (.exit 1, { n := 81, nx := 0, env := [], heap := [] })
def r3_Eval_L1_e (a : (r3_Eval_L1_O0 ⊕ Unit)) : Ex × St := Sum.elim r3_Eval_L1_e0 r3_Eval_L1_e1 a
def r3_Eval_L1_b  (a : r3_Eval_L1_A) : Option (r3_Eval_L1_A ⊕ (r3_Eval_L1_O0 ⊕ Unit)) := (bif (decide (a.x8 < (((a.x2.length) : Nat) : Int))) then (bif (decide (0 ≤ a.x8)) then ((a.x2[(Int.toNat a.x8)]?).bind fun (e1 : T_api_Sym) => (bif (eqS e1.Name a.h0.Name) then ((a.x2[(Int.toNat a.x8)]?).bind fun (e2 : T_api_Sym) => (some (.inr (.inl (r3_Eval_L1_O0.mk e2.Value (0 : Int)))))) else (some (.inl (r3_Eval_L1_A.mk a.x2 (w64 (a.x8 + (1 : Int))) a.h0))))) else none) else (some (.inr (.inr ()))))
def r3_Eval_L1_t (P : Program) (call : CallF)  (a : r3_Eval_L1_A) : Tr (r3_Eval_L1_A ⊕ (r3_Eval_L1_O0 ⊕ Unit)) (Ex × St) := (.num ((R_api_Sym a.x2).length) (a.x2.length) (.as (decide (a.x8 < (((a.x2.length) : Nat) : Int))) (.as (decide (0 ≤ a.x8)) (.row ((R_api_Sym a.x2)[(Int.toNat a.x8)]?) (a.x2[(Int.toNat a.x8)]?) C_api_Sym fun (e1 : T_api_Sym) => (.as (eqS e1.Name a.h0.Name) (.yes (decide (0 ≤ a.x8)) (.row ((R_api_Sym a.x2)[(Int.toNat a.x8)]?) (a.x2[(Int.toNat a.x8)]?) C_api_Sym fun (e2 : T_api_Sym) => (rx r3_Eval_L1_e (.inl (r3_Eval_L1_O0.mk e2.Value (0 : Int)))))) (lf r3_Eval_L1_s (r3_Eval_L1_A.mk a.x2 (w64 (a.x8 + (1 : Int))) a.h0)))) .fail) (rx r3_Eval_L1_e (.inr ()))))
theorem r3_Eval_L1_d (P : Program) (call : CallF)  (a : r3_Eval_L1_A) : (r3_Eval_L1_t P call  a).den = r3_Eval_L1_b  a := rfl
theorem r3_Eval_L1_n (call : CallF)  (a : r3_Eval_L1_A) : (r3_Eval_L1_t Tryd.prog call  a).norm (roundT Tryd.prog G.kd call 0 (G.an 24) (loopAt Tryd.prog 24 8) (r3_Eval_L1_s a)) = r3_Eval_L1_t Tryd.prog call  a := by kernel_rfl
theorem r3_Eval_L1_k (P : Program) (call : CallF) (lp : Loops)   (a : r3_Eval_L1_A) : (r3_Eval_L1_t P call  a).ok lp (Sum.elim (fun a => (.norm, r3_Eval_L1_s a)) r3_Eval_L1_e) := ⟨(R_api_Sym_len _), ⟨rfl, fun h0 => ⟨rfl, fun h1 => fun e1 he1 => ⟨R_api_Sym_get he1, ⟨rfl, fun h2 => ⟨h1, fun e2 he2 => ⟨R_api_Sym_get he2, rfl⟩⟩, fun h2 => rfl⟩⟩, fun h1 => trivial⟩, fun h0 => rfl⟩⟩
def r3_Eval_L1.s (k : Nat)  : r3_Eval_L1_A → Option (r3_Eval_L1_O0 ⊕ Unit) := iter (r3_Eval_L1_b ) k
theorem r3_Eval_L1_ok (call : CallF) (k : Nat)   (a : r3_Eval_L1_A) (r : (r3_Eval_L1_O0 ⊕ Unit)) (h : r3_Eval_L1.s k  a = some r) : loopsF Tryd.prog G.kd call 0 (G.an 24) k (loopAt Tryd.prog 24 8) (r3_Eval_L1_s a) = some (r3_Eval_L1_e r) :=
  loop_ok (fun a => r3_Eval_L1_t Tryd.prog call  a) (fun a => r3_Eval_L1_d _ call  a) (fun a => r3_Eval_L1_n call  a) (fun a => r3_Eval_L1_k _ call _   a) (fun r => by cases r <;> nofun) h
theorem r3_Eval_L1.m {j k : Nat} (hj : j ≤ k)    (a : r3_Eval_L1_A) : Le (r3_Eval_L1.s j  a) (r3_Eval_L1.s k  a) := Le.iter (fun a => .refl _) hj a
noncomputable def r3_Eval_L1.w  : r3_Eval_L1_A → Option (r3_Eval_L1_O0 ⊕ Unit) := loopW (r3_Eval_L1_b )
theorem r3_Eval_L1.cv    (a : r3_Eval_L1_A) : Cv (fun k => r3_Eval_L1.s k  a) (r3_Eval_L1.w  a) := Cv.iter (fun a => by exact .const _) a
def r3_Eval_b (c_r3_Eval : T_api_Expr → Int → (List T_api_Sym) → Option (Int × Int)) (c_r3_reckon : Int → Int → Int → Option (Int × Int)) (l_r3_Eval_L1 : r3_Eval_L1_A → Option (r3_Eval_L1_O0 ⊕ Unit)) (a0 : T_api_Expr) (a1 : Int) (a2 : (List T_api_Sym)) : Option (Int × Int) := (bif (a0.Kind == (1 : Int)) then (some (a0.N, (0 : Int))) else (bif (a0.Kind == (3 : Int)) then (some (a1, (0 : Int))) else (bif (a0.Kind == (2 : Int)) then ((l_r3_Eval_L1 (r3_Eval_L1_A.mk a2 (0 : Int) a0)).bind fun x => Sum.elim (fun (o1 : r3_Eval_L1_O0) => (some (o1.x6, o1.x7))) (fun (o2 : Unit) => (some ((0 : Int), (4 : Int)))) x) else ((a0.L[(Int.toNat (0 : Int))]?).bind fun (e3 : T_api_Expr) => ((c_r3_Eval e3 a1 a2).bind fun (r4 : (Int × Int)) => (bif (r4.2 != (0 : Int)) then (some ((0 : Int), r4.2)) else (bif (a0.Kind == (4 : Int)) then (some ((w64 ((0 : Int) - r4.1)), (0 : Int))) else ((a0.L[(Int.toNat (1 : Int))]?).bind fun (e5 : T_api_Expr) => ((c_r3_Eval e5 a1 a2).bind fun (r6 : (Int × Int)) => (bif (r6.2 != (0 : Int)) then (some ((0 : Int), r6.2)) else ((c_r3_reckon a0.Kind r4.1 r6.1).bind fun (r7 : (Int × Int)) => (some (r7.1, r7.2)))))))))))))
def r3_Eval_t (P : Program) (call : CallF) (c_r3_Eval : T_api_Expr → Int → (List T_api_Sym) → Option (Int × Int)) (c_r3_reckon : Int → Int → Int → Option (Int × Int)) (l_r3_Eval_L1 : r3_Eval_L1_A → Option (r3_Eval_L1_O0 ⊕ Unit)) (a0 : T_api_Expr) (a1 : Int) (a2 : (List T_api_Sym)) : Tr (Int × Int) (AV × Heap) := (.as (a0.Kind == (1 : Int)) (rt r3_Eval_e (a0.N, (0 : Int))) (.as (a0.Kind == (3 : Int)) (rt r3_Eval_e (a1, (0 : Int))) (.as (a0.Kind == (2 : Int)) (.loop2 (loopAt P 24 8) (r3_Eval_L1_s (r3_Eval_L1_A.mk a2 (0 : Int) a0)) (l_r3_Eval_L1 (r3_Eval_L1_A.mk a2 (0 : Int) a0)) r3_Eval_L1_e0 r3_Eval_L1_e1 (fun (o1 : r3_Eval_L1_O0) => (rt r3_Eval_e (o1.x6, o1.x7))) (fun (o2 : Unit) => (rt r3_Eval_e ((0 : Int), (4 : Int))))) (.yes (decide (0 ≤ (0 : Int))) (.row ((R_api_Expr a0.L)[(Int.toNat (0 : Int))]?) (a0.L[(Int.toNat (0 : Int))]?) C_api_Expr fun (e3 : T_api_Expr) => (.call (call 24 [.agg (C_api_Expr e3), .sc (.int .i64 a1), .sl (R_api_Sym a2)] []) (c_r3_Eval e3 a1 a2) r3_Eval_e fun (r4 : (Int × Int)) => (.as (r4.2 != (0 : Int)) (rt r3_Eval_e ((0 : Int), r4.2)) (.as (a0.Kind == (4 : Int)) (rt r3_Eval_e ((w64 ((0 : Int) - r4.1)), (0 : Int))) (.yes (decide (0 ≤ (1 : Int))) (.row ((R_api_Expr a0.L)[(Int.toNat (1 : Int))]?) (a0.L[(Int.toNat (1 : Int))]?) C_api_Expr fun (e5 : T_api_Expr) => (.call (call 24 [.agg (C_api_Expr e5), .sc (.int .i64 a1), .sl (R_api_Sym a2)] []) (c_r3_Eval e5 a1 a2) r3_Eval_e fun (r6 : (Int × Int)) => (.as (r6.2 != (0 : Int)) (rt r3_Eval_e ((0 : Int), r6.2)) (.call (call 43 [.sc (.int .i64 a0.Kind), .sc (.int .i64 r4.1), .sc (.int .i64 r6.1)] []) (c_r3_reckon a0.Kind r4.1 r6.1) r3_reckon_e fun (r7 : (Int × Int)) => (rt r3_Eval_e (r7.1, r7.2)))))))))))))))
theorem r3_Eval_d (P : Program) (call : CallF) (c_r3_Eval : T_api_Expr → Int → (List T_api_Sym) → Option (Int × Int)) (c_r3_reckon : Int → Int → Int → Option (Int × Int)) (l_r3_Eval_L1 : r3_Eval_L1_A → Option (r3_Eval_L1_O0 ⊕ Unit)) (a0 : T_api_Expr) (a1 : Int) (a2 : (List T_api_Sym)) : (r3_Eval_t P call c_r3_Eval c_r3_reckon l_r3_Eval_L1 a0 a1 a2).den = r3_Eval_b c_r3_Eval c_r3_reckon l_r3_Eval_L1 a0 a1 a2 := rfl
theorem r3_Eval_n (call : CallF) (c_r3_Eval : T_api_Expr → Int → (List T_api_Sym) → Option (Int × Int)) (c_r3_reckon : Int → Int → Int → Option (Int × Int)) (l_r3_Eval_L1 : r3_Eval_L1_A → Option (r3_Eval_L1_O0 ⊕ Unit)) (a0 : T_api_Expr) (a1 : Int) (a2 : (List T_api_Sym)) : (r3_Eval_t Tryd.prog call c_r3_Eval c_r3_reckon l_r3_Eval_L1 a0 a1 a2).norm (bodyT Tryd.prog call G 24 [.agg (C_api_Expr a0), .sc (.int .i64 a1), .sl (R_api_Sym a2)] []) = r3_Eval_t Tryd.prog call c_r3_Eval c_r3_reckon l_r3_Eval_L1 a0 a1 a2 := by kernel_rfl
theorem r3_Eval_k (P : Program) (call : CallF) (lp : Loops) (c_r3_Eval : T_api_Expr → Int → (List T_api_Sym) → Option (Int × Int)) (c_r3_reckon : Int → Int → Int → Option (Int × Int)) (l_r3_Eval_L1 : r3_Eval_L1_A → Option (r3_Eval_L1_O0 ⊕ Unit)) (hc_r3_Eval : ∀ (a0 : T_api_Expr) (a1 : Int) (a2 : (List T_api_Sym)) (r : (Int × Int)), c_r3_Eval a0 a1 a2 = some r → (call 24 [.agg (C_api_Expr a0), .sc (.int .i64 a1), .sl (R_api_Sym a2)] []) = some (r3_Eval_e r)) (hc_r3_reckon : ∀ (a0 : Int) (a1 : Int) (a2 : Int) (r : (Int × Int)), c_r3_reckon a0 a1 a2 = some r → (call 43 [.sc (.int .i64 a0), .sc (.int .i64 a1), .sc (.int .i64 a2)] []) = some (r3_reckon_e r)) (hl_r3_Eval_L1 : ∀ (a : r3_Eval_L1_A) (r : (r3_Eval_L1_O0 ⊕ Unit)), l_r3_Eval_L1 a = some r → lp (loopAt P 24 8) (r3_Eval_L1_s a) = some (r3_Eval_L1_e r)) (a0 : T_api_Expr) (a1 : Int) (a2 : (List T_api_Sym)) : (r3_Eval_t P call c_r3_Eval c_r3_reckon l_r3_Eval_L1 a0 a1 a2).ok lp r3_Eval_e := ⟨rfl, fun h0 => rfl, fun h0 => ⟨rfl, fun h1 => rfl, fun h1 => ⟨rfl, fun h2 => ⟨fun o1 ho1 => ⟨hl_r3_Eval_L1 _ (.inl _) ho1, rfl⟩, fun o2 ho2 => ⟨hl_r3_Eval_L1 _ (.inr _) ho2, rfl⟩⟩, fun h2 => ⟨rfl, fun e3 he3 => ⟨R_api_Expr_get he3, fun r4 hr4 => ⟨hc_r3_Eval _ _ _ _ hr4, ⟨rfl, fun h3 => rfl, fun h3 => ⟨rfl, fun h4 => rfl, fun h4 => ⟨rfl, fun e5 he5 => ⟨R_api_Expr_get he5, fun r6 hr6 => ⟨hc_r3_Eval _ _ _ _ hr6, ⟨rfl, fun h5 => rfl, fun h5 => fun r7 hr7 => ⟨hc_r3_reckon _ _ _ _ hr7, rfl⟩⟩⟩⟩⟩⟩⟩⟩⟩⟩⟩⟩⟩
theorem r3_Eval_m {c_r3_Eval d_r3_Eval : T_api_Expr → Int → (List T_api_Sym) → Option (Int × Int)} (h_r3_Eval : ∀ (a0 : T_api_Expr) (a1 : Int) (a2 : (List T_api_Sym)), Le (c_r3_Eval a0 a1 a2) (d_r3_Eval a0 a1 a2)) {c_r3_reckon d_r3_reckon : Int → Int → Int → Option (Int × Int)} (h_r3_reckon : ∀ (a0 : Int) (a1 : Int) (a2 : Int), Le (c_r3_reckon a0 a1 a2) (d_r3_reckon a0 a1 a2)) {l_r3_Eval_L1 m_r3_Eval_L1 : r3_Eval_L1_A → Option (r3_Eval_L1_O0 ⊕ Unit)} (hl_r3_Eval_L1 : ∀ a, Le (l_r3_Eval_L1 a) (m_r3_Eval_L1 a)) (a0 : T_api_Expr) (a1 : Int) (a2 : (List T_api_Sym)) : Le (r3_Eval_b c_r3_Eval c_r3_reckon l_r3_Eval_L1 a0 a1 a2) (r3_Eval_b d_r3_Eval d_r3_reckon m_r3_Eval_L1 a0 a1 a2) := by
  unfold r3_Eval_b
  exact .cond (.refl _) (.cond (.refl _) (.cond (.bind (hl_r3_Eval_L1 _) fun x => .sum (fun o1 => .refl _) (fun o2 => .refl _) x) (.bind (.refl (a0.L[(Int.toNat (0 : Int))]?)) fun e3 => .bind (h_r3_Eval _ _ _) fun r4 => .cond (.refl _) (.cond (.refl _) (.bind (.refl (a0.L[(Int.toNat (1 : Int))]?)) fun e5 => .bind (h_r3_Eval _ _ _) fun r6 => .cond (.refl _) (.bind (h_r3_reckon _ _ _) fun r7 => .refl _))))))
theorem r3_Eval_c {c_r3_Eval : Nat → T_api_Expr → Int → (List T_api_Sym) → Option (Int × Int)} {d_r3_Eval : T_api_Expr → Int → (List T_api_Sym) → Option (Int × Int)} (h_r3_Eval : ∀ (a0 : T_api_Expr) (a1 : Int) (a2 : (List T_api_Sym)), Cv (fun k => c_r3_Eval k a0 a1 a2) (d_r3_Eval a0 a1 a2)) {c_r3_reckon : Nat → Int → Int → Int → Option (Int × Int)} {d_r3_reckon : Int → Int → Int → Option (Int × Int)} (h_r3_reckon : ∀ (a0 : Int) (a1 : Int) (a2 : Int), Cv (fun k => c_r3_reckon k a0 a1 a2) (d_r3_reckon a0 a1 a2)) {l_r3_Eval_L1 : Nat → r3_Eval_L1_A → Option (r3_Eval_L1_O0 ⊕ Unit)} {m_r3_Eval_L1 : r3_Eval_L1_A → Option (r3_Eval_L1_O0 ⊕ Unit)} (hl_r3_Eval_L1 : ∀ a, Cv (fun k => l_r3_Eval_L1 k a) (m_r3_Eval_L1 a)) (a0 : T_api_Expr) (a1 : Int) (a2 : (List T_api_Sym)) : Cv (fun k => r3_Eval_b (c_r3_Eval k) (c_r3_reckon k) (l_r3_Eval_L1 k) a0 a1 a2) (r3_Eval_b d_r3_Eval d_r3_reckon m_r3_Eval_L1 a0 a1 a2) := by
  unfold r3_Eval_b
  exact .cond (by exact .const _) (.cond (by exact .const _) (.cond (.bind (hl_r3_Eval_L1 _) fun x => .sum (fun o1 => by exact .const _) (fun o2 => by exact .const _) x) (.bind (.const (a0.L[(Int.toNat (0 : Int))]?)) fun e3 => .bind (h_r3_Eval _ _ _) fun r4 => .cond (by exact .const _) (.cond (by exact .const _) (.bind (.const (a0.L[(Int.toNat (1 : Int))]?)) fun e5 => .bind (h_r3_Eval _ _ _) fun r6 => .cond (by exact .const _) (.bind (h_r3_reckon _ _ _) fun r7 => by exact .const _))))))
def r3_Eval.s : Nat → T_api_Expr → Int → (List T_api_Sym) → Option (Int × Int)
  | 0, _, _, _ => none
  | k + 1, a0, a1, a2 => r3_Eval_b (fun a0 a1 a2 => r3_Eval.s k a0 a1 a2) (fun a0 a1 a2 => r3_reckon.s k a0 a1 a2) (r3_Eval_L1.s k) a0 a1 a2
termination_by structural k => k
theorem r3_Eval_all : ∀ (k : Nat), ∀ (a0 : T_api_Expr) (a1 : Int) (a2 : (List T_api_Sym)) (r : (Int × Int)), r3_Eval.s k a0 a1 a2 = some r → evalFn Tryd.prog G k 24 [.agg (C_api_Expr a0), .sc (.int .i64 a1), .sl (R_api_Sym a2)] [] = some (r3_Eval_e r)
  | 0 => fun _ _ _ _ h => (nomatch h)
  | k + 1 => by
    have i_r3_Eval := r3_Eval_all k
    exact fun a0 a1 a2 r h => fn_ok rfl (r3_Eval_t Tryd.prog (evalFn Tryd.prog G k) (fun a0 a1 a2 => r3_Eval.s k a0 a1 a2) (fun a0 a1 a2 => r3_reckon.s k a0 a1 a2) (r3_Eval_L1.s k) a0 a1 a2) (r3_Eval_n _ (fun a0 a1 a2 => r3_Eval.s k a0 a1 a2) (fun a0 a1 a2 => r3_reckon.s k a0 a1 a2) (r3_Eval_L1.s k) a0 a1 a2) (r3_Eval_k _ _ _ (fun a0 a1 a2 => r3_Eval.s k a0 a1 a2) (fun a0 a1 a2 => r3_reckon.s k a0 a1 a2) (r3_Eval_L1.s k) (i_r3_Eval) (r3_reckon.ok k) (r3_Eval_L1_ok _ k) a0 a1 a2) ((r3_Eval_d _ _ (fun a0 a1 a2 => r3_Eval.s k a0 a1 a2) (fun a0 a1 a2 => r3_reckon.s k a0 a1 a2) (r3_Eval_L1.s k) a0 a1 a2).trans h)
theorem r3_Eval.ok (k : Nat) : ∀ (a0 : T_api_Expr) (a1 : Int) (a2 : (List T_api_Sym)) (r : (Int × Int)), r3_Eval.s k a0 a1 a2 = some r → evalFn Tryd.prog G k 24 [.agg (C_api_Expr a0), .sc (.int .i64 a1), .sl (R_api_Sym a2)] [] = some (r3_Eval_e r) := (r3_Eval_all k)
theorem r3_Eval_mall : ∀ (k : Nat), (∀ (a0 : T_api_Expr) (a1 : Int) (a2 : (List T_api_Sym)), Le (r3_Eval.s k a0 a1 a2) (r3_Eval.s (k + 1) a0 a1 a2))
  | 0 => fun _ _ _ _ h => (nomatch h)
  | k + 1 => by
    have i_r3_Eval := r3_Eval_mall k
    exact fun a0 a1 a2 => r3_Eval_m (i_r3_Eval) (r3_reckon.mono k) (r3_Eval_L1.m (Nat.le_succ k)) a0 a1 a2
theorem r3_Eval.mono (k : Nat) : ∀ (a0 : T_api_Expr) (a1 : Int) (a2 : (List T_api_Sym)), Le (r3_Eval.s k a0 a1 a2) (r3_Eval.s (k + 1) a0 a1 a2) := (r3_Eval_mall k)
noncomputable def r3_Eval (a0 : T_api_Expr) (a1 : Int) (a2 : (List T_api_Sym)) : Option (Int × Int) := lim fun k => r3_Eval.s k a0 a1 a2
theorem r3_Eval.cv (a0 : T_api_Expr) (a1 : Int) (a2 : (List T_api_Sym)) : Cv (fun k => r3_Eval.s k a0 a1 a2) (r3_Eval a0 a1 a2) := .lim fun k => r3_Eval.mono k a0 a1 a2
noncomputable def r3_Eval_L1 : r3_Eval_L1_A → Option (r3_Eval_L1_O0 ⊕ Unit) := r3_Eval_L1.w 
theorem r3_Eval_L1.eq (a : r3_Eval_L1_A) : r3_Eval_L1 a = (r3_Eval_L1_b  a).bind (Sum.elim r3_Eval_L1 some) := loopW_eq _ _
theorem r3_Eval.eq (a0 : T_api_Expr) (a1 : Int) (a2 : (List T_api_Sym)) : r3_Eval a0 a1 a2 = r3_Eval_b r3_Eval r3_reckon r3_Eval_L1 a0 a1 a2 := Cv.uniq (r3_Eval.cv a0 a1 a2).shift (r3_Eval_c r3_Eval.cv r3_reckon.cv (r3_Eval_L1.cv) a0 a1 a2)
def w3_ExprEvals_e (r : Bool) : AV × Heap := (.sc (.bool r), [])
def w3_ExprEvals_b (c_w3_known : Option Bool) (c_w3_Few : (List T_w3_Raw) → Option Bool) (c_w3_One : (List T_w3_Raw) → Option T_api_Expr) (c_w3_Syms : (List Int) → Option (List T_api_Sym)) (c_w3_within : Int → Int → Option Int) (c_expr_Eval : T_api_Expr → Int → (List T_api_Sym) → Option (Int × Int)) (c_r3_Eval : T_api_Expr → Int → (List T_api_Sym) → Option (Int × Int)) (a0 : (List T_w3_Raw)) (a1 : Int) (a2 : (List Int)) : Option Bool := ((c_w3_known).bind fun (r1 : Bool) => (bif (!r1) then (some false) else ((c_w3_Few a0).bind fun (r2 : Bool) => (bif (!r2) then (some true) else ((c_w3_One a0).bind fun (r3 : T_api_Expr) => ((c_w3_Syms a2).bind fun (r4 : (List T_api_Sym)) => ((c_w3_within a1 (1048577 : Int)).bind fun (r5 : Int) => ((c_expr_Eval r3 r5 r4).bind fun (r6 : (Int × Int)) => ((c_r3_Eval r3 r5 r4).bind fun (r7 : (Int × Int)) => (bif (r6.1 == r7.1) then (some (r6.2 == r7.2)) else (some false)))))))))))
def w3_ExprEvals_t (P : Program) (call : CallF) (c_w3_known : Option Bool) (c_w3_Few : (List T_w3_Raw) → Option Bool) (c_w3_One : (List T_w3_Raw) → Option T_api_Expr) (c_w3_Syms : (List Int) → Option (List T_api_Sym)) (c_w3_within : Int → Int → Option Int) (c_expr_Eval : T_api_Expr → Int → (List T_api_Sym) → Option (Int × Int)) (c_r3_Eval : T_api_Expr → Int → (List T_api_Sym) → Option (Int × Int)) (a0 : (List T_w3_Raw)) (a1 : Int) (a2 : (List Int)) : Tr Bool (AV × Heap) := (.call (call 14 [] []) (c_w3_known) w3_known_e fun (r1 : Bool) => (.as (!r1) (rt w3_ExprEvals_e false) (.call (call 15 [.sl (R_w3_Raw a0)] []) (c_w3_Few a0) w3_Few_e fun (r2 : Bool) => (.as (!r2) (rt w3_ExprEvals_e true) (.call (call 17 [.sl (R_w3_Raw a0)] []) (c_w3_One a0) w3_One_e fun (r3 : T_api_Expr) => (.call (call 22 [.sl (R_i64 a2)] []) (c_w3_Syms a2) w3_Syms_e fun (r4 : (List T_api_Sym)) => (.call (call 18 [.sc (.int .i64 a1), .sc (.int .i64 (1048577 : Int))] []) (c_w3_within a1 (1048577 : Int)) w3_within_e fun (r5 : Int) => (.call (call 23 [.agg (C_api_Expr r3), .sc (.int .i64 r5), .sl (R_api_Sym r4)] []) (c_expr_Eval r3 r5 r4) expr_Eval_e fun (r6 : (Int × Int)) => (.call (call 24 [.agg (C_api_Expr r3), .sc (.int .i64 r5), .sl (R_api_Sym r4)] []) (c_r3_Eval r3 r5 r4) r3_Eval_e fun (r7 : (Int × Int)) => (.as (r6.1 == r7.1) (yesN 3 (r6.1 == r7.1) (rt w3_ExprEvals_e (r6.2 == r7.2))) (noN 3 (r6.1 == r7.1) (rt w3_ExprEvals_e false))))))))))))
theorem w3_ExprEvals_d (P : Program) (call : CallF) (c_w3_known : Option Bool) (c_w3_Few : (List T_w3_Raw) → Option Bool) (c_w3_One : (List T_w3_Raw) → Option T_api_Expr) (c_w3_Syms : (List Int) → Option (List T_api_Sym)) (c_w3_within : Int → Int → Option Int) (c_expr_Eval : T_api_Expr → Int → (List T_api_Sym) → Option (Int × Int)) (c_r3_Eval : T_api_Expr → Int → (List T_api_Sym) → Option (Int × Int)) (a0 : (List T_w3_Raw)) (a1 : Int) (a2 : (List Int)) : (w3_ExprEvals_t P call c_w3_known c_w3_Few c_w3_One c_w3_Syms c_w3_within c_expr_Eval c_r3_Eval a0 a1 a2).den = w3_ExprEvals_b c_w3_known c_w3_Few c_w3_One c_w3_Syms c_w3_within c_expr_Eval c_r3_Eval a0 a1 a2 := rfl
theorem w3_ExprEvals_n (call : CallF) (c_w3_known : Option Bool) (c_w3_Few : (List T_w3_Raw) → Option Bool) (c_w3_One : (List T_w3_Raw) → Option T_api_Expr) (c_w3_Syms : (List Int) → Option (List T_api_Sym)) (c_w3_within : Int → Int → Option Int) (c_expr_Eval : T_api_Expr → Int → (List T_api_Sym) → Option (Int × Int)) (c_r3_Eval : T_api_Expr → Int → (List T_api_Sym) → Option (Int × Int)) (a0 : (List T_w3_Raw)) (a1 : Int) (a2 : (List Int)) : (w3_ExprEvals_t Tryd.prog call c_w3_known c_w3_Few c_w3_One c_w3_Syms c_w3_within c_expr_Eval c_r3_Eval a0 a1 a2).norm (bodyT Tryd.prog call G 4 [.sl (R_w3_Raw a0), .sc (.int .i64 a1), .sl (R_i64 a2)] []) = w3_ExprEvals_t Tryd.prog call c_w3_known c_w3_Few c_w3_One c_w3_Syms c_w3_within c_expr_Eval c_r3_Eval a0 a1 a2 := by kernel_rfl
theorem w3_ExprEvals_k (P : Program) (call : CallF) (lp : Loops) (c_w3_known : Option Bool) (c_w3_Few : (List T_w3_Raw) → Option Bool) (c_w3_One : (List T_w3_Raw) → Option T_api_Expr) (c_w3_Syms : (List Int) → Option (List T_api_Sym)) (c_w3_within : Int → Int → Option Int) (c_expr_Eval : T_api_Expr → Int → (List T_api_Sym) → Option (Int × Int)) (c_r3_Eval : T_api_Expr → Int → (List T_api_Sym) → Option (Int × Int)) (hc_w3_known : ∀  (r : Bool), c_w3_known = some r → (call 14 [] []) = some (w3_known_e r)) (hc_w3_Few : ∀ (a0 : (List T_w3_Raw)) (r : Bool), c_w3_Few a0 = some r → (call 15 [.sl (R_w3_Raw a0)] []) = some (w3_Few_e r)) (hc_w3_One : ∀ (a0 : (List T_w3_Raw)) (r : T_api_Expr), c_w3_One a0 = some r → (call 17 [.sl (R_w3_Raw a0)] []) = some (w3_One_e r)) (hc_w3_Syms : ∀ (a0 : (List Int)) (r : (List T_api_Sym)), c_w3_Syms a0 = some r → (call 22 [.sl (R_i64 a0)] []) = some (w3_Syms_e r)) (hc_w3_within : ∀ (a0 : Int) (a1 : Int) (r : Int), c_w3_within a0 a1 = some r → (call 18 [.sc (.int .i64 a0), .sc (.int .i64 a1)] []) = some (w3_within_e r)) (hc_expr_Eval : ∀ (a0 : T_api_Expr) (a1 : Int) (a2 : (List T_api_Sym)) (r : (Int × Int)), c_expr_Eval a0 a1 a2 = some r → (call 23 [.agg (C_api_Expr a0), .sc (.int .i64 a1), .sl (R_api_Sym a2)] []) = some (expr_Eval_e r)) (hc_r3_Eval : ∀ (a0 : T_api_Expr) (a1 : Int) (a2 : (List T_api_Sym)) (r : (Int × Int)), c_r3_Eval a0 a1 a2 = some r → (call 24 [.agg (C_api_Expr a0), .sc (.int .i64 a1), .sl (R_api_Sym a2)] []) = some (r3_Eval_e r)) (a0 : (List T_w3_Raw)) (a1 : Int) (a2 : (List Int)) : (w3_ExprEvals_t P call c_w3_known c_w3_Few c_w3_One c_w3_Syms c_w3_within c_expr_Eval c_r3_Eval a0 a1 a2).ok lp w3_ExprEvals_e := fun r1 hr1 => ⟨hc_w3_known _ hr1, ⟨rfl, fun h0 => rfl, fun h0 => fun r2 hr2 => ⟨hc_w3_Few _ _ hr2, ⟨rfl, fun h1 => rfl, fun h1 => fun r3 hr3 => ⟨hc_w3_One _ _ hr3, fun r4 hr4 => ⟨hc_w3_Syms _ _ hr4, fun r5 hr5 => ⟨hc_w3_within _ _ _ hr5, fun r6 hr6 => ⟨hc_expr_Eval _ _ _ _ hr6, fun r7 hr7 => ⟨hc_r3_Eval _ _ _ _ hr7, ⟨rfl, fun h2 => yesN_ok 3 (h2) (rfl), fun h2 => noN_ok 3 (h2) (rfl)⟩⟩⟩⟩⟩⟩⟩⟩⟩⟩
theorem w3_ExprEvals_m {c_w3_known d_w3_known : Option Bool} (h_w3_known : Le (c_w3_known ) (d_w3_known )) {c_w3_Few d_w3_Few : (List T_w3_Raw) → Option Bool} (h_w3_Few : ∀ (a0 : (List T_w3_Raw)), Le (c_w3_Few a0) (d_w3_Few a0)) {c_w3_One d_w3_One : (List T_w3_Raw) → Option T_api_Expr} (h_w3_One : ∀ (a0 : (List T_w3_Raw)), Le (c_w3_One a0) (d_w3_One a0)) {c_w3_Syms d_w3_Syms : (List Int) → Option (List T_api_Sym)} (h_w3_Syms : ∀ (a0 : (List Int)), Le (c_w3_Syms a0) (d_w3_Syms a0)) {c_w3_within d_w3_within : Int → Int → Option Int} (h_w3_within : ∀ (a0 : Int) (a1 : Int), Le (c_w3_within a0 a1) (d_w3_within a0 a1)) {c_expr_Eval d_expr_Eval : T_api_Expr → Int → (List T_api_Sym) → Option (Int × Int)} (h_expr_Eval : ∀ (a0 : T_api_Expr) (a1 : Int) (a2 : (List T_api_Sym)), Le (c_expr_Eval a0 a1 a2) (d_expr_Eval a0 a1 a2)) {c_r3_Eval d_r3_Eval : T_api_Expr → Int → (List T_api_Sym) → Option (Int × Int)} (h_r3_Eval : ∀ (a0 : T_api_Expr) (a1 : Int) (a2 : (List T_api_Sym)), Le (c_r3_Eval a0 a1 a2) (d_r3_Eval a0 a1 a2)) (a0 : (List T_w3_Raw)) (a1 : Int) (a2 : (List Int)) : Le (w3_ExprEvals_b c_w3_known c_w3_Few c_w3_One c_w3_Syms c_w3_within c_expr_Eval c_r3_Eval a0 a1 a2) (w3_ExprEvals_b d_w3_known d_w3_Few d_w3_One d_w3_Syms d_w3_within d_expr_Eval d_r3_Eval a0 a1 a2) := by
  unfold w3_ExprEvals_b
  exact .bind (h_w3_known) fun r1 => .cond (.refl _) (.bind (h_w3_Few _) fun r2 => .cond (.refl _) (.bind (h_w3_One _) fun r3 => .bind (h_w3_Syms _) fun r4 => .bind (h_w3_within _ _) fun r5 => .bind (h_expr_Eval _ _ _) fun r6 => .bind (h_r3_Eval _ _ _) fun r7 => .refl _))
theorem w3_ExprEvals_c {c_w3_known : Nat → Option Bool} {d_w3_known : Option Bool} (h_w3_known : Cv (fun k => c_w3_known k ) (d_w3_known )) {c_w3_Few : Nat → (List T_w3_Raw) → Option Bool} {d_w3_Few : (List T_w3_Raw) → Option Bool} (h_w3_Few : ∀ (a0 : (List T_w3_Raw)), Cv (fun k => c_w3_Few k a0) (d_w3_Few a0)) {c_w3_One : Nat → (List T_w3_Raw) → Option T_api_Expr} {d_w3_One : (List T_w3_Raw) → Option T_api_Expr} (h_w3_One : ∀ (a0 : (List T_w3_Raw)), Cv (fun k => c_w3_One k a0) (d_w3_One a0)) {c_w3_Syms : Nat → (List Int) → Option (List T_api_Sym)} {d_w3_Syms : (List Int) → Option (List T_api_Sym)} (h_w3_Syms : ∀ (a0 : (List Int)), Cv (fun k => c_w3_Syms k a0) (d_w3_Syms a0)) {c_w3_within : Nat → Int → Int → Option Int} {d_w3_within : Int → Int → Option Int} (h_w3_within : ∀ (a0 : Int) (a1 : Int), Cv (fun k => c_w3_within k a0 a1) (d_w3_within a0 a1)) {c_expr_Eval : Nat → T_api_Expr → Int → (List T_api_Sym) → Option (Int × Int)} {d_expr_Eval : T_api_Expr → Int → (List T_api_Sym) → Option (Int × Int)} (h_expr_Eval : ∀ (a0 : T_api_Expr) (a1 : Int) (a2 : (List T_api_Sym)), Cv (fun k => c_expr_Eval k a0 a1 a2) (d_expr_Eval a0 a1 a2)) {c_r3_Eval : Nat → T_api_Expr → Int → (List T_api_Sym) → Option (Int × Int)} {d_r3_Eval : T_api_Expr → Int → (List T_api_Sym) → Option (Int × Int)} (h_r3_Eval : ∀ (a0 : T_api_Expr) (a1 : Int) (a2 : (List T_api_Sym)), Cv (fun k => c_r3_Eval k a0 a1 a2) (d_r3_Eval a0 a1 a2)) (a0 : (List T_w3_Raw)) (a1 : Int) (a2 : (List Int)) : Cv (fun k => w3_ExprEvals_b (c_w3_known k) (c_w3_Few k) (c_w3_One k) (c_w3_Syms k) (c_w3_within k) (c_expr_Eval k) (c_r3_Eval k) a0 a1 a2) (w3_ExprEvals_b d_w3_known d_w3_Few d_w3_One d_w3_Syms d_w3_within d_expr_Eval d_r3_Eval a0 a1 a2) := by
  unfold w3_ExprEvals_b
  exact .bind (h_w3_known) fun r1 => .cond (by exact .const _) (.bind (h_w3_Few _) fun r2 => .cond (by exact .const _) (.bind (h_w3_One _) fun r3 => .bind (h_w3_Syms _) fun r4 => .bind (h_w3_within _ _) fun r5 => .bind (h_expr_Eval _ _ _) fun r6 => .bind (h_r3_Eval _ _ _) fun r7 => by exact .const _))
def w3_ExprEvals.s : Nat → (List T_w3_Raw) → Int → (List Int) → Option Bool
  | 0, _, _, _ => none
  | k + 1, a0, a1, a2 => w3_ExprEvals_b (w3_known.s k) (fun a0 => w3_Few.s k a0) (fun a0 => w3_One.s k a0) (fun a0 => w3_Syms.s k a0) (fun a0 a1 => w3_within.s k a0 a1) (fun a0 a1 a2 => expr_Eval.s k a0 a1 a2) (fun a0 a1 a2 => r3_Eval.s k a0 a1 a2) a0 a1 a2
theorem w3_ExprEvals.ok : ∀ (k : Nat), ∀ (a0 : (List T_w3_Raw)) (a1 : Int) (a2 : (List Int)) (r : Bool), w3_ExprEvals.s k a0 a1 a2 = some r → evalFn Tryd.prog G k 4 [.sl (R_w3_Raw a0), .sc (.int .i64 a1), .sl (R_i64 a2)] [] = some (w3_ExprEvals_e r)
  | 0, _, _, _, _, h => (nomatch h)
  | k + 1, a0, a1, a2, r, h => fn_ok rfl (w3_ExprEvals_t Tryd.prog (evalFn Tryd.prog G k) (w3_known.s k) (fun a0 => w3_Few.s k a0) (fun a0 => w3_One.s k a0) (fun a0 => w3_Syms.s k a0) (fun a0 a1 => w3_within.s k a0 a1) (fun a0 a1 a2 => expr_Eval.s k a0 a1 a2) (fun a0 a1 a2 => r3_Eval.s k a0 a1 a2) a0 a1 a2) (w3_ExprEvals_n _ (w3_known.s k) (fun a0 => w3_Few.s k a0) (fun a0 => w3_One.s k a0) (fun a0 => w3_Syms.s k a0) (fun a0 a1 => w3_within.s k a0 a1) (fun a0 a1 a2 => expr_Eval.s k a0 a1 a2) (fun a0 a1 a2 => r3_Eval.s k a0 a1 a2) a0 a1 a2) (w3_ExprEvals_k _ _ _ (w3_known.s k) (fun a0 => w3_Few.s k a0) (fun a0 => w3_One.s k a0) (fun a0 => w3_Syms.s k a0) (fun a0 a1 => w3_within.s k a0 a1) (fun a0 a1 a2 => expr_Eval.s k a0 a1 a2) (fun a0 a1 a2 => r3_Eval.s k a0 a1 a2) (w3_known.ok k) (w3_Few.ok k) (w3_One.ok k) (w3_Syms.ok k) (w3_within.ok k) (expr_Eval.ok k) (r3_Eval.ok k)  a0 a1 a2) ((w3_ExprEvals_d _ _ (w3_known.s k) (fun a0 => w3_Few.s k a0) (fun a0 => w3_One.s k a0) (fun a0 => w3_Syms.s k a0) (fun a0 a1 => w3_within.s k a0 a1) (fun a0 a1 a2 => expr_Eval.s k a0 a1 a2) (fun a0 a1 a2 => r3_Eval.s k a0 a1 a2) a0 a1 a2).trans h)
theorem w3_ExprEvals.mono : ∀ (k : Nat) (a0 : (List T_w3_Raw)) (a1 : Int) (a2 : (List Int)), Le (w3_ExprEvals.s k a0 a1 a2) (w3_ExprEvals.s (k + 1) a0 a1 a2)
  | 0, _, _, _ => fun r h => (nomatch h)
  | k + 1, a0, a1, a2 => w3_ExprEvals_m (w3_known.mono k) (w3_Few.mono k) (w3_One.mono k) (w3_Syms.mono k) (w3_within.mono k) (expr_Eval.mono k) (r3_Eval.mono k) a0 a1 a2
noncomputable def w3_ExprEvals (a0 : (List T_w3_Raw)) (a1 : Int) (a2 : (List Int)) : Option Bool := lim fun k => w3_ExprEvals.s k a0 a1 a2
theorem w3_ExprEvals.cv (a0 : (List T_w3_Raw)) (a1 : Int) (a2 : (List Int)) : Cv (fun k => w3_ExprEvals.s k a0 a1 a2) (w3_ExprEvals a0 a1 a2) := .lim fun k => w3_ExprEvals.mono k a0 a1 a2
theorem w3_ExprEvals.eq (a0 : (List T_w3_Raw)) (a1 : Int) (a2 : (List Int)) : w3_ExprEvals a0 a1 a2 = w3_ExprEvals_b w3_known w3_Few w3_One w3_Syms w3_within expr_Eval r3_Eval a0 a1 a2 := Cv.uniq (w3_ExprEvals.cv a0 a1 a2).shift (w3_ExprEvals_c w3_known.cv w3_Few.cv w3_One.cv w3_Syms.cv w3_within.cv expr_Eval.cv r3_Eval.cv a0 a1 a2)
theorem w3_ExprEvals.run (a0 : (List T_w3_Raw)) (a1 : Int) (a2 : (List Int)) {r : Bool} (h : w3_ExprEvals a0 a1 a2 = some r) : ∃ k, evalFn Tryd.prog G k 4 [.sl (R_w3_Raw a0), .sc (.int .i64 a1), .sl (R_i64 a2)] [] = some (w3_ExprEvals_e r) :=
  let ⟨k, hk⟩ := ((w3_ExprEvals.cv a0 a1 a2).2 r).1 h
  ⟨k, w3_ExprEvals.ok k a0 a1 a2 r hk⟩
def slices_Index_e (r : Int) : AV × Heap := (.sc (.int .i64 r), [])
structure slices_Index_L1_A where
  x0 : (List ByteArray)
  x1 : ByteArray
  x7 : Int
  x8 : Int
def slices_Index_L1_s (a : slices_Index_L1_A) : St := { n := 19, nx := 0, env := [(0, .sl (R_string a.x0)), (1, .sc (.string a.x1)), (7, .sc (.int .i64 a.x7)), (8, .sc (.int .i64 a.x8))], heap := [] }
def slices_Index_L1_e0 (a : Int) : Ex × St := (.ret, { n := 19, nx := 0, env := [(4, .sc (.int .i64 a))], heap := [] })
def slices_Index_L1_e1 (a : Unit) : Ex × St := (.exit 0, { n := 19, nx := 0, env := [], heap := [] })
def slices_Index_L1_e (a : (Int ⊕ Unit)) : Ex × St := Sum.elim slices_Index_L1_e0 slices_Index_L1_e1 a
def slices_Index_L1_b  (a : slices_Index_L1_A) : Option (slices_Index_L1_A ⊕ (Int ⊕ Unit)) := (bif (decide (a.x8 < a.x7)) then (bif (decide (0 ≤ a.x8)) then ((a.x0[(Int.toNat a.x8)]?).bind fun (e1 : ByteArray) => (bif (eqS a.x1 e1) then (some (.inr (.inl a.x8))) else (some (.inl (slices_Index_L1_A.mk a.x0 a.x1 a.x7 (w64 (a.x8 + (1 : Int)))))))) else none) else (some (.inr (.inr ()))))
def slices_Index_L1_t (P : Program) (call : CallF)  (a : slices_Index_L1_A) : Tr (slices_Index_L1_A ⊕ (Int ⊕ Unit)) (Ex × St) := (.as (decide (a.x8 < a.x7)) (.as (decide (0 ≤ a.x8)) (.row ((R_string a.x0)[(Int.toNat a.x8)]?) (a.x0[(Int.toNat a.x8)]?) C_string fun (e1 : ByteArray) => (.as (eqS a.x1 e1) (rx slices_Index_L1_e (.inl a.x8)) (lf slices_Index_L1_s (slices_Index_L1_A.mk a.x0 a.x1 a.x7 (w64 (a.x8 + (1 : Int))))))) .fail) (rx slices_Index_L1_e (.inr ())))
theorem slices_Index_L1_d (P : Program) (call : CallF)  (a : slices_Index_L1_A) : (slices_Index_L1_t P call  a).den = slices_Index_L1_b  a := rfl
theorem slices_Index_L1_n (call : CallF)  (a : slices_Index_L1_A) : (slices_Index_L1_t Tryd.prog call  a).norm (roundT Tryd.prog G.kd call 0 (G.an 62) (loopAt Tryd.prog 62 2) (slices_Index_L1_s a)) = slices_Index_L1_t Tryd.prog call  a := by kernel_rfl
theorem slices_Index_L1_k (P : Program) (call : CallF) (lp : Loops)   (a : slices_Index_L1_A) : (slices_Index_L1_t P call  a).ok lp (Sum.elim (fun a => (.norm, slices_Index_L1_s a)) slices_Index_L1_e) := ⟨rfl, fun h0 => ⟨rfl, fun h1 => fun e1 he1 => ⟨R_string_get he1, ⟨rfl, fun h2 => rfl, fun h2 => rfl⟩⟩, fun h1 => trivial⟩, fun h0 => rfl⟩
def slices_Index_L1.s (k : Nat)  : slices_Index_L1_A → Option (Int ⊕ Unit) := iter (slices_Index_L1_b ) k
theorem slices_Index_L1_ok (call : CallF) (k : Nat)   (a : slices_Index_L1_A) (r : (Int ⊕ Unit)) (h : slices_Index_L1.s k  a = some r) : loopsF Tryd.prog G.kd call 0 (G.an 62) k (loopAt Tryd.prog 62 2) (slices_Index_L1_s a) = some (slices_Index_L1_e r) :=
  loop_ok (fun a => slices_Index_L1_t Tryd.prog call  a) (fun a => slices_Index_L1_d _ call  a) (fun a => slices_Index_L1_n call  a) (fun a => slices_Index_L1_k _ call _   a) (fun r => by cases r <;> nofun) h
theorem slices_Index_L1.m {j k : Nat} (hj : j ≤ k)    (a : slices_Index_L1_A) : Le (slices_Index_L1.s j  a) (slices_Index_L1.s k  a) := Le.iter (fun a => .refl _) hj a
noncomputable def slices_Index_L1.w  : slices_Index_L1_A → Option (Int ⊕ Unit) := loopW (slices_Index_L1_b )
theorem slices_Index_L1.cv    (a : slices_Index_L1_A) : Cv (fun k => slices_Index_L1.s k  a) (slices_Index_L1.w  a) := Cv.iter (fun a => by exact .const _) a
def slices_Index_b (l_slices_Index_L1 : slices_Index_L1_A → Option (Int ⊕ Unit)) (a0 : (List ByteArray)) (a1 : ByteArray) : Option Int := ((l_slices_Index_L1 (slices_Index_L1_A.mk a0 a1 (((a0.length) : Nat) : Int) (0 : Int))).bind fun x => Sum.elim (fun (o1 : Int) => (some o1)) (fun (o2 : Unit) => (some (-1 : Int))) x)
def slices_Index_t (P : Program) (call : CallF) (l_slices_Index_L1 : slices_Index_L1_A → Option (Int ⊕ Unit)) (a0 : (List ByteArray)) (a1 : ByteArray) : Tr Int (AV × Heap) := (.num ((R_string a0).length) (a0.length) (.loop2 (loopAt P 62 2) (slices_Index_L1_s (slices_Index_L1_A.mk a0 a1 (((a0.length) : Nat) : Int) (0 : Int))) (l_slices_Index_L1 (slices_Index_L1_A.mk a0 a1 (((a0.length) : Nat) : Int) (0 : Int))) slices_Index_L1_e0 slices_Index_L1_e1 (fun (o1 : Int) => (rt slices_Index_e o1)) (fun (o2 : Unit) => (rt slices_Index_e (-1 : Int)))))
theorem slices_Index_d (P : Program) (call : CallF) (l_slices_Index_L1 : slices_Index_L1_A → Option (Int ⊕ Unit)) (a0 : (List ByteArray)) (a1 : ByteArray) : (slices_Index_t P call l_slices_Index_L1 a0 a1).den = slices_Index_b l_slices_Index_L1 a0 a1 := rfl
theorem slices_Index_n (call : CallF) (l_slices_Index_L1 : slices_Index_L1_A → Option (Int ⊕ Unit)) (a0 : (List ByteArray)) (a1 : ByteArray) : (slices_Index_t Tryd.prog call l_slices_Index_L1 a0 a1).norm (bodyT Tryd.prog call G 62 [.sl (R_string a0), .sc (.string a1)] []) = slices_Index_t Tryd.prog call l_slices_Index_L1 a0 a1 := by kernel_rfl
theorem slices_Index_k (P : Program) (call : CallF) (lp : Loops) (l_slices_Index_L1 : slices_Index_L1_A → Option (Int ⊕ Unit)) (hl_slices_Index_L1 : ∀ (a : slices_Index_L1_A) (r : (Int ⊕ Unit)), l_slices_Index_L1 a = some r → lp (loopAt P 62 2) (slices_Index_L1_s a) = some (slices_Index_L1_e r)) (a0 : (List ByteArray)) (a1 : ByteArray) : (slices_Index_t P call l_slices_Index_L1 a0 a1).ok lp slices_Index_e := ⟨(R_string_len _), ⟨fun o1 ho1 => ⟨hl_slices_Index_L1 _ (.inl _) ho1, rfl⟩, fun o2 ho2 => ⟨hl_slices_Index_L1 _ (.inr _) ho2, rfl⟩⟩⟩
theorem slices_Index_m {l_slices_Index_L1 m_slices_Index_L1 : slices_Index_L1_A → Option (Int ⊕ Unit)} (hl_slices_Index_L1 : ∀ a, Le (l_slices_Index_L1 a) (m_slices_Index_L1 a)) (a0 : (List ByteArray)) (a1 : ByteArray) : Le (slices_Index_b l_slices_Index_L1 a0 a1) (slices_Index_b m_slices_Index_L1 a0 a1) := by
  unfold slices_Index_b
  exact .bind (hl_slices_Index_L1 _) fun x => .sum (fun o1 => .refl _) (fun o2 => .refl _) x
theorem slices_Index_c {l_slices_Index_L1 : Nat → slices_Index_L1_A → Option (Int ⊕ Unit)} {m_slices_Index_L1 : slices_Index_L1_A → Option (Int ⊕ Unit)} (hl_slices_Index_L1 : ∀ a, Cv (fun k => l_slices_Index_L1 k a) (m_slices_Index_L1 a)) (a0 : (List ByteArray)) (a1 : ByteArray) : Cv (fun k => slices_Index_b (l_slices_Index_L1 k) a0 a1) (slices_Index_b m_slices_Index_L1 a0 a1) := by
  unfold slices_Index_b
  exact .bind (hl_slices_Index_L1 _) fun x => .sum (fun o1 => by exact .const _) (fun o2 => by exact .const _) x
def slices_Index.s : Nat → (List ByteArray) → ByteArray → Option Int
  | 0, _, _ => none
  | k + 1, a0, a1 => slices_Index_b (slices_Index_L1.s k) a0 a1
theorem slices_Index.ok : ∀ (k : Nat), ∀ (a0 : (List ByteArray)) (a1 : ByteArray) (r : Int), slices_Index.s k a0 a1 = some r → evalFn Tryd.prog G k 62 [.sl (R_string a0), .sc (.string a1)] [] = some (slices_Index_e r)
  | 0, _, _, _, h => (nomatch h)
  | k + 1, a0, a1, r, h => fn_ok rfl (slices_Index_t Tryd.prog (evalFn Tryd.prog G k) (slices_Index_L1.s k) a0 a1) (slices_Index_n _ (slices_Index_L1.s k) a0 a1) (slices_Index_k _ _ _ (slices_Index_L1.s k)  (slices_Index_L1_ok _ k) a0 a1) ((slices_Index_d _ _ (slices_Index_L1.s k) a0 a1).trans h)
theorem slices_Index.mono : ∀ (k : Nat) (a0 : (List ByteArray)) (a1 : ByteArray), Le (slices_Index.s k a0 a1) (slices_Index.s (k + 1) a0 a1)
  | 0, _, _ => fun r h => (nomatch h)
  | k + 1, a0, a1 => slices_Index_m (slices_Index_L1.m (Nat.le_succ k)) a0 a1
noncomputable def slices_Index (a0 : (List ByteArray)) (a1 : ByteArray) : Option Int := lim fun k => slices_Index.s k a0 a1
theorem slices_Index.cv (a0 : (List ByteArray)) (a1 : ByteArray) : Cv (fun k => slices_Index.s k a0 a1) (slices_Index a0 a1) := .lim fun k => slices_Index.mono k a0 a1
noncomputable def slices_Index_L1 : slices_Index_L1_A → Option (Int ⊕ Unit) := slices_Index_L1.w 
theorem slices_Index_L1.eq (a : slices_Index_L1_A) : slices_Index_L1 a = (slices_Index_L1_b  a).bind (Sum.elim slices_Index_L1 some) := loopW_eq _ _
theorem slices_Index.eq (a0 : (List ByteArray)) (a1 : ByteArray) : slices_Index a0 a1 = slices_Index_b slices_Index_L1 a0 a1 := Cv.uniq (slices_Index.cv a0 a1).shift (slices_Index_c (slices_Index_L1.cv) a0 a1)
def slices_Contains_e (r : Bool) : AV × Heap := (.sc (.bool r), [])
def slices_Contains_b (c_slices_Index : (List ByteArray) → ByteArray → Option Int) (a0 : (List ByteArray)) (a1 : ByteArray) : Option Bool := ((c_slices_Index a0 a1).bind fun (r1 : Int) => (some (decide (r1 ≥ (0 : Int)))))
def slices_Contains_t (P : Program) (call : CallF) (c_slices_Index : (List ByteArray) → ByteArray → Option Int) (a0 : (List ByteArray)) (a1 : ByteArray) : Tr Bool (AV × Heap) := (.call (call 62 [.sl (R_string a0), .sc (.string a1)] []) (c_slices_Index a0 a1) slices_Index_e fun (r1 : Int) => (rt slices_Contains_e (decide (r1 ≥ (0 : Int)))))
theorem slices_Contains_d (P : Program) (call : CallF) (c_slices_Index : (List ByteArray) → ByteArray → Option Int) (a0 : (List ByteArray)) (a1 : ByteArray) : (slices_Contains_t P call c_slices_Index a0 a1).den = slices_Contains_b c_slices_Index a0 a1 := rfl
theorem slices_Contains_n (call : CallF) (c_slices_Index : (List ByteArray) → ByteArray → Option Int) (a0 : (List ByteArray)) (a1 : ByteArray) : (slices_Contains_t Tryd.prog call c_slices_Index a0 a1).norm (bodyT Tryd.prog call G 47 [.sl (R_string a0), .sc (.string a1)] []) = slices_Contains_t Tryd.prog call c_slices_Index a0 a1 := by kernel_rfl
theorem slices_Contains_k (P : Program) (call : CallF) (lp : Loops) (c_slices_Index : (List ByteArray) → ByteArray → Option Int) (hc_slices_Index : ∀ (a0 : (List ByteArray)) (a1 : ByteArray) (r : Int), c_slices_Index a0 a1 = some r → (call 62 [.sl (R_string a0), .sc (.string a1)] []) = some (slices_Index_e r)) (a0 : (List ByteArray)) (a1 : ByteArray) : (slices_Contains_t P call c_slices_Index a0 a1).ok lp slices_Contains_e := fun r1 hr1 => ⟨hc_slices_Index _ _ _ hr1, rfl⟩
theorem slices_Contains_m {c_slices_Index d_slices_Index : (List ByteArray) → ByteArray → Option Int} (h_slices_Index : ∀ (a0 : (List ByteArray)) (a1 : ByteArray), Le (c_slices_Index a0 a1) (d_slices_Index a0 a1)) (a0 : (List ByteArray)) (a1 : ByteArray) : Le (slices_Contains_b c_slices_Index a0 a1) (slices_Contains_b d_slices_Index a0 a1) := by
  unfold slices_Contains_b
  exact .bind (h_slices_Index _ _) fun r1 => .refl _
theorem slices_Contains_c {c_slices_Index : Nat → (List ByteArray) → ByteArray → Option Int} {d_slices_Index : (List ByteArray) → ByteArray → Option Int} (h_slices_Index : ∀ (a0 : (List ByteArray)) (a1 : ByteArray), Cv (fun k => c_slices_Index k a0 a1) (d_slices_Index a0 a1)) (a0 : (List ByteArray)) (a1 : ByteArray) : Cv (fun k => slices_Contains_b (c_slices_Index k) a0 a1) (slices_Contains_b d_slices_Index a0 a1) := by
  unfold slices_Contains_b
  exact .bind (h_slices_Index _ _) fun r1 => by exact .const _
def slices_Contains.s : Nat → (List ByteArray) → ByteArray → Option Bool
  | 0, _, _ => none
  | k + 1, a0, a1 => slices_Contains_b (fun a0 a1 => slices_Index.s k a0 a1) a0 a1
theorem slices_Contains.ok : ∀ (k : Nat), ∀ (a0 : (List ByteArray)) (a1 : ByteArray) (r : Bool), slices_Contains.s k a0 a1 = some r → evalFn Tryd.prog G k 47 [.sl (R_string a0), .sc (.string a1)] [] = some (slices_Contains_e r)
  | 0, _, _, _, h => (nomatch h)
  | k + 1, a0, a1, r, h => fn_ok rfl (slices_Contains_t Tryd.prog (evalFn Tryd.prog G k) (fun a0 a1 => slices_Index.s k a0 a1) a0 a1) (slices_Contains_n _ (fun a0 a1 => slices_Index.s k a0 a1) a0 a1) (slices_Contains_k _ _ _ (fun a0 a1 => slices_Index.s k a0 a1) (slices_Index.ok k)  a0 a1) ((slices_Contains_d _ _ (fun a0 a1 => slices_Index.s k a0 a1) a0 a1).trans h)
theorem slices_Contains.mono : ∀ (k : Nat) (a0 : (List ByteArray)) (a1 : ByteArray), Le (slices_Contains.s k a0 a1) (slices_Contains.s (k + 1) a0 a1)
  | 0, _, _ => fun r h => (nomatch h)
  | k + 1, a0, a1 => slices_Contains_m (slices_Index.mono k) a0 a1
noncomputable def slices_Contains (a0 : (List ByteArray)) (a1 : ByteArray) : Option Bool := lim fun k => slices_Contains.s k a0 a1
theorem slices_Contains.cv (a0 : (List ByteArray)) (a1 : ByteArray) : Cv (fun k => slices_Contains.s k a0 a1) (slices_Contains a0 a1) := .lim fun k => slices_Contains.mono k a0 a1
theorem slices_Contains.eq (a0 : (List ByteArray)) (a1 : ByteArray) : slices_Contains a0 a1 = slices_Contains_b slices_Index a0 a1 := Cv.uniq (slices_Contains.cv a0 a1).shift (slices_Contains_c slices_Index.cv a0 a1)
def slices_Clone_e (r : (List ByteArray)) : AV × Heap := (.sl (R_string r), [])
def slices_Clone.s : Nat → (List ByteArray) → Option (List ByteArray)
  | 0, _ => none
  | _ + 1, a0 => cloneS a0
theorem slices_Clone.ok : ∀ (k : Nat), ∀ (a0 : (List ByteArray)) (r : (List ByteArray)), slices_Clone.s k a0 = some r → evalFn Tryd.prog G k 48 [.sl (R_string a0)] [] = some (slices_Clone_e r)
  | 0, _, _, h => (nomatch h)
  | k + 1, a0, r, h => clone_ok h
noncomputable def slices_Clone (a0 : (List ByteArray)) : Option (List ByteArray) := cloneS a0
theorem slices_Clone.mono (k : Nat) (a0 : (List ByteArray)) : Le (slices_Clone.s k a0) (slices_Clone.s (k + 1) a0) := by
  cases k with
  | zero => exact fun r h => nomatch h
  | succ k => exact Le.refl _
theorem slices_Clone.cv (a0 : (List ByteArray)) : Cv (fun k => slices_Clone.s k a0) (slices_Clone a0) := ⟨fun k => slices_Clone.mono k a0, fun r => ⟨fun h => ⟨1, h⟩, fun ⟨k, h⟩ => by
  cases k with
  | zero => cases h
  | succ k => exact h⟩⟩
def expr_Names_e (r : (List ByteArray)) : AV × Heap := (.sl (R_string r), [])
structure expr_Names_L2_A where
  x17 : (List T_api_Expr)
  x18 : Int
  x19 : Int
  x24 : (List ByteArray)
  x25 : Int
  x26 : Int
  r0 : (List ByteArray)
structure expr_Names_L2_O0 where
  x17 : (List T_api_Expr)
  x18 : Int
  x19 : Int
  r0 : (List ByteArray)
def expr_Names_L2_s (a : expr_Names_L2_A) : St := { n := 42, nx := 1, env := [(3, .arr 0), (17, .sl (R_api_Expr a.x17)), (18, .sc (.int .i64 a.x18)), (19, .sc (.int .i64 a.x19)), (24, .sl (R_string a.x24)), (25, .sc (.int .i64 a.x25)), (26, .sc (.int .i64 a.x26))], heap := [(0, .arr true 1 (R_string a.r0))] }
def expr_Names_L2_e (a : expr_Names_L2_O0) : Ex × St := (.exit 2, { n := 42, nx := 1, env := [(3, .arr 0), (17, .sl (R_api_Expr a.x17)), (18, .sc (.int .i64 a.x18)), (19, .sc (.int .i64 a.x19))], heap := [(0, .arr true 1 (R_string a.r0))] })
def expr_Names_L2_b (c_slices_Contains : (List ByteArray) → ByteArray → Option Bool) (a : expr_Names_L2_A) : Option (expr_Names_L2_A ⊕ expr_Names_L2_O0) := (bif (decide (a.x26 < a.x25)) then (bif (decide (0 ≤ a.x26)) then ((a.x24[(Int.toNat a.x26)]?).bind fun (e1 : ByteArray) => ((c_slices_Contains a.r0 e1).bind fun (r2 : Bool) => (bif (!r2) then (bif (decide ((a.r0.length + [e1].length) * 16 ≤ most)) then (some (.inl (expr_Names_L2_A.mk a.x17 a.x18 a.x19 a.x24 a.x25 (w64 (a.x26 + (1 : Int))) (a.r0 ++ [e1])))) else none) else (some (.inl (expr_Names_L2_A.mk a.x17 a.x18 a.x19 a.x24 a.x25 (w64 (a.x26 + (1 : Int))) a.r0)))))) else none) else (some (.inr (expr_Names_L2_O0.mk a.x17 a.x18 a.x19 a.r0))))
def expr_Names_L2_t (P : Program) (call : CallF) (c_slices_Contains : (List ByteArray) → ByteArray → Option Bool) (a : expr_Names_L2_A) : Tr (expr_Names_L2_A ⊕ expr_Names_L2_O0) (Ex × St) := (.as (decide (a.x26 < a.x25)) (.as (decide (0 ≤ a.x26)) (.row ((R_string a.x24)[(Int.toNat a.x26)]?) (a.x24[(Int.toNat a.x26)]?) C_string fun (e1 : ByteArray) => (.call (call 47 [.sl (R_string a.r0), .sc (.string e1)] []) (c_slices_Contains a.r0 e1) slices_Contains_e fun (r2 : Bool) => (.as (!r2) (.rows [[.sc (.string e1)]] (R_string [e1]) (.yes (decide ((R_string [e1]).all (fun r => r.length == 1) = true)) (.ask (decide (((R_string a.r0).length + (R_string [e1]).length) * 16 ≤ most)) (decide ((a.r0.length + [e1].length) * 16 ≤ most)) (.rows ((R_string a.r0) ++ (R_string [e1])) (R_string (a.r0 ++ [e1])) (lf expr_Names_L2_s (expr_Names_L2_A.mk a.x17 a.x18 a.x19 a.x24 a.x25 (w64 (a.x26 + (1 : Int))) (a.r0 ++ [e1])))) .fail))) (lf expr_Names_L2_s (expr_Names_L2_A.mk a.x17 a.x18 a.x19 a.x24 a.x25 (w64 (a.x26 + (1 : Int))) a.r0))))) .fail) (rx expr_Names_L2_e (expr_Names_L2_O0.mk a.x17 a.x18 a.x19 a.r0)))
theorem expr_Names_L2_d (P : Program) (call : CallF) (c_slices_Contains : (List ByteArray) → ByteArray → Option Bool) (a : expr_Names_L2_A) : (expr_Names_L2_t P call c_slices_Contains a).den = expr_Names_L2_b c_slices_Contains a := rfl
theorem expr_Names_L2_n (call : CallF) (c_slices_Contains : (List ByteArray) → ByteArray → Option Bool) (a : expr_Names_L2_A) : (expr_Names_L2_t Tryd.prog call c_slices_Contains a).norm (roundT Tryd.prog G.kd call 0 (G.an 28) (loopAt Tryd.prog 28 8) (expr_Names_L2_s a)) = expr_Names_L2_t Tryd.prog call c_slices_Contains a := by kernel_rfl
theorem expr_Names_L2_k (P : Program) (call : CallF) (lp : Loops) (c_slices_Contains : (List ByteArray) → ByteArray → Option Bool) (hc_slices_Contains : ∀ (a0 : (List ByteArray)) (a1 : ByteArray) (r : Bool), c_slices_Contains a0 a1 = some r → (call 47 [.sl (R_string a0), .sc (.string a1)] []) = some (slices_Contains_e r)) (a : expr_Names_L2_A) : (expr_Names_L2_t P call c_slices_Contains a).ok lp (Sum.elim (fun a => (.norm, expr_Names_L2_s a)) expr_Names_L2_e) := ⟨rfl, fun h0 => ⟨rfl, fun h1 => fun e1 he1 => ⟨R_string_get he1, fun r2 hr2 => ⟨hc_slices_Contains _ _ _ hr2, ⟨rfl, fun h2 => ⟨(R_string_map [e1]), ⟨(decide_eq_true (R_string_all _)), ⟨(by rw [R_string_len, R_string_len]), fun h3 => ⟨(R_string_append _ _), rfl⟩, fun h3 => trivial⟩⟩⟩, fun h2 => rfl⟩⟩⟩, fun h1 => trivial⟩, fun h0 => rfl⟩
theorem expr_Names_L2_m {c_slices_Contains d_slices_Contains : (List ByteArray) → ByteArray → Option Bool} (h_slices_Contains : ∀ (a0 : (List ByteArray)) (a1 : ByteArray), Le (c_slices_Contains a0 a1) (d_slices_Contains a0 a1)) (a : expr_Names_L2_A) : Le (expr_Names_L2_b c_slices_Contains a) (expr_Names_L2_b d_slices_Contains a) := by
  unfold expr_Names_L2_b
  exact .cond (.cond (.bind (.refl (a.x24[(Int.toNat a.x26)]?)) fun e1 => .bind (h_slices_Contains _ _) fun r2 => .refl _) (.refl _)) (.refl _)
theorem expr_Names_L2_c {c_slices_Contains : Nat → (List ByteArray) → ByteArray → Option Bool} {d_slices_Contains : (List ByteArray) → ByteArray → Option Bool} (h_slices_Contains : ∀ (a0 : (List ByteArray)) (a1 : ByteArray), Cv (fun k => c_slices_Contains k a0 a1) (d_slices_Contains a0 a1)) (a : expr_Names_L2_A) : Cv (fun k => expr_Names_L2_b (c_slices_Contains k) a) (expr_Names_L2_b d_slices_Contains a) := by
  unfold expr_Names_L2_b
  exact .cond (.cond (.bind (.const (a.x24[(Int.toNat a.x26)]?)) fun e1 => .bind (h_slices_Contains _ _) fun r2 => by exact .const _) (by exact .const _)) (by exact .const _)
def expr_Names_L2.s (k : Nat) (c_slices_Contains : (List ByteArray) → ByteArray → Option Bool) : expr_Names_L2_A → Option expr_Names_L2_O0 := iter (expr_Names_L2_b c_slices_Contains) k
theorem expr_Names_L2_ok (call : CallF) (k : Nat) (c_slices_Contains : (List ByteArray) → ByteArray → Option Bool) (hc_slices_Contains : ∀ (a0 : (List ByteArray)) (a1 : ByteArray) (r : Bool), c_slices_Contains a0 a1 = some r → (call 47 [.sl (R_string a0), .sc (.string a1)] []) = some (slices_Contains_e r)) (a : expr_Names_L2_A) (r : expr_Names_L2_O0) (h : expr_Names_L2.s k c_slices_Contains a = some r) : loopsF Tryd.prog G.kd call 0 (G.an 28) k (loopAt Tryd.prog 28 8) (expr_Names_L2_s a) = some (expr_Names_L2_e r) :=
  loop_ok (fun a => expr_Names_L2_t Tryd.prog call c_slices_Contains a) (fun a => expr_Names_L2_d _ call c_slices_Contains a) (fun a => expr_Names_L2_n call c_slices_Contains a) (fun a => expr_Names_L2_k _ call _ c_slices_Contains hc_slices_Contains a) (fun r => nofun) h
theorem expr_Names_L2.m {j k : Nat} (hj : j ≤ k) (c_slices_Contains : (List ByteArray) → ByteArray → Option Bool) (d_slices_Contains : (List ByteArray) → ByteArray → Option Bool) (h_slices_Contains : ∀ (a0 : (List ByteArray)) (a1 : ByteArray), Le (c_slices_Contains a0 a1) (d_slices_Contains a0 a1)) (a : expr_Names_L2_A) : Le (expr_Names_L2.s j c_slices_Contains a) (expr_Names_L2.s k d_slices_Contains a) := Le.iter (fun a => expr_Names_L2_m h_slices_Contains a) hj a
noncomputable def expr_Names_L2.w (c_slices_Contains : (List ByteArray) → ByteArray → Option Bool) : expr_Names_L2_A → Option expr_Names_L2_O0 := loopW (expr_Names_L2_b c_slices_Contains)
theorem expr_Names_L2.cv (c_slices_Contains : Nat → (List ByteArray) → ByteArray → Option Bool) (d_slices_Contains : (List ByteArray) → ByteArray → Option Bool) (h_slices_Contains : ∀ (a0 : (List ByteArray)) (a1 : ByteArray), Cv (fun k => c_slices_Contains k a0 a1) (d_slices_Contains a0 a1)) (a : expr_Names_L2_A) : Cv (fun k => expr_Names_L2.s k (c_slices_Contains k) a) (expr_Names_L2.w d_slices_Contains a) := Cv.iter (fun a => expr_Names_L2_c h_slices_Contains a) a
structure expr_Names_L1_A where
  x17 : (List T_api_Expr)
  x18 : Int
  x19 : Int
  r0 : (List ByteArray)
def expr_Names_L1_s (a : expr_Names_L1_A) : St := { n := 42, nx := 1, env := [(3, .arr 0), (17, .sl (R_api_Expr a.x17)), (18, .sc (.int .i64 a.x18)), (19, .sc (.int .i64 a.x19))], heap := [(0, .arr true 1 (R_string a.r0))] }
def expr_Names_L1_e (a : (List ByteArray)) : Ex × St := (.exit 0, { n := 42, nx := 1, env := [(3, .arr 0)], heap := [(0, .arr true 1 (R_string a))] })
def expr_Names_L1_b (c_expr_Names : T_api_Expr → Option (List ByteArray)) (l_expr_Names_L2 : expr_Names_L2_A → Option expr_Names_L2_O0) (a : expr_Names_L1_A) : Option (expr_Names_L1_A ⊕ (List ByteArray)) := (bif (decide (a.x19 < a.x18)) then (bif (decide (0 ≤ a.x19)) then ((a.x17[(Int.toNat a.x19)]?).bind fun (e1 : T_api_Expr) => ((c_expr_Names e1).bind fun (r2 : (List ByteArray)) => ((l_expr_Names_L2 (expr_Names_L2_A.mk a.x17 a.x18 a.x19 r2 (((r2.length) : Nat) : Int) (0 : Int) a.r0)).bind (fun (o3 : expr_Names_L2_O0) => (some (.inl (expr_Names_L1_A.mk o3.x17 o3.x18 (w64 (o3.x19 + (1 : Int))) o3.r0))))))) else none) else (some (.inr a.r0)))
def expr_Names_L1_t (P : Program) (call : CallF) (c_expr_Names : T_api_Expr → Option (List ByteArray)) (l_expr_Names_L2 : expr_Names_L2_A → Option expr_Names_L2_O0) (a : expr_Names_L1_A) : Tr (expr_Names_L1_A ⊕ (List ByteArray)) (Ex × St) := (.as (decide (a.x19 < a.x18)) (.as (decide (0 ≤ a.x19)) (.row ((R_api_Expr a.x17)[(Int.toNat a.x19)]?) (a.x17[(Int.toNat a.x19)]?) C_api_Expr fun (e1 : T_api_Expr) => (.call (call 28 [.agg (C_api_Expr e1)] []) (c_expr_Names e1) expr_Names_e fun (r2 : (List ByteArray)) => (.num ((R_string r2).length) (r2.length) (.loop (loopAt P 28 8) (expr_Names_L2_s (expr_Names_L2_A.mk a.x17 a.x18 a.x19 r2 (((r2.length) : Nat) : Int) (0 : Int) a.r0)) (l_expr_Names_L2 (expr_Names_L2_A.mk a.x17 a.x18 a.x19 r2 (((r2.length) : Nat) : Int) (0 : Int) a.r0)) expr_Names_L2_e (fun (o3 : expr_Names_L2_O0) => (lf expr_Names_L1_s (expr_Names_L1_A.mk o3.x17 o3.x18 (w64 (o3.x19 + (1 : Int))) o3.r0))))))) .fail) (rx expr_Names_L1_e a.r0))
theorem expr_Names_L1_d (P : Program) (call : CallF) (c_expr_Names : T_api_Expr → Option (List ByteArray)) (l_expr_Names_L2 : expr_Names_L2_A → Option expr_Names_L2_O0) (a : expr_Names_L1_A) : (expr_Names_L1_t P call c_expr_Names l_expr_Names_L2 a).den = expr_Names_L1_b c_expr_Names l_expr_Names_L2 a := rfl
theorem expr_Names_L1_n (call : CallF) (c_expr_Names : T_api_Expr → Option (List ByteArray)) (l_expr_Names_L2 : expr_Names_L2_A → Option expr_Names_L2_O0) (a : expr_Names_L1_A) : (expr_Names_L1_t Tryd.prog call c_expr_Names l_expr_Names_L2 a).norm (roundT Tryd.prog G.kd call 0 (G.an 28) (loopAt Tryd.prog 28 5) (expr_Names_L1_s a)) = expr_Names_L1_t Tryd.prog call c_expr_Names l_expr_Names_L2 a := by kernel_rfl
theorem expr_Names_L1_k (P : Program) (call : CallF) (lp : Loops) (c_expr_Names : T_api_Expr → Option (List ByteArray)) (l_expr_Names_L2 : expr_Names_L2_A → Option expr_Names_L2_O0) (hc_expr_Names : ∀ (a0 : T_api_Expr) (r : (List ByteArray)), c_expr_Names a0 = some r → (call 28 [.agg (C_api_Expr a0)] []) = some (expr_Names_e r)) (hl_expr_Names_L2 : ∀ (a : expr_Names_L2_A) (r : expr_Names_L2_O0), l_expr_Names_L2 a = some r → lp (loopAt P 28 8) (expr_Names_L2_s a) = some (expr_Names_L2_e r)) (a : expr_Names_L1_A) : (expr_Names_L1_t P call c_expr_Names l_expr_Names_L2 a).ok lp (Sum.elim (fun a => (.norm, expr_Names_L1_s a)) expr_Names_L1_e) := ⟨rfl, fun h0 => ⟨rfl, fun h1 => fun e1 he1 => ⟨R_api_Expr_get he1, fun r2 hr2 => ⟨hc_expr_Names _ _ hr2, ⟨(R_string_len _), fun o3 ho3 => ⟨hl_expr_Names_L2 _ _ ho3, rfl⟩⟩⟩⟩, fun h1 => trivial⟩, fun h0 => rfl⟩
theorem expr_Names_L1_m {c_expr_Names d_expr_Names : T_api_Expr → Option (List ByteArray)} (h_expr_Names : ∀ (a0 : T_api_Expr), Le (c_expr_Names a0) (d_expr_Names a0)) {l_expr_Names_L2 m_expr_Names_L2 : expr_Names_L2_A → Option expr_Names_L2_O0} (hl_expr_Names_L2 : ∀ a, Le (l_expr_Names_L2 a) (m_expr_Names_L2 a)) (a : expr_Names_L1_A) : Le (expr_Names_L1_b c_expr_Names l_expr_Names_L2 a) (expr_Names_L1_b d_expr_Names m_expr_Names_L2 a) := by
  unfold expr_Names_L1_b
  exact .cond (.cond (.bind (.refl (a.x17[(Int.toNat a.x19)]?)) fun e1 => .bind (h_expr_Names _) fun r2 => .bind (hl_expr_Names_L2 _) (fun o3 => .refl _)) (.refl _)) (.refl _)
theorem expr_Names_L1_c {c_expr_Names : Nat → T_api_Expr → Option (List ByteArray)} {d_expr_Names : T_api_Expr → Option (List ByteArray)} (h_expr_Names : ∀ (a0 : T_api_Expr), Cv (fun k => c_expr_Names k a0) (d_expr_Names a0)) {l_expr_Names_L2 : Nat → expr_Names_L2_A → Option expr_Names_L2_O0} {m_expr_Names_L2 : expr_Names_L2_A → Option expr_Names_L2_O0} (hl_expr_Names_L2 : ∀ a, Cv (fun k => l_expr_Names_L2 k a) (m_expr_Names_L2 a)) (a : expr_Names_L1_A) : Cv (fun k => expr_Names_L1_b (c_expr_Names k) (l_expr_Names_L2 k) a) (expr_Names_L1_b d_expr_Names m_expr_Names_L2 a) := by
  unfold expr_Names_L1_b
  exact .cond (.cond (.bind (.const (a.x17[(Int.toNat a.x19)]?)) fun e1 => .bind (h_expr_Names _) fun r2 => .bind (hl_expr_Names_L2 _) (fun o3 => by exact .const _)) (by exact .const _)) (by exact .const _)
def expr_Names_L1.s (k : Nat) (c_expr_Names : T_api_Expr → Option (List ByteArray)) (c_slices_Contains : (List ByteArray) → ByteArray → Option Bool) : expr_Names_L1_A → Option (List ByteArray) := iter (expr_Names_L1_b c_expr_Names (expr_Names_L2.s k c_slices_Contains)) k
theorem expr_Names_L1_ok (call : CallF) (k : Nat) (c_expr_Names : T_api_Expr → Option (List ByteArray)) (c_slices_Contains : (List ByteArray) → ByteArray → Option Bool) (hc_expr_Names : ∀ (a0 : T_api_Expr) (r : (List ByteArray)), c_expr_Names a0 = some r → (call 28 [.agg (C_api_Expr a0)] []) = some (expr_Names_e r)) (hc_slices_Contains : ∀ (a0 : (List ByteArray)) (a1 : ByteArray) (r : Bool), c_slices_Contains a0 a1 = some r → (call 47 [.sl (R_string a0), .sc (.string a1)] []) = some (slices_Contains_e r)) (a : expr_Names_L1_A) (r : (List ByteArray)) (h : expr_Names_L1.s k c_expr_Names c_slices_Contains a = some r) : loopsF Tryd.prog G.kd call 0 (G.an 28) k (loopAt Tryd.prog 28 5) (expr_Names_L1_s a) = some (expr_Names_L1_e r) :=
  loop_ok (fun a => expr_Names_L1_t Tryd.prog call c_expr_Names (expr_Names_L2.s k c_slices_Contains) a) (fun a => expr_Names_L1_d _ call c_expr_Names (expr_Names_L2.s k c_slices_Contains) a) (fun a => expr_Names_L1_n call c_expr_Names (expr_Names_L2.s k c_slices_Contains) a) (fun a => expr_Names_L1_k _ call _ c_expr_Names (expr_Names_L2.s k c_slices_Contains) hc_expr_Names (expr_Names_L2_ok call k c_slices_Contains hc_slices_Contains) a) (fun r => nofun) h
theorem expr_Names_L1.m {j k : Nat} (hj : j ≤ k) (c_expr_Names : T_api_Expr → Option (List ByteArray)) (c_slices_Contains : (List ByteArray) → ByteArray → Option Bool) (d_expr_Names : T_api_Expr → Option (List ByteArray)) (d_slices_Contains : (List ByteArray) → ByteArray → Option Bool) (h_expr_Names : ∀ (a0 : T_api_Expr), Le (c_expr_Names a0) (d_expr_Names a0)) (h_slices_Contains : ∀ (a0 : (List ByteArray)) (a1 : ByteArray), Le (c_slices_Contains a0 a1) (d_slices_Contains a0 a1)) (a : expr_Names_L1_A) : Le (expr_Names_L1.s j c_expr_Names c_slices_Contains a) (expr_Names_L1.s k d_expr_Names d_slices_Contains a) := Le.iter (fun a => expr_Names_L1_m h_expr_Names (expr_Names_L2.m hj c_slices_Contains d_slices_Contains h_slices_Contains) a) hj a
noncomputable def expr_Names_L1.w (c_expr_Names : T_api_Expr → Option (List ByteArray)) (c_slices_Contains : (List ByteArray) → ByteArray → Option Bool) : expr_Names_L1_A → Option (List ByteArray) := loopW (expr_Names_L1_b c_expr_Names (expr_Names_L2.w c_slices_Contains))
theorem expr_Names_L1.cv (c_expr_Names : Nat → T_api_Expr → Option (List ByteArray)) (c_slices_Contains : Nat → (List ByteArray) → ByteArray → Option Bool) (d_expr_Names : T_api_Expr → Option (List ByteArray)) (d_slices_Contains : (List ByteArray) → ByteArray → Option Bool) (h_expr_Names : ∀ (a0 : T_api_Expr), Cv (fun k => c_expr_Names k a0) (d_expr_Names a0)) (h_slices_Contains : ∀ (a0 : (List ByteArray)) (a1 : ByteArray), Cv (fun k => c_slices_Contains k a0 a1) (d_slices_Contains a0 a1)) (a : expr_Names_L1_A) : Cv (fun k => expr_Names_L1.s k (c_expr_Names k) (c_slices_Contains k) a) (expr_Names_L1.w d_expr_Names d_slices_Contains a) := Cv.iter (fun a => expr_Names_L1_c h_expr_Names (expr_Names_L2.cv c_slices_Contains d_slices_Contains h_slices_Contains) a) a
def expr_Names_b (c_slices_Clone : (List ByteArray) → Option (List ByteArray)) (l_expr_Names_L1 : expr_Names_L1_A → Option (List ByteArray)) (a0 : T_api_Expr) : Option (List ByteArray) := (bif (a0.Kind == (2 : Int)) then (bif (decide ([a0.Name].length * 16 ≤ most)) then ((l_expr_Names_L1 (expr_Names_L1_A.mk a0.L (((a0.L.length) : Nat) : Int) (0 : Int) [a0.Name])).bind (fun (o1 : (List ByteArray)) => ((c_slices_Clone o1).bind fun (r2 : (List ByteArray)) => (some r2)))) else none) else ((l_expr_Names_L1 (expr_Names_L1_A.mk a0.L (((a0.L.length) : Nat) : Int) (0 : Int) ([] : List ByteArray))).bind (fun (o3 : (List ByteArray)) => ((c_slices_Clone o3).bind fun (r4 : (List ByteArray)) => (some r4)))))
def expr_Names_t (P : Program) (call : CallF) (c_slices_Clone : (List ByteArray) → Option (List ByteArray)) (l_expr_Names_L1 : expr_Names_L1_A → Option (List ByteArray)) (a0 : T_api_Expr) : Tr (List ByteArray) (AV × Heap) := (.as (a0.Kind == (2 : Int)) (.rows [[.sc (.string a0.Name)]] (R_string [a0.Name]) (.yes (decide ((R_string [a0.Name]).all (fun r => r.length == 1) = true)) (.ask (decide ((R_string [a0.Name]).length * 16 ≤ most)) (decide ([a0.Name].length * 16 ≤ most)) (.rows (R_string [a0.Name]) (R_string [a0.Name]) (.num ((R_api_Expr a0.L).length) (a0.L.length) (.loop (loopAt P 28 5) (expr_Names_L1_s (expr_Names_L1_A.mk a0.L (((a0.L.length) : Nat) : Int) (0 : Int) [a0.Name])) (l_expr_Names_L1 (expr_Names_L1_A.mk a0.L (((a0.L.length) : Nat) : Int) (0 : Int) [a0.Name])) expr_Names_L1_e (fun (o1 : (List ByteArray)) => (.call (call 48 [.sl (R_string o1)] []) (c_slices_Clone o1) slices_Clone_e fun (r2 : (List ByteArray)) => (rt expr_Names_e r2)))))) .fail))) (.num ((R_api_Expr a0.L).length) (a0.L.length) (.loop (loopAt P 28 5) (expr_Names_L1_s (expr_Names_L1_A.mk a0.L (((a0.L.length) : Nat) : Int) (0 : Int) ([] : List ByteArray))) (l_expr_Names_L1 (expr_Names_L1_A.mk a0.L (((a0.L.length) : Nat) : Int) (0 : Int) ([] : List ByteArray))) expr_Names_L1_e (fun (o3 : (List ByteArray)) => (.call (call 48 [.sl (R_string o3)] []) (c_slices_Clone o3) slices_Clone_e fun (r4 : (List ByteArray)) => (rt expr_Names_e r4))))))
theorem expr_Names_d (P : Program) (call : CallF) (c_slices_Clone : (List ByteArray) → Option (List ByteArray)) (l_expr_Names_L1 : expr_Names_L1_A → Option (List ByteArray)) (a0 : T_api_Expr) : (expr_Names_t P call c_slices_Clone l_expr_Names_L1 a0).den = expr_Names_b c_slices_Clone l_expr_Names_L1 a0 := rfl
theorem expr_Names_n (call : CallF) (c_slices_Clone : (List ByteArray) → Option (List ByteArray)) (l_expr_Names_L1 : expr_Names_L1_A → Option (List ByteArray)) (a0 : T_api_Expr) : (expr_Names_t Tryd.prog call c_slices_Clone l_expr_Names_L1 a0).norm (bodyT Tryd.prog call G 28 [.agg (C_api_Expr a0)] []) = expr_Names_t Tryd.prog call c_slices_Clone l_expr_Names_L1 a0 := by kernel_rfl
theorem expr_Names_k (P : Program) (call : CallF) (lp : Loops) (c_slices_Clone : (List ByteArray) → Option (List ByteArray)) (l_expr_Names_L1 : expr_Names_L1_A → Option (List ByteArray)) (hc_slices_Clone : ∀ (a0 : (List ByteArray)) (r : (List ByteArray)), c_slices_Clone a0 = some r → (call 48 [.sl (R_string a0)] []) = some (slices_Clone_e r)) (hl_expr_Names_L1 : ∀ (a : expr_Names_L1_A) (r : (List ByteArray)), l_expr_Names_L1 a = some r → lp (loopAt P 28 5) (expr_Names_L1_s a) = some (expr_Names_L1_e r)) (a0 : T_api_Expr) : (expr_Names_t P call c_slices_Clone l_expr_Names_L1 a0).ok lp expr_Names_e := ⟨rfl, fun h0 => ⟨(R_string_map [a0.Name]), ⟨(decide_eq_true (R_string_all _)), ⟨(by rw [R_string_len]), fun h1 => ⟨rfl, ⟨(R_api_Expr_len _), fun o1 ho1 => ⟨hl_expr_Names_L1 _ _ ho1, fun r2 hr2 => ⟨hc_slices_Clone _ _ hr2, rfl⟩⟩⟩⟩, fun h1 => trivial⟩⟩⟩, fun h0 => ⟨(R_api_Expr_len _), fun o3 ho3 => ⟨hl_expr_Names_L1 _ _ ho3, fun r4 hr4 => ⟨hc_slices_Clone _ _ hr4, rfl⟩⟩⟩⟩
theorem expr_Names_m {c_slices_Clone d_slices_Clone : (List ByteArray) → Option (List ByteArray)} (h_slices_Clone : ∀ (a0 : (List ByteArray)), Le (c_slices_Clone a0) (d_slices_Clone a0)) {l_expr_Names_L1 m_expr_Names_L1 : expr_Names_L1_A → Option (List ByteArray)} (hl_expr_Names_L1 : ∀ a, Le (l_expr_Names_L1 a) (m_expr_Names_L1 a)) (a0 : T_api_Expr) : Le (expr_Names_b c_slices_Clone l_expr_Names_L1 a0) (expr_Names_b d_slices_Clone m_expr_Names_L1 a0) := by
  unfold expr_Names_b
  exact .cond (.cond (.bind (hl_expr_Names_L1 _) (fun o1 => .bind (h_slices_Clone _) fun r2 => .refl _)) (.refl _)) (.bind (hl_expr_Names_L1 _) (fun o3 => .bind (h_slices_Clone _) fun r4 => .refl _))
theorem expr_Names_c {c_slices_Clone : Nat → (List ByteArray) → Option (List ByteArray)} {d_slices_Clone : (List ByteArray) → Option (List ByteArray)} (h_slices_Clone : ∀ (a0 : (List ByteArray)), Cv (fun k => c_slices_Clone k a0) (d_slices_Clone a0)) {l_expr_Names_L1 : Nat → expr_Names_L1_A → Option (List ByteArray)} {m_expr_Names_L1 : expr_Names_L1_A → Option (List ByteArray)} (hl_expr_Names_L1 : ∀ a, Cv (fun k => l_expr_Names_L1 k a) (m_expr_Names_L1 a)) (a0 : T_api_Expr) : Cv (fun k => expr_Names_b (c_slices_Clone k) (l_expr_Names_L1 k) a0) (expr_Names_b d_slices_Clone m_expr_Names_L1 a0) := by
  unfold expr_Names_b
  exact .cond (.cond (.bind (hl_expr_Names_L1 _) (fun o1 => .bind (h_slices_Clone _) fun r2 => by exact .const _)) (by exact .const _)) (.bind (hl_expr_Names_L1 _) (fun o3 => .bind (h_slices_Clone _) fun r4 => by exact .const _))
def expr_Names.s : Nat → T_api_Expr → Option (List ByteArray)
  | 0, _ => none
  | k + 1, a0 => expr_Names_b (fun a0 => slices_Clone.s k a0) (expr_Names_L1.s k (fun a0 => expr_Names.s k a0) (fun a0 a1 => slices_Contains.s k a0 a1)) a0
termination_by structural k => k
theorem expr_Names_all : ∀ (k : Nat), ∀ (a0 : T_api_Expr) (r : (List ByteArray)), expr_Names.s k a0 = some r → evalFn Tryd.prog G k 28 [.agg (C_api_Expr a0)] [] = some (expr_Names_e r)
  | 0 => fun _ _ h => (nomatch h)
  | k + 1 => by
    have i_expr_Names := expr_Names_all k
    exact fun a0 r h => fn_ok rfl (expr_Names_t Tryd.prog (evalFn Tryd.prog G k) (fun a0 => slices_Clone.s k a0) (expr_Names_L1.s k (fun a0 => expr_Names.s k a0) (fun a0 a1 => slices_Contains.s k a0 a1)) a0) (expr_Names_n _ (fun a0 => slices_Clone.s k a0) (expr_Names_L1.s k (fun a0 => expr_Names.s k a0) (fun a0 a1 => slices_Contains.s k a0 a1)) a0) (expr_Names_k _ _ _ (fun a0 => slices_Clone.s k a0) (expr_Names_L1.s k (fun a0 => expr_Names.s k a0) (fun a0 a1 => slices_Contains.s k a0 a1)) (slices_Clone.ok k) (expr_Names_L1_ok _ k (fun a0 => expr_Names.s k a0) (fun a0 a1 => slices_Contains.s k a0 a1) (i_expr_Names) (slices_Contains.ok k)) a0) ((expr_Names_d _ _ (fun a0 => slices_Clone.s k a0) (expr_Names_L1.s k (fun a0 => expr_Names.s k a0) (fun a0 a1 => slices_Contains.s k a0 a1)) a0).trans h)
theorem expr_Names.ok (k : Nat) : ∀ (a0 : T_api_Expr) (r : (List ByteArray)), expr_Names.s k a0 = some r → evalFn Tryd.prog G k 28 [.agg (C_api_Expr a0)] [] = some (expr_Names_e r) := (expr_Names_all k)
theorem expr_Names_mall : ∀ (k : Nat), (∀ (a0 : T_api_Expr), Le (expr_Names.s k a0) (expr_Names.s (k + 1) a0))
  | 0 => fun _ _ h => (nomatch h)
  | k + 1 => by
    have i_expr_Names := expr_Names_mall k
    exact fun a0 => expr_Names_m (slices_Clone.mono k) (expr_Names_L1.m (Nat.le_succ k) (fun a0 => expr_Names.s k a0) (fun a0 a1 => slices_Contains.s k a0 a1) (fun a0 => expr_Names.s (k + 1) a0) (fun a0 a1 => slices_Contains.s (k + 1) a0 a1) (i_expr_Names) (slices_Contains.mono k)) a0
theorem expr_Names.mono (k : Nat) : ∀ (a0 : T_api_Expr), Le (expr_Names.s k a0) (expr_Names.s (k + 1) a0) := (expr_Names_mall k)
noncomputable def expr_Names (a0 : T_api_Expr) : Option (List ByteArray) := lim fun k => expr_Names.s k a0
theorem expr_Names.cv (a0 : T_api_Expr) : Cv (fun k => expr_Names.s k a0) (expr_Names a0) := .lim fun k => expr_Names.mono k a0
noncomputable def expr_Names_L2 : expr_Names_L2_A → Option expr_Names_L2_O0 := expr_Names_L2.w slices_Contains
theorem expr_Names_L2.eq (a : expr_Names_L2_A) : expr_Names_L2 a = (expr_Names_L2_b slices_Contains a).bind (Sum.elim expr_Names_L2 some) := loopW_eq _ _
noncomputable def expr_Names_L1 : expr_Names_L1_A → Option (List ByteArray) := expr_Names_L1.w expr_Names slices_Contains
theorem expr_Names_L1.eq (a : expr_Names_L1_A) : expr_Names_L1 a = (expr_Names_L1_b expr_Names expr_Names_L2 a).bind (Sum.elim expr_Names_L1 some) := loopW_eq _ _
theorem expr_Names.eq (a0 : T_api_Expr) : expr_Names a0 = expr_Names_b slices_Clone expr_Names_L1 a0 := Cv.uniq (expr_Names.cv a0).shift (expr_Names_c slices_Clone.cv (expr_Names_L1.cv (fun k => fun a0 => expr_Names.s k a0) (fun k => fun a0 a1 => slices_Contains.s k a0 a1) expr_Names slices_Contains expr_Names.cv slices_Contains.cv) a0)
def r3_has_e (r : Bool) : AV × Heap := (.sc (.bool r), [])
structure r3_has_L1_A where
  x0 : (List ByteArray)
  x1 : ByteArray
  x5 : Int
def r3_has_L1_s (a : r3_has_L1_A) : St := { n := 18, nx := 0, env := [(0, .sl (R_string a.x0)), (1, .sc (.string a.x1)), (5, .sc (.int .i64 a.x5))], heap := [] }
def r3_has_L1_e0 (a : Bool) : Ex × St := (.ret, { n := 18, nx := 0, env := [(4, .sc (.bool a))], heap := [] })
def r3_has_L1_e1 (a : Unit) : Ex × St := (.exit 0, { n := 18, nx := 0, env := [], heap := [] })
def r3_has_L1_e (a : (Bool ⊕ Unit)) : Ex × St := Sum.elim r3_has_L1_e0 r3_has_L1_e1 a
def r3_has_L1_b  (a : r3_has_L1_A) : Option (r3_has_L1_A ⊕ (Bool ⊕ Unit)) := (bif (decide (a.x5 < (((a.x0.length) : Nat) : Int))) then (bif (decide (0 ≤ a.x5)) then ((a.x0[(Int.toNat a.x5)]?).bind fun (e1 : ByteArray) => (bif (eqS e1 a.x1) then (some (.inr (.inl true))) else (some (.inl (r3_has_L1_A.mk a.x0 a.x1 (w64 (a.x5 + (1 : Int)))))))) else none) else (some (.inr (.inr ()))))
def r3_has_L1_t (P : Program) (call : CallF)  (a : r3_has_L1_A) : Tr (r3_has_L1_A ⊕ (Bool ⊕ Unit)) (Ex × St) := (.num ((R_string a.x0).length) (a.x0.length) (.as (decide (a.x5 < (((a.x0.length) : Nat) : Int))) (.as (decide (0 ≤ a.x5)) (.row ((R_string a.x0)[(Int.toNat a.x5)]?) (a.x0[(Int.toNat a.x5)]?) C_string fun (e1 : ByteArray) => (.as (eqS e1 a.x1) (rx r3_has_L1_e (.inl true)) (lf r3_has_L1_s (r3_has_L1_A.mk a.x0 a.x1 (w64 (a.x5 + (1 : Int))))))) .fail) (rx r3_has_L1_e (.inr ()))))
theorem r3_has_L1_d (P : Program) (call : CallF)  (a : r3_has_L1_A) : (r3_has_L1_t P call  a).den = r3_has_L1_b  a := rfl
theorem r3_has_L1_n (call : CallF)  (a : r3_has_L1_A) : (r3_has_L1_t Tryd.prog call  a).norm (roundT Tryd.prog G.kd call 0 (G.an 49) (loopAt Tryd.prog 49 2) (r3_has_L1_s a)) = r3_has_L1_t Tryd.prog call  a := by kernel_rfl
theorem r3_has_L1_k (P : Program) (call : CallF) (lp : Loops)   (a : r3_has_L1_A) : (r3_has_L1_t P call  a).ok lp (Sum.elim (fun a => (.norm, r3_has_L1_s a)) r3_has_L1_e) := ⟨(R_string_len _), ⟨rfl, fun h0 => ⟨rfl, fun h1 => fun e1 he1 => ⟨R_string_get he1, ⟨rfl, fun h2 => rfl, fun h2 => rfl⟩⟩, fun h1 => trivial⟩, fun h0 => rfl⟩⟩
def r3_has_L1.s (k : Nat)  : r3_has_L1_A → Option (Bool ⊕ Unit) := iter (r3_has_L1_b ) k
theorem r3_has_L1_ok (call : CallF) (k : Nat)   (a : r3_has_L1_A) (r : (Bool ⊕ Unit)) (h : r3_has_L1.s k  a = some r) : loopsF Tryd.prog G.kd call 0 (G.an 49) k (loopAt Tryd.prog 49 2) (r3_has_L1_s a) = some (r3_has_L1_e r) :=
  loop_ok (fun a => r3_has_L1_t Tryd.prog call  a) (fun a => r3_has_L1_d _ call  a) (fun a => r3_has_L1_n call  a) (fun a => r3_has_L1_k _ call _   a) (fun r => by cases r <;> nofun) h
theorem r3_has_L1.m {j k : Nat} (hj : j ≤ k)    (a : r3_has_L1_A) : Le (r3_has_L1.s j  a) (r3_has_L1.s k  a) := Le.iter (fun a => .refl _) hj a
noncomputable def r3_has_L1.w  : r3_has_L1_A → Option (Bool ⊕ Unit) := loopW (r3_has_L1_b )
theorem r3_has_L1.cv    (a : r3_has_L1_A) : Cv (fun k => r3_has_L1.s k  a) (r3_has_L1.w  a) := Cv.iter (fun a => by exact .const _) a
def r3_has_b (l_r3_has_L1 : r3_has_L1_A → Option (Bool ⊕ Unit)) (a0 : (List ByteArray)) (a1 : ByteArray) : Option Bool := ((l_r3_has_L1 (r3_has_L1_A.mk a0 a1 (0 : Int))).bind fun x => Sum.elim (fun (o1 : Bool) => (some o1)) (fun (o2 : Unit) => (some false)) x)
def r3_has_t (P : Program) (call : CallF) (l_r3_has_L1 : r3_has_L1_A → Option (Bool ⊕ Unit)) (a0 : (List ByteArray)) (a1 : ByteArray) : Tr Bool (AV × Heap) := (.loop2 (loopAt P 49 2) (r3_has_L1_s (r3_has_L1_A.mk a0 a1 (0 : Int))) (l_r3_has_L1 (r3_has_L1_A.mk a0 a1 (0 : Int))) r3_has_L1_e0 r3_has_L1_e1 (fun (o1 : Bool) => (rt r3_has_e o1)) (fun (o2 : Unit) => (rt r3_has_e false)))
theorem r3_has_d (P : Program) (call : CallF) (l_r3_has_L1 : r3_has_L1_A → Option (Bool ⊕ Unit)) (a0 : (List ByteArray)) (a1 : ByteArray) : (r3_has_t P call l_r3_has_L1 a0 a1).den = r3_has_b l_r3_has_L1 a0 a1 := rfl
theorem r3_has_n (call : CallF) (l_r3_has_L1 : r3_has_L1_A → Option (Bool ⊕ Unit)) (a0 : (List ByteArray)) (a1 : ByteArray) : (r3_has_t Tryd.prog call l_r3_has_L1 a0 a1).norm (bodyT Tryd.prog call G 49 [.sl (R_string a0), .sc (.string a1)] []) = r3_has_t Tryd.prog call l_r3_has_L1 a0 a1 := by kernel_rfl
theorem r3_has_k (P : Program) (call : CallF) (lp : Loops) (l_r3_has_L1 : r3_has_L1_A → Option (Bool ⊕ Unit)) (hl_r3_has_L1 : ∀ (a : r3_has_L1_A) (r : (Bool ⊕ Unit)), l_r3_has_L1 a = some r → lp (loopAt P 49 2) (r3_has_L1_s a) = some (r3_has_L1_e r)) (a0 : (List ByteArray)) (a1 : ByteArray) : (r3_has_t P call l_r3_has_L1 a0 a1).ok lp r3_has_e := ⟨fun o1 ho1 => ⟨hl_r3_has_L1 _ (.inl _) ho1, rfl⟩, fun o2 ho2 => ⟨hl_r3_has_L1 _ (.inr _) ho2, rfl⟩⟩
theorem r3_has_m {l_r3_has_L1 m_r3_has_L1 : r3_has_L1_A → Option (Bool ⊕ Unit)} (hl_r3_has_L1 : ∀ a, Le (l_r3_has_L1 a) (m_r3_has_L1 a)) (a0 : (List ByteArray)) (a1 : ByteArray) : Le (r3_has_b l_r3_has_L1 a0 a1) (r3_has_b m_r3_has_L1 a0 a1) := by
  unfold r3_has_b
  exact .bind (hl_r3_has_L1 _) fun x => .sum (fun o1 => .refl _) (fun o2 => .refl _) x
theorem r3_has_c {l_r3_has_L1 : Nat → r3_has_L1_A → Option (Bool ⊕ Unit)} {m_r3_has_L1 : r3_has_L1_A → Option (Bool ⊕ Unit)} (hl_r3_has_L1 : ∀ a, Cv (fun k => l_r3_has_L1 k a) (m_r3_has_L1 a)) (a0 : (List ByteArray)) (a1 : ByteArray) : Cv (fun k => r3_has_b (l_r3_has_L1 k) a0 a1) (r3_has_b m_r3_has_L1 a0 a1) := by
  unfold r3_has_b
  exact .bind (hl_r3_has_L1 _) fun x => .sum (fun o1 => by exact .const _) (fun o2 => by exact .const _) x
def r3_has.s : Nat → (List ByteArray) → ByteArray → Option Bool
  | 0, _, _ => none
  | k + 1, a0, a1 => r3_has_b (r3_has_L1.s k) a0 a1
theorem r3_has.ok : ∀ (k : Nat), ∀ (a0 : (List ByteArray)) (a1 : ByteArray) (r : Bool), r3_has.s k a0 a1 = some r → evalFn Tryd.prog G k 49 [.sl (R_string a0), .sc (.string a1)] [] = some (r3_has_e r)
  | 0, _, _, _, h => (nomatch h)
  | k + 1, a0, a1, r, h => fn_ok rfl (r3_has_t Tryd.prog (evalFn Tryd.prog G k) (r3_has_L1.s k) a0 a1) (r3_has_n _ (r3_has_L1.s k) a0 a1) (r3_has_k _ _ _ (r3_has_L1.s k)  (r3_has_L1_ok _ k) a0 a1) ((r3_has_d _ _ (r3_has_L1.s k) a0 a1).trans h)
theorem r3_has.mono : ∀ (k : Nat) (a0 : (List ByteArray)) (a1 : ByteArray), Le (r3_has.s k a0 a1) (r3_has.s (k + 1) a0 a1)
  | 0, _, _ => fun r h => (nomatch h)
  | k + 1, a0, a1 => r3_has_m (r3_has_L1.m (Nat.le_succ k)) a0 a1
noncomputable def r3_has (a0 : (List ByteArray)) (a1 : ByteArray) : Option Bool := lim fun k => r3_has.s k a0 a1
theorem r3_has.cv (a0 : (List ByteArray)) (a1 : ByteArray) : Cv (fun k => r3_has.s k a0 a1) (r3_has a0 a1) := .lim fun k => r3_has.mono k a0 a1
noncomputable def r3_has_L1 : r3_has_L1_A → Option (Bool ⊕ Unit) := r3_has_L1.w 
theorem r3_has_L1.eq (a : r3_has_L1_A) : r3_has_L1 a = (r3_has_L1_b  a).bind (Sum.elim r3_has_L1 some) := loopW_eq _ _
theorem r3_has.eq (a0 : (List ByteArray)) (a1 : ByteArray) : r3_has a0 a1 = r3_has_b r3_has_L1 a0 a1 := Cv.uniq (r3_has.cv a0 a1).shift (r3_has_c (r3_has_L1.cv) a0 a1)
def r3_Names_e (r : (List ByteArray)) : AV × Heap := (.sl (R_string r), [])
structure r3_Names_L2_A where
  x4 : Int
  x5 : (List ByteArray)
  x6 : Int
  h0 : T_api_Expr
  r1 : (List ByteArray)
structure r3_Names_L2_O0 where
  x4 : Int
  h0 : T_api_Expr
  r1 : (List ByteArray)
def r3_Names_L2_s (a : r3_Names_L2_A) : St := { n := 47, nx := 2, env := [(1, .ptr 0 0), (3, .arr 1), (4, .sc (.int .i64 a.x4)), (5, .sl (R_string a.x5)), (6, .sc (.int .i64 a.x6))], heap := [(0, .box [] (C_api_Expr a.h0)), (1, .arr true 1 (R_string a.r1))] }
def r3_Names_L2_e (a : r3_Names_L2_O0) : Ex × St := (.exit 2, { n := 47, nx := 2, env := [(1, .ptr 0 0), (3, .arr 1), (4, .sc (.int .i64 a.x4))], heap := [(0, .box [] (C_api_Expr a.h0)), (1, .arr true 1 (R_string a.r1))] })
def r3_Names_L2_b (c_r3_has : (List ByteArray) → ByteArray → Option Bool) (a : r3_Names_L2_A) : Option (r3_Names_L2_A ⊕ r3_Names_L2_O0) := (bif (decide (a.x6 < (((a.x5.length) : Nat) : Int))) then (bif (decide (0 ≤ a.x6)) then ((a.x5[(Int.toNat a.x6)]?).bind fun (e1 : ByteArray) => ((c_r3_has a.r1 e1).bind fun (r2 : Bool) => (bif (!r2) then ((a.x5[(Int.toNat a.x6)]?).bind fun (e3 : ByteArray) => (bif (decide ((a.r1.length + [e3].length) * 16 ≤ most)) then (some (.inl (r3_Names_L2_A.mk a.x4 a.x5 (w64 (a.x6 + (1 : Int))) a.h0 (a.r1 ++ [e3])))) else none)) else (some (.inl (r3_Names_L2_A.mk a.x4 a.x5 (w64 (a.x6 + (1 : Int))) a.h0 a.r1)))))) else none) else (some (.inr (r3_Names_L2_O0.mk a.x4 a.h0 a.r1))))
def r3_Names_L2_t (P : Program) (call : CallF) (c_r3_has : (List ByteArray) → ByteArray → Option Bool) (a : r3_Names_L2_A) : Tr (r3_Names_L2_A ⊕ r3_Names_L2_O0) (Ex × St) := (.num ((R_string a.x5).length) (a.x5.length) (.as (decide (a.x6 < (((a.x5.length) : Nat) : Int))) (.as (decide (0 ≤ a.x6)) (.row ((R_string a.x5)[(Int.toNat a.x6)]?) (a.x5[(Int.toNat a.x6)]?) C_string fun (e1 : ByteArray) => (.call (call 49 [.sl (R_string a.r1), .sc (.string e1)] []) (c_r3_has a.r1 e1) r3_has_e fun (r2 : Bool) => (.as (!r2) (.yes (decide (0 ≤ a.x6)) (.row ((R_string a.x5)[(Int.toNat a.x6)]?) (a.x5[(Int.toNat a.x6)]?) C_string fun (e3 : ByteArray) => (.rows [[.sc (.string e3)]] (R_string [e3]) (.yes (decide ((R_string [e3]).all (fun r => r.length == 1) = true)) (.ask (decide (((R_string a.r1).length + (R_string [e3]).length) * 16 ≤ most)) (decide ((a.r1.length + [e3].length) * 16 ≤ most)) (.rows ((R_string a.r1) ++ (R_string [e3])) (R_string (a.r1 ++ [e3])) (lf r3_Names_L2_s (r3_Names_L2_A.mk a.x4 a.x5 (w64 (a.x6 + (1 : Int))) a.h0 (a.r1 ++ [e3])))) .fail))))) (lf r3_Names_L2_s (r3_Names_L2_A.mk a.x4 a.x5 (w64 (a.x6 + (1 : Int))) a.h0 a.r1))))) .fail) (rx r3_Names_L2_e (r3_Names_L2_O0.mk a.x4 a.h0 a.r1))))
theorem r3_Names_L2_d (P : Program) (call : CallF) (c_r3_has : (List ByteArray) → ByteArray → Option Bool) (a : r3_Names_L2_A) : (r3_Names_L2_t P call c_r3_has a).den = r3_Names_L2_b c_r3_has a := rfl
theorem r3_Names_L2_n (call : CallF) (c_r3_has : (List ByteArray) → ByteArray → Option Bool) (a : r3_Names_L2_A) : (r3_Names_L2_t Tryd.prog call c_r3_has a).norm (roundT Tryd.prog G.kd call 0 (G.an 29) (loopAt Tryd.prog 29 9) (r3_Names_L2_s a)) = r3_Names_L2_t Tryd.prog call c_r3_has a := by kernel_rfl
theorem r3_Names_L2_k (P : Program) (call : CallF) (lp : Loops) (c_r3_has : (List ByteArray) → ByteArray → Option Bool) (hc_r3_has : ∀ (a0 : (List ByteArray)) (a1 : ByteArray) (r : Bool), c_r3_has a0 a1 = some r → (call 49 [.sl (R_string a0), .sc (.string a1)] []) = some (r3_has_e r)) (a : r3_Names_L2_A) : (r3_Names_L2_t P call c_r3_has a).ok lp (Sum.elim (fun a => (.norm, r3_Names_L2_s a)) r3_Names_L2_e) := ⟨(R_string_len _), ⟨rfl, fun h0 => ⟨rfl, fun h1 => fun e1 he1 => ⟨R_string_get he1, fun r2 hr2 => ⟨hc_r3_has _ _ _ hr2, ⟨rfl, fun h2 => ⟨h1, fun e3 he3 => ⟨R_string_get he3, ⟨(R_string_map [e3]), ⟨(decide_eq_true (R_string_all _)), ⟨(by rw [R_string_len, R_string_len]), fun h3 => ⟨(R_string_append _ _), rfl⟩, fun h3 => trivial⟩⟩⟩⟩⟩, fun h2 => rfl⟩⟩⟩, fun h1 => trivial⟩, fun h0 => rfl⟩⟩
theorem r3_Names_L2_m {c_r3_has d_r3_has : (List ByteArray) → ByteArray → Option Bool} (h_r3_has : ∀ (a0 : (List ByteArray)) (a1 : ByteArray), Le (c_r3_has a0 a1) (d_r3_has a0 a1)) (a : r3_Names_L2_A) : Le (r3_Names_L2_b c_r3_has a) (r3_Names_L2_b d_r3_has a) := by
  unfold r3_Names_L2_b
  exact .cond (.cond (.bind (.refl (a.x5[(Int.toNat a.x6)]?)) fun e1 => .bind (h_r3_has _ _) fun r2 => .refl _) (.refl _)) (.refl _)
theorem r3_Names_L2_c {c_r3_has : Nat → (List ByteArray) → ByteArray → Option Bool} {d_r3_has : (List ByteArray) → ByteArray → Option Bool} (h_r3_has : ∀ (a0 : (List ByteArray)) (a1 : ByteArray), Cv (fun k => c_r3_has k a0 a1) (d_r3_has a0 a1)) (a : r3_Names_L2_A) : Cv (fun k => r3_Names_L2_b (c_r3_has k) a) (r3_Names_L2_b d_r3_has a) := by
  unfold r3_Names_L2_b
  exact .cond (.cond (.bind (.const (a.x5[(Int.toNat a.x6)]?)) fun e1 => .bind (h_r3_has _ _) fun r2 => by exact .const _) (by exact .const _)) (by exact .const _)
def r3_Names_L2.s (k : Nat) (c_r3_has : (List ByteArray) → ByteArray → Option Bool) : r3_Names_L2_A → Option r3_Names_L2_O0 := iter (r3_Names_L2_b c_r3_has) k
theorem r3_Names_L2_ok (call : CallF) (k : Nat) (c_r3_has : (List ByteArray) → ByteArray → Option Bool) (hc_r3_has : ∀ (a0 : (List ByteArray)) (a1 : ByteArray) (r : Bool), c_r3_has a0 a1 = some r → (call 49 [.sl (R_string a0), .sc (.string a1)] []) = some (r3_has_e r)) (a : r3_Names_L2_A) (r : r3_Names_L2_O0) (h : r3_Names_L2.s k c_r3_has a = some r) : loopsF Tryd.prog G.kd call 0 (G.an 29) k (loopAt Tryd.prog 29 9) (r3_Names_L2_s a) = some (r3_Names_L2_e r) :=
  loop_ok (fun a => r3_Names_L2_t Tryd.prog call c_r3_has a) (fun a => r3_Names_L2_d _ call c_r3_has a) (fun a => r3_Names_L2_n call c_r3_has a) (fun a => r3_Names_L2_k _ call _ c_r3_has hc_r3_has a) (fun r => nofun) h
theorem r3_Names_L2.m {j k : Nat} (hj : j ≤ k) (c_r3_has : (List ByteArray) → ByteArray → Option Bool) (d_r3_has : (List ByteArray) → ByteArray → Option Bool) (h_r3_has : ∀ (a0 : (List ByteArray)) (a1 : ByteArray), Le (c_r3_has a0 a1) (d_r3_has a0 a1)) (a : r3_Names_L2_A) : Le (r3_Names_L2.s j c_r3_has a) (r3_Names_L2.s k d_r3_has a) := Le.iter (fun a => r3_Names_L2_m h_r3_has a) hj a
noncomputable def r3_Names_L2.w (c_r3_has : (List ByteArray) → ByteArray → Option Bool) : r3_Names_L2_A → Option r3_Names_L2_O0 := loopW (r3_Names_L2_b c_r3_has)
theorem r3_Names_L2.cv (c_r3_has : Nat → (List ByteArray) → ByteArray → Option Bool) (d_r3_has : (List ByteArray) → ByteArray → Option Bool) (h_r3_has : ∀ (a0 : (List ByteArray)) (a1 : ByteArray), Cv (fun k => c_r3_has k a0 a1) (d_r3_has a0 a1)) (a : r3_Names_L2_A) : Cv (fun k => r3_Names_L2.s k (c_r3_has k) a) (r3_Names_L2.w d_r3_has a) := Cv.iter (fun a => r3_Names_L2_c h_r3_has a) a
structure r3_Names_L1_A where
  x4 : Int
  h0 : T_api_Expr
  r1 : (List ByteArray)
def r3_Names_L1_s (a : r3_Names_L1_A) : St := { n := 47, nx := 2, env := [(1, .ptr 0 0), (3, .arr 1), (4, .sc (.int .i64 a.x4))], heap := [(0, .box [] (C_api_Expr a.h0)), (1, .arr true 1 (R_string a.r1))] }
def r3_Names_L1_e (a : (List ByteArray)) : Ex × St := (.exit 0, { n := 47, nx := 1, env := [(3, .arr 0)], heap := [(0, .arr true 1 (R_string a))] })
def r3_Names_L1_b (c_r3_Names : T_api_Expr → Option (List ByteArray)) (l_r3_Names_L2 : r3_Names_L2_A → Option r3_Names_L2_O0) (a : r3_Names_L1_A) : Option (r3_Names_L1_A ⊕ (List ByteArray)) := (bif (decide (a.x4 < (((a.h0.L.length) : Nat) : Int))) then (bif (decide (0 ≤ a.x4)) then ((a.h0.L[(Int.toNat a.x4)]?).bind fun (e1 : T_api_Expr) => ((c_r3_Names e1).bind fun (r2 : (List ByteArray)) => ((l_r3_Names_L2 (r3_Names_L2_A.mk a.x4 r2 (0 : Int) a.h0 a.r1)).bind (fun (o3 : r3_Names_L2_O0) => (some (.inl (r3_Names_L1_A.mk (w64 (o3.x4 + (1 : Int))) o3.h0 o3.r1))))))) else none) else (some (.inr a.r1)))
def r3_Names_L1_t (P : Program) (call : CallF) (c_r3_Names : T_api_Expr → Option (List ByteArray)) (l_r3_Names_L2 : r3_Names_L2_A → Option r3_Names_L2_O0) (a : r3_Names_L1_A) : Tr (r3_Names_L1_A ⊕ (List ByteArray)) (Ex × St) := (.num ((R_api_Expr a.h0.L).length) (a.h0.L.length) (.as (decide (a.x4 < (((a.h0.L.length) : Nat) : Int))) (.as (decide (0 ≤ a.x4)) (.row ((R_api_Expr a.h0.L)[(Int.toNat a.x4)]?) (a.h0.L[(Int.toNat a.x4)]?) C_api_Expr fun (e1 : T_api_Expr) => (.call (call 29 [.agg (C_api_Expr e1)] []) (c_r3_Names e1) r3_Names_e fun (r2 : (List ByteArray)) => (.loop (loopAt P 29 9) (r3_Names_L2_s (r3_Names_L2_A.mk a.x4 r2 (0 : Int) a.h0 a.r1)) (l_r3_Names_L2 (r3_Names_L2_A.mk a.x4 r2 (0 : Int) a.h0 a.r1)) r3_Names_L2_e (fun (o3 : r3_Names_L2_O0) => (lf r3_Names_L1_s (r3_Names_L1_A.mk (w64 (o3.x4 + (1 : Int))) o3.h0 o3.r1)))))) .fail) (rx r3_Names_L1_e a.r1)))
theorem r3_Names_L1_d (P : Program) (call : CallF) (c_r3_Names : T_api_Expr → Option (List ByteArray)) (l_r3_Names_L2 : r3_Names_L2_A → Option r3_Names_L2_O0) (a : r3_Names_L1_A) : (r3_Names_L1_t P call c_r3_Names l_r3_Names_L2 a).den = r3_Names_L1_b c_r3_Names l_r3_Names_L2 a := rfl
theorem r3_Names_L1_n (call : CallF) (c_r3_Names : T_api_Expr → Option (List ByteArray)) (l_r3_Names_L2 : r3_Names_L2_A → Option r3_Names_L2_O0) (a : r3_Names_L1_A) : (r3_Names_L1_t Tryd.prog call c_r3_Names l_r3_Names_L2 a).norm (roundT Tryd.prog G.kd call 0 (G.an 29) (loopAt Tryd.prog 29 5) (r3_Names_L1_s a)) = r3_Names_L1_t Tryd.prog call c_r3_Names l_r3_Names_L2 a := by kernel_rfl
theorem r3_Names_L1_k (P : Program) (call : CallF) (lp : Loops) (c_r3_Names : T_api_Expr → Option (List ByteArray)) (l_r3_Names_L2 : r3_Names_L2_A → Option r3_Names_L2_O0) (hc_r3_Names : ∀ (a0 : T_api_Expr) (r : (List ByteArray)), c_r3_Names a0 = some r → (call 29 [.agg (C_api_Expr a0)] []) = some (r3_Names_e r)) (hl_r3_Names_L2 : ∀ (a : r3_Names_L2_A) (r : r3_Names_L2_O0), l_r3_Names_L2 a = some r → lp (loopAt P 29 9) (r3_Names_L2_s a) = some (r3_Names_L2_e r)) (a : r3_Names_L1_A) : (r3_Names_L1_t P call c_r3_Names l_r3_Names_L2 a).ok lp (Sum.elim (fun a => (.norm, r3_Names_L1_s a)) r3_Names_L1_e) := ⟨(R_api_Expr_len _), ⟨rfl, fun h0 => ⟨rfl, fun h1 => fun e1 he1 => ⟨R_api_Expr_get he1, fun r2 hr2 => ⟨hc_r3_Names _ _ hr2, fun o3 ho3 => ⟨hl_r3_Names_L2 _ _ ho3, rfl⟩⟩⟩, fun h1 => trivial⟩, fun h0 => rfl⟩⟩
theorem r3_Names_L1_m {c_r3_Names d_r3_Names : T_api_Expr → Option (List ByteArray)} (h_r3_Names : ∀ (a0 : T_api_Expr), Le (c_r3_Names a0) (d_r3_Names a0)) {l_r3_Names_L2 m_r3_Names_L2 : r3_Names_L2_A → Option r3_Names_L2_O0} (hl_r3_Names_L2 : ∀ a, Le (l_r3_Names_L2 a) (m_r3_Names_L2 a)) (a : r3_Names_L1_A) : Le (r3_Names_L1_b c_r3_Names l_r3_Names_L2 a) (r3_Names_L1_b d_r3_Names m_r3_Names_L2 a) := by
  unfold r3_Names_L1_b
  exact .cond (.cond (.bind (.refl (a.h0.L[(Int.toNat a.x4)]?)) fun e1 => .bind (h_r3_Names _) fun r2 => .bind (hl_r3_Names_L2 _) (fun o3 => .refl _)) (.refl _)) (.refl _)
theorem r3_Names_L1_c {c_r3_Names : Nat → T_api_Expr → Option (List ByteArray)} {d_r3_Names : T_api_Expr → Option (List ByteArray)} (h_r3_Names : ∀ (a0 : T_api_Expr), Cv (fun k => c_r3_Names k a0) (d_r3_Names a0)) {l_r3_Names_L2 : Nat → r3_Names_L2_A → Option r3_Names_L2_O0} {m_r3_Names_L2 : r3_Names_L2_A → Option r3_Names_L2_O0} (hl_r3_Names_L2 : ∀ a, Cv (fun k => l_r3_Names_L2 k a) (m_r3_Names_L2 a)) (a : r3_Names_L1_A) : Cv (fun k => r3_Names_L1_b (c_r3_Names k) (l_r3_Names_L2 k) a) (r3_Names_L1_b d_r3_Names m_r3_Names_L2 a) := by
  unfold r3_Names_L1_b
  exact .cond (.cond (.bind (.const (a.h0.L[(Int.toNat a.x4)]?)) fun e1 => .bind (h_r3_Names _) fun r2 => .bind (hl_r3_Names_L2 _) (fun o3 => by exact .const _)) (by exact .const _)) (by exact .const _)
def r3_Names_L1.s (k : Nat) (c_r3_Names : T_api_Expr → Option (List ByteArray)) (c_r3_has : (List ByteArray) → ByteArray → Option Bool) : r3_Names_L1_A → Option (List ByteArray) := iter (r3_Names_L1_b c_r3_Names (r3_Names_L2.s k c_r3_has)) k
theorem r3_Names_L1_ok (call : CallF) (k : Nat) (c_r3_Names : T_api_Expr → Option (List ByteArray)) (c_r3_has : (List ByteArray) → ByteArray → Option Bool) (hc_r3_Names : ∀ (a0 : T_api_Expr) (r : (List ByteArray)), c_r3_Names a0 = some r → (call 29 [.agg (C_api_Expr a0)] []) = some (r3_Names_e r)) (hc_r3_has : ∀ (a0 : (List ByteArray)) (a1 : ByteArray) (r : Bool), c_r3_has a0 a1 = some r → (call 49 [.sl (R_string a0), .sc (.string a1)] []) = some (r3_has_e r)) (a : r3_Names_L1_A) (r : (List ByteArray)) (h : r3_Names_L1.s k c_r3_Names c_r3_has a = some r) : loopsF Tryd.prog G.kd call 0 (G.an 29) k (loopAt Tryd.prog 29 5) (r3_Names_L1_s a) = some (r3_Names_L1_e r) :=
  loop_ok (fun a => r3_Names_L1_t Tryd.prog call c_r3_Names (r3_Names_L2.s k c_r3_has) a) (fun a => r3_Names_L1_d _ call c_r3_Names (r3_Names_L2.s k c_r3_has) a) (fun a => r3_Names_L1_n call c_r3_Names (r3_Names_L2.s k c_r3_has) a) (fun a => r3_Names_L1_k _ call _ c_r3_Names (r3_Names_L2.s k c_r3_has) hc_r3_Names (r3_Names_L2_ok call k c_r3_has hc_r3_has) a) (fun r => nofun) h
theorem r3_Names_L1.m {j k : Nat} (hj : j ≤ k) (c_r3_Names : T_api_Expr → Option (List ByteArray)) (c_r3_has : (List ByteArray) → ByteArray → Option Bool) (d_r3_Names : T_api_Expr → Option (List ByteArray)) (d_r3_has : (List ByteArray) → ByteArray → Option Bool) (h_r3_Names : ∀ (a0 : T_api_Expr), Le (c_r3_Names a0) (d_r3_Names a0)) (h_r3_has : ∀ (a0 : (List ByteArray)) (a1 : ByteArray), Le (c_r3_has a0 a1) (d_r3_has a0 a1)) (a : r3_Names_L1_A) : Le (r3_Names_L1.s j c_r3_Names c_r3_has a) (r3_Names_L1.s k d_r3_Names d_r3_has a) := Le.iter (fun a => r3_Names_L1_m h_r3_Names (r3_Names_L2.m hj c_r3_has d_r3_has h_r3_has) a) hj a
noncomputable def r3_Names_L1.w (c_r3_Names : T_api_Expr → Option (List ByteArray)) (c_r3_has : (List ByteArray) → ByteArray → Option Bool) : r3_Names_L1_A → Option (List ByteArray) := loopW (r3_Names_L1_b c_r3_Names (r3_Names_L2.w c_r3_has))
theorem r3_Names_L1.cv (c_r3_Names : Nat → T_api_Expr → Option (List ByteArray)) (c_r3_has : Nat → (List ByteArray) → ByteArray → Option Bool) (d_r3_Names : T_api_Expr → Option (List ByteArray)) (d_r3_has : (List ByteArray) → ByteArray → Option Bool) (h_r3_Names : ∀ (a0 : T_api_Expr), Cv (fun k => c_r3_Names k a0) (d_r3_Names a0)) (h_r3_has : ∀ (a0 : (List ByteArray)) (a1 : ByteArray), Cv (fun k => c_r3_has k a0 a1) (d_r3_has a0 a1)) (a : r3_Names_L1_A) : Cv (fun k => r3_Names_L1.s k (c_r3_Names k) (c_r3_has k) a) (r3_Names_L1.w d_r3_Names d_r3_has a) := Cv.iter (fun a => r3_Names_L1_c h_r3_Names (r3_Names_L2.cv c_r3_has d_r3_has h_r3_has) a) a
def r3_Names_b (l_r3_Names_L1 : r3_Names_L1_A → Option (List ByteArray)) (a0 : T_api_Expr) : Option (List ByteArray) := (bif (a0.Kind == (2 : Int)) then (some [a0.Name]) else ((l_r3_Names_L1 (r3_Names_L1_A.mk (0 : Int) a0 ([] : List ByteArray))).bind (fun (o1 : (List ByteArray)) => (some o1))))
def r3_Names_t (P : Program) (call : CallF) (l_r3_Names_L1 : r3_Names_L1_A → Option (List ByteArray)) (a0 : T_api_Expr) : Tr (List ByteArray) (AV × Heap) := (.as (a0.Kind == (2 : Int)) (.rows [[.sc (.string a0.Name)]] (R_string [a0.Name]) (rt r3_Names_e [a0.Name])) (.loop (loopAt P 29 5) (r3_Names_L1_s (r3_Names_L1_A.mk (0 : Int) a0 ([] : List ByteArray))) (l_r3_Names_L1 (r3_Names_L1_A.mk (0 : Int) a0 ([] : List ByteArray))) r3_Names_L1_e (fun (o1 : (List ByteArray)) => (rt r3_Names_e o1))))
theorem r3_Names_d (P : Program) (call : CallF) (l_r3_Names_L1 : r3_Names_L1_A → Option (List ByteArray)) (a0 : T_api_Expr) : (r3_Names_t P call l_r3_Names_L1 a0).den = r3_Names_b l_r3_Names_L1 a0 := rfl
theorem r3_Names_n (call : CallF) (l_r3_Names_L1 : r3_Names_L1_A → Option (List ByteArray)) (a0 : T_api_Expr) : (r3_Names_t Tryd.prog call l_r3_Names_L1 a0).norm (bodyT Tryd.prog call G 29 [.agg (C_api_Expr a0)] []) = r3_Names_t Tryd.prog call l_r3_Names_L1 a0 := by kernel_rfl
theorem r3_Names_k (P : Program) (call : CallF) (lp : Loops) (l_r3_Names_L1 : r3_Names_L1_A → Option (List ByteArray)) (hl_r3_Names_L1 : ∀ (a : r3_Names_L1_A) (r : (List ByteArray)), l_r3_Names_L1 a = some r → lp (loopAt P 29 5) (r3_Names_L1_s a) = some (r3_Names_L1_e r)) (a0 : T_api_Expr) : (r3_Names_t P call l_r3_Names_L1 a0).ok lp r3_Names_e := ⟨rfl, fun h0 => ⟨(R_string_map [a0.Name]), rfl⟩, fun h0 => fun o1 ho1 => ⟨hl_r3_Names_L1 _ _ ho1, rfl⟩⟩
theorem r3_Names_m {l_r3_Names_L1 m_r3_Names_L1 : r3_Names_L1_A → Option (List ByteArray)} (hl_r3_Names_L1 : ∀ a, Le (l_r3_Names_L1 a) (m_r3_Names_L1 a)) (a0 : T_api_Expr) : Le (r3_Names_b l_r3_Names_L1 a0) (r3_Names_b m_r3_Names_L1 a0) := by
  unfold r3_Names_b
  exact .cond (.refl _) (.bind (hl_r3_Names_L1 _) (fun o1 => .refl _))
theorem r3_Names_c {l_r3_Names_L1 : Nat → r3_Names_L1_A → Option (List ByteArray)} {m_r3_Names_L1 : r3_Names_L1_A → Option (List ByteArray)} (hl_r3_Names_L1 : ∀ a, Cv (fun k => l_r3_Names_L1 k a) (m_r3_Names_L1 a)) (a0 : T_api_Expr) : Cv (fun k => r3_Names_b (l_r3_Names_L1 k) a0) (r3_Names_b m_r3_Names_L1 a0) := by
  unfold r3_Names_b
  exact .cond (by exact .const _) (.bind (hl_r3_Names_L1 _) (fun o1 => by exact .const _))
def r3_Names.s : Nat → T_api_Expr → Option (List ByteArray)
  | 0, _ => none
  | k + 1, a0 => r3_Names_b (r3_Names_L1.s k (fun a0 => r3_Names.s k a0) (fun a0 a1 => r3_has.s k a0 a1)) a0
termination_by structural k => k
theorem r3_Names_all : ∀ (k : Nat), ∀ (a0 : T_api_Expr) (r : (List ByteArray)), r3_Names.s k a0 = some r → evalFn Tryd.prog G k 29 [.agg (C_api_Expr a0)] [] = some (r3_Names_e r)
  | 0 => fun _ _ h => (nomatch h)
  | k + 1 => by
    have i_r3_Names := r3_Names_all k
    exact fun a0 r h => fn_ok rfl (r3_Names_t Tryd.prog (evalFn Tryd.prog G k) (r3_Names_L1.s k (fun a0 => r3_Names.s k a0) (fun a0 a1 => r3_has.s k a0 a1)) a0) (r3_Names_n _ (r3_Names_L1.s k (fun a0 => r3_Names.s k a0) (fun a0 a1 => r3_has.s k a0 a1)) a0) (r3_Names_k _ _ _ (r3_Names_L1.s k (fun a0 => r3_Names.s k a0) (fun a0 a1 => r3_has.s k a0 a1))  (r3_Names_L1_ok _ k (fun a0 => r3_Names.s k a0) (fun a0 a1 => r3_has.s k a0 a1) (i_r3_Names) (r3_has.ok k)) a0) ((r3_Names_d _ _ (r3_Names_L1.s k (fun a0 => r3_Names.s k a0) (fun a0 a1 => r3_has.s k a0 a1)) a0).trans h)
theorem r3_Names.ok (k : Nat) : ∀ (a0 : T_api_Expr) (r : (List ByteArray)), r3_Names.s k a0 = some r → evalFn Tryd.prog G k 29 [.agg (C_api_Expr a0)] [] = some (r3_Names_e r) := (r3_Names_all k)
theorem r3_Names_mall : ∀ (k : Nat), (∀ (a0 : T_api_Expr), Le (r3_Names.s k a0) (r3_Names.s (k + 1) a0))
  | 0 => fun _ _ h => (nomatch h)
  | k + 1 => by
    have i_r3_Names := r3_Names_mall k
    exact fun a0 => r3_Names_m (r3_Names_L1.m (Nat.le_succ k) (fun a0 => r3_Names.s k a0) (fun a0 a1 => r3_has.s k a0 a1) (fun a0 => r3_Names.s (k + 1) a0) (fun a0 a1 => r3_has.s (k + 1) a0 a1) (i_r3_Names) (r3_has.mono k)) a0
theorem r3_Names.mono (k : Nat) : ∀ (a0 : T_api_Expr), Le (r3_Names.s k a0) (r3_Names.s (k + 1) a0) := (r3_Names_mall k)
noncomputable def r3_Names (a0 : T_api_Expr) : Option (List ByteArray) := lim fun k => r3_Names.s k a0
theorem r3_Names.cv (a0 : T_api_Expr) : Cv (fun k => r3_Names.s k a0) (r3_Names a0) := .lim fun k => r3_Names.mono k a0
noncomputable def r3_Names_L2 : r3_Names_L2_A → Option r3_Names_L2_O0 := r3_Names_L2.w r3_has
theorem r3_Names_L2.eq (a : r3_Names_L2_A) : r3_Names_L2 a = (r3_Names_L2_b r3_has a).bind (Sum.elim r3_Names_L2 some) := loopW_eq _ _
noncomputable def r3_Names_L1 : r3_Names_L1_A → Option (List ByteArray) := r3_Names_L1.w r3_Names r3_has
theorem r3_Names_L1.eq (a : r3_Names_L1_A) : r3_Names_L1 a = (r3_Names_L1_b r3_Names r3_Names_L2 a).bind (Sum.elim r3_Names_L1 some) := loopW_eq _ _
theorem r3_Names.eq (a0 : T_api_Expr) : r3_Names a0 = r3_Names_b r3_Names_L1 a0 := Cv.uniq (r3_Names.cv a0).shift (r3_Names_c (r3_Names_L1.cv (fun k => fun a0 => r3_Names.s k a0) (fun k => fun a0 a1 => r3_has.s k a0 a1) r3_Names r3_has r3_Names.cv r3_has.cv) a0)
def w3_ExprBack_e (r : Bool) : AV × Heap := (.sc (.bool r), [])
structure w3_ExprBack_L1_A where
  x4 : ByteArray
  x6 : Bool
  x7 : (List ByteArray)
  x8 : (List ByteArray)
  x9 : Int
  h0 : T_api_Expr
  h1 : T_api_Expr
structure w3_ExprBack_L1_O1 where
  x4 : ByteArray
  x6 : Bool
  h0 : T_api_Expr
  h1 : T_api_Expr
def w3_ExprBack_L1_s (a : w3_ExprBack_L1_A) : St := { n := 60, nx := 2, env := [(3, .ptr 0 0), (4, .sc (.string a.x4)), (5, .ptr 1 0), (6, .sc (.bool a.x6)), (7, .sl (R_string a.x7)), (8, .sl (R_string a.x8)), (9, .sc (.int .i64 a.x9))], heap := [(0, .box [] (C_api_Expr a.h0)), (1, .box [] (C_api_Expr a.h1))] }
def w3_ExprBack_L1_e0 (a : Bool) : Ex × St := (.ret, { n := 60, nx := 0, env := [(2, .sc (.bool a))], heap := [] })
def w3_ExprBack_L1_e1 (a : w3_ExprBack_L1_O1) : Ex × St := (.exit 0, { n := 60, nx := 2, env := [(3, .ptr 0 0), (4, .sc (.string a.x4)), (5, .ptr 1 0), (6, .sc (.bool a.x6))], heap := [(0, .box [] (C_api_Expr a.h0)), (1, .box [] (C_api_Expr a.h1))] })
def w3_ExprBack_L1_e (a : (Bool ⊕ w3_ExprBack_L1_O1)) : Ex × St := Sum.elim w3_ExprBack_L1_e0 w3_ExprBack_L1_e1 a
def w3_ExprBack_L1_b  (a : w3_ExprBack_L1_A) : Option (w3_ExprBack_L1_A ⊕ (Bool ⊕ w3_ExprBack_L1_O1)) := (bif (decide (a.x9 < (((a.x7.length) : Nat) : Int))) then (bif (decide (0 ≤ a.x9)) then ((a.x7[(Int.toNat a.x9)]?).bind fun (e1 : ByteArray) => ((a.x8[(Int.toNat a.x9)]?).bind fun (e2 : ByteArray) => (bif (!(eqS e1 e2)) then (some (.inr (.inl false))) else (some (.inl (w3_ExprBack_L1_A.mk a.x4 a.x6 a.x7 a.x8 (w64 (a.x9 + (1 : Int))) a.h0 a.h1)))))) else none) else (some (.inr (.inr (w3_ExprBack_L1_O1.mk a.x4 a.x6 a.h0 a.h1)))))
def w3_ExprBack_L1_t (P : Program) (call : CallF)  (a : w3_ExprBack_L1_A) : Tr (w3_ExprBack_L1_A ⊕ (Bool ⊕ w3_ExprBack_L1_O1)) (Ex × St) := (.num ((R_string a.x7).length) (a.x7.length) (.as (decide (a.x9 < (((a.x7.length) : Nat) : Int))) (.as (decide (0 ≤ a.x9)) (.row ((R_string a.x7)[(Int.toNat a.x9)]?) (a.x7[(Int.toNat a.x9)]?) C_string fun (e1 : ByteArray) => (.yes (decide (0 ≤ a.x9)) (.row ((R_string a.x8)[(Int.toNat a.x9)]?) (a.x8[(Int.toNat a.x9)]?) C_string fun (e2 : ByteArray) => (.as (!(eqS e1 e2)) (rx w3_ExprBack_L1_e (.inl false)) (lf w3_ExprBack_L1_s (w3_ExprBack_L1_A.mk a.x4 a.x6 a.x7 a.x8 (w64 (a.x9 + (1 : Int))) a.h0 a.h1)))))) .fail) (rx w3_ExprBack_L1_e (.inr (w3_ExprBack_L1_O1.mk a.x4 a.x6 a.h0 a.h1)))))
theorem w3_ExprBack_L1_d (P : Program) (call : CallF)  (a : w3_ExprBack_L1_A) : (w3_ExprBack_L1_t P call  a).den = w3_ExprBack_L1_b  a := rfl
theorem w3_ExprBack_L1_n (call : CallF)  (a : w3_ExprBack_L1_A) : (w3_ExprBack_L1_t Tryd.prog call  a).norm (roundT Tryd.prog G.kd call 0 (G.an 13) (loopAt Tryd.prog 13 12) (w3_ExprBack_L1_s a)) = w3_ExprBack_L1_t Tryd.prog call  a := by kernel_rfl
theorem w3_ExprBack_L1_k (P : Program) (call : CallF) (lp : Loops)   (a : w3_ExprBack_L1_A) : (w3_ExprBack_L1_t P call  a).ok lp (Sum.elim (fun a => (.norm, w3_ExprBack_L1_s a)) w3_ExprBack_L1_e) := ⟨(R_string_len _), ⟨rfl, fun h0 => ⟨rfl, fun h1 => fun e1 he1 => ⟨R_string_get he1, ⟨h1, fun e2 he2 => ⟨R_string_get he2, ⟨rfl, fun h2 => rfl, fun h2 => rfl⟩⟩⟩⟩, fun h1 => trivial⟩, fun h0 => rfl⟩⟩
def w3_ExprBack_L1.s (k : Nat)  : w3_ExprBack_L1_A → Option (Bool ⊕ w3_ExprBack_L1_O1) := iter (w3_ExprBack_L1_b ) k
theorem w3_ExprBack_L1_ok (call : CallF) (k : Nat)   (a : w3_ExprBack_L1_A) (r : (Bool ⊕ w3_ExprBack_L1_O1)) (h : w3_ExprBack_L1.s k  a = some r) : loopsF Tryd.prog G.kd call 0 (G.an 13) k (loopAt Tryd.prog 13 12) (w3_ExprBack_L1_s a) = some (w3_ExprBack_L1_e r) :=
  loop_ok (fun a => w3_ExprBack_L1_t Tryd.prog call  a) (fun a => w3_ExprBack_L1_d _ call  a) (fun a => w3_ExprBack_L1_n call  a) (fun a => w3_ExprBack_L1_k _ call _   a) (fun r => by cases r <;> nofun) h
theorem w3_ExprBack_L1.m {j k : Nat} (hj : j ≤ k)    (a : w3_ExprBack_L1_A) : Le (w3_ExprBack_L1.s j  a) (w3_ExprBack_L1.s k  a) := Le.iter (fun a => .refl _) hj a
noncomputable def w3_ExprBack_L1.w  : w3_ExprBack_L1_A → Option (Bool ⊕ w3_ExprBack_L1_O1) := loopW (w3_ExprBack_L1_b )
theorem w3_ExprBack_L1.cv    (a : w3_ExprBack_L1_A) : Cv (fun k => w3_ExprBack_L1.s k  a) (w3_ExprBack_L1.w  a) := Cv.iter (fun a => by exact .const _) a
def w3_ExprBack_b (c_w3_known : Option Bool) (c_w3_Few : (List T_w3_Raw) → Option Bool) (c_w3_One : (List T_w3_Raw) → Option T_api_Expr) (c_expr_Text : T_api_Expr → Option ByteArray) (c_expr_Parse : ByteArray → Option (T_api_Expr × Bool)) (c_expr_Names : T_api_Expr → Option (List ByteArray)) (c_r3_Names : T_api_Expr → Option (List ByteArray)) (c_r3_Text : T_api_Expr → Option ByteArray) (c_r3_Same : T_api_Expr → T_api_Expr → Option Bool) (l_w3_ExprBack_L1 : w3_ExprBack_L1_A → Option (Bool ⊕ w3_ExprBack_L1_O1)) (a0 : (List T_w3_Raw)) : Option Bool := ((c_w3_known).bind fun (r1 : Bool) => (bif (!r1) then (some false) else ((c_w3_Few a0).bind fun (r2 : Bool) => (bif (!r2) then (some true) else ((c_w3_One a0).bind fun (r3 : T_api_Expr) => ((c_expr_Text r3).bind fun (r4 : ByteArray) => ((c_expr_Parse r4).bind fun (r5 : (T_api_Expr × Bool)) => ((c_expr_Names r3).bind fun (r6 : (List ByteArray)) => ((c_r3_Names r3).bind fun (r7 : (List ByteArray)) => (bif ((((r6.length) : Nat) : Int) != (((r7.length) : Nat) : Int)) then (some false) else ((l_w3_ExprBack_L1 (w3_ExprBack_L1_A.mk r4 r5.2 r6 r7 (0 : Int) r3 r5.1)).bind fun x => Sum.elim (fun (o8 : Bool) => (some o8)) (fun (o9 : w3_ExprBack_L1_O1) => ((c_r3_Text o9.h0).bind fun (r10 : ByteArray) => (bif (eqS o9.x4 r10) then (bif o9.x6 then ((c_r3_Same o9.h0 o9.h1).bind fun (r11 : Bool) => (some r11)) else (some false)) else (some false)))) x)))))))))))
def w3_ExprBack_t (P : Program) (call : CallF) (c_w3_known : Option Bool) (c_w3_Few : (List T_w3_Raw) → Option Bool) (c_w3_One : (List T_w3_Raw) → Option T_api_Expr) (c_expr_Text : T_api_Expr → Option ByteArray) (c_expr_Parse : ByteArray → Option (T_api_Expr × Bool)) (c_expr_Names : T_api_Expr → Option (List ByteArray)) (c_r3_Names : T_api_Expr → Option (List ByteArray)) (c_r3_Text : T_api_Expr → Option ByteArray) (c_r3_Same : T_api_Expr → T_api_Expr → Option Bool) (l_w3_ExprBack_L1 : w3_ExprBack_L1_A → Option (Bool ⊕ w3_ExprBack_L1_O1)) (a0 : (List T_w3_Raw)) : Tr Bool (AV × Heap) := (.call (call 14 [] []) (c_w3_known) w3_known_e fun (r1 : Bool) => (.as (!r1) (rt w3_ExprBack_e false) (.call (call 15 [.sl (R_w3_Raw a0)] []) (c_w3_Few a0) w3_Few_e fun (r2 : Bool) => (.as (!r2) (rt w3_ExprBack_e true) (.call (call 17 [.sl (R_w3_Raw a0)] []) (c_w3_One a0) w3_One_e fun (r3 : T_api_Expr) => (.call (call 27 [.agg (C_api_Expr r3)] []) (c_expr_Text r3) expr_Text_e fun (r4 : ByteArray) => (.call (call 19 [.sc (.string r4)] []) (c_expr_Parse r4) expr_Parse_e fun (r5 : (T_api_Expr × Bool)) => (.call (call 28 [.agg (C_api_Expr r3)] []) (c_expr_Names r3) expr_Names_e fun (r6 : (List ByteArray)) => (.call (call 29 [.agg (C_api_Expr r3)] []) (c_r3_Names r3) r3_Names_e fun (r7 : (List ByteArray)) => (.num ((R_string r6).length) (r6.length) (.num ((R_string r7).length) (r7.length) (.as ((((r6.length) : Nat) : Int) != (((r7.length) : Nat) : Int)) (rt w3_ExprBack_e false) (.loop2 (loopAt P 13 12) (w3_ExprBack_L1_s (w3_ExprBack_L1_A.mk r4 r5.2 r6 r7 (0 : Int) r3 r5.1)) (l_w3_ExprBack_L1 (w3_ExprBack_L1_A.mk r4 r5.2 r6 r7 (0 : Int) r3 r5.1)) w3_ExprBack_L1_e0 w3_ExprBack_L1_e1 (fun (o8 : Bool) => (rt w3_ExprBack_e o8)) (fun (o9 : w3_ExprBack_L1_O1) => (.call (call 16 [.agg (C_api_Expr o9.h0)] []) (c_r3_Text o9.h0) r3_Text_e fun (r10 : ByteArray) => (.as (eqS o9.x4 r10) (.yes (eqS o9.x4 r10) (.as o9.x6 (yesN 2 o9.x6 (.call (call 21 [.agg (C_api_Expr o9.h0), .agg (C_api_Expr o9.h1)] []) (c_r3_Same o9.h0 o9.h1) r3_Same_e fun (r11 : Bool) => (.yes o9.x6 (rt w3_ExprBack_e r11)))) (noN 3 o9.x6 (rt w3_ExprBack_e false)))) (.no (eqS o9.x4 r10) (noN 4 false (rt w3_ExprBack_e false)))))))))))))))))))
theorem w3_ExprBack_d (P : Program) (call : CallF) (c_w3_known : Option Bool) (c_w3_Few : (List T_w3_Raw) → Option Bool) (c_w3_One : (List T_w3_Raw) → Option T_api_Expr) (c_expr_Text : T_api_Expr → Option ByteArray) (c_expr_Parse : ByteArray → Option (T_api_Expr × Bool)) (c_expr_Names : T_api_Expr → Option (List ByteArray)) (c_r3_Names : T_api_Expr → Option (List ByteArray)) (c_r3_Text : T_api_Expr → Option ByteArray) (c_r3_Same : T_api_Expr → T_api_Expr → Option Bool) (l_w3_ExprBack_L1 : w3_ExprBack_L1_A → Option (Bool ⊕ w3_ExprBack_L1_O1)) (a0 : (List T_w3_Raw)) : (w3_ExprBack_t P call c_w3_known c_w3_Few c_w3_One c_expr_Text c_expr_Parse c_expr_Names c_r3_Names c_r3_Text c_r3_Same l_w3_ExprBack_L1 a0).den = w3_ExprBack_b c_w3_known c_w3_Few c_w3_One c_expr_Text c_expr_Parse c_expr_Names c_r3_Names c_r3_Text c_r3_Same l_w3_ExprBack_L1 a0 := rfl
theorem w3_ExprBack_n (call : CallF) (c_w3_known : Option Bool) (c_w3_Few : (List T_w3_Raw) → Option Bool) (c_w3_One : (List T_w3_Raw) → Option T_api_Expr) (c_expr_Text : T_api_Expr → Option ByteArray) (c_expr_Parse : ByteArray → Option (T_api_Expr × Bool)) (c_expr_Names : T_api_Expr → Option (List ByteArray)) (c_r3_Names : T_api_Expr → Option (List ByteArray)) (c_r3_Text : T_api_Expr → Option ByteArray) (c_r3_Same : T_api_Expr → T_api_Expr → Option Bool) (l_w3_ExprBack_L1 : w3_ExprBack_L1_A → Option (Bool ⊕ w3_ExprBack_L1_O1)) (a0 : (List T_w3_Raw)) : (w3_ExprBack_t Tryd.prog call c_w3_known c_w3_Few c_w3_One c_expr_Text c_expr_Parse c_expr_Names c_r3_Names c_r3_Text c_r3_Same l_w3_ExprBack_L1 a0).norm (bodyT Tryd.prog call G 13 [.sl (R_w3_Raw a0)] []) = w3_ExprBack_t Tryd.prog call c_w3_known c_w3_Few c_w3_One c_expr_Text c_expr_Parse c_expr_Names c_r3_Names c_r3_Text c_r3_Same l_w3_ExprBack_L1 a0 := by kernel_rfl
theorem w3_ExprBack_k (P : Program) (call : CallF) (lp : Loops) (c_w3_known : Option Bool) (c_w3_Few : (List T_w3_Raw) → Option Bool) (c_w3_One : (List T_w3_Raw) → Option T_api_Expr) (c_expr_Text : T_api_Expr → Option ByteArray) (c_expr_Parse : ByteArray → Option (T_api_Expr × Bool)) (c_expr_Names : T_api_Expr → Option (List ByteArray)) (c_r3_Names : T_api_Expr → Option (List ByteArray)) (c_r3_Text : T_api_Expr → Option ByteArray) (c_r3_Same : T_api_Expr → T_api_Expr → Option Bool) (l_w3_ExprBack_L1 : w3_ExprBack_L1_A → Option (Bool ⊕ w3_ExprBack_L1_O1)) (hc_w3_known : ∀  (r : Bool), c_w3_known = some r → (call 14 [] []) = some (w3_known_e r)) (hc_w3_Few : ∀ (a0 : (List T_w3_Raw)) (r : Bool), c_w3_Few a0 = some r → (call 15 [.sl (R_w3_Raw a0)] []) = some (w3_Few_e r)) (hc_w3_One : ∀ (a0 : (List T_w3_Raw)) (r : T_api_Expr), c_w3_One a0 = some r → (call 17 [.sl (R_w3_Raw a0)] []) = some (w3_One_e r)) (hc_expr_Text : ∀ (a0 : T_api_Expr) (r : ByteArray), c_expr_Text a0 = some r → (call 27 [.agg (C_api_Expr a0)] []) = some (expr_Text_e r)) (hc_expr_Parse : ∀ (a0 : ByteArray) (r : (T_api_Expr × Bool)), c_expr_Parse a0 = some r → (call 19 [.sc (.string a0)] []) = some (expr_Parse_e r)) (hc_expr_Names : ∀ (a0 : T_api_Expr) (r : (List ByteArray)), c_expr_Names a0 = some r → (call 28 [.agg (C_api_Expr a0)] []) = some (expr_Names_e r)) (hc_r3_Names : ∀ (a0 : T_api_Expr) (r : (List ByteArray)), c_r3_Names a0 = some r → (call 29 [.agg (C_api_Expr a0)] []) = some (r3_Names_e r)) (hc_r3_Text : ∀ (a0 : T_api_Expr) (r : ByteArray), c_r3_Text a0 = some r → (call 16 [.agg (C_api_Expr a0)] []) = some (r3_Text_e r)) (hc_r3_Same : ∀ (a0 : T_api_Expr) (a1 : T_api_Expr) (r : Bool), c_r3_Same a0 a1 = some r → (call 21 [.agg (C_api_Expr a0), .agg (C_api_Expr a1)] []) = some (r3_Same_e r)) (hl_w3_ExprBack_L1 : ∀ (a : w3_ExprBack_L1_A) (r : (Bool ⊕ w3_ExprBack_L1_O1)), l_w3_ExprBack_L1 a = some r → lp (loopAt P 13 12) (w3_ExprBack_L1_s a) = some (w3_ExprBack_L1_e r)) (a0 : (List T_w3_Raw)) : (w3_ExprBack_t P call c_w3_known c_w3_Few c_w3_One c_expr_Text c_expr_Parse c_expr_Names c_r3_Names c_r3_Text c_r3_Same l_w3_ExprBack_L1 a0).ok lp w3_ExprBack_e := fun r1 hr1 => ⟨hc_w3_known _ hr1, ⟨rfl, fun h0 => rfl, fun h0 => fun r2 hr2 => ⟨hc_w3_Few _ _ hr2, ⟨rfl, fun h1 => rfl, fun h1 => fun r3 hr3 => ⟨hc_w3_One _ _ hr3, fun r4 hr4 => ⟨hc_expr_Text _ _ hr4, fun r5 hr5 => ⟨hc_expr_Parse _ _ hr5, fun r6 hr6 => ⟨hc_expr_Names _ _ hr6, fun r7 hr7 => ⟨hc_r3_Names _ _ hr7, ⟨(R_string_len _), ⟨(R_string_len _), ⟨rfl, fun h2 => rfl, fun h2 => ⟨fun o8 ho8 => ⟨hl_w3_ExprBack_L1 _ (.inl _) ho8, rfl⟩, fun o9 ho9 => ⟨hl_w3_ExprBack_L1 _ (.inr _) ho9, fun r10 hr10 => ⟨hc_r3_Text _ _ hr10, ⟨rfl, fun h3 => ⟨h3, ⟨rfl, fun h4 => yesN_ok 2 (h4) (fun r11 hr11 => ⟨hc_r3_Same _ _ _ hr11, ⟨h4, rfl⟩⟩), fun h4 => noN_ok 3 (h4) (rfl)⟩⟩, fun h3 => ⟨h3, noN_ok 4 (rfl) (rfl)⟩⟩⟩⟩⟩⟩⟩⟩⟩⟩⟩⟩⟩⟩⟩⟩⟩
theorem w3_ExprBack_m {c_w3_known d_w3_known : Option Bool} (h_w3_known : Le (c_w3_known ) (d_w3_known )) {c_w3_Few d_w3_Few : (List T_w3_Raw) → Option Bool} (h_w3_Few : ∀ (a0 : (List T_w3_Raw)), Le (c_w3_Few a0) (d_w3_Few a0)) {c_w3_One d_w3_One : (List T_w3_Raw) → Option T_api_Expr} (h_w3_One : ∀ (a0 : (List T_w3_Raw)), Le (c_w3_One a0) (d_w3_One a0)) {c_expr_Text d_expr_Text : T_api_Expr → Option ByteArray} (h_expr_Text : ∀ (a0 : T_api_Expr), Le (c_expr_Text a0) (d_expr_Text a0)) {c_expr_Parse d_expr_Parse : ByteArray → Option (T_api_Expr × Bool)} (h_expr_Parse : ∀ (a0 : ByteArray), Le (c_expr_Parse a0) (d_expr_Parse a0)) {c_expr_Names d_expr_Names : T_api_Expr → Option (List ByteArray)} (h_expr_Names : ∀ (a0 : T_api_Expr), Le (c_expr_Names a0) (d_expr_Names a0)) {c_r3_Names d_r3_Names : T_api_Expr → Option (List ByteArray)} (h_r3_Names : ∀ (a0 : T_api_Expr), Le (c_r3_Names a0) (d_r3_Names a0)) {c_r3_Text d_r3_Text : T_api_Expr → Option ByteArray} (h_r3_Text : ∀ (a0 : T_api_Expr), Le (c_r3_Text a0) (d_r3_Text a0)) {c_r3_Same d_r3_Same : T_api_Expr → T_api_Expr → Option Bool} (h_r3_Same : ∀ (a0 : T_api_Expr) (a1 : T_api_Expr), Le (c_r3_Same a0 a1) (d_r3_Same a0 a1)) {l_w3_ExprBack_L1 m_w3_ExprBack_L1 : w3_ExprBack_L1_A → Option (Bool ⊕ w3_ExprBack_L1_O1)} (hl_w3_ExprBack_L1 : ∀ a, Le (l_w3_ExprBack_L1 a) (m_w3_ExprBack_L1 a)) (a0 : (List T_w3_Raw)) : Le (w3_ExprBack_b c_w3_known c_w3_Few c_w3_One c_expr_Text c_expr_Parse c_expr_Names c_r3_Names c_r3_Text c_r3_Same l_w3_ExprBack_L1 a0) (w3_ExprBack_b d_w3_known d_w3_Few d_w3_One d_expr_Text d_expr_Parse d_expr_Names d_r3_Names d_r3_Text d_r3_Same m_w3_ExprBack_L1 a0) := by
  unfold w3_ExprBack_b
  exact .bind (h_w3_known) fun r1 => .cond (.refl _) (.bind (h_w3_Few _) fun r2 => .cond (.refl _) (.bind (h_w3_One _) fun r3 => .bind (h_expr_Text _) fun r4 => .bind (h_expr_Parse _) fun r5 => .bind (h_expr_Names _) fun r6 => .bind (h_r3_Names _) fun r7 => .cond (.refl _) (.bind (hl_w3_ExprBack_L1 _) fun x => .sum (fun o8 => .refl _) (fun o9 => .bind (h_r3_Text _) fun r10 => .cond (.cond (.bind (h_r3_Same _ _) fun r11 => .refl _) (.refl _)) (.refl _)) x)))
theorem w3_ExprBack_c {c_w3_known : Nat → Option Bool} {d_w3_known : Option Bool} (h_w3_known : Cv (fun k => c_w3_known k ) (d_w3_known )) {c_w3_Few : Nat → (List T_w3_Raw) → Option Bool} {d_w3_Few : (List T_w3_Raw) → Option Bool} (h_w3_Few : ∀ (a0 : (List T_w3_Raw)), Cv (fun k => c_w3_Few k a0) (d_w3_Few a0)) {c_w3_One : Nat → (List T_w3_Raw) → Option T_api_Expr} {d_w3_One : (List T_w3_Raw) → Option T_api_Expr} (h_w3_One : ∀ (a0 : (List T_w3_Raw)), Cv (fun k => c_w3_One k a0) (d_w3_One a0)) {c_expr_Text : Nat → T_api_Expr → Option ByteArray} {d_expr_Text : T_api_Expr → Option ByteArray} (h_expr_Text : ∀ (a0 : T_api_Expr), Cv (fun k => c_expr_Text k a0) (d_expr_Text a0)) {c_expr_Parse : Nat → ByteArray → Option (T_api_Expr × Bool)} {d_expr_Parse : ByteArray → Option (T_api_Expr × Bool)} (h_expr_Parse : ∀ (a0 : ByteArray), Cv (fun k => c_expr_Parse k a0) (d_expr_Parse a0)) {c_expr_Names : Nat → T_api_Expr → Option (List ByteArray)} {d_expr_Names : T_api_Expr → Option (List ByteArray)} (h_expr_Names : ∀ (a0 : T_api_Expr), Cv (fun k => c_expr_Names k a0) (d_expr_Names a0)) {c_r3_Names : Nat → T_api_Expr → Option (List ByteArray)} {d_r3_Names : T_api_Expr → Option (List ByteArray)} (h_r3_Names : ∀ (a0 : T_api_Expr), Cv (fun k => c_r3_Names k a0) (d_r3_Names a0)) {c_r3_Text : Nat → T_api_Expr → Option ByteArray} {d_r3_Text : T_api_Expr → Option ByteArray} (h_r3_Text : ∀ (a0 : T_api_Expr), Cv (fun k => c_r3_Text k a0) (d_r3_Text a0)) {c_r3_Same : Nat → T_api_Expr → T_api_Expr → Option Bool} {d_r3_Same : T_api_Expr → T_api_Expr → Option Bool} (h_r3_Same : ∀ (a0 : T_api_Expr) (a1 : T_api_Expr), Cv (fun k => c_r3_Same k a0 a1) (d_r3_Same a0 a1)) {l_w3_ExprBack_L1 : Nat → w3_ExprBack_L1_A → Option (Bool ⊕ w3_ExprBack_L1_O1)} {m_w3_ExprBack_L1 : w3_ExprBack_L1_A → Option (Bool ⊕ w3_ExprBack_L1_O1)} (hl_w3_ExprBack_L1 : ∀ a, Cv (fun k => l_w3_ExprBack_L1 k a) (m_w3_ExprBack_L1 a)) (a0 : (List T_w3_Raw)) : Cv (fun k => w3_ExprBack_b (c_w3_known k) (c_w3_Few k) (c_w3_One k) (c_expr_Text k) (c_expr_Parse k) (c_expr_Names k) (c_r3_Names k) (c_r3_Text k) (c_r3_Same k) (l_w3_ExprBack_L1 k) a0) (w3_ExprBack_b d_w3_known d_w3_Few d_w3_One d_expr_Text d_expr_Parse d_expr_Names d_r3_Names d_r3_Text d_r3_Same m_w3_ExprBack_L1 a0) := by
  unfold w3_ExprBack_b
  exact .bind (h_w3_known) fun r1 => .cond (by exact .const _) (.bind (h_w3_Few _) fun r2 => .cond (by exact .const _) (.bind (h_w3_One _) fun r3 => .bind (h_expr_Text _) fun r4 => .bind (h_expr_Parse _) fun r5 => .bind (h_expr_Names _) fun r6 => .bind (h_r3_Names _) fun r7 => .cond (by exact .const _) (.bind (hl_w3_ExprBack_L1 _) fun x => .sum (fun o8 => by exact .const _) (fun o9 => .bind (h_r3_Text _) fun r10 => .cond (.cond (.bind (h_r3_Same _ _) fun r11 => by exact .const _) (by exact .const _)) (by exact .const _)) x)))
def w3_ExprBack.s : Nat → (List T_w3_Raw) → Option Bool
  | 0, _ => none
  | k + 1, a0 => w3_ExprBack_b (w3_known.s k) (fun a0 => w3_Few.s k a0) (fun a0 => w3_One.s k a0) (fun a0 => expr_Text.s k a0) (fun a0 => expr_Parse.s k a0) (fun a0 => expr_Names.s k a0) (fun a0 => r3_Names.s k a0) (fun a0 => r3_Text.s k a0) (fun a0 a1 => r3_Same.s k a0 a1) (w3_ExprBack_L1.s k) a0
theorem w3_ExprBack.ok : ∀ (k : Nat), ∀ (a0 : (List T_w3_Raw)) (r : Bool), w3_ExprBack.s k a0 = some r → evalFn Tryd.prog G k 13 [.sl (R_w3_Raw a0)] [] = some (w3_ExprBack_e r)
  | 0, _, _, h => (nomatch h)
  | k + 1, a0, r, h => fn_ok rfl (w3_ExprBack_t Tryd.prog (evalFn Tryd.prog G k) (w3_known.s k) (fun a0 => w3_Few.s k a0) (fun a0 => w3_One.s k a0) (fun a0 => expr_Text.s k a0) (fun a0 => expr_Parse.s k a0) (fun a0 => expr_Names.s k a0) (fun a0 => r3_Names.s k a0) (fun a0 => r3_Text.s k a0) (fun a0 a1 => r3_Same.s k a0 a1) (w3_ExprBack_L1.s k) a0) (w3_ExprBack_n _ (w3_known.s k) (fun a0 => w3_Few.s k a0) (fun a0 => w3_One.s k a0) (fun a0 => expr_Text.s k a0) (fun a0 => expr_Parse.s k a0) (fun a0 => expr_Names.s k a0) (fun a0 => r3_Names.s k a0) (fun a0 => r3_Text.s k a0) (fun a0 a1 => r3_Same.s k a0 a1) (w3_ExprBack_L1.s k) a0) (w3_ExprBack_k _ _ _ (w3_known.s k) (fun a0 => w3_Few.s k a0) (fun a0 => w3_One.s k a0) (fun a0 => expr_Text.s k a0) (fun a0 => expr_Parse.s k a0) (fun a0 => expr_Names.s k a0) (fun a0 => r3_Names.s k a0) (fun a0 => r3_Text.s k a0) (fun a0 a1 => r3_Same.s k a0 a1) (w3_ExprBack_L1.s k) (w3_known.ok k) (w3_Few.ok k) (w3_One.ok k) (expr_Text.ok k) (expr_Parse.ok k) (expr_Names.ok k) (r3_Names.ok k) (r3_Text.ok k) (r3_Same.ok k) (w3_ExprBack_L1_ok _ k) a0) ((w3_ExprBack_d _ _ (w3_known.s k) (fun a0 => w3_Few.s k a0) (fun a0 => w3_One.s k a0) (fun a0 => expr_Text.s k a0) (fun a0 => expr_Parse.s k a0) (fun a0 => expr_Names.s k a0) (fun a0 => r3_Names.s k a0) (fun a0 => r3_Text.s k a0) (fun a0 a1 => r3_Same.s k a0 a1) (w3_ExprBack_L1.s k) a0).trans h)
theorem w3_ExprBack.mono : ∀ (k : Nat) (a0 : (List T_w3_Raw)), Le (w3_ExprBack.s k a0) (w3_ExprBack.s (k + 1) a0)
  | 0, _ => fun r h => (nomatch h)
  | k + 1, a0 => w3_ExprBack_m (w3_known.mono k) (w3_Few.mono k) (w3_One.mono k) (expr_Text.mono k) (expr_Parse.mono k) (expr_Names.mono k) (r3_Names.mono k) (r3_Text.mono k) (r3_Same.mono k) (w3_ExprBack_L1.m (Nat.le_succ k)) a0
noncomputable def w3_ExprBack (a0 : (List T_w3_Raw)) : Option Bool := lim fun k => w3_ExprBack.s k a0
theorem w3_ExprBack.cv (a0 : (List T_w3_Raw)) : Cv (fun k => w3_ExprBack.s k a0) (w3_ExprBack a0) := .lim fun k => w3_ExprBack.mono k a0
noncomputable def w3_ExprBack_L1 : w3_ExprBack_L1_A → Option (Bool ⊕ w3_ExprBack_L1_O1) := w3_ExprBack_L1.w 
theorem w3_ExprBack_L1.eq (a : w3_ExprBack_L1_A) : w3_ExprBack_L1 a = (w3_ExprBack_L1_b  a).bind (Sum.elim w3_ExprBack_L1 some) := loopW_eq _ _
theorem w3_ExprBack.eq (a0 : (List T_w3_Raw)) : w3_ExprBack a0 = w3_ExprBack_b w3_known w3_Few w3_One expr_Text expr_Parse expr_Names r3_Names r3_Text r3_Same w3_ExprBack_L1 a0 := Cv.uniq (w3_ExprBack.cv a0).shift (w3_ExprBack_c w3_known.cv w3_Few.cv w3_One.cv expr_Text.cv expr_Parse.cv expr_Names.cv r3_Names.cv r3_Text.cv r3_Same.cv (w3_ExprBack_L1.cv) a0)
theorem w3_ExprBack.run (a0 : (List T_w3_Raw)) {r : Bool} (h : w3_ExprBack a0 = some r) : ∃ k, evalFn Tryd.prog G k 13 [.sl (R_w3_Raw a0)] [] = some (w3_ExprBack_e r) :=
  let ⟨k, hk⟩ := ((w3_ExprBack.cv a0).2 r).1 h
  ⟨k, w3_ExprBack.ok k a0 r hk⟩

end Go.Ab
namespace Go.Proofs.YtklkkgmflfioeaaDoor
open Go Go.Ab Go.RowKit
theorem gPow : Tryd.prog.globalNamed "internal/strconv.uint64pow10" = some 0 := by kernel_rfl
theorem tPow : (Tryd.prog.globals[0]?).map (·.type) = some 119 := by kernel_rfl
theorem cells_u64 : Tryd.prog.cellsOf 112 = 1 := by kernel_rfl
theorem cells_pow : Tryd.prog.cellsOf 119 = 20 := by kernel_rfl
theorem datum {H : Type} : (Rows.laid_internal_strconv_uint64pow10 : DataW H) = Lib.tabData .u64 Lib.pow10Tab := by kernel_rfl
def told : Ab.Told := told1 Tryd.prog "internal/strconv.uint64pow10" 0 (Lib.pow10Tab.map fun z => Value.int .u64 z).toArray
theorem told_of {W : World} (h : laidMetH Tryd.prog [("math/bits.deBruijn32tab", Rows.laid_math_bits_deBruijn32tab), ("math/bits.deBruijn64tab", Rows.laid_math_bits_deBruijn64tab), ("internal/strconv.uint64pow10", Rows.laid_internal_strconv_uint64pow10), ("unicode/utf8.acceptRanges", Rows.laid_unicode_utf8_acceptRanges), ("unicode/utf8.first", Rows.laid_unicode_utf8_first)] W) : told.T (oldCtx W).Z W := by
  rw [MakeChecks.laidMetH_plain _ _ _ (by kernel_rfl)] at h
  obtain ⟨ps, ⟨g0, t0, cs0, f0, p0, q0, hg0, ht0, hv0, hd0, ⟨g1, t1, cs1, f1, p1, q1, hg1, ht1, hv1, hd1, ⟨g2, t2, cs2, f2, p2, q2, hg2, ht2, hv2, hd2, _⟩, _⟩, _⟩, _, _⟩ := h
  obtain rfl := Option.some.inj (gPow.symm.trans hg2)
  obtain rfl := Option.some.inj (tPow.symm.trans ht2)
  rw [datum] at hd2
  refine tabT_old gPow (hv2.trans ?_) (by decide)
  have := Lib.cells_of_tab Tryd.underlying119 Tryd.underlying112 cells_u64 cells_pow hd2
  rw [← this]
theorem ok_itoa : FnOK1 told Tryd.prog 46 itoaX := by
  refine fnOK1_itoa fun n Z w h0 h1 hT => ?_
  refine (Tryd.strconv_Itoa n h0 h1 w hT.2.2.1).mono ?_
  rintro e w' ⟨rfl, k, os, rfl⟩
  exact ⟨rfl, Lib.below_grow _ _ (Nat.le_refl _) _ _⟩
theorem ok_clone : FnOK1 told Tryd.prog 48 cloneX := by
  refine fnOK1_clone (e_ := 9) (fun n cap w => (Tryd.slices_Clone_string_nil n cap w).mono fun e w' h => h) (fun p cap w => (Tryd.slices_Clone_string_zero p cap w).mono ?_) (fun b off n cap zs w hz hbig hc => (Tryd.slices_Clone_string b off n cap zs w hz hbig hc).mono fun e w' h => h)
  rintro e w' ⟨v, rfl, h1, h2, h3⟩
  exact ⟨v, rfl, h1, h3⟩
theorem ext_ok (f : FuncId) (x : List AV → Heap → Option (AV × Heap)) (h : G.ext f = some x) : FnOK1 told Tryd.prog f x := by
  have h' : Go.Ab.get f extT = some x := h
  simp only [extT, Go.Ab.get] at h'
  repeat' split at h'
  all_goals first
    | cases h'; done
    | (rename_i e; subst e; cases h'; first | exact ok_itoa | exact ok_clone)
end Go.Proofs.YtklkkgmflfioeaaDoor
namespace Go.Ab
theorem w3_within_eq (a n : Int) (hn : 0 < n) (hn2 : n ≤ 4611686018427387904) : w3_within a n = some (a % n) := by
  rw [w3_within.eq]; exact withinV_eq a n hn hn2
theorem within_mod (a n : Int) (hn : 0 < n) (hn2 : n ≤ 4611686018427387904) : w3_within a n = w3_within (a % n) n := by
  rw [w3_within_eq a _ hn hn2, w3_within_eq (a % n) _ hn hn2, Int.emod_emod_of_dvd a (Int.dvd_refl n)]
theorem w3_known_true : w3_known = some true := cv_some w3_known.cv 60 (by kernel_rfl)
end Go.Ab
namespace Go.Ab
abbrev S0 : ByteArray := s_
inductive X3 where
  | num (n : Int)
  | nm (s : ByteArray)
  | here
  | neg (x : X3)
  | bin (k : Nat) (x y : X3)
namespace X3
def t : X3 → T_api_Expr
  | num n => ⟨1, n, S0, []⟩
  | nm s => ⟨2, 0, s, []⟩
  | here => ⟨3, 0, S0, []⟩
  | neg x => ⟨4, 0, S0, [x.t]⟩
  | bin k x y => ⟨k, 0, S0, [x.t, y.t]⟩
def d : X3 → Nat
  | neg x => x.d + 1
  | bin _ x y => max x.d y.d + 1
  | _ => 0
/-- what may be made -/
def ok (p : ByteArray → Prop) : X3 → Prop
  | num n => 0 ≤ n ∧ n < 4294967296
  | nm s => p s
  | here => True
  | neg x => x.ok p
  | bin k x y => 5 ≤ k ∧ k ≤ 11 ∧ x.ok p ∧ y.ok p
def hereB : X3 → Bool
  | here => true
  | neg x => x.hereB
  | bin _ x y => x.hereB || y.hereB
  | _ => false
end X3
def bnd (n : Int) : Int × Int := if n < -1099511627776 ∨ n > 1099511627776 then (0, 6) else (n, 0)
def tms (a b : Int) : Int × Int := if a = 0 ∨ b = 0 then (0, 0) else if (a.natAbs * b.natAbs : Nat) > 1099511627776 then (0, 6) else (a * b, 0)
def rck (k : Nat) (a b : Int) : Int × Int := match k with
  | 5 => bnd (a + b)
  | 6 => bnd (a - b)
  | 7 => tms a b
  | 8 => bnd (andI .i64 a b)
  | 9 => bnd (orI .i64 a b)
  | 10 => if b < 0 ∨ b > 40 then (0, 6) else tms a (2 ^ b.toNat)
  | _ => if b < 0 ∨ b > 40 then (0, 6) else (a.fdiv (2 ^ b.toNat), 0)
def lk (l : List T_api_Sym) (s : ByteArray) : Option Int := match l with
  | [] => none
  | x :: l => if x.Name = s then some x.Value else lk l s
def ev : X3 → Int → List T_api_Sym → Int × Int
  | .num n, _, _ => (n, 0)
  | .nm s, _, l => match lk l s with
    | some v => (v, 0)
    | none => (0, 4)
  | .here, h, _ => (h, 0)
  | .neg x, h, l => let r := ev x h l; if r.2 ≠ 0 then (0, r.2) else (-r.1, 0)
  | .bin k x y, h, l => let r := ev x h l; if r.2 ≠ 0 then (0, r.2) else let s := ev y h l; if s.2 ≠ 0 then (0, s.2) else rck k r.1 s.1
abbrev B40 (n : Int) : Prop := -1099511627776 ≤ n ∧ n ≤ 1099511627776
theorem bnd_B (n : Int) : B40 (bnd n).1 := by unfold bnd; split <;> simp [B40] <;> omega
theorem tms_B (a b : Int) : B40 (tms a b).1 := by
  unfold tms; split
  · simp [B40]
  · split
    · simp [B40]
    · rename_i h
      have : (a * b).natAbs ≤ 1099511627776 := by rw [Int.natAbs_mul]; omega
      simp only [B40]; omega
theorem fdiv_B {a : Int} (h : B40 a) (n : Nat) : B40 (a.fdiv (2 ^ n)) := by
  have hp : (0 : Int) < 2 ^ n := Int.pow_pos (by decide)
  have h1 : (1 : Int) ≤ 2 ^ n := by omega
  rw [Int.fdiv_eq_ediv_of_nonneg _ (by omega)]
  simp only [B40] at h ⊢
  constructor
  · exact Int.le_ediv_of_mul_le hp (by
      have : (1099511627776 : Int) * 1 ≤ 1099511627776 * 2 ^ n := Int.mul_le_mul_of_nonneg_left h1 (by decide)
      rw [Int.neg_mul]; omega)
  · have := Int.ediv_le_self (a := a) (b := 2 ^ n)
    by_cases ha : 0 ≤ a
    · have := this ha; omega
    · have : a / 2 ^ n < 0 := Int.ediv_neg_of_neg_of_pos (by omega) hp
      omega
theorem rck_B (k : Nat) {a b : Int} (h : B40 a) : B40 (rck k a b).1 := by
  unfold rck; split
  · exact bnd_B _
  · exact bnd_B _
  · exact tms_B _ _
  · exact bnd_B _
  · exact bnd_B _
  · split
    · simp [B40]
    · exact tms_B _ _
  · split
    · simp [B40]
    · exact fdiv_B h _
theorem lk_mem {l : List T_api_Sym} {s : ByteArray} {v : Int} (h : lk l s = some v) : ∃ x ∈ l, x.Value = v := by
  induction l with
  | nil => cases h
  | cons x l ih =>
    simp only [lk] at h
    split at h
    · cases h; exact ⟨x, by simp, rfl⟩
    · obtain ⟨y, hy, e⟩ := ih h; exact ⟨y, by simp [hy], e⟩
theorem ev_B {p : ByteArray → Prop} {h : Int} {l : List T_api_Sym} (hh : B40 h) (hl : ∀ s ∈ l, B40 s.Value) : ∀ (x : X3), x.ok p → B40 (ev x h l).1
  | .num n, hx => by simp only [X3.ok] at hx; simp only [ev, B40]; omega
  | .nm s, hx => by
    simp only [ev]
    split
    · rename_i v hv
      obtain ⟨x, hx, rfl⟩ := lk_mem hv
      exact hl x hx
    · simp [B40]
  | .here, hx => hh
  | .neg x, hx => by
    have ih := ev_B hh hl x hx
    simp only [ev]; split
    · simp [B40]
    · simp only [B40] at ih ⊢; omega
  | .bin k x y, hx => by
    have ih := ev_B hh hl x hx.2.2.1
    simp only [ev]; split
    · simp [B40]
    · split
      · simp [B40]
      · exact rck_B k ih
/-! ### The program's functions -/
theorem expr_bound_eq (n : Int) : expr_bound n = some (bnd n) := by
  rw [expr_bound.eq]; unfold expr_bound_b bnd
  by_cases h1 : n < -1099511627776
  · simp [h1]
  · by_cases h2 : n > 1099511627776
    · simp [h1, h2]
    · simp [h1, h2]
theorem r3_bound_eq (n : Int) : r3_bound n = some (bnd n) := by
  rw [r3_bound.eq]; unfold r3_bound_b bnd
  by_cases h1 : n < -1099511627776
  · simp [h1]
  · by_cases h2 : n > 1099511627776
    · simp [h1, h2]
    · simp [h1, h2]
theorem mx_abs {a : Int} (h : B40 a) : (if w64 (0 - a) > a then w64 (0 - a) else a) = (a.natAbs : Int) := by
  simp only [B40] at h
  rw [w64_in (by omega) (by omega)]; split <;> omega
theorem tms_test {a b : Int} (ha : B40 a) (hb : B40 b) (hb0 : b ≠ 0) : ((a.natAbs : Int) > w64 (Int.tdiv 1099511627776 (b.natAbs : Int))) ↔ (a.natAbs * b.natAbs : Nat) > 1099511627776 := by
  have hb1 : 0 < b.natAbs := by omega
  have e : Int.tdiv 1099511627776 (b.natAbs : Int) = ((1099511627776 / b.natAbs : Nat) : Int) := by
    rw [show (1099511627776 : Int) = ((1099511627776 : Nat) : Int) from rfl, ← Int.ofNat_tdiv]
  have h2 : 1099511627776 / b.natAbs ≤ 1099511627776 := Nat.div_le_self _ _
  have h3 := Nat.div_lt_iff_lt_mul (x := 1099511627776) (y := a.natAbs) hb1
  rw [e]
  generalize 1099511627776 / b.natAbs = q at h2 h3
  rw [w64_in (by omega) (by omega)]
  omega
theorem r3_times_eq {a b : Int} (ha : B40 a) (hb : B40 b) : r3_times a b = some (tms a b) := by
  rw [r3_times.eq]; unfold r3_times_b tms
  by_cases h1 : a = 0
  · simp [h1]
  by_cases h2 : b = 0
  · simp [h1, h2]
  have hm := mx_abs ha
  have hn := mx_abs hb
  have ht := tms_test ha hb h2
  rw [hm, hn]
  simp only [h1, h2, or_self, if_false, beq_iff_eq, Bool.cond_eq_ite, decide_eq_true_eq]
  rw [if_pos (by omega)]
  by_cases h3 : (a.natAbs * b.natAbs : Nat) > 1099511627776
  · rw [if_pos (ht.2 h3), if_pos h3]
  · rw [if_neg (fun h => h3 (ht.1 h)), if_neg h3]
    have : (a * b).natAbs ≤ 1099511627776 := by rw [Int.natAbs_mul]; omega
    rw [w64_in (by omega) (by omega)]
theorem expr_times_eq {a b : Int} (ha : B40 a) (hb : B40 b) : expr_times a b = some (tms a b) := by
  rw [expr_times.eq]; unfold expr_times_b tms
  by_cases h1 : a = 0
  · simp [h1]
  by_cases h2 : b = 0
  · simp [h1, h2]
  have hm := mx_abs ha
  have hn := mx_abs hb
  have ht := tms_test ha hb h2
  rw [hm, hn]
  simp only [h1, h2, or_self, if_false, beq_iff_eq, Bool.cond_eq_ite, decide_eq_true_eq]
  rw [if_pos (by omega)]
  by_cases h3 : (a.natAbs * b.natAbs : Nat) > 1099511627776
  · rw [if_pos (ht.2 h3), if_pos h3]
  · rw [if_neg (fun h => h3 (ht.1 h)), if_neg h3, expr_bound_eq]
    have : (a * b).natAbs ≤ 1099511627776 := by rw [Int.natAbs_mul]; omega
    rw [w64_in (by omega) (by omega)]
    simp only [Option.bind_some, bnd]
    rw [if_neg (by omega)]
theorem pow_le40 {b : Int} (h0 : 0 ≤ b) (h1 : b ≤ 40) : (1 : Int) ≤ 2 ^ b.toNat ∧ (2 : Int) ^ b.toNat ≤ 1099511627776 := by
  have : ∀ n : Nat, n ≤ 40 → (1 : Int) ≤ 2 ^ n ∧ (2 : Int) ^ n ≤ 1099511627776 := by decide
  exact this _ (by omega)
theorem shl_one {b : Int} (h0 : 0 ≤ b) (h1 : b ≤ 40) : shlI .i64 1 b = 2 ^ b.toNat := by
  have hp := pow_le40 h0 h1
  unfold shlI
  rw [show min b.toNat IntKind.i64.bits = b.toNat from by simp only [IntKind.bits]; omega, Int.one_mul]
  exact w64_in (by omega) (by omega)
theorem shr_eq {a b : Int} (h0 : 0 ≤ b) (h1 : b ≤ 40) : shrI .i64 a b = a.fdiv (2 ^ b.toNat) := by
  unfold shrI
  rw [show min b.toNat IntKind.i64.bits = b.toNat from by simp only [IntKind.bits]; omega]
theorem bnd_in {n : Int} (h : B40 n) : bnd n = (n, 0) := by
  unfold bnd; rw [if_neg (by simp only [B40] at h; omega)]
theorem expr_both_eq {k : Nat} (hk : 5 ≤ k ∧ k ≤ 11) {a b : Int} (ha : B40 a) (hb : B40 b) : expr_both k a b = some (rck k a b) := by
  rw [expr_both.eq]; unfold expr_both_b
  simp only [B40] at ha hb
  have hc : k = 5 ∨ k = 6 ∨ k = 7 ∨ k = 8 ∨ k = 9 ∨ k = 10 ∨ k = 11 := by omega
  rcases hc with rfl | rfl | rfl | rfl | rfl | rfl | rfl
  · simp [expr_bound_eq, rck, w64_in (n := a + b) (by omega) (by omega)]
  · simp [expr_bound_eq, rck, w64_in (n := a - b) (by omega) (by omega)]
  · simp [expr_times_eq ha hb, rck]
  · simp [expr_bound_eq, rck]
  · simp [expr_bound_eq, rck]
  · by_cases h0 : b < 0
    · simp [h0, rck]
    · by_cases h1 : b > 40
      · simp [h0, h1, rck]
      · have hp := pow_le40 (b := b) (by omega) (by omega)
        simp [h0, h1, rck, show (0 : Int) ≤ b by omega, shl_one (b := b) (by omega) (by omega), expr_times_eq ha (b := 2 ^ b.toNat) ⟨by omega, by omega⟩]
  · by_cases h0 : b < 0
    · simp [h0, rck]
    · by_cases h1 : b > 40
      · simp [h0, h1, rck]
      · have hp := fdiv_B ha b.toNat
        simp [h0, h1, rck, show (0 : Int) ≤ b by omega, shr_eq (a := a) (b := b) (by omega) (by omega), expr_bound_eq, bnd_in hp]
theorem u64_in {n : Int} (h1 : 0 ≤ n) (h2 : n ≤ 9223372036854775807) : IntKind.u64.wrap n = n := by
  simp only [IntKind.wrap, IntKind.bits, IntKind.signed, Bool.false_and, Bool.false_eq_true, if_false]
  exact Int.emod_eq_of_lt h1 (by simp; omega)
theorem r3_reckon_eq {k : Nat} (hk : 5 ≤ k ∧ k ≤ 11) {a b : Int} (ha : B40 a) (hb : B40 b) : r3_reckon k a b = some (rck k a b) := by
  rw [r3_reckon.eq]; unfold r3_reckon_b
  simp only [B40] at ha hb
  have hc : k = 5 ∨ k = 6 ∨ k = 7 ∨ k = 8 ∨ k = 9 ∨ k = 10 ∨ k = 11 := by omega
  rcases hc with rfl | rfl | rfl | rfl | rfl | rfl | rfl
  · simp [r3_bound_eq, rck, w64_in (n := a + b) (by omega) (by omega)]
  · simp [r3_bound_eq, rck, w64_in (n := a - b) (by omega) (by omega)]
  · simp [r3_times_eq ha hb, rck]
  · simp [r3_bound_eq, rck]
  · simp [r3_bound_eq, rck]
  · by_cases h0 : b < 0
    · simp [h0, rck]
    · by_cases h1 : b > 40
      · simp [h0, h1, rck]
      · have hp := pow_le40 (b := b) (by omega) (by omega)
        simp [h0, h1, rck, u64_in (n := b) (by omega) (by omega), show (0 : Int) ≤ b by omega, shl_one (b := b) (by omega) (by omega), r3_times_eq ha (b := 2 ^ b.toNat) ⟨by omega, by omega⟩]
  · by_cases h0 : b < 0
    · simp [h0, rck]
    · by_cases h1 : b > 40
      · simp [h0, h1, rck]
      · simp [h0, h1, rck, u64_in (n := b) (by omega) (by omega), show (0 : Int) ≤ b by omega, shr_eq (a := a) (b := b) (by omega) (by omega)]
/-- the symbols' search -/
theorem r3_look (l : List T_api_Sym) (hl : l.length ≤ 1000) (x : T_api_Expr) : r3_Eval_L1 ⟨l, 0, x⟩ = some (match lk l x.Name with | some v => .inl ⟨v, 0⟩ | none => .inr ()) := by
  obtain ⟨r, h1, h2⟩ := loop_ind r3_Eval_L1.eq (fun a => ∃ i : Nat, i ≤ l.length ∧ a = ⟨l, i, x⟩) (fun a r => r = match lk (l.drop a.x8.toNat) x.Name with | some v => .inl ⟨v, 0⟩ | none => .inr ())
    (fun a => l.length - a.x8.toNat) (by
      rintro a ⟨i, hi, rfl⟩
      simp only [r3_Eval_L1_b, Int.toNat_natCast]
      by_cases h : i < l.length
      · have hd : l.drop i = l[i] :: l.drop (i + 1) := List.drop_eq_getElem_cons h
        rw [List.getElem?_eq_getElem h]
        by_cases he : l[i].Name = x.Name
        · refine .inr ⟨_, ?_, rfl⟩
          have e1 : eqS x.Name x.Name = true := eqS_iff.2 rfl
          have e2 : (i : Int) < (l.length : Int) := by omega
          rw [hd]
          simp only [e1, e2, lk, he, decide_true, cond_true, Option.bind_some, if_true, Int.natCast_nonneg, decide_true]
        · refine .inl ⟨⟨l, (i + 1 : Nat), x⟩, ?_, ⟨i + 1, by omega, rfl⟩, ?_, fun r hr => ?_⟩
          · have : eqS l[i].Name x.Name = false := by rw [Bool.eq_false_iff]; exact fun h => he (eqS_iff.1 h)
            simp [h, this, w64_in (n := (i : Int) + 1) (by omega) (by omega)]
          · simp only [Int.toNat_natCast]; omega
          · rw [hr, hd]; simp only [Int.toNat_natCast, lk, if_neg he]
      · refine .inr ⟨_, ?_, rfl⟩
        simp [h, List.drop_eq_nil_of_le (by omega : l.length ≤ i), lk]) ⟨l, 0, x⟩ ⟨0, by omega, rfl⟩
  rw [h1, h2]; rfl
theorem eqS_ne {x y : ByteArray} (h : x ≠ y) : eqS x y = false := by rw [Bool.eq_false_iff]; exact fun e => h (eqS_iff.1 e)
theorem expr_look (l : List T_api_Sym) (hl : l.length ≤ 1000) (x : T_api_Expr) : ∃ r, slices_IndexFunc l x = some (r, x) ∧ (match lk l x.Name with | some v => ∃ i : Nat, ∃ s, r = i ∧ l[i]? = some s ∧ s.Value = v | none => r = -1) := by
  obtain ⟨r, h1, h2⟩ := loop_ind slices_IndexFunc_L1.eq (fun a => ∃ i : Nat, i ≤ l.length ∧ a = ⟨l, l.length, i, x⟩)
    (fun a r => match lk (l.drop a.x8.toNat) x.Name with | some v => ∃ i : Nat, ∃ s, r = .inl ⟨(i : Int), x⟩ ∧ l[i]? = some s ∧ s.Value = v | none => r = .inr x)
    (fun a => l.length - a.x8.toNat) (by
      rintro a ⟨i, hi, rfl⟩
      simp only [slices_IndexFunc_L1_b, Int.toNat_natCast, expr_Eval_1.eq, expr_Eval_1_b]
      by_cases h : i < l.length
      · have hd : l.drop i = l[i] :: l.drop (i + 1) := List.drop_eq_getElem_cons h
        have e2 : (i : Int) < (l.length : Int) := by omega
        rw [List.getElem?_eq_getElem h]
        by_cases he : l[i].Name = x.Name
        · have e1 : eqS l[i].Name x.Name = true := eqS_iff.2 he
          refine .inr ⟨.inl ⟨i, x⟩, ?_, ?_⟩
          · simp only [e1, e2, decide_true, cond_true, Option.bind_some, Int.natCast_nonneg]
          · rw [hd]; simp only [lk, if_pos he]; exact ⟨i, l[i], rfl, List.getElem?_eq_getElem h, rfl⟩
        · refine .inl ⟨⟨l, l.length, (i + 1 : Nat), x⟩, ?_, ⟨i + 1, by omega, rfl⟩, ?_, fun r hr => ?_⟩
          · simp [e2, eqS_ne he, w64_in (n := (i : Int) + 1) (by omega) (by omega)]
          · simp only [Int.toNat_natCast]; omega
          · rw [hd]; simp only [Int.toNat_natCast, lk, if_neg he] at hr ⊢; exact hr
      · refine .inr ⟨.inr x, ?_, ?_⟩
        · simp [h]
        · rw [List.drop_eq_nil_of_le (by omega : l.length ≤ i)]; rfl) ⟨l, l.length, 0, x⟩ ⟨0, by omega, rfl⟩
  simp only [Int.toNat_zero, List.drop_zero] at h2
  rw [slices_IndexFunc.eq]; unfold slices_IndexFunc_b
  rw [h1]
  split at h2
  · rename_i v hv
    obtain ⟨i, s, rfl, hi, hs⟩ := h2
    refine ⟨i, by simp, ?_⟩
    exact ⟨i, s, rfl, hi, hs⟩
  · rename_i hv
    subst h2
    exact ⟨-1, by simp, rfl⟩
/-- what an expression comes to, by the program and by the document -/
theorem expr_Eval_eq {p : ByteArray → Prop} {h : Int} {l : List T_api_Sym} (hll : l.length ≤ 1000) (hh : B40 h) (hl : ∀ s ∈ l, B40 s.Value) : ∀ (x : X3), x.ok p → expr_Eval x.t h l = some (ev x h l)
  | .num n, hx => by
    rw [expr_Eval.eq]; unfold expr_Eval_b
    simp only [X3.ok] at hx
    simp [X3.t, ev, expr_bound_eq, bnd_in (n := n) ⟨by omega, by omega⟩]
  | .here, hx => by
    rw [expr_Eval.eq]; unfold expr_Eval_b
    simp [X3.t, ev, expr_bound_eq, bnd_in hh]
  | .nm s, hx => by
    rw [expr_Eval.eq]; unfold expr_Eval_b
    obtain ⟨r, h1, h2⟩ := expr_look l hll (X3.nm s).t
    simp only [ev]
    simp only [X3.t] at h1 h2 ⊢
    simp only [h1]
    cases hk : lk l s with
    | none => rw [hk] at h2; simp only at h2; subst h2; simp
    | some v =>
      rw [hk] at h2; simp only at h2
      obtain ⟨i, s', rfl, hi, rfl⟩ := h2
      have hneg : decide ((i : Int) < 0) = false := by simp
      simp [hneg, hi, expr_bound_eq, bnd_in (hl s' (List.mem_of_getElem? hi))]
  | .neg x, hx => by
    have ih := expr_Eval_eq hll hh hl x hx
    have hB := ev_B hh hl x hx
    rw [expr_Eval.eq]; unfold expr_Eval_b
    simp only [X3.t, ev]
    simp [ih]
    by_cases he : (ev x h l).2 = 0
    · have : bnd (w64 (-(ev x h l).1)) = (-(ev x h l).1, 0) := by
        simp only [B40] at hB
        rw [w64_in (by omega) (by omega)]; exact bnd_in ⟨by omega, by omega⟩
      simp [he, expr_bound_eq, this]
    · simp [bne_iff_ne.2 he, he]
  | .bin k x y, hx => by
    obtain ⟨h1, h2, h3, h4⟩ := hx
    have ihx := expr_Eval_eq hll hh hl x h3
    have ihy := expr_Eval_eq hll hh hl y h4
    have hBx := ev_B hh hl x h3
    have hBy := ev_B hh hl y h4
    rw [expr_Eval.eq]; unfold expr_Eval_b
    simp only [X3.t, ev]
    have k1 : ((k : Int) == 1) = false := by simp; omega
    have k2 : ((k : Int) == 2) = false := by simp; omega
    have k3 : ((k : Int) == 3) = false := by simp; omega
    simp [k1, k2, k3, ihx, ihy]
    by_cases he : (ev x h l).2 = 0
    · by_cases hf : (ev y h l).2 = 0
      · simp [he, hf, expr_both_eq ⟨h1, h2⟩ hBx hBy]
      · simp [he, bne_iff_ne.2 hf, hf]
    · simp [bne_iff_ne.2 he, he]
theorem r3_Eval_eq {p : ByteArray → Prop} {h : Int} {l : List T_api_Sym} (hll : l.length ≤ 1000) (hh : B40 h) (hl : ∀ s ∈ l, B40 s.Value) : ∀ (x : X3), x.ok p → r3_Eval x.t h l = some (ev x h l)
  | .num n, hx => by
    rw [r3_Eval.eq]; unfold r3_Eval_b
    simp [X3.t, ev]
  | .here, hx => by
    rw [r3_Eval.eq]; unfold r3_Eval_b
    simp [X3.t, ev]
  | .nm s, hx => by
    rw [r3_Eval.eq]; unfold r3_Eval_b
    have h1 := r3_look l hll (X3.nm s).t
    simp only [ev]
    simp only [X3.t] at h1 ⊢
    simp only [h1]
    cases hk : lk l s <;> simp
  | .neg x, hx => by
    have ih := r3_Eval_eq hll hh hl x hx
    have hB := ev_B hh hl x hx
    rw [r3_Eval.eq]; unfold r3_Eval_b
    simp only [X3.t, ev]
    simp [ih]
    by_cases he : (ev x h l).2 = 0
    · simp only [B40] at hB
      simp [he, w64_in (n := -(ev x h l).1) (by omega) (by omega)]
    · simp [bne_iff_ne.2 he, he]
  | .bin k x y, hx => by
    obtain ⟨h1, h2, h3, h4⟩ := hx
    have ihx := r3_Eval_eq hll hh hl x h3
    have ihy := r3_Eval_eq hll hh hl y h4
    have hBx := ev_B hh hl x h3
    have hBy := ev_B hh hl y h4
    rw [r3_Eval.eq]; unfold r3_Eval_b
    simp only [X3.t, ev]
    have k1 : ((k : Int) == 1) = false := by simp; omega
    have k2 : ((k : Int) == 2) = false := by simp; omega
    have k3 : ((k : Int) == 3) = false := by simp; omega
    have k4 : ((k : Int) == 4) = false := by simp; omega
    simp [k1, k2, k3, k4, ihx, ihy]
    by_cases he : (ev x h l).2 = 0
    · by_cases hf : (ev y h l).2 = 0
      · simp [he, hf, r3_reckon_eq ⟨h1, h2⟩ hBx hBy]
      · simp [he, bne_iff_ne.2 hf, hf]
    · simp [bne_iff_ne.2 he, he]
end Go.Ab
namespace Go.Ab
theorem size_tot : ∀ (g d : Nat), g + d = 8 → ∀ l : List T_w3_Raw, l.length ≤ maxLen → (∀ r ∈ l, wf_w3_Raw r) → ∃ n : Int, w3_size l d = some n ∧ 0 ≤ n ∧ n ≤ 1000 + 20 * g ∧
    (n ≤ 16 → d ≤ 7 ∧ ∀ r ∈ l, ∃ m, w3_size r.L (d + 1 : Nat) = some m ∧ m ≤ 16)
  | 0, d, hd, l, hl, hw => by
    obtain rfl : d = 8 := by omega
    refine ⟨1000, ?_, by omega, by omega, by omega⟩
    rw [w3_size.eq]; simp [w3_size_b]
  | g + 1, d, hd, l, hl, hw => by
    rw [maxLen_lt] at hl
    obtain ⟨r, h1, h2⟩ := loop_ind w3_size_L1.eq
      (fun a => ∃ i : Nat, ∃ n : Int, i ≤ l.length ∧ a = ⟨l, d, n, i⟩ ∧ 0 ≤ n ∧ n ≤ 1000 + 20 * (g + 1 : Nat) ∧ (n ≤ 16 → ∀ r ∈ l.take i, ∃ m, w3_size r.L (d + 1 : Nat) = some m ∧ m ≤ 16))
      (fun a n => 0 ≤ n ∧ n ≤ 1000 + 20 * (g + 1 : Nat) ∧ (n ≤ 16 → ∀ r ∈ l, ∃ m, w3_size r.L (d + 1 : Nat) = some m ∧ m ≤ 16))
      (fun a => l.length - a.x6.toNat) (by
        rintro a ⟨i, n, hi, rfl, h0, hn, hall⟩
        simp only [w3_size_L1_b, Int.toNat_natCast]
        by_cases h : i < l.length
        · have e2 : (i : Int) < (l.length : Int) := by omega
          by_cases h16 : n ≤ 16
          · have hwi := hw l[i] (List.getElem_mem h)
            obtain ⟨_, _, _, hL, hLw⟩ := hwi
            obtain ⟨m, hm, hm0, hm1, _⟩ := size_tot g (d + 1) (by omega) l[i].L hL hLw
            refine .inl ⟨⟨l, d, n + 1 + m, (i + 1 : Nat)⟩, ?_, ⟨i + 1, n + 1 + m, by omega, rfl, by omega, by omega, ?_⟩, ?_, fun r hr => hr⟩
            · have ed : w64 ((d : Int) + 1) = ((d + 1 : Nat) : Int) := by rw [w64_in (by omega) (by omega)]; rfl
              rw [List.getElem?_eq_getElem h]
              simp only [e2, h16, decide_true, cond_true, Option.bind_some, Int.natCast_nonneg, ed, hm]
              rw [w64_in (n := n + 1) (by omega) (by omega), w64_in (n := n + 1 + m) (by omega) (by omega), w64_in (n := (i : Int) + 1) (by omega) (by omega)]
              rfl
            · intro hle r hr
              rw [List.take_succ_eq_append_getElem h, List.mem_append] at hr
              rcases hr with hr | hr
              · exact hall h16 r hr
              · simp only [List.mem_singleton] at hr; subst hr
                exact ⟨m, hm, by omega⟩
            · simp only [Int.toNat_natCast]; omega
          · exact .inr ⟨n, by simp [h, h16], h0, hn, fun h => absurd h h16⟩
        · refine .inr ⟨n, by simp [h], h0, hn, fun hle => ?_⟩
          have := hall hle
          rwa [List.take_of_length_le (by omega)] at this) ⟨l, d, 0, 0⟩ ⟨0, 0, by omega, rfl, by omega, by omega, by simp⟩
    refine ⟨r, ?_, h2.1, h2.2.1, fun h => ⟨by omega, h2.2.2 h⟩⟩
    rw [w3_size.eq]; unfold w3_size_b
    have : decide ((d : Int) > 7) = false := by simp; omega
    rw [this, cond_false, h1]; rfl
def isNm (s : ByteArray) : Prop := s = s_base ∨ s = s_x ∨ s = s_end_1 ∨ s = s_r
theorem names4 {i : Nat} (h : i < 4) : ∃ s, [s_base, s_x, s_end_1, s_r][i]? = some s ∧ isNm s := by
  have : i = 0 ∨ i = 1 ∨ i = 2 ∨ i = 3 := by omega
  rcases this with rfl | rfl | rfl | rfl <;> exact ⟨_, rfl, by simp [isNm]⟩
theorem w3_Names_eq : w3_Names = some [s_base, s_x, s_end_1, s_r] := by rw [w3_Names.eq]; rfl
theorem within_nat (a : Int) (n : Nat) (hn : 0 < n) (hn2 : n ≤ 4611686018427387904) : ∃ i : Nat, i < n ∧ w3_within a n = some (i : Int) := by
  have h1 := Int.emod_nonneg a (by omega : (n : Int) ≠ 0)
  have h2 := Int.emod_lt_of_pos a (by omega : (0 : Int) < n)
  exact ⟨(a % n).toNat, by omega, by rw [w3_within_eq a n (by omega) (by omega), Int.toNat_of_nonneg h1]⟩
theorem list_at {P : Int → Prop} (l : List Int) (h : ∀ x ∈ l, P x) {i : Nat} (hi : i < l.length) : ∃ v, l[i]? = some v ∧ P v := ⟨l[i], List.getElem?_eq_getElem hi, h _ (List.getElem_mem hi)⟩
theorem make_spec : ∀ (g d : Nat), g + d = 7 → ∀ r : T_w3_Raw, wf_w3_Raw r → (∃ m, w3_size r.L (d + 1 : Nat) = some m ∧ m ≤ 16) → ∃ x : X3, w3_Raw_Make r = some x.t ∧ x.ok isNm ∧ x.d ≤ g
  | 0, d, hd, r, hw, ⟨m, hm, hm2⟩ => by
    obtain rfl : d = 7 := by omega
    obtain ⟨_, _, _, hL, hLw⟩ := hw
    obtain ⟨n, h1, _, _, h2⟩ := size_tot 0 8 rfl r.L hL hLw
    rw [h1] at hm; cases hm
    exact absurd (h2 hm2).1 (by omega)
  | g + 1, d, hd, r, hw, ⟨m, hm, hm2⟩ => by
    obtain ⟨hK, hN, _, hL, hLw⟩ := hw
    obtain ⟨n, h1, _, _, h2⟩ := size_tot (g + 1) (d + 1) (by omega) r.L hL hLw
    rw [h1] at hm; cases hm
    obtain ⟨_, h3⟩ := h2 hm2
    have part : ∀ i : Nat, i < 2 → ∃ x : X3, w3_Raw_part r i = some x.t ∧ x.ok isNm ∧ x.d ≤ g := by
      intro i hi
      rw [w3_Raw_part.eq]; unfold w3_Raw_part_b
      by_cases h : i < r.L.length
      · obtain ⟨x, e1, e2, e3⟩ := make_spec g (d + 1) (by omega) r.L[i] (hLw _ (List.getElem_mem h)) (h3 _ (List.getElem_mem h))
        refine ⟨x, ?_, e2, e3⟩
        have e2 : (i : Int) < (r.L.length : Int) := by omega
        rw [get_nat _ h]
        simp only [e2, decide_true, cond_true, Option.bind_some, Int.natCast_nonneg, e1]
      · obtain ⟨j, hj, e⟩ := within_nat (w64 (r.N + i)) 5 (by decide) (by decide)
        have hj2 : (0 : Int) ≤ (j : Int) ∧ (j : Int) < 4294967296 := by omega
        refine ⟨.num j, ?_, hj2, by simp [X3.d]⟩
        have e2 : ¬ (i : Int) < (r.L.length : Int) := by omega
        have e' : w3_within (w64 (r.N + i)) 5 = some (j : Int) := e
        simp only [e2, decide_false, cond_false, e', Option.bind_some]; rfl
    obtain ⟨x0, p0, q0, r0⟩ := part 0 (by omega)
    obtain ⟨x1, p1, q1, r1⟩ := part 1 (by omega)
    have p0 : w3_Raw_part r 0 = some x0.t := p0
    have p1 : w3_Raw_part r 1 = some x1.t := p1
    obtain ⟨k, hk, ek⟩ := within_nat r.K 18 (by decide) (by decide)
    have ek : w3_within r.K 18 = some (k : Int) := ek
    rw [w3_Raw_Make.eq]; unfold w3_Raw_Make_b
    rw [ek]
    simp only [Option.bind_some]
    by_cases k4 : k < 4
    · obtain ⟨j, hj, ej⟩ := within_nat r.N 8 (by decide) (by decide)
      have ej : w3_within r.N 8 = some (j : Int) := ej
      obtain ⟨v, hv, hv2⟩ := list_at (P := fun x => 0 ≤ x ∧ x < 4294967296) [0, 1, 2, 255, 65536, 4294967295, 40, 7] (by decide) (i := j) (by simpa using hj)
      refine ⟨.num v, ?_, hv2, by simp [X3.d]⟩
      have e1 : decide ((k : Int) < 4) = true := by simp; omega
      have e3 : decide (0 ≤ (j : Int) ∧ (j : Int) < (([(0 : Int), (1 : Int), (2 : Int), (255 : Int), (65536 : Int), (4294967295 : Int), (40 : Int), (7 : Int)].length : Nat) : Int)) = true := by simp; omega
      simp only [e1, cond_true, ej, Option.bind_some, e3, Int.toNat_natCast, hv]; rfl
    · have e1 : decide ((k : Int) < 4) = false := by simp; omega
      by_cases k8 : k < 8
      · obtain ⟨j, hj, ej⟩ := within_nat r.N 4 (by decide) (by decide)
        have ej : w3_within r.N 4 = some (j : Int) := ej
        obtain ⟨s, hs, hs2⟩ := names4 hj
        refine ⟨.nm s, ?_, hs2, by simp [X3.d]⟩
        have e2 : decide ((k : Int) < 8) = true := by simp; omega
        simp only [e1, cond_false, e2, cond_true, w3_Names_eq, Option.bind_some, ej, Int.natCast_nonneg, decide_true, Int.toNat_natCast, hs]; rfl
      · have e2 : decide ((k : Int) < 8) = false := by simp; omega
        by_cases kh : k = 8
        · subst kh
          exact ⟨.here, rfl, trivial, by simp [X3.d]⟩
        · have e3 : ((k : Int) == 8) = false := by simp; omega
          by_cases k11 : k < 11
          · have e4 : decide ((k : Int) < 11) = true := by simp; omega
            refine ⟨.neg x0, ?_, q0, by simp only [X3.d]; omega⟩
            simp only [e1, e2, e3, e4, cond_false, cond_true, p0, Option.bind_some]; rfl
          · have e4 : decide ((k : Int) < 11) = false := by simp; omega
            refine ⟨.bin (k - 6) x0 x1, ?_, ⟨by omega, by omega, q0, q1⟩, by simp only [X3.d]; omega⟩
            simp only [e1, e2, e3, e4, cond_false, p0, p1, Option.bind_some]
            rw [w64_in (n := 5 + (k : Int)) (by omega) (by omega), w64_in (n := 5 + (k : Int) - 11) (by omega) (by omega)]
            simp only [X3.t]
            rw [show (5 : Int) + k - 11 = ((k - 6 : Nat) : Int) from by omega]
theorem few_one (l : List T_w3_Raw) (hl : l.length ≤ maxLen) (hw : ∀ r ∈ l, wf_w3_Raw r) : ∃ b, w3_Few l = some b ∧ (b = true → ∃ x : X3, w3_One l = some x.t ∧ x.ok isNm ∧ x.d ≤ 7) := by
  obtain ⟨n, h1, _, _, h2⟩ := size_tot 8 0 rfl l hl hw
  have h1 : w3_size l 0 = some n := h1
  refine ⟨decide (n ≤ 16), by rw [w3_Few.eq]; simp [w3_Few_b, h1], fun h => ?_⟩
  have h := of_decide_eq_true h
  obtain ⟨_, h3⟩ := h2 h
  rw [w3_One.eq]; unfold w3_One_b
  cases l with
  | nil => exact ⟨.num 1, rfl, by simp [X3.ok], by simp [X3.d]⟩
  | cons r l =>
    obtain ⟨x, e1, e2, e3⟩ := make_spec 7 0 rfl r (hw r (by simp)) (h3 r (by simp))
    refine ⟨x, ?_, e2, e3⟩
    have : ((((r :: l).length : Nat) : Int) == 0) = false := by simp; omega
    rw [this, cond_false]
    simp [e1]
theorem syms_spec (ns : List Int) (hl : ns.length ≤ maxLen) : ∃ s, w3_Syms ns = some s ∧ s.length ≤ 4 ∧ ∀ x ∈ s, B40 x.Value := by
  rw [maxLen_lt] at hl
  obtain ⟨r, h1, h2⟩ := loop_ind w3_Syms_L1.eq
    (fun a => ∃ i : Nat, ∃ s : List T_api_Sym, i ≤ ns.length ∧ i ≤ 4 ∧ a = ⟨ns, i, s⟩ ∧ s.length ≤ i ∧ ∀ x ∈ s, B40 x.Value) (fun a s => s.length ≤ 4 ∧ ∀ x ∈ s, B40 x.Value) (fun a => 4 - a.x4.toNat) (by
      rintro a ⟨i, s, hi, hi4, rfl, hs, hB⟩
      simp only [w3_Syms_L1_b, Int.toNat_natCast]
      by_cases h : i < ns.length
      · by_cases h4 : i < 4
        · have e1 : (i : Int) < (ns.length : Int) := by omega
          have e2 : (i : Int) < 4 := by omega
          obtain ⟨j, hj, ej⟩ := within_nat ns[i] 5 (by decide) (by decide)
          have ej : w3_within ns[i] 5 = some (j : Int) := ej
          obtain ⟨j2, hj2, ej2⟩ := within_nat (w64 (Int.tdiv ns[i] 5)) 8 (by decide) (by decide)
          have ej2 : w3_within (w64 (Int.tdiv ns[i] 5)) 8 = some (j2 : Int) := ej2
          obtain ⟨nm, hnm, _⟩ := names4 h4
          obtain ⟨v, hv, hv2⟩ := list_at (P := B40) [0, 1, -1, 1099511627776, -1099511627776, 100, 3, 1048576] (by decide) (i := j2) (by simpa using hj2)
          rw [List.getElem?_eq_getElem h]
          have e0 : decide (0 ≤ (i : Int)) = true := by simp
          simp only [e1, e2, decide_true, cond_true, e0, Option.bind_some, ej, w3_Names_eq, hnm, ej2, Int.toNat_natCast]
          by_cases hz : 0 < j
          · have e3 : decide ((j : Int) > 0) = true := by simp; omega
            have e4 : decide (0 ≤ (j2 : Int) ∧ (j2 : Int) < (([(0 : Int), (1 : Int), (-1 : Int), (1099511627776 : Int), (-1099511627776 : Int), (100 : Int), (3 : Int), (1048576 : Int)].length : Nat) : Int)) = true := by simp; omega
            have e5 : decide ((s.length + [T_api_Sym.mk nm v].length) * 24 ≤ most) = true := by simp [most]; omega
            refine .inl ⟨⟨ns, (i + 1 : Nat), s ++ [⟨nm, v⟩]⟩, ?_, ⟨i + 1, _, by omega, by omega, rfl, by simp; omega, ?_⟩, ?_, fun r hr => hr⟩
            · rw [e3, cond_true, e4, cond_true, hv]
              simp only [Option.bind_some, e5, cond_true]
              rw [w64_in (n := (i : Int) + 1) (by omega) (by omega)]; rfl
            · intro x hx
              rw [List.mem_append] at hx
              rcases hx with hx | hx
              · exact hB x hx
              · simp only [List.mem_singleton] at hx; subst hx; exact hv2
            · simp only [Int.toNat_natCast]; omega
          · have e3 : decide ((j : Int) > 0) = false := by simp; omega
            refine .inl ⟨⟨ns, (i + 1 : Nat), s⟩, ?_, ⟨i + 1, _, by omega, by omega, rfl, by omega, hB⟩, ?_, fun r hr => hr⟩
            · simp only [e3, cond_false]
              rw [w64_in (n := (i : Int) + 1) (by omega) (by omega)]; rfl
            · simp only [Int.toNat_natCast]; omega
        · have e1 : (i : Int) < (ns.length : Int) := by omega
          have e2 : ¬ (i : Int) < 4 := by omega
          exact .inr ⟨s, by simp only [e1, e2, decide_true, decide_false, cond_true, cond_false], by omega, hB⟩
      · have e1 : ¬ (i : Int) < (ns.length : Int) := by omega
        exact .inr ⟨s, by simp only [e1, decide_false, cond_false], by omega, hB⟩) ⟨ns, 0, []⟩ ⟨0, [], by omega, by omega, rfl, by simp, by simp⟩
  exact ⟨r, by rw [w3_Syms.eq]; unfold w3_Syms_b; rw [h1]; rfl, h2⟩
theorem w3_ExprEvals_true (l : List T_w3_Raw) (h : Int) (ns : List Int) (w : l.length ≤ maxLen ∧ ∀ y ∈ l, wf_w3_Raw y) (w1 : IntKind.i64.min ≤ h ∧ h ≤ IntKind.i64.max) (w2 : ns.length ≤ maxLen ∧ ∀ y ∈ ns, IntKind.i64.min ≤ y ∧ y ≤ IntKind.i64.max) :
    w3_ExprEvals l h ns = some true := by
  rw [w3_ExprEvals.eq]; unfold w3_ExprEvals_b
  obtain ⟨b, hb, hx⟩ := few_one l w.1 w.2
  obtain ⟨s, hs, hs1, hs2⟩ := syms_spec ns w2.1
  obtain ⟨j, hj, ej⟩ := within_nat h 1048577 (by decide) (by decide)
  have ej : w3_within h 1048577 = some (j : Int) := ej
  cases b with
  | false => simp [w3_known_true, hb]
  | true =>
    obtain ⟨x, e1, e2, e3⟩ := hx rfl
    have g1 := expr_Eval_eq (h := (j : Int)) (l := s) (by omega) ⟨by omega, by omega⟩ hs2 x e2
    have g2 := r3_Eval_eq (h := (j : Int)) (l := s) (by omega) ⟨by omega, by omega⟩ hs2 x e2
    simp [w3_known_true, hb, e1, hs, ej, g1, g2]
end Go.Ab
namespace Go.Ab
def ba (l : List UInt8) : ByteArray := ⟨l.toArray⟩
theorem bl_ba (l : List UInt8) : bl (ba l) = l := by simp [bl, ba]
theorem ba_bl (s : ByteArray) : ba (bl s) = s := by cases s; simp [bl, ba]
theorem ba_size (l : List UInt8) : (ba l).size = l.length := by rw [bl_size, bl_ba]
theorem ba_inj {a b : List UInt8} (h : ba a = ba b) : a = b := by rw [← bl_ba a, ← bl_ba b, h]
theorem ba_extract (l : List UInt8) (i j : Nat) : (ba l).extract i j = ba ((l.take j).drop i) := by rw [← ba_bl ((ba l).extract i j), bl_extract, bl_ba]
theorem ba_append (a b : List UInt8) : ba a ++ ba b = ba (a ++ b) := by rw [← ba_bl (ba a ++ ba b), bl_append, bl_ba, bl_ba]
theorem ba_getD (l : List UInt8) (i : Nat) (d : UInt8) : (ba l).data.getD i d = l.getD i d := by rw [bl_getD, bl_ba]
theorem eqS_ba (a b : List UInt8) : eqS (ba a) (ba b) = decide (a = b) := by rw [eqS_decide, bl_ba, bl_ba]
/-- what kind a byte is of -/
def isD (b : UInt8) : Bool := decide (48 ≤ b.toNat ∧ b.toNat ≤ 57)
def isS (b : UInt8) : Bool := decide (97 ≤ b.toNat ∧ b.toNat ≤ 122 ∨ b.toNat = 95)
def isI (b : UInt8) : Bool := isS b || isD b
def isH (b : UInt8) : Bool := isD b || decide (97 ≤ b.toNat ∧ b.toNat ≤ 102)
theorem get!_eq (s : ByteArray) (i : Nat) (h : i < s.size) : s.get! i = (bl s)[i]'h := by
  simp only [ByteArray.get!, bl]
  have h' : i < s.data.size := h
  simp [getElem!_def, Array.getElem?_eq_getElem h']
theorem decode_lt (s : List UInt8) {i : Nat} (h : i < s.length) (hb : s[i].toNat < 128) : Utf8.decode (ba s) i = (s[i].toNat, 1) := by
  have hg : ((ba s).get! (i + 0)).toNat = s[i].toNat := by
    rw [Nat.add_zero, get!_eq _ _ (by rw [ba_size]; exact h)]; simp [bl_ba]
  unfold Utf8.decode
  simp only [hg]
  rw [if_pos hb]
theorem decode_ge (s : List UInt8) {i : Nat} (h : i < s.length) (hb : ¬ s[i].toNat < 128) : 128 ≤ (Utf8.decode (ba s) i).1 := by
  have hg : ((ba s).get! (i + 0)).toNat = s[i].toNat := by
    rw [Nat.add_zero, get!_eq _ _ (by rw [ba_size]; exact h)]; simp [bl_ba]
  unfold Utf8.decode
  simp only [hg]
  rw [if_neg hb]
  have he : Utf8.runeError = 65533 := rfl
  repeat' split
  all_goals simp_all
  all_goals omega
theorem takeWhile_at {p : UInt8 → Bool} : ∀ (s : List UInt8) (i : Nat) (hi : i ≤ s.length), (s.take i).all p = true → (∀ h : i < s.length, p s[i] = false) → s.takeWhile p = s.take i
  | s, 0, _, _, h => by
    cases s with
    | nil => rfl
    | cons b s => have := h (by simp); simp at this; simp [this]
  | [], i + 1, hi, _, _ => by simp at hi
  | b :: s, i + 1, hi, ha, h => by
    simp only [List.take_succ_cons, List.all_cons, Bool.and_eq_true] at ha
    simp only [List.take_succ_cons, List.takeWhile_cons, ha.1, if_true]
    rw [takeWhile_at s i (by simpa using hi) ha.2 (fun hl => h (by simp only [List.length_cons]; omega))]
theorem all_take_succ {p : UInt8 → Bool} {s : List UInt8} {i : Nat} (h : i < s.length) (ha : (s.take i).all p = true) (hp : p s[i] = true) : (s.take (i + 1)).all p = true := by
  rw [List.take_succ_eq_append_getElem h, List.all_append, ha]; simp [hp]
theorem expr_digit_eq (n : Nat) : expr_digit n = some (decide (48 ≤ n ∧ n ≤ 57)) := by
  rw [expr_digit.eq]; unfold expr_digit_b
  have c1 : decide ((n : Int) ≥ 48) = decide (48 ≤ n) := decide_eq_decide.2 (by omega)
  have c2 : decide ((n : Int) ≤ 57) = decide (n ≤ 57) := decide_eq_decide.2 (by omega)
  rw [c1, c2, Bool.decide_and]
  cases decide (48 ≤ n) <;> rfl
theorem expr_small_eq (n : Nat) : expr_small n = some (decide (97 ≤ n ∧ n ≤ 122 ∨ n = 95)) := by
  rw [expr_small.eq]; unfold expr_small_b
  have c1 : decide ((n : Int) ≥ 97) = decide (97 ≤ n) := decide_eq_decide.2 (by omega)
  have c2 : decide ((n : Int) ≤ 122) = decide (n ≤ 122) := decide_eq_decide.2 (by omega)
  have c3 : (((n : Nat) : Int) == 95) = decide (n = 95) := by rw [Bool.eq_iff_iff, beq_iff_eq, decide_eq_true_iff]; omega
  rw [c1, c2, c3, Bool.decide_or, Bool.decide_and]
  cases decide (97 ≤ n) <;> cases decide (n ≤ 122) <;> rfl
theorem expr_inner_eq (n : Nat) : expr_inner n = some (decide (97 ≤ n ∧ n ≤ 122 ∨ n = 95) || decide (48 ≤ n ∧ n ≤ 57)) := by
  rw [expr_inner.eq]; unfold expr_inner_b
  rw [expr_small_eq, expr_digit_eq]
  simp only [Option.bind_some]
  cases decide (97 ≤ n ∧ n ≤ 122 ∨ n = 95) <;> rfl
theorem expr_hex_eq (n : Nat) : expr_hex n = some (decide (48 ≤ n ∧ n ≤ 57) || decide (97 ≤ n ∧ n ≤ 102)) := by
  rw [expr_hex.eq]; unfold expr_hex_b
  have c1 : decide ((n : Int) ≥ 97) = decide (97 ≤ n) := decide_eq_decide.2 (by omega)
  have c2 : decide ((n : Int) ≤ 102) = decide (n ≤ 102) := decide_eq_decide.2 (by omega)
  rw [expr_digit_eq, c1, c2]
  simp only [Option.bind_some]
  rw [Bool.decide_and (97 ≤ n)]
  cases decide (48 ≤ n ∧ n ≤ 57) <;> cases decide (97 ≤ n) <;> rfl
theorem expr_as_eq (s : List UInt8) : expr_as (ba s) = some (ba (s.takeWhile isH)) := by
  obtain ⟨r, h1, h2⟩ := loop_ind expr_as_L1.eq (fun a => ∃ i : Nat, i ≤ s.length ∧ a = ⟨ba s, ba s, i⟩ ∧ (s.take i).all isH = true) (fun _ r => r = .inl (ba (s.takeWhile isH)) ∨ r = .inr (ba (s.takeWhile isH))) (fun a => s.length - a.i0p) (by
    rintro a ⟨i, hi, rfl, ha⟩
    simp only [expr_as_L1_b, ba_size]
    by_cases h : i < s.length
    · have c1 : decide (i < s.length) = true := by simp [h]
      by_cases hb : s[i].toNat < 128
      · rw [decode_lt s h hb, c1, cond_true]
        simp only [expr_hex_eq, Option.bind_some]
        have hp : isH s[i] = (decide (48 ≤ s[i].toNat ∧ s[i].toNat ≤ 57) || decide (97 ≤ s[i].toNat ∧ s[i].toNat ≤ 102)) := by simp [isH, isS, isD, isI]
        rw [← hp]
        cases hq : isH s[i] with
        | true => exact .inl ⟨⟨ba s, ba s, i + 1⟩, rfl, ⟨i + 1, by omega, rfl, all_take_succ h ha hq⟩, by simp only; omega, fun r hr => hr⟩
        | false =>
          refine .inr ⟨_, ?_, .inl rfl⟩
          rw [takeWhile_at s i hi ha (fun _ => hq)]
          have c2 : decide (0 ≤ (0 : Int) ∧ (0 : Int) ≤ ((i : Nat) : Int) ∧ ((i : Nat) : Int) ≤ ((s.length : Nat) : Int)) = true := by simp; omega
          simp only [Bool.not_false, cond_true, c2, Int.toNat_natCast, Int.toNat_zero, ba_extract, List.drop_zero]
      · have hd := decode_ge s h hb
        have hq : isH s[i] = false := by simp [isH, isS, isD, isI]; omega
        rw [c1, cond_true]
        simp only [expr_hex_eq, Option.bind_some]
        generalize (Utf8.decode (ba s) i).1 = r at hd
        have hp : (decide (48 ≤ r ∧ r ≤ 57) || decide (97 ≤ r ∧ r ≤ 102)) = false := by simp; omega
        rw [hp]
        refine .inr ⟨_, ?_, .inl rfl⟩
        rw [takeWhile_at s i hi ha (fun _ => hq)]
        have c2 : decide (0 ≤ (0 : Int) ∧ (0 : Int) ≤ ((i : Nat) : Int) ∧ ((i : Nat) : Int) ≤ ((s.length : Nat) : Int)) = true := by simp; omega
        simp only [Bool.not_false, cond_true, c2, Int.toNat_natCast, Int.toNat_zero, ba_extract, List.drop_zero]
    · have c1 : decide (i < s.length) = false := by simp; omega
      refine .inr ⟨_, by rw [c1]; rfl, .inr ?_⟩
      rw [takeWhile_at s i hi ha (fun h' => absurd h' h), List.take_of_length_le (by omega)]) ⟨ba s, ba s, 0⟩ ⟨0, by omega, rfl, by simp⟩
  rw [expr_as.eq]; unfold expr_as_b
  rw [h1]
  rcases h2 with rfl | rfl <;> rfl
theorem expr_as_2_eq (s : List UInt8) : expr_as_2 (ba s) = some (ba (s.takeWhile isI)) := by
  obtain ⟨r, h1, h2⟩ := loop_ind expr_as_2_L1.eq (fun a => ∃ i : Nat, i ≤ s.length ∧ a = ⟨ba s, ba s, i⟩ ∧ (s.take i).all isI = true) (fun _ r => r = .inl (ba (s.takeWhile isI)) ∨ r = .inr (ba (s.takeWhile isI))) (fun a => s.length - a.i0p) (by
    rintro a ⟨i, hi, rfl, ha⟩
    simp only [expr_as_2_L1_b, ba_size]
    by_cases h : i < s.length
    · have c1 : decide (i < s.length) = true := by simp [h]
      by_cases hb : s[i].toNat < 128
      · rw [decode_lt s h hb, c1, cond_true]
        simp only [expr_inner_eq, Option.bind_some]
        have hp : isI s[i] = (decide (97 ≤ s[i].toNat ∧ s[i].toNat ≤ 122 ∨ s[i].toNat = 95) || decide (48 ≤ s[i].toNat ∧ s[i].toNat ≤ 57)) := by simp [isI, isS, isD, isI]
        rw [← hp]
        cases hq : isI s[i] with
        | true => exact .inl ⟨⟨ba s, ba s, i + 1⟩, rfl, ⟨i + 1, by omega, rfl, all_take_succ h ha hq⟩, by simp only; omega, fun r hr => hr⟩
        | false =>
          refine .inr ⟨_, ?_, .inl rfl⟩
          rw [takeWhile_at s i hi ha (fun _ => hq)]
          have c2 : decide (0 ≤ (0 : Int) ∧ (0 : Int) ≤ ((i : Nat) : Int) ∧ ((i : Nat) : Int) ≤ ((s.length : Nat) : Int)) = true := by simp; omega
          simp only [Bool.not_false, cond_true, c2, Int.toNat_natCast, Int.toNat_zero, ba_extract, List.drop_zero]
      · have hd := decode_ge s h hb
        have hq : isI s[i] = false := by simp [isI, isS, isD, isI]; omega
        rw [c1, cond_true]
        simp only [expr_inner_eq, Option.bind_some]
        generalize (Utf8.decode (ba s) i).1 = r at hd
        have hp : (decide (97 ≤ r ∧ r ≤ 122 ∨ r = 95) || decide (48 ≤ r ∧ r ≤ 57)) = false := by simp; omega
        rw [hp]
        refine .inr ⟨_, ?_, .inl rfl⟩
        rw [takeWhile_at s i hi ha (fun _ => hq)]
        have c2 : decide (0 ≤ (0 : Int) ∧ (0 : Int) ≤ ((i : Nat) : Int) ∧ ((i : Nat) : Int) ≤ ((s.length : Nat) : Int)) = true := by simp; omega
        simp only [Bool.not_false, cond_true, c2, Int.toNat_natCast, Int.toNat_zero, ba_extract, List.drop_zero]
    · have c1 : decide (i < s.length) = false := by simp; omega
      refine .inr ⟨_, by rw [c1]; rfl, .inr ?_⟩
      rw [takeWhile_at s i hi ha (fun h' => absurd h' h), List.take_of_length_le (by omega)]) ⟨ba s, ba s, 0⟩ ⟨0, by omega, rfl, by simp⟩
  rw [expr_as_2.eq]; unfold expr_as_2_b
  rw [h1]
  rcases h2 with rfl | rfl <;> rfl
theorem expr_as_3_eq (s : List UInt8) : expr_as_3 (ba s) = some (ba (s.takeWhile isD)) := by
  obtain ⟨r, h1, h2⟩ := loop_ind expr_as_3_L1.eq (fun a => ∃ i : Nat, i ≤ s.length ∧ a = ⟨ba s, ba s, i⟩ ∧ (s.take i).all isD = true) (fun _ r => r = .inl (ba (s.takeWhile isD)) ∨ r = .inr (ba (s.takeWhile isD))) (fun a => s.length - a.i0p) (by
    rintro a ⟨i, hi, rfl, ha⟩
    simp only [expr_as_3_L1_b, ba_size]
    by_cases h : i < s.length
    · have c1 : decide (i < s.length) = true := by simp [h]
      by_cases hb : s[i].toNat < 128
      · rw [decode_lt s h hb, c1, cond_true]
        simp only [expr_digit_eq, Option.bind_some]
        have hp : isD s[i] = decide (48 ≤ s[i].toNat ∧ s[i].toNat ≤ 57) := by simp [isD, isS, isD, isI]
        rw [← hp]
        cases hq : isD s[i] with
        | true => exact .inl ⟨⟨ba s, ba s, i + 1⟩, rfl, ⟨i + 1, by omega, rfl, all_take_succ h ha hq⟩, by simp only; omega, fun r hr => hr⟩
        | false =>
          refine .inr ⟨_, ?_, .inl rfl⟩
          rw [takeWhile_at s i hi ha (fun _ => hq)]
          have c2 : decide (0 ≤ (0 : Int) ∧ (0 : Int) ≤ ((i : Nat) : Int) ∧ ((i : Nat) : Int) ≤ ((s.length : Nat) : Int)) = true := by simp; omega
          simp only [Bool.not_false, cond_true, c2, Int.toNat_natCast, Int.toNat_zero, ba_extract, List.drop_zero]
      · have hd := decode_ge s h hb
        have hq : isD s[i] = false := by simp [isD, isS, isD, isI]; omega
        rw [c1, cond_true]
        simp only [expr_digit_eq, Option.bind_some]
        generalize (Utf8.decode (ba s) i).1 = r at hd
        have hp : (decide (48 ≤ r ∧ r ≤ 57)) = false := by simp; omega
        rw [hp]
        refine .inr ⟨_, ?_, .inl rfl⟩
        rw [takeWhile_at s i hi ha (fun _ => hq)]
        have c2 : decide (0 ≤ (0 : Int) ∧ (0 : Int) ≤ ((i : Nat) : Int) ∧ ((i : Nat) : Int) ≤ ((s.length : Nat) : Int)) = true := by simp; omega
        simp only [Bool.not_false, cond_true, c2, Int.toNat_natCast, Int.toNat_zero, ba_extract, List.drop_zero]
    · have c1 : decide (i < s.length) = false := by simp; omega
      refine .inr ⟨_, by rw [c1]; rfl, .inr ?_⟩
      rw [takeWhile_at s i hi ha (fun h' => absurd h' h), List.take_of_length_le (by omega)]) ⟨ba s, ba s, 0⟩ ⟨0, by omega, rfl, by simp⟩
  rw [expr_as_3.eq]; unfold expr_as_3_b
  rw [h1]
  rcases h2 with rfl | rfl <;> rfl
end Go.Ab
namespace Go.Ab
def dropB (s : List UInt8) : List UInt8 := s.dropWhile (· == 32)
theorem dropB_idem (s : List UInt8) : dropB (dropB s) = dropB s := by
  unfold dropB
  induction s with
  | nil => rfl
  | cons b s ih =>
    by_cases h : b = 32
    · simp [List.dropWhile_cons, h, ih]
    · simp [List.dropWhile_cons, h]
theorem dropB_le (s : List UInt8) : (dropB s).length ≤ s.length := by unfold dropB; exact (List.dropWhile_sublist _).length_le
abbrev PS (s : List UInt8) (d : Int) (b : Bool) : T_expr_parser := ⟨ba s, d, b⟩
theorem trimLeft_eq (s : List UInt8) : strings_TrimLeft (ba s) = some (ba (dropB s)) := by
  have loop : ∀ s : List UInt8, strings_trimLeftByte_L1 ⟨ba s, 32⟩ = some (ba (dropB s)) := by
    intro s
    induction s with
    | nil => rw [strings_trimLeftByte_L1.eq]; rfl
    | cons b s ih =>
      rw [strings_trimLeftByte_L1.eq]; unfold strings_trimLeftByte_L1_b
      have c1 : decide (((b :: s).length : Int) > 0) = true := by simp only [List.length_cons, decide_eq_true_eq]; omega
      have c2 : decide (0 ≤ (0 : Int) ∧ (0 : Int) < ((b :: s).length : Int)) = true := by simp only [List.length_cons, decide_eq_true_eq]; omega
      have c4 : decide (0 ≤ (1 : Int) ∧ (1 : Int) ≤ (((b :: s).length : Nat) : Int) ∧ (((b :: s).length : Nat) : Int) ≤ (((b :: s).length : Nat) : Int)) = true := by simp only [List.length_cons, decide_eq_true_eq]; omega
      simp only [ba_size, c1, c2, cond_true, ba_getD]
      by_cases h : b = 32
      · have c3 : ((((b :: s).getD (Int.toNat 0) 0).toNat : Int) == 32) = true := by subst h; rfl
        rw [c3, cond_true, c4, cond_true]
        simp only [Option.bind_some, Sum.elim_inl, ba_extract, Int.toNat_natCast]
        rw [show List.drop (Int.toNat 1) (List.take (b :: s).length (b :: s)) = s from by rw [List.take_length]; rfl, ih]
        simp [dropB, List.dropWhile_cons, h]
      · have c3 : ((((b :: s).getD (Int.toNat 0) 0).toNat : Int) == 32) = false := by
          rw [beq_eq_false_iff_ne]
          intro e
          apply h
          have e : (b.toNat : Int) = 32 := e
          exact UInt8.toNat_inj.1 (by have : (32 : UInt8).toNat = 32 := rfl; omega)
        rw [c3, cond_false]
        simp only [Option.bind_some, Sum.elim_inr]
        simp [dropB, List.dropWhile_cons, h]
  rw [strings_TrimLeft.eq]; unfold strings_TrimLeft_b
  by_cases h : s = []
  · subst h; have : eqS (ba []) s_ = true := eqS_iff.2 rfl
    rw [this]; rfl
  · have : eqS (ba s) s_ = false := by
      rw [show s_ = ba [] from rfl, eqS_ba]; simp [h]
    rw [this, cond_false, strings_trimLeftByte.eq]; unfold strings_trimLeftByte_b
    rw [loop s]; rfl
theorem blanks_eq (s : List UInt8) (d : Int) (b : Bool) : expr_parser_blanks (PS s d b) = some (PS (dropB s) d b) := by
  rw [expr_parser_blanks.eq]; unfold expr_parser_blanks_b
  simp only [trimLeft_eq, Option.bind_some]
/-- does a begin s? -/
def pre (a s : List UInt8) : Bool := decide (s.take a.length = a)
theorem hasPrefix_eq (s a : List UInt8) : strings_HasPrefix (ba s) (ba a) = some (pre a s) := by
  rw [strings_HasPrefix.eq]; unfold strings_HasPrefix_b
  rw [stringslite_HasPrefix.eq]; unfold stringslite_HasPrefix_b
  simp only [ba_size, ba_extract, eqS_ba, Int.toNat_natCast]
  by_cases h : a.length ≤ s.length
  · have c1 : decide ((s.length : Int) ≥ (a.length : Int)) = true := by simp; omega
    have c2 : decide (0 ≤ (0 : Int) ∧ (0 : Int) ≤ (a.length : Int) ∧ (a.length : Int) ≤ (s.length : Int)) = true := by simp; omega
    rw [c1, cond_true, c2, cond_true]; rfl
  · have c1 : decide ((s.length : Int) ≥ (a.length : Int)) = false := by simp; omega
    rw [c1, cond_false]
    simp only [Option.bind_some, pre]
    rw [decide_eq_false]
    intro e
    have := congrArg List.length e
    simp at this; omega
theorem hasPrefix2_eq (s : List UInt8) : strings_HasPrefix_2 (ba s) = some (pre [48, 120] s) := by
  rw [strings_HasPrefix_2.eq]; unfold strings_HasPrefix_2_b
  have h := hasPrefix_eq s [48, 120]
  rw [strings_HasPrefix.eq] at h; unfold strings_HasPrefix_b at h
  exact h
theorem pre_len {a s : List UInt8} (h : pre a s = true) : a.length ≤ s.length ∧ s = a ++ s.drop a.length := by
  have e : s.take a.length = a := of_decide_eq_true h
  refine ⟨?_, ?_⟩
  · have := congrArg List.length e; simp at this; omega
  · conv => lhs; rw [← List.take_append_drop a.length s, e]
theorem take_eq (a s : List UInt8) (d : Int) (b : Bool) : expr_parser_take (ba a) (PS s d b) = some (bif b then (false, PS (dropB s) d b) else bif pre a (dropB s) then (true, PS ((dropB s).drop a.length) d b) else (false, PS (dropB s) d b)) := by
  rw [expr_parser_take.eq]; unfold expr_parser_take_b
  simp only [blanks_eq, Option.bind_some]
  cases b with
  | true => rfl
  | false =>
    simp only [cond_false, hasPrefix_eq, Option.bind_some]
    cases h : pre a (dropB s) with
    | false => rfl
    | true =>
      obtain ⟨h1, h2⟩ := pre_len h
      simp only [Bool.not_true, cond_false, ba_size, ba_extract, Int.toNat_natCast, cond_true]
      have c2 : decide (0 ≤ (a.length : Int) ∧ (a.length : Int) ≤ ((dropB s).length : Int) ∧ ((dropB s).length : Int) ≤ ((dropB s).length : Int)) = true := by simp; omega
      rw [c2, cond_true, List.take_length]
/-- the signs of kinds of two -/
def sg (k : Nat) : List UInt8 := match k with
  | 5 => [43] | 6 => [45] | 7 => [42] | 8 => [38] | 9 => [124] | 10 => [60, 60] | 11 => [62, 62] | _ => []
theorem signs_eq : expr_signs = some [s_, s_, s_, h_2e, h_2d, ba (sg 5), ba (sg 6), ba (sg 7), ba (sg 8), ba (sg 9), ba (sg 10), ba (sg 11)] := by rw [expr_signs.eq]; rfl
theorem signs_at {k : Nat} (h : 5 ≤ k ∧ k ≤ 11) : [s_, s_, s_, h_2e, h_2d, ba (sg 5), ba (sg 6), ba (sg 7), ba (sg 8), ba (sg 9), ba (sg 10), ba (sg 11)][k]? = some (ba (sg k)) := by
  have : k = 5 ∨ k = 6 ∨ k = 7 ∨ k = 8 ∨ k = 9 ∨ k = 10 ∨ k = 11 := by omega
  rcases this with rfl | rfl | rfl | rfl | rfl | rfl | rfl <;> rfl
/-- the kinds of a level -/
def lv (l : Nat) : List Nat := match l with
  | 0 => [9] | 1 => [8] | 2 => [10, 11] | 3 => [5, 6] | _ => [7]
theorem lv_ok {l k : Nat} (h : k ∈ lv l) : 5 ≤ k ∧ k ≤ 11 := by
  unfold lv at h; split at h <;> simp at h <;> omega
/-- a sign of a level that stands here -/
def kindS (ks : List Nat) (t : List UInt8) : Option Nat := ks.find? fun k => pre (sg k) t
theorem kind_eq (ks : List Nat) (hk : ∀ k ∈ ks, 5 ≤ k ∧ k ≤ 11) (hne : ks ≠ []) (hl : ks.length ≤ 1000) (s : List UInt8) (d : Int) (b : Bool) : expr_parser_kind (ks.map fun k : Nat => (k : Int)) (PS s d b) =
    some (bif b then (0, PS (dropB s) d b) else match kindS ks (dropB s) with | some k => ((k : Int), PS ((dropB s).drop (sg k).length) d b) | none => (0, PS (dropB s) d b)) := by
  obtain ⟨r, h1, h2⟩ := loop_ind expr_parser_kind_L1.eq
    (fun a => ∃ i : Nat, ∃ s' : List UInt8, i ≤ ks.length ∧ dropB s' = dropB s ∧ (i = ks.length → s' = dropB s) ∧ a = ⟨ks.map fun k : Nat => (k : Int), ks.length, i, PS s' d b⟩ ∧ (b = false → kindS (ks.drop i) (dropB s) = kindS ks (dropB s)))
    (fun _ r => r = bif b then .inr (PS (dropB s) d b) else match kindS ks (dropB s) with | some k => .inl ⟨(k : Int), PS ((dropB s).drop (sg k).length) d b⟩ | none => .inr (PS (dropB s) d b)) (fun a => ks.length - a.x9.toNat) (by
    rintro a ⟨i, s', hi, hs, hend, rfl, hq⟩
    simp only [expr_parser_kind_L1_b, Int.toNat_natCast]
    by_cases h : i < ks.length
    · have c1 : decide ((i : Int) < (ks.length : Int)) = true := by simp; omega
      have hd : ks.drop i = ks[i] :: ks.drop (i + 1) := List.drop_eq_getElem_cons h
      have hki := hk ks[i] (List.getElem_mem h)
      rw [c1, cond_true, List.getElem?_map, List.getElem?_eq_getElem h]
      simp only [Int.natCast_nonneg, decide_true, cond_true, Option.map_some, Option.bind_some, signs_eq, Int.toNat_natCast, signs_at hki, take_eq, hs]
      cases b with
      | true =>
        refine .inl ⟨⟨ks.map fun k : Nat => (k : Int), ks.length, (i + 1 : Nat), PS (dropB s) d true⟩, ?_, ⟨i + 1, dropB s, by omega, dropB_idem s, fun _ => rfl, rfl, fun e => by cases e⟩, by simp only [Int.toNat_natCast]; omega, fun r hr => hr⟩
        simp only [cond_true, cond_false]
        rw [w64_in (n := (i : Int) + 1) (by omega) (by omega)]; rfl
      | false =>
        simp only [cond_false]
        have hq := hq rfl
        cases hp : pre (sg ks[i]) (dropB s) with
        | true =>
          have : kindS ks (dropB s) = some ks[i] := by rw [← hq, hd]; simp only [kindS, List.find?_cons, hp]
          refine .inr ⟨_, rfl, ?_⟩
          rw [this]; rfl
        | false =>
          refine .inl ⟨⟨ks.map fun k : Nat => (k : Int), ks.length, (i + 1 : Nat), PS (dropB s) d false⟩, ?_, ⟨i + 1, dropB s, by omega, dropB_idem s, fun _ => rfl, rfl, fun _ => ?_⟩, by simp only [Int.toNat_natCast]; omega, fun r hr => hr⟩
          · simp only [cond_false]
            rw [w64_in (n := (i : Int) + 1) (by omega) (by omega)]; rfl
          · rw [← hq, hd]; simp only [kindS, List.find?_cons, hp]
    · have c1 : decide ((i : Int) < (ks.length : Int)) = false := by simp; omega
      have he := hend (by omega)
      subst he
      refine .inr ⟨_, by rw [c1]; rfl, ?_⟩
      cases b with
      | true => rfl
      | false =>
        have hq := hq rfl
        rw [List.drop_eq_nil_of_le (by omega)] at hq
        rw [← hq]; rfl)
    ⟨ks.map fun k : Nat => (k : Int), ks.length, 0, PS s d b⟩ ⟨0, s, by omega, rfl, fun e => by cases ks with | nil => exact absurd rfl hne | cons => simp at e, rfl, fun _ => rfl⟩
  rw [expr_parser_kind.eq]; unfold expr_parser_kind_b
  rw [List.length_map, h1, h2]
  cases b with
  | true => rfl
  | false =>
    simp only [cond_false]
    cases kindS ks (dropB s) <;> rfl
end Go.Ab
namespace Go.Ab
abbrev E0 : T_api_Expr := ⟨0, 0, s_, []⟩
theorem i32_in {n : Int} (h1 : 0 ≤ n) (h2 : n ≤ 2147483647) : IntKind.i32.wrap n = n := by
  have e : n % 4294967296 = n := Int.emod_eq_of_lt h1 (by omega)
  unfold IntKind.wrap
  simp [IntKind.bits, IntKind.signed, e]
  omega
def dg (b : UInt8) : Nat := if 97 ≤ b.toNat then b.toNat - 97 + 10 else b.toNat - 48
def numv (base : Nat) : List UInt8 → Nat → Option Nat
  | [], n => some n
  | b :: l, n => if n * base + dg b ≥ 4294967296 then none else numv base l (n * base + dg b)
theorem dg_lt {b : UInt8} (h : isH b = true) : dg b < 16 := by
  unfold isH isD at h; unfold dg
  simp only [Bool.or_eq_true, decide_eq_true_eq] at h
  split <;> omega
theorem numv_lt {base : Nat} : ∀ {l : List UInt8} {n r : Nat}, n < 4294967296 → numv base l n = some r → r < 4294967296
  | [], n, r, h, e => by cases e; exact h
  | b :: l, n, r, h, e => by
    simp only [numv] at e
    split at e
    · cases e
    · exact numv_lt (by omega) e
theorem fail_eq (s : List UInt8) (d : Int) (b : Bool) : expr_parser_fail (PS s d b) = some (E0, PS s d true) := by rw [expr_parser_fail.eq]; rfl
theorem number_eq (ds r : List UInt8) (hds : ds.all isH = true) (base : Nat) (hb : base ≤ 16) (d : Int) (b : Bool) : expr_parser_number (ba ds) base (PS (ds ++ r) d b) =
    some (match numv base ds 0 with | some n => (⟨1, n, s_, []⟩, PS r d b) | none => (E0, PS (ds ++ r) d true)) := by
  obtain ⟨x, h1, h2⟩ := loop_ind expr_parser_number_L1.eq
    (fun a => ∃ i n : Nat, i ≤ ds.length ∧ n < 4294967296 ∧ a = ⟨ba ds, base, n, PS (ds ++ r) d b, E0, ba ds, i⟩ ∧ numv base (ds.drop i) n = numv base ds 0)
    (fun _ x => match numv base ds 0 with | some n => x = .inr ⟨ba ds, n, PS (ds ++ r) d b, E0⟩ | none => x = .inl ⟨PS (ds ++ r) d true, E0⟩)
    (fun a => ds.length - a.i2p) (by
    rintro a ⟨i, n, hi, hn, rfl, hq⟩
    simp only [expr_parser_number_L1_b, ba_size]
    by_cases h : i < ds.length
    · have c1 : decide (i < ds.length) = true := decide_eq_true h
      have hH : isH ds[i] = true := List.all_eq_true.1 hds _ (List.getElem_mem h)
      have hH2 := hH
      unfold isH isD at hH2
      simp only [Bool.or_eq_true, decide_eq_true_eq] at hH2
      have hdg := dg_lt hH
      have hd : ds.drop i = ds[i] :: ds.drop (i + 1) := List.drop_eq_getElem_cons h
      rw [hd] at hq
      simp only [numv] at hq
      rw [c1, cond_true, decode_lt ds h (by omega)]
      simp only [fail_eq, Option.bind_some]
      have hmul : n * base ≤ 4294967296 * 16 := Nat.mul_le_mul (by omega) hb
      have em : w64 ((n : Int) * (base : Int)) = ((n * base : Nat) : Int) := by rw [← Int.natCast_mul]; exact w64_in (by omega) (by omega)
      have key : ∀ x : Int, x = (dg ds[i] : Int) → w64 (w64 ((n : Int) * (base : Int)) + w64 x) = ((n * base + dg ds[i] : Nat) : Int) := by
        intro x hx
        rw [em, hx, w64_in (n := (dg ds[i] : Int)) (by omega) (by omega), w64_in (by omega) (by omega)]; omega
      by_cases h97 : 97 ≤ ds[i].toNat
      · have c2 : decide ((ds[i].toNat : Int) ≥ 97) = true := decide_eq_true (by omega)
        have hdv : dg ds[i] = ds[i].toNat - 97 + 10 := by unfold dg; rw [if_pos h97]
        have e1 : w64 (IntKind.i32.wrap ((ds[i].toNat : Int) - 97)) + 10 = (dg ds[i] : Int) := by
          rw [i32_in (by omega) (by omega), w64_in (by omega) (by omega)]; omega
        rw [c2, cond_true, key _ e1]
        by_cases hbig : n * base + dg ds[i] ≥ 4294967296
        · rw [if_pos hbig] at hq
          have c3 : decide (((n * base + dg ds[i] : Nat) : Int) ≥ 4294967296) = true := decide_eq_true (by omega)
          rw [c3, cond_true]
          exact .inr ⟨_, rfl, by rw [← hq]⟩
        · rw [if_neg hbig] at hq
          have c3 : decide (((n * base + dg ds[i] : Nat) : Int) ≥ 4294967296) = false := decide_eq_false (by omega)
          rw [c3, cond_false]
          exact .inl ⟨_, rfl, ⟨i + 1, _, by omega, by omega, rfl, hq⟩, by simp only; omega, fun x hx => hx⟩
      · have c2 : decide ((ds[i].toNat : Int) ≥ 97) = false := decide_eq_false (by omega)
        have hdv : dg ds[i] = ds[i].toNat - 48 := by unfold dg; rw [if_neg h97]
        have e1 : IntKind.i32.wrap ((ds[i].toNat : Int) - 48) = (dg ds[i] : Int) := by
          rw [i32_in (by omega) (by omega)]; omega
        rw [c2, cond_false, key _ e1]
        by_cases hbig : n * base + dg ds[i] ≥ 4294967296
        · rw [if_pos hbig] at hq
          have c3 : decide (((n * base + dg ds[i] : Nat) : Int) ≥ 4294967296) = true := decide_eq_true (by omega)
          rw [c3, cond_true]
          exact .inr ⟨_, rfl, by rw [← hq]⟩
        · rw [if_neg hbig] at hq
          have c3 : decide (((n * base + dg ds[i] : Nat) : Int) ≥ 4294967296) = false := decide_eq_false (by omega)
          rw [c3, cond_false]
          exact .inl ⟨_, rfl, ⟨i + 1, _, by omega, by omega, rfl, hq⟩, by simp only; omega, fun x hx => hx⟩
    · have c1 : decide (i < ds.length) = false := decide_eq_false h
      rw [List.drop_eq_nil_of_le (by omega)] at hq
      refine .inr ⟨_, by rw [c1]; rfl, ?_⟩
      rw [← hq]; rfl) ⟨ba ds, base, 0, PS (ds ++ r) d b, E0, ba ds, 0⟩ ⟨0, 0, by omega, by omega, rfl, rfl⟩
  rw [expr_parser_number.eq]; unfold expr_parser_number_b
  rw [h1]
  cases hv : numv base ds 0 with
  | none => rw [hv] at h2; simp only at h2; subst h2; rfl
  | some n =>
    rw [hv] at h2; simp only at h2; subst h2
    simp only [Option.bind_some, Sum.elim_inr, ba_size, ba_extract, Int.toNat_natCast, List.length_append]
    have c2 : decide (0 ≤ (ds.length : Int) ∧ (ds.length : Int) ≤ ((ds.length + r.length : Nat) : Int) ∧ ((ds.length + r.length : Nat) : Int) ≤ ((ds.length + r.length : Nat) : Int)) = true := decide_eq_true (by omega)
    rw [c2, cond_true, List.take_of_length_le (by simp), List.drop_left]
theorem apart_eq (x : T_api_Expr) (s : List UInt8) (d : Int) (b : Bool) : expr_parser_apart x (PS s d b) = some (if s.takeWhile isI = [] then (x, PS s d b) else (E0, PS s d true)) := by
  rw [expr_parser_apart.eq]; unfold expr_parser_apart_b
  simp only [expr_as_2_eq, Option.bind_some, fail_eq]
  rw [show s_ = ba [] from rfl, eqS_ba]
  by_cases h : s.takeWhile isI = []
  · rw [if_pos h]; simp [h]
  · rw [if_neg h]; simp [h]
/-- whether a row of bytes is a word -/
def wordB (w : List UInt8) : Bool := match w with
  | [] => false
  | c :: t => decide (t.length < 12) && (!isD c && (decide ((c :: t).takeWhile isI = c :: t) && (decide (c ≠ 114) || (decide (t = []) || !decide (t.takeWhile isD = t)))))
theorem word_eq (w : List UInt8) : expr_word (ba w) = some (wordB w) := by
  rw [expr_word.eq]; unfold expr_word_b
  rw [show s_ = ba [] from rfl, eqS_ba]
  cases w with
  | nil => rfl
  | cons c t =>
    simp only [ba_size, ba_getD, expr_as_2_eq, ba_extract, expr_as_3_eq, Option.bind_some, eqS_ba]
    have c0 : decide (c :: t = []) = false := by simp
    have c2 : decide (0 ≤ (0 : Int) ∧ (0 : Int) < (((c :: t).length : Nat) : Int)) = true := decide_eq_true (by simp only [List.length_cons]; omega)
    have c3 : decide (0 ≤ (1 : Int) ∧ (1 : Int) ≤ (((c :: t).length : Nat) : Int) ∧ (((c :: t).length : Nat) : Int) ≤ (((c :: t).length : Nat) : Int)) = true := decide_eq_true (by simp only [List.length_cons]; omega)
    have c4 : IntKind.i32.wrap (((((c :: t).getD (Int.toNat 0) 0).toNat : Nat) : Int)) = (c.toNat : Int) := by
      show IntKind.i32.wrap (c.toNat : Int) = _
      exact i32_in (by omega) (by have := c.toNat_lt; omega)
    have e1 : ((c :: t).take (Int.toNat (((c :: t).length : Nat) : Int))).drop (Int.toNat 1) = t := by rw [Int.toNat_natCast, List.take_length]; rfl
    rw [c0, cond_false, c2, cond_true, c4, expr_digit_eq, c3, e1]
    simp only [Option.bind_some, eqS_ba, cond_true]
    have c1 : decide ((((c :: t).length : Nat) : Int) > 12) = !decide (t.length < 12) := by
      by_cases h : t.length < 12
      · rw [decide_eq_true h, decide_eq_false (by simp only [List.length_cons]; omega)]; rfl
      · rw [decide_eq_false h, decide_eq_true (by simp only [List.length_cons]; omega)]; rfl
    have c5 : ((((c :: t).getD (Int.toNat 0) 0).toNat : Int) != 114) = decide (c ≠ 114) := by
      show ((c.toNat : Int) != 114) = _
      rw [Bool.eq_iff_iff, bne_iff_ne, decide_eq_true_iff]
      have : (114 : UInt8).toNat = 114 := rfl
      constructor
      · intro h e; subst e; exact h rfl
      · intro h e; exact h (UInt8.toNat_inj.1 (by omega))
    have c6 : ((((c :: t).length : Nat) : Int) == 1) = decide (t = []) := by
      rw [Bool.eq_iff_iff, beq_iff_eq, decide_eq_true_iff]
      cases t <;> simp <;> omega
    rw [c1, c5, c6]
    have hw : wordB (c :: t) = (decide (t.length < 12) && (!isD c && (decide ((c :: t).takeWhile isI = c :: t) && (decide (c ≠ 114) || (decide (t = []) || !decide (t.takeWhile isD = t)))))) := rfl
    rw [hw]
    have c7 : decide (48 ≤ c.toNat ∧ c.toNat ≤ 57) = isD c := rfl
    rw [c7]
    cases decide (t.length < 12) <;> cases isD c <;> cases decide ((c :: t).takeWhile isI = c :: t) <;> cases decide (c ≠ 114) <;> cases decide (t = []) <;> rfl
end Go.Ab
namespace Go.Ab
theorem drop_tw {p : UInt8 → Bool} (t : List UInt8) : t.drop (t.takeWhile p).length = t.dropWhile p := by
  conv => lhs; rw [← List.takeWhile_append_dropWhile (p := p) (l := t)]
  rw [List.takeWhile_append_dropWhile, ]
  conv => lhs; arg 2; rw [← List.takeWhile_append_dropWhile (p := p) (l := t)]
  exact List.drop_left
/-- a number, if no word begins right behind it -/
def tailA (base : Nat) (h r : List UInt8) : Option (X3 × List UInt8) := match numv base h 0 with
  | some n => if r.takeWhile isI = [] then some (.num n, r) else none
  | none => none
/-- what stands by itself, but brackets, signs, the place -/
def atomS (t : List UInt8) : Option (X3 × List UInt8) :=
  bif pre [48, 120] t && !decide ((t.drop 2).takeWhile isH = []) then tailA 16 ((t.drop 2).takeWhile isH) ((t.drop 2).dropWhile isH)
  else bif !decide (t.takeWhile isD = []) then tailA 10 (t.takeWhile isD) (t.dropWhile isD)
  else bif wordB (t.takeWhile isI) then some (.nm (ba (t.takeWhile isI)), t.dropWhile isI) else none
/-- what the program answers: an expression and what is left, or that something is wrong -/
def PR (f : Option (T_api_Expr × T_expr_parser)) (d : Int) (o : Option (X3 × List UInt8)) : Prop := match o with
  | some (x, r) => f = some (x.t, PS r d false)
  | none => ∃ e r, f = some (e, PS r d true)
theorem all_tw {p q : UInt8 → Bool} (hpq : ∀ b, p b = true → q b = true) (t : List UInt8) : (t.takeWhile p).all q = true := by
  rw [List.all_eq_true]; intro b hb; exact hpq b (List.all_eq_true.1 List.all_takeWhile b hb)
theorem tail_PR (base : Nat) (hb : base ≤ 16) (h r : List UInt8) (hh : h.all isH = true) (d : Int) :
    PR ((expr_parser_number (ba h) base (PS (h ++ r) d false)).bind fun q => (expr_parser_apart q.1 q.2).bind fun q => some (q.1, q.2)) d (tailA base h r) := by
  rw [number_eq h r hh base hb]
  unfold tailA
  cases hv : numv base h 0 with
  | none =>
    simp only [Option.bind_some, apart_eq]
    split <;> exact ⟨_, _, rfl⟩
  | some n =>
    simp only [Option.bind_some, apart_eq]
    split
    · rfl
    · exact ⟨_, _, rfl⟩
theorem one_bad (s : List UInt8) (d : Int) : expr_parser_one (PS s d true) = some (E0, PS (dropB s) d true) := by
  rw [expr_parser_one.eq]; unfold expr_parser_one_b
  simp only [show h_28 = ba [40] from rfl, show h_2d = ba [45] from rfl, show h_2e = ba [46] from rfl, take_eq, cond_true, Option.bind_some, cond_false, dropB_idem]
theorem one_open {s r : List UInt8} (h : dropB s = 40 :: r) (d : Int) : expr_parser_one (PS s d false) = expr_parser_within (PS r d false) := by
  rw [expr_parser_one.eq]; unfold expr_parser_one_b
  simp only [show h_28 = ba [40] from rfl, take_eq, cond_true, Option.bind_some, cond_false, h]
  rw [show pre [40] (40 :: r) = true from by simp [pre]]
  simp only [cond_true]
  show (expr_parser_within (PS r d false)).bind (fun r2 => some (r2.1, r2.2)) = _
  cases expr_parser_within (PS r d false) <;> rfl
theorem pre1_ne {a : UInt8} {t : List UInt8} (h : ∀ r, t ≠ a :: r) : pre [a] t = false := by
  cases t with
  | nil => simp [pre]
  | cons b t =>
    have : b ≠ a := fun e => h t (by rw [e])
    simp [pre, this]
theorem one_minus {s r : List UInt8} (h : dropB s = 45 :: r) (d : Int) : expr_parser_one (PS s d false) = expr_parser_within_2 (PS r d false) := by
  rw [expr_parser_one.eq]; unfold expr_parser_one_b
  simp only [show h_28 = ba [40] from rfl, show h_2d = ba [45] from rfl, take_eq, cond_true, Option.bind_some, cond_false, h]
  rw [show pre [40] (45 :: r) = false from by simp [pre]]
  simp only [cond_false, take_eq]
  rw [show dropB (45 :: r) = 45 :: r from by simp [dropB, List.dropWhile_cons], show pre [45] (45 :: r) = true from by simp [pre]]
  simp only [cond_true, Option.bind_some]
  show (expr_parser_within_2 (PS r d false)).bind (fun r2 => some (r2.1, r2.2)) = _
  cases expr_parser_within_2 (PS r d false) <;> rfl
theorem one_dot {s r : List UInt8} (h : dropB s = 46 :: r) (d : Int) : expr_parser_one (PS s d false) = some (X3.here.t, PS r d false) := by
  rw [expr_parser_one.eq]; unfold expr_parser_one_b
  simp only [show h_28 = ba [40] from rfl, show h_2d = ba [45] from rfl, show h_2e = ba [46] from rfl, take_eq, cond_true, Option.bind_some, cond_false, h]
  rw [show pre [40] (46 :: r) = false from by simp [pre]]
  simp only [cond_false, take_eq]
  rw [show dropB (46 :: r) = 46 :: r from by simp [dropB, List.dropWhile_cons], show pre [45] (46 :: r) = false from by simp [pre]]
  simp only [cond_false, Option.bind_some, take_eq]
  rw [show dropB (46 :: r) = 46 :: r from by simp [dropB, List.dropWhile_cons], show pre [46] (46 :: r) = true from by simp [pre]]
  rfl
theorem one_atom {s t : List UInt8} (h : dropB s = t) (h1 : ∀ r, t ≠ 40 :: r) (h2 : ∀ r, t ≠ 45 :: r) (h3 : ∀ r, t ≠ 46 :: r) (d : Int) : PR (expr_parser_one (PS s d false)) d (atomS t) := by
  have ht : dropB t = t := by rw [← h, dropB_idem]
  rw [expr_parser_one.eq]; unfold expr_parser_one_b
  simp only [show h_28 = ba [40] from rfl, show h_2d = ba [45] from rfl, show h_2e = ba [46] from rfl, take_eq, cond_true, Option.bind_some, cond_false, h, ht, pre1_ne h1, pre1_ne h2, pre1_ne h3, hasPrefix2_eq, expr_as_eq, expr_as_2_eq, expr_as_3_eq, ba_size, ba_extract, word_eq, fail_eq]
  have rest : ∀ (P : Prop), (PR (bif !eqS (ba (t.takeWhile isD)) s_ then (expr_parser_number (ba (t.takeWhile isD)) 10 (PS t d false)).bind fun r18 => (expr_parser_apart r18.1 r18.2).bind fun r19 => some (r19.1, r19.2)
      else bif wordB (t.takeWhile isI) then (bif decide (0 ≤ (((t.takeWhile isI).length : Nat) : Int) ∧ (((t.takeWhile isI).length : Nat) : Int) ≤ ((t.length : Nat) : Int) ∧ ((t.length : Nat) : Int) ≤ ((t.length : Nat) : Int)) then
        some ((⟨2, 0, ba (t.takeWhile isI), []⟩ : T_api_Expr), (⟨ba ((t.take (Int.toNat ((t.length : Nat) : Int))).drop (Int.toNat (((t.takeWhile isI).length : Nat) : Int))), d, false⟩ : T_expr_parser)) else none) else some ((⟨0, 0, s_, []⟩ : T_api_Expr), (⟨ba t, d, true⟩ : T_expr_parser))) d
      (bif !decide (t.takeWhile isD = []) then tailA 10 (t.takeWhile isD) (t.dropWhile isD) else bif wordB (t.takeWhile isI) then some (.nm (ba (t.takeWhile isI)), t.dropWhile isI) else none) → P) → P := by
    intro P k
    apply k
    rw [show s_ = ba [] from rfl, eqS_ba]
    cases hD : decide (t.takeWhile isD = []) with
    | false =>
      simp only [Bool.not_false, cond_true]
      have := tail_PR 10 (by decide) (t.takeWhile isD) (t.dropWhile isD) (all_tw (fun b hb => by simp [isH, hb]) t) d
      rw [List.takeWhile_append_dropWhile] at this
      exact this
    | true =>
      simp only [Bool.not_true, cond_false]
      cases hw : wordB (t.takeWhile isI) with
      | false => exact ⟨_, _, rfl⟩
      | true =>
        simp only [cond_true]
        have hl : (t.takeWhile isI).length ≤ t.length := (List.takeWhile_sublist _).length_le
        have c1 : decide (0 ≤ (((t.takeWhile isI).length : Nat) : Int) ∧ (((t.takeWhile isI).length : Nat) : Int) ≤ ((t.length : Nat) : Int) ∧ ((t.length : Nat) : Int) ≤ ((t.length : Nat) : Int)) = true := decide_eq_true (by omega)
        rw [c1, cond_true, Int.toNat_natCast, Int.toNat_natCast, List.take_length, drop_tw]
        rfl
  unfold atomS
  cases hp : pre [48, 120] t with
  | false =>
    simp only [Bool.false_and, cond_false]
    exact rest _ id
  | true =>
    have hlen := (pre_len hp).1
    have c1 : decide (0 ≤ (2 : Int) ∧ (2 : Int) ≤ ((t.length : Nat) : Int) ∧ ((t.length : Nat) : Int) ≤ ((t.length : Nat) : Int)) = true := decide_eq_true (by simp at hlen; omega)
    have e2 : (t.take (Int.toNat ((t.length : Nat) : Int))).drop (Int.toNat 2) = t.drop 2 := by rw [Int.toNat_natCast, List.take_length]; rfl
    simp only [Bool.true_and, cond_true]
    rw [c1, cond_true, e2]
    cases hH : decide ((t.drop 2).takeWhile isH = []) with
    | true =>
      have : eqS (ba ((t.drop 2).takeWhile isH)) s_ = true := by rw [show s_ = ba [] from rfl, eqS_ba, hH]
      rw [this]
      simp only [Bool.not_true, cond_false]
      exact rest _ id
    | false =>
      have : eqS (ba ((t.drop 2).takeWhile isH)) s_ = false := by rw [show s_ = ba [] from rfl, eqS_ba, hH]
      rw [this]
      simp only [Bool.not_false, cond_true]
      have := tail_PR 16 (by decide) ((t.drop 2).takeWhile isH) ((t.drop 2).dropWhile isH) (all_tw (fun b hb => hb) _) d
      rw [List.takeWhile_append_dropWhile] at this
      exact this
end Go.Ab
namespace Go.Ab
theorem levels_eq : expr_levels = some [[9], [8], [10, 11], [5, 6], [7]] := by rw [expr_levels.eq]; rfl
theorem levels_at {l : Nat} (h : l < 5) : ([[9], [8], [10, 11], [5, 6], [7]] : List (List Int))[l]? = some ((lv l).map fun k : Nat => (k : Int)) := by
  have : l = 0 ∨ l = 1 ∨ l = 2 ∨ l = 3 ∨ l = 4 := by omega
  rcases this with rfl | rfl | rfl | rfl | rfl <;> rfl
theorem lv_ne (l : Nat) : lv l ≠ [] := by unfold lv; split <;> simp
theorem lv_len (l : Nat) : (lv l).length ≤ 1000 := by unfold lv; split <;> simp
theorem two5 (p : T_expr_parser) : expr_parser_two 5 p = expr_parser_one p := by
  rw [expr_parser_two.eq]; unfold expr_parser_two_b
  simp only [levels_eq, Option.bind_some]
  show (expr_parser_one p).bind (fun r2 => some (r2.1, r2.2)) = _
  cases expr_parser_one p <;> rfl
/-- what is read behind x at a level -/
noncomputable def PL (l : Nat) (p : T_expr_parser) (x : T_api_Expr) : Option (T_api_Expr × T_expr_parser) :=
  (expr_parser_kind ((lv l).map fun k : Nat => (k : Int)) p).bind fun r6 => (expr_parser_two_L1 ⟨(l : Int), r6.1, r6.2, E0, x⟩).bind fun o => some (o.h2, o.h0)
theorem two_lt {l : Nat} (h : l < 5) (p : T_expr_parser) : expr_parser_two (l : Int) p = (expr_parser_two ((l + 1 : Nat) : Int) p).bind fun r => PL l r.2 r.1 := by
  rw [expr_parser_two.eq]; unfold expr_parser_two_b
  simp only [levels_eq, Option.bind_some]
  have c1 : ((l : Int) == (([[9], [8], [10, 11], [5, 6], [7]] : List (List Int)).length : Nat)) = false := by
    rw [beq_eq_false_iff_ne]; simp; omega
  have c2 : decide (0 ≤ (l : Int)) = true := decide_eq_true (by omega)
  rw [c1, cond_false, w64_in (n := (l : Int) + 1) (by omega) (by omega), c2]
  simp only [cond_true, Int.toNat_natCast, levels_at h, Option.bind_some]
  rfl
theorem PL_bad {l : Nat} (s : List UInt8) (d : Int) (x : T_api_Expr) : PL l (PS s d true) x = some (x, PS (dropB s) d true) := by
  unfold PL
  rw [kind_eq _ (fun k hk => lv_ok hk) (lv_ne l) (lv_len l)]
  simp only [cond_true, Option.bind_some]
  rw [expr_parser_two_L1.eq]; rfl
theorem PL_eq {l : Nat} (h : l < 5) (s : List UInt8) (d : Int) (x : T_api_Expr) : PL l (PS s d false) x = match kindS (lv l) (dropB s) with
    | none => some (x, PS (dropB s) d false)
    | some k => (expr_parser_two ((l + 1 : Nat) : Int) (PS ((dropB s).drop (sg k).length) d false)).bind fun r => PL l r.2 ⟨k, 0, s_, [x, r.1]⟩ := by
  conv => lhs; unfold PL
  rw [kind_eq _ (fun k hk => lv_ok hk) (lv_ne l) (lv_len l)]
  simp only [cond_false, Option.bind_some]
  cases hk : kindS (lv l) (dropB s) with
  | none => simp only; rw [expr_parser_two_L1.eq]; rfl
  | some k =>
    have h5 := lv_ok (List.mem_of_find?_eq_some hk)
    have c1 : ((k : Int) != 0) = true := by rw [bne_iff_ne]; omega
    have c2 : decide (0 ≤ (l : Int)) = true := decide_eq_true (by omega)
    simp only
    rw [expr_parser_two_L1.eq]; unfold expr_parser_two_L1_b
    simp only [c1, cond_true, Bool.not_false, c2, levels_eq, Option.bind_some, Int.toNat_natCast, levels_at h]
    rw [w64_in (n := (l : Int) + 1) (by omega) (by omega)]
    show Option.bind (Option.bind (Option.bind (expr_parser_two ((l + 1 : Nat) : Int) (PS ((dropB s).drop (sg k).length) d false)) _) _) _ = _
    cases expr_parser_two ((l + 1 : Nat) : Int) (PS ((dropB s).drop (sg k).length) d false) with
    | none => rfl
    | some r =>
      simp only [Option.bind_some]
      unfold PL
      cases expr_parser_kind ((lv l).map fun k : Nat => (k : Int)) r.2 <;> rfl
theorem within_max {d : Int} (h : d ≥ 12) (s : List UInt8) : expr_parser_within (PS s d false) = some (E0, PS s d true) ∧ expr_parser_within_2 (PS s d false) = some (E0, PS s d true) := by
  constructor
  · rw [expr_parser_within.eq]; unfold expr_parser_within_b
    simp only [fail_eq, decide_eq_true h, cond_true, Option.bind_some]
  · rw [expr_parser_within_2.eq]; unfold expr_parser_within_2_b
    simp only [fail_eq, decide_eq_true h, cond_true, Option.bind_some]
/-- brackets -/
theorem within_PR {d : Int} (h0 : 0 ≤ d) (h : d < 12) (s : List UInt8) {o : Option (X3 × List UInt8)} (ho : PR (expr_parser_two 0 (PS s (d + 1) false)) (d + 1) o) :
    PR (expr_parser_within (PS s d false)) d (o.bind fun xr => bif pre [41] (dropB xr.2) then some (xr.1, (dropB xr.2).drop 1) else none) := by
  rw [expr_parser_within.eq]; unfold expr_parser_within_b
  have c1 : decide (d ≥ 12) = false := decide_eq_false (by omega)
  simp only [c1, cond_false]
  rw [w64_in (n := d + 1) (by omega) (by omega), expr_parser_group.eq]; unfold expr_parser_group_b
  have wd : w64 (d + 1 - 1) = d := by rw [w64_in (by omega) (by omega)]; omega
  cases o with
  | none =>
    obtain ⟨e, r, he⟩ := ho
    have he : expr_parser_two 0 ⟨ba s, d + 1, false⟩ = some (e, PS r (d + 1) true) := he
    simp only [he, Option.bind_some, show h_29 = ba [41] from rfl, take_eq, cond_true, Bool.not_false, fail_eq, Option.bind_none, wd]
    exact ⟨_, _, rfl⟩
  | some xr =>
    obtain ⟨x, r⟩ := xr
    have ho : expr_parser_two 0 ⟨ba s, d + 1, false⟩ = some (x.t, PS r (d + 1) false) := ho
    simp only [ho, Option.bind_some, show h_29 = ba [41] from rfl, take_eq, cond_false]
    cases hp : pre [41] (dropB r) with
    | false =>
      simp only [cond_false, Bool.not_false, cond_true, fail_eq, Option.bind_some, wd]
      exact ⟨_, _, rfl⟩
    | true =>
      simp only [cond_true, Bool.not_true, cond_false, Option.bind_some, wd]
      rfl
/-- a sign ahead -/
theorem minus_PR {d : Int} (h0 : 0 ≤ d) (h : d < 12) (s : List UInt8) {o : Option (X3 × List UInt8)} (ho : PR (expr_parser_one (PS s (d + 1) false)) (d + 1) o) :
    PR (expr_parser_within_2 (PS s d false)) d (o.bind fun xr => some (.neg xr.1, xr.2)) := by
  rw [expr_parser_within_2.eq]; unfold expr_parser_within_2_b
  have c1 : decide (d ≥ 12) = false := decide_eq_false (by omega)
  simp only [c1, cond_false]
  rw [w64_in (n := d + 1) (by omega) (by omega), expr_parser_minus.eq]; unfold expr_parser_minus_b
  have wd : w64 (d + 1 - 1) = d := by rw [w64_in (by omega) (by omega)]; omega
  cases o with
  | none =>
    obtain ⟨e, r, he⟩ := ho
    have he : expr_parser_one ⟨ba s, d + 1, false⟩ = some (e, PS r (d + 1) true) := he
    simp only [he, Option.bind_some, wd, Option.bind_none]
    exact ⟨_, _, rfl⟩
  | some xr =>
    obtain ⟨x, r⟩ := xr
    have ho : expr_parser_one ⟨ba s, d + 1, false⟩ = some (x.t, PS r (d + 1) false) := ho
    simp only [ho, Option.bind_some, wd]
    rfl
theorem two_bad : ∀ (g l : Nat), g + l = 5 → ∀ (s : List UInt8) (d : Int), ∃ e r, expr_parser_two (l : Int) (PS s d true) = some (e, PS r d true)
  | 0, l, hl, s, d => by
    obtain rfl : l = 5 := by omega
    exact ⟨_, _, (two5 _).trans (one_bad s d)⟩
  | g + 1, l, hl, s, d => by
    obtain ⟨e, r, h⟩ := two_bad g (l + 1) (by omega) s d
    refine ⟨e, dropB r, ?_⟩
    rw [two_lt (by omega), h]
    simp only [Option.bind_some, PL_bad]
/-- the whole text -/
theorem parse_PR (s : List UInt8) {o : Option (X3 × List UInt8)} (ho : PR (expr_parser_two 0 (PS s 0 false)) 0 o) :
    expr_Parse (ba s) = some (match o with | some (x, r) => if dropB r = [] then (x.t, true) else (E0, false) | none => (E0, false)) := by
  rw [expr_Parse.eq]; unfold expr_Parse_b
  cases o with
  | none =>
    obtain ⟨e, r, he⟩ := ho
    have he : expr_parser_two 0 ⟨ba s, 0, false⟩ = some (e, PS r 0 true) := he
    simp only [he, Option.bind_some, blanks_eq, cond_true]
  | some xr =>
    obtain ⟨x, r⟩ := xr
    have ho : expr_parser_two 0 ⟨ba s, 0, false⟩ = some (x.t, PS r 0 false) := ho
    simp only [ho, Option.bind_some, blanks_eq, cond_false]
    rw [show s_ = ba [] from rfl, eqS_ba]
    by_cases h : dropB r = []
    · simp [h]
    · simp [h]; rfl
end Go.Ab
namespace Go.Ab
/-- signs, with blanks ahead of each, and at the end -/
inductive Sp : List (List UInt8) → List UInt8 → Prop
  | nil (b : List UInt8) (hb : ∀ c ∈ b, c = 32) : Sp [] b
  | cons (b t s : List UInt8) (ts : List (List UInt8)) (hb : ∀ c ∈ b, c = 32) (h : Sp ts s) : Sp (t :: ts) (b ++ (t ++ s))
theorem dropB_blanks {b s : List UInt8} (hb : ∀ c ∈ b, c = 32) : dropB (b ++ s) = dropB s := by
  induction b with
  | nil => rfl
  | cons c b ih =>
    have hc := hb c (by simp)
    subst hc
    rw [List.cons_append]
    show List.dropWhile _ _ = _
    rw [List.dropWhile_cons]
    simp only [beq_self_eq_true, if_true]
    exact ih fun c h => hb c (by simp [h])
theorem dropB_head {c : UInt8} {s : List UInt8} (h : c ≠ 32) : dropB (c :: s) = c :: s := by
  unfold dropB; rw [List.dropWhile_cons]; simp [h]
theorem Sp.nil_drop {s : List UInt8} (h : Sp [] s) : dropB s = [] := by
  cases h with
  | nil b hb =>
    have := dropB_blanks (s := []) hb
    rw [List.append_nil] at this; rw [this]; rfl
theorem Sp.cons_drop {c : UInt8} {t s : List UInt8} {ts : List (List UInt8)} (h : Sp ((c :: t) :: ts) s) (hc : c ≠ 32) : ∃ s', dropB s = c :: (t ++ s') ∧ Sp ts s' := by
  cases h with
  | cons b t' s' ts' hb h' => exact ⟨s', by rw [dropB_blanks hb]; exact dropB_head hc, h'⟩
theorem Sp.drop {s : List UInt8} {ts : List (List UInt8)} (h : Sp ts s) : Sp ts (dropB s) ∨ ∃ c t ts', ts = (c :: t) :: ts' ∧ c = 32 ∨ ts = [] :: ts' := by
  cases h with
  | nil b hb =>
    left
    have := dropB_blanks (s := []) hb
    rw [List.append_nil] at this; rw [this]; exact .nil [] (by simp)
  | cons b t s' ts' hb h' =>
    cases t with
    | nil => exact .inr ⟨0, [], ts', .inr rfl⟩
    | cons c t =>
      by_cases hc : c = 32
      · exact .inr ⟨c, t, ts', .inl ⟨rfl, hc⟩⟩
      · left
        rw [dropB_blanks hb]
        show Sp _ (dropB (c :: (t ++ s')))
        rw [dropB_head hc]
        exact .cons [] (c :: t) s' ts' (by simp) h'
/-- the signs that stand ahead of what follows: no word begins there, no blank -/
def front (ts : List (List UInt8)) : Prop := ∀ t ts', ts = t :: ts' → ∃ c u, t = c :: u ∧ isI c = false ∧ c ≠ 32
theorem Sp.drop' {s : List UInt8} {ts : List (List UInt8)} (hf : front ts) (h : Sp ts s) : Sp ts (dropB s) := by
  rcases h.drop with h | ⟨c, t, ts', ⟨rfl, rfl⟩ | rfl⟩
  · exact h
  · obtain ⟨c', u, e, _, h2⟩ := hf _ _ rfl
    cases e; exact absurd rfl h2
  · obtain ⟨c', u, e, _, h2⟩ := hf _ _ rfl
    cases e
/-- behind a sign stands no part of a word -/
theorem Sp.head {s : List UInt8} {ts : List (List UInt8)} (hf : front ts) (h : Sp ts s) : ∀ c t, s = c :: t → isI c = false := by
  intro c t e
  cases h with
  | nil b hb => subst e; have := hb c (by simp); subst this; rfl
  | cons b t' s' ts' hb h' =>
    cases b with
    | cons b0 b =>
      have : b0 = c := by simpa using congrArg List.head? e
      subst this
      have := hb b0 (by simp); subst this; rfl
    | nil =>
      obtain ⟨c', u, e', h1, _⟩ := hf _ _ rfl
      subst e'
      have : c' = c := by simpa using congrArg List.head? e
      subst this; exact h1
/-- how deep it stands in itself, as a part -/
def nsp : X3 → Nat
  | .neg x => nsp x + 1
  | .bin _ x y => max (nsp x) (nsp y) + 1
  | _ => 0
def isBin : X3 → Bool
  | .bin _ _ _ => true
  | _ => false
/-- the signs of an expression; of a part -/
def tk : X3 → List (List UInt8)
  | .num n => [Lib.decDigits n.toNat]
  | .nm s => [bl s]
  | .here => [[46]]
  | .neg x => [45] :: (if isBin x then [40] :: (tk x ++ [[41]]) else tk x)
  | .bin k x y => (if isBin x then [40] :: (tk x ++ [[41]]) else tk x) ++ (sg k :: (if isBin y then [40] :: (tk y ++ [[41]]) else tk y))
def tkp (x : X3) : List (List UInt8) := if isBin x then [40] :: (tk x ++ [[41]]) else tk x
theorem tk_neg (x : X3) : tk (.neg x) = [45] :: tkp x := rfl
theorem tk_bin (k : Nat) (x y : X3) : tk (.bin k x y) = tkp x ++ (sg k :: tkp y) := rfl
/-- names are words -/
def okW (x : X3) : Prop := x.ok fun s => wordB (bl s) = true
theorem isD_dec {u : Nat} : (Lib.decDigits u).all isD = true ∧ Lib.decDigits u ≠ [] := by
  induction u using Nat.strongRecOn with
  | _ u ih =>
    rw [Lib.decDigits]
    split
    · refine ⟨?_, by simp⟩
      have : ∀ v : Fin 10, isD (UInt8.ofNat (48 + v.val)) = true := by decide
      simp only [List.all_cons, List.all_nil, Bool.and_true]
      exact this ⟨u, by assumption⟩
    · have := ih (u / 10) (by omega)
      refine ⟨?_, by simp⟩
      rw [List.all_append, this.1]
      have h2 : ∀ v : Fin 10, isD (UInt8.ofNat (48 + v.val)) = true := by decide
      simp only [List.all_cons, List.all_nil, Bool.and_true, Bool.true_and]
      exact h2 ⟨u % 10, by omega⟩
theorem numv_append (base : Nat) (c : UInt8) : ∀ (l : List UInt8) (n : Nat), numv base (l ++ [c]) n = (numv base l n).bind fun m => if m * base + dg c ≥ 4294967296 then none else some (m * base + dg c)
  | [], n => rfl
  | b :: l, n => by
    simp only [List.cons_append, numv]
    split
    · rfl
    · exact numv_append base c l _
theorem numv_dec {u : Nat} (h : u < 4294967296) : numv 10 (Lib.decDigits u) 0 = some u := by
  induction u using Nat.strongRecOn with
  | _ u ih =>
    have dv : ∀ v : Fin 10, dg (UInt8.ofNat (48 + v.val)) = v.val := by decide
    rw [Lib.decDigits]
    split
    · rename_i hu
      have e := dv ⟨u, hu⟩
      simp only [numv, Nat.zero_mul, Nat.zero_add]
      simp only at e
      rw [e, if_neg (by omega)]
    · rw [numv_append, ih (u / 10) (by omega) (by omega)]
      have e := dv ⟨u % 10, by omega⟩
      simp only at e
      simp only [Option.bind_some, e]
      rw [if_neg (by omega)]; congr 1; omega
theorem tw_append {p : UInt8 → Bool} {a r : List UInt8} (ha : a.all p = true) (hr : ∀ c t, r = c :: t → p c = false) : (a ++ r).takeWhile p = a ∧ (a ++ r).dropWhile p = r := by
  induction a with
  | nil =>
    cases r with
    | nil => exact ⟨rfl, rfl⟩
    | cons c t => have := hr c t rfl; simp [List.takeWhile_cons, List.dropWhile_cons, this]
  | cons c a ih =>
    simp only [List.all_cons, Bool.and_eq_true] at ha
    obtain ⟨h1, h2⟩ := ih ha.2
    simp [List.takeWhile_cons, List.dropWhile_cons, ha.1, h1, h2]
/-- a number that is written is read -/
theorem atom_num {u : Nat} (h : u < 4294967296) {r : List UInt8} (hr : ∀ c t, r = c :: t → isI c = false) : atomS (Lib.decDigits u ++ r) = some (.num u, r) := by
  obtain ⟨h1, h2⟩ := @isD_dec u
  have hrD : ∀ c t, r = c :: t → isD c = false := fun c t e => by
    have := hr c t e
    simp only [isI, Bool.or_eq_false_iff] at this; exact this.2
  obtain ⟨e1, e2⟩ := tw_append h1 hrD
  unfold atomS
  have hp : pre [48, 120] (Lib.decDigits u ++ r) = false := by
    unfold pre
    rw [decide_eq_false]
    intro e
    match hd : Lib.decDigits u, h2 with
    | [c], _ =>
      rw [hd] at e
      cases r with
      | nil => simp at e
      | cons b r =>
        simp at e
        have := hr b r rfl
        rw [e.2] at this; cases this
    | c :: b :: l, _ =>
      rw [hd] at e h1
      simp at e
      simp only [List.all_cons, Bool.and_eq_true] at h1
      have := h1.2.1
      rw [e.2] at this; cases this
  rw [hp, e1, e2]
  simp only [Bool.false_and, cond_false, decide_eq_false h2, Bool.not_false, cond_true]
  unfold tailA
  rw [numv_dec h]
  simp only
  have : r.takeWhile isI = [] := by
    cases r with
    | nil => rfl
    | cons b r => simp [List.takeWhile_cons, hr b r rfl]
  rw [if_pos this]
/-- a word that is written is read -/
theorem word_parts {w : List UInt8} (h : wordB w = true) : ∃ c t, w = c :: t ∧ isI c = true ∧ isD c = false ∧ w.all isI = true := by
  match w, h with
  | c :: t, h =>
    have hw : wordB (c :: t) = (decide (t.length < 12) && (!isD c && (decide ((c :: t).takeWhile isI = c :: t) && (decide (c ≠ 114) || (decide (t = []) || !decide (t.takeWhile isD = t)))))) := rfl
    rw [hw] at h
    simp only [Bool.and_eq_true, Bool.not_eq_true', decide_eq_true_eq] at h
    have ha : (c :: t).all isI = true := by
      have := List.all_takeWhile (p := isI) (l := c :: t)
      rwa [h.2.2.1] at this
    refine ⟨c, t, rfl, ?_, h.2.1, ha⟩
    simp only [List.all_cons, Bool.and_eq_true] at ha; exact ha.1
theorem atom_word {w : List UInt8} (h : wordB w = true) {r : List UInt8} (hr : ∀ c t, r = c :: t → isI c = false) : atomS (w ++ r) = some (.nm (ba w), r) := by
  obtain ⟨c, t, rfl, hc, hd, ha⟩ := word_parts h
  obtain ⟨e1, e2⟩ := tw_append ha hr
  unfold atomS
  have hp : pre [48, 120] ((c :: t) ++ r) = false := by
    unfold pre
    rw [decide_eq_false]
    intro e
    simp at e
    rw [e.1] at hd; cases hd
  have hD : ((c :: t) ++ r).takeWhile isD = [] := by simp [List.takeWhile_cons, hd]
  rw [hp, hD, e1, e2, h]
  rfl
end Go.Ab
namespace Go.Ab
def lvlOf (k : Nat) : Nat := match k with
  | 9 => 0 | 8 => 1 | 10 => 2 | 11 => 2 | 5 => 3 | 6 => 3 | _ => 4
theorem kindS_sg {k l : Nat} (hk : 5 ≤ k ∧ k ≤ 11) (hl : l < 5) (s : List UInt8) : kindS (lv l) (sg k ++ s) = if lvlOf k = l then some k else none := by
  have h1 : k = 5 ∨ k = 6 ∨ k = 7 ∨ k = 8 ∨ k = 9 ∨ k = 10 ∨ k = 11 := by omega
  have h2 : l = 0 ∨ l = 1 ∨ l = 2 ∨ l = 3 ∨ l = 4 := by omega
  rcases h1 with rfl | rfl | rfl | rfl | rfl | rfl | rfl <;> rcases h2 with rfl | rfl | rfl | rfl | rfl <;> simp [kindS, lv, sg, pre, lvlOf]
theorem kindS_close {l : Nat} (hl : l < 5) (s : List UInt8) : kindS (lv l) (41 :: s) = none ∧ kindS (lv l) [] = none := by
  have h2 : l = 0 ∨ l = 1 ∨ l = 2 ∨ l = 3 ∨ l = 4 := by omega
  rcases h2 with rfl | rfl | rfl | rfl | rfl <;> simp [kindS, lv, sg, pre]
/-- no sign of this level or a closer one stands ahead -/
def stop (l : Nat) (ts : List (List UInt8)) : Prop := ∀ s, Sp ts s → ∀ l', l ≤ l' → l' < 5 → kindS (lv l') (dropB s) = none
theorem stop_nil (l : Nat) : stop l [] := fun s h l' _ h5 => by rw [h.nil_drop]; exact (kindS_close h5 []).2
theorem stop_close (l : Nat) (ts : List (List UInt8)) : stop l ([41] :: ts) := fun s h l' _ h5 => by
  obtain ⟨s', e, _⟩ := h.cons_drop (c := 41) (t := []) (by decide)
  rw [e]; exact (kindS_close h5 _).1
theorem sg_head {k : Nat} (hk : 5 ≤ k ∧ k ≤ 11) : ∃ c t, sg k = c :: t ∧ isI c = false ∧ c ≠ 32 := by
  have h1 : k = 5 ∨ k = 6 ∨ k = 7 ∨ k = 8 ∨ k = 9 ∨ k = 10 ∨ k = 11 := by omega
  rcases h1 with rfl | rfl | rfl | rfl | rfl | rfl | rfl <;> exact ⟨_, _, rfl, by decide, by decide⟩
theorem sg_drop {k : Nat} (hk : 5 ≤ k ∧ k ≤ 11) {ts : List (List UInt8)} {s : List UInt8} (h : Sp (sg k :: ts) s) : ∃ s', dropB s = sg k ++ s' ∧ Sp ts s' := by
  obtain ⟨c, t, e, _, h2⟩ := sg_head hk
  rw [e] at h ⊢
  exact h.cons_drop h2
theorem stop_sg {k l : Nat} (hk : 5 ≤ k ∧ k ≤ 11) (hl : lvlOf k < l) (ts : List (List UInt8)) : stop l (sg k :: ts) := fun s h l' h1 h5 => by
  obtain ⟨s', e, _⟩ := sg_drop hk h
  rw [e, kindS_sg hk h5, if_neg (by omega)]
theorem front_nil : front [] := fun t ts' e => by cases e
theorem front_close (ts : List (List UInt8)) : front ([41] :: ts) := fun t ts' e => by cases e; exact ⟨41, [], rfl, by decide, by decide⟩
theorem front_sg {k : Nat} (hk : 5 ≤ k ∧ k ≤ 11) (ts : List (List UInt8)) : front (sg k :: ts) := fun t ts' e => by cases e; exact sg_head hk
/-- it is read where one stands by itself -/
def ONE (x : X3) : Prop := ∀ (d : Int) (ts : List (List UInt8)) (s : List UInt8), front ts → 0 ≤ d → d + nsp x ≤ 12 → Sp (tkp x ++ ts) s → ∃ s', Sp ts s' ∧ expr_parser_one (PS s d false) = some (x.t, PS s' d false)
theorem PL_none {l : Nat} (h : l < 5) {s : List UInt8} (hk : kindS (lv l) (dropB s) = none) (d : Int) (x : T_api_Expr) : PL l (PS s d false) x = some (x, PS (dropB s) d false) := by rw [PL_eq h, hk]
theorem part_at {x : X3} (hx : ONE x) : ∀ (g l : Nat), g + l = 5 → ∀ (d : Int) (ts : List (List UInt8)) (s : List UInt8), front ts → stop l ts → 0 ≤ d → d + nsp x ≤ 12 → Sp (tkp x ++ ts) s → ∃ s', Sp ts s' ∧ expr_parser_two (l : Int) (PS s d false) = some (x.t, PS s' d false)
  | 0, l, hl, d, ts, s, hf, hs, h0, h12, h => by
    obtain rfl : l = 5 := by omega
    obtain ⟨s', h1, h2⟩ := hx d ts s hf h0 h12 h
    exact ⟨s', h1, (two5 _).trans h2⟩
  | g + 1, l, hl, d, ts, s, hf, hs, h0, h12, h => by
    obtain ⟨s', h1, h2⟩ := part_at hx g (l + 1) (by omega) d ts s hf (fun s h l' h1 h5 => hs s h l' (by omega) h5) h0 h12 h
    refine ⟨dropB s', h1.drop' hf, ?_⟩
    rw [two_lt (by omega), h2]
    simp only [Option.bind_some]
    exact PL_none (by omega) (hs s' h1 l (by omega) (by omega)) d _
theorem bin_at {k : Nat} (hk : 5 ≤ k ∧ k ≤ 11) {x y : X3} (hx : ONE x) (hy : ONE y) : ∀ (g l : Nat), g + l = lvlOf k → ∀ (d : Int) (ts : List (List UInt8)) (s : List UInt8), front ts → stop l ts → 0 ≤ d → d + nsp x ≤ 12 → d + nsp y ≤ 12 →
    Sp (tk (.bin k x y) ++ ts) s → ∃ s', Sp ts s' ∧ expr_parser_two (l : Int) (PS s d false) = some ((X3.bin k x y).t, PS s' d false)
  | 0, l, hl, d, ts, s, hf, hs, h0, h1, h2, h => by
    have hl5 : l < 5 := by
      have : lvlOf k ≤ 4 := by unfold lvlOf; split <;> omega
      omega
    rw [tk_bin, List.append_assoc, List.cons_append] at h
    obtain ⟨s1, e1, e2⟩ := part_at hx (5 - (l + 1)) (l + 1) (by omega) d _ s (front_sg hk _) (stop_sg hk (by omega) _) h0 h1 h
    obtain ⟨s2, e3, e4⟩ := sg_drop hk e1
    obtain ⟨s3, e5, e6⟩ := part_at hy (5 - (l + 1)) (l + 1) (by omega) d ts s2 hf (fun s h l' h1 h5 => hs s h l' (by omega) h5) h0 h2 e4
    refine ⟨dropB s3, e5.drop' hf, ?_⟩
    rw [two_lt hl5, e2]
    simp only [Option.bind_some]
    rw [PL_eq hl5, e3, kindS_sg hk hl5, if_pos (by omega)]
    simp only [List.drop_left, e6, Option.bind_some]
    exact PL_none hl5 (hs s3 e5 l (by omega) (by omega)) d _
  | g + 1, l, hl, d, ts, s, hf, hs, h0, h1, h2, h => by
    have hl5 : l < 5 := by
      have : lvlOf k ≤ 4 := by unfold lvlOf; split <;> omega
      omega
    obtain ⟨s', e1, e2⟩ := bin_at hk hx hy g (l + 1) (by omega) d ts s hf (fun s h l' h1 h5 => hs s h l' (by omega) h5) h0 h1 h2 h
    refine ⟨dropB s', e1.drop' hf, ?_⟩
    rw [two_lt hl5, e2]
    simp only [Option.bind_some]
    exact PL_none hl5 (hs s' e1 l (by omega) (by omega)) d _
theorem sp_head {c : UInt8} {t : List UInt8} {ts : List (List UInt8)} {s : List UInt8} (h : Sp ((c :: t) :: ts) s) (hc : c ≠ 32) : ∃ s', dropB s = c :: (t ++ s') ∧ Sp ts s' := h.cons_drop hc
theorem tkp_num (n : Int) : tkp (.num n) = [Lib.decDigits n.toNat] := rfl
theorem read_one : ∀ x : X3, okW x → ONE x
  | .num n, hx, d, ts, s, hf, h0, h12, h => by
    have hx : 0 ≤ n ∧ n < 4294967296 := hx
    obtain ⟨u, rfl⟩ := Int.eq_ofNat_of_zero_le hx.1
    have h : Sp (Lib.decDigits u :: ts) s := h
    obtain ⟨d1, d2⟩ := @isD_dec u
    match hd : Lib.decDigits u, d2 with
    | c :: t, _ =>
      rw [hd] at h d1
      simp only [List.all_cons, Bool.and_eq_true] at d1
      have hc32 : c ≠ 32 := fun e => by rw [e] at d1; cases d1.1
      obtain ⟨s', e1, e2⟩ := h.cons_drop hc32
      have ea := atom_num (u := u) (by omega) (r := s') (e2.head hf)
      rw [hd] at ea
      refine ⟨s', e2, ?_⟩
      have := one_atom (s := s) e1 (fun r e => by
          have : c = 40 := by simpa using congrArg List.head? e
          rw [this] at d1; cases d1.1) (fun r e => by
          have : c = 45 := by simpa using congrArg List.head? e
          rw [this] at d1; cases d1.1) (fun r e => by
          have : c = 46 := by simpa using congrArg List.head? e
          rw [this] at d1; cases d1.1) d
      rw [show c :: (t ++ s') = (c :: t) ++ s' from rfl, ea] at this
      exact this
  | .nm w, hx, d, ts, s, hf, h0, h12, h => by
    have hx : wordB (bl w) = true := hx
    have h : Sp (bl w :: ts) s := h
    obtain ⟨c, t, e0, hc, hd, ha⟩ := word_parts hx
    rw [e0] at h
    have hc32 : c ≠ 32 := fun e => by rw [e] at hc; cases hc
    obtain ⟨s', e1, e2⟩ := h.cons_drop hc32
    have ea := atom_word hx (r := s') (e2.head hf)
    rw [e0] at ea
    refine ⟨s', e2, ?_⟩
    have := one_atom (s := s) e1 (fun r e => by
        have : c = 40 := by simpa using congrArg List.head? e
        rw [this] at hc; cases hc) (fun r e => by
        have : c = 45 := by simpa using congrArg List.head? e
        rw [this] at hc; cases hc) (fun r e => by
        have : c = 46 := by simpa using congrArg List.head? e
        rw [this] at hc; cases hc) d
    rw [show c :: (t ++ s') = (c :: t) ++ s' from rfl, ea, ← e0, ba_bl] at this
    exact this
  | .here, hx, d, ts, s, hf, h0, h12, h => by
    obtain ⟨s', e1, e2⟩ := sp_head (c := 46) (t := []) h (by decide)
    exact ⟨s', e2, one_dot e1 d⟩
  | .neg x, hx, d, ts, s, hf, h0, h12, h => by
    have hx : okW x := hx
    have ih := read_one x hx
    have h : Sp ([45] :: (tkp x ++ ts)) s := h
    have hn : nsp (.neg x) = nsp x + 1 := rfl
    obtain ⟨s1, e1, e2⟩ := sp_head (c := 45) (t := []) h (by decide)
    obtain ⟨s', e3, e4⟩ := ih (d + 1) ts s1 hf (by omega) (by omega) e2
    refine ⟨s', e3, ?_⟩
    have e1 : dropB s = 45 :: s1 := e1
    rw [one_minus e1]
    exact minus_PR h0 (by omega) s1 (o := some (x, s')) e4
  | .bin k x y, hx, d, ts, s, hf, h0, h12, h => by
    obtain ⟨hk1, hk2, hx1, hy1⟩ := hx
    have hx1 : okW x := hx1
    have hy1 : okW y := hy1
    have ihx := read_one x hx1
    have ihy := read_one y hy1
    have hn : nsp (.bin k x y) = max (nsp x) (nsp y) + 1 := rfl
    have h : Sp (([40] :: (tk (.bin k x y) ++ [[41]])) ++ ts) s := h
    rw [List.cons_append, List.append_assoc] at h
    obtain ⟨s1, e1, e2⟩ := sp_head (c := 40) (t := []) h (by decide)
    have e2 : Sp (tk (.bin k x y) ++ ([41] :: ts)) s1 := e2
    have hm1 : nsp x ≤ max (nsp x) (nsp y) := Nat.le_max_left _ _
    have hm2 : nsp y ≤ max (nsp x) (nsp y) := Nat.le_max_right _ _
    obtain ⟨s2, e3, e4⟩ := bin_at ⟨hk1, hk2⟩ ihx ihy (lvlOf k) 0 (by omega) (d + 1) _ s1 (front_close ts) (stop_close 0 ts) (by omega) (by omega) (by omega) e2
    obtain ⟨s3, e5, e6⟩ := sp_head (c := 41) (t := []) e3 (by decide)
    have e1 : dropB s = 40 :: s1 := e1
    have e5 : dropB s2 = 41 :: s3 := e5
    refine ⟨s3, e6, ?_⟩
    rw [one_open e1]
    have := within_PR h0 (by omega) s1 (o := some (.bin k x y, s2)) e4
    rw [show (some (X3.bin k x y, s2)).bind (fun xr => bif pre [41] (dropB xr.2) then some (xr.1, (dropB xr.2).drop 1) else none) = some (.bin k x y, s3) from by
      simp only [Option.bind_some, e5]
      rw [show pre [41] (41 :: s3) = true from by simp [pre]]; rfl] at this
    exact this
/-- a text of an expression's signs is read as that -/
theorem read_text {x : X3} (hx : okW x) (hd : nsp x ≤ 12) {s : List UInt8} (h : Sp (tk x) s) : expr_Parse (ba s) = some (x.t, true) := by
  have key : ∃ s', Sp [] s' ∧ expr_parser_two 0 (PS s 0 false) = some (x.t, PS s' 0 false) := by
    cases hb : isBin x with
    | false =>
      have h : Sp (tkp x ++ []) s := by rw [List.append_nil]; unfold tkp; rw [hb]; exact h
      exact part_at (read_one x hx) 5 0 rfl 0 [] s front_nil (stop_nil 0) (by omega) (by omega) h
    | true =>
      match x, hb with
      | .bin k y z, _ =>
        obtain ⟨hk1, hk2, hx1, hy1⟩ := hx
        have hn : nsp (.bin k y z) = max (nsp y) (nsp z) + 1 := rfl
        have hm1 : nsp y ≤ max (nsp y) (nsp z) := Nat.le_max_left _ _
        have hm2 : nsp z ≤ max (nsp y) (nsp z) := Nat.le_max_right _ _
        exact bin_at ⟨hk1, hk2⟩ (read_one y hx1) (read_one z hy1) (lvlOf k) 0 (by omega) 0 [] s front_nil (stop_nil 0) (by omega) (by omega) (by omega) (by rw [List.append_nil]; exact h)
  obtain ⟨s', e1, e2⟩ := key
  rw [parse_PR s (o := some (x, s')) e2]
  simp only [e1.nil_drop, if_true]
end Go.Ab
namespace Go.Ab
theorem isNm_word {s : ByteArray} (h : isNm s) : wordB (bl s) = true := by
  rcases h with rfl | rfl | rfl | rfl <;> decide
theorem ok_okW : ∀ {x : X3}, x.ok isNm → okW x
  | .num n, h => h
  | .nm s, h => isNm_word h
  | .here, h => trivial
  | .neg x, h => ok_okW (x := x) h
  | .bin k x y, h => ⟨h.1, h.2.1, ok_okW h.2.2.1, ok_okW h.2.2.2⟩
theorem nsp_le : ∀ x : X3, nsp x ≤ x.d
  | .num n => Nat.le_refl _
  | .nm s => Nat.le_refl _
  | .here => Nat.le_refl _
  | .neg x => by have := nsp_le x; simp only [nsp, X3.d]; omega
  | .bin k x y => by have := nsp_le x; have := nsp_le y; simp only [nsp, X3.d]; omega
/-- an expression's text -/
def tx : X3 → List UInt8
  | .num n => Lib.decDigits n.toNat
  | .nm s => bl s
  | .here => [46]
  | .neg x => 45 :: (if isBin x then 40 :: (tx x ++ [41]) else tx x)
  | .bin k x y => (if isBin x then 40 :: (tx x ++ [41]) else tx x) ++ (32 :: (sg k ++ (32 :: (if isBin y then 40 :: (tx y ++ [41]) else tx y))))
def txp (x : X3) : List UInt8 := if isBin x then 40 :: (tx x ++ [41]) else tx x
theorem tx_neg (x : X3) : tx (.neg x) = 45 :: txp x := rfl
theorem tx_bin (k : Nat) (x y : X3) : tx (.bin k x y) = txp x ++ (32 :: (sg k ++ (32 :: txp y))) := rfl
theorem Sp.tok (t : List UInt8) {ts : List (List UInt8)} {s : List UInt8} (h : Sp ts s) : Sp (t :: ts) (t ++ s) := .cons [] t s ts (by simp) h
theorem Sp.btok (t : List UInt8) {ts : List (List UInt8)} {s : List UInt8} (h : Sp ts s) : Sp (t :: ts) (32 :: (t ++ s)) := .cons [32] t s ts (by simp) h
theorem Sp.blank {t : List UInt8} {ts : List (List UInt8)} {s : List UInt8} (h : Sp (t :: ts) s) : Sp (t :: ts) (32 :: s) := by
  cases h with
  | cons b t s' ts' hb h' => exact .cons (32 :: b) t s' ts (by intro c hc; rcases List.mem_cons.1 hc with h | h; exact h; exact hb c h) h'
theorem tk_ne : ∀ x : X3, ∃ t ts, tk x = t :: ts
  | .num n => ⟨_, _, rfl⟩
  | .nm s => ⟨_, _, rfl⟩
  | .here => ⟨_, _, rfl⟩
  | .neg x => ⟨_, _, rfl⟩
  | .bin k x y => by
    obtain ⟨t, ts, h⟩ := tk_ne x
    rw [tk_bin]; unfold tkp
    split
    · exact ⟨_, _, rfl⟩
    · rw [h]; exact ⟨_, _, rfl⟩
theorem tkp_ne (x : X3) : ∃ t ts, tkp x = t :: ts := by
  unfold tkp; split
  · exact ⟨_, _, rfl⟩
  · exact tk_ne x
theorem tx_sp : ∀ (x : X3) {ts : List (List UInt8)} {s : List UInt8}, Sp ts s → Sp (tk x ++ ts) (tx x ++ s) ∧ Sp (tkp x ++ ts) (txp x ++ s) := by
  have part : ∀ (x : X3), (∀ {ts : List (List UInt8)} {s : List UInt8}, Sp ts s → Sp (tk x ++ ts) (tx x ++ s)) → ∀ {ts : List (List UInt8)} {s : List UInt8}, Sp ts s → Sp (tkp x ++ ts) (txp x ++ s) := by
    intro x hx ts s h
    unfold tkp txp
    split
    · have := (hx (h.tok [41])).tok [40]
      simpa using this
    · exact hx h
  intro x
  induction x with
  | num n => intro ts s h; exact ⟨h.tok _, h.tok _⟩
  | nm w => intro ts s h; exact ⟨h.tok _, h.tok _⟩
  | here => intro ts s h; exact ⟨h.tok _, h.tok _⟩
  | neg x ih =>
    intro ts s h
    have := ((ih h).2).tok [45]
    exact ⟨this, this⟩
  | bin k x y ihx ihy =>
    have key : ∀ {ts : List (List UInt8)} {s : List UInt8}, Sp ts s → Sp (tk (.bin k x y) ++ ts) (tx (.bin k x y) ++ s) := by
      intro ts s h
      have h1 := (ihy h).2
      obtain ⟨t, ts', e⟩ := tkp_ne y
      rw [e] at h1
      have h2 := (ihx (h1.blank.btok (sg k))).2
      rw [tk_bin, tx_bin, e]
      simpa using h2
    intro ts s h
    exact ⟨key h, part _ key h⟩
theorem tx_tk (x : X3) : Sp (tk x) (tx x) := by
  have := (tx_sp x (.nil [] (by simp))).1
  simpa using this
theorem dec_len : ∀ (g u : Nat), u < 10 ^ g → 0 < g → (Lib.decDigits u).length ≤ g
  | 0, u, h, h0 => by omega
  | g + 1, u, h, h0 => by
    rw [Lib.decDigits]
    split
    · simp
    · rename_i hu
      cases g with
      | zero => omega
      | succ g =>
        have := dec_len (g + 1) (u / 10) (by rw [Nat.pow_succ] at h; omega) (by omega)
        simp; omega
theorem nm_len {s : ByteArray} (h : wordB (bl s) = true) : (bl s).length ≤ 12 := by
  match hb : bl s, h with
  | c :: t, h =>
    have hw : wordB (c :: t) = (decide (t.length < 12) && (!isD c && (decide ((c :: t).takeWhile isI = c :: t) && (decide (c ≠ 114) || (decide (t = []) || !decide (t.takeWhile isD = t)))))) := rfl
    rw [hw] at h
    simp only [Bool.and_eq_true, decide_eq_true_eq] at h
    simp only [List.length_cons]; omega
theorem tx_len : ∀ (x : X3), okW x → (tx x).length + 8 ≤ 20 * 2 ^ x.d ∧ (txp x).length + 6 ≤ 20 * 2 ^ x.d := by
  have part : ∀ x : X3, (tx x).length + 8 ≤ 20 * 2 ^ x.d → (txp x).length + 6 ≤ 20 * 2 ^ x.d := by
    intro x h
    unfold txp; split
    · simp; omega
    · omega
  intro x hx
  induction x with
  | num n =>
    have hx : 0 ≤ n ∧ n < 4294967296 := hx
    have := dec_len 10 n.toNat (by simp; omega) (by omega)
    have e : (tx (.num n)).length = (Lib.decDigits n.toNat).length := rfl
    have : (tx (.num n)).length + 8 ≤ 20 * 2 ^ (X3.num n).d := by rw [e]; simp only [X3.d, Nat.pow_zero]; omega
    exact ⟨this, part _ this⟩
  | nm s =>
    have := nm_len (s := s) hx
    have e : (tx (.nm s)).length = (bl s).length := rfl
    have : (tx (.nm s)).length + 8 ≤ 20 * 2 ^ (X3.nm s).d := by rw [e]; simp only [X3.d, Nat.pow_zero]; omega
    exact ⟨this, part _ this⟩
  | here => exact ⟨by decide, by decide⟩
  | neg x ih =>
    have ih := ih hx
    have : (tx (.neg x)).length + 8 ≤ 20 * 2 ^ (X3.neg x).d := by
      rw [tx_neg]; simp only [List.length_cons, X3.d, Nat.pow_succ]
      have : 1 ≤ 2 ^ x.d := Nat.one_le_two_pow
      omega
    exact ⟨this, part _ this⟩
  | bin k x y ihx ihy =>
    have h1 := ihx hx.2.2.1
    have h2 := ihy hx.2.2.2
    have hs : (sg k).length ≤ 2 := by unfold sg; split <;> simp
    have : (tx (.bin k x y)).length + 8 ≤ 20 * 2 ^ (X3.bin k x y).d := by
      rw [tx_bin]; simp only [List.length_append, List.length_cons, X3.d, Nat.pow_succ]
      have e1 : 2 ^ x.d ≤ 2 ^ max x.d y.d := Nat.pow_le_pow_right (by decide) (Nat.le_max_left _ _)
      have e2 : 2 ^ y.d ≤ 2 ^ max x.d y.d := Nat.pow_le_pow_right (by decide) (Nat.le_max_right _ _)
      omega
    exact ⟨this, part _ this⟩
theorem guard_ok {n : Nat} (h : n ≤ 1000000000) : decide (((n : Nat) : Int) ≤ IntKind.i64.max) = true := decide_eq_true (by rw [show IntKind.i64.max = 9223372036854775807 from by decide]; omega)
theorem guardS (a b : List UInt8) (h : a.length + b.length ≤ 1000000000) : decide ((((ba a).size + (ba b).size : Nat) : Int) ≤ IntKind.i64.max) = true := by rw [ba_size, ba_size]; exact guard_ok h
theorem sign_eq {k : Nat} (h : 5 ≤ k ∧ k ≤ 11) : expr_sign (k : Int) = some (ba (sg k)) := by
  rw [expr_sign.eq]; unfold expr_sign_b
  simp only [signs_eq, Option.bind_some]
  have c1 : decide ((k : Int) < 0) = false := decide_eq_false (by omega)
  have c2 : decide ((k : Int) ≥ (([s_, s_, s_, h_2e, h_2d, ba (sg 5), ba (sg 6), ba (sg 7), ba (sg 8), ba (sg 9), ba (sg 10), ba (sg 11)].length : Nat) : Int)) = false := decide_eq_false (by simp; omega)
  have c3 : decide (0 ≤ (k : Int)) = true := decide_eq_true (by omega)
  rw [c1, cond_false, c2, cond_false, c3, cond_true, Int.toNat_natCast, signs_at h]; rfl
theorem r3_sign_eq {k : Nat} (h : 5 ≤ k ∧ k ≤ 11) : r3_sign (k : Int) = some (ba (sg k), (lvlOf k : Int)) := by
  rw [r3_sign.eq]; unfold r3_sign_b
  have h1 : k = 5 ∨ k = 6 ∨ k = 7 ∨ k = 8 ∨ k = 9 ∨ k = 10 ∨ k = 11 := by omega
  rcases h1 with rfl | rfl | rfl | rfl | rfl | rfl | rfl <;> rfl
theorem itoa_dec {n : Int} (h : 0 ≤ n ∧ n < 4294967296) : strconv_Itoa n = some (ba (Lib.decDigits n.toNat)) := by
  show itoaS n = _
  unfold itoaS
  rw [if_pos (by omega)]
  unfold Lib.itoa
  rw [if_neg (by omega)]; rfl
theorem expr_Text_eq : ∀ (x : X3), okW x → x.d ≤ 12 → expr_Text x.t = some (ba (tx x)) ∧ expr_part x.t = some (ba (txp x)) := by
  have part : ∀ x : X3, okW x → x.d ≤ 12 → expr_Text x.t = some (ba (tx x)) → expr_part x.t = some (ba (txp x)) := by
    intro x hx hd h
    rw [expr_part.eq]; unfold expr_part_b
    have hl := (tx_len x hx).1
    have hp : 2 ^ x.d ≤ 2 ^ 12 := Nat.pow_le_pow_right (by decide) hd
    have hp2 : (2 : Nat) ^ 12 = 4096 := rfl
    simp only [h, Option.bind_some]
    cases x with
    | bin k y z =>
      have c1 : ((((X3.bin k y z).t.L.length : Nat) : Int) == 2) = true := rfl
      rw [c1, cond_true, show h_28 = ba [40] from rfl, show h_29 = ba [41] from rfl]
      simp only [ba_append, ba_size]
      rw [guard_ok (by simp; omega), cond_true, guard_ok (by simp; omega), cond_true]; rfl
    | _ => simp [X3.t, txp, isBin]
  intro x
  induction x with
  | num n =>
    intro hx hd
    have hx : 0 ≤ n ∧ n < 4294967296 := hx
    have : expr_Text (X3.num n).t = some (ba (tx (.num n))) := by
      have hL : (X3.num n).t = ⟨1, n, s_, []⟩ := rfl
      have hT : tx (.num n) = Lib.decDigits n.toNat := rfl
      have c1 : ((((([] : List T_api_Expr).length) : Nat) : Int) == 1) = false := rfl
      have c2 : ((((([] : List T_api_Expr).length) : Nat) : Int) == 2) = false := rfl
      have c3 : ((1 : Int) == 1) = true := rfl
      rw [expr_Text.eq]; unfold expr_Text_b
      rw [hL, hT]
      simp only [c1, c2, c3, cond_false, cond_true, itoa_dec hx, Option.bind_some]
    exact ⟨this, part _ hx hd this⟩
  | nm s =>
    intro hx hd
    have : expr_Text (X3.nm s).t = some (ba (tx (.nm s))) := by
      rw [expr_Text.eq]; unfold expr_Text_b
      show some s = some (ba (bl s)); rw [ba_bl]
    exact ⟨this, part _ hx hd this⟩
  | here =>
    intro hx hd
    have : expr_Text X3.here.t = some (ba (tx .here)) := by rw [expr_Text.eq]; rfl
    exact ⟨this, part _ hx hd this⟩
  | neg x ih =>
    intro hx hd
    have hx' : okW x := hx
    have hd' : x.d + 1 ≤ 12 := hd
    have ih := ih hx' (by omega)
    have hl := (tx_len x hx').2
    have hp : 2 ^ x.d ≤ 2 ^ 12 := Nat.pow_le_pow_right (by decide) (by omega)
    have hp2 : (2 : Nat) ^ 12 = 4096 := rfl
    have : expr_Text (X3.neg x).t = some (ba (tx (.neg x))) := by
      rw [expr_Text.eq]; unfold expr_Text_b
      have hL : (X3.neg x).t = ⟨4, 0, s_, [x.t]⟩ := rfl
      have c1 : (((([x.t] : List T_api_Expr).length : Nat) : Int) == 1) = true := rfl
      have g0 : ([x.t] : List T_api_Expr)[Int.toNat 0]? = some x.t := rfl
      rw [hL, c1, cond_true, g0]
      simp only [Option.bind_some, ih.2, show h_2d = ba [45] from rfl, ba_append, ba_size]
      rw [guard_ok (by simp; omega)]; rfl
    exact ⟨this, part _ hx hd this⟩
  | bin k x y ihx ihy =>
    intro hx hd
    obtain ⟨hk1, hk2, hx', hy'⟩ := id hx
    have hd' : max x.d y.d + 1 ≤ 12 := hd
    have e1 : x.d ≤ max x.d y.d := Nat.le_max_left _ _
    have e2 : y.d ≤ max x.d y.d := Nat.le_max_right _ _
    have ihx := ihx hx' (by omega)
    have ihy := ihy hy' (by omega)
    have hl := (tx_len x hx').2
    have hl2 := (tx_len y hy').2
    have hp : 2 ^ x.d ≤ 2 ^ 12 := Nat.pow_le_pow_right (by decide) (by omega)
    have hp' : 2 ^ y.d ≤ 2 ^ 12 := Nat.pow_le_pow_right (by decide) (by omega)
    have hp2 : (2 : Nat) ^ 12 = 4096 := rfl
    have hs : (sg k).length ≤ 2 := by unfold sg; split <;> simp
    have : expr_Text (X3.bin k x y).t = some (ba (tx (.bin k x y))) := by
      rw [expr_Text.eq]; unfold expr_Text_b
      have hL : (X3.bin k x y).t = ⟨k, 0, s_, [x.t, y.t]⟩ := rfl
      have c1 : (((([x.t, y.t] : List T_api_Expr).length : Nat) : Int) == 1) = false := rfl
      have c2 : (((([x.t, y.t] : List T_api_Expr).length : Nat) : Int) == 2) = true := rfl
      have g0 : ([x.t, y.t] : List T_api_Expr)[Int.toNat 0]? = some x.t := rfl
      have g1 : ([x.t, y.t] : List T_api_Expr)[Int.toNat 1]? = some y.t := rfl
      rw [hL, c1, cond_false, c2, cond_true, g0, g1, Option.bind_some, ihx.2, Option.bind_some, show h_20 = ba [32] from rfl, guardS (txp x) [32] (by simp; omega), cond_true]
      rw [sign_eq ⟨hk1, hk2⟩, Option.bind_some, ba_append (txp x) [32], guardS (txp x ++ [32]) (sg k) (by simp; omega), cond_true, ba_append (txp x ++ [32]) (sg k)]
      rw [guardS (txp x ++ [32] ++ sg k) [32] (by simp; omega), cond_true, Option.bind_some, ihy.2, Option.bind_some, ba_append (txp x ++ [32] ++ sg k) [32]]
      rw [guardS (txp x ++ [32] ++ sg k ++ [32]) (txp y) (by simp; omega), cond_true, ba_append, tx_bin]
      simp only [List.append_assoc, List.singleton_append, List.cons_append, List.nil_append]
    exact ⟨this, part _ hx hd this⟩
theorem u8_in {n : Int} (h1 : 0 ≤ n) (h2 : n ≤ 255) : IntKind.u8.wrap n = n := by
  have e : n % 256 = n := Int.emod_eq_of_lt h1 (by omega)
  unfold IntKind.wrap
  simp [IntKind.bits, IntKind.signed, e]
theorem r3_Digits_eq {u : Nat} (h : u < 9223372036854775808) : r3_Digits (u : Int) = some (ba (Lib.decDigits u)) := by
  induction u using Nat.strongRecOn with
  | _ u ih =>
    rw [r3_Digits.eq]; unfold r3_Digits_b
    have c1 : decide ((u : Int) < 0) = false := decide_eq_false (by omega)
    rw [c1, cond_false, Lib.decDigits]
    by_cases hu : u < 10
    · have c2 : decide ((u : Int) ≥ 10) = false := decide_eq_false (by omega)
      rw [c2, cond_false, dif_pos hu, w64_in (by omega) (by omega), u8_in (by omega) (by omega)]
      simp only [Option.bind_some, listB, List.map_cons, List.map_nil]
      rw [show ((48 : Int) + (u : Int)).toNat = 48 + u from by omega]; rfl
    · have c2 : decide ((u : Int) ≥ 10) = true := decide_eq_true (by omega)
      have e1 : w64 (Int.tdiv (u : Int) 10) = ((u / 10 : Nat) : Int) := by
        rw [show Int.tdiv (u : Int) 10 = ((u / 10 : Nat) : Int) from by rw [show (10 : Int) = ((10 : Nat) : Int) from rfl, ← Int.ofNat_tdiv]]
        exact w64_in (by omega) (by omega)
      have e2 : Int.tmod (u : Int) 10 = ((u % 10 : Nat) : Int) := by rw [show (10 : Int) = ((10 : Nat) : Int) from rfl, ← Int.ofNat_tmod]
      have hl1 := dec_len 19 (u / 10) (by simp; omega) (by omega)
      have hl2 := dec_len 19 (u % 10) (by simp; omega) (by omega)
      rw [c2, cond_true, dif_neg hu, e1, e2, ih (u / 10) (by omega) (by omega)]
      have e3 : Lib.decDigits (u % 10) = [UInt8.ofNat (48 + u % 10)] := by rw [Lib.decDigits, dif_pos (by omega)]
      simp only [Option.bind_some]
      rw [ih (u % 10) (by omega) (by omega)]
      simp only [Option.bind_some, ba_append, ba_size]
      rw [guard_ok (by omega), cond_true, e3]
theorem r3_Text_eq : ∀ (x : X3), okW x → x.d ≤ 12 → r3_Text x.t = some (ba (tx x)) ∧ r3_bracketed x.t = some (ba (txp x)) := by
  have part : ∀ x : X3, okW x → x.d ≤ 12 → r3_Text x.t = some (ba (tx x)) → r3_bracketed x.t = some (ba (txp x)) := by
    intro x hx hd h
    rw [r3_bracketed.eq]; unfold r3_bracketed_b
    have hl := (tx_len x hx).1
    have hp : 2 ^ x.d ≤ 2 ^ 12 := Nat.pow_le_pow_right (by decide) hd
    have hp2 : (2 : Nat) ^ 12 = 4096 := rfl
    simp only [h, Option.bind_some]
    cases x with
    | bin k y z =>
      have c1 : ((((X3.bin k y z).t.L.length : Nat) : Int) == 2) = true := rfl
      rw [c1, cond_true, show h_28 = ba [40] from rfl, show h_29 = ba [41] from rfl]
      simp only [ba_append, ba_size]
      rw [guard_ok (by simp; omega), cond_true, guard_ok (by simp; omega), cond_true]; rfl
    | _ => simp [X3.t, txp, isBin]
  intro x
  induction x with
  | num n =>
    intro hx hd
    have hx : 0 ≤ n ∧ n < 4294967296 := hx
    have : r3_Text (X3.num n).t = some (ba (tx (.num n))) := by
      obtain ⟨u, rfl⟩ := Int.eq_ofNat_of_zero_le hx.1
      have hL : (X3.num (u : Int)).t = ⟨1, (u : Int), s_, []⟩ := rfl
      have hT : tx (.num (u : Int)) = Lib.decDigits (u : Int).toNat := rfl
      have c3 : ((1 : Int) == 1) = true := rfl
      rw [r3_Text.eq]; unfold r3_Text_b
      rw [hL, hT]
      simp only [c3, cond_true, r3_Digits_eq (u := u) (by omega), Option.bind_some, Int.toNat_natCast]
    exact ⟨this, part _ hx hd this⟩
  | nm s =>
    intro hx hd
    have : r3_Text (X3.nm s).t = some (ba (tx (.nm s))) := by
      rw [r3_Text.eq]; unfold r3_Text_b
      show some s = some (ba (bl s)); rw [ba_bl]
    exact ⟨this, part _ hx hd this⟩
  | here =>
    intro hx hd
    have : r3_Text X3.here.t = some (ba (tx .here)) := by rw [r3_Text.eq]; rfl
    exact ⟨this, part _ hx hd this⟩
  | neg x ih =>
    intro hx hd
    have hx' : okW x := hx
    have hd' : x.d + 1 ≤ 12 := hd
    have ih := ih hx' (by omega)
    have hl := (tx_len x hx').2
    have hp : 2 ^ x.d ≤ 2 ^ 12 := Nat.pow_le_pow_right (by decide) (by omega)
    have hp2 : (2 : Nat) ^ 12 = 4096 := rfl
    have : r3_Text (X3.neg x).t = some (ba (tx (.neg x))) := by
      rw [r3_Text.eq]; unfold r3_Text_b
      have hL : (X3.neg x).t = ⟨4, 0, s_, [x.t]⟩ := rfl
      have g0 : ([x.t] : List T_api_Expr)[Int.toNat 0]? = some x.t := rfl
      have k1 : ((4 : Int) == 1) = false := rfl
      have k2 : ((4 : Int) == 2) = false := rfl
      have k3 : ((4 : Int) == 3) = false := rfl
      have k4 : ((4 : Int) == 4) = true := rfl
      rw [hL, k1, cond_false, k2, cond_false, k3, cond_false, k4, cond_true, g0]
      simp only [Option.bind_some, ih.2, show h_2d = ba [45] from rfl, ba_append, ba_size]
      rw [guard_ok (by simp; omega)]; rfl
    exact ⟨this, part _ hx hd this⟩
  | bin k x y ihx ihy =>
    intro hx hd
    obtain ⟨hk1, hk2, hx', hy'⟩ := id hx
    have hd' : max x.d y.d + 1 ≤ 12 := hd
    have e1 : x.d ≤ max x.d y.d := Nat.le_max_left _ _
    have e2 : y.d ≤ max x.d y.d := Nat.le_max_right _ _
    have ihx := ihx hx' (by omega)
    have ihy := ihy hy' (by omega)
    have hl := (tx_len x hx').2
    have hl2 := (tx_len y hy').2
    have hp : 2 ^ x.d ≤ 2 ^ 12 := Nat.pow_le_pow_right (by decide) (by omega)
    have hp' : 2 ^ y.d ≤ 2 ^ 12 := Nat.pow_le_pow_right (by decide) (by omega)
    have hp2 : (2 : Nat) ^ 12 = 4096 := rfl
    have hs : (sg k).length ≤ 2 := by unfold sg; split <;> simp
    have : r3_Text (X3.bin k x y).t = some (ba (tx (.bin k x y))) := by
      rw [r3_Text.eq]; unfold r3_Text_b
      have hL : (X3.bin k x y).t = ⟨k, 0, s_, [x.t, y.t]⟩ := rfl
      have k1 : ((k : Int) == 1) = false := by rw [beq_eq_false_iff_ne]; omega
      have k2 : ((k : Int) == 2) = false := by rw [beq_eq_false_iff_ne]; omega
      have k3 : ((k : Int) == 3) = false := by rw [beq_eq_false_iff_ne]; omega
      have k4 : ((k : Int) == 4) = false := by rw [beq_eq_false_iff_ne]; omega
      have g0 : ([x.t, y.t] : List T_api_Expr)[Int.toNat 0]? = some x.t := rfl
      have g1 : ([x.t, y.t] : List T_api_Expr)[Int.toNat 1]? = some y.t := rfl
      rw [hL, k1, cond_false, k2, cond_false, k3, cond_false, k4, cond_false, r3_sign_eq ⟨hk1, hk2⟩, g0, g1, Option.bind_some, Option.bind_some, ihx.2, Option.bind_some, show h_20 = ba [32] from rfl]
      rw [guardS (txp x) [32] (by simp; omega), cond_true, ba_append (txp x) [32], guardS (txp x ++ [32]) (sg k) (by simp; omega), cond_true, ba_append (txp x ++ [32]) (sg k)]
      rw [guardS (txp x ++ [32] ++ sg k) [32] (by simp; omega), cond_true, Option.bind_some, ihy.2, Option.bind_some, ba_append (txp x ++ [32] ++ sg k) [32]]
      rw [guardS (txp x ++ [32] ++ sg k ++ [32]) (txp y) (by simp; omega), cond_true, ba_append, tx_bin]
      simp only [List.append_assoc, List.singleton_append, List.cons_append, List.nil_append]
    exact ⟨this, part _ hx hd this⟩
end Go.Ab
