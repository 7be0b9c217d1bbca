/- LineLabels: part 5 of the proof that, whatever the input, the law returns true and the input reads as it did; its conditions are those of the given row. -/
import Derived.Test.YtblfhkldljfhiaaGreatDoorZLineLabels4
import Derived.Test.YtblfhkldljfhiaaGreatDoorTie
import Derived.Test.YtblfhkldljfhiaaGreatDoorCards
import Derived.ProofKit
import Derived.OpenShut
import Derived.Stop.Joined
import Derived.Lay
import Derived.SevenTiedAt
set_option linter.unusedVariables false
set_option linter.unusedSimpArgs false
set_option maxRecDepth 100000
namespace Go.Ab
def lstT (q : SQ) (ts : List (List UInt8)) : List (List UInt8) := if q.1 = 6 then (34 :: (bl q.2.2.1 ++ [34])) :: ts else if q.1 = 9 then bl q.2.2.1 :: ts else ts
theorem Qo5 {s : ByteArray} (h : isT s) : (bl s).length ≤ 20 := by rcases h with rfl | rfl | rfl | rfl | rfl <;> decide
theorem Qo6 {s : ByteArray} (h : isE s) : (bl s).length ≤ 20 := by rcases h with rfl | rfl | rfl <;> decide
theorem Qo7 {s : ByteArray} (h : isL s) : (bl s).length ≤ 20 ∧ s ≠ s_ := by
 rcases h with rfl | rfl | rfl | rfl <;> exact ⟨by decide, by decide +kernel⟩
noncomputable def coreT (X : ByteArray) (st : Qb) : Option ByteArray := (bif (st.Kind == (6 : Int)) then (bif (decide (((h_22.size + st.Text.size : Nat) : Int) ≤ IntKind.i64.max)) then (bif (decide ((((h_22 ++ st.Text).size + h_22.size : Nat) : Int) ≤ IntKind.i64.max)) then (bif (decide ([((h_22 ++ st.Text) ++ h_22)].length * 16 ≤ most)) then (bif (st.Kind == (9 : Int)) then (bif (decide (([((h_22 ++ st.Text) ++ h_22)].length + [st.Text].length) * 16 ≤ most)) then ((Jz (QL.mk X (0 : Int) st ([((h_22 ++ st.Text) ++ h_22)] ++ [st.Text]))).bind (fun (o20 : Jq) => ((Js (QM.mk o20.x3 (0 : Int) o20.r0)).bind (fun (o21 : ByteArray) => (some o21))))) else none) else ((Jz (QL.mk X (0 : Int) st [((h_22 ++ st.Text) ++ h_22)])).bind (fun (o22 : Jq) => ((Js (QM.mk o22.x3 (0 : Int) o22.r0)).bind (fun (o23 : ByteArray) => (some o23)))))) else none) else none) else none) else (bif (st.Kind == (9 : Int)) then (bif (decide ([st.Text].length * 16 ≤ most)) then ((Jz (QL.mk X (0 : Int) st [st.Text])).bind (fun (o24 : Jq) => ((Js (QM.mk o24.x3 (0 : Int) o24.r0)).bind (fun (o25 : ByteArray) => (some o25))))) else none) else ((Jz (QL.mk X (0 : Int) st ([] : List ByteArray))).bind (fun (o26 : Jq) => ((Js (QM.mk o26.x3 (0 : Int) o26.r0)).bind (fun (o27 : ByteArray) => (some o27)))))))
theorem QiA (S : List UInt8) (hS : S.length ≤ 5000) (st : Qb) (hn : st.Args.length ≤ 90) (ts : List (List UInt8)) (ha : ArgsT st.Args ts) (pre_ : List (List UInt8)) (hp : pre_.length ≤ 2) (hpl : ∀ t ∈ pre_, t.length ≤ 2700) :
  ((Jz (QL.mk (ba S) (0 : Int) st (pre_.map ba))).bind (fun (o2 : Jq) => ((Js (QM.mk o2.x3 (0 : Int) o2.r0)).bind (fun (o3 : ByteArray) => (some o3))))) = some (ba (S ++ (if pre_ ++ ts = [] then [] else 32 :: joinC (pre_ ++ ts)))) := by
 have h1 := Qo4 (ba S) st (by omega) st.Args ts 0 (pre_.map ba) ha rfl (by omega) (by simp; omega)
 have h1 : Jz ⟨ba S, 0, st, pre_.map ba⟩ = _ := h1
 rw [h1]
 simp only [Option.bind_some]
 have hlen := ha.length
 have hts : ∀ t ∈ pre_ ++ ts, t.length ≤ 2700 := by
  intro t ht
  rcases List.mem_append.1 ht with h | h
  ·exact hpl t h
  ·have key : ∀ (zs : List Qc) (ts : List (List UInt8)), ArgsT zs ts → ∀ t ∈ ts, t.length ≤ 2600 := by
    intro zs ts h
    induction h with
    | nil => intro t ht; cases ht
    | cons a t zs ts h1 _ ih =>
     intro u hu
     rcases List.mem_cons.1 hu with rfl | hu
     ·exact h1.len
     ·exact ih u hu
   have := key _ _ ha t h
   omega
 have h2 := Qtc (pre_ ++ ts) (by simp; omega) hts S hS
 rw [List.map_append] at h2
 rw [h2]; rfl
theorem FitQ.args {q : SQ} (h : FitQ q) : q.2.2.2.length ≤ 10 ∧ ∃ ts, ArgsT q.2.2.2 ts := by
 have reg : ∀ k, k < 66 → (RG k).length ≤ 8 := fun k hk => by
  obtain ⟨a, l, b, m, _, _, h3, h4, _⟩ := QdU hk
  rw [← QdV l _ h4]; exact h3
 cases h with
 | inst k zs hk hl ha =>
  refine ⟨by have := reg k hk; show zs.length ≤ 10; omega, PF zs fun a hm => ?_⟩
  obtain ⟨i, hi⟩ := List.mem_iff_getElem?.1 hm
  have := ha i a hi
  split at this
  ·obtain ⟨m, hm2, rfl⟩ := this; exact ⟨_, Qsr hm2⟩
  ·exact Qde this
 | grow o zs ho hl ha => exact ⟨by show zs.length ≤ 10; rw [hl]; split <;> omega, PF zs fun a hm => Qde (ha a hm)⟩
 | data k zs hk h1 h4 ha => exact ⟨by show zs.length ≤ 10; omega, PF zs fun a hm => Qde (ha a hm)⟩
 | ascii t ht => exact ⟨by show 0 ≤ 10; omega, [], .nil⟩
 | one k a hk ha => exact ⟨by show 1 ≤ 10; omega, PF [a] fun b hb => by simp at hb; subst hb; exact Qde ha⟩
 | equ w a hw ha => exact ⟨by show 1 ≤ 10; omega, PF [a] fun b hb => by simp at hb; subst hb; exact Qde ha⟩
theorem Qo8 (S : List UInt8) (hS : S.length ≤ 5000) (lb : ByteArray) {q : SQ} (hq : FitQ q) (ts : List (List UInt8)) (ha : ArgsT q.2.2.2 ts) : coreT (ba S) (mkS lb q) = some (ba (S ++ (if lstT q ts = [] then [] else 32 :: joinC (lstT q ts)))) := by
 have hn := hq.args.1
 unfold coreT
 have plain : q.1 ≠ 6 → q.1 ≠ 9 → coreT (ba S) (mkS lb q) = some (ba (S ++ (if lstT q ts = [] then [] else 32 :: joinC (lstT q ts)))) := by
  intro h6 h9
  unfold coreT lstT
  rw [if_neg h6, if_neg h9, show ((mkS lb q).Kind == 6) = false from beq_eq_false_iff_ne.2 h6, show ((mkS lb q).Kind == 9) = false from beq_eq_false_iff_ne.2 h9, cond_false, cond_false]
  exact QiA S hS (mkS lb q) (by show q.2.2.2.length ≤ 90; omega) ts ha [] (by simp) (by simp)
 unfold coreT at plain
 cases hq with
 | inst k zs _ _ _ => exact plain (by show (1 : Int) ≠ 6; decide) (by show (1 : Int) ≠ 9; decide)
 | grow o zs _ _ _ => exact plain (by show (2 : Int) ≠ 6; decide) (by show (2 : Int) ≠ 9; decide)
 | data k zs hk _ _ _ => exact plain (by show k ≠ 6; omega) (by show k ≠ 9; omega)
 | one k a hk _ => exact plain (by show k ≠ 6; omega) (by show k ≠ 9; omega)
 | ascii t ht =>
  have hl := Qo5 ht
  have hsz : t.size ≤ 20 := by rw [GQ]; exact hl
  have e : t = ba (bl t) := (ba_bl t).symm
  have hT : (mkS lb (6, 0, t, [])).Text = ba (bl t) := e
  rw [hT, show ((mkS lb (6, 0, t, [])).Kind == 6) = true from rfl, cond_true, show ((mkS lb (6, 0, t, [])).Kind == 9) = false from rfl, cond_false, show h_22 = ba [34] from rfl, guardS [34] _ (by simp; omega), cond_true, Uv, guardS _ [34] (by simp; omega), cond_true, Uv]
  rw [show decide (([ba ([34] ++ bl t ++ [34])].length) * 16 ≤ most) = true from rfl, cond_true]
  have := QiA S hS (mkS lb (6, 0, t, [])) (by show 0 ≤ 90; omega) ts ha [[34] ++ bl t ++ [34]] (by simp) (by simp; omega)
  rw [show ([[34] ++ bl t ++ [34]] : List (List UInt8)).map ba = [ba ([34] ++ bl t ++ [34])] from rfl] at this
  rw [this]; rfl
 | equ w a hw h =>
  have hl := Qo6 hw
  have hsz : w.size ≤ 20 := by rw [GQ]; exact hl
  have e : w = ba (bl w) := (ba_bl w).symm
  have hT : (mkS lb (9, 0, w, [a])).Text = ba (bl w) := e
  rw [hT, show ((mkS lb (9, 0, w, [a])).Kind == 6) = false from rfl, cond_false, show ((mkS lb (9, 0, w, [a])).Kind == 9) = true from rfl, cond_true]
  rw [show decide (([ba (bl w)].length) * 16 ≤ most) = true from rfl, cond_true]
  have := QiA S hS (mkS lb (9, 0, w, [a])) (by show 1 ≤ 90; omega) ts ha [bl w] (by simp) (by simp; omega)
  rw [show ([bl w] : List (List UInt8)).map ba = [ba (bl w)] from rfl] at this
  rw [this]; rfl
theorem Qss : (D0.all fun r => decide (0 < r.Name.size ∧ r.Name.size ≤ 20)) = true := by kernel_rfl
theorem Qo9 {k : Nat} (hk : k < 66) : ∃ r, D0[k]? = some r ∧ 0 < r.Name.size ∧ r.Name.size ≤ 20 := by
 have : k < D0.length := by rw [D0_len]; exact hk
 refine ⟨D0[k], List.getElem?_eq_getElem this, ?_⟩
 exact of_decide_eq_true (List.all_eq_true.1 Qss _ (List.getElem_mem this))
def nameQ (q : SQ) : ByteArray := if q.1 = 1 then ((D0[q.2.1.toNat]?).map (·.Name)).getD s_ else if q.1 = 2 then (if q.2.1 = 0 then s_b else if q.2.1 = 1 then s_bl else s_bc) else if q.1 = 3 then QF else if q.1 = 4 then QG else if q.1 = 5 then QH else if q.1 = 6 then Q0 else if q.1 = 7 then QA else if q.1 = 8 then QB else Jx
theorem Qkq (lb : ByteArray) {q : SQ} (hq : FitQ q) : Y4 (mkS lb q) = some (nameQ q) ∧ 0 < (nameQ q).size ∧ (nameQ q).size ≤ 20 := by
 rw [Y4.eq]; unfold Qf5
 cases hq with
 | inst k zs hk _ _ =>
  obtain ⟨r, h1, h2, h3⟩ := Qo9 hk
  have e : nameQ (1, (k : Int), s_, zs) = r.Name := by unfold nameQ; rw [if_pos rfl]; show ((D0[(k : Int).toNat]?).map (·.Name)).getD s_ = _; rw [Int.toNat_natCast, h1]; rfl
  rw [e]
  refine ⟨?_, h2, h3⟩
  rw [show ((mkS lb (1, (k : Int), s_, zs)).Kind == 1) = true from rfl, cond_true]
  show (ZO (k : Int)).bind _ = _
  rw [Qse h1]; rfl
 | grow o zs ho _ _ =>
  have : o = 0 ∨ o = 1 ∨ o = 2 := by omega
  rcases this with rfl | rfl | rfl
  ·exact ⟨rfl, (show 0 < s_b.size by decide), (show s_b.size ≤ 20 by decide)⟩
  ·exact ⟨rfl, (show 0 < s_bl.size by decide), (show s_bl.size ≤ 20 by decide)⟩
  ·exact ⟨rfl, (show 0 < s_bc.size by decide), (show s_bc.size ≤ 20 by decide)⟩
 | data k zs hk _ _ _ =>
  rcases hk with rfl | rfl | rfl
  ·exact ⟨rfl, (show 0 < QF.size by decide), (show QF.size ≤ 20 by decide)⟩
  ·exact ⟨rfl, (show 0 < QG.size by decide), (show QG.size ≤ 20 by decide)⟩
  ·exact ⟨rfl, (show 0 < QH.size by decide), (show QH.size ≤ 20 by decide)⟩
 | ascii t ht => exact ⟨rfl, by show 0 < Q0.size; decide, by show Q0.size ≤ 20; decide⟩
 | one k a hk _ =>
  rcases hk with rfl | rfl
  ·exact ⟨rfl, (show 0 < QA.size by decide), (show QA.size ≤ 20 by decide)⟩
  ·exact ⟨rfl, (show 0 < QB.size by decide), (show QB.size ≤ 20 by decide)⟩
 | equ w a hw h => exact ⟨rfl, by show 0 < Jx.size; decide, by show Jx.size ≤ 20; decide⟩
def labT (lb : ByteArray) : List UInt8 := if lb = s_ then [] else bl lb ++ [58, 32]
def lineT (lb : ByteArray) (q : SQ) (ts : List (List UInt8)) : List UInt8 := labT lb ++ (bl (nameQ q) ++ (if lstT q ts = [] then [] else 32 :: joinC (lstT q ts)))
theorem FitQ.kind {q : SQ} (h : FitQ q) : q.1 ≠ 0 := by
 cases h with
 | inst => show (1 : Int) ≠ 0; decide
 | grow => show (2 : Int) ≠ 0; decide
 | data k zs hk => show k ≠ 0; omega
 | ascii => show (6 : Int) ≠ 0; decide
 | one k a hk => show k ≠ 0; omega
 | equ => show (9 : Int) ≠ 0; decide
theorem QjK (lb : ByteArray) (hlb : lb = s_ ∨ isL lb) {q : SQ} (hq : FitQ q) (ts : List (List UInt8)) (ha : ArgsT q.2.2.2 ts) : Y6 (mkS lb q) = some (ba (lineT lb q ts)) := by
 obtain ⟨n1, n2, n3⟩ := Qkq lb hq
 have hnl : (bl (nameQ q)).length ≤ 20 := by rw [← GQ]; exact n3
 have hk : ((mkS lb q).Kind == 0) = false := beq_eq_false_iff_ne.2 hq.kind
 rw [Y6.eq]; unfold Qf8
 unfold lineT labT
 rcases hlb with rfl | hL
 ·rw [show eqS (mkS s_ q).Label s_ = true from U2.2 rfl, if_pos rfl, hk, n1]
  simp only [Bool.not_true, cond_false, Option.bind_some]
  have g : decide (((s_.size + (nameQ q).size : Nat) : Int) ≤ IntKind.i64.max) = true := Qln (by rw [show s_.size = 0 from rfl]; omega)
  rw [g, cond_true]
  have c := Qo8 (bl (nameQ q)) (by omega) s_ hq ts ha
  have e : s_ ++ nameQ q = ba (bl (nameQ q)) := by
   rw [show s_ = ba [] from rfl]
   conv => lhs; rw [← ba_bl (nameQ q)]
   rw [Uv]; rfl
  rw [e]
  exact c
 ·obtain ⟨l1, l2⟩ := Qo7 hL
  have hsz : lb.size ≤ 20 := by rw [GQ]; exact l1
  have e0 : eqS (mkS lb q).Label s_ = false := eqS_ne l2
  have eL : (mkS lb q).Label = ba (bl lb) := (ba_bl lb).symm
  rw [e0, if_neg l2, eL, show h_3a = ba [58] from rfl, guardS _ [58] (by simp; omega), Uv, hk, show s_ = ba [] from rfl, eqS_ba, show h_20 = ba [32] from rfl, guardS _ [32] (by simp; omega), Uv, n1]
  rw [decide_eq_false (show ¬ bl lb ++ [58] = [] by simp)]
  simp only [Bool.not_false, cond_true, cond_false, Option.bind_some]
  have e : nameQ q = ba (bl (nameQ q)) := (ba_bl _).symm
  have g : decide ((((ba (bl lb ++ [58] ++ [32])).size + (nameQ q).size : Nat) : Int) ≤ IntKind.i64.max) = true := Qln (by rw [Qt]; simp; omega)
  rw [g, cond_true]
  have c := Qo8 (bl lb ++ [58] ++ [32] ++ bl (nameQ q)) (by simp; omega) lb hq ts ha
  have e2 : ba (bl lb ++ [58] ++ [32]) ++ nameQ q = ba (bl lb ++ [58] ++ [32] ++ bl (nameQ q)) := by
   conv => lhs; rw [e]
   rw [Uv]
  rw [e2]
  unfold coreT at c
  rw [eL, show h_22 = ba [34] from rfl] at *
  refine c.trans ?_
  simp
end Go.Ab
set_option maxRecDepth 100000
namespace Go.Ab
theorem Qlr (lb : ByteArray) (hlb : lb = s_ ∨ isL lb) {q : SQ} (hq : FitQ q) (ts : List (List UInt8)) (ha : ArgsT q.2.2.2 ts) : (lineT lb q ts).length ≤ 40000 := by
 obtain ⟨n1, n2, n3⟩ := Qkq lb hq
 have hnl : (bl (nameQ q)).length ≤ 20 := by rw [← GQ]; exact n3
 have hn := hq.args.1
 have hts := ha.length
 have hT : (bl q.2.2.1).length ≤ 20 := by
  cases hq with
  | inst => show (bl s_).length ≤ 20; decide
  | grow => show (bl s_).length ≤ 20; decide
  | data => show (bl s_).length ≤ 20; decide
  | ascii t ht => exact Qo5 ht
  | one => show (bl s_).length ≤ 20; decide
  | equ w a hw h => exact Qo6 hw
 have key : ∀ (zs : List Qc) (ts : List (List UInt8)), ArgsT zs ts → ∀ t ∈ ts, t.length ≤ 2600 := by
  intro zs ts h
  induction h with
  | nil => intro t ht; cases ht
  | cons a t zs ts h1 _ ih =>
   intro u hu
   rcases List.mem_cons.1 hu with rfl | hu
   ·exact h1.len
   ·exact ih u hu
 have hk := key _ _ ha
 have hlst : (lstT q ts).length ≤ 11 ∧ ∀ t ∈ lstT q ts, t.length ≤ 2600 := by
  unfold lstT
  split
  ·refine ⟨by simp only [List.length_cons]; omega, fun t ht => ?_⟩
   rcases List.mem_cons.1 ht with rfl | ht
   ·simp only [List.length_cons, List.length_append, List.length_nil]; omega
   ·exact hk t ht
  ·split
   ·refine ⟨by simp only [List.length_cons]; omega, fun t ht => ?_⟩
    rcases List.mem_cons.1 ht with rfl | ht
    ·omega
    ·exact hk t ht
   ·exact ⟨by omega, hk⟩
 have hjoin : (joinC (lstT q ts)).length ≤ 30000 := by
  cases h : lstT q ts with
  | nil => simp [joinC]
  | cons t l =>
   rw [h] at hlst
   rw [G4, List.length_append]
   have h1 := hlst.2 t (by simp)
   have h2 := Qlq l 2600 (fun u hu => hlst.2 u (by simp [hu]))
   have h3 := hlst.1
   simp only [List.length_cons] at h3
   have : l.length * 2602 ≤ 10 * 2602 := Nat.mul_le_mul (by omega) (Nat.le_refl _)
   omega
 have hlab : (labT lb).length ≤ 22 := by
  unfold labT
  rcases hlb with rfl | hL
  ·rw [if_pos rfl]; simp
  ·obtain ⟨l1, l2⟩ := Qo7 hL
   rw [if_neg l2]
   simp only [List.length_append, List.length_cons, List.length_nil]; omega
 unfold lineT
 simp only [List.length_append]
 split
 ·simp only [List.length_nil]; omega
 ·simp only [List.length_cons]; omega
theorem Qrb (r : QJ) (hr : okR r) : ∃ lb q ts, W9 r = some (mkS lb q) ∧ (lb = s_ ∨ isL lb) ∧ FitQ q ∧ ArgsT q.2.2.2 ts ∧ Y6 (mkS lb q) = some (ba (lineT lb q ts)) ∧ (lineT lb q ts).length ≤ 40000 := by
 obtain ⟨st, h1, lb, q, rfl, hlb, hq⟩ := Qtb r hr
 obtain ⟨ts, hts⟩ := hq.args.2
 exact ⟨lb, q, ts, h1, hlb, hq, hts, QjK lb hlb hq ts hts, Qlr lb hlb hq ts hts⟩
end Go.Ab
set_option maxRecDepth 100000
namespace Go.Ab
def cl (c : UInt8) : Bool := decide (c ≠ 34) && decide (c ≠ 35) && decide (c ≠ 10) && decide (c ≠ 44) && decide (c ≠ 58)
def Cle (t : List UInt8) : Prop := t.all cl = true ∧ (∃ c r, t = c :: r ∧ isW c = false) ∧ ∃ r c, t = r ++ [c] ∧ isW c = false
theorem isI_cl {c : UInt8} (h : isI c = true) : cl c = true ∧ isW c = false := by
 unfold isI isS isD at h
 simp only [Bool.or_eq_true, decide_eq_true_eq] at h
 constructor
 ·unfold cl
  simp only [Bool.and_eq_true, decide_eq_true_eq]
  refine ⟨⟨⟨⟨?_, ?_⟩, ?_⟩, ?_⟩, ?_⟩ <;> (rintro rfl; revert h; decide)
 ·unfold isW
  refine decide_eq_false fun hw => ?_
  omega
theorem Cle_I {t : List UInt8} (h : t.all isI = true) (hn : t ≠ []) : Cle t := by
 refine ⟨List.all_eq_true.2 fun c hc => (isI_cl (List.all_eq_true.1 h c hc)).1, ?_, ?_⟩
 ·cases t with
  | nil => exact absurd rfl hn
  | cons c r => exact ⟨c, r, rfl, (isI_cl (List.all_eq_true.1 h c (by simp))).2⟩
 ·have e := (List.dropLast_concat_getLast hn).symm
  exact ⟨_, _, e, (isI_cl (List.all_eq_true.1 h _ (List.getLast_mem hn))).2⟩
theorem QiB {c : UInt8} {t : List UInt8} (hc : cl c = true) (hw : isW c = false) (h : Cle t) : Cle (c :: t) := by
 obtain ⟨h1, _, r, d, h2, h3⟩ := h
 exact ⟨by simp [hc, h1], ⟨c, t, rfl, hw⟩, c :: r, d, by rw [h2]; rfl, h3⟩
theorem Qst {c : UInt8} {t : List UInt8} (hc : cl c = true) (hw : isW c = false) (h : Cle t) : Cle (t ++ [c]) := by
 obtain ⟨h1, ⟨d, r, h2, h3⟩, _⟩ := h
 exact ⟨by simp [hc, h1], ⟨d, r ++ [c], by rw [h2]; rfl, h3⟩, t, c, rfl, hw⟩
theorem Qtd {t u : List UInt8} {m : List UInt8} (h : Cle t) (hm : m.all cl = true) (k : Cle u) : Cle (t ++ (m ++ u)) := by
 obtain ⟨h1, ⟨d, r, h2, h3⟩, _⟩ := h
 obtain ⟨k1, _, s, c, k2, k3⟩ := k
 exact ⟨by simp [h1, hm, k1], ⟨d, r ++ (m ++ u), by rw [h2]; rfl, h3⟩, t ++ (m ++ s), c, by rw [k2]; simp, k3⟩
theorem isD_I {c : UInt8} (h : isD c = true) : isI c = true := by rw [QgH, h, Bool.or_true]
theorem Qkr (u : Nat) : Cle (Lib.decDigits u) := by
 obtain ⟨h1, h2⟩ := @Qkm u
 exact Cle_I (List.all_eq_true.2 fun c hc => isD_I (List.all_eq_true.1 h1 c hc)) h2
theorem PG {w : List UInt8} (h : wordB w = true) : Cle w := by
 obtain ⟨c, t, e, _, _, ha⟩ := G3 h
 exact Cle_I ha (by rw [e]; simp)
theorem sg_cl {k : Nat} (hk : 5 ≤ k ∧ k ≤ 11) : (32 :: (sg k ++ [32])).all cl = true := by
 have : k = 5 ∨ k = 6 ∨ k = 7 ∨ k = 8 ∨ k = 9 ∨ k = 10 ∨ k = 11 := by omega
 rcases this with rfl | rfl | rfl | rfl | rfl | rfl | rfl <;> decide
theorem tx_cle : ∀ x : X3, okW x → Cle (tx x) ∧ Cle (txp x)
 | .num n, h => by
  have : tx (.num n) = Lib.decDigits n.toNat := rfl
  have e : txp (.num n) = tx (.num n) := rfl
  rw [e, this]; exact ⟨Qkr _, Qkr _⟩
 | .nm s, h => by
  have : tx (.nm s) = bl s := rfl
  have e : txp (.nm s) = tx (.nm s) := rfl
  rw [e, this]
  have hw : wordB (bl s) = true := h
  exact ⟨PG hw, PG hw⟩
 | .here, h => by
  have : Cle [46] := ⟨by decide, ⟨46, [], rfl, by decide⟩, [], 46, rfl, by decide⟩
  exact ⟨this, this⟩
 | .neg x, h => by
  have ih := (tx_cle x h).2
  have e : txp (.neg x) = tx (.neg x) := rfl
  rw [e, tx_neg]
  have := QiB (c := 45) (by decide) (by decide) ih
  exact ⟨this, this⟩
 | .bin k x y, h => by
  obtain ⟨h1, h2, hx, hy⟩ := h
  have ix := (tx_cle x hx).2
  have iy := (tx_cle y hy).2
  have e : txp (.bin k x y) = 40 :: (tx (.bin k x y) ++ [41]) := rfl
  have hb : Cle (tx (.bin k x y)) := by
   rw [tx_bin]
   have := Qtd ix (sg_cl ⟨h1, h2⟩) iy
   simpa using this
  rw [e]
  exact ⟨hb, QiB (by decide) (by decide) (Qst (by decide) (by decide) hb)⟩
theorem QnG {a : Qc} {t : List UInt8} (h : ArgT a t) : Cle t := by
 rcases h with ⟨m, hm, _, rfl⟩ | ⟨x, _, hx, hd, rfl⟩
 ·exact QiB (by decide) (by decide) (Qkr m)
 ·exact (tx_cle x hx).1
theorem Qrc {r : List UInt8} {c : UInt8} (h : isW c = false) : trimR (r ++ [c]) = r ++ [c] := by
 unfold trimR
 rw [List.reverse_append]
 show ((c :: r.reverse).dropWhile isW).reverse = _
 rw [List.dropWhile_cons_of_neg (by simp [h])]; simp
theorem Qak {t : List UInt8} (h1 : ∃ c r, t = c :: r ∧ isW c = false) (h2 : ∃ r c, t = r ++ [c] ∧ isW c = false) : trimW t = t := by
 obtain ⟨r, c, e, hc⟩ := h2
 obtain ⟨d, q, e2, hd⟩ := h1
 unfold trimW
 have : trimR t = t := by rw [e]; exact Qrc hc
 rw [this, e2, List.dropWhile_cons_of_neg (by simp [hd])]
theorem Cle.trim {t : List UInt8} (h : Cle t) : trimW t = t := Qak h.2.1 h.2.2
theorem Cle.no {t : List UInt8} (h : Cle t) {c : UInt8} (hc : cl c = false) : c ∉ t := fun hm => by have := List.all_eq_true.1 h.1 c hm; rw [hc] at this; cases this
theorem QnH : ∀ (t : List UInt8), 44 ∉ t → splL 44 t = [t]
 | [], _ => rfl
 | c :: t, h => Xc (fun e => h (by simp [e])) (QnH t (fun e => h (by simp [e])))
theorem QnI : ∀ (t r : List UInt8), 44 ∉ t → splL 44 (t ++ 44 :: r) = t :: splL 44 r
 | [], r, _ => X8 44 r
 | c :: t, r, h => by
  rw [List.cons_append]
  exact Xc (fun e => h (by simp [e])) (QnI t r (fun e => h (by simp [e])))
theorem QnJ : ∀ (ts : List (List UInt8)) (t : List UInt8), 44 ∉ t → (∀ u ∈ ts, Cle u) → (splL 44 (t ++ tailC ts)).map trimW = trimW t :: ts
 | [], t, h, _ => by rw [tailC, List.append_nil, QnH t h]; rfl
 | u :: ts, t, h, hs => by
  have hu := hs u (by simp)
  have e : t ++ tailC (u :: ts) = t ++ 44 :: ((32 :: u) ++ tailC ts) := by simp [tailC]
  have ih := QnJ ts (32 :: u) (by simp; exact hu.no (by decide)) (fun v hv => hs v (by simp [hv]))
  rw [e, QnI t _ h, List.map_cons, ih, Qai (by decide), hu.trim]
theorem EQ (ts : List (List UInt8)) (h : ∀ u ∈ ts, Cle u) : opsS (joinC ts) = ts := by
 cases ts with
 | nil => rfl
 | cons t ts =>
  have ht := h t (by simp)
  rw [G4]
  unfold opsS
  rw [if_neg (by obtain ⟨_, ⟨c, r, e, _⟩, _⟩ := ht; rw [e]; simp), QnJ ts t (ht.no (by decide)) (fun u hu => h u (by simp [hu])), ht.trim]
theorem Qls (t : List UInt8) (ts : List (List UInt8)) (h : ∀ u ∈ t :: ts, Cle u) : (∃ c r, joinC (t :: ts) = c :: r ∧ isW c = false) ∧ ∃ r c, joinC (t :: ts) = r ++ [c] ∧ isW c = false := by
 have ht := h t (by simp)
 rw [G4]
 refine ⟨?_, ?_⟩
 ·obtain ⟨_, ⟨c, r, e, hc⟩, _⟩ := ht
  exact ⟨c, r ++ tailC ts, by rw [e]; rfl, hc⟩
 ·have key : ∀ (l : List (List UInt8)) (s : List UInt8), (∃ r c, s = r ++ [c] ∧ isW c = false) → (∀ u ∈ l, Cle u) → ∃ r c, s ++ tailC l = r ++ [c] ∧ isW c = false := by
   intro l
   induction l with
   | nil => intro s hs _; rw [tailC, List.append_nil]; exact hs
   | cons u l ih =>
    intro s hs hl
    obtain ⟨_, _, r, c, e, hc⟩ := hl u (by simp)
    have := ih (s ++ (44 :: 32 :: u)) ⟨s ++ (44 :: 32 :: r), c, by rw [e]; simp, hc⟩ (fun v hv => hl v (by simp [hv]))
    simpa [tailC] using this
  exact key ts t ht.2.2 (fun u hu => h u (by simp [hu]))
def dg2 (m : Nat) : List UInt8 := if m < 10 then [UInt8.ofNat (48 + m)] else [UInt8.ofNat (48 + m / 10), UInt8.ofNat (48 + m % 10)]
theorem dec2 {m : Nat} (h : m ≤ 31) : Lib.decDigits m = dg2 m := by
 unfold dg2
 rw [Lib.decDigits]
 split
 ·rfl
 ·rw [Lib.decDigits, dif_pos (by omega)]; rfl
theorem Qte : ∀ m : Fin 32, regS (114 :: dg2 m.val) = some m.val := by decide
theorem Qtf {m : Nat} (h : m ≤ 31) : regS (114 :: Lib.decDigits m) = some m := by rw [dec2 h]; exact Qte ⟨m, by omega⟩
theorem op_reg {m : Nat} (h : m ≤ 31) : opS true (114 :: Lib.decDigits m) = some ⟨(m : Int), E0⟩ := by unfold opS; rw [if_pos rfl, Qtf h]; rfl
theorem op_tx {x : X3} (hx : okW x) (hd : x.d ≤ 7) : opS false (tx x) = some ⟨-1, x.t⟩ := by unfold opS; rw [if_neg (by decide), PA_tx hx hd, if_pos rfl]
theorem Qgx {zs : List Qc} {ts : List (List UInt8)} (h : ArgsT zs ts) : ∀ t ∈ ts, Cle t := by
 induction h with
 | nil => intro t ht; cases ht
 | cons a t zs ts h1 _ ih =>
  intro u hu
  rcases List.mem_cons.1 hu with rfl | hu
  ·exact QnG h1
  ·exact ih u hu
theorem Qgy (f : Nat → Bool) : ∀ (zs : List Qc) (ts : List (List UInt8)) (i : Nat), ArgsT zs ts → (∀ (j : Nat) a, zs[j]? = some a → if f (i + j) = true then (∃ m : Nat, m ≤ 31 ∧ a = ⟨(m : Int), E0⟩) else okA a) → argsS f i ts = some zs
 | [], _, i, .nil, _ => rfl
 | a :: zs, _, i, .cons _ t _ ts ht hts, h => by
  have h0 := h 0 a rfl
  have ih := Qgy f zs ts (i + 1) hts (fun j b hb => by have := h (j + 1) b (by simpa using hb); rw [show i + 1 + j = i + (j + 1) by omega]; exact this)
  simp only [argsS]
  rw [ih]
  rw [Nat.add_zero] at h0
  cases hf : f i with
  | true =>
   rw [hf, if_pos rfl] at h0
   obtain ⟨m, hm, rfl⟩ := h0
   rcases ht with ⟨m', hm', e, rfl⟩ | ⟨x, e, _, _, _⟩
   ·have e1 : (m : Int) = (m' : Int) := congrArg Qc.Reg e
    have : m = m' := by omega
    subst this
    rw [op_reg hm]; rfl
   ·have := congrArg Qc.Reg e
    have : (m : Int) = -1 := this
    omega
  | false =>
   rw [hf, if_neg (by decide)] at h0
   obtain ⟨y, rfl, hy, hyd⟩ := h0
   rcases ht with ⟨m', hm', e, rfl⟩ | ⟨x, e, hx, hxd, rfl⟩
   ·have := congrArg Qc.Reg e
    have : (-1 : Int) = (m' : Int) := this
    omega
   ·have e2 : y.t = x.t := congrArg Qc.E e
    rw [op_tx hx hxd, ← e2]; rfl
theorem Qal {zs : List Qc} {ts : List (List UInt8)} (h : ArgsT zs ts) (ha : ∀ a ∈ zs, okA a) : argsS (fun _ => false) 0 ts = some zs :=
 Qgy _ zs ts 0 h (fun j a hj => by rw [if_neg (by decide)]; exact ha a (List.mem_of_getElem? hj))
noncomputable def chkN (k : Nat) : Bool := match D0[k]? with
 | some r => (match findI r.Name tabL 0 with | some n => decide (n = (k : Int)) | none => false) && r.Name.data.toList.all isI
 | none => false
theorem Qsu : ((List.range 66).all chkN) = true := by kernel_rfl
theorem QjL {k : Nat} (hk : k < 66) (zs : List Qc) : FI (bl (nameQ (1, (k : Int), s_, zs))) = ((k : Int), true) ∧ (bl (nameQ (1, (k : Int), s_, zs))).all isI = true := by
 obtain ⟨r, h1, _, _⟩ := Qo9 hk
 have e : nameQ (1, (k : Int), s_, zs) = r.Name := by unfold nameQ; rw [if_pos rfl]; show ((D0[(k : Int).toNat]?).map (·.Name)).getD s_ = _; rw [Int.toNat_natCast, h1]; rfl
 have h := List.all_eq_true.1 Qsu k (List.mem_range.2 hk)
 unfold chkN at h
 rw [h1] at h
 simp only [Bool.and_eq_true] at h
 rw [e]
 refine ⟨?_, h.2⟩
 have e2 := (FI_eq (bl r.Name)).1
 rw [P0, ba_bl] at e2
 have h3 := h.1
 split at h3
 ·rename_i n hn
  rw [hn] at e2
  rw [← Option.some.inj e2, of_decide_eq_true h3]
 ·cases h3
end Go.Ab
set_option maxRecDepth 100000
namespace Go.Ab
theorem isT_q {s : ByteArray} (h : isT s) : (bl s).all isQ = true ∧ (bl s).length ≤ 20 ∧ 58 ∉ bl s ∧ 10 ∉ bl s := by rcases h with rfl | rfl | rfl | rfl | rfl <;> decide
theorem Qd2 {s : ByteArray} (h : isE s) : wordB (bl s) = true := by rcases h with rfl | rfl | rfl <;> decide
theorem Qrd {u : List UInt8} (h : u.all isQ = true) (hl : u.length ≤ 60) : quotedS (34 :: (u ++ [34])) = some u := by
 have hlen : (34 :: (u ++ [34])).length = u.length + 2 := by simp
 have hin : innerS (34 :: (u ++ [34])) = u := by
  unfold innerS
  rw [hlen, show u.length + 2 - 1 = u.length + 1 by omega]; simp
 unfold quotedS
 have hd : (34 :: (u ++ [34])).getD ((34 :: (u ++ [34])).length - 1) 0 = 34 := by
  rw [hlen, show u.length + 2 - 1 = u.length + 1 by omega]; simp [List.getD_eq_getElem?_getD]
 rw [hin, if_pos ⟨by omega, by omega, rfl, hd, h⟩]
def lstS (q : SQ) (ts : List (List UInt8)) : List UInt8 := if lstT q ts = [] then [] else joinC (lstT q ts)
theorem Qtg (q : SQ) (ts : List (List UInt8)) : lstS q ts = joinC (lstT q ts) := by
 unfold lstS
 split
 ·rename_i h; rw [h]; rfl
 ·rfl
theorem Qre {q : SQ} (hq : FitQ q) (ts : List (List UInt8)) (h : ArgsT q.2.2.2 ts) : stmtS (bl (nameQ q)) (lstS q ts) = some q := by
 have hc := Qgx h
 have hn := h.length
 rw [Qtg]
 cases hq with
 | inst k zs hk hl ha =>
  have e : lstT (1, (k : Int), s_, zs) ts = ts := by unfold lstT; rw [if_neg (show (1 : Int) ≠ 6 by decide), if_neg (show (1 : Int) ≠ 9 by decide)]
  obtain ⟨f1, _⟩ := QjL hk zs
  unfold stmtS
  rw [f1, cond_true, e, EQ ts hc]
  unfold instS
  simp only
  rw [Int.toNat_natCast, if_pos (by rw [hn]; exact hl), Qgy _ zs ts 0 h (fun j a hj => by rw [Nat.zero_add]; exact ha j a hj)]; rfl
 | grow o zs ho hl ha =>
  have e : lstT (2, (o : Int), s_, zs) ts = ts := by unfold lstT; rw [if_neg (show (2 : Int) ≠ 6 by decide), if_neg (show (2 : Int) ≠ 9 by decide)]
  rw [e]
  have hn : ts.length = if o = 2 then 3 else 1 := by rw [hn]; exact hl
  have hr := Qal h ha
  unfold stmtS
  have : o = 0 ∨ o = 1 ∨ o = 2 := by omega
  rcases this with rfl | rfl | rfl
  ·have en : nameQ (2, ((0 : Nat) : Int), s_, zs) = s_b := rfl
   rw [en, ba_bl, Qao (s := bl s_b) (by rw [ba_bl]; exact .inl rfl), cond_false, U2.2 rfl, cond_true, EQ ts hc]
   unfold args1
   rw [if_pos (show ts.length = 1 from hn), hr]; rfl
  ·have en : nameQ (2, ((1 : Nat) : Int), s_, zs) = s_bl := rfl
   rw [en, ba_bl, Qao (s := bl s_bl) (by rw [ba_bl]; exact .inr (.inl rfl)), cond_false, show eqS s_bl s_b = false by decide +kernel, cond_false, U2.2 rfl, cond_true, EQ ts hc]
   unfold args1
   rw [if_pos (show ts.length = 1 from hn), hr]; rfl
  ·have en : nameQ (2, ((2 : Nat) : Int), s_, zs) = s_bc := rfl
   rw [en, ba_bl, Qao (s := bl s_bc) (by rw [ba_bl]; exact .inr (.inr rfl)), cond_false, show eqS s_bc s_b = false by decide +kernel, cond_false, show eqS s_bc s_bl = false by decide +kernel, cond_false, U2.2 rfl, cond_true, EQ ts hc]
   unfold args1
   rw [if_pos (show ts.length = 3 from hn), hr]; rfl
 | data k zs hk h1 h4 ha =>
  have e : lstT (k, 0, s_, zs) ts = ts := by unfold lstT; rw [if_neg (show k ≠ 6 by omega), if_neg (show k ≠ 9 by omega)]
  have hn : ts.length = zs.length := hn
  have hr := Qal h ha
  rw [e]
  have hd : dataS k (opsS (joinC ts)) = some (k, 0, s_, zs) := by
   rw [EQ ts hc]
   unfold dataS
   rw [if_pos ⟨by omega, by omega⟩, hr]; rfl
  unfold stmtS
  rcases hk with rfl | rfl | rfl
  ·have en : nameQ (3, 0, s_, zs) = QF := rfl
   rw [en, ba_bl, FI_dot (s := bl QF) (by decide), cond_false, show eqS QF s_b = false by decide +kernel, cond_false, show eqS QF s_bl = false by decide +kernel, cond_false, show eqS QF s_bc = false by decide +kernel, cond_false, U2.2 rfl, cond_true]
   exact hd
  ·have en : nameQ (4, 0, s_, zs) = QG := rfl
   rw [en, ba_bl, FI_dot (s := bl QG) (by decide), cond_false, show eqS QG s_b = false by decide +kernel, cond_false, show eqS QG s_bl = false by decide +kernel, cond_false, show eqS QG s_bc = false by decide +kernel, cond_false, show eqS QG QF = false by decide +kernel, cond_false, U2.2 rfl, cond_true]
   exact hd
  ·have en : nameQ (5, 0, s_, zs) = QH := rfl
   rw [en, ba_bl, FI_dot (s := bl QH) (by decide), cond_false, show eqS QH s_b = false by decide +kernel, cond_false, show eqS QH s_bl = false by decide +kernel, cond_false, show eqS QH s_bc = false by decide +kernel, cond_false, show eqS QH QF = false by decide +kernel, cond_false, show eqS QH QG = false by decide +kernel, cond_false, U2.2 rfl, cond_true]
   exact hd
 | ascii t ht =>
  cases h
  obtain ⟨t1, t2, _⟩ := isT_q ht
  have e : lstT (6, 0, t, []) [] = [34 :: (bl t ++ [34])] := by unfold lstT; rw [if_pos rfl]
  rw [e]
  have en : nameQ (6, 0, t, []) = Q0 := rfl
  unfold stmtS
  rw [en, ba_bl, FI_dot (s := bl Q0) (by decide), cond_false, show eqS Q0 s_b = false by decide +kernel, cond_false, show eqS Q0 s_bl = false by decide +kernel, cond_false, show eqS Q0 s_bc = false by decide +kernel, cond_false, show eqS Q0 QF = false by decide +kernel, cond_false, show eqS Q0 QG = false by decide +kernel, cond_false, show eqS Q0 QH = false by decide +kernel, cond_false, U2.2 rfl, cond_true]
  rw [show joinC [34 :: (bl t ++ [34])] = 34 :: (bl t ++ [34]) from rfl, Qrd t1 (by omega), Option.map_some, ba_bl]
 | one k a hk ha =>
  have e : lstT (k, 0, s_, [a]) ts = ts := by unfold lstT; rw [if_neg (show k ≠ 6 by omega), if_neg (show k ≠ 9 by omega)]
  have hn : ts.length = 1 := hn
  have hr := Qal h (fun b hb => by have hb : b ∈ [a] := hb; simp at hb; subst hb; exact ha)
  rw [e]
  have hd : (args1 1 (opsS (joinC ts))).map (fun zs => ((k, 0, s_, zs) : SQ)) = some (k, 0, s_, [a]) := by
   rw [EQ ts hc]
   unfold args1
   rw [if_pos hn, hr]; rfl
  unfold stmtS
  rcases hk with rfl | rfl
  ·have en : nameQ (7, 0, s_, [a]) = QA := rfl
   rw [en, ba_bl, FI_dot (s := bl QA) (by decide), cond_false, show eqS QA s_b = false by decide +kernel, cond_false, show eqS QA s_bl = false by decide +kernel, cond_false, show eqS QA s_bc = false by decide +kernel, cond_false, show eqS QA QF = false by decide +kernel, cond_false, show eqS QA QG = false by decide +kernel, cond_false, show eqS QA QH = false by decide +kernel, cond_false, show eqS QA Q0 = false by decide +kernel, cond_false, U2.2 rfl, cond_true]
   exact hd
  ·have en : nameQ (8, 0, s_, [a]) = QB := rfl
   rw [en, ba_bl, FI_dot (s := bl QB) (by decide), cond_false, show eqS QB s_b = false by decide +kernel, cond_false, show eqS QB s_bl = false by decide +kernel, cond_false, show eqS QB s_bc = false by decide +kernel, cond_false, show eqS QB QF = false by decide +kernel, cond_false, show eqS QB QG = false by decide +kernel, cond_false, show eqS QB QH = false by decide +kernel, cond_false, show eqS QB Q0 = false by decide +kernel, cond_false, show eqS QB QA = false by decide +kernel, cond_false, U2.2 rfl, cond_true]
   exact hd
 | equ w a hw ha =>
  have e : lstT (9, 0, w, [a]) ts = bl w :: ts := by unfold lstT; rw [if_neg (show (9 : Int) ≠ 6 by decide), if_pos rfl]
  have hwc := PG (Qd2 hw)
  rw [e]
  match ts, h with
  | [t], .cons _ _ _ _ ht .nil =>
   have en : nameQ (9, 0, w, [a]) = Jx := rfl
   unfold stmtS
   rw [en, ba_bl, FI_dot (s := bl Jx) (by decide), cond_false, show eqS Jx s_b = false by decide +kernel, cond_false, show eqS Jx s_bl = false by decide +kernel, cond_false, show eqS Jx s_bc = false by decide +kernel, cond_false, show eqS Jx QF = false by decide +kernel, cond_false, show eqS Jx QG = false by decide +kernel, cond_false, show eqS Jx QH = false by decide +kernel, cond_false, show eqS Jx Q0 = false by decide +kernel, cond_false, show eqS Jx QA = false by decide +kernel, cond_false, show eqS Jx QB = false by decide +kernel, cond_false, U2.2 rfl, cond_true]
   rw [EQ [bl w, t] (fun u hu => by
    simp only [List.mem_cons, List.not_mem_nil, or_false] at hu
    rcases hu with rfl | rfl
    ·exact hwc
    ·exact QnG ht), equS2, if_pos (Qd2 hw)]
   have hr := Qal (.cons a t [] [] ht .nil) (fun b hb => by simp at hb; subst hb; exact ha)
   simp only [argsS] at hr
   obtain ⟨b, h1, h2⟩ := Option.bind_eq_some_iff.1 hr
   have hb : b = a := (List.cons.inj (Option.some.inj h2)).1
   rw [h1, hb, ba_bl]; rfl
theorem Qks {q : SQ} (hq : FitQ q) : (bl (nameQ q)).all nb = true ∧ 58 ∉ bl (nameQ q) ∧ 34 ∉ bl (nameQ q) ∧ 35 ∉ bl (nameQ q) ∧ 10 ∉ bl (nameQ q) ∧ bl (nameQ q) ≠ [] := by
 have lit : ∀ s : ByteArray, ((bl s).all nb && (!(bl s).contains 58 && (!(bl s).contains 34 && (!(bl s).contains 35 && (!(bl s).contains 10 && decide (bl s ≠ [])))))) = true → (bl s).all nb = true ∧ 58 ∉ bl s ∧ 34 ∉ bl s ∧ 35 ∉ bl s ∧ 10 ∉ bl s ∧ bl s ≠ [] := by
  intro s h
  simp only [Bool.and_eq_true, Bool.not_eq_true', List.contains_eq_mem, decide_eq_false_iff_not, decide_eq_true_eq] at h
  exact h
 cases hq with
 | inst k zs hk _ _ =>
  obtain ⟨f1, f2⟩ := QjL hk zs
  have hsz := (Qkq s_ (.inst k zs hk (by assumption) (by assumption))).2.1
  have hne : bl (nameQ (1, (k : Int), s_, zs)) ≠ [] := fun e => by rw [GQ, e] at hsz; cases hsz
  have hc := Cle_I f2 hne
  exact ⟨List.all_eq_true.2 fun c hc => by have := (isI_cl (List.all_eq_true.1 f2 c hc)).2; simp [nb, this], hc.no (by decide), hc.no (by decide), hc.no (by decide), hc.no (by decide), hne⟩
 | grow o zs ho _ _ =>
  have : o = 0 ∨ o = 1 ∨ o = 2 := by omega
  rcases this with rfl | rfl | rfl
  ·exact lit s_b (by decide)
  ·exact lit s_bl (by decide)
  ·exact lit s_bc (by decide)
 | data k zs hk _ _ _ =>
  rcases hk with rfl | rfl | rfl
  ·exact lit QF (by decide)
  ·exact lit QG (by decide)
  ·exact lit QH (by decide)
 | ascii t ht => exact lit Q0 (by decide)
 | one k a hk _ =>
  rcases hk with rfl | rfl
  ·exact lit QA (by decide)
  ·exact lit QB (by decide)
 | equ w a hw h => exact lit Jx (by decide)
theorem Qrf (u : List UInt8) : (∃ c r, 34 :: (u ++ [34]) = c :: r ∧ isW c = false) ∧ ∃ r c, 34 :: (u ++ [34]) = r ++ [c] ∧ isW c = false :=
 ⟨⟨34, u ++ [34], rfl, by decide⟩, 34 :: u, 34, rfl, by decide⟩
theorem QnK {q : SQ} (hq : FitQ q) (ts : List (List UInt8)) (h : ArgsT q.2.2.2 ts) (hn : lstT q ts ≠ []) : (∃ c r, joinC (lstT q ts) = c :: r ∧ isW c = false) ∧ ∃ r c, joinC (lstT q ts) = r ++ [c] ∧ isW c = false := by
 have hc := Qgx h
 have plain : q.1 ≠ 6 → q.1 ≠ 9 → (∃ c r, joinC (lstT q ts) = c :: r ∧ isW c = false) ∧ ∃ r c, joinC (lstT q ts) = r ++ [c] ∧ isW c = false := by
  intro h6 h9
  have e : lstT q ts = ts := by unfold lstT; rw [if_neg h6, if_neg h9]
  rw [e] at hn ⊢
  cases ts with
  | nil => exact absurd rfl hn
  | cons t ts => exact Qls t ts hc
 cases hq with
 | inst k zs _ _ _ => exact plain (by show (1 : Int) ≠ 6; decide) (by show (1 : Int) ≠ 9; decide)
 | grow o zs _ _ _ => exact plain (by show (2 : Int) ≠ 6; decide) (by show (2 : Int) ≠ 9; decide)
 | data k zs hk _ _ _ => exact plain (by show k ≠ 6; omega) (by show k ≠ 9; omega)
 | one k a hk _ => exact plain (by show k ≠ 6; omega) (by show k ≠ 9; omega)
 | ascii t ht =>
  cases h
  have e : lstT (6, 0, t, []) [] = [34 :: (bl t ++ [34])] := by unfold lstT; rw [if_pos rfl]
  rw [e]; exact Qrf (bl t)
 | equ w a hw ha =>
  have e : lstT (9, 0, w, [a]) ts = bl w :: ts := by unfold lstT; rw [if_neg (show (9 : Int) ≠ 6 by decide), if_pos rfl]
  rw [e]
  exact Qls (bl w) ts (fun u hu => by
   rcases List.mem_cons.1 hu with rfl | hu
   ·exact PG (Qd2 hw)
   ·exact hc u hu)
def restT (q : SQ) (ts : List (List UInt8)) : List UInt8 := bl (nameQ q) ++ (if lstT q ts = [] then [] else 32 :: joinC (lstT q ts))
theorem Qlt {q : SQ} (hq : FitQ q) (ts : List (List UInt8)) (h : ArgsT q.2.2.2 ts) : (∃ c r, restT q ts = c :: r ∧ isW c = false) ∧ ∃ r c, restT q ts = r ++ [c] ∧ isW c = false := by
 obtain ⟨n1, _, _, _, _, n6⟩ := Qks hq
 unfold restT
 have nbW : ∀ c ∈ bl (nameQ q), isW c = false := fun c hc => by have := List.all_eq_true.1 n1 c hc; simpa [nb] using this
 constructor
 ·cases e : bl (nameQ q) with
  | nil => exact absurd e n6
  | cons c r => exact ⟨c, _, rfl, nbW c (by rw [e]; simp)⟩
 ·by_cases hl : lstT q ts = []
  ·rw [if_pos hl, List.append_nil]
   exact ⟨_, _, (List.dropLast_concat_getLast n6).symm, nbW _ (List.getLast_mem n6)⟩
  ·rw [if_neg hl]
   obtain ⟨_, r, c, e, hc⟩ := QnK hq ts h hl
   exact ⟨bl (nameQ q) ++ (32 :: r), c, by rw [e]; simp, hc⟩
theorem Qrg {q : SQ} (hq : FitQ q) (ts : List (List UInt8)) (h : ArgsT q.2.2.2 ts) (lb : ByteArray) : bodyS lb (restT q ts) = some (mkS lb q) := by
 obtain ⟨n1, _, _, _, _, n6⟩ := Qks hq
 have hr := Qre hq ts h
 have hne : restT q ts ≠ [] := by
  obtain ⟨⟨c, r, e, _⟩, _⟩ := Qlt hq ts h
  rw [e]; simp
 unfold bodyS
 rw [if_neg hne]
 have hp : ∀ c t, (if lstT q ts = [] then [] else 32 :: joinC (lstT q ts)) = c :: t → nb c = false := by
  intro c t e
  split at e
  ·cases e
  ·cases e; decide
 obtain ⟨e1, e2⟩ := GO (p := nb) n1 hp
 have e1 : (restT q ts).takeWhile nb = bl (nameQ q) := e1
 have e2 : (restT q ts).dropWhile nb = if lstT q ts = [] then [] else 32 :: joinC (lstT q ts) := e2
 have e3 : trimW ((restT q ts).dropWhile nb) = lstS q ts := by
  rw [e2]
  unfold lstS
  split
  ·rfl
  ·rename_i hl
   obtain ⟨a, b⟩ := QnK hq ts h hl
   rw [Qai (by decide), Qak a b]
 rw [e1, e3, hr]; rfl
end Go.Ab
set_option maxRecDepth 100000
namespace Go.Ab
theorem Qbs : ∀ (s r : List UInt8), 34 ∉ s → 35 ∉ s → bareQ false (s ++ r) = s ++ bareQ false r
 | [], r, _, _ => rfl
 | c :: t, r, h1, h2 => by
  have c34 : c ≠ 34 := fun e => h1 (by simp [e])
  have c35 : c ≠ 35 := fun e => h2 (by simp [e])
  rw [List.cons_append]
  conv => lhs; unfold bareQ
  rw [decide_eq_false c35, decide_eq_false c34]
  simp only [Bool.false_and, cond_false, List.cons_append]
  rw [Qbs t r (fun e => h1 (by simp [e])) (fun e => h2 (by simp [e]))]
theorem Qpa : ∀ (u r : List UInt8), 34 ∉ u → bareQ true (u ++ 34 :: r) = u ++ 34 :: bareQ false r
 | [], r, _ => by
  show bareQ true (34 :: r) = _
  conv => lhs; unfold bareQ
  rfl
 | c :: t, r, h => by
  have c34 : c ≠ 34 := fun e => h (by simp [e])
  rw [List.cons_append]
  conv => lhs; unfold bareQ
  rw [decide_eq_false c34]
  simp only [Bool.not_true, Bool.and_false, cond_false, List.cons_append]
  rw [Qpa t r (fun e => h (by simp [e]))]
theorem Qoz (u r : List UInt8) (h : 34 ∉ u) : bareQ false (34 :: (u ++ [34]) ++ r) = 34 :: (u ++ [34]) ++ bareQ false r := by
 have e : 34 :: (u ++ [34]) ++ r = 34 :: (u ++ 34 :: r) := by simp
 rw [e]
 conv => lhs; unfold bareQ
 show 34 :: bareQ true (u ++ 34 :: r) = _
 rw [Qpa u r h]; simp
theorem Qpb {c : UInt8} (h44 : c ≠ 44) (h32 : c ≠ 32) : ∀ ts : List (List UInt8), (∀ u ∈ ts, c ∉ u) → c ∉ tailC ts
 | [], _ => by simp [tailC]
 | t :: ts, h => by
  have h1 := h t (by simp)
  have h2 := Qpb h44 h32 ts (fun u hu => h u (by simp [hu]))
  simp only [tailC, List.mem_cons, List.mem_append, not_or]
  exact ⟨h44, h32, h1, h2⟩
theorem Qth {c : UInt8} (h44 : c ≠ 44) (h32 : c ≠ 32) (ts : List (List UInt8)) (h : ∀ u ∈ ts, c ∉ u) : c ∉ joinC ts := by
 cases ts with
 | nil => simp [joinC]
 | cons t ts =>
  rw [G4]
  simp only [List.mem_append, not_or]
  exact ⟨h t (by simp), Qpb h44 h32 ts (fun u hu => h u (by simp [hu]))⟩
theorem Qti {q : SQ} (hq : FitQ q) (ts : List (List UInt8)) (h : ArgsT q.2.2.2 ts) : 58 ∉ restT q ts ∧ 10 ∉ restT q ts ∧ ∀ r, bareQ false (restT q ts ++ r) = restT q ts ++ bareQ false r := by
 obtain ⟨_, n58, n34, n35, n10, _⟩ := Qks hq
 have hc := Qgx h
 have plain : ∀ l : List (List UInt8), (∀ u ∈ l, Cle u) → lstT q ts = l → 58 ∉ restT q ts ∧ 10 ∉ restT q ts ∧ ∀ r, bareQ false (restT q ts ++ r) = restT q ts ++ bareQ false r := by
  intro l hl e
  have no : ∀ c, cl c = false → c ≠ 44 → c ≠ 32 → c ∉ bl (nameQ q) → c ∉ restT q ts := by
   intro c h1 h2 h3 h4
   unfold restT
   rw [e]
   split
   ·simpa using h4
   ·simp only [List.mem_append, List.mem_cons, not_or]
    exact ⟨h4, h3, Qth h2 h3 l (fun u hu => (hl u hu).no h1)⟩
  have r34 := no 34 (by decide) (by decide) (by decide) n34
  have r35 := no 35 (by decide) (by decide) (by decide) n35
  exact ⟨no 58 (by decide) (by decide) (by decide) n58, no 10 (by decide) (by decide) (by decide) n10, fun r => Qbs _ r r34 r35⟩
 have dflt : q.1 ≠ 6 → q.1 ≠ 9 → 58 ∉ restT q ts ∧ 10 ∉ restT q ts ∧ ∀ r, bareQ false (restT q ts ++ r) = restT q ts ++ bareQ false r := by
  intro h6 h9
  exact plain ts hc (by unfold lstT; rw [if_neg h6, if_neg h9])
 cases hq with
 | inst k zs _ _ _ => exact dflt (by show (1 : Int) ≠ 6; decide) (by show (1 : Int) ≠ 9; decide)
 | grow o zs _ _ _ => exact dflt (by show (2 : Int) ≠ 6; decide) (by show (2 : Int) ≠ 9; decide)
 | data k zs hk _ _ _ => exact dflt (by show k ≠ 6; omega) (by show k ≠ 9; omega)
 | one k a hk _ => exact dflt (by show k ≠ 6; omega) (by show k ≠ 9; omega)
 | equ w a hw ha =>
  refine plain (bl w :: ts) (fun u hu => ?_) (by unfold lstT; rw [if_neg (show (9 : Int) ≠ 6 by decide), if_pos rfl])
  rcases List.mem_cons.1 hu with rfl | hu
  ·exact PG (Qd2 hw)
  ·exact hc u hu
 | ascii t ht =>
  cases h
  obtain ⟨t1, t2, t3, t4⟩ := isT_q ht
  have t34 : 34 ∉ bl t := fun e => by have := List.all_eq_true.1 t1 34 e; cases this
  have e : restT (6, 0, t, []) [] = bl (nameQ (6, 0, t, [])) ++ (32 :: (34 :: (bl t ++ [34]))) := by
   unfold restT lstT
   rw [if_pos rfl, if_neg (by simp)]; rfl
  rw [e]
  refine ⟨?_, ?_, fun r => ?_⟩
  ·simp only [List.mem_append, List.mem_cons, List.not_mem_nil, or_false, not_or]
   exact ⟨n58, by decide, by decide, t3, by decide⟩
  ·simp only [List.mem_append, List.mem_cons, List.not_mem_nil, or_false, not_or]
   exact ⟨n10, by decide, by decide, t4, by decide⟩
  ·have e2 : bl (nameQ (6, 0, t, [])) ++ (32 :: (34 :: (bl t ++ [34]))) ++ r = (bl (nameQ (6, 0, t, [])) ++ [32]) ++ (34 :: (bl t ++ [34]) ++ r) := by simp
   rw [e2, Qbs _ _ (by simp [n34]) (by simp [n35]), Qoz _ _ t34]; simp
theorem Qp9 (lb : ByteArray) (q : SQ) (ts : List (List UInt8)) : lineT lb q ts = labT lb ++ restT q ts := rfl
end Go.Ab
set_option maxRecDepth 100000
namespace Go.Ab
theorem QiC : ∀ (a s : List UInt8), a.all isW = true → trimW (a ++ s) = trimW s
 | [], s, _ => rfl
 | c :: a, s, ha => by simp only [List.all_cons, Bool.and_eq_true] at ha; rw [List.cons_append, Qai ha.1, QiC a s ha.2]
theorem gap_no {a : List UInt8} (h : a.all isW = true) : 34 ∉ a ∧ 35 ∉ a := ⟨(fun e => by have := List.all_eq_true.1 h 34 e; cases this), (fun e => by have := List.all_eq_true.1 h 35 e; cases this)⟩
theorem Qsv (w : List UInt8) (hw : wordB w = true) {q : SQ} (hq : FitQ q) (ts : List (List UInt8)) (h : ArgsT q.2.2.2 ts) (g g' : List UInt8) (hg : g.all isW = true) (h10 : 10 ∉ g) (hg' : g'.all isW = true) (h10' : 10 ∉ g') :
  lineS (g ++ (w ++ (58 :: (g' ++ restT q ts)))) = some (mkS (ba w) q) := by
 obtain ⟨r58, r10, rb⟩ := Qti hq ts h
 obtain ⟨ra, re⟩ := Qlt hq ts h
 obtain ⟨c0, t0, ew, _, _, hI⟩ := G3 hw
 have hcle := PG hw
 have p1 := gap_no hg
 have p2 := gap_no hg'
 have rb0 : bareQ false (restT q ts) = restT q ts := by have := rb []; rw [List.append_nil] at this; rw [this]; simp [bareQ]
 have hb : trimW (bareQ false (g ++ (w ++ (58 :: (g' ++ restT q ts))))) = w ++ (58 :: (g' ++ restT q ts)) := by
  have e2 : w ++ (58 :: (g' ++ restT q ts)) = (w ++ (58 :: g')) ++ restT q ts := by simp
  rw [Qbs _ _ p1.1 p1.2, QiC _ _ hg, e2, Qbs _ _ (by simp only [List.mem_append, List.mem_cons, not_or]; exact ⟨hcle.no (by decide), by decide, p2.1⟩) (by simp only [List.mem_append, List.mem_cons, not_or]; exact ⟨hcle.no (by decide), by decide, p2.2⟩), rb0]
  refine Qak ?_ ?_
  ·obtain ⟨_, ⟨c, r, e, hc⟩, _⟩ := hcle
   exact ⟨c, _, by rw [e]; rfl, hc⟩
  ·obtain ⟨r, c, e, hc⟩ := re
   exact ⟨(w ++ (58 :: g')) ++ r, c, by rw [e]; simp, hc⟩
 unfold lineS
 rw [if_neg (by
  simp only [List.mem_append, List.mem_cons, not_or]
  exact ⟨h10, hcle.no (by decide), by decide, h10', r10⟩), hb]
 obtain ⟨w1, w2⟩ := GO (p := isI) (r := 58 :: (g' ++ restT q ts)) hI (fun c t e => by cases e; decide)
 rw [w1, w2]
 simp only
 rw [if_pos trivial, if_pos hw, QiC _ _ hg', Qak ra re]
 exact Qrg hq ts h (ba w)
theorem Qrh : wordB [104, 101, 114, 101] = true := by decide
theorem gap_at {i : Nat} (h : i < 4) : ∃ gap : List UInt8, [s_, h_20, Gp, YL][Int.toNat (i : Int)]? = some (ba gap) ∧ gap.all isW = true ∧ gap.length ≤ 3 ∧ 10 ∉ gap := by
 have : i = 0 ∨ i = 1 ∨ i = 2 ∨ i = 3 := by omega
 rcases this with rfl | rfl | rfl | rfl
 ·exact ⟨[], rfl, rfl, by decide, by decide⟩
 ·exact ⟨[32], rfl, rfl, by decide, by decide⟩
 ·exact ⟨[9, 32], rfl, rfl, by decide, by decide⟩
 ·exact ⟨[32, 32, 32], rfl, rfl, by decide, by decide⟩
theorem Qgz (l : List QJ) (raw : ByteArray) (b_ : Int) (w : l.length ≤ maxLen ∧ ∀ y ∈ l, ET y) (w1 : raw.size ≤ maxLen) (w2 : IntKind.i64.min ≤ b_ ∧ b_ ≤ IntKind.i64.max) : WM l raw b_ = some true := by
 rw [WM.eq]; unfold F5
 rw [Qox, Option.bind_some, show (!true) = false from rfl, cond_false]
 obtain ⟨b, hb, hok⟩ := few_to l w.1 w.2
 rw [hb, Option.bind_some]
 cases b with
 | false => rfl
 | true =>
 rw [show (!true) = false from rfl, cond_false]
 cases l with
 | nil => rfl
 | cons r l =>
 rw [show ((((r :: l).length : Nat) : Int) == 0) = false from beq_eq_false_iff_ne.2 (by simp only [List.length_cons]; omega), cond_false]
 rcases Nat.lt_or_ge 30 raw.size with hs | hs
 ·rw [decide_eq_true (show ((raw.size : Nat) : Int) > 30 by omega)]; rfl
 rw [decide_eq_false (show ¬ ((raw.size : Nat) : Int) > 30 by omega), cond_false, show (r :: l)[Int.toNat 0]? = some r from rfl, Option.bind_some]
 obtain ⟨lb, q, ts, h1, hlb, hq, hts, h2, h3⟩ := Qrb r (hok rfl r (by simp))
 have hlen := Qlr s_ (.inl rfl) hq ts hts
 have ht := QjK s_ (.inl rfl) hq ts hts
 have e0 : lineT s_ q ts = restT q ts := by rw [Qp9]; unfold labT; rw [if_pos rfl]; rfl
 rw [e0] at hlen ht
 have ht : Y6 (Qb.mk (mkS lb q).Line s_ (mkS lb q).Kind (mkS lb q).Op (mkS lb q).Text (mkS lb q).Args) = some (ba (restT q ts)) := ht
 rw [h1, Option.bind_some, show ((mkS lb q).Kind == 0) = false from beq_eq_false_iff_ne.2 hq.kind, cond_false, ht, Option.bind_some, Qcq b_ 4 (by decide) (by decide), Option.bind_some]
 have m1 := Int.emod_nonneg b_ (by decide : (4 : Int) ≠ 0)
 have m2 := Int.emod_lt_of_pos b_ (by decide : (0 : Int) < 4)
 obtain ⟨i, hi⟩ := Int.eq_ofNat_of_zero_le m1
 rw [hi] at m2 ⊢
 obtain ⟨gap, g1, g2, g3, g4⟩ := gap_at (i := i) (by omega)
 have eraw : raw = ba (bl raw) := (ba_bl raw).symm
 have hrl : (bl raw).length ≤ 30 := by rw [← GQ]; exact hs
 rw [eraw]
 generalize bl raw = text at hrl
 rw [decide_eq_true (show 0 ≤ (i : Int) ∧ (i : Int) < (([s_, h_20, Gp, YL].length : Nat) : Int) from ⟨by omega, by show (i : Int) < 4; omega⟩), cond_true, g1, Option.bind_some]
 rw [show Xr = ba [104, 101, 114, 101, 58] from rfl, show h_3a = ba [58] from rfl]
 rw [guardS gap _ (by simp only [List.length_cons, List.length_nil]; omega), cond_true, Uv, guardS _ gap (by simp; omega), cond_true, Uv, guardS _ (restT q ts) (by simp; omega), cond_true, Uv]
 have e1 : gap ++ [104, 101, 114, 101, 58] ++ gap ++ restT q ts = gap ++ ([104, 101, 114, 101] ++ (58 :: (gap ++ restT q ts))) := by simp
 have hl1 : lineS (gap ++ [104, 101, 114, 101, 58] ++ gap ++ restT q ts) = some (mkS (ba [104, 101, 114, 101]) q) := by
  rw [e1]; exact Qsv _ Qrh hq ts hts gap gap g2 g4 g2 g4
 have hlen1 : (gap ++ [104, 101, 114, 101, 58] ++ gap ++ restT q ts).length ≤ 10000000 := by simp; omega
 rw [QhT _ hlen1, hl1, Option.bind_some]
 rw [guardS text [58] (by simp; omega), cond_true, Uv, guardS _ gap (by simp; omega), cond_true, Uv, guardS _ (restT q ts) (by simp; omega), cond_true, Uv]
 obtain ⟨p, z1, z2, z3, _⟩ := Qsn (ba (text ++ [58] ++ gap ++ restT q ts)) (by rw [Qt]; simp; omega)
 rw [z1, Option.bind_some, z2, Option.bind_some]
 obtain ⟨o1, o2⟩ := Qo3 hlen1 hl1
 have hsame : Yb (mkS (ba [104, 101, 114, 101]) q) (Qb.mk (mkS lb q).Line Qi0 (mkS lb q).Kind (mkS lb q).Op (mkS lb q).Text (mkS lb q).Args) = some true := Qd0 _ o1 o2
 have z4 : (p.2 == p.2) = true := by cases p.2 <;> rfl
 show (bif true then (Yb (mkS (ba [104, 101, 114, 101]) q) (Qb.mk (mkS lb q).Line Qi0 (mkS lb q).Kind (mkS lb q).Op (mkS lb q).Text (mkS lb q).Args)).bind _ else _) = _
 rw [cond_true, hsame, Option.bind_some, cond_true, z4, cond_true, z3]
 rfl
end Go.Ab
namespace Go.Proofs.YtblfhkldljfhiaaGreatDoor
open Go Go.Ab Go.ChangeShapes Go.WideShapes Go.ChangeAt Go.RowKit
open Go.ChangeMaps (open_string shut_string)
theorem repL_one {c : Ctx} {w : World} {a : AV} {v : Value} (h : RepL c w [a] [v]) : Rep c w a v := by cases h; assumption
theorem laidOut : laidOutB Tryz.prog = true := by kernel_rfl
theorem own : ownKnob Tryz.prog.godebug = none := by kernel_rfl
theorem door_met (os : Os) (args : Array Value) : laidMetH Tryz.prog [("math/bits.deBruijn32tab", Rows.laid_math_bits_deBruijn32tab), ("math/bits.deBruijn64tab", Rows.laid_math_bits_deBruijn64tab), ("internal/strconv.uint64pow10", Rows.laid_internal_strconv_uint64pow10), ("unicode/utf8.acceptRanges", Rows.laid_unicode_utf8_acceptRanges), ("strconv.ErrRange", Rows.laid_strconv_ErrRange), ("strconv.ErrSyntax", Rows.laid_strconv_ErrSyntax), ("unicode.White_Space", Rows.laid_unicode_White_Space), ("strings.asciiSpace", Rows.laid_strings_asciiSpace), ("unicode/utf8.first", Rows.laid_unicode_utf8_first)] ((World.laidAll Tryz.prog os [("math/bits.deBruijn32tab", Rows.laid_math_bits_deBruijn32tab), ("math/bits.deBruijn64tab", Rows.laid_math_bits_deBruijn64tab), ("internal/strconv.uint64pow10", Rows.laid_internal_strconv_uint64pow10), ("unicode/utf8.acceptRanges", Rows.laid_unicode_utf8_acceptRanges), ("strconv.ErrRange", Rows.laid_strconv_ErrRange), ("strconv.ErrSyntax", Rows.laid_strconv_ErrSyntax), ("unicode.White_Space", Rows.laid_unicode_White_Space), ("strings.asciiSpace", Rows.laid_strings_asciiSpace), ("unicode/utf8.first", Rows.laid_unicode_utf8_first)]).forCall (fun _ _ => 0) ⟨#[], args, []⟩).memory := by
 rw [MakeChecks.laidMetH_plain _ _ _ (by kernel_rfl)]; exact laidMet_laidAll _ (by kernel_rfl) (by kernel_rfl)
section
variable {H : Type} {enc : TypeId × Value → H} {W : World}
theorem rd_w3_Raw (fuel : Nat) : Rd enc Tryz.prog W fuel 154 XN Ys := by
 induction fuel using Nat.strongRecOn with
 | _ fuel ih =>
  intro cs x h
  obtain ⟨xs, n, hn, _, hl, hlen, hel⟩ := DataW.trod_struct Tryz.underlying154 h
  have hlen' : xs.length = 3 := hlen
  have hl' : cs.length = 3 := hl.trans (by kernel_rfl)
  have e0 := hel 0 _ rfl
  rw [List.getElem?_eq_getElem (by omega)] at e0
  obtain ⟨a0, w0, r0, f0⟩ := (rd_int Tryz.underlying3 n) _ _ e0
  have z0 : Tryz.prog.cellsOf 3 = 1 := by kernel_rfl
  replace r0 := Y7 z0 r0
  have e1 := hel 1 _ rfl
  rw [List.getElem?_eq_getElem (by omega)] at e1
  obtain ⟨a1, w1, r1, f1⟩ := (rd_int Tryz.underlying3 n) _ _ e1
  have z1 : Tryz.prog.cellsOf 3 = 1 := by kernel_rfl
  replace r1 := Y7 z1 r1
  have e2 := hel 2 _ rfl
  rw [List.getElem?_eq_getElem (by omega)] at e2
  obtain ⟨a2, w2, r2, f2⟩ := (show Rd enc Tryz.prog W n 44 (fun l : List QC => [.sl (l.map XN)]) (fun l => l.length ≤ maxLen ∧ ∀ y ∈ l, Ys y) from by
   cases n with
   | zero => exact QgE _ _
   | succ m => exact Qdp (s := 3) Tryz.underlying44 (by kernel_rfl) (by decide) (fun _ => rfl) (ih m (by omega))) _ _ e2
  have z2 : Tryz.prog.cellsOf 44 = 1 := by kernel_rfl
  replace r2 := Y7 z2 r2
  refine ⟨QC.mk a0 a1 a2, .mk _ w0 w1 w2.1 w2.2, ?_, ?_⟩
  ·have hc : cs = ((cs.drop 0).take 1) ++ (((cs.drop 1).take 1) ++ (((cs.drop 2).take 1))) := by
    have hd : cs.drop 3 = [] := List.drop_eq_nil_of_le (by omega)
    have d2 := ZU cs 2 1
    have d1 := ZU cs 1 1
    have d0 := ZU cs 0 1
    simp only [Nat.zero_add, Nat.reduceAdd, List.drop_zero, hd, List.append_nil] at d0 d1 d2
    first | (rw [List.drop_zero]; rw [← d2, ← d1, ← d0]) | (rw [← d2, ← d1, ← d0])
   rw [hc]
   have := Yr r0 (Yr r1 (r2))
   first | exact this | (simp only [Fa] at this; exact this)
  ·rfl
theorem rd_w4_Raw (fuel : Nat) : Rd enc Tryz.prog W fuel 46 Wd ET := by
 induction fuel using Nat.strongRecOn with
 | _ fuel ih =>
  intro cs x h
  obtain ⟨xs, n, hn, _, hl, hlen, hel⟩ := DataW.trod_struct Tryz.underlying46 h
  have hlen' : xs.length = 6 := hlen
  have hl' : cs.length = 6 := hl.trans (by kernel_rfl)
  have e0 := hel 0 _ rfl
  rw [List.getElem?_eq_getElem (by omega)] at e0
  obtain ⟨a0, w0, r0, f0⟩ := (rd_int Tryz.underlying3 n) _ _ e0
  have z0 : Tryz.prog.cellsOf 3 = 1 := by kernel_rfl
  replace r0 := Y7 z0 r0
  have e1 := hel 1 _ rfl
  rw [List.getElem?_eq_getElem (by omega)] at e1
  obtain ⟨a1, w1, r1, f1⟩ := (rd_int Tryz.underlying3 n) _ _ e1
  have z1 : Tryz.prog.cellsOf 3 = 1 := by kernel_rfl
  replace r1 := Y7 z1 r1
  have e2 := hel 2 _ rfl
  rw [List.getElem?_eq_getElem (by omega)] at e2
  obtain ⟨a2, w2, r2, f2⟩ := (rd_int Tryz.underlying3 n) _ _ e2
  have z2 : Tryz.prog.cellsOf 3 = 1 := by kernel_rfl
  replace r2 := Y7 z2 r2
  have e3 := hel 3 _ rfl
  rw [List.getElem?_eq_getElem (by omega)] at e3
  obtain ⟨a3, w3, r3, f3⟩ := (show Rd enc Tryz.prog W n 22 (fun l : List Int => [.sl (l.map Xq)]) (fun l => l.length ≤ maxLen ∧ ∀ y ∈ l, IntKind.i64.min ≤ y ∧ y ≤ IntKind.i64.max) from by
   cases n with
   | zero => exact QgE _ _
   | succ m => exact Qdp (s := 1) Tryz.underlying22 (by kernel_rfl) (by decide) (fun _ => rfl) (rd_int Tryz.underlying3 m)) _ _ e3
  have z3 : Tryz.prog.cellsOf 22 = 1 := by kernel_rfl
  replace r3 := Y7 z3 r3
  have e4 := hel 4 _ rfl
  rw [List.getElem?_eq_getElem (by omega)] at e4
  obtain ⟨a4, w4, r4, f4⟩ := (show Rd enc Tryz.prog W n 44 (fun l : List QC => [.sl (l.map XN)]) (fun l => l.length ≤ maxLen ∧ ∀ y ∈ l, Ys y) from by
   cases n with
   | zero => exact QgE _ _
   | succ m => exact Qdp (s := 3) Tryz.underlying44 (by kernel_rfl) (by decide) (fun _ => rfl) (rd_w3_Raw m)) _ _ e4
  have z4 : Tryz.prog.cellsOf 44 = 1 := by kernel_rfl
  replace r4 := Y7 z4 r4
  have e5 := hel 5 _ rfl
  rw [List.getElem?_eq_getElem (by omega)] at e5
  obtain ⟨a5, w5, r5, f5⟩ := (QsN Tryz.underlying4 n) _ _ e5
  have z5 : Tryz.prog.cellsOf 4 = 1 := by kernel_rfl
  replace r5 := Y7 z5 r5
  refine ⟨QJ.mk a0 a1 a2 a3 a4 a5, .mk _ w0 w1 w2 w3.1 w3.2 w4.1 w4.2 w5, ?_, ?_⟩
  ·have hc : cs = ((cs.drop 0).take 1) ++ (((cs.drop 1).take 1) ++ (((cs.drop 2).take 1) ++ (((cs.drop 3).take 1) ++ (((cs.drop 4).take 1) ++ (((cs.drop 5).take 1)))))) := by
    have hd : cs.drop 6 = [] := List.drop_eq_nil_of_le (by omega)
    have d5 := ZU cs 5 1
    have d4 := ZU cs 4 1
    have d3 := ZU cs 3 1
    have d2 := ZU cs 2 1
    have d1 := ZU cs 1 1
    have d0 := ZU cs 0 1
    simp only [Nat.zero_add, Nat.reduceAdd, List.drop_zero, hd, List.append_nil] at d0 d1 d2 d3 d4 d5
    first | (rw [List.drop_zero]; rw [← d5, ← d4, ← d3, ← d2, ← d1, ← d0]) | (rw [← d5, ← d4, ← d3, ← d2, ← d1, ← d0])
   rw [hc]
   have := Yr r0 (Yr r1 (Yr r2 (Yr r3 (Yr r4 (r5)))))
   first | exact this | (simp only [Us, Fa] at this; exact this)
  ·rfl
end
namespace lineLabels
set_option maxRecDepth 100000 in
theorem lifted (os : Os) (started : os.Started) (H : Type) (enc : TypeId × Value → H) :
  ReturnsInHanded {} Tryz.checked os 11 .any (fun w args => (Rows.lineLabelsSpec.pre enc Tryz.prog Tryz.f11 [] false w args ∧ laidMetH Tryz.prog [("math/bits.deBruijn32tab", Rows.laid_math_bits_deBruijn32tab), ("math/bits.deBruijn64tab", Rows.laid_math_bits_deBruijn64tab), ("internal/strconv.uint64pow10", Rows.laid_internal_strconv_uint64pow10), ("unicode/utf8.acceptRanges", Rows.laid_unicode_utf8_acceptRanges), ("strconv.ErrRange", Rows.laid_strconv_ErrRange), ("strconv.ErrSyntax", Rows.laid_strconv_ErrSyntax), ("unicode.White_Space", Rows.laid_unicode_White_Space), ("strings.asciiSpace", Rows.laid_strings_asciiSpace), ("unicode/utf8.first", Rows.laid_unicode_utf8_first)] w) ∧ sizedMet enc Tryz.prog Tryz.f11 (OpenSpec.ofChange Rows.lineLabelsSpec) false w args) (Rows.lineLabelsSpec.post enc Tryz.prog Tryz.f11 false true false false) := by
 refine QjW (C := Tryz.checked) (X := fun w _ => laidMetH Tryz.prog [("math/bits.deBruijn32tab", Rows.laid_math_bits_deBruijn32tab), ("math/bits.deBruijn64tab", Rows.laid_math_bits_deBruijn64tab), ("internal/strconv.uint64pow10", Rows.laid_internal_strconv_uint64pow10), ("unicode/utf8.acceptRanges", Rows.laid_unicode_utf8_acceptRanges), ("strconv.ErrRange", Rows.laid_strconv_ErrRange), ("strconv.ErrSyntax", Rows.laid_strconv_ErrSyntax), ("unicode.White_Space", Rows.laid_unicode_White_Space), ("strings.asciiSpace", Rows.laid_strings_asciiSpace), ("unicode/utf8.first", Rows.laid_unicode_utf8_first)] w) (fun _ _ _ hh h => h.of_heap hh) own started (by kernel_rfl) Tryz.func11
  (ChangeSpec.witness_shaped (enc := enc) (C := Tryz.checked) (os := os) (X := fun w _ => laidMetH Tryz.prog [("math/bits.deBruijn32tab", Rows.laid_math_bits_deBruijn32tab), ("math/bits.deBruijn64tab", Rows.laid_math_bits_deBruijn64tab), ("internal/strconv.uint64pow10", Rows.laid_internal_strconv_uint64pow10), ("unicode/utf8.acceptRanges", Rows.laid_unicode_utf8_acceptRanges), ("strconv.ErrRange", Rows.laid_strconv_ErrRange), ("strconv.ErrSyntax", Rows.laid_strconv_ErrSyntax), ("unicode.White_Space", Rows.laid_unicode_White_Space), ("strings.asciiSpace", Rows.laid_strings_asciiSpace), ("unicode/utf8.first", Rows.laid_unicode_utf8_first)] w) false (World.laidAll Tryz.prog os [("math/bits.deBruijn32tab", Rows.laid_math_bits_deBruijn32tab), ("math/bits.deBruijn64tab", Rows.laid_math_bits_deBruijn64tab), ("internal/strconv.uint64pow10", Rows.laid_internal_strconv_uint64pow10), ("unicode/utf8.acceptRanges", Rows.laid_unicode_utf8_acceptRanges), ("strconv.ErrRange", Rows.laid_strconv_ErrRange), ("strconv.ErrSyntax", Rows.laid_strconv_ErrSyntax), ("unicode.White_Space", Rows.laid_unicode_White_Space), ("strings.asciiSpace", Rows.laid_strings_asciiSpace), ("unicode/utf8.first", Rows.laid_unicode_utf8_first)]) #[.slice none 0 0, .string ByteArray.empty, .int .i64 0] 8 (World.laidAll_os _ _ _) (World.shaped_of_ZipB (by kernel_rfl) (by kernel_rfl)) (by kernel_rfl) (by kernel_rfl) (by kernel_rfl) (door_met os _)) ?_
 intro W base args ds gs before hval0 hW hcnd hsz0 hL _
 have hT := QsS hL
 have hW' := hW
 obtain ⟨p, q, hA0, hV, rfl, hfz, hnd⟩ := hW
 have hA : DataW.TrodAll enc Tryz.prog W 0 (fun _ => true) true Tryz.f11.params.toList args.toList ds p := hA0
 rw [Tryz.params11] at hA
 obtain ⟨v0, vs0, d0, ds0, p0, q0, hargs, rfl, rfl, h0, r0⟩ := trodAll_cons hA
 obtain ⟨v1, vs1, d1, ds1, p1, q1, rfl, rfl, rfl, h1, r1⟩ := trodAll_cons r0
 obtain ⟨v2, vs2, d2, ds2, p2, q2, rfl, rfl, rfl, h2, r2⟩ := trodAll_cons r1
 obtain ⟨rfl, rfl, rfl⟩ := trodAll_nil r2
 obtain rfl : args = #[v0, v1, v2] := by cases args; simp_all
 obtain ⟨rfl, rfl⟩ := trodVars_none hV
 obtain ⟨u0, len0, cap0, rfl⟩ := okWide_slice Tryz.underlying42 (hval0 0 42 v0 rfl rfl)
 obtain ⟨a0, w0, y0⟩ := QjT (enc := enc) (P := Tryz.prog) (W := W) (fun fuel => (show Rd enc Tryz.prog W fuel 42 (fun l : List QJ => [.sl (l.map Wd)]) (fun l => l.length ≤ maxLen ∧ ∀ y ∈ l, ET y) from by
   cases fuel with
   | zero => exact QgE _ _
   | succ m => exact Qdp (s := 6) Tryz.underlying42 (by kernel_rfl) (by decide) (fun _ => rfl) (rd_w4_Raw m))) h0
 replace y0 := repL_one (show RepL (oldCtx W) W [_] [_] from y0)
 obtain ⟨u1, rfl⟩ := okWide_string Tryz.underlying9 (hval0 1 9 v1 rfl rfl)
 obtain ⟨a1, w1, y1⟩ := QjT (enc := enc) (P := Tryz.prog) (W := W) (fun fuel => (Qqn Tryz.underlying9 fuel)) h1
 replace y1 := repL_one (show RepL (oldCtx W) W [_] [_] from y1)
 obtain ⟨u2, rfl⟩ := okWide_int Tryz.underlying3 (hval0 2 3 v2 rfl rfl)
 obtain ⟨a2, w2, y2⟩ := QjT (enc := enc) (P := Tryz.prog) (W := W) (fun fuel => (rd_int Tryz.underlying3 fuel)) h2
 replace y2 := repL_one (show RepL (oldCtx W) W [_] [_] from y2)
 obtain ⟨k, hk⟩ := WM.run a0 a1 a2 (Qgz a0 a1 a2 w0 w1 w2)
 rw [Qav] at y0
 have lt0 : ∀ x ∈ p0, x.block < W.heap.size := by obtain ⟨m, hm⟩ := h0; exact DataW.trod_lt m _ _ _ hm
 have lt1 : ∀ x ∈ p1, x.block < W.heap.size := by obtain ⟨m, hm⟩ := h1; exact DataW.trod_lt m _ _ _ hm
 have lt2 : ∀ x ∈ p2, x.block < W.heap.size := by obtain ⟨m, hm⟩ := h2; exact DataW.trod_lt m _ _ _ hm
 refine (Qlw (T := told) (by kernel_rfl) ext_ok hk hT (.cons _ _ _ _ y0 (.cons _ _ _ _ y1 (.cons _ _ _ _ y2 .nil)))).mono fun e W' ⟨he, bel⟩ => ?_
 subst he
 exact ⟨_, rfl, _, _, _, [], _, [], hW', trodAll_mk1 (shut_bool Tryz.underlying4 _), (trodAll_cons_mk (Below.trod laidOut (by kernel_rfl) (of_decide_eq_true (by kernel_rfl)) h0 bel lt0) (trodAll_cons_mk (Below.trod laidOut (by kernel_rfl) (of_decide_eq_true (by kernel_rfl)) h1 bel lt1) (trodAll_cons_mk (Below.trod laidOut (by kernel_rfl) (of_decide_eq_true (by kernel_rfl)) h2 bel lt2) trodAll_mk0))), rfl, bel.frame _, fun h => by cases h⟩
theorem jf0 : (Rows.lineLabelsRow.wf (OpenSpec.ofChange Rows.lineLabelsSpec)) = true := by kernel_rfl
theorem jf1 : (laidOutB Tryz.prog) = true := by kernel_rfl
theorem jf2 : (mapsRowed Tryz.prog) = true := by kernel_rfl
theorem jf3 : (Tryz.f11.params.all (Tryz.prog.readableRec ·)) = true := by kernel_rfl
theorem jf4 : (namedTie Tryz.prog Rows.lineLabelsRow.named Rows.lineLabelsSpec.vars) = true := by kernel_rfl
theorem jf5 : ((Rows.lineLabelsRow.stops == [])) = true := by kernel_rfl
theorem jf6 : ((Tryz.prog.stops == [])) = true := by kernel_rfl
theorem jf7 : ((Rows.lineLabelsRow.knobs == [])) = true := by kernel_rfl
theorem jf8 : ((Tryz.prog.stopKnobs == [])) = true := by kernel_rfl
theorem jf9 : ((Rows.lineLabelsRow.inPlace == Tryz.prog.inPlace 11)) = true := by kernel_rfl
theorem jf10 : ((Rows.lineLabelsRow.unfollowed == Tryz.prog.unfollowed 11)) = true := by kernel_rfl
theorem jf11 : ((Rows.lineLabelsRow.recurses == Tryz.prog.recurses 11)) = true := by kernel_rfl
theorem jf12 : ((Rows.lineLabelsRow.named == Tryz.prog.varsNamed 11)) = true := by kernel_rfl
theorem jf13 : ((Rows.lineLabelsRow.maps == (Tryz.f11.params.toList ++ Rows.lineLabelsSpec.plain.varTypes Tryz.prog).any (Tryz.prog.mapsRec ·))) = true := by kernel_rfl
theorem jf14 : ((Rows.lineLabelsRow.ifaces == (Tryz.f11.params.toList ++ Rows.lineLabelsSpec.plain.varTypes Tryz.prog).any (Tryz.prog.ifacesRec ·))) = true := by kernel_rfl
theorem jf15 : ((Rows.lineLabelsRow.mapsOut == Tryz.prog.mapsAmong Tryz.f11.resultTypes.toList)) = true := by kernel_rfl
theorem jf16 : ((Rows.lineLabelsRow.loops == (Tryz.f11.params.toList ++ Rows.lineLabelsSpec.plain.varTypes Tryz.prog).any (Tryz.prog.loopsFrom ·))) = true := by kernel_rfl
theorem jf17 : ((Rows.lineLabelsRow.wideKeys == (Tryz.f11.params.toList ++ Rows.lineLabelsSpec.plain.varTypes Tryz.prog ++ Tryz.f11.resultTypes.toList).any (Tryz.prog.wideKeysFrom ·))) = true := by kernel_rfl
theorem jf18 : (Rows.lineLabelsSpec.vars.all (Tryz.prog.varReadable ·)) = true := by kernel_rfl
theorem jf19 : (Tryz.f11.resultTypes.all (fun t => Tryz.prog.readableRec t && decide (t < Tryz.prog.types.size))) = true := by kernel_rfl
theorem jf20 : ((Rows.lineLabelsRow.ifacesOut == Tryz.f11.resultTypes.toList.any (Tryz.prog.ifacesRec ·))) = true := by kernel_rfl
theorem jf21 : ((Rows.lineLabelsRow.loopsOut == Tryz.f11.resultTypes.toList.any (Tryz.prog.loopsFrom ·))) = true := by kernel_rfl
theorem jf22 : ((Rows.lineLabelsRow.plainKeys == Tryz.prog.plainKeys)) = true := by kernel_rfl
theorem jf23 : (Rows.lineLabelsRow.shortTexts.isNone) = true := by kernel_rfl
theorem jf24 : (Tryz.prog.stopsHeard) = true := by kernel_rfl
theorem jf25 : (Tryz.prog.mayEnter) = true := by kernel_rfl
theorem jf26 : ((Rows.lineLabelsRow.lifted == Tryz.prog.liftsFinal)) = true := by kernel_rfl
theorem jf27 : ((Tryz.prog.make == some Rows.lineLabelsRow.make)) = true := by kernel_rfl
theorem jf28 : ((Rows.lineLabelsRow.kinds == (if Rows.lineLabelsRow.domain.isEmpty then [] else Tryz.f11.params.toList.map fun t => match Tryz.prog.underlying t with | some (.int k) => some k | _ => none))) = true := by kernel_rfl
theorem jf29 : ((Rows.lineLabelsRow.pinned == Rows.lineLabelsRow.pinnedBy)) = true := by kernel_rfl
theorem jf30 : ((Rows.lineLabelsRow.veiled == (Tryz.f11.params.toList ++ Rows.lineLabelsSpec.plain.varTypes Tryz.prog ++ Tryz.f11.resultTypes.toList).any (Tryz.prog.veiledRec ·))) = true := by kernel_rfl
theorem jf31 : (Rows.lineLabelsRow.veiledFits Tryz.prog Tryz.f11.params.toList (Tryz.f11.params.toList ++ Rows.lineLabelsSpec.plain.varTypes Tryz.prog ++ Tryz.f11.resultTypes.toList)) = true := by kernel_rfl
theorem and2 {a b : Bool} (h : a = true) (k : b = true) : (a && b) = true := by rw [h, k]; rfl
set_option maxRecDepth 1000000 in
theorem jf : joinedFacts Tryz.prog 11 Tryz.f11 Rows.lineLabelsSpec Rows.lineLabelsRow = true := by
 delta joinedFacts
 exact (and2 (and2 (and2 (and2 (and2 (and2 (and2 (and2 (and2 (and2 (and2 (and2 (and2 (and2 (and2 (and2 (and2 (and2 (and2 (and2 (and2 (and2 (and2 (and2 (and2 (and2 (and2 (and2 (and2 (and2 (and2 jf0 jf1) jf2) jf3) jf4) jf5) jf6) jf7) jf8) jf9) jf10) jf11) jf12) jf13) jf14) jf15) jf16) jf17) jf18) jf19) jf20) jf21) jf22) jf23) jf24) jf25) jf26) jf27) jf28) jf29) jf30) jf31)
theorem cfw : Rows.lineLabelsRow.wfByText (OpenSpec.ofChange Rows.lineLabelsSpec) = true := by kernel_rfl
theorem cfn : Tryz.prog.funcNamed Tryz.f11.name = some 11 := by kernel_rfl
theorem cfl : true = Tryz.prog.looks [] := by kernel_rfl
theorem cfs : ([42, 9, 3].all fun u => !Tryz.prog.wantsStandIn u) = true := by kernel_rfl
theorem cfg : false = Rows.lineLabelsRow.goesBy Tryz.prog := by kernel_rfl
theorem over : Rows.lineLabelsRow.holds Tryz.pinned (OpenSpec.ofChange Rows.lineLabelsSpec) :=
 OpenClaim.holds_of_wide 11 Tryz.f11 rfl rfl rfl rfl rfl rfl rfl ⟨rfl, rfl, rfl, rfl, rfl⟩ rfl rfl rfl rfl rfl (by kernel_rfl) Tryz.func11 jf
  (of_decide_eq_true (by kernel_rfl)) (by unfold Func.isWrapper; first | (rw [if_pos (by decide +kernel)]; kernel_rfl) | (rw [if_neg (by decide +kernel)]; exact ⟨rfl, rfl⟩))
  (fun os started H enc _ => lifted os started H enc)
theorem proved : Rows.LineLabelsSaid := over
theorem card : Rows.LineLabelsCardSaid :=
 Claim7.holds_tied_plain_at .later [] [.data, .data, .data, .data, .sentinel, .sentinel, .listed, .data, .pinned] true (true, "eddddd2f21bf15afe128c8206f0bde60fb9797faf78c19398001fce18d007a2a") true
  proved (fun _ h => by cases h) cfw (fun _ h => by cases h) lineLabels_row_tie rfl ⟨rfl, rfl⟩ (by kernel_rfl) rfl
  (fun f fn hf hfn => by
   obtain rfl : f = 11 := Option.some.inj ((show Tryz.prog.funcNamed Tryz.f11.name = some 11 from cfn).symm.trans hf) |>.symm
   obtain rfl : fn = Tryz.f11 := (Option.some.inj (Tryz.func11.symm.trans hfn)).symm
   exact ⟨cfl, fun j t ht => by
    rw [Tryz.params11] at ht
    have hm : t ∈ [42, 9, 3] := by simpa using Array.mem_of_getElem? ht
    have hall : ([42, 9, 3].all fun u => !Tryz.prog.wantsStandIn u) = true := cfs
    exact (show Tryz.prog.wantsStandIn t = false by simpa using List.all_eq_true.1 hall t hm)⟩)
  cfg
end lineLabels
theorem lineLabels_holds : Rows.LineLabelsCardSaid := lineLabels.card
end Go.Proofs.YtblfhkldljfhiaaGreatDoor
