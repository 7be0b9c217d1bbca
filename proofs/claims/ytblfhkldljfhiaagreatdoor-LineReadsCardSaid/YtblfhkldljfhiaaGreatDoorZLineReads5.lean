/- LineReads: part 5 of the proof that, whatever the input, the law returns true and the input reads as it did; its conditions are those of the given row. -/
import Derived.Test.YtblfhkldljfhiaaGreatDoorZLineReads4
import Derived.Test.YtblfhkldljfhiaaGreatDoorTie
import Derived.Test.YtblfhkldljfhiaaGreatDoorCards
import Derived.ProofKit
import Derived.OpenShut
import Derived.Stop.Joined
import Derived.Lay
import Derived.SevenTiedAt
set_option linter.unusedVariables false
set_option linter.unusedSimpArgs false
set_option maxRecDepth 100000
namespace Go.Ab
def ArgT (a : Qc) (t : List UInt8) : Prop := (∃ m : Nat, m ≤ 31 ∧ a = ⟨(m : Int), E0⟩ ∧ t = 114 :: Lib.decDigits m) ∨ ∃ x : X3, a = ⟨-1, x.t⟩ ∧ okW x ∧ x.d ≤ 7 ∧ t = tx x
theorem ArgT.len {a : Qc} {t : List UInt8} (h : ArgT a t) : t.length ≤ 2600 := by
 rcases h with ⟨m, hm, _, rfl⟩ | ⟨x, _, hx, hd, rfl⟩
 ·have := PN 2 m (by omega) (by omega); simp only [List.length_cons]; omega
 ·have hl := (tx_len x hx).1
  have hp : 20 * 2 ^ x.d ≤ 20 * 2 ^ 7 := Nat.mul_le_mul (Nat.le_refl _) (Nat.pow_le_pow_right (by omega) hd)
  omega
theorem Qdq {a : Qc} (h : okA a) : ∃ t, ArgT a t := by
 obtain ⟨x, e, hx, hd⟩ := h
 exact ⟨tx x, .inr ⟨x, e, hx, hd, rfl⟩⟩
theorem Qsk {m : Nat} (h : m ≤ 31) : ArgT ⟨(m : Int), E0⟩ (114 :: Lib.decDigits m) := .inl ⟨m, h, rfl, rfl⟩
inductive ArgsT : List Qc → List (List UInt8) → Prop
 | nil : ArgsT [] []
 | cons (a t zs ts) : ArgT a t → ArgsT zs ts → ArgsT (a :: zs) (t :: ts)
theorem ArgsT.length {zs : List Qc} {ts : List (List UInt8)} (h : ArgsT zs ts) : ts.length = zs.length := by induction h with | nil => rfl | cons _ _ _ _ _ _ ih => simp [ih]
theorem PT : ∀ (zs : List Qc), (∀ a ∈ zs, ∃ t, ArgT a t) → ∃ ts, ArgsT zs ts
 | [], _ => ⟨[], .nil⟩
 | a :: zs, h => by
  obtain ⟨t, ht⟩ := h a (by simp)
  obtain ⟨ts, hts⟩ := PT zs (fun b hb => h b (by simp [hb]))
  exact ⟨t :: ts, .cons _ _ _ _ ht hts⟩
theorem Qo1 (s : ByteArray) (st : Qb) (hn : st.Args.length ≤ 100) : ∀ (zs : List Qc) (ts : List (List UInt8)) (i : Nat) (out : List ByteArray), ArgsT zs ts → st.Args.drop i = zs → i ≤ st.Args.length → out.length ≤ i + 2 → Jx ⟨s, i, st, out⟩ = some ⟨s, out ++ ts.map ba⟩
 | [], ts, i, out, h, hd, hi, ho => by
  cases h
  rw [Jx.eq]; unfold F2
  have : st.Args.length ≤ i := List.drop_eq_nil_iff.1 hd
  simp only
  rw [decide_eq_false (show ¬ (i : Int) < ((st.Args.length : Nat) : Int) by omega), cond_false]; simp
 | a :: zs, ts, i, out, h, hd, hi, ho => by
  cases h with
  | cons _ t _ ts' ht hts =>
  have hlt : i < st.Args.length := by
   rcases Nat.lt_or_ge i st.Args.length with h | h
   ·exact h
   ·rw [List.drop_eq_nil_of_le h] at hd; cases hd
  have hdd := List.drop_eq_getElem_cons hlt
  rw [hd] at hdd
  have ha := (List.cons.inj hdd).1
  have hz := (List.cons.inj hdd).2
  rw [Jx.eq]; unfold F2
  have hg1 : st.Args[Int.toNat (i : Int)]? = some a := by rw [Int.toNat_natCast, List.getElem?_eq_getElem hlt, ← ha]
  simp only
  rw [decide_eq_true (show (i : Int) < ((st.Args.length : Nat) : Int) by omega), cond_true, decide_eq_true (show 0 ≤ (i : Int) by omega), cond_true, hg1]
  simp only [Option.bind_some]
  have m : ∀ x : ByteArray, decide ((out.length + [x].length) * 16 ≤ most) = true := fun x => most16 (by simp only [List.length_singleton]; omega)
  have ih := Qo1 s st hn zs ts' (i + 1) (out ++ [ba t]) hts hz.symm (by omega) (by simp; omega)
  have ih : Jx ⟨s, (i : Int) + 1, st, out ++ [ba t]⟩ = _ := ih
  rcases ht with ⟨n, hn1, rfl, rfl⟩ | ⟨x, rfl, hx, hxd, rfl⟩
  ·have d := PN 2 n (by omega) (by omega)
   rw [decide_eq_true (show ((n : Nat) : Int) ≥ 0 by omega), cond_true, Pg (by omega)]
   simp only [Option.bind_some]
   rw [show s_r = ba [114] from rfl, guardS [114] _ (by simp; omega), cond_true, VJ, m, cond_true, w64_in (by omega) (by omega)]
   simp only [Option.bind_some, Sum.elim_inl]
   rw [show ([114] : List UInt8) ++ Lib.decDigits n = 114 :: Lib.decDigits n from rfl, ih]; simp
  ·rw [decide_eq_false (show ¬ (-1 : Int) ≥ 0 by omega), cond_false, (QpX x hx (by omega)).1]
   simp only [Option.bind_some]
   rw [m, cond_true, w64_in (by omega) (by omega)]
   simp only [Option.bind_some, Sum.elim_inl]
   rw [ih]; simp
def joinC : List (List UInt8) → List UInt8
 | [] => []
 | [t] => t
 | t :: u :: l => t ++ (44 :: 32 :: joinC (u :: l))
def tailC : List (List UInt8) → List UInt8
 | [] => []
 | t :: l => 44 :: 32 :: (t ++ tailC l)
theorem Qed : ∀ (t : List UInt8) (l : List (List UInt8)), joinC (t :: l) = t ++ tailC l
 | t, [] => by simp [joinC, tailC]
 | t, u :: l => by rw [joinC, Qed u l, tailC]
theorem Qls : ∀ (l : List (List UInt8)) (n : Nat), (∀ t ∈ l, t.length ≤ n) → (tailC l).length ≤ l.length * (n + 2)
 | [], n, h => by simp [tailC]
 | t :: l, n, h => by
  have h1 := h t (by simp)
  have h2 := Qls l n (fun u hu => h u (by simp [hu]))
  simp only [tailC, List.length_cons, List.length_append]
  rw [Nat.add_mul]; omega
theorem QnH (ts : List (List UInt8)) (hl : ts.length ≤ 100) (ht : ∀ t ∈ ts, t.length ≤ 2700) : ∀ (l : List (List UInt8)) (i : Nat) (s : List UInt8), ts.drop i = l → 1 ≤ i → i ≤ ts.length → s.length ≤ 10000 + i * 2702 → Jr ⟨ba s, i, ts.map ba⟩ = some (ba (s ++ tailC l))
 | [], i, s, hd, h1, hi, hs => by
  rw [Jr.eq]; unfold GU
  have : ts.length ≤ i := List.drop_eq_nil_iff.1 hd
  simp only
  rw [List.length_map, decide_eq_false (show ¬ (i : Int) < ((ts.length : Nat) : Int) by omega), cond_false]
  simp [tailC]
 | t :: l, i, s, hd, h1, hi, hs => by
  have hlt : i < ts.length := by
   rcases Nat.lt_or_ge i ts.length with h | h
   ·exact h
   ·rw [List.drop_eq_nil_of_le h] at hd; cases hd
  have hdd := List.drop_eq_getElem_cons hlt
  rw [hd] at hdd
  have ha := (List.cons.inj hdd).1
  have hz := (List.cons.inj hdd).2
  have htl := ht t (by rw [ha]; exact List.getElem_mem hlt)
  rw [Jr.eq]; unfold GU
  have hg1 : (ts.map ba)[Int.toNat (i : Int)]? = some (ba t) := by rw [Int.toNat_natCast, List.getElem?_map, List.getElem?_eq_getElem hlt, ← ha]; rfl
  have hb : i * 2702 ≤ 100 * 2702 := Nat.mul_le_mul (by omega) (Nat.le_refl _)
  simp only
  rw [List.length_map, decide_eq_true (show (i : Int) < ((ts.length : Nat) : Int) by omega), cond_true, show ((i : Int) == 0) = false from beq_eq_false_iff_ne.2 (by omega), cond_false]
  rw [decide_eq_true (show 0 ≤ (i : Int) ∧ (i : Int) < ((ts.length : Nat) : Int) by omega), hg1, show QaI = ba [44, 32] from rfl, guardS s [44, 32] (by simp; omega), cond_true, cond_true]
  simp only [Option.bind_some]
  rw [VJ, guardS (s ++ [44, 32]) t (by simp; omega), cond_true, VJ, w64_in (by omega) (by omega)]
  simp only [Option.bind_some, Sum.elim_inl]
  have ih := QnH ts hl ht l (i + 1) (s ++ [44, 32] ++ t) hz.symm (by omega) (by omega) (by simp only [List.length_append, List.length_cons, List.length_nil]; rw [Nat.add_mul]; omega)
  have ih : Jr ⟨ba (s ++ [44, 32] ++ t), (i : Int) + 1, ts.map ba⟩ = _ := ih
  rw [ih]; simp [tailC]
theorem Qs3 (ts : List (List UInt8)) (hl : ts.length ≤ 100) (ht : ∀ t ∈ ts, t.length ≤ 2700) (s : List UInt8) (hs : s.length ≤ 5000) : Jr ⟨ba s, 0, ts.map ba⟩ = some (ba (s ++ (if ts = [] then [] else 32 :: joinC ts))) := by
 rw [Jr.eq]; unfold GU
 cases ts with
 | nil => simp only; rw [show decide ((0 : Int) < ((([].map ba : List ByteArray).length : Nat) : Int)) = false from rfl]; simp
 | cons t l =>
  have htl := ht t (by simp)
  simp only
  rw [List.length_map, decide_eq_true (show (0 : Int) < (((t :: l).length : Nat) : Int) by simp only [List.length_cons]; omega), cond_true, show ((0 : Int) == 0) = true from rfl, cond_true]
  rw [decide_eq_true (show 0 ≤ (0 : Int) ∧ (0 : Int) < (((t :: l).length : Nat) : Int) by simp only [List.length_cons]; omega), show h_20 = ba [32] from rfl, guardS s [32] (by simp; omega), cond_true, cond_true, show ((t :: l).map ba)[Int.toNat 0]? = some (ba t) from rfl]
  simp only [Option.bind_some]
  rw [VJ, guardS (s ++ [32]) t (by simp; omega), cond_true, VJ, show w64 (0 + 1) = 1 from rfl]
  simp only [Option.bind_some, Sum.elim_inl]
  have ih := QnH (t :: l) hl ht l 1 (s ++ [32] ++ t) rfl (by omega) (by simp) (by simp; omega)
  have ih : Jr ⟨ba (s ++ [32] ++ t), 1, (t :: l).map ba⟩ = _ := ih
  rw [ih, if_neg (by simp), Qed]; simp
end Go.Ab
set_option maxRecDepth 100000
namespace Go.Ab
def lstT (q : SQ) (ts : List (List UInt8)) : List (List UInt8) := if q.1 = 6 then (34 :: (bl q.2.2.1 ++ [34])) :: ts else if q.1 = 9 then bl q.2.2.1 :: ts else ts
theorem Qo2 {s : ByteArray} (h : isT s) : (bl s).length ≤ 20 := by rcases h with rfl | rfl | rfl | rfl | rfl <;> decide
theorem Qo3 {s : ByteArray} (h : isE s) : (bl s).length ≤ 20 := by rcases h with rfl | rfl | rfl <;> decide
theorem Qo4 {s : ByteArray} (h : isL s) : (bl s).length ≤ 20 ∧ s ≠ s_ := by
 rcases h with rfl | rfl | rfl | rfl <;> exact ⟨by decide, by decide +kernel⟩
noncomputable def coreT (X : ByteArray) (st : Qb) : Option ByteArray := (bif (st.Kind == (6 : Int)) then (bif (decide (((h_22.size + st.Text.size : Nat) : Int) ≤ IntKind.i64.max)) then (bif (decide ((((h_22 ++ st.Text).size + h_22.size : Nat) : Int) ≤ IntKind.i64.max)) then (bif (decide ([((h_22 ++ st.Text) ++ h_22)].length * 16 ≤ most)) then (bif (st.Kind == (9 : Int)) then (bif (decide (([((h_22 ++ st.Text) ++ h_22)].length + [st.Text].length) * 16 ≤ most)) then ((Jx (QI.mk X (0 : Int) st ([((h_22 ++ st.Text) ++ h_22)] ++ [st.Text]))).bind (fun (o20 : Jp) => ((Jr (QJ.mk o20.x3 (0 : Int) o20.r0)).bind (fun (o21 : ByteArray) => (some o21))))) else none) else ((Jx (QI.mk X (0 : Int) st [((h_22 ++ st.Text) ++ h_22)])).bind (fun (o22 : Jp) => ((Jr (QJ.mk o22.x3 (0 : Int) o22.r0)).bind (fun (o23 : ByteArray) => (some o23)))))) else none) else none) else none) else (bif (st.Kind == (9 : Int)) then (bif (decide ([st.Text].length * 16 ≤ most)) then ((Jx (QI.mk X (0 : Int) st [st.Text])).bind (fun (o24 : Jp) => ((Jr (QJ.mk o24.x3 (0 : Int) o24.r0)).bind (fun (o25 : ByteArray) => (some o25))))) else none) else ((Jx (QI.mk X (0 : Int) st ([] : List ByteArray))).bind (fun (o26 : Jp) => ((Jr (QJ.mk o26.x3 (0 : Int) o26.r0)).bind (fun (o27 : ByteArray) => (some o27)))))))
theorem QiL (S : List UInt8) (hS : S.length ≤ 5000) (st : Qb) (hn : st.Args.length ≤ 90) (ts : List (List UInt8)) (ha : ArgsT st.Args ts) (pre_ : List (List UInt8)) (hp : pre_.length ≤ 2) (hpl : ∀ t ∈ pre_, t.length ≤ 2700) :
  ((Jx (QI.mk (ba S) (0 : Int) st (pre_.map ba))).bind (fun (o2 : Jp) => ((Jr (QJ.mk o2.x3 (0 : Int) o2.r0)).bind (fun (o3 : ByteArray) => (some o3))))) = some (ba (S ++ (if pre_ ++ ts = [] then [] else 32 :: joinC (pre_ ++ ts)))) := by
 have h1 := Qo1 (ba S) st (by omega) st.Args ts 0 (pre_.map ba) ha rfl (by omega) (by simp; omega)
 have h1 : Jx ⟨ba S, 0, st, pre_.map ba⟩ = _ := h1
 rw [h1]
 simp only [Option.bind_some]
 have hlen := ha.length
 have hts : ∀ t ∈ pre_ ++ ts, t.length ≤ 2700 := by
  intro t ht
  rcases List.mem_append.1 ht with h | h
  ·exact hpl t h
  ·have key : ∀ (zs : List Qc) (ts : List (List UInt8)), ArgsT zs ts → ∀ t ∈ ts, t.length ≤ 2600 := by
    intro zs ts h
    induction h with
    | nil => intro t ht; cases ht
    | cons a t zs ts h1 _ ih =>
     intro u hu
     rcases List.mem_cons.1 hu with rfl | hu
     ·exact h1.len
     ·exact ih u hu
   have := key _ _ ha t h
   omega
 have h2 := Qs3 (pre_ ++ ts) (by simp; omega) hts S hS
 rw [List.map_append] at h2
 rw [h2]; rfl
theorem FitQ.args {q : SQ} (h : FitQ q) : q.2.2.2.length ≤ 10 ∧ ∃ ts, ArgsT q.2.2.2 ts := by
 have reg : ∀ k, k < 66 → (RG k).length ≤ 8 := fun k hk => by
  obtain ⟨a, l, b, m, _, _, h3, h4, _⟩ := Qd6 hk
  rw [← Qd7 l _ h4]; exact h3
 cases h with
 | inst k zs hk hl ha =>
  refine ⟨by have := reg k hk; show zs.length ≤ 10; omega, PT zs fun a hm => ?_⟩
  obtain ⟨i, hi⟩ := List.mem_iff_getElem?.1 hm
  have := ha i a hi
  split at this
  ·obtain ⟨m, hm2, rfl⟩ := this; exact ⟨_, Qsk hm2⟩
  ·exact Qdq this
 | grow o zs ho hl ha => exact ⟨by show zs.length ≤ 10; rw [hl]; split <;> omega, PT zs fun a hm => Qdq (ha a hm)⟩
 | data k zs hk h1 h4 ha => exact ⟨by show zs.length ≤ 10; omega, PT zs fun a hm => Qdq (ha a hm)⟩
 | ascii t ht => exact ⟨by show 0 ≤ 10; omega, [], .nil⟩
 | one k a hk ha => exact ⟨by show 1 ≤ 10; omega, PT [a] fun b hb => by simp at hb; subst hb; exact Qdq ha⟩
 | equ w a hw ha => exact ⟨by show 1 ≤ 10; omega, PT [a] fun b hb => by simp at hb; subst hb; exact Qdq ha⟩
theorem Qo5 (S : List UInt8) (hS : S.length ≤ 5000) (lb : ByteArray) {q : SQ} (hq : FitQ q) (ts : List (List UInt8)) (ha : ArgsT q.2.2.2 ts) : coreT (ba S) (mkS lb q) = some (ba (S ++ (if lstT q ts = [] then [] else 32 :: joinC (lstT q ts)))) := by
 have hn := hq.args.1
 unfold coreT
 have plain : q.1 ≠ 6 → q.1 ≠ 9 → coreT (ba S) (mkS lb q) = some (ba (S ++ (if lstT q ts = [] then [] else 32 :: joinC (lstT q ts)))) := by
  intro h6 h9
  unfold coreT lstT
  rw [if_neg h6, if_neg h9, show ((mkS lb q).Kind == 6) = false from beq_eq_false_iff_ne.2 h6, show ((mkS lb q).Kind == 9) = false from beq_eq_false_iff_ne.2 h9, cond_false, cond_false]
  exact QiL S hS (mkS lb q) (by show q.2.2.2.length ≤ 90; omega) ts ha [] (by simp) (by simp)
 unfold coreT at plain
 cases hq with
 | inst k zs _ _ _ => exact plain (by show (1 : Int) ≠ 6; decide) (by show (1 : Int) ≠ 9; decide)
 | grow o zs _ _ _ => exact plain (by show (2 : Int) ≠ 6; decide) (by show (2 : Int) ≠ 9; decide)
 | data k zs hk _ _ _ => exact plain (by show k ≠ 6; omega) (by show k ≠ 9; omega)
 | one k a hk _ => exact plain (by show k ≠ 6; omega) (by show k ≠ 9; omega)
 | ascii t ht =>
  have hl := Qo2 ht
  have hsz : t.size ≤ 20 := by rw [Pn]; exact hl
  have e : t = ba (bl t) := (ba_bl t).symm
  have hT : (mkS lb (6, 0, t, [])).Text = ba (bl t) := e
  rw [hT, show ((mkS lb (6, 0, t, [])).Kind == 6) = true from rfl, cond_true, show ((mkS lb (6, 0, t, [])).Kind == 9) = false from rfl, cond_false, show h_22 = ba [34] from rfl, guardS [34] _ (by simp; omega), cond_true, VJ, guardS _ [34] (by simp; omega), cond_true, VJ]
  rw [show decide (([ba ([34] ++ bl t ++ [34])].length) * 16 ≤ most) = true from rfl, cond_true]
  have := QiL S hS (mkS lb (6, 0, t, [])) (by show 0 ≤ 90; omega) ts ha [[34] ++ bl t ++ [34]] (by simp) (by simp; omega)
  rw [show ([[34] ++ bl t ++ [34]] : List (List UInt8)).map ba = [ba ([34] ++ bl t ++ [34])] from rfl] at this
  rw [this]; rfl
 | equ w a hw h =>
  have hl := Qo3 hw
  have hsz : w.size ≤ 20 := by rw [Pn]; exact hl
  have e : w = ba (bl w) := (ba_bl w).symm
  have hT : (mkS lb (9, 0, w, [a])).Text = ba (bl w) := e
  rw [hT, show ((mkS lb (9, 0, w, [a])).Kind == 6) = false from rfl, cond_false, show ((mkS lb (9, 0, w, [a])).Kind == 9) = true from rfl, cond_true]
  rw [show decide (([ba (bl w)].length) * 16 ≤ most) = true from rfl, cond_true]
  have := QiL S hS (mkS lb (9, 0, w, [a])) (by show 1 ≤ 90; omega) ts ha [bl w] (by simp) (by simp; omega)
  rw [show ([bl w] : List (List UInt8)).map ba = [ba (bl w)] from rfl] at this
  rw [this]; rfl
theorem Qsl : (D0.all fun r => decide (0 < r.Name.size ∧ r.Name.size ≤ 20)) = true := by kernel_rfl
theorem Qs4 {k : Nat} (hk : k < 66) : ∃ r, D0[k]? = some r ∧ 0 < r.Name.size ∧ r.Name.size ≤ 20 := by
 have : k < D0.length := by rw [D0_len]; exact hk
 refine ⟨D0[k], List.getElem?_eq_getElem this, ?_⟩
 exact of_decide_eq_true (List.all_eq_true.1 Qsl _ (List.getElem_mem this))
def nameQ (q : SQ) : ByteArray := if q.1 = 1 then ((D0[q.2.1.toNat]?).map (·.Name)).getD s_ else if q.1 = 2 then (if q.2.1 = 0 then s_b else if q.2.1 = 1 then s_bl else s_bc) else if q.1 = 3 then QD else if q.1 = 4 then Q5 else if q.1 = 5 then Q6 else if q.1 = 6 then JW else if q.1 = 7 then QZ else if q.1 = 8 then Q0 else Vr
theorem Qo6 (lb : ByteArray) {q : SQ} (hq : FitQ q) : Y8 (mkS lb q) = some (nameQ q) ∧ 0 < (nameQ q).size ∧ (nameQ q).size ≤ 20 := by
 rw [Y8.eq]; unfold Qgg
 cases hq with
 | inst k zs hk _ _ =>
  obtain ⟨r, h1, h2, h3⟩ := Qs4 hk
  have e : nameQ (1, (k : Int), s_, zs) = r.Name := by unfold nameQ; rw [if_pos rfl]; show ((D0[(k : Int).toNat]?).map (·.Name)).getD s_ = _; rw [Int.toNat_natCast, h1]; rfl
  rw [e]
  refine ⟨?_, h2, h3⟩
  rw [show ((mkS lb (1, (k : Int), s_, zs)).Kind == 1) = true from rfl, cond_true]
  show (ZW (k : Int)).bind _ = _
  rw [Qr7 h1]; rfl
 | grow o zs ho _ _ =>
  have : o = 0 ∨ o = 1 ∨ o = 2 := by omega
  rcases this with rfl | rfl | rfl
  ·exact ⟨rfl, (show 0 < s_b.size by decide), (show s_b.size ≤ 20 by decide)⟩
  ·exact ⟨rfl, (show 0 < s_bl.size by decide), (show s_bl.size ≤ 20 by decide)⟩
  ·exact ⟨rfl, (show 0 < s_bc.size by decide), (show s_bc.size ≤ 20 by decide)⟩
 | data k zs hk _ _ _ =>
  rcases hk with rfl | rfl | rfl
  ·exact ⟨rfl, (show 0 < QD.size by decide), (show QD.size ≤ 20 by decide)⟩
  ·exact ⟨rfl, (show 0 < Q5.size by decide), (show Q5.size ≤ 20 by decide)⟩
  ·exact ⟨rfl, (show 0 < Q6.size by decide), (show Q6.size ≤ 20 by decide)⟩
 | ascii t ht => exact ⟨rfl, by show 0 < JW.size; decide, by show JW.size ≤ 20; decide⟩
 | one k a hk _ =>
  rcases hk with rfl | rfl
  ·exact ⟨rfl, (show 0 < QZ.size by decide), (show QZ.size ≤ 20 by decide)⟩
  ·exact ⟨rfl, (show 0 < Q0.size by decide), (show Q0.size ≤ 20 by decide)⟩
 | equ w a hw h => exact ⟨rfl, by show 0 < Vr.size; decide, by show Vr.size ≤ 20; decide⟩
def labT (lb : ByteArray) : List UInt8 := if lb = s_ then [] else bl lb ++ [58, 32]
def lineT (lb : ByteArray) (q : SQ) (ts : List (List UInt8)) : List UInt8 := labT lb ++ (bl (nameQ q) ++ (if lstT q ts = [] then [] else 32 :: joinC (lstT q ts)))
theorem FitQ.kind {q : SQ} (h : FitQ q) : q.1 ≠ 0 := by
 cases h with
 | inst => show (1 : Int) ≠ 0; decide
 | grow => show (2 : Int) ≠ 0; decide
 | data k zs hk => show k ≠ 0; omega
 | ascii => show (6 : Int) ≠ 0; decide
 | one k a hk => show k ≠ 0; omega
 | equ => show (9 : Int) ≠ 0; decide
theorem Qp7 (lb : ByteArray) (hlb : lb = s_ ∨ isL lb) {q : SQ} (hq : FitQ q) (ts : List (List UInt8)) (ha : ArgsT q.2.2.2 ts) : ZX (mkS lb q) = some (ba (lineT lb q ts)) := by
 obtain ⟨n1, n2, n3⟩ := Qo6 lb hq
 have hnl : (bl (nameQ q)).length ≤ 20 := by rw [← Pn]; exact n3
 have hk : ((mkS lb q).Kind == 0) = false := beq_eq_false_iff_ne.2 hq.kind
 rw [ZX.eq]; unfold Qgj
 unfold lineT labT
 rcases hlb with rfl | hL
 ·rw [show eqS (mkS s_ q).Label s_ = true from W4.2 rfl, if_pos rfl, hk, n1]
  simp only [Bool.not_true, cond_false, Option.bind_some]
  have g : decide (((s_.size + (nameQ q).size : Nat) : Int) ≤ IntKind.i64.max) = true := Z3 (by rw [show s_.size = 0 from rfl]; omega)
  rw [g, cond_true]
  have c := Qo5 (bl (nameQ q)) (by omega) s_ hq ts ha
  have e : s_ ++ nameQ q = ba (bl (nameQ q)) := by
   rw [show s_ = ba [] from rfl]
   conv => lhs; rw [← ba_bl (nameQ q)]
   rw [VJ]; rfl
  rw [e]
  exact c
 ·obtain ⟨l1, l2⟩ := Qo4 hL
  have hsz : lb.size ≤ 20 := by rw [Pn]; exact l1
  have e0 : eqS (mkS lb q).Label s_ = false := eqS_ne l2
  have eL : (mkS lb q).Label = ba (bl lb) := (ba_bl lb).symm
  rw [e0, if_neg l2, eL, show h_3a = ba [58] from rfl, guardS _ [58] (by simp; omega), VJ, hk, show s_ = ba [] from rfl, eqS_ba, show h_20 = ba [32] from rfl, guardS _ [32] (by simp; omega), VJ, n1]
  rw [decide_eq_false (show ¬ bl lb ++ [58] = [] by simp)]
  simp only [Bool.not_false, cond_true, cond_false, Option.bind_some]
  have e : nameQ q = ba (bl (nameQ q)) := (ba_bl _).symm
  have g : decide ((((ba (bl lb ++ [58] ++ [32])).size + (nameQ q).size : Nat) : Int) ≤ IntKind.i64.max) = true := Z3 (by rw [Qt]; simp; omega)
  rw [g, cond_true]
  have c := Qo5 (bl lb ++ [58] ++ [32] ++ bl (nameQ q)) (by simp; omega) lb hq ts ha
  have e2 : ba (bl lb ++ [58] ++ [32]) ++ nameQ q = ba (bl lb ++ [58] ++ [32] ++ bl (nameQ q)) := by
   conv => lhs; rw [e]
   rw [VJ]
  rw [e2]
  unfold coreT at c
  rw [eL, show h_22 = ba [34] from rfl] at *
  refine c.trans ?_
  simp
end Go.Ab
set_option maxRecDepth 100000
namespace Go.Ab
theorem Qq9 (lb : ByteArray) (hlb : lb = s_ ∨ isL lb) {q : SQ} (hq : FitQ q) (ts : List (List UInt8)) (ha : ArgsT q.2.2.2 ts) : (lineT lb q ts).length ≤ 40000 := by
 obtain ⟨n1, n2, n3⟩ := Qo6 lb hq
 have hnl : (bl (nameQ q)).length ≤ 20 := by rw [← Pn]; exact n3
 have hn := hq.args.1
 have hts := ha.length
 have hT : (bl q.2.2.1).length ≤ 20 := by
  cases hq with
  | inst => show (bl s_).length ≤ 20; decide
  | grow => show (bl s_).length ≤ 20; decide
  | data => show (bl s_).length ≤ 20; decide
  | ascii t ht => exact Qo2 ht
  | one => show (bl s_).length ≤ 20; decide
  | equ w a hw h => exact Qo3 hw
 have key : ∀ (zs : List Qc) (ts : List (List UInt8)), ArgsT zs ts → ∀ t ∈ ts, t.length ≤ 2600 := by
  intro zs ts h
  induction h with
  | nil => intro t ht; cases ht
  | cons a t zs ts h1 _ ih =>
   intro u hu
   rcases List.mem_cons.1 hu with rfl | hu
   ·exact h1.len
   ·exact ih u hu
 have hk := key _ _ ha
 have hlst : (lstT q ts).length ≤ 11 ∧ ∀ t ∈ lstT q ts, t.length ≤ 2600 := by
  unfold lstT
  split
  ·refine ⟨by simp only [List.length_cons]; omega, fun t ht => ?_⟩
   rcases List.mem_cons.1 ht with rfl | ht
   ·simp only [List.length_cons, List.length_append, List.length_nil]; omega
   ·exact hk t ht
  ·split
   ·refine ⟨by simp only [List.length_cons]; omega, fun t ht => ?_⟩
    rcases List.mem_cons.1 ht with rfl | ht
    ·omega
    ·exact hk t ht
   ·exact ⟨by omega, hk⟩
 have hjoin : (joinC (lstT q ts)).length ≤ 30000 := by
  cases h : lstT q ts with
  | nil => simp [joinC]
  | cons t l =>
   rw [h] at hlst
   rw [Qed, List.length_append]
   have h1 := hlst.2 t (by simp)
   have h2 := Qls l 2600 (fun u hu => hlst.2 u (by simp [hu]))
   have h3 := hlst.1
   simp only [List.length_cons] at h3
   have : l.length * 2602 ≤ 10 * 2602 := Nat.mul_le_mul (by omega) (Nat.le_refl _)
   omega
 have hlab : (labT lb).length ≤ 22 := by
  unfold labT
  rcases hlb with rfl | hL
  ·rw [if_pos rfl]; simp
  ·obtain ⟨l1, l2⟩ := Qo4 hL
   rw [if_neg l2]
   simp only [List.length_append, List.length_cons, List.length_nil]; omega
 unfold lineT
 simp only [List.length_append]
 split
 ·simp only [List.length_nil]; omega
 ·simp only [List.length_cons]; omega
theorem Qra (r : QG) (hr : okR r) : ∃ lb q ts, Xe r = some (mkS lb q) ∧ (lb = s_ ∨ isL lb) ∧ FitQ q ∧ ArgsT q.2.2.2 ts ∧ ZX (mkS lb q) = some (ba (lineT lb q ts)) ∧ (lineT lb q ts).length ≤ 40000 := by
 obtain ⟨st, h1, lb, q, rfl, hlb, hq⟩ := Qs2 r hr
 obtain ⟨ts, hts⟩ := hq.args.2
 exact ⟨lb, q, ts, h1, hlb, hq, hts, Qp7 lb hlb hq ts hts, Qq9 lb hlb hq ts hts⟩
end Go.Ab
set_option maxRecDepth 100000
namespace Go.Ab
theorem QjR (l : List ByteArray) (hl : l.length ≤ 100) (hs : ∀ s ∈ l, s.size ≤ 10000000) : ∀ (g i : Nat), g + i = l.length → UD ⟨l, i⟩ = some (.inr ())
 | 0, i, hg => by
  rw [UD.eq]; unfold ZG
  simp only
  rw [decide_eq_false (show ¬ (i : Int) < ((l.length : Nat) : Int) by omega)]; rfl
 | g + 1, i, hg => by
  have hi : i < l.length := by omega
  rw [UD.eq]; unfold ZG
  have hg1 : l[Int.toNat (i : Int)]? = some l[i] := by rw [Int.toNat_natCast, List.getElem?_eq_getElem hi]
  obtain ⟨p, h1, h2, h3, _⟩ := Qsg l[i] (hs _ (List.getElem_mem hi))
  simp only
  rw [decide_eq_true (show (i : Int) < ((l.length : Nat) : Int) by omega), cond_true, decide_eq_true (show 0 ≤ (i : Int) by omega), cond_true, hg1]
  simp only [Option.bind_some]
  rw [h1, h2]
  simp only [Option.bind_some, beq_self_eq_true, Bool.not_true, cond_false]
  rw [h3]
  simp only [Option.bind_some, Bool.not_true, cond_false, Sum.elim_inl]
  rw [w64_in (by omega) (by omega)]
  exact QjR l hl hs g (i + 1) (by omega)
theorem Qlt (ns : List Int) (hn : ns.length ≤ maxLen) (raw s : ByteArray) (k : Int) (r0 : List Int) : ∀ (g i : Nat) (m : ByteArray), (g + i = 12 ∨ g + i = ns.length) → i ≤ 12 → i ≤ ns.length → m.size ≤ 20 * i → ∃ m', Um ⟨ns, raw, s, k, m, i, r0⟩ = some ⟨raw, s, k, m', r0⟩ ∧ m'.size ≤ 240
 | 0, i, m, hg, h12, hl, hm => by
  have hml : ns.length ≤ 9223372036854775807 := by unfold maxLen at hn; omega
  rw [Um.eq]; unfold XH
  simp only
  refine ⟨m, ?_, by omega⟩
  by_cases h : i < ns.length
  ·rw [decide_eq_true (show (i : Int) < ((ns.length : Nat) : Int) by omega), cond_true, decide_eq_false (show ¬ (i : Int) < 12 by omega)]; rfl
  ·rw [decide_eq_false (show ¬ (i : Int) < ((ns.length : Nat) : Int) by omega)]; rfl
 | g + 1, i, m, hg, h12, hl, hm => by
  have hml : ns.length ≤ 9223372036854775807 := by unfold maxLen at hn; omega
  by_cases h : i < ns.length
  ·by_cases h' : i < 12
   ·rw [Um.eq]; unfold XH
    have hg1 : ns[Int.toNat (i : Int)]? = some ns[i] := by rw [Int.toNat_natCast, List.getElem?_eq_getElem h]
    simp only
    rw [decide_eq_true (show (i : Int) < ((ns.length : Nat) : Int) by omega), cond_true, decide_eq_true (show (i : Int) < 12 by omega), cond_true, decide_eq_true (show 0 ≤ (i : Int) by omega), cond_true, hg1]
    simp only [Option.bind_some]
    rw [EH ns[i] 18 (by decide) (by decide)]
    simp only [Option.bind_some]
    have h1 := Int.emod_nonneg ns[i] (by decide : (18 : Int) ≠ 0)
    have h2 := Int.emod_lt_of_pos ns[i] (by decide : (0 : Int) < 18)
    have hlen : [h_20, h_2c, s_r3, EK, EL, h_23, h_22, h_3a, Ge, QD, s_1, h_09, s_b, Xo, h_28, h_29, h_2e, s_x].length = 18 := rfl
    have hall : [h_20, h_2c, s_r3, EK, EL, h_23, h_22, h_3a, Ge, QD, s_1, h_09, s_b, Xo, h_28, h_29, h_2e, s_x].all (fun s => decide (s.size ≤ 20)) = true := by decide +kernel
    generalize [h_20, h_2c, s_r3, EK, EL, h_23, h_22, h_3a, Ge, QD, s_1, h_09, s_b, Xo, h_28, h_29, h_2e, s_x] = L at hlen hall
    have hk : (ns[i] % 18).toNat < L.length := by omega
    have he := of_decide_eq_true (List.all_eq_true.1 hall _ (List.getElem_mem hk))
    rw [decide_eq_true (show 0 ≤ ns[i] % 18 ∧ ns[i] % 18 < ((L.length : Nat) : Int) by omega), cond_true, List.getElem?_eq_getElem hk]
    simp only [Option.bind_some]
    have g1 : decide (((m.size + L[(ns[i] % 18).toNat].size : Nat) : Int) ≤ IntKind.i64.max) = true := Z3 (by omega)
    rw [g1, cond_true, w64_in (by omega) (by omega)]
    simp only [Option.bind_some, Sum.elim_inl]
    exact Qlt ns hn raw s k r0 g (i + 1) (m ++ L[(ns[i] % 18).toNat]) (by omega) (by omega) (by omega) (by rw [ByteArray.size_append]; omega)
   ·rw [Um.eq]; unfold XH
    simp only
    refine ⟨m, ?_, by omega⟩
    rw [decide_eq_true (show (i : Int) < ((ns.length : Nat) : Int) by omega), cond_true, decide_eq_false (show ¬ (i : Int) < 12 by omega)]; rfl
  ·rw [Um.eq]; unfold XH
   simp only
   refine ⟨m, ?_, by omega⟩
   rw [decide_eq_false (show ¬ (i : Int) < ((ns.length : Nat) : Int) by omega)]; rfl
theorem Qhg (l : List QG) (at_ by_ cut : Int) (ns : List Int) (raw : ByteArray) (w : l.length ≤ maxLen ∧ ∀ y ∈ l, E5 y) (w1 : IntKind.i64.min ≤ at_ ∧ at_ ≤ IntKind.i64.max) (w2 : IntKind.u8.min ≤ by_ ∧ by_ ≤ IntKind.u8.max)
  (w3 : IntKind.i64.min ≤ cut ∧ cut ≤ IntKind.i64.max) (w4 : ns.length ≤ maxLen ∧ ∀ y ∈ ns, IntKind.i64.min ≤ y ∧ y ≤ IntKind.i64.max) (w5 : raw.size ≤ maxLen) : Xh l at_ by_ cut ns raw = some true := by
 rw [Xh.eq]; unfold PJ
 rw [Qov]
 rw [Option.bind_some, show (!true) = false from rfl, cond_false]
 obtain ⟨b, hb, hok⟩ := few_to l w.1 w.2
 rw [hb]
 rw [Option.bind_some]
 cases b with
 | false => rfl
 | true =>
 rw [show (!true) = false from rfl, cond_false]
 rcases Nat.lt_or_ge 100 raw.size with hs | hs
 ·rw [decide_eq_true (show ((raw.size : Nat) : Int) > 100 by omega)]; rfl
 rw [decide_eq_false (show ¬ ((raw.size : Nat) : Int) > 100 by omega), cond_false]
 cases l with
 | nil => rfl
 | cons r l =>
 rw [show ((((r :: l).length : Nat) : Int) == 0) = false from beq_eq_false_iff_ne.2 (by simp only [List.length_cons]; omega), cond_false]
 rw [show (r :: l)[Int.toNat 0]? = some r from rfl]
 rw [Option.bind_some]
 obtain ⟨lb, q, ts, h1, _, _, _, h2, h3⟩ := Qra r (hok rfl r (by simp))
 rw [h1]
 rw [Option.bind_some]
 rw [h2]
 rw [Option.bind_some]
 have hsz : (ba (lineT lb q ts)).size ≤ 40000 := by rw [Qt]; exact h3
 generalize ba (lineT lb q ts) = t at hsz
 have g1 : decide (((t.size + h_20.size : Nat) : Int) ≤ IntKind.i64.max) = true := Z3 (by rw [show h_20.size = 1 from rfl]; omega)
 rw [g1, cond_true]
 have hs1 : (t ++ h_20).size = t.size + 1 := by rw [ByteArray.size_append]; rfl
 have hbl : (bytesL (t ++ h_20)).length = t.size + 1 := by rw [bytesL, List.length_map]; exact hs1
 have hp : (0 : Int) < (((bytesL (t ++ h_20)).length : Nat) : Int) := by omega
 rw [EH at_ _ hp (by omega)]
 rw [Option.bind_some]
 have m1 := Int.emod_nonneg at_ (Int.ne_of_gt hp)
 have m2 := Int.emod_lt_of_pos at_ hp
 rw [decide_eq_true (show 0 ≤ at_ % (((bytesL (t ++ h_20)).length : Nat) : Int) ∧ at_ % (((bytesL (t ++ h_20)).length : Nat) : Int) < (((bytesL (t ++ h_20)).length : Nat) : Int) from ⟨m1, m2⟩), cond_true]
 have hk2 : (at_ % (((bytesL (t ++ h_20)).length : Nat) : Int)).toNat < (bytesL (t ++ h_20)).length := by omega
 rw [List.getElem?_eq_getElem hk2, Option.bind_some, Option.bind_some]
 have hw : w64 ((((t ++ h_20).size : Nat) : Int) + 1) = ((t.size + 2 : Nat) : Int) := by rw [hs1, w64_in (by omega) (by omega)]; omega
 rw [hw, EH cut _ (by omega) (by omega)]
 rw [Option.bind_some]
 have m3 := Int.emod_nonneg cut (show ((t.size + 2 : Nat) : Int) ≠ 0 by omega)
 have m4 := Int.emod_lt_of_pos cut (show (0 : Int) < ((t.size + 2 : Nat) : Int) by omega)
 generalize cut % ((t.size + 2 : Nat) : Int) = k at m3 m4
 obtain ⟨m, e1, e2⟩ := Qlt ns w4.1 raw (t ++ h_20) k ((bytesL (t ++ h_20)).set (at_ % (((bytesL (t ++ h_20)).length : Nat) : Int)).toNat (IntKind.u8.wrap ((bytesL (t ++ h_20))[(at_ % (((bytesL (t ++ h_20)).length : Nat) : Int)).toNat] + by_))) 12 0 s_ (.inl rfl) (by omega) (by omega) (by decide)
 have e1 : Um ⟨ns, raw, t ++ h_20, k, s_, 0, _⟩ = _ := e1
 rw [e1, Option.bind_some, Option.bind_some]
 simp only
 have c1 : decide (0 ≤ (0 : Int) ∧ (0 : Int) ≤ k ∧ k ≤ (((t ++ h_20).size : Nat) : Int)) = true := decide_eq_true (by omega)
 have c2 : decide (0 ≤ k ∧ k ≤ (((t ++ h_20).size : Nat) : Int) ∧ (((t ++ h_20).size : Nat) : Int) ≤ (((t ++ h_20).size : Nat) : Int)) = true := decide_eq_true (by omega)
 have ex : ∀ i j, ((t ++ h_20).extract i j).size ≤ t.size + 1 := fun i j => by
  rw [ByteArray.size_extract]; omega
 have z1 := ex (Int.toNat 0) (Int.toNat k)
 have z2 := ex (Int.toNat k) (Int.toNat (((t ++ h_20).size : Nat) : Int))
 rw [c1, cond_true, c2, cond_true]
 generalize (t ++ h_20).extract (Int.toNat 0) (Int.toNat k) = u at z1
 generalize (t ++ h_20).extract (Int.toNat k) (Int.toNat (((t ++ h_20).size : Nat) : Int)) = v at z2
 have g2 : decide (((u.size + m.size : Nat) : Int) ≤ IntKind.i64.max) = true := Z3 (by omega)
 have g3 : decide ((((u ++ m).size + v.size : Nat) : Int) ≤ IntKind.i64.max) = true := Z3 (by rw [ByteArray.size_append]; omega)
 have g4 : decide (((Vl.size + (t ++ h_20).size : Nat) : Int) ≤ IntKind.i64.max) = true := Z3 (by rw [hs1, show Vl.size = 2 from rfl]; omega)
 have g5 : decide ((((Vl ++ (t ++ h_20)).size + Zp.size : Nat) : Int) ≤ IntKind.i64.max) = true := Z3 (by rw [ByteArray.size_append, hs1, show Vl.size = 2 from rfl, show Zp.size = 3 from rfl]; omega)
 rw [g2, cond_true, g3, cond_true, g4, cond_true, g5, cond_true]
 have hz : ∀ l : List ByteArray, l.length ≤ 100 → (∀ s ∈ l, s.size ≤ 10000000) → UD ⟨l, 0⟩ = some (.inr ()) := fun l h1 h2 => QjR l h1 h2 l.length 0 (by omega)
 have hszl : ∀ l : List UInt8, (⟨l.toArray⟩ : ByteArray).size = l.length := fun l => Qt l
 rw [hz _ (by simp) (by
  intro s hm
  simp only [List.mem_cons, List.not_mem_nil, or_false] at hm
  rcases hm with rfl | rfl | rfl | rfl | rfl | rfl | rfl
  ·omega
  ·rw [hszl, listB, List.length_map, List.length_set]; omega
  ·omega
  ·rw [ByteArray.size_append, ByteArray.size_append]; omega
  ·omega
  ·omega
  ·rw [ByteArray.size_append, ByteArray.size_append, hs1, show Vl.size = 2 from rfl, show Zp.size = 3 from rfl]; omega)]
 rfl
end Go.Ab
namespace Go.Proofs.YtblfhkldljfhiaaGreatDoor
open Go Go.Ab Go.ChangeShapes Go.WideShapes Go.ChangeAt Go.RowKit
open Go.ChangeMaps (open_string shut_string)
theorem repL_one {c : Ctx} {w : World} {a : AV} {v : Value} (h : RepL c w [a] [v]) : Rep c w a v := by cases h; assumption
theorem laidOut : laidOutB Tryz.prog = true := by kernel_rfl
theorem own : ownKnob Tryz.prog.godebug = none := by kernel_rfl
theorem door_met (os : Os) (args : Array Value) : laidMetH Tryz.prog [("math/bits.deBruijn32tab", Rows.laid_math_bits_deBruijn32tab), ("math/bits.deBruijn64tab", Rows.laid_math_bits_deBruijn64tab), ("internal/strconv.uint64pow10", Rows.laid_internal_strconv_uint64pow10), ("unicode/utf8.acceptRanges", Rows.laid_unicode_utf8_acceptRanges), ("strconv.ErrRange", Rows.laid_strconv_ErrRange), ("strconv.ErrSyntax", Rows.laid_strconv_ErrSyntax), ("unicode.White_Space", Rows.laid_unicode_White_Space), ("strings.asciiSpace", Rows.laid_strings_asciiSpace), ("unicode/utf8.first", Rows.laid_unicode_utf8_first)] ((World.laidAll Tryz.prog os [("math/bits.deBruijn32tab", Rows.laid_math_bits_deBruijn32tab), ("math/bits.deBruijn64tab", Rows.laid_math_bits_deBruijn64tab), ("internal/strconv.uint64pow10", Rows.laid_internal_strconv_uint64pow10), ("unicode/utf8.acceptRanges", Rows.laid_unicode_utf8_acceptRanges), ("strconv.ErrRange", Rows.laid_strconv_ErrRange), ("strconv.ErrSyntax", Rows.laid_strconv_ErrSyntax), ("unicode.White_Space", Rows.laid_unicode_White_Space), ("strings.asciiSpace", Rows.laid_strings_asciiSpace), ("unicode/utf8.first", Rows.laid_unicode_utf8_first)]).forCall (fun _ _ => 0) ⟨#[], args, []⟩).memory := by
 rw [MakeChecks.laidMetH_plain _ _ _ (by kernel_rfl)]; exact laidMet_laidAll _ (by kernel_rfl) (by kernel_rfl)
section
variable {H : Type} {enc : TypeId × Value → H} {W : World}
theorem rd_w3_Raw (fuel : Nat) : Rd enc Tryz.prog W fuel 154 XU Yv := by
 induction fuel using Nat.strongRecOn with
 | _ fuel ih =>
  intro cs x h
  obtain ⟨xs, n, hn, _, hl, hlen, hel⟩ := DataW.trod_struct Tryz.underlying154 h
  have hlen' : xs.length = 3 := hlen
  have hl' : cs.length = 3 := hl.trans (by kernel_rfl)
  have e0 := hel 0 _ rfl
  rw [List.getElem?_eq_getElem (by omega)] at e0
  obtain ⟨a0, w0, r0, f0⟩ := (rd_int Tryz.underlying3 n) _ _ e0
  have z0 : Tryz.prog.cellsOf 3 = 1 := by kernel_rfl
  replace r0 := Za z0 r0
  have e1 := hel 1 _ rfl
  rw [List.getElem?_eq_getElem (by omega)] at e1
  obtain ⟨a1, w1, r1, f1⟩ := (rd_int Tryz.underlying3 n) _ _ e1
  have z1 : Tryz.prog.cellsOf 3 = 1 := by kernel_rfl
  replace r1 := Za z1 r1
  have e2 := hel 2 _ rfl
  rw [List.getElem?_eq_getElem (by omega)] at e2
  obtain ⟨a2, w2, r2, f2⟩ := (show Rd enc Tryz.prog W n 44 (fun l : List QA => [.sl (l.map XU)]) (fun l => l.length ≤ maxLen ∧ ∀ y ∈ l, Yv y) from by
   cases n with
   | zero => exact QcI _ _
   | succ m => exact QaE (s := 3) Tryz.underlying44 (by kernel_rfl) (by decide) (fun _ => rfl) (ih m (by omega))) _ _ e2
  have z2 : Tryz.prog.cellsOf 44 = 1 := by kernel_rfl
  replace r2 := Za z2 r2
  refine ⟨QA.mk a0 a1 a2, .mk _ w0 w1 w2.1 w2.2, ?_, ?_⟩
  ·have hc : cs = ((cs.drop 0).take 1) ++ (((cs.drop 1).take 1) ++ (((cs.drop 2).take 1))) := by
    have hd : cs.drop 3 = [] := List.drop_eq_nil_of_le (by omega)
    have d2 := Z4 cs 2 1
    have d1 := Z4 cs 1 1
    have d0 := Z4 cs 0 1
    simp only [Nat.zero_add, Nat.reduceAdd, List.drop_zero, hd, List.append_nil] at d0 d1 d2
    first | (rw [List.drop_zero]; rw [← d2, ← d1, ← d0]) | (rw [← d2, ← d1, ← d0])
   rw [hc]
   have := Yu r0 (Yu r1 (r2))
   first | exact this | (simp only [Fl] at this; exact this)
  ·rfl
theorem rd_w4_Raw (fuel : Nat) : Rd enc Tryz.prog W fuel 46 Wi E5 := by
 induction fuel using Nat.strongRecOn with
 | _ fuel ih =>
  intro cs x h
  obtain ⟨xs, n, hn, _, hl, hlen, hel⟩ := DataW.trod_struct Tryz.underlying46 h
  have hlen' : xs.length = 6 := hlen
  have hl' : cs.length = 6 := hl.trans (by kernel_rfl)
  have e0 := hel 0 _ rfl
  rw [List.getElem?_eq_getElem (by omega)] at e0
  obtain ⟨a0, w0, r0, f0⟩ := (rd_int Tryz.underlying3 n) _ _ e0
  have z0 : Tryz.prog.cellsOf 3 = 1 := by kernel_rfl
  replace r0 := Za z0 r0
  have e1 := hel 1 _ rfl
  rw [List.getElem?_eq_getElem (by omega)] at e1
  obtain ⟨a1, w1, r1, f1⟩ := (rd_int Tryz.underlying3 n) _ _ e1
  have z1 : Tryz.prog.cellsOf 3 = 1 := by kernel_rfl
  replace r1 := Za z1 r1
  have e2 := hel 2 _ rfl
  rw [List.getElem?_eq_getElem (by omega)] at e2
  obtain ⟨a2, w2, r2, f2⟩ := (rd_int Tryz.underlying3 n) _ _ e2
  have z2 : Tryz.prog.cellsOf 3 = 1 := by kernel_rfl
  replace r2 := Za z2 r2
  have e3 := hel 3 _ rfl
  rw [List.getElem?_eq_getElem (by omega)] at e3
  obtain ⟨a3, w3, r3, f3⟩ := (show Rd enc Tryz.prog W n 22 (fun l : List Int => [.sl (l.map Xi)]) (fun l => l.length ≤ maxLen ∧ ∀ y ∈ l, IntKind.i64.min ≤ y ∧ y ≤ IntKind.i64.max) from by
   cases n with
   | zero => exact QcI _ _
   | succ m => exact QaE (s := 1) Tryz.underlying22 (by kernel_rfl) (by decide) (fun _ => rfl) (rd_int Tryz.underlying3 m)) _ _ e3
  have z3 : Tryz.prog.cellsOf 22 = 1 := by kernel_rfl
  replace r3 := Za z3 r3
  have e4 := hel 4 _ rfl
  rw [List.getElem?_eq_getElem (by omega)] at e4
  obtain ⟨a4, w4, r4, f4⟩ := (show Rd enc Tryz.prog W n 44 (fun l : List QA => [.sl (l.map XU)]) (fun l => l.length ≤ maxLen ∧ ∀ y ∈ l, Yv y) from by
   cases n with
   | zero => exact QcI _ _
   | succ m => exact QaE (s := 3) Tryz.underlying44 (by kernel_rfl) (by decide) (fun _ => rfl) (rd_w3_Raw m)) _ _ e4
  have z4 : Tryz.prog.cellsOf 44 = 1 := by kernel_rfl
  replace r4 := Za z4 r4
  have e5 := hel 5 _ rfl
  rw [List.getElem?_eq_getElem (by omega)] at e5
  obtain ⟨a5, w5, r5, f5⟩ := (QsD Tryz.underlying4 n) _ _ e5
  have z5 : Tryz.prog.cellsOf 4 = 1 := by kernel_rfl
  replace r5 := Za z5 r5
  refine ⟨QG.mk a0 a1 a2 a3 a4 a5, .mk _ w0 w1 w2 w3.1 w3.2 w4.1 w4.2 w5, ?_, ?_⟩
  ·have hc : cs = ((cs.drop 0).take 1) ++ (((cs.drop 1).take 1) ++ (((cs.drop 2).take 1) ++ (((cs.drop 3).take 1) ++ (((cs.drop 4).take 1) ++ (((cs.drop 5).take 1)))))) := by
    have hd : cs.drop 6 = [] := List.drop_eq_nil_of_le (by omega)
    have d5 := Z4 cs 5 1
    have d4 := Z4 cs 4 1
    have d3 := Z4 cs 3 1
    have d2 := Z4 cs 2 1
    have d1 := Z4 cs 1 1
    have d0 := Z4 cs 0 1
    simp only [Nat.zero_add, Nat.reduceAdd, List.drop_zero, hd, List.append_nil] at d0 d1 d2 d3 d4 d5
    first | (rw [List.drop_zero]; rw [← d5, ← d4, ← d3, ← d2, ← d1, ← d0]) | (rw [← d5, ← d4, ← d3, ← d2, ← d1, ← d0])
   rw [hc]
   have := Yu r0 (Yu r1 (Yu r2 (Yu r3 (Yu r4 (r5)))))
   first | exact this | (simp only [Uf, Fl] at this; exact this)
  ·rfl
end
namespace lineReads
set_option maxRecDepth 100000 in
theorem lifted (os : Os) (started : os.Started) (H : Type) (enc : TypeId × Value → H) :
  ReturnsInHanded {} Tryz.checked os 6 .any (fun w args => (Rows.lineReadsSpec.pre enc Tryz.prog Tryz.f6 [] false w args ∧ laidMetH Tryz.prog [("math/bits.deBruijn32tab", Rows.laid_math_bits_deBruijn32tab), ("math/bits.deBruijn64tab", Rows.laid_math_bits_deBruijn64tab), ("internal/strconv.uint64pow10", Rows.laid_internal_strconv_uint64pow10), ("unicode/utf8.acceptRanges", Rows.laid_unicode_utf8_acceptRanges), ("strconv.ErrRange", Rows.laid_strconv_ErrRange), ("strconv.ErrSyntax", Rows.laid_strconv_ErrSyntax), ("unicode.White_Space", Rows.laid_unicode_White_Space), ("strings.asciiSpace", Rows.laid_strings_asciiSpace), ("unicode/utf8.first", Rows.laid_unicode_utf8_first)] w) ∧ sizedMet enc Tryz.prog Tryz.f6 (OpenSpec.ofChange Rows.lineReadsSpec) false w args) (Rows.lineReadsSpec.post enc Tryz.prog Tryz.f6 false true false false) := by
 refine Qj1 (C := Tryz.checked) (X := fun w _ => laidMetH Tryz.prog [("math/bits.deBruijn32tab", Rows.laid_math_bits_deBruijn32tab), ("math/bits.deBruijn64tab", Rows.laid_math_bits_deBruijn64tab), ("internal/strconv.uint64pow10", Rows.laid_internal_strconv_uint64pow10), ("unicode/utf8.acceptRanges", Rows.laid_unicode_utf8_acceptRanges), ("strconv.ErrRange", Rows.laid_strconv_ErrRange), ("strconv.ErrSyntax", Rows.laid_strconv_ErrSyntax), ("unicode.White_Space", Rows.laid_unicode_White_Space), ("strings.asciiSpace", Rows.laid_strings_asciiSpace), ("unicode/utf8.first", Rows.laid_unicode_utf8_first)] w) (fun _ _ _ hh h => h.of_heap hh) own started (by kernel_rfl) Tryz.func6
  (ChangeSpec.witness_shaped (enc := enc) (C := Tryz.checked) (os := os) (X := fun w _ => laidMetH Tryz.prog [("math/bits.deBruijn32tab", Rows.laid_math_bits_deBruijn32tab), ("math/bits.deBruijn64tab", Rows.laid_math_bits_deBruijn64tab), ("internal/strconv.uint64pow10", Rows.laid_internal_strconv_uint64pow10), ("unicode/utf8.acceptRanges", Rows.laid_unicode_utf8_acceptRanges), ("strconv.ErrRange", Rows.laid_strconv_ErrRange), ("strconv.ErrSyntax", Rows.laid_strconv_ErrSyntax), ("unicode.White_Space", Rows.laid_unicode_White_Space), ("strings.asciiSpace", Rows.laid_strings_asciiSpace), ("unicode/utf8.first", Rows.laid_unicode_utf8_first)] w) false (World.laidAll Tryz.prog os [("math/bits.deBruijn32tab", Rows.laid_math_bits_deBruijn32tab), ("math/bits.deBruijn64tab", Rows.laid_math_bits_deBruijn64tab), ("internal/strconv.uint64pow10", Rows.laid_internal_strconv_uint64pow10), ("unicode/utf8.acceptRanges", Rows.laid_unicode_utf8_acceptRanges), ("strconv.ErrRange", Rows.laid_strconv_ErrRange), ("strconv.ErrSyntax", Rows.laid_strconv_ErrSyntax), ("unicode.White_Space", Rows.laid_unicode_White_Space), ("strings.asciiSpace", Rows.laid_strings_asciiSpace), ("unicode/utf8.first", Rows.laid_unicode_utf8_first)]) #[.slice none 0 0, .int .i64 0, .int .u8 0, .int .i64 0, .slice none 0 0, .string ByteArray.empty] 8 (World.laidAll_os _ _ _) (World.shaped_of_ZipB (by kernel_rfl) (by kernel_rfl)) (by kernel_rfl) (by kernel_rfl) (by kernel_rfl) (door_met os _)) ?_
 intro W base args ds gs before hval0 hW hcnd hsz0 hL _
 have hT := QsI hL
 have hW' := hW
 obtain ⟨p, q, hA0, hV, rfl, hfz, hnd⟩ := hW
 have hA : DataW.TrodAll enc Tryz.prog W 0 (fun _ => true) true Tryz.f6.params.toList args.toList ds p := hA0
 rw [Tryz.params6] at hA
 obtain ⟨v0, vs0, d0, ds0, p0, q0, hargs, rfl, rfl, h0, r0⟩ := trodAll_cons hA
 obtain ⟨v1, vs1, d1, ds1, p1, q1, rfl, rfl, rfl, h1, r1⟩ := trodAll_cons r0
 obtain ⟨v2, vs2, d2, ds2, p2, q2, rfl, rfl, rfl, h2, r2⟩ := trodAll_cons r1
 obtain ⟨v3, vs3, d3, ds3, p3, q3, rfl, rfl, rfl, h3, r3⟩ := trodAll_cons r2
 obtain ⟨v4, vs4, d4, ds4, p4, q4, rfl, rfl, rfl, h4, r4⟩ := trodAll_cons r3
 obtain ⟨v5, vs5, d5, ds5, p5, q5, rfl, rfl, rfl, h5, r5⟩ := trodAll_cons r4
 obtain ⟨rfl, rfl, rfl⟩ := trodAll_nil r5
 obtain rfl : args = #[v0, v1, v2, v3, v4, v5] := by cases args; simp_all
 obtain ⟨rfl, rfl⟩ := trodVars_none hV
 obtain ⟨u0, len0, cap0, rfl⟩ := okWide_slice Tryz.underlying42 (hval0 0 42 v0 rfl rfl)
 obtain ⟨a0, w0, y0⟩ := Qaw (enc := enc) (P := Tryz.prog) (W := W) (fun fuel => (show Rd enc Tryz.prog W fuel 42 (fun l : List QG => [.sl (l.map Wi)]) (fun l => l.length ≤ maxLen ∧ ∀ y ∈ l, E5 y) from by
   cases fuel with
   | zero => exact QcI _ _
   | succ m => exact QaE (s := 6) Tryz.underlying42 (by kernel_rfl) (by decide) (fun _ => rfl) (rd_w4_Raw m))) h0
 replace y0 := repL_one (show RepL (oldCtx W) W [_] [_] from y0)
 obtain ⟨u1, rfl⟩ := okWide_int Tryz.underlying3 (hval0 1 3 v1 rfl rfl)
 obtain ⟨a1, w1, y1⟩ := Qaw (enc := enc) (P := Tryz.prog) (W := W) (fun fuel => (rd_int Tryz.underlying3 fuel)) h1
 replace y1 := repL_one (show RepL (oldCtx W) W [_] [_] from y1)
 obtain ⟨u2, rfl⟩ := okWide_int Tryz.underlying5 (hval0 2 5 v2 rfl rfl)
 obtain ⟨a2, w2, y2⟩ := Qaw (enc := enc) (P := Tryz.prog) (W := W) (fun fuel => (rd_int Tryz.underlying5 fuel)) h2
 replace y2 := repL_one (show RepL (oldCtx W) W [_] [_] from y2)
 obtain ⟨u3, rfl⟩ := okWide_int Tryz.underlying3 (hval0 3 3 v3 rfl rfl)
 obtain ⟨a3, w3, y3⟩ := Qaw (enc := enc) (P := Tryz.prog) (W := W) (fun fuel => (rd_int Tryz.underlying3 fuel)) h3
 replace y3 := repL_one (show RepL (oldCtx W) W [_] [_] from y3)
 obtain ⟨u4, len4, cap4, rfl⟩ := okWide_slice Tryz.underlying22 (hval0 4 22 v4 rfl rfl)
 obtain ⟨a4, w4, y4⟩ := Qaw (enc := enc) (P := Tryz.prog) (W := W) (fun fuel => (show Rd enc Tryz.prog W fuel 22 (fun l : List Int => [.sl (l.map Xi)]) (fun l => l.length ≤ maxLen ∧ ∀ y ∈ l, IntKind.i64.min ≤ y ∧ y ≤ IntKind.i64.max) from by
   cases fuel with
   | zero => exact QcI _ _
   | succ m => exact QaE (s := 1) Tryz.underlying22 (by kernel_rfl) (by decide) (fun _ => rfl) (rd_int Tryz.underlying3 m))) h4
 replace y4 := repL_one (show RepL (oldCtx W) W [_] [_] from y4)
 obtain ⟨u5, rfl⟩ := okWide_string Tryz.underlying9 (hval0 5 9 v5 rfl rfl)
 obtain ⟨a5, w5, y5⟩ := Qaw (enc := enc) (P := Tryz.prog) (W := W) (fun fuel => (Qql Tryz.underlying9 fuel)) h5
 replace y5 := repL_one (show RepL (oldCtx W) W [_] [_] from y5)
 obtain ⟨k, hk⟩ := Xh.run a0 a1 a2 a3 a4 a5 (Qhg a0 a1 a2 a3 a4 a5 w0 w1 w2 w3 w4 w5)
 rw [QaG] at y0
 rw [Uf] at y4
 have lt0 : ∀ x ∈ p0, x.block < W.heap.size := by obtain ⟨m, hm⟩ := h0; exact DataW.trod_lt m _ _ _ hm
 have lt1 : ∀ x ∈ p1, x.block < W.heap.size := by obtain ⟨m, hm⟩ := h1; exact DataW.trod_lt m _ _ _ hm
 have lt2 : ∀ x ∈ p2, x.block < W.heap.size := by obtain ⟨m, hm⟩ := h2; exact DataW.trod_lt m _ _ _ hm
 have lt3 : ∀ x ∈ p3, x.block < W.heap.size := by obtain ⟨m, hm⟩ := h3; exact DataW.trod_lt m _ _ _ hm
 have lt4 : ∀ x ∈ p4, x.block < W.heap.size := by obtain ⟨m, hm⟩ := h4; exact DataW.trod_lt m _ _ _ hm
 have lt5 : ∀ x ∈ p5, x.block < W.heap.size := by obtain ⟨m, hm⟩ := h5; exact DataW.trod_lt m _ _ _ hm
 refine (Qlw (T := told) (by kernel_rfl) ext_ok hk hT (.cons _ _ _ _ y0 (.cons _ _ _ _ y1 (.cons _ _ _ _ y2 (.cons _ _ _ _ y3 (.cons _ _ _ _ y4 (.cons _ _ _ _ y5 .nil))))))).mono fun e W' ⟨he, bel⟩ => ?_
 subst he
 exact ⟨_, rfl, _, _, _, [], _, [], hW', trodAll_mk1 (shut_bool Tryz.underlying4 _), (trodAll_cons_mk (Below.trod laidOut (by kernel_rfl) (of_decide_eq_true (by kernel_rfl)) h0 bel lt0) (trodAll_cons_mk (Below.trod laidOut (by kernel_rfl) (of_decide_eq_true (by kernel_rfl)) h1 bel lt1) (trodAll_cons_mk (Below.trod laidOut (by kernel_rfl) (of_decide_eq_true (by kernel_rfl)) h2 bel lt2) (trodAll_cons_mk (Below.trod laidOut (by kernel_rfl) (of_decide_eq_true (by kernel_rfl)) h3 bel lt3) (trodAll_cons_mk (Below.trod laidOut (by kernel_rfl) (of_decide_eq_true (by kernel_rfl)) h4 bel lt4) (trodAll_cons_mk (Below.trod laidOut (by kernel_rfl) (of_decide_eq_true (by kernel_rfl)) h5 bel lt5) trodAll_mk0)))))), rfl, bel.frame _, fun h => by cases h⟩
theorem jf0 : (Rows.lineReadsRow.wf (OpenSpec.ofChange Rows.lineReadsSpec)) = true := by kernel_rfl
theorem jf1 : (laidOutB Tryz.prog) = true := by kernel_rfl
theorem jf2 : (mapsRowed Tryz.prog) = true := by kernel_rfl
theorem jf3 : (Tryz.f6.params.all (Tryz.prog.readableRec ·)) = true := by kernel_rfl
theorem jf4 : (namedTie Tryz.prog Rows.lineReadsRow.named Rows.lineReadsSpec.vars) = true := by kernel_rfl
theorem jf5 : ((Rows.lineReadsRow.stops == [])) = true := by kernel_rfl
theorem jf6 : ((Tryz.prog.stops == [])) = true := by kernel_rfl
theorem jf7 : ((Rows.lineReadsRow.knobs == [])) = true := by kernel_rfl
theorem jf8 : ((Tryz.prog.stopKnobs == [])) = true := by kernel_rfl
theorem jf9 : ((Rows.lineReadsRow.inPlace == Tryz.prog.inPlace 6)) = true := by kernel_rfl
theorem jf10 : ((Rows.lineReadsRow.unfollowed == Tryz.prog.unfollowed 6)) = true := by kernel_rfl
theorem jf11 : ((Rows.lineReadsRow.recurses == Tryz.prog.recurses 6)) = true := by kernel_rfl
theorem jf12 : ((Rows.lineReadsRow.named == Tryz.prog.varsNamed 6)) = true := by kernel_rfl
theorem jf13 : ((Rows.lineReadsRow.maps == (Tryz.f6.params.toList ++ Rows.lineReadsSpec.plain.varTypes Tryz.prog).any (Tryz.prog.mapsRec ·))) = true := by kernel_rfl
theorem jf14 : ((Rows.lineReadsRow.ifaces == (Tryz.f6.params.toList ++ Rows.lineReadsSpec.plain.varTypes Tryz.prog).any (Tryz.prog.ifacesRec ·))) = true := by kernel_rfl
theorem jf15 : ((Rows.lineReadsRow.mapsOut == Tryz.prog.mapsAmong Tryz.f6.resultTypes.toList)) = true := by kernel_rfl
theorem jf16 : ((Rows.lineReadsRow.loops == (Tryz.f6.params.toList ++ Rows.lineReadsSpec.plain.varTypes Tryz.prog).any (Tryz.prog.loopsFrom ·))) = true := by kernel_rfl
theorem jf17 : ((Rows.lineReadsRow.wideKeys == (Tryz.f6.params.toList ++ Rows.lineReadsSpec.plain.varTypes Tryz.prog ++ Tryz.f6.resultTypes.toList).any (Tryz.prog.wideKeysFrom ·))) = true := by kernel_rfl
theorem jf18 : (Rows.lineReadsSpec.vars.all (Tryz.prog.varReadable ·)) = true := by kernel_rfl
theorem jf19 : (Tryz.f6.resultTypes.all (fun t => Tryz.prog.readableRec t && decide (t < Tryz.prog.types.size))) = true := by kernel_rfl
theorem jf20 : ((Rows.lineReadsRow.ifacesOut == Tryz.f6.resultTypes.toList.any (Tryz.prog.ifacesRec ·))) = true := by kernel_rfl
theorem jf21 : ((Rows.lineReadsRow.loopsOut == Tryz.f6.resultTypes.toList.any (Tryz.prog.loopsFrom ·))) = true := by kernel_rfl
theorem jf22 : ((Rows.lineReadsRow.plainKeys == Tryz.prog.plainKeys)) = true := by kernel_rfl
theorem jf23 : (Rows.lineReadsRow.shortTexts.isNone) = true := by kernel_rfl
theorem jf24 : (Tryz.prog.stopsHeard) = true := by kernel_rfl
theorem jf25 : (Tryz.prog.mayEnter) = true := by kernel_rfl
theorem jf26 : ((Rows.lineReadsRow.lifted == Tryz.prog.liftsFinal)) = true := by kernel_rfl
theorem jf27 : ((Tryz.prog.make == some Rows.lineReadsRow.make)) = true := by kernel_rfl
theorem jf28 : ((Rows.lineReadsRow.kinds == (if Rows.lineReadsRow.domain.isEmpty then [] else Tryz.f6.params.toList.map fun t => match Tryz.prog.underlying t with | some (.int k) => some k | _ => none))) = true := by kernel_rfl
theorem jf29 : ((Rows.lineReadsRow.pinned == Rows.lineReadsRow.pinnedBy)) = true := by kernel_rfl
theorem jf30 : ((Rows.lineReadsRow.veiled == (Tryz.f6.params.toList ++ Rows.lineReadsSpec.plain.varTypes Tryz.prog ++ Tryz.f6.resultTypes.toList).any (Tryz.prog.veiledRec ·))) = true := by kernel_rfl
theorem jf31 : (Rows.lineReadsRow.veiledFits Tryz.prog Tryz.f6.params.toList (Tryz.f6.params.toList ++ Rows.lineReadsSpec.plain.varTypes Tryz.prog ++ Tryz.f6.resultTypes.toList)) = true := by kernel_rfl
theorem and2 {a b : Bool} (h : a = true) (k : b = true) : (a && b) = true := by rw [h, k]; rfl
set_option maxRecDepth 1000000 in
theorem jf : joinedFacts Tryz.prog 6 Tryz.f6 Rows.lineReadsSpec Rows.lineReadsRow = true := by
 delta joinedFacts
 exact (and2 (and2 (and2 (and2 (and2 (and2 (and2 (and2 (and2 (and2 (and2 (and2 (and2 (and2 (and2 (and2 (and2 (and2 (and2 (and2 (and2 (and2 (and2 (and2 (and2 (and2 (and2 (and2 (and2 (and2 (and2 jf0 jf1) jf2) jf3) jf4) jf5) jf6) jf7) jf8) jf9) jf10) jf11) jf12) jf13) jf14) jf15) jf16) jf17) jf18) jf19) jf20) jf21) jf22) jf23) jf24) jf25) jf26) jf27) jf28) jf29) jf30) jf31)
theorem cfw : Rows.lineReadsRow.wfByText (OpenSpec.ofChange Rows.lineReadsSpec) = true := by kernel_rfl
theorem cfn : Tryz.prog.funcNamed Tryz.f6.name = some 6 := by kernel_rfl
theorem cfl : true = Tryz.prog.looks [] := by kernel_rfl
theorem cfs : ([42, 3, 5, 3, 22, 9].all fun u => !Tryz.prog.wantsStandIn u) = true := by kernel_rfl
theorem cfg : false = Rows.lineReadsRow.goesBy Tryz.prog := by kernel_rfl
theorem over : Rows.lineReadsRow.holds Tryz.pinned (OpenSpec.ofChange Rows.lineReadsSpec) :=
 OpenClaim.holds_of_wide 6 Tryz.f6 rfl rfl rfl rfl rfl rfl rfl ⟨rfl, rfl, rfl, rfl, rfl⟩ rfl rfl rfl rfl rfl (by kernel_rfl) Tryz.func6 jf
  (of_decide_eq_true (by kernel_rfl)) (by unfold Func.isWrapper; first | (rw [if_pos (by decide +kernel)]; kernel_rfl) | (rw [if_neg (by decide +kernel)]; exact ⟨rfl, rfl⟩))
  (fun os started H enc _ => lifted os started H enc)
theorem proved : Rows.LineReadsSaid := over
theorem card : Rows.LineReadsCardSaid :=
 Claim7.holds_tied_plain_at .later [] [.data, .data, .data, .data, .sentinel, .sentinel, .listed, .data, .pinned] true (true, "eddddd2f21bf15afe128c8206f0bde60fb9797faf78c19398001fce18d007a2a") true
  proved (fun _ h => by cases h) cfw (fun _ h => by cases h) lineReads_row_tie rfl ⟨rfl, rfl⟩ (by kernel_rfl) rfl
  (fun f fn hf hfn => by
   obtain rfl : f = 6 := Option.some.inj ((show Tryz.prog.funcNamed Tryz.f6.name = some 6 from cfn).symm.trans hf) |>.symm
   obtain rfl : fn = Tryz.f6 := (Option.some.inj (Tryz.func6.symm.trans hfn)).symm
   exact ⟨cfl, fun j t ht => by
    rw [Tryz.params6] at ht
    have hm : t ∈ [42, 3, 5, 3, 22, 9] := by simpa using Array.mem_of_getElem? ht
    have hall : ([42, 3, 5, 3, 22, 9].all fun u => !Tryz.prog.wantsStandIn u) = true := cfs
    exact (show Tryz.prog.wantsStandIn t = false by simpa using List.all_eq_true.1 hall t hm)⟩)
  cfg
end lineReads
theorem lineReads_holds : Rows.LineReadsCardSaid := lineReads.card
end Go.Proofs.YtblfhkldljfhiaaGreatDoor
