/- LineParses: part 5 of the proof that, whatever the input, the law returns true and the input reads as it did; its conditions are those of the given row. -/
import Derived.Test.YtblfhkldljfhiaaGreatDoorZLineParses4
import Derived.Test.YtblfhkldljfhiaaGreatDoorTie
import Derived.Test.YtblfhkldljfhiaaGreatDoorCards
import Derived.ProofKit
import Derived.OpenShut
import Derived.Stop.Joined
import Derived.Lay
import Derived.SevenTiedAt
set_option linter.unusedVariables false
set_option linter.unusedSimpArgs false
set_option maxRecDepth 100000
namespace Go.Ab
def isT (s : ByteArray) : Prop := s = s_ ∨ s = s_hi ∨ s = UW ∨ s = WY ∨ s = F5
def isE (s : ByteArray) : Prop := s = s_k ∨ s = G6 ∨ s = s_x
inductive FitQ : SQ → Prop
 | inst (k : Nat) (zs : List Qc) : k < 66 → zs.length = (RG k).length → (∀ (i : Nat) a, zs[i]? = some a → if (RG k).getD i false = true then (∃ m : Nat, m ≤ 31 ∧ a = ⟨(m : Int), E0⟩) else okA a) → FitQ (1, (k : Int), s_, zs)
 | grow (o : Nat) (zs : List Qc) : o ≤ 2 → zs.length = (if o = 2 then 3 else 1) → (∀ a ∈ zs, okA a) → FitQ (2, (o : Int), s_, zs)
 | data (k : Int) (zs : List Qc) : k = 3 ∨ k = 4 ∨ k = 5 → 1 ≤ zs.length → zs.length ≤ 4 → (∀ a ∈ zs, okA a) → FitQ (k, 0, s_, zs)
 | ascii (t : ByteArray) : isT t → FitQ (6, 0, t, [])
 | one (k : Int) (a : Qc) : k = 7 ∨ k = 8 → okA a → FitQ (k, 0, s_, [a])
 | equ (w : ByteArray) (a : Qc) : isE w → okA a → FitQ (9, 0, w, [a])
def okM (st : Qb) : Prop := ∃ lb q, st = mkS lb q ∧ (lb = s_ ∨ isL lb) ∧ FitQ q
theorem most64 {n : Nat} (h : n ≤ 1000000000) : decide (n * 64 ≤ most) = true := QhT h
theorem lab_to {Q : Qb → Prop} (b : Bool) (B : Int) {mk : ByteArray → Qb} {Z : Option Qb} (h : ∀ e, isL e → Q (mk e)) (hz : To Q Z) :
  To Q (bif b then (JA.bind fun r6 => (QG B 4).bind fun r7 => bif decide (0 ≤ r7) then (r6[Int.toNat r7]?).bind fun e8 => some (mk e8) else none) else Z) := by
 refine .cond (fun _ => .eq Qap (.bind (Uy B 4 (by decide) (by decide)) fun r hr => ?_)) fun _ => hz
 obtain ⟨h1, h2⟩ := Qck hr
 exact .condT h1 (.bind h2 fun e he => .ret (h e he))
theorem QkS (r : QB) (hr : okR r) (k : Int) (z : Qb) : ∀ (g i : Nat) (zs : List Qc), (g : Int) + i = r.B % 4 + 1 → zs.length = i → (∀ a ∈ zs, okA a) →
  To (fun o => ∃ ys, o = ⟨z, ⟨1, s_, k, 0, s_, ys⟩⟩ ∧ (ys.length : Int) = r.B % 4 + 1 ∧ ∀ a ∈ ys, okA a) (Vr ⟨i, r, z, ⟨1, s_, k, 0, s_, zs⟩⟩)
 | 0, i, zs, hg, hl, ha => by
  have h4 := Int.emod_lt_of_pos r.B (by decide : (0 : Int) < 4)
  rw [Vr.eq]; unfold YE
  simp only
  rw [SP r.B 4 (by decide) (by decide), Option.bind_some, decide_eq_false (show ¬ (i : Int) ≤ r.B % 4 by omega), cond_false]
  exact ⟨_, rfl, zs, rfl, by omega, ha⟩
 | g + 1, i, zs, hg, hl, ha => by
  have h4 := Int.emod_lt_of_pos r.B (by decide : (0 : Int) < 4)
  obtain ⟨⟨x, hx, hx1, hx2⟩, _⟩ := id hr
  have ih := fun a (hka : okA a) => QkS r hr k z g (i + 1) (zs ++ [a]) (by omega) (by simp [hl]) (fun b hb => by
   simp only [List.mem_append, List.mem_singleton] at hb
   rcases hb with hb | rfl
   ·exact ha b hb
   ·exact hka)
  have step : To (fun q : QY ⊕ UF => ∃ a, okA a ∧ q = .inl ⟨(i : Int) + 1, r, z, ⟨1, s_, k, 0, s_, zs ++ [a]⟩⟩) (YE QG Va Ya JA ⟨i, r, z, ⟨1, s_, k, 0, s_, zs⟩⟩) := by
   unfold YE
   simp only
   rw [SP r.B 4 (by decide) (by decide), Option.bind_some, decide_eq_true (show (i : Int) ≤ r.B % 4 by omega), cond_true, w64_in (n := (i : Int) + 1) (by omega) (by omega)]
   refine .bind (Qmw r i hr) fun n _ => ?_
   have m : ∀ a : Qc, decide ((zs.length + [a].length) * 64 ≤ most) = true := fun a => most64 (by simp only [List.length_singleton]; omega)
   have nm : To (fun q : QY ⊕ UF => ∃ a, okA a ∧ q = .inl ⟨(i : Int) + 1, r, z, ⟨1, s_, k, 0, s_, zs ++ [a]⟩⟩) (JA.bind fun r6 => (QG (w64 (Int.tdiv n 6)) 4).bind fun r7 => bif decide (0 ≤ r7) then (r6[Int.toNat r7]?).bind fun e8 => bif decide ((zs.length + [(Qc.mk (-1) (Qa.mk 2 0 e8 []))].length) * 64 ≤ most) then some (.inl ⟨(i : Int) + 1, r, z, ⟨1, s_, k, 0, s_, zs ++ [(Qc.mk (-1) (Qa.mk 2 0 e8 []))]⟩⟩) else none else none) := by
    refine .eq Qap (.bind (Uy _ 4 (by decide) (by decide)) fun q hq => ?_)
    obtain ⟨h1, h2⟩ := Qck hq
    exact .condT h1 (.bind h2 fun e he => .condT (m _) (.ret ⟨_, okA_nm (Qe0 he), rfl⟩))
   have num : To (fun q : QY ⊕ UF => ∃ a, okA a ∧ q = .inl ⟨(i : Int) + 1, r, z, ⟨1, s_, k, 0, s_, zs ++ [a]⟩⟩) ((QG n 256).bind fun r9 => bif decide ((zs.length + [(Qc.mk (-1) (Qa.mk 1 r9 s_ []))].length) * 64 ≤ most) then some (.inl ⟨(i : Int) + 1, r, z, ⟨1, s_, k, 0, s_, zs ++ [(Qc.mk (-1) (Qa.mk 1 r9 s_ []))]⟩⟩) else none) :=
    .bind (Uy n 256 (by decide) (by decide)) fun q hq => .condT (m _) (.ret ⟨_, Qec ⟨by omega, by omega⟩, rfl⟩)
   refine .bind (Uy n 6 (by decide) (by decide)) fun q hq => ?_
   refine .cond (fun _ => .cond (fun _ => .eq hx (.condT (m _) (.ret ⟨_, okA_x hx1 hx2, rfl⟩))) fun _ => ?_) fun _ => ?_
   ·exact .bind (Uy n 6 (by decide) (by decide)) fun q hq => .cond (fun _ => nm) fun _ => num
   ·exact .bind (Uy n 6 (by decide) (by decide)) fun q hq => .cond (fun _ => nm) fun _ => num
  rw [Vr.eq]
  refine .bind step fun q hq => ?_
  obtain ⟨a, h1, rfl⟩ := hq
  exact ih a h1
theorem QtH (r : QB) (hr : okR r) (k : Int) : To (fun o => ∃ ys : List Qc, o = ⟨1, s_, k, 0, s_, ys⟩ ∧ 1 ≤ ys.length ∧ ys.length ≤ 4 ∧ ∀ a ∈ ys, okA a) (Xw r k) := by
 have h3 := Int.emod_nonneg r.B (by decide : (4 : Int) ≠ 0)
 have h4 := Int.emod_lt_of_pos r.B (by decide : (0 : Int) < 4)
 rw [Xw.eq]; unfold Sn
 have := QkS r hr k ⟨0, s_, 0, 0, s_, []⟩ (r.B % 4 + 1).toNat 0 [] (by omega) rfl (fun a ha => by cases ha)
 refine .bind this fun o ho => .ret ?_
 obtain ⟨ys, rfl, h1, h2⟩ := ho
 exact ⟨ys, rfl, by omega, by omega, h2⟩
theorem Qmx (r : QB) (hr : okR r) (k : Nat) (hk : k < 66) (z : Qb) (m : List ByteArray) (hm : m.length ≤ 8) (hreg : ∀ (i : Nat) (h : i < m.length), JG m[i] = some ((RG k).getD i false)) (hok : ∀ e ∈ m, 0 < e.size ∧ ∀ c, JG e = some c → c = true → isReg e = true) :
  ∀ (g i : Nat) (zs : List Qc), g + i = m.length → zs.length = i → (∀ (j : Nat) a, zs[j]? = some a → if (RG k).getD j false = true then (∃ m : Nat, m ≤ 31 ∧ a = ⟨(m : Int), E0⟩) else okA a) →
  To (fun o => ∃ ys : List Qc, o = ⟨r, z, ⟨1, s_, 1, (k : Int), s_, ys⟩⟩ ∧ ys.length = m.length ∧ ∀ (j : Nat) a, ys[j]? = some a → if (RG k).getD j false = true then (∃ m : Nat, m ≤ 31 ∧ a = ⟨(m : Int), E0⟩) else okA a) (VL ⟨m, i, r, z, ⟨1, s_, 1, (k : Int), s_, zs⟩⟩)
 | 0, i, zs, hg, hl, ha => by
  rw [VL.eq]; unfold Zf
  simp only
  rw [decide_eq_false (show ¬ (i : Int) < ((m.length : Nat) : Int) by omega), cond_false]
  exact ⟨_, rfl, zs, rfl, by omega, ha⟩
 | g + 1, i, zs, hg, hl, ha => by
  have hi : i < m.length := by omega
  have step : To (fun q : Ut ⊕ VI => ∃ a, (if (RG k).getD i false = true then (∃ m : Nat, m ≤ 31 ∧ a = (⟨(m : Int), E0⟩ : Qc)) else okA a) ∧ q = .inl ⟨m, (i : Int) + 1, r, z, ⟨1, s_, 1, (k : Int), s_, zs ++ [a]⟩⟩) (Zf Va Wg ⟨m, i, r, z, ⟨1, s_, 1, (k : Int), s_, zs⟩⟩) := by
   unfold Zf
   simp only
   rw [decide_eq_true (show (i : Int) < ((m.length : Nat) : Int) by omega), cond_true, decide_eq_true (show 0 ≤ (i : Int) by omega), cond_true, w64_in (n := (i : Int) + 1) (by omega) (by omega)]
   have hg1 : m[Int.toNat (i : Int)]? = some m[i] := by rw [Int.toNat_natCast, List.getElem?_eq_getElem hi]
   refine .eq hg1 (.bind (Qmw r i hr) fun n _ => ?_)
   have mm : ∀ a : Qc, decide ((zs.length + [a].length) * 64 ≤ most) = true := fun a => most64 (by simp only [List.length_singleton]; omega)
   obtain ⟨o1, o2⟩ := hok m[i] (List.getElem_mem hi)
   have hR := hreg i hi
   cases hb : (RG k).getD i false with
   | true =>
    rw [hb] at hR
    exact .bind (Qsw r m[i] n hR (o2 true hR rfl)) fun a ha => .condT (mm a) (.ret ⟨a, by rw [if_pos rfl]; exact ha, rfl⟩)
   | false =>
    rw [hb] at hR
    exact .bind (Qsx r m[i] n hR o1 hr) fun a ha => .condT (mm a) (.ret ⟨a, by rw [if_neg (by decide)]; exact ha, rfl⟩)
  rw [VL.eq]
  refine .bind step fun q hq => ?_
  obtain ⟨a, h1, rfl⟩ := hq
  exact Qmx r hr k hk z m hm hreg hok g (i + 1) (zs ++ [a]) (by omega) (by simp [hl]) (fun j b hb => by
   rcases Nat.lt_or_ge j zs.length with h | h
   ·rw [List.getElem?_append_left h] at hb; exact ha j b hb
   ·rw [List.getElem?_append_right h] at hb
    have : j = zs.length := by
     rcases Nat.eq_or_lt_of_le h with h | h
     ·exact h.symm
     ·rw [List.getElem?_eq_none (by simp; omega)] at hb; cases hb
    subst this
    simp only [Nat.sub_self, List.getElem?_cons_zero, Option.some.injEq] at hb
    subst hb
    rw [hl]; exact h1)
theorem Qur (r : QB) (hr : okR r) : To okM (W7 r) := by
 obtain ⟨⟨x, hx, hx1, hx2⟩, _⟩ := id hr
 have none_ : ∀ q : SQ, FitQ q → okM (mkS s_ q) := fun q h => ⟨s_, q, rfl, .inl rfl, h⟩
 have some_ : ∀ (e : ByteArray) (q : SQ), isL e → FitQ q → okM (mkS e q) := fun e q he h => ⟨e, q, rfl, .inr he, h⟩
 rw [W7.eq]; unfold QaA
 refine .bind (Uy r.K 16 (by decide) (by decide)) fun K hK => ?_
 refine .cond (fun _ => ?_) fun h6 => .cond (fun _ => ?_) fun h9 => .cond (fun h12 => ?_) fun _ => .cond (fun _ => ?_) fun _ => .cond (fun _ => ?_) fun _ => .cond (fun _ => ?_) fun _ => ?_
 ·refine .bind (Uy r.A 66 (by decide) (by decide)) fun v hv => ?_
  obtain ⟨k, rfl⟩ := Int.eq_ofNat_of_zero_le hv.1
  have hk : k < 66 := by omega
  obtain ⟨a, l, b, m, _, _, _, _, h5, h6, h7, h8⟩ := QeU hk
  have h8l := (QeV l (RG k) (by assumption))
  refine .eq h5 (.eq h6 ?_)
  have lp := Qmx r hr k hk ⟨0, s_, 0, 0, s_, []⟩ m (by omega) h8 (QtF hk h5 h6) m.length 0 [] (by omega) rfl (fun j a h => by cases h)
  refine .bind lp fun o ho => ?_
  obtain ⟨ys, rfl, y1, y2⟩ := ho
  have fq : FitQ (1, (k : Int), s_, ys) := .inst k ys hk (by omega) y2
  refine lab_to _ _ (fun e he => some_ e (1, (k : Int), s_, ys) he fq) ?_
  refine .cond (fun h => by cases h) fun _ => .ret (none_ _ fq)
 ·refine .bind (Uy r.A 3 (by decide) (by decide)) fun v hv => ?_
  obtain ⟨o, rfl⟩ := Int.eq_ofNat_of_zero_le hv.1
  refine .cond (fun h2 => ?_) fun h2 => ?_
  ·have h2 := beq_iff_eq.1 h2
   have ho : o = 2 := by omega
   subst ho
   refine .bind (Uy _ 2 (by decide) (by decide)) fun n hn => .bind (Uy _ 4 (by decide) (by decide)) fun n2 hn2 => ?_
   refine .eq Qap (.bind (Uy _ 4 (by decide) (by decide)) fun q hq => ?_)
   obtain ⟨h1, h2⟩ := Qck hq
   refine .condT h1 (.bind h2 fun e he => .condT (most64 (by simp)) ?_)
   have fq : FitQ (2, ((2 : Nat) : Int), s_, [(Qc.mk (-1) (Qa.mk 1 n s_ [])), (Qc.mk (-1) (Qa.mk 1 n2 s_ []))] ++ [(Qc.mk (-1) (Qa.mk 2 0 e []))]) :=
    .grow 2 _ (by omega) rfl (fun a ha => by
     simp only [List.cons_append, List.nil_append, List.mem_cons, List.not_mem_nil, or_false] at ha
     rcases ha with rfl | rfl | rfl
     ·exact Qec ⟨by omega, by omega⟩
     ·exact Qec ⟨by omega, by omega⟩
     ·exact okA_nm (Qe0 he))
   exact lab_to _ _ (fun e he => some_ e _ he fq) (.ret (none_ _ fq))
  ·have h2 := beq_eq_false_iff_ne.1 h2
   refine .eq Qap (.bind (Uy _ 4 (by decide) (by decide)) fun q hq => ?_)
   obtain ⟨h1, h3⟩ := Qck hq
   refine .condT h1 (.bind h3 fun e he => .condT (most64 (by simp)) ?_)
   have fq : FitQ (2, (o : Int), s_, ([] : List Qc) ++ [(Qc.mk (-1) (Qa.mk 2 0 e []))]) :=
    .grow o _ (by omega) (by rw [if_neg (by omega)]; rfl) (fun a ha => by
     simp only [List.nil_append, List.mem_cons, List.not_mem_nil, or_false] at ha
     subst ha; exact okA_nm (Qe0 he))
   exact lab_to _ _ (fun e he => some_ e _ he fq) (.ret (none_ _ fq))
 ·have h9 := of_decide_eq_false h9
  have h12 := of_decide_eq_true h12
  have hk : w64 (w64 (3 + K) - 9) = K - 6 := by rw [w64_in (n := 3 + K) (by omega) (by omega), w64_in (by omega) (by omega)]; omega
  rw [hk]
  refine .bind (QtH r hr _) fun o ho => ?_
  obtain ⟨ys, rfl, y1, y2, y3⟩ := ho
  have fq : FitQ (K - 6, 0, s_, ys) := .data _ ys (by omega) y1 y2 y3
  refine lab_to _ _ (fun e he => some_ e (K - 6, 0, s_, ys) he fq) ?_
  refine .cond (fun h => by have := beq_iff_eq.1 h; simp only at this; omega) fun _ => .ret (none_ _ fq)
 ·refine .bind (Uy r.A 5 (by decide) (by decide)) fun v hv => ?_
  obtain ⟨h1, h2⟩ := FG [s_, s_hi, UW, WY, F5] (n := 5) rfl hv
  refine .condT h1 (.bind h2 fun e he => ?_)
  have fq : FitQ (6, 0, e, []) := .ascii e (by simpa [isT] using he)
  exact lab_to _ _ (fun l hl => some_ l _ hl fq) (.ret (none_ _ fq))
 ·refine .bind (Uy r.A 6 (by decide) (by decide)) fun v hv => ?_
  obtain ⟨h1, h2⟩ := FG [(1 : Int), 2, 4, 8, 16, 3] (n := 6) rfl hv
  refine .condT h1 (.bind h2 fun e he => ?_)
  have hb : ∀ v ∈ [(1 : Int), 2, 4, 8, 16, 3], 0 ≤ v ∧ v < 4294967296 := by decide
  have fq : FitQ (7, 0, s_, [(Qc.mk (-1) (Qa.mk 1 e s_ []))]) := .one 7 _ (.inl rfl) (Qec (hb e he))
  exact lab_to _ _ (fun l hl => some_ l _ hl fq) (.ret (none_ _ fq))
 ·refine .bind (Uy r.A 8 (by decide) (by decide)) fun v hv => ?_
  obtain ⟨h1, h2⟩ := FG [(0 : Int), 2, 100, 250, 252, 254, 256, 7] (n := 8) rfl hv
  refine .condT h1 (.bind h2 fun e he => ?_)
  have hb : ∀ v ∈ [(0 : Int), 2, 100, 250, 252, 254, 256, 7], 0 ≤ v ∧ v < 4294967296 := by decide
  have fq : FitQ (8, 0, s_, [(Qc.mk (-1) (Qa.mk 1 e s_ []))]) := .one 8 _ (.inr rfl) (Qec (hb e he))
  exact lab_to _ _ (fun l hl => some_ l _ hl fq) (.ret (none_ _ fq))
 ·refine .bind (Uy r.A 3 (by decide) (by decide)) fun v hv => ?_
  obtain ⟨h1, h2⟩ := FG [s_k, G6, s_x] (n := 3) rfl hv
  refine .condT h1 (.bind h2 fun e he => .eq hx ?_)
  have fq : FitQ (9, 0, e, [(Qc.mk (-1) x.t)]) := .equ e _ (by simpa [isE] using he) (okA_x hx1 hx2)
  exact lab_to _ _ (fun l hl => some_ l _ hl fq) (.ret (none_ _ fq))
theorem QoW (l : List QB) (hl : l.length ≤ maxLen) (hw : ∀ r ∈ l, Fx r) : ∀ (g i : Nat), g + i = l.length → To (fun o => Sum.elim (fun b => b = false) (fun _ => ∀ r ∈ l.drop i, okR r) o) (Xl ⟨l, i⟩)
 | 0, i, hg => by
  rw [Xl.eq]; unfold SH
  simp only
  rw [decide_eq_false (show ¬ (i : Int) < ((l.length : Nat) : Int) by omega), cond_false, List.drop_eq_nil_of_le (by omega)]
  exact ⟨_, rfl, fun r hr => by cases hr⟩
 | g + 1, i, hg => by
  have hi : i < l.length := by omega
  have hml : l.length ≤ 9223372036854775807 := by unfold maxLen at hl; omega
  rw [Xl.eq]; unfold SH
  simp only
  have hg1 : l[Int.toNat (i : Int)]? = some l[i] := by rw [Int.toNat_natCast, List.getElem?_eq_getElem hi]
  rw [decide_eq_true (show (i : Int) < ((l.length : Nat) : Int) by omega), cond_true, decide_eq_true (show 0 ≤ (i : Int) by omega), cond_true, hg1]
  simp only [Option.bind_some]
  have hwi := hw _ (List.getElem_mem hi)
  have hE : l[i].E.length ≤ maxLen ∧ ∀ r ∈ l[i].E, YQ r := by cases hwi with | mk h0 h1 h2 h3 h4 h5 h6 h7 => exact ⟨h5, h6⟩
  obtain ⟨b, h1, h2⟩ := Qub l[i].E hE.1 hE.2
  rw [h1]
  simp only [Option.bind_some]
  cases b with
  | false => exact ⟨_, rfl, rfl⟩
  | true =>
   simp only [Bool.not_true, cond_false]
   by_cases hn : l[i].Ns.length ≤ 60
   ·rw [decide_eq_false (show ¬ ((l[i].Ns.length : Nat) : Int) > 60 by omega), cond_false, w64_in (by omega) (by omega)]
    simp only [Option.bind_some, Sum.elim_inl]
    have ih := QoW l hl hw g (i + 1) (by omega)
    refine To.mono ih fun o ho => ?_
    cases o with
    | inl b => exact ho
    | inr u =>
     intro r hr
     rw [List.drop_eq_getElem_cons hi] at hr
     rcases List.mem_cons.1 hr with rfl | hr
     ·exact ⟨h2 rfl, hn⟩
     ·exact ho r hr
   ·rw [decide_eq_true (show ((l[i].Ns.length : Nat) : Int) > 60 by omega)]
    exact ⟨_, rfl, rfl⟩
theorem few_to (l : List QB) (hl : l.length ≤ maxLen) (hw : ∀ r ∈ l, Fx r) : To (fun b => b = true → ∀ r ∈ l, okR r) (E7 l) := by
 rw [E7.eq]; unfold Qji
 have := QoW l hl hw l.length 0 (by omega)
 have : To _ (Xl ⟨l, 0⟩) := this
 refine .bind this fun o ho => ?_
 cases o with
 | inl b => exact .ret fun h => by have ho : b = false := ho; rw [ho] at h; cases h
 | inr u => exact .ret fun _ => ho
end Go.Ab
set_option maxRecDepth 100000
namespace Go.Ab
def ArgT (a : Qc) (t : List UInt8) : Prop := (∃ m : Nat, m ≤ 31 ∧ a = ⟨(m : Int), E0⟩ ∧ t = 114 :: Lib.decDigits m) ∨ ∃ x : X3, a = ⟨-1, x.t⟩ ∧ okW x ∧ x.d ≤ 7 ∧ t = tx x
theorem ArgT.len {a : Qc} {t : List UInt8} (h : ArgT a t) : t.length ≤ 2600 := by
 rcases h with ⟨m, hm, _, rfl⟩ | ⟨x, _, hx, hd, rfl⟩
 ·have := Su 2 m (by omega) (by omega); simp only [List.length_cons]; omega
 ·have hl := (tx_len x hx).1
  have hp : 20 * 2 ^ x.d ≤ 20 * 2 ^ 7 := Nat.mul_le_mul (Nat.le_refl _) (Nat.pow_le_pow_right (by omega) hd)
  omega
theorem Qed {a : Qc} (h : okA a) : ∃ t, ArgT a t := by
 obtain ⟨x, e, hx, hd⟩ := h
 exact ⟨tx x, .inr ⟨x, e, hx, hd, rfl⟩⟩
theorem QtI {m : Nat} (h : m ≤ 31) : ArgT ⟨(m : Int), E0⟩ (114 :: Lib.decDigits m) := .inl ⟨m, h, rfl, rfl⟩
inductive ArgsT : List Qc → List (List UInt8) → Prop
 | nil : ArgsT [] []
 | cons (a t zs ts) : ArgT a t → ArgsT zs ts → ArgsT (a :: zs) (t :: ts)
theorem ArgsT.length {zs : List Qc} {ts : List (List UInt8)} (h : ArgsT zs ts) : ts.length = zs.length := by induction h with | nil => rfl | cons _ _ _ _ _ _ ih => simp [ih]
theorem Sy : ∀ (zs : List Qc), (∀ a ∈ zs, ∃ t, ArgT a t) → ∃ ts, ArgsT zs ts
 | [], _ => ⟨[], .nil⟩
 | a :: zs, h => by
  obtain ⟨t, ht⟩ := h a (by simp)
  obtain ⟨ts, hts⟩ := Sy zs (fun b hb => h b (by simp [hb]))
  exact ⟨t :: ts, .cons _ _ _ _ ht hts⟩
theorem Qqj (s : ByteArray) (st : Qb) (hn : st.Args.length ≤ 100) : ∀ (zs : List Qc) (ts : List (List UInt8)) (i : Nat) (out : List ByteArray), ArgsT zs ts → st.Args.drop i = zs → i ≤ st.Args.length → out.length ≤ i + 2 → Jz ⟨s, i, st, out⟩ = some ⟨s, out ++ ts.map ba⟩
 | [], ts, i, out, h, hd, hi, ho => by
  cases h
  rw [Jz.eq]; unfold Pu
  have : st.Args.length ≤ i := List.drop_eq_nil_iff.1 hd
  simp only
  rw [decide_eq_false (show ¬ (i : Int) < ((st.Args.length : Nat) : Int) by omega), cond_false]; simp
 | a :: zs, ts, i, out, h, hd, hi, ho => by
  cases h with
  | cons _ t _ ts' ht hts =>
  have hlt : i < st.Args.length := by
   rcases Nat.lt_or_ge i st.Args.length with h | h
   ·exact h
   ·rw [List.drop_eq_nil_of_le h] at hd; cases hd
  have hdd := List.drop_eq_getElem_cons hlt
  rw [hd] at hdd
  have ha := (List.cons.inj hdd).1
  have hz := (List.cons.inj hdd).2
  rw [Jz.eq]; unfold Pu
  have hg1 : st.Args[Int.toNat (i : Int)]? = some a := by rw [Int.toNat_natCast, List.getElem?_eq_getElem hlt, ← ha]
  simp only
  rw [decide_eq_true (show (i : Int) < ((st.Args.length : Nat) : Int) by omega), cond_true, decide_eq_true (show 0 ≤ (i : Int) by omega), cond_true, hg1]
  simp only [Option.bind_some]
  have m : ∀ x : ByteArray, decide ((out.length + [x].length) * 16 ≤ most) = true := fun x => most16 (by simp only [List.length_singleton]; omega)
  have ih := Qqj s st hn zs ts' (i + 1) (out ++ [ba t]) hts hz.symm (by omega) (by simp; omega)
  have ih : Jz ⟨s, (i : Int) + 1, st, out ++ [ba t]⟩ = _ := ih
  rcases ht with ⟨n, hn1, rfl, rfl⟩ | ⟨x, rfl, hx, hxd, rfl⟩
  ·have d := Su 2 n (by omega) (by omega)
   rw [decide_eq_true (show ((n : Nat) : Int) ≥ 0 by omega), cond_true, PN (by omega)]
   simp only [Option.bind_some]
   rw [show s_r = ba [114] from rfl, guardS [114] _ (by simp; omega), cond_true, VT, m, cond_true, w64_in (by omega) (by omega)]
   simp only [Option.bind_some, Sum.elim_inl]
   rw [show ([114] : List UInt8) ++ Lib.decDigits n = 114 :: Lib.decDigits n from rfl, ih]; simp
  ·rw [decide_eq_false (show ¬ (-1 : Int) ≥ 0 by omega), cond_false, (Qrj x hx (by omega)).1]
   simp only [Option.bind_some]
   rw [m, cond_true, w64_in (by omega) (by omega)]
   simp only [Option.bind_some, Sum.elim_inl]
   rw [ih]; simp
def joinC : List (List UInt8) → List UInt8
 | [] => []
 | [t] => t
 | t :: u :: l => t ++ (44 :: 32 :: joinC (u :: l))
def tailC : List (List UInt8) → List UInt8
 | [] => []
 | t :: l => 44 :: 32 :: (t ++ tailC l)
theorem Qe1 : ∀ (t : List UInt8) (l : List (List UInt8)), joinC (t :: l) = t ++ tailC l
 | t, [] => by simp [joinC, tailC]
 | t, u :: l => by rw [joinC, Qe1 u l, tailC]
theorem Qmy : ∀ (l : List (List UInt8)) (n : Nat), (∀ t ∈ l, t.length ≤ n) → (tailC l).length ≤ l.length * (n + 2)
 | [], n, h => by simp [tailC]
 | t :: l, n, h => by
  have h1 := h t (by simp)
  have h2 := Qmy l n (fun u hu => h u (by simp [hu]))
  simp only [tailC, List.length_cons, List.length_append]
  rw [Nat.add_mul]; omega
theorem QoX (ts : List (List UInt8)) (hl : ts.length ≤ 100) (ht : ∀ t ∈ ts, t.length ≤ 2700) : ∀ (l : List (List UInt8)) (i : Nat) (s : List UInt8), ts.drop i = l → 1 ≤ i → i ≤ ts.length → s.length ≤ 10000 + i * 2702 → Jt ⟨ba s, i, ts.map ba⟩ = some (ba (s ++ tailC l))
 | [], i, s, hd, h1, hi, hs => by
  rw [Jt.eq]; unfold Eo
  have : ts.length ≤ i := List.drop_eq_nil_iff.1 hd
  simp only
  rw [List.length_map, decide_eq_false (show ¬ (i : Int) < ((ts.length : Nat) : Int) by omega), cond_false]
  simp [tailC]
 | t :: l, i, s, hd, h1, hi, hs => by
  have hlt : i < ts.length := by
   rcases Nat.lt_or_ge i ts.length with h | h
   ·exact h
   ·rw [List.drop_eq_nil_of_le h] at hd; cases hd
  have hdd := List.drop_eq_getElem_cons hlt
  rw [hd] at hdd
  have ha := (List.cons.inj hdd).1
  have hz := (List.cons.inj hdd).2
  have htl := ht t (by rw [ha]; exact List.getElem_mem hlt)
  rw [Jt.eq]; unfold Eo
  have hg1 : (ts.map ba)[Int.toNat (i : Int)]? = some (ba t) := by rw [Int.toNat_natCast, List.getElem?_map, List.getElem?_eq_getElem hlt, ← ha]; rfl
  have hb : i * 2702 ≤ 100 * 2702 := Nat.mul_le_mul (by omega) (Nat.le_refl _)
  simp only
  rw [List.length_map, decide_eq_true (show (i : Int) < ((ts.length : Nat) : Int) by omega), cond_true, show ((i : Int) == 0) = false from beq_eq_false_iff_ne.2 (by omega), cond_false]
  rw [decide_eq_true (show 0 ≤ (i : Int) ∧ (i : Int) < ((ts.length : Nat) : Int) by omega), hg1, show Qbm = ba [44, 32] from rfl, guardS s [44, 32] (by simp; omega), cond_true, cond_true]
  simp only [Option.bind_some]
  rw [VT, guardS (s ++ [44, 32]) t (by simp; omega), cond_true, VT, w64_in (by omega) (by omega)]
  simp only [Option.bind_some, Sum.elim_inl]
  have ih := QoX ts hl ht l (i + 1) (s ++ [44, 32] ++ t) hz.symm (by omega) (by omega) (by simp only [List.length_append, List.length_cons, List.length_nil]; rw [Nat.add_mul]; omega)
  have ih : Jt ⟨ba (s ++ [44, 32] ++ t), (i : Int) + 1, ts.map ba⟩ = _ := ih
  rw [ih]; simp [tailC]
theorem Qus (ts : List (List UInt8)) (hl : ts.length ≤ 100) (ht : ∀ t ∈ ts, t.length ≤ 2700) (s : List UInt8) (hs : s.length ≤ 5000) : Jt ⟨ba s, 0, ts.map ba⟩ = some (ba (s ++ (if ts = [] then [] else 32 :: joinC ts))) := by
 rw [Jt.eq]; unfold Eo
 cases ts with
 | nil => simp only; rw [show decide ((0 : Int) < ((([].map ba : List ByteArray).length : Nat) : Int)) = false from rfl]; simp
 | cons t l =>
  have htl := ht t (by simp)
  simp only
  rw [List.length_map, decide_eq_true (show (0 : Int) < (((t :: l).length : Nat) : Int) by simp only [List.length_cons]; omega), cond_true, show ((0 : Int) == 0) = true from rfl, cond_true]
  rw [decide_eq_true (show 0 ≤ (0 : Int) ∧ (0 : Int) < (((t :: l).length : Nat) : Int) by simp only [List.length_cons]; omega), show h_20 = ba [32] from rfl, guardS s [32] (by simp; omega), cond_true, cond_true, show ((t :: l).map ba)[Int.toNat 0]? = some (ba t) from rfl]
  simp only [Option.bind_some]
  rw [VT, guardS (s ++ [32]) t (by simp; omega), cond_true, VT, show w64 (0 + 1) = 1 from rfl]
  simp only [Option.bind_some, Sum.elim_inl]
  have ih := QoX (t :: l) hl ht l 1 (s ++ [32] ++ t) rfl (by omega) (by simp) (by simp; omega)
  have ih : Jt ⟨ba (s ++ [32] ++ t), 1, (t :: l).map ba⟩ = _ := ih
  rw [ih, if_neg (by simp), Qe1]; simp
end Go.Ab
set_option maxRecDepth 100000
namespace Go.Ab
def lstT (q : SQ) (ts : List (List UInt8)) : List (List UInt8) := if q.1 = 6 then (34 :: (bl q.2.2.1 ++ [34])) :: ts else if q.1 = 9 then bl q.2.2.1 :: ts else ts
theorem Qqk {s : ByteArray} (h : isT s) : (bl s).length ≤ 20 := by rcases h with rfl | rfl | rfl | rfl | rfl <;> decide
theorem Qql {s : ByteArray} (h : isE s) : (bl s).length ≤ 20 := by rcases h with rfl | rfl | rfl <;> decide
theorem Qqm {s : ByteArray} (h : isL s) : (bl s).length ≤ 20 ∧ s ≠ s_ := by
 rcases h with rfl | rfl | rfl | rfl <;> exact ⟨by decide, by decide +kernel⟩
noncomputable def coreT (X : ByteArray) (st : Qb) : Option ByteArray := (bif (st.Kind == (6 : Int)) then (bif (decide (((h_22.size + st.Text.size : Nat) : Int) ≤ IntKind.i64.max)) then (bif (decide ((((h_22 ++ st.Text).size + h_22.size : Nat) : Int) ≤ IntKind.i64.max)) then (bif (decide ([((h_22 ++ st.Text) ++ h_22)].length * 16 ≤ most)) then (bif (st.Kind == (9 : Int)) then (bif (decide (([((h_22 ++ st.Text) ++ h_22)].length + [st.Text].length) * 16 ≤ most)) then ((Jz (QI.mk X (0 : Int) st ([((h_22 ++ st.Text) ++ h_22)] ++ [st.Text]))).bind (fun (o20 : Jr) => ((Jt (QJ.mk o20.x3 (0 : Int) o20.r0)).bind (fun (o21 : ByteArray) => (some o21))))) else none) else ((Jz (QI.mk X (0 : Int) st [((h_22 ++ st.Text) ++ h_22)])).bind (fun (o22 : Jr) => ((Jt (QJ.mk o22.x3 (0 : Int) o22.r0)).bind (fun (o23 : ByteArray) => (some o23)))))) else none) else none) else none) else (bif (st.Kind == (9 : Int)) then (bif (decide ([st.Text].length * 16 ≤ most)) then ((Jz (QI.mk X (0 : Int) st [st.Text])).bind (fun (o24 : Jr) => ((Jt (QJ.mk o24.x3 (0 : Int) o24.r0)).bind (fun (o25 : ByteArray) => (some o25))))) else none) else ((Jz (QI.mk X (0 : Int) st ([] : List ByteArray))).bind (fun (o26 : Jr) => ((Jt (QJ.mk o26.x3 (0 : Int) o26.r0)).bind (fun (o27 : ByteArray) => (some o27)))))))
theorem QjJ (S : List UInt8) (hS : S.length ≤ 5000) (st : Qb) (hn : st.Args.length ≤ 90) (ts : List (List UInt8)) (ha : ArgsT st.Args ts) (pre_ : List (List UInt8)) (hp : pre_.length ≤ 2) (hpl : ∀ t ∈ pre_, t.length ≤ 2700) :
  ((Jz (QI.mk (ba S) (0 : Int) st (pre_.map ba))).bind (fun (o2 : Jr) => ((Jt (QJ.mk o2.x3 (0 : Int) o2.r0)).bind (fun (o3 : ByteArray) => (some o3))))) = some (ba (S ++ (if pre_ ++ ts = [] then [] else 32 :: joinC (pre_ ++ ts)))) := by
 have h1 := Qqj (ba S) st (by omega) st.Args ts 0 (pre_.map ba) ha rfl (by omega) (by simp; omega)
 have h1 : Jz ⟨ba S, 0, st, pre_.map ba⟩ = _ := h1
 rw [h1]
 simp only [Option.bind_some]
 have hlen := ha.length
 have hts : ∀ t ∈ pre_ ++ ts, t.length ≤ 2700 := by
  intro t ht
  rcases List.mem_append.1 ht with h | h
  ·exact hpl t h
  ·have key : ∀ (zs : List Qc) (ts : List (List UInt8)), ArgsT zs ts → ∀ t ∈ ts, t.length ≤ 2600 := by
    intro zs ts h
    induction h with
    | nil => intro t ht; cases ht
    | cons a t zs ts h1 _ ih =>
     intro u hu
     rcases List.mem_cons.1 hu with rfl | hu
     ·exact h1.len
     ·exact ih u hu
   have := key _ _ ha t h
   omega
 have h2 := Qus (pre_ ++ ts) (by simp; omega) hts S hS
 rw [List.map_append] at h2
 rw [h2]; rfl
theorem FitQ.args {q : SQ} (h : FitQ q) : q.2.2.2.length ≤ 10 ∧ ∃ ts, ArgsT q.2.2.2 ts := by
 have reg : ∀ k, k < 66 → (RG k).length ≤ 8 := fun k hk => by
  obtain ⟨a, l, b, m, _, _, h3, h4, _⟩ := QeU hk
  rw [← QeV l _ h4]; exact h3
 cases h with
 | inst k zs hk hl ha =>
  refine ⟨by have := reg k hk; show zs.length ≤ 10; omega, Sy zs fun a hm => ?_⟩
  obtain ⟨i, hi⟩ := List.mem_iff_getElem?.1 hm
  have := ha i a hi
  split at this
  ·obtain ⟨m, hm2, rfl⟩ := this; exact ⟨_, QtI hm2⟩
  ·exact Qed this
 | grow o zs ho hl ha => exact ⟨by show zs.length ≤ 10; rw [hl]; split <;> omega, Sy zs fun a hm => Qed (ha a hm)⟩
 | data k zs hk h1 h4 ha => exact ⟨by show zs.length ≤ 10; omega, Sy zs fun a hm => Qed (ha a hm)⟩
 | ascii t ht => exact ⟨by show 0 ≤ 10; omega, [], .nil⟩
 | one k a hk ha => exact ⟨by show 1 ≤ 10; omega, Sy [a] fun b hb => by simp at hb; subst hb; exact Qed ha⟩
 | equ w a hw ha => exact ⟨by show 1 ≤ 10; omega, Sy [a] fun b hb => by simp at hb; subst hb; exact Qed ha⟩
theorem Qqn (S : List UInt8) (hS : S.length ≤ 5000) (lb : ByteArray) {q : SQ} (hq : FitQ q) (ts : List (List UInt8)) (ha : ArgsT q.2.2.2 ts) : coreT (ba S) (mkS lb q) = some (ba (S ++ (if lstT q ts = [] then [] else 32 :: joinC (lstT q ts)))) := by
 have hn := hq.args.1
 unfold coreT
 have plain : q.1 ≠ 6 → q.1 ≠ 9 → coreT (ba S) (mkS lb q) = some (ba (S ++ (if lstT q ts = [] then [] else 32 :: joinC (lstT q ts)))) := by
  intro h6 h9
  unfold coreT lstT
  rw [if_neg h6, if_neg h9, show ((mkS lb q).Kind == 6) = false from beq_eq_false_iff_ne.2 h6, show ((mkS lb q).Kind == 9) = false from beq_eq_false_iff_ne.2 h9, cond_false, cond_false]
  exact QjJ S hS (mkS lb q) (by show q.2.2.2.length ≤ 90; omega) ts ha [] (by simp) (by simp)
 unfold coreT at plain
 cases hq with
 | inst k zs _ _ _ => exact plain (by show (1 : Int) ≠ 6; decide) (by show (1 : Int) ≠ 9; decide)
 | grow o zs _ _ _ => exact plain (by show (2 : Int) ≠ 6; decide) (by show (2 : Int) ≠ 9; decide)
 | data k zs hk _ _ _ => exact plain (by show k ≠ 6; omega) (by show k ≠ 9; omega)
 | one k a hk _ => exact plain (by show k ≠ 6; omega) (by show k ≠ 9; omega)
 | ascii t ht =>
  have hl := Qqk ht
  have hsz : t.size ≤ 20 := by rw [P2]; exact hl
  have e : t = ba (bl t) := (ba_bl t).symm
  have hT : (mkS lb (6, 0, t, [])).Text = ba (bl t) := e
  rw [hT, show ((mkS lb (6, 0, t, [])).Kind == 6) = true from rfl, cond_true, show ((mkS lb (6, 0, t, [])).Kind == 9) = false from rfl, cond_false, show h_22 = ba [34] from rfl, guardS [34] _ (by simp; omega), cond_true, VT, guardS _ [34] (by simp; omega), cond_true, VT]
  rw [show decide (([ba ([34] ++ bl t ++ [34])].length) * 16 ≤ most) = true from rfl, cond_true]
  have := QjJ S hS (mkS lb (6, 0, t, [])) (by show 0 ≤ 90; omega) ts ha [[34] ++ bl t ++ [34]] (by simp) (by simp; omega)
  rw [show ([[34] ++ bl t ++ [34]] : List (List UInt8)).map ba = [ba ([34] ++ bl t ++ [34])] from rfl] at this
  rw [this]; rfl
 | equ w a hw h =>
  have hl := Qql hw
  have hsz : w.size ≤ 20 := by rw [P2]; exact hl
  have e : w = ba (bl w) := (ba_bl w).symm
  have hT : (mkS lb (9, 0, w, [a])).Text = ba (bl w) := e
  rw [hT, show ((mkS lb (9, 0, w, [a])).Kind == 6) = false from rfl, cond_false, show ((mkS lb (9, 0, w, [a])).Kind == 9) = true from rfl, cond_true]
  rw [show decide (([ba (bl w)].length) * 16 ≤ most) = true from rfl, cond_true]
  have := QjJ S hS (mkS lb (9, 0, w, [a])) (by show 1 ≤ 90; omega) ts ha [bl w] (by simp) (by simp; omega)
  rw [show ([bl w] : List (List UInt8)).map ba = [ba (bl w)] from rfl] at this
  rw [this]; rfl
theorem QtJ : (D0.all fun r => decide (0 < r.Name.size ∧ r.Name.size ≤ 20)) = true := by kernel_rfl
theorem Qut {k : Nat} (hk : k < 66) : ∃ r, D0[k]? = some r ∧ 0 < r.Name.size ∧ r.Name.size ≤ 20 := by
 have : k < D0.length := by rw [D0_len]; exact hk
 refine ⟨D0[k], List.getElem?_eq_getElem this, ?_⟩
 exact of_decide_eq_true (List.all_eq_true.1 QtJ _ (List.getElem_mem this))
def nameQ (q : SQ) : ByteArray := if q.1 = 1 then ((D0[q.2.1.toNat]?).map (·.Name)).getD s_ else if q.1 = 2 then (if q.2.1 = 0 then s_b else if q.2.1 = 1 then s_bl else s_bc) else if q.1 = 3 then Q6 else if q.1 = 4 then Q7 else if q.1 = 5 then Q8 else if q.1 = 6 then J2 else if q.1 = 7 then Q0 else if q.1 = 8 then Q1 else VB
theorem Qqo (lb : ByteArray) {q : SQ} (hq : FitQ q) : Zv (mkS lb q) = some (nameQ q) ∧ 0 < (nameQ q).size ∧ (nameQ q).size ≤ 20 := by
 rw [Zv.eq]; unfold Qg6
 cases hq with
 | inst k zs hk _ _ =>
  obtain ⟨r, h1, h2, h3⟩ := Qut hk
  have e : nameQ (1, (k : Int), s_, zs) = r.Name := by unfold nameQ; rw [if_pos rfl]; show ((D0[(k : Int).toNat]?).map (·.Name)).getD s_ = _; rw [Int.toNat_natCast, h1]; rfl
  rw [e]
  refine ⟨?_, h2, h3⟩
  rw [show ((mkS lb (1, (k : Int), s_, zs)).Kind == 1) = true from rfl, cond_true]
  show (Gm (k : Int)).bind _ = _
  rw [Qtw h1]; rfl
 | grow o zs ho _ _ =>
  have : o = 0 ∨ o = 1 ∨ o = 2 := by omega
  rcases this with rfl | rfl | rfl
  ·exact ⟨rfl, (show 0 < s_b.size by decide), (show s_b.size ≤ 20 by decide)⟩
  ·exact ⟨rfl, (show 0 < s_bl.size by decide), (show s_bl.size ≤ 20 by decide)⟩
  ·exact ⟨rfl, (show 0 < s_bc.size by decide), (show s_bc.size ≤ 20 by decide)⟩
 | data k zs hk _ _ _ =>
  rcases hk with rfl | rfl | rfl
  ·exact ⟨rfl, (show 0 < Q6.size by decide), (show Q6.size ≤ 20 by decide)⟩
  ·exact ⟨rfl, (show 0 < Q7.size by decide), (show Q7.size ≤ 20 by decide)⟩
  ·exact ⟨rfl, (show 0 < Q8.size by decide), (show Q8.size ≤ 20 by decide)⟩
 | ascii t ht => exact ⟨rfl, by show 0 < J2.size; decide, by show J2.size ≤ 20; decide⟩
 | one k a hk _ =>
  rcases hk with rfl | rfl
  ·exact ⟨rfl, (show 0 < Q0.size by decide), (show Q0.size ≤ 20 by decide)⟩
  ·exact ⟨rfl, (show 0 < Q1.size by decide), (show Q1.size ≤ 20 by decide)⟩
 | equ w a hw h => exact ⟨rfl, by show 0 < VB.size; decide, by show VB.size ≤ 20; decide⟩
def labT (lb : ByteArray) : List UInt8 := if lb = s_ then [] else bl lb ++ [58, 32]
def lineT (lb : ByteArray) (q : SQ) (ts : List (List UInt8)) : List UInt8 := labT lb ++ (bl (nameQ q) ++ (if lstT q ts = [] then [] else 32 :: joinC (lstT q ts)))
theorem FitQ.kind {q : SQ} (h : FitQ q) : q.1 ≠ 0 := by
 cases h with
 | inst => show (1 : Int) ≠ 0; decide
 | grow => show (2 : Int) ≠ 0; decide
 | data k zs hk => show k ≠ 0; omega
 | ascii => show (6 : Int) ≠ 0; decide
 | one k a hk => show k ≠ 0; omega
 | equ => show (9 : Int) ≠ 0; decide
theorem Qru (lb : ByteArray) (hlb : lb = s_ ∨ isL lb) {q : SQ} (hq : FitQ q) (ts : List (List UInt8)) (ha : ArgsT q.2.2.2 ts) : Zx (mkS lb q) = some (ba (lineT lb q ts)) := by
 obtain ⟨n1, n2, n3⟩ := Qqo lb hq
 have hnl : (bl (nameQ q)).length ≤ 20 := by rw [← P2]; exact n3
 have hk : ((mkS lb q).Kind == 0) = false := beq_eq_false_iff_ne.2 hq.kind
 rw [Zx.eq]; unfold Qg9
 unfold lineT labT
 rcases hlb with rfl | hL
 ·rw [show eqS (mkS s_ q).Label s_ = true from Xn.2 rfl, if_pos rfl, hk, n1]
  simp only [Bool.not_true, cond_false, Option.bind_some]
  have g : decide (((s_.size + (nameQ q).size : Nat) : Int) ≤ IntKind.i64.max) = true := YY (by rw [show s_.size = 0 from rfl]; omega)
  rw [g, cond_true]
  have c := Qqn (bl (nameQ q)) (by omega) s_ hq ts ha
  have e : s_ ++ nameQ q = ba (bl (nameQ q)) := by
   rw [show s_ = ba [] from rfl]
   conv => lhs; rw [← ba_bl (nameQ q)]
   rw [VT]; rfl
  rw [e]
  exact c
 ·obtain ⟨l1, l2⟩ := Qqm hL
  have hsz : lb.size ≤ 20 := by rw [P2]; exact l1
  have e0 : eqS (mkS lb q).Label s_ = false := eqS_ne l2
  have eL : (mkS lb q).Label = ba (bl lb) := (ba_bl lb).symm
  rw [e0, if_neg l2, eL, show h_3a = ba [58] from rfl, guardS _ [58] (by simp; omega), VT, hk, show s_ = ba [] from rfl, eqS_ba, show h_20 = ba [32] from rfl, guardS _ [32] (by simp; omega), VT, n1]
  rw [decide_eq_false (show ¬ bl lb ++ [58] = [] by simp)]
  simp only [Bool.not_false, cond_true, cond_false, Option.bind_some]
  have e : nameQ q = ba (bl (nameQ q)) := (ba_bl _).symm
  have g : decide ((((ba (bl lb ++ [58] ++ [32])).size + (nameQ q).size : Nat) : Int) ≤ IntKind.i64.max) = true := YY (by rw [Qq]; simp; omega)
  rw [g, cond_true]
  have c := Qqn (bl lb ++ [58] ++ [32] ++ bl (nameQ q)) (by simp; omega) lb hq ts ha
  have e2 : ba (bl lb ++ [58] ++ [32]) ++ nameQ q = ba (bl lb ++ [58] ++ [32] ++ bl (nameQ q)) := by
   conv => lhs; rw [e]
   rw [VT]
  rw [e2]
  unfold coreT at c
  rw [eL, show h_22 = ba [34] from rfl] at *
  refine c.trans ?_
  simp
end Go.Ab
set_option maxRecDepth 100000
namespace Go.Ab
theorem Qsy (lb : ByteArray) (hlb : lb = s_ ∨ isL lb) {q : SQ} (hq : FitQ q) (ts : List (List UInt8)) (ha : ArgsT q.2.2.2 ts) : (lineT lb q ts).length ≤ 40000 := by
 obtain ⟨n1, n2, n3⟩ := Qqo lb hq
 have hnl : (bl (nameQ q)).length ≤ 20 := by rw [← P2]; exact n3
 have hn := hq.args.1
 have hts := ha.length
 have hT : (bl q.2.2.1).length ≤ 20 := by
  cases hq with
  | inst => show (bl s_).length ≤ 20; decide
  | grow => show (bl s_).length ≤ 20; decide
  | data => show (bl s_).length ≤ 20; decide
  | ascii t ht => exact Qqk ht
  | one => show (bl s_).length ≤ 20; decide
  | equ w a hw h => exact Qql hw
 have key : ∀ (zs : List Qc) (ts : List (List UInt8)), ArgsT zs ts → ∀ t ∈ ts, t.length ≤ 2600 := by
  intro zs ts h
  induction h with
  | nil => intro t ht; cases ht
  | cons a t zs ts h1 _ ih =>
   intro u hu
   rcases List.mem_cons.1 hu with rfl | hu
   ·exact h1.len
   ·exact ih u hu
 have hk := key _ _ ha
 have hlst : (lstT q ts).length ≤ 11 ∧ ∀ t ∈ lstT q ts, t.length ≤ 2600 := by
  unfold lstT
  split
  ·refine ⟨by simp only [List.length_cons]; omega, fun t ht => ?_⟩
   rcases List.mem_cons.1 ht with rfl | ht
   ·simp only [List.length_cons, List.length_append, List.length_nil]; omega
   ·exact hk t ht
  ·split
   ·refine ⟨by simp only [List.length_cons]; omega, fun t ht => ?_⟩
    rcases List.mem_cons.1 ht with rfl | ht
    ·omega
    ·exact hk t ht
   ·exact ⟨by omega, hk⟩
 have hjoin : (joinC (lstT q ts)).length ≤ 30000 := by
  cases h : lstT q ts with
  | nil => simp [joinC]
  | cons t l =>
   rw [h] at hlst
   rw [Qe1, List.length_append]
   have h1 := hlst.2 t (by simp)
   have h2 := Qmy l 2600 (fun u hu => hlst.2 u (by simp [hu]))
   have h3 := hlst.1
   simp only [List.length_cons] at h3
   have : l.length * 2602 ≤ 10 * 2602 := Nat.mul_le_mul (by omega) (Nat.le_refl _)
   omega
 have hlab : (labT lb).length ≤ 22 := by
  unfold labT
  rcases hlb with rfl | hL
  ·rw [if_pos rfl]; simp
  ·obtain ⟨l1, l2⟩ := Qqm hL
   rw [if_neg l2]
   simp only [List.length_append, List.length_cons, List.length_nil]; omega
 unfold lineT
 simp only [List.length_append]
 split
 ·simp only [List.length_nil]; omega
 ·simp only [List.length_cons]; omega
theorem Qsz (r : QB) (hr : okR r) : ∃ lb q ts, W7 r = some (mkS lb q) ∧ (lb = s_ ∨ isL lb) ∧ FitQ q ∧ ArgsT q.2.2.2 ts ∧ Zx (mkS lb q) = some (ba (lineT lb q ts)) ∧ (lineT lb q ts).length ≤ 40000 := by
 obtain ⟨st, h1, lb, q, rfl, hlb, hq⟩ := Qur r hr
 obtain ⟨ts, hts⟩ := hq.args.2
 exact ⟨lb, q, ts, h1, hlb, hq, hts, Qru lb hlb hq ts hts, Qsy lb hlb hq ts hts⟩
end Go.Ab
set_option maxRecDepth 100000
namespace Go.Ab
end Go.Ab
set_option maxRecDepth 100000
namespace Go.Ab
end Go.Ab
set_option maxRecDepth 100000
namespace Go.Ab
end Go.Ab
set_option maxRecDepth 100000
namespace Go.Ab
noncomputable def okL (n : Nat) : List (List UInt8) → List Qb
 | [] => []
 | s :: ls => (match lineS s with | some x => if x.Line > 0 then [⟨(n : Int) + 1, x.Label, x.Kind, x.Op, x.Text, x.Args⟩] else [] | none => []) ++ okL (n + 1) ls
noncomputable def badL (n : Nat) : List (List UInt8) → List Int
 | [] => []
 | s :: ls => (match lineS s with | some _ => [] | none => [(n : Int) + 1]) ++ badL (n + 1) ls
theorem Qly : ∀ (ls : List (List UInt8)) (n : Nat), (okL n ls).length ≤ ls.length
 | [], n => Nat.le_refl _
 | s :: ls, n => by
  have := Qly ls (n + 1)
  rw [okL, List.length_append, List.length_cons]
  split
  ·split <;> simp <;> omega
  ·simp; omega
theorem QjK : ∀ (ls : List (List UInt8)) (n : Nat), (badL n ls).length ≤ ls.length
 | [], n => Nat.le_refl _
 | s :: ls, n => by
  have := QjK ls (n + 1)
  rw [badL, List.length_append, List.length_cons]
  split <;> simp <;> omega
theorem most80 {n : Nat} (h : n ≤ 1000000001) : decide (n * 80 ≤ most) = true := decide_eq_true (by show n * 80 ≤ 140737488355328; omega)
theorem most8 {n : Nat} (h : n ≤ 1000000001) : decide (n * 8 ≤ most) = true := decide_eq_true (by show n * 8 ≤ 140737488355328; omega)
theorem Qmz (x : Qb) : resS (some x) = (x, true) := rfl
theorem QmA : resS none = (E_st, false) := rfl
theorem QkT (ls : List (List UInt8)) (hl : ls.length ≤ 10000001) (hs : ∀ s ∈ ls, s.length ≤ 10000000) : ∀ (g i : Nat) (r0 : List Qb) (r1 : List Int), g + i = ls.length → r0.length ≤ i → r1.length ≤ i →
  Vu ⟨ls.map ba, ((ls.length : Nat) : Int), i, r0, r1⟩ = some ⟨r0 ++ okL i (ls.drop i), r1 ++ badL i (ls.drop i)⟩
 | 0, i, r0, r1, hg, h0, h1 => by
  rw [Vu.eq]; unfold GZ
  simp only
  rw [decide_eq_false (show ¬ (i : Int) < ((ls.length : Nat) : Int) by omega), cond_false, List.drop_eq_nil_of_le (by omega)]
  simp [okL, badL]
 | g + 1, i, r0, r1, hg, h0, h1 => by
  have hi : i < ls.length := by omega
  rw [Vu.eq]; unfold GZ
  have hg1 : (ls.map ba)[Int.toNat (i : Int)]? = some (ba ls[i]) := by rw [Int.toNat_natCast, List.getElem?_map, List.getElem?_eq_getElem hi]; rfl
  simp only
  rw [decide_eq_true (show (i : Int) < ((ls.length : Nat) : Int) by omega), cond_true, decide_eq_true (show 0 ≤ (i : Int) by omega), cond_true, hg1, Option.bind_some, QpL _ (hs _ (List.getElem_mem hi)), Option.bind_some, w64_in (by omega) (by omega)]
  have ih := fun r0 r1 h0 h1 => QkT ls hl hs g (i + 1) r0 r1 (by omega) h0 h1
  have ih : ∀ r0 r1, r0.length ≤ i + 1 → r1.length ≤ i + 1 → Vu ⟨ls.map ba, ((ls.length : Nat) : Int), (i : Int) + 1, r0, r1⟩ = _ := ih
  rw [List.drop_eq_getElem_cons hi, okL, badL]
  cases hx : lineS ls[i] with
  | none =>
   rw [QmA]
   simp only [Bool.not_false, cond_true]
   rw [most8 (by simp only [List.length_singleton]; omega), cond_true]
   simp only [Option.bind_some, Sum.elim_inl]
   rw [ih _ _ (by omega) (by simp; omega)]; simp
  | some x =>
   rw [Qmz]
   simp only [Bool.not_true, cond_false]
   by_cases hp : x.Line > 0
   ·rw [decide_eq_true hp, if_pos hp, cond_true, most80 (by simp only [List.length_singleton]; omega), cond_true]
    simp only [Option.bind_some, Sum.elim_inl]
    rw [ih _ _ (by simp; omega) (by omega)]; simp
   ·rw [decide_eq_false hp, if_neg hp, cond_false]
    simp only [Option.bind_some, Sum.elim_inl]
    rw [ih _ _ (by omega) (by omega)]; simp
theorem Qm8 (s : List UInt8) (hs : s.length ≤ 10000000) : Yr (ba s) = some (okL 0 (splL 10 s), badL 0 (splL 10 s)) := by
 obtain ⟨h1, h2⟩ := Qci 10 s
 rw [Yr.eq]; unfold Qcf
 have e1 : WD (ba s) h_0a = some ((splL 10 s).map ba) := by
  show splitS (ba s) h_0a = _
  unfold splitS
  rw [if_pos ⟨by rw [Qq]; omega, rfl⟩]
  have e : (ba s).data.toList = s := by rw [ba]
  rw [e]; rfl
 have e2 := QkT (splL 10 s) (by omega) (fun p hp => Nat.le_trans (h2 p hp) hs) (splL 10 s).length 0 [] [] (by omega) (by simp) (by simp)
 have e2 : Vu ⟨(splL 10 s).map ba, (((splL 10 s).length : Nat) : Int), 0, [], []⟩ = _ := e2
 rw [e1, Option.bind_some, List.length_map, e2, Option.bind_some, List.drop_zero, List.nil_append, List.nil_append]
 have l1 := Qly (splL 10 s) 0
 have l2 := QjK (splL 10 s) 0
 have c1 : XL (okL 0 (splL 10 s)) = some (okL 0 (splL 10 s)) := by
  show cloneT 80 _ = _
  unfold cloneT; rw [if_pos ⟨by omega, by unfold maxLen; omega⟩]
 have c2 : Yk (badL 0 (splL 10 s)) = some (badL 0 (splL 10 s)) := by
  show cloneB 8 _ = _
  unfold cloneB; rw [if_pos (by omega)]
 show (XL (okL 0 (splL 10 s))).bind _ = _
 rw [c1, Option.bind_some, c2]; rfl
theorem Qqp {c : UInt8} : ∀ (t r : List UInt8), c ∉ t → splL c (t ++ c :: r) = t :: splL c r
 | [], r, _ => Yz c r
 | b :: t, r, h => by
  simp only [List.mem_cons, not_or] at h
  rw [List.cons_append, Xz (fun e => h.1 e.symm) (Qqp t r h.2)]
theorem Qqq {c : UInt8} : ∀ (t : List UInt8), c ∉ t → splL c t = [t]
 | [], _ => rfl
 | b :: t, h => by
  simp only [List.mem_cons, not_or] at h
  rw [Xz (fun e => h.1 e.symm) (Qqq t h.2)]
end Go.Ab
set_option maxRecDepth 100000
namespace Go.Ab
theorem Qi0 (s : List UInt8) (hs : s.length ≤ 10000000) (at_ i n : Nat) (hai : at_ ≤ i) (hi : i ≤ s.length) (hn : n ≤ i) (r0 : List Qb) (r1 : List Int) (h0 : r0.length ≤ n) (h1 : r1.length ≤ n) (L : List (List UInt8))
  (ih : ∀ (r0 : List Qb) (r1 : List Int), r0.length ≤ n + 1 → r1.length ≤ n + 1 → VJ ⟨ba s, (i : Int) + 1, (n : Int) + 1, (i : Int) + 1, r0, r1⟩ = some ⟨r0 ++ okL (n + 1) L, r1 ++ badL (n + 1) L⟩) :
  ((bif (decide (0 ≤ (at_ : Int) ∧ (at_ : Int) ≤ (i : Int) ∧ (i : Int) ≤ (((ba s).size : Nat) : Int))) then ((GG ((ba s).extract (Int.toNat (at_ : Int)) (Int.toNat (i : Int)))).bind fun r2 => (bif (!r2.2) then (bif (decide ((r1.length + [(w64 ((n : Int) + 1))].length) * 8 ≤ most)) then (some (.inl (Jc.mk (ba s) (w64 ((i : Int) + 1)) (w64 ((n : Int) + 1)) (w64 ((i : Int) + 1)) r0 (r1 ++ [(w64 ((n : Int) + 1))])))) else none) else (bif (decide (r2.1.Line > 0)) then (bif (decide ((r0.length + [(Qb.mk (w64 ((n : Int) + 1)) r2.1.Label r2.1.Kind r2.1.Op r2.1.Text r2.1.Args)].length) * 80 ≤ most)) then (some (.inl (Jc.mk (ba s) (w64 ((i : Int) + 1)) (w64 ((n : Int) + 1)) (w64 ((i : Int) + 1)) (r0 ++ [(Qb.mk (w64 ((n : Int) + 1)) r2.1.Label r2.1.Kind r2.1.Op r2.1.Text r2.1.Args)]) r1))) else none) else (some (.inl (Jc.mk (ba s) (w64 ((i : Int) + 1)) (w64 ((n : Int) + 1)) (w64 ((i : Int) + 1)) r0 r1)))))) else none : Option (Jc ⊕ WN))).bind (Sum.elim VJ some) = some ⟨r0 ++ okL n ((s.take i).drop at_ :: L), r1 ++ badL n ((s.take i).drop at_ :: L)⟩ := by
 have hlen : ((s.take i).drop at_).length ≤ 10000000 := by simp only [List.length_drop, List.length_take]; omega
 rw [Qq, decide_eq_true (show 0 ≤ (at_ : Int) ∧ (at_ : Int) ≤ (i : Int) ∧ (i : Int) ≤ ((s.length : Nat) : Int) from ⟨by omega, by omega, by omega⟩), cond_true, ba_cut, Qsv _ hlen, Option.bind_some, w64_in (n := (n : Int) + 1) (by omega) (by omega), w64_in (n := (i : Int) + 1) (by omega) (by omega)]
 rw [okL, badL]
 cases hx : lineS ((s.take i).drop at_) with
 | none =>
  rw [QmA]
  simp only [Bool.not_false, cond_true]
  rw [most8 (by simp only [List.length_singleton]; omega), cond_true]
  simp only [Option.bind_some, Sum.elim_inl]
  rw [ih _ _ (by omega) (by simp; omega)]; simp
 | some x =>
  rw [Qmz]
  simp only [Bool.not_true, cond_false]
  by_cases hp : x.Line > 0
  ·rw [decide_eq_true hp, if_pos hp, cond_true, most80 (by simp only [List.length_singleton]; omega), cond_true]
   simp only [Option.bind_some, Sum.elim_inl]
   rw [ih _ _ (by simp; omega) (by omega)]; simp
  ·rw [decide_eq_false hp, if_neg hp, cond_false]
   simp only [Option.bind_some, Sum.elim_inl]
   rw [ih _ _ (by omega) (by omega)]; simp
theorem Qdk (s : List UInt8) (hs : s.length ≤ 10000000) : ∀ (g at_ i n : Nat) (r0 : List Qb) (r1 : List Int), g + i = s.length → at_ ≤ i → n ≤ i → r0.length ≤ n → r1.length ≤ n → 10 ∉ (s.take i).drop at_ →
  VJ ⟨ba s, at_, n, i, r0, r1⟩ = some ⟨r0 ++ okL n (splL 10 (s.drop at_)), r1 ++ badL n (splL 10 (s.drop at_))⟩
 | 0, at_, i, n, r0, r1, hg, hai, hni, h0, h1, hno => by
  have e : s.take i = s := List.take_of_length_le (by omega)
  rw [VJ.eq]; unfold GH
  simp only
  rw [Qq, decide_eq_true (show (i : Int) ≤ ((s.length : Nat) : Int) by omega), cond_true, decide_eq_false (show ¬ (i : Int) < ((s.length : Nat) : Int) by omega), cond_false]
  have st := Qi0 s hs at_ i n hai (by omega) hni r0 r1 h0 h1 [] (fun r0 r1 h0 h1 => by
   rw [VJ.eq]; unfold GH
   simp only
   rw [Qq, decide_eq_false (show ¬ (i : Int) + 1 ≤ ((s.length : Nat) : Int) by omega)]; simp [okL, badL])
  rw [Qq] at st
  rw [st, e, Qqq _ (e ▸ hno)]
 | g + 1, at_, i, n, r0, r1, hg, hai, hni, h0, h1, hno => by
  have hi : i < s.length := by omega
  rw [VJ.eq]; unfold GH
  have h10 : ((s[i].toNat : Int) == 10) = decide (s[i] = 10) := u8_eq (n := 10) (by decide)
  simp only
  rw [Qq, decide_eq_true (show (i : Int) ≤ ((s.length : Nat) : Int) by omega), cond_true, decide_eq_true (show (i : Int) < ((s.length : Nat) : Int) by omega), cond_true, decide_eq_true (show 0 ≤ (i : Int) ∧ (i : Int) < ((s.length : Nat) : Int) by omega), cond_true, ba_at s hi, bne, h10]
  by_cases h : s[i] = 10
  ·rw [decide_eq_true h, Bool.not_true, cond_false]
   have st := Qi0 s hs at_ i n hai (by omega) hni r0 r1 h0 h1 (splL 10 (s.drop (i + 1))) (fun r0 r1 h0 h1 => by
    have := Qdk s hs g (i + 1) (i + 1) (n + 1) r0 r1 (by omega) (by omega) (by omega) h0 h1 (by rw [List.drop_eq_nil_of_le (by rw [List.length_take]; omega)]; simp)
    exact this)
   rw [Qq] at st
   rw [st]
   have e : s.drop at_ = (s.take i).drop at_ ++ 10 :: s.drop (i + 1) := by
    conv => lhs; rw [← List.take_append_drop i s]
    rw [List.drop_append_of_le_length (by rw [List.length_take]; omega), List.drop_eq_getElem_cons hi, h]
   rw [e, Qqp _ _ hno]
  ·rw [decide_eq_false h, Bool.not_false, cond_true, w64_in (by omega) (by omega)]
   simp only [Option.bind_some, Sum.elim_inl]
   exact Qdk s hs g at_ (i + 1) n r0 r1 (by omega) (by omega) (by omega) h0 h1 (by
    rw [List.take_succ_eq_append_getElem hi, List.drop_append_of_le_length (by rw [List.length_take]; omega)]
    simp only [List.mem_append, List.mem_singleton, not_or]
    exact ⟨hno, fun e => h e.symm⟩)
theorem QpO (s : List UInt8) (hs : s.length ≤ 10000000) : ZZ (ba s) = some (okL 0 (splL 10 s), badL 0 (splL 10 s)) := by
 rw [ZZ.eq]; unfold QeN
 have e := Qdk s hs s.length 0 0 0 [] [] (by omega) (by omega) (by omega) (by simp) (by simp) (by simp)
 have e : VJ ⟨ba s, 0, 0, 0, [], []⟩ = _ := e
 rw [e]; rfl
theorem QoY : ∀ (ls : List (List UInt8)) (n : Nat), (∀ s ∈ ls, s.length ≤ 10000000) → ∀ x ∈ okL n ls, Zy x x = some true
 | [], n, _, x, hx => by cases hx
 | s :: ls, n, hs, x, hx => by
  rw [okL] at hx
  rcases List.mem_append.1 hx with h | h
  ·split at h
   ·rename_i y hy
    obtain ⟨o1, o2⟩ := Quq (hs s (by simp)) hy
    split at h
    ·rcases List.mem_singleton.1 h with rfl
     exact Qrs _ o1 o2
    ·cases h
   ·cases h
  ·exact QoY ls (n + 1) (fun t ht => hs t (by simp [ht])) x h
end Go.Ab
set_option maxRecDepth 100000
namespace Go.Ab
theorem QsA (l : List QB) (ns : List Int) (s T : ByteArray) (i : Nat) (hs : s.size ≤ 2000) (hT : T.size ≤ 50000) (hi : i < 9223372036854775807)
  (ih : ∀ s : ByteArray, s.size ≤ 2000 → ∃ s', V7 ⟨l, ns, 2000, s, (i : Int) + 1⟩ = some s' ∧ s'.size ≤ 2000) :
  ∃ s', ((bif (decide ((w64 ((w64 (((s.size : Nat) : Int) + ((T.size : Nat) : Int))) + 1)) > (2000 : Int))) then (some (.inr s)) else (bif (decide (((s.size + T.size : Nat) : Int) ≤ IntKind.i64.max)) then (bif (decide ((((s ++ T).size + h_0a.size : Nat) : Int) ≤ IntKind.i64.max)) then (some (.inl (JQ.mk l ns 2000 ((s ++ T) ++ h_0a) (w64 ((i : Int) + 1))))) else none) else none) : Option (JQ ⊕ ByteArray)).bind (Sum.elim V7 some)) = some s' ∧ s'.size ≤ 2000 := by
 rw [w64_in (n := ((s.size : Nat) : Int) + ((T.size : Nat) : Int)) (by omega) (by omega), w64_in (n := ((s.size : Nat) : Int) + ((T.size : Nat) : Int) + 1) (by omega) (by omega)]
 by_cases h : ((s.size : Nat) : Int) + ((T.size : Nat) : Int) + 1 > 2000
 ·rw [decide_eq_true h, cond_true]; exact ⟨s, rfl, hs⟩
 ·have g1 : decide (((s.size + T.size : Nat) : Int) ≤ IntKind.i64.max) = true := YY (by omega)
  have g2 : decide ((((s ++ T).size + h_0a.size : Nat) : Int) ≤ IntKind.i64.max) = true := YY (by rw [ByteArray.size_append, show h_0a.size = 1 from rfl]; omega)
  rw [decide_eq_false h, cond_false, g1, cond_true, g2, cond_true, w64_in (by omega) (by omega)]
  exact ih _ (by rw [ByteArray.size_append, ByteArray.size_append, show h_0a.size = 1 from rfl]; omega)
theorem QkU (l : List QB) (ns : List Int) (hl : l.length ≤ maxLen) (hn : ns.length ≤ maxLen) (hok : ∀ r ∈ l, okR r) : ∀ (g i : Nat) (s : ByteArray), g + i = l.length → s.size ≤ 2000 → ∃ s', V7 ⟨l, ns, 2000, s, i⟩ = some s' ∧ s'.size ≤ 2000
 | 0, i, s, hg, hs => by
  rw [V7.eq]; unfold PI
  simp only
  rw [decide_eq_false (show ¬ (i : Int) < ((l.length : Nat) : Int) by omega)]; exact ⟨s, rfl, hs⟩
 | g + 1, i, s, hg, hs => by
  have hml : l.length ≤ 9223372036854775807 := by unfold maxLen at hl; omega
  have hi : i < l.length := by omega
  have hg1 : l[Int.toNat (i : Int)]? = some l[i] := by rw [Int.toNat_natCast, List.getElem?_eq_getElem hi]
  obtain ⟨lb, q, ts, h1, _, _, _, h2, h3⟩ := Qsz l[i] (hok _ (List.getElem_mem hi))
  have hsz : (ba (lineT lb q ts)).size ≤ 40000 := by rw [Qq]; exact h3
  have ih := fun s hs => QkU l ns hl hn hok g (i + 1) s (by omega) hs
  have ih : ∀ s : ByteArray, s.size ≤ 2000 → ∃ s', V7 ⟨l, ns, 2000, s, (i : Int) + 1⟩ = some s' ∧ s'.size ≤ 2000 := ih
  have st := fun T hT => QsA l ns s T i hs hT (by omega) ih
  rw [V7.eq]; unfold PI
  simp only
  rw [decide_eq_true (show (i : Int) < ((l.length : Nat) : Int) by omega), cond_true]
  by_cases hin : i < ns.length
  ·have hg2 : ns[Int.toNat (i : Int)]? = some ns[i] := by rw [Int.toNat_natCast, List.getElem?_eq_getElem hin]
   rw [decide_eq_true (show (i : Int) < ((ns.length : Nat) : Int) by omega), cond_true, decide_eq_true (show 0 ≤ (i : Int) by omega), cond_true, hg2, Option.bind_some, SP ns[i] 24 (by decide) (by decide), Option.bind_some, hg1, Option.bind_some, h1, Option.bind_some, h2, Option.bind_some]
   generalize ba (lineT lb q ts) = t at hsz
   generalize ns[i] % 24 = k
   cases (k == 0) with
   | true =>
    rw [cond_true]
    exact st s_ (by decide)
   | false =>
   rw [cond_false]
   cases (k == 1) with
   | true =>
    have g1 : decide (((ZC.size + t.size : Nat) : Int) ≤ IntKind.i64.max) = true := YY (by rw [show ZC.size = 2 from rfl]; omega)
    rw [cond_true, g1, cond_true]
    exact st (ZC ++ t) (by rw [ByteArray.size_append, show ZC.size = 2 from rfl]; omega)
   | false =>
   rw [cond_false]
   cases (k == 2) with
   | true =>
    have g1 : decide (((X9.size + t.size : Nat) : Int) ≤ IntKind.i64.max) = true := YY (by rw [show X9.size = 2 from rfl]; omega)
    have g2 : decide ((((X9 ++ t).size + Ur.size : Nat) : Int) ≤ IntKind.i64.max) = true := YY (by rw [ByteArray.size_append, show X9.size = 2 from rfl, show Ur.size = 7 from rfl]; omega)
    rw [cond_true, g1, cond_true, g2, cond_true]
    exact st ((X9 ++ t) ++ Ur) (by rw [ByteArray.size_append, ByteArray.size_append, show X9.size = 2 from rfl, show Ur.size = 7 from rfl]; omega)
   | false =>
    rw [cond_false]
    exact st t (by omega)
  ·rw [decide_eq_false (show ¬ (i : Int) < ((ns.length : Nat) : Int) by omega), cond_false, decide_eq_true (show 0 ≤ (i : Int) by omega), cond_true, hg1, Option.bind_some, h1, Option.bind_some, h2, Option.bind_some]
   exact st _ (by omega)
theorem QtK (l : List QB) (ns : List Int) (hl : l.length ≤ maxLen) (hn : ns.length ≤ maxLen) (hok : ∀ r ∈ l, okR r) : ∃ s, GM l ns 2000 = some s ∧ s.size ≤ 2000 := by
 obtain ⟨s, e, h⟩ := QkU l ns hl hn hok l.length 0 s_ (by omega) (by decide)
 have e : V7 ⟨l, ns, 2000, s_, 0⟩ = some s := e
 refine ⟨s, ?_, h⟩
 rw [GM.eq]; unfold Qho
 rw [e]; rfl
theorem QmB (rows : List ByteArray) (j : Int) (xs : List Qb) (bs cs : List Int) (hl : xs.length ≤ 10000001) (hx : ∀ x ∈ xs, Zy x x = some true) : ∀ (g i : Nat), g + i = xs.length → Uv ⟨rows, j, xs, bs, xs, cs, i⟩ = some (.inr ⟨rows, j, bs, cs⟩)
 | 0, i, hg => by
  rw [Uv.eq]; unfold ZO
  simp only
  rw [decide_eq_false (show ¬ (i : Int) < ((xs.length : Nat) : Int) by omega)]; rfl
 | g + 1, i, hg => by
  have hi : i < xs.length := by omega
  rw [Uv.eq]; unfold ZO
  have hg1 : xs[Int.toNat (i : Int)]? = some xs[i] := by rw [Int.toNat_natCast, List.getElem?_eq_getElem hi]
  simp only
  rw [decide_eq_true (show (i : Int) < ((xs.length : Nat) : Int) by omega), cond_true, decide_eq_true (show 0 ≤ (i : Int) by omega), cond_true, hg1, Option.bind_some, Option.bind_some, hx _ (List.getElem_mem hi), Option.bind_some, Bool.not_true, cond_false, Option.bind_some, Sum.elim_inl, w64_in (by omega) (by omega)]
  exact QmB rows j xs bs cs hl hx g (i + 1) (by omega)
theorem QmC (rows : List ByteArray) (j : Int) (bs : List Int) (hl : bs.length ≤ 10000001) : ∀ (g i : Nat), g + i = bs.length → Uw ⟨rows, j, bs, bs, i⟩ = some (.inr ⟨rows, j⟩)
 | 0, i, hg => by
  rw [Uw.eq]; unfold ZP
  simp only
  rw [decide_eq_false (show ¬ (i : Int) < ((bs.length : Nat) : Int) by omega)]; rfl
 | g + 1, i, hg => by
  have hi : i < bs.length := by omega
  rw [Uw.eq]; unfold ZP
  have hg1 : bs[Int.toNat (i : Int)]? = some bs[i] := by rw [Int.toNat_natCast, List.getElem?_eq_getElem hi]
  simp only
  rw [decide_eq_true (show (i : Int) < ((bs.length : Nat) : Int) by omega), cond_true, decide_eq_true (show 0 ≤ (i : Int) by omega), cond_true, hg1, Option.bind_some, Option.bind_some, bne_self_eq_false, cond_false, Option.bind_some, Sum.elim_inl, w64_in (by omega) (by omega)]
  exact QmC rows j bs hl g (i + 1) (by omega)
theorem Qi1 (rows : List ByteArray) (hl : rows.length ≤ 100) (hs : ∀ s ∈ rows, s.size ≤ 1000000) : ∀ (g i : Nat), g + i = rows.length → Ux ⟨rows, i⟩ = some (.inr ())
 | 0, i, hg => by
  rw [Ux.eq]; unfold ZQ
  simp only
  rw [decide_eq_false (show ¬ (i : Int) < ((rows.length : Nat) : Int) by omega)]; rfl
 | g + 1, i, hg => by
  have hi : i < rows.length := by omega
  have hg1 : rows[Int.toNat (i : Int)]? = some (ba (bl rows[i])) := by rw [Int.toNat_natCast, List.getElem?_eq_getElem hi, ba_bl]
  have hsz : (bl rows[i]).length ≤ 1000000 := by rw [← P2]; exact hs _ (List.getElem_mem hi)
  generalize bl rows[i] = s at hg1 hsz
  obtain ⟨p1, p2⟩ := Qci 10 s
  have l1 := Qly (splL 10 s) 0
  have l2 := QjK (splL 10 s) 0
  have hx := QoY (splL 10 s) 0 (fun t ht => by have := p2 t ht; omega)
  have e1 := Qm8 s (by omega)
  have e2 := QpO s (by omega)
  generalize okL 0 (splL 10 s) = xs at l1 hx e1 e2
  generalize badL 0 (splL 10 s) = bs at l2 e1 e2
  have e3 := QmB rows i xs bs bs (by omega) hx xs.length 0 (by omega)
  have e3 : Uv ⟨rows, i, xs, bs, xs, bs, 0⟩ = _ := e3
  have e4 := QmC rows i bs (by omega) bs.length 0 (by omega)
  have e4 : Uw ⟨rows, i, bs, bs, 0⟩ = _ := e4
  rw [Ux.eq]; unfold ZQ
  simp only
  rw [decide_eq_true (show (i : Int) < ((rows.length : Nat) : Int) by omega), cond_true, decide_eq_true (show 0 ≤ (i : Int) by omega), cond_true, hg1, Option.bind_some, e1, Option.bind_some, Option.bind_some, e2, Option.bind_some]
  simp only [bne_self_eq_false, cond_false]
  rw [e3, Option.bind_some, Sum.elim_inr]
  simp only
  rw [e4, Option.bind_some, Sum.elim_inr, Option.bind_some, Sum.elim_inl]
  simp only
  rw [w64_in (by omega) (by omega)]
  exact Qi1 rows hl hs g (i + 1) (by omega)
theorem QhG (l : List QB) (ns : List Int) (at_ by_ : Int) (raw : ByteArray) (w : l.length ≤ maxLen ∧ ∀ y ∈ l, Fx y) (w1 : ns.length ≤ maxLen ∧ ∀ y ∈ ns, IntKind.i64.min ≤ y ∧ y ≤ IntKind.i64.max) (w2 : IntKind.i64.min ≤ at_ ∧ at_ ≤ IntKind.i64.max) (w3 : IntKind.u8.min ≤ by_ ∧ by_ ≤ IntKind.u8.max) (w4 : raw.size ≤ maxLen) : W8 l ns at_ by_ raw = some true := by
 rw [W8.eq]; unfold PK
 rw [QpM, Option.bind_some, show (!true) = false from rfl, cond_false]
 obtain ⟨b, hb, hok⟩ := few_to l w.1 w.2
 rw [hb, Option.bind_some]
 cases b with
 | false => rfl
 | true =>
 rw [show (!true) = false from rfl, cond_false]
 rcases Nat.lt_or_ge 300 raw.size with hs | hs
 ·rw [decide_eq_true (show ((raw.size : Nat) : Int) > 300 by omega)]; rfl
 rw [decide_eq_false (show ¬ ((raw.size : Nat) : Int) > 300 by omega), cond_false]
 obtain ⟨t, ht, hsz⟩ := QtK l ns w.1 w1.1 (hok rfl)
 rw [ht, Option.bind_some]
 have g1 : decide (((t.size + h_20.size : Nat) : Int) ≤ IntKind.i64.max) = true := YY (by rw [show h_20.size = 1 from rfl]; omega)
 rw [g1, cond_true]
 have hbl : (bytesL (t ++ h_20)).length = t.size + 1 := by rw [bytesL, List.length_map]; show (t ++ h_20).size = _; rw [ByteArray.size_append]; rfl
 have hp : (0 : Int) < (((bytesL (t ++ h_20)).length : Nat) : Int) := by omega
 rw [SP at_ _ hp (by omega), Option.bind_some]
 have m1 := Int.emod_nonneg at_ (Int.ne_of_gt hp)
 have m2 := Int.emod_lt_of_pos at_ hp
 rw [decide_eq_true (show 0 ≤ at_ % (((bytesL (t ++ h_20)).length : Nat) : Int) ∧ at_ % (((bytesL (t ++ h_20)).length : Nat) : Int) < (((bytesL (t ++ h_20)).length : Nat) : Int) from ⟨m1, m2⟩), cond_true]
 have hk2 : (at_ % (((bytesL (t ++ h_20)).length : Nat) : Int)).toNat < (bytesL (t ++ h_20)).length := by omega
 rw [List.getElem?_eq_getElem hk2, Option.bind_some, Option.bind_some, Option.bind_some]
 have g2 : decide (((t.size + raw.size : Nat) : Int) ≤ IntKind.i64.max) = true := YY (by omega)
 have g3 : decide (((h_0a.size + t.size : Nat) : Int) ≤ IntKind.i64.max) = true := YY (by rw [show h_0a.size = 1 from rfl]; omega)
 rw [g2, cond_true, g3, cond_true]
 have hz : ∀ l : List ByteArray, l.length ≤ 100 → (∀ s ∈ l, s.size ≤ 1000000) → Ux ⟨l, 0⟩ = some (.inr ()) := fun l h1 h2 => Qi1 l h1 h2 l.length 0 (by omega)
 have hszl : ∀ l : List UInt8, (⟨l.toArray⟩ : ByteArray).size = l.length := fun l => Qq l
 rw [hz _ (by simp) (by
  intro s hm
  simp only [List.mem_cons, List.not_mem_nil, or_false] at hm
  rcases hm with rfl | rfl | rfl | rfl | rfl
  ·omega
  ·rw [hszl, listB, List.length_map, List.length_set]; omega
  ·omega
  ·rw [ByteArray.size_append]; omega
  ·rw [ByteArray.size_append, show h_0a.size = 1 from rfl]; omega)]
 rfl
end Go.Ab
namespace Go.Proofs.YtblfhkldljfhiaaGreatDoor
open Go Go.Ab Go.ChangeShapes Go.WideShapes Go.ChangeAt Go.RowKit
open Go.ChangeMaps (open_string shut_string)
theorem repL_one {c : Ctx} {w : World} {a : AV} {v : Value} (h : RepL c w [a] [v]) : Rep c w a v := by cases h; assumption
theorem laidOut : laidOutB Tryz.prog = true := by kernel_rfl
theorem own : ownKnob Tryz.prog.godebug = none := by kernel_rfl
theorem door_met (os : Os) (args : Array Value) : laidMetH Tryz.prog [("math/bits.deBruijn32tab", Rows.laid_math_bits_deBruijn32tab), ("math/bits.deBruijn64tab", Rows.laid_math_bits_deBruijn64tab), ("internal/strconv.uint64pow10", Rows.laid_internal_strconv_uint64pow10), ("unicode/utf8.acceptRanges", Rows.laid_unicode_utf8_acceptRanges), ("strconv.ErrRange", Rows.laid_strconv_ErrRange), ("strconv.ErrSyntax", Rows.laid_strconv_ErrSyntax), ("unicode.White_Space", Rows.laid_unicode_White_Space), ("strings.asciiSpace", Rows.laid_strings_asciiSpace), ("unicode/utf8.first", Rows.laid_unicode_utf8_first)] ((World.laidAll Tryz.prog os [("math/bits.deBruijn32tab", Rows.laid_math_bits_deBruijn32tab), ("math/bits.deBruijn64tab", Rows.laid_math_bits_deBruijn64tab), ("internal/strconv.uint64pow10", Rows.laid_internal_strconv_uint64pow10), ("unicode/utf8.acceptRanges", Rows.laid_unicode_utf8_acceptRanges), ("strconv.ErrRange", Rows.laid_strconv_ErrRange), ("strconv.ErrSyntax", Rows.laid_strconv_ErrSyntax), ("unicode.White_Space", Rows.laid_unicode_White_Space), ("strings.asciiSpace", Rows.laid_strings_asciiSpace), ("unicode/utf8.first", Rows.laid_unicode_utf8_first)]).forCall (fun _ _ => 0) ⟨#[], args, []⟩).memory := by
 rw [MakeChecks.laidMetH_plain _ _ _ (by kernel_rfl)]; exact laidMet_laidAll _ (by kernel_rfl) (by kernel_rfl)
section
variable {H : Type} {enc : TypeId × Value → H} {W : World}
theorem rd_w3_Raw (fuel : Nat) : Rd enc Tryz.prog W fuel 154 Ye YQ := by
 induction fuel using Nat.strongRecOn with
 | _ fuel ih =>
  intro cs x h
  obtain ⟨xs, n, hn, _, hl, hlen, hel⟩ := DataW.trod_struct Tryz.underlying154 h
  have hlen' : xs.length = 3 := hlen
  have hl' : cs.length = 3 := hl.trans (by kernel_rfl)
  have e0 := hel 0 _ rfl
  rw [List.getElem?_eq_getElem (by omega)] at e0
  obtain ⟨a0, w0, r0, f0⟩ := (rd_int Tryz.underlying3 n) _ _ e0
  have z0 : Tryz.prog.cellsOf 3 = 1 := by kernel_rfl
  replace r0 := Zz z0 r0
  have e1 := hel 1 _ rfl
  rw [List.getElem?_eq_getElem (by omega)] at e1
  obtain ⟨a1, w1, r1, f1⟩ := (rd_int Tryz.underlying3 n) _ _ e1
  have z1 : Tryz.prog.cellsOf 3 = 1 := by kernel_rfl
  replace r1 := Zz z1 r1
  have e2 := hel 2 _ rfl
  rw [List.getElem?_eq_getElem (by omega)] at e2
  obtain ⟨a2, w2, r2, f2⟩ := (show Rd enc Tryz.prog W n 44 (fun l : List QC => [.sl (l.map Ye)]) (fun l => l.length ≤ maxLen ∧ ∀ y ∈ l, YQ y) from by
   cases n with
   | zero => exact Qdq _ _
   | succ m => exact Qbi (s := 3) Tryz.underlying44 (by kernel_rfl) (by decide) (fun _ => rfl) (ih m (by omega))) _ _ e2
  have z2 : Tryz.prog.cellsOf 44 = 1 := by kernel_rfl
  replace r2 := Zz z2 r2
  refine ⟨QC.mk a0 a1 a2, .mk _ w0 w1 w2.1 w2.2, ?_, ?_⟩
  ·have hc : cs = ((cs.drop 0).take 1) ++ (((cs.drop 1).take 1) ++ (((cs.drop 2).take 1))) := by
    have hd : cs.drop 3 = [] := List.drop_eq_nil_of_le (by omega)
    have d2 := Gt cs 2 1
    have d1 := Gt cs 1 1
    have d0 := Gt cs 0 1
    simp only [Nat.zero_add, Nat.reduceAdd, List.drop_zero, hd, List.append_nil] at d0 d1 d2
    first | (rw [List.drop_zero]; rw [← d2, ← d1, ← d0]) | (rw [← d2, ← d1, ← d0])
   rw [hc]
   have := YP r0 (YP r1 (r2))
   first | exact this | (simp only [FO] at this; exact this)
  ·rfl
theorem rd_w4_Raw (fuel : Nat) : Rd enc Tryz.prog W fuel 46 V9 Fx := by
 induction fuel using Nat.strongRecOn with
 | _ fuel ih =>
  intro cs x h
  obtain ⟨xs, n, hn, _, hl, hlen, hel⟩ := DataW.trod_struct Tryz.underlying46 h
  have hlen' : xs.length = 6 := hlen
  have hl' : cs.length = 6 := hl.trans (by kernel_rfl)
  have e0 := hel 0 _ rfl
  rw [List.getElem?_eq_getElem (by omega)] at e0
  obtain ⟨a0, w0, r0, f0⟩ := (rd_int Tryz.underlying3 n) _ _ e0
  have z0 : Tryz.prog.cellsOf 3 = 1 := by kernel_rfl
  replace r0 := Zz z0 r0
  have e1 := hel 1 _ rfl
  rw [List.getElem?_eq_getElem (by omega)] at e1
  obtain ⟨a1, w1, r1, f1⟩ := (rd_int Tryz.underlying3 n) _ _ e1
  have z1 : Tryz.prog.cellsOf 3 = 1 := by kernel_rfl
  replace r1 := Zz z1 r1
  have e2 := hel 2 _ rfl
  rw [List.getElem?_eq_getElem (by omega)] at e2
  obtain ⟨a2, w2, r2, f2⟩ := (rd_int Tryz.underlying3 n) _ _ e2
  have z2 : Tryz.prog.cellsOf 3 = 1 := by kernel_rfl
  replace r2 := Zz z2 r2
  have e3 := hel 3 _ rfl
  rw [List.getElem?_eq_getElem (by omega)] at e3
  obtain ⟨a3, w3, r3, f3⟩ := (show Rd enc Tryz.prog W n 22 (fun l : List Int => [.sl (l.map WW)]) (fun l => l.length ≤ maxLen ∧ ∀ y ∈ l, IntKind.i64.min ≤ y ∧ y ≤ IntKind.i64.max) from by
   cases n with
   | zero => exact Qdq _ _
   | succ m => exact Qbi (s := 1) Tryz.underlying22 (by kernel_rfl) (by decide) (fun _ => rfl) (rd_int Tryz.underlying3 m)) _ _ e3
  have z3 : Tryz.prog.cellsOf 22 = 1 := by kernel_rfl
  replace r3 := Zz z3 r3
  have e4 := hel 4 _ rfl
  rw [List.getElem?_eq_getElem (by omega)] at e4
  obtain ⟨a4, w4, r4, f4⟩ := (show Rd enc Tryz.prog W n 44 (fun l : List QC => [.sl (l.map Ye)]) (fun l => l.length ≤ maxLen ∧ ∀ y ∈ l, YQ y) from by
   cases n with
   | zero => exact Qdq _ _
   | succ m => exact Qbi (s := 3) Tryz.underlying44 (by kernel_rfl) (by decide) (fun _ => rfl) (rd_w3_Raw m)) _ _ e4
  have z4 : Tryz.prog.cellsOf 44 = 1 := by kernel_rfl
  replace r4 := Zz z4 r4
  have e5 := hel 5 _ rfl
  rw [List.getElem?_eq_getElem (by omega)] at e5
  obtain ⟨a5, w5, r5, f5⟩ := (Qt2 Tryz.underlying4 n) _ _ e5
  have z5 : Tryz.prog.cellsOf 4 = 1 := by kernel_rfl
  replace r5 := Zz z5 r5
  refine ⟨QB.mk a0 a1 a2 a3 a4 a5, .mk _ w0 w1 w2 w3.1 w3.2 w4.1 w4.2 w5, ?_, ?_⟩
  ·have hc : cs = ((cs.drop 0).take 1) ++ (((cs.drop 1).take 1) ++ (((cs.drop 2).take 1) ++ (((cs.drop 3).take 1) ++ (((cs.drop 4).take 1) ++ (((cs.drop 5).take 1)))))) := by
    have hd : cs.drop 6 = [] := List.drop_eq_nil_of_le (by omega)
    have d5 := Gt cs 5 1
    have d4 := Gt cs 4 1
    have d3 := Gt cs 3 1
    have d2 := Gt cs 2 1
    have d1 := Gt cs 1 1
    have d0 := Gt cs 0 1
    simp only [Nat.zero_add, Nat.reduceAdd, List.drop_zero, hd, List.append_nil] at d0 d1 d2 d3 d4 d5
    first | (rw [List.drop_zero]; rw [← d5, ← d4, ← d3, ← d2, ← d1, ← d0]) | (rw [← d5, ← d4, ← d3, ← d2, ← d1, ← d0])
   rw [hc]
   have := YP r0 (YP r1 (YP r2 (YP r3 (YP r4 (r5)))))
   first | exact this | (simp only [JP, FO] at this; exact this)
  ·rfl
end
namespace lineParses
set_option maxRecDepth 100000 in
theorem lifted (os : Os) (started : os.Started) (H : Type) (enc : TypeId × Value → H) :
  ReturnsInHanded {} Tryz.checked os 7 .any (fun w args => (Rows.lineParsesSpec.pre enc Tryz.prog Tryz.f7 [] false w args ∧ laidMetH Tryz.prog [("math/bits.deBruijn32tab", Rows.laid_math_bits_deBruijn32tab), ("math/bits.deBruijn64tab", Rows.laid_math_bits_deBruijn64tab), ("internal/strconv.uint64pow10", Rows.laid_internal_strconv_uint64pow10), ("unicode/utf8.acceptRanges", Rows.laid_unicode_utf8_acceptRanges), ("strconv.ErrRange", Rows.laid_strconv_ErrRange), ("strconv.ErrSyntax", Rows.laid_strconv_ErrSyntax), ("unicode.White_Space", Rows.laid_unicode_White_Space), ("strings.asciiSpace", Rows.laid_strings_asciiSpace), ("unicode/utf8.first", Rows.laid_unicode_utf8_first)] w) ∧ sizedMet enc Tryz.prog Tryz.f7 (OpenSpec.ofChange Rows.lineParsesSpec) false w args) (Rows.lineParsesSpec.post enc Tryz.prog Tryz.f7 false true false false) := by
 refine Qk4 (C := Tryz.checked) (X := fun w _ => laidMetH Tryz.prog [("math/bits.deBruijn32tab", Rows.laid_math_bits_deBruijn32tab), ("math/bits.deBruijn64tab", Rows.laid_math_bits_deBruijn64tab), ("internal/strconv.uint64pow10", Rows.laid_internal_strconv_uint64pow10), ("unicode/utf8.acceptRanges", Rows.laid_unicode_utf8_acceptRanges), ("strconv.ErrRange", Rows.laid_strconv_ErrRange), ("strconv.ErrSyntax", Rows.laid_strconv_ErrSyntax), ("unicode.White_Space", Rows.laid_unicode_White_Space), ("strings.asciiSpace", Rows.laid_strings_asciiSpace), ("unicode/utf8.first", Rows.laid_unicode_utf8_first)] w) (fun _ _ _ hh h => h.of_heap hh) own started (by kernel_rfl) Tryz.func7
  (ChangeSpec.witness_shaped (enc := enc) (C := Tryz.checked) (os := os) (X := fun w _ => laidMetH Tryz.prog [("math/bits.deBruijn32tab", Rows.laid_math_bits_deBruijn32tab), ("math/bits.deBruijn64tab", Rows.laid_math_bits_deBruijn64tab), ("internal/strconv.uint64pow10", Rows.laid_internal_strconv_uint64pow10), ("unicode/utf8.acceptRanges", Rows.laid_unicode_utf8_acceptRanges), ("strconv.ErrRange", Rows.laid_strconv_ErrRange), ("strconv.ErrSyntax", Rows.laid_strconv_ErrSyntax), ("unicode.White_Space", Rows.laid_unicode_White_Space), ("strings.asciiSpace", Rows.laid_strings_asciiSpace), ("unicode/utf8.first", Rows.laid_unicode_utf8_first)] w) false (World.laidAll Tryz.prog os [("math/bits.deBruijn32tab", Rows.laid_math_bits_deBruijn32tab), ("math/bits.deBruijn64tab", Rows.laid_math_bits_deBruijn64tab), ("internal/strconv.uint64pow10", Rows.laid_internal_strconv_uint64pow10), ("unicode/utf8.acceptRanges", Rows.laid_unicode_utf8_acceptRanges), ("strconv.ErrRange", Rows.laid_strconv_ErrRange), ("strconv.ErrSyntax", Rows.laid_strconv_ErrSyntax), ("unicode.White_Space", Rows.laid_unicode_White_Space), ("strings.asciiSpace", Rows.laid_strings_asciiSpace), ("unicode/utf8.first", Rows.laid_unicode_utf8_first)]) #[.slice none 0 0, .slice none 0 0, .int .i64 0, .int .u8 0, .string ByteArray.empty] 8 (World.laidAll_os _ _ _) (World.shaped_of_ZipB (by kernel_rfl) (by kernel_rfl)) (by kernel_rfl) (by kernel_rfl) (by kernel_rfl) (door_met os _)) ?_
 intro W base args ds gs before hval0 hW hcnd hsz0 hL _
 have hT := Qt7 hL
 have hW' := hW
 obtain ⟨p, q, hA0, hV, rfl, hfz, hnd⟩ := hW
 have hA : DataW.TrodAll enc Tryz.prog W 0 (fun _ => true) true Tryz.f7.params.toList args.toList ds p := hA0
 rw [Tryz.params7] at hA
 obtain ⟨v0, vs0, d0, ds0, p0, q0, hargs, rfl, rfl, h0, r0⟩ := trodAll_cons hA
 obtain ⟨v1, vs1, d1, ds1, p1, q1, rfl, rfl, rfl, h1, r1⟩ := trodAll_cons r0
 obtain ⟨v2, vs2, d2, ds2, p2, q2, rfl, rfl, rfl, h2, r2⟩ := trodAll_cons r1
 obtain ⟨v3, vs3, d3, ds3, p3, q3, rfl, rfl, rfl, h3, r3⟩ := trodAll_cons r2
 obtain ⟨v4, vs4, d4, ds4, p4, q4, rfl, rfl, rfl, h4, r4⟩ := trodAll_cons r3
 obtain ⟨rfl, rfl, rfl⟩ := trodAll_nil r4
 obtain rfl : args = #[v0, v1, v2, v3, v4] := by cases args; simp_all
 obtain ⟨rfl, rfl⟩ := trodVars_none hV
 obtain ⟨u0, len0, cap0, rfl⟩ := okWide_slice Tryz.underlying42 (hval0 0 42 v0 rfl rfl)
 obtain ⟨a0, w0, y0⟩ := Qdr (enc := enc) (P := Tryz.prog) (W := W) (fun fuel => (show Rd enc Tryz.prog W fuel 42 (fun l : List QB => [.sl (l.map V9)]) (fun l => l.length ≤ maxLen ∧ ∀ y ∈ l, Fx y) from by
   cases fuel with
   | zero => exact Qdq _ _
   | succ m => exact Qbi (s := 6) Tryz.underlying42 (by kernel_rfl) (by decide) (fun _ => rfl) (rd_w4_Raw m))) h0
 replace y0 := repL_one (show RepL (oldCtx W) W [_] [_] from y0)
 obtain ⟨u1, len1, cap1, rfl⟩ := okWide_slice Tryz.underlying22 (hval0 1 22 v1 rfl rfl)
 obtain ⟨a1, w1, y1⟩ := Qdr (enc := enc) (P := Tryz.prog) (W := W) (fun fuel => (show Rd enc Tryz.prog W fuel 22 (fun l : List Int => [.sl (l.map WW)]) (fun l => l.length ≤ maxLen ∧ ∀ y ∈ l, IntKind.i64.min ≤ y ∧ y ≤ IntKind.i64.max) from by
   cases fuel with
   | zero => exact Qdq _ _
   | succ m => exact Qbi (s := 1) Tryz.underlying22 (by kernel_rfl) (by decide) (fun _ => rfl) (rd_int Tryz.underlying3 m))) h1
 replace y1 := repL_one (show RepL (oldCtx W) W [_] [_] from y1)
 obtain ⟨u2, rfl⟩ := okWide_int Tryz.underlying3 (hval0 2 3 v2 rfl rfl)
 obtain ⟨a2, w2, y2⟩ := Qdr (enc := enc) (P := Tryz.prog) (W := W) (fun fuel => (rd_int Tryz.underlying3 fuel)) h2
 replace y2 := repL_one (show RepL (oldCtx W) W [_] [_] from y2)
 obtain ⟨u3, rfl⟩ := okWide_int Tryz.underlying5 (hval0 3 5 v3 rfl rfl)
 obtain ⟨a3, w3, y3⟩ := Qdr (enc := enc) (P := Tryz.prog) (W := W) (fun fuel => (rd_int Tryz.underlying5 fuel)) h3
 replace y3 := repL_one (show RepL (oldCtx W) W [_] [_] from y3)
 obtain ⟨u4, rfl⟩ := okWide_string Tryz.underlying9 (hval0 4 9 v4 rfl rfl)
 obtain ⟨a4, w4, y4⟩ := Qdr (enc := enc) (P := Tryz.prog) (W := W) (fun fuel => (QrI Tryz.underlying9 fuel)) h4
 replace y4 := repL_one (show RepL (oldCtx W) W [_] [_] from y4)
 obtain ⟨k, hk⟩ := W8.run a0 a1 a2 a3 a4 (QhG a0 a1 a2 a3 a4 w0 w1 w2 w3 w4)
 rw [Qbl] at y0
 rw [JP] at y1
 have lt0 : ∀ x ∈ p0, x.block < W.heap.size := by obtain ⟨m, hm⟩ := h0; exact DataW.trod_lt m _ _ _ hm
 have lt1 : ∀ x ∈ p1, x.block < W.heap.size := by obtain ⟨m, hm⟩ := h1; exact DataW.trod_lt m _ _ _ hm
 have lt2 : ∀ x ∈ p2, x.block < W.heap.size := by obtain ⟨m, hm⟩ := h2; exact DataW.trod_lt m _ _ _ hm
 have lt3 : ∀ x ∈ p3, x.block < W.heap.size := by obtain ⟨m, hm⟩ := h3; exact DataW.trod_lt m _ _ _ hm
 have lt4 : ∀ x ∈ p4, x.block < W.heap.size := by obtain ⟨m, hm⟩ := h4; exact DataW.trod_lt m _ _ _ hm
 refine (QmF (T := told) (by kernel_rfl) ext_ok hk hT (.cons _ _ _ _ y0 (.cons _ _ _ _ y1 (.cons _ _ _ _ y2 (.cons _ _ _ _ y3 (.cons _ _ _ _ y4 .nil)))))).mono fun e W' ⟨he, bel⟩ => ?_
 subst he
 exact ⟨_, rfl, _, _, _, [], _, [], hW', trodAll_mk1 (shut_bool Tryz.underlying4 _), (trodAll_cons_mk (Below.trod laidOut (by kernel_rfl) (of_decide_eq_true (by kernel_rfl)) h0 bel lt0) (trodAll_cons_mk (Below.trod laidOut (by kernel_rfl) (of_decide_eq_true (by kernel_rfl)) h1 bel lt1) (trodAll_cons_mk (Below.trod laidOut (by kernel_rfl) (of_decide_eq_true (by kernel_rfl)) h2 bel lt2) (trodAll_cons_mk (Below.trod laidOut (by kernel_rfl) (of_decide_eq_true (by kernel_rfl)) h3 bel lt3) (trodAll_cons_mk (Below.trod laidOut (by kernel_rfl) (of_decide_eq_true (by kernel_rfl)) h4 bel lt4) trodAll_mk0))))), rfl, bel.frame _, fun h => by cases h⟩
theorem jf0 : (Rows.lineParsesRow.wf (OpenSpec.ofChange Rows.lineParsesSpec)) = true := by kernel_rfl
theorem jf1 : (laidOutB Tryz.prog) = true := by kernel_rfl
theorem jf2 : (mapsRowed Tryz.prog) = true := by kernel_rfl
theorem jf3 : (Tryz.f7.params.all (Tryz.prog.readableRec ·)) = true := by kernel_rfl
theorem jf4 : (namedTie Tryz.prog Rows.lineParsesRow.named Rows.lineParsesSpec.vars) = true := by kernel_rfl
theorem jf5 : ((Rows.lineParsesRow.stops == [])) = true := by kernel_rfl
theorem jf6 : ((Tryz.prog.stops == [])) = true := by kernel_rfl
theorem jf7 : ((Rows.lineParsesRow.knobs == [])) = true := by kernel_rfl
theorem jf8 : ((Tryz.prog.stopKnobs == [])) = true := by kernel_rfl
theorem jf9 : ((Rows.lineParsesRow.inPlace == Tryz.prog.inPlace 7)) = true := by kernel_rfl
theorem jf10 : ((Rows.lineParsesRow.unfollowed == Tryz.prog.unfollowed 7)) = true := by kernel_rfl
theorem jf11 : ((Rows.lineParsesRow.recurses == Tryz.prog.recurses 7)) = true := by kernel_rfl
theorem jf12 : ((Rows.lineParsesRow.named == Tryz.prog.varsNamed 7)) = true := by kernel_rfl
theorem jf13 : ((Rows.lineParsesRow.maps == (Tryz.f7.params.toList ++ Rows.lineParsesSpec.plain.varTypes Tryz.prog).any (Tryz.prog.mapsRec ·))) = true := by kernel_rfl
theorem jf14 : ((Rows.lineParsesRow.ifaces == (Tryz.f7.params.toList ++ Rows.lineParsesSpec.plain.varTypes Tryz.prog).any (Tryz.prog.ifacesRec ·))) = true := by kernel_rfl
theorem jf15 : ((Rows.lineParsesRow.mapsOut == Tryz.prog.mapsAmong Tryz.f7.resultTypes.toList)) = true := by kernel_rfl
theorem jf16 : ((Rows.lineParsesRow.loops == (Tryz.f7.params.toList ++ Rows.lineParsesSpec.plain.varTypes Tryz.prog).any (Tryz.prog.loopsFrom ·))) = true := by kernel_rfl
theorem jf17 : ((Rows.lineParsesRow.wideKeys == (Tryz.f7.params.toList ++ Rows.lineParsesSpec.plain.varTypes Tryz.prog ++ Tryz.f7.resultTypes.toList).any (Tryz.prog.wideKeysFrom ·))) = true := by kernel_rfl
theorem jf18 : (Rows.lineParsesSpec.vars.all (Tryz.prog.varReadable ·)) = true := by kernel_rfl
theorem jf19 : (Tryz.f7.resultTypes.all (fun t => Tryz.prog.readableRec t && decide (t < Tryz.prog.types.size))) = true := by kernel_rfl
theorem jf20 : ((Rows.lineParsesRow.ifacesOut == Tryz.f7.resultTypes.toList.any (Tryz.prog.ifacesRec ·))) = true := by kernel_rfl
theorem jf21 : ((Rows.lineParsesRow.loopsOut == Tryz.f7.resultTypes.toList.any (Tryz.prog.loopsFrom ·))) = true := by kernel_rfl
theorem jf22 : ((Rows.lineParsesRow.plainKeys == Tryz.prog.plainKeys)) = true := by kernel_rfl
theorem jf23 : (Rows.lineParsesRow.shortTexts.isNone) = true := by kernel_rfl
theorem jf24 : (Tryz.prog.stopsHeard) = true := by kernel_rfl
theorem jf25 : (Tryz.prog.mayEnter) = true := by kernel_rfl
theorem jf26 : ((Rows.lineParsesRow.lifted == Tryz.prog.liftsFinal)) = true := by kernel_rfl
theorem jf27 : ((Tryz.prog.make == some Rows.lineParsesRow.make)) = true := by kernel_rfl
theorem jf28 : ((Rows.lineParsesRow.kinds == (if Rows.lineParsesRow.domain.isEmpty then [] else Tryz.f7.params.toList.map fun t => match Tryz.prog.underlying t with | some (.int k) => some k | _ => none))) = true := by kernel_rfl
theorem jf29 : ((Rows.lineParsesRow.pinned == Rows.lineParsesRow.pinnedBy)) = true := by kernel_rfl
theorem jf30 : ((Rows.lineParsesRow.veiled == (Tryz.f7.params.toList ++ Rows.lineParsesSpec.plain.varTypes Tryz.prog ++ Tryz.f7.resultTypes.toList).any (Tryz.prog.veiledRec ·))) = true := by kernel_rfl
theorem jf31 : (Rows.lineParsesRow.veiledFits Tryz.prog Tryz.f7.params.toList (Tryz.f7.params.toList ++ Rows.lineParsesSpec.plain.varTypes Tryz.prog ++ Tryz.f7.resultTypes.toList)) = true := by kernel_rfl
theorem and2 {a b : Bool} (h : a = true) (k : b = true) : (a && b) = true := by rw [h, k]; rfl
set_option maxRecDepth 1000000 in
theorem jf : joinedFacts Tryz.prog 7 Tryz.f7 Rows.lineParsesSpec Rows.lineParsesRow = true := by
 delta joinedFacts
 exact (and2 (and2 (and2 (and2 (and2 (and2 (and2 (and2 (and2 (and2 (and2 (and2 (and2 (and2 (and2 (and2 (and2 (and2 (and2 (and2 (and2 (and2 (and2 (and2 (and2 (and2 (and2 (and2 (and2 (and2 (and2 jf0 jf1) jf2) jf3) jf4) jf5) jf6) jf7) jf8) jf9) jf10) jf11) jf12) jf13) jf14) jf15) jf16) jf17) jf18) jf19) jf20) jf21) jf22) jf23) jf24) jf25) jf26) jf27) jf28) jf29) jf30) jf31)
theorem cfw : Rows.lineParsesRow.wfByText (OpenSpec.ofChange Rows.lineParsesSpec) = true := by kernel_rfl
theorem cfn : Tryz.prog.funcNamed Tryz.f7.name = some 7 := by kernel_rfl
theorem cfl : true = Tryz.prog.looks [] := by kernel_rfl
theorem cfs : ([42, 22, 3, 5, 9].all fun u => !Tryz.prog.wantsStandIn u) = true := by kernel_rfl
theorem cfg : false = Rows.lineParsesRow.goesBy Tryz.prog := by kernel_rfl
theorem over : Rows.lineParsesRow.holds Tryz.pinned (OpenSpec.ofChange Rows.lineParsesSpec) :=
 OpenClaim.holds_of_wide 7 Tryz.f7 rfl rfl rfl rfl rfl rfl rfl ⟨rfl, rfl, rfl, rfl, rfl⟩ rfl rfl rfl rfl rfl (by kernel_rfl) Tryz.func7 jf
  (of_decide_eq_true (by kernel_rfl)) (by unfold Func.isWrapper; first | (rw [if_pos (by decide +kernel)]; kernel_rfl) | (rw [if_neg (by decide +kernel)]; exact ⟨rfl, rfl⟩))
  (fun os started H enc _ => lifted os started H enc)
theorem proved : Rows.LineParsesSaid := over
theorem card : Rows.LineParsesCardSaid :=
 Claim7.holds_tied_plain_at .later [] [.data, .data, .data, .data, .sentinel, .sentinel, .listed, .data, .pinned] true (true, "eddddd2f21bf15afe128c8206f0bde60fb9797faf78c19398001fce18d007a2a") true
  proved (fun _ h => by cases h) cfw (fun _ h => by cases h) lineParses_row_tie rfl ⟨rfl, rfl⟩ (by kernel_rfl) rfl
  (fun f fn hf hfn => by
   obtain rfl : f = 7 := Option.some.inj ((show Tryz.prog.funcNamed Tryz.f7.name = some 7 from cfn).symm.trans hf) |>.symm
   obtain rfl : fn = Tryz.f7 := (Option.some.inj (Tryz.func7.symm.trans hfn)).symm
   exact ⟨cfl, fun j t ht => by
    rw [Tryz.params7] at ht
    have hm : t ∈ [42, 22, 3, 5, 9] := by simpa using Array.mem_of_getElem? ht
    have hall : ([42, 22, 3, 5, 9].all fun u => !Tryz.prog.wantsStandIn u) = true := cfs
    exact (show Tryz.prog.wantsStandIn t = false by simpa using List.all_eq_true.1 hall t hm)⟩)
  cfg
end lineParses
theorem lineParses_holds : Rows.LineParsesCardSaid := lineParses.card
end Go.Proofs.YtblfhkldljfhiaaGreatDoor
