/- ExprReads: part 5 of the proof that, whatever the input, the law returns true and the input reads as it did; its conditions are those of the given row. -/
import Derived.Test.YtklkkgmflfioeaaDoorZExprReads4
import Derived.Test.YtklkkgmflfioeaaDoorTie
import Derived.Test.YtklkkgmflfioeaaDoorCards
import Derived.ProofKit
import Derived.OpenShut
import Derived.Stop.Joined
import Derived.Lay
import Derived.SevenTiedAt
set_option linter.unusedVariables false
set_option linter.unusedSimpArgs false
namespace Go.Ab
theorem same_refl : ∀ x : X3, r3_Same x.t x.t = some true := by
  have head : ∀ e : T_api_Expr, r3_Same_L1 ⟨0, e, e⟩ = some (.inr ()) → r3_Same e e = some true := by
    intro e h
    rw [r3_Same.eq]; unfold r3_Same_b
    have h1 : (e.Kind != e.Kind) = false := by simp
    have h2 : (e.N != e.N) = false := by simp
    have h3 : eqS e.Name e.Name = true := eqS_iff.2 rfl
    have h4 : ((((e.L.length) : Nat) : Int) != (((e.L.length) : Nat) : Int)) = false := by simp
    rw [h1, h2, h3, h4, h]; rfl
  intro x
  induction x with
  | num n => apply head; rw [r3_Same_L1.eq]; rfl
  | nm s => apply head; rw [r3_Same_L1.eq]; rfl
  | here => apply head; rw [r3_Same_L1.eq]; rfl
  | neg x ih =>
    apply head
    have g0 : (X3.neg x).t.L[Int.toNat 0]? = some x.t := rfl
    have e1 : r3_Same_L1 ⟨1, (X3.neg x).t, (X3.neg x).t⟩ = some (.inr ()) := by rw [r3_Same_L1.eq]; rfl
    rw [r3_Same_L1.eq]; unfold r3_Same_L1_b
    have c1 : decide ((0 : Int) < (((X3.neg x).t.L.length : Nat) : Int)) = true := rfl
    have c2 : decide ((0 : Int) ≤ 0) = true := rfl
    have c3 : w64 (0 + 1) = 1 := by decide
    rw [c1, cond_true, c2, cond_true, g0, Option.bind_some, Option.bind_some, ih, Option.bind_some, c3]
    exact e1
  | bin k x y ihx ihy =>
    apply head
    have g0 : (X3.bin k x y).t.L[Int.toNat 0]? = some x.t := rfl
    have g1 : (X3.bin k x y).t.L[Int.toNat 1]? = some y.t := rfl
    have e2 : r3_Same_L1 ⟨2, (X3.bin k x y).t, (X3.bin k x y).t⟩ = some (.inr ()) := by rw [r3_Same_L1.eq]; rfl
    have e1 : r3_Same_L1 ⟨1, (X3.bin k x y).t, (X3.bin k x y).t⟩ = some (.inr ()) := by
      rw [r3_Same_L1.eq]; unfold r3_Same_L1_b
      have c1 : decide ((1 : Int) < (((X3.bin k x y).t.L.length : Nat) : Int)) = true := rfl
      have c2 : decide ((0 : Int) ≤ 1) = true := rfl
      have c3 : w64 (1 + 1) = 2 := by decide
      rw [c1, cond_true, c2, cond_true, g1, Option.bind_some, Option.bind_some, ihy, Option.bind_some, c3]
      exact e2
    rw [r3_Same_L1.eq]; unfold r3_Same_L1_b
    have c1 : decide ((0 : Int) < (((X3.bin k x y).t.L.length : Nat) : Int)) = true := rfl
    have c2 : decide ((0 : Int) ≤ 0) = true := rfl
    have c3 : w64 (0 + 1) = 1 := by decide
    rw [c1, cond_true, c2, cond_true, g0, Option.bind_some, Option.bind_some, ihx, Option.bind_some, c3]
    exact e1
theorem eqS_comm (a b : ByteArray) : eqS a b = eqS b a := by
  rw [Bool.eq_iff_iff, eqS_iff, eqS_iff]; exact eq_comm
/-- is a name among these? -/
def ctn (o : List ByteArray) (n : ByteArray) : Bool := o.any fun m => eqS m n
def addN (o l : List ByteArray) : List ByteArray := l.foldl (fun o n => if ctn o n then o else o ++ [n]) o
theorem addN_len (l : List ByteArray) : ∀ o, (addN o l).length ≤ o.length + l.length := by
  induction l with
  | nil => intro o; simp [addN]
  | cons n l ih =>
    intro o
    have := ih (if ctn o n then o else o ++ [n])
    simp only [addN, List.foldl_cons, List.length_cons] at this ⊢
    split at this <;> simp at this ⊢ <;> rename_i h <;> simp only [h, if_true, if_false, Bool.false_eq_true] <;> omega
theorem contains_eq (o : List ByteArray) (n : ByteArray) (hl : o.length ≤ 1000000) : slices_Contains o n = some (ctn o n) := by
  obtain ⟨r, h1, h2⟩ := loop_ind slices_Index_L1.eq (fun a => ∃ i : Nat, i ≤ o.length ∧ a = ⟨o, n, o.length, i⟩ ∧ ctn (o.drop i) n = ctn o n)
    (fun _ r => (∃ j : Nat, r = .inl (j : Int) ∧ ctn o n = true) ∨ (r = .inr () ∧ ctn o n = false)) (fun a => o.length - a.x8.toNat) (by
    rintro a ⟨i, hi, rfl, hq⟩
    simp only [slices_Index_L1_b, Int.toNat_natCast]
    by_cases h : i < o.length
    · have c1 : decide ((i : Int) < (o.length : Int)) = true := decide_eq_true (by omega)
      have c2 : decide (0 ≤ (i : Int)) = true := decide_eq_true (by omega)
      have hd : o.drop i = o[i] :: o.drop (i + 1) := List.drop_eq_getElem_cons h
      rw [hd] at hq
      rw [c1, cond_true, c2, cond_true, List.getElem?_eq_getElem h, Option.bind_some]
      cases he : eqS n o[i] with
      | true =>
        refine .inr ⟨_, rfl, .inl ⟨i, rfl, ?_⟩⟩
        rw [← hq]; simp only [ctn, List.any_cons, eqS_comm o[i] n, he, Bool.true_or]
      | false =>
        refine .inl ⟨⟨o, n, o.length, (i + 1 : Nat)⟩, ?_, ⟨i + 1, by omega, rfl, ?_⟩, by simp only [Int.toNat_natCast]; omega, fun r hr => hr⟩
        · rw [cond_false, w64_in (n := (i : Int) + 1) (by omega) (by omega)]; rfl
        · rw [← hq]; simp only [ctn, List.any_cons, eqS_comm o[i] n, he, Bool.false_or]
    · have c1 : decide ((i : Int) < (o.length : Int)) = false := decide_eq_false (by omega)
      rw [List.drop_eq_nil_of_le (by omega)] at hq
      exact .inr ⟨_, by rw [c1]; rfl, .inr ⟨rfl, hq.symm⟩⟩) ⟨o, n, o.length, 0⟩ ⟨0, by omega, rfl, rfl⟩
  rw [slices_Contains.eq]; unfold slices_Contains_b
  rw [slices_Index.eq]; unfold slices_Index_b
  rw [h1]
  rcases h2 with ⟨j, rfl, h⟩ | ⟨rfl, h⟩
  · rw [h]; simp
  · rw [h]; simp
theorem has_eq (o : List ByteArray) (n : ByteArray) (hl : o.length ≤ 1000000) : r3_has o n = some (ctn o n) := by
  obtain ⟨r, h1, h2⟩ := loop_ind r3_has_L1.eq (fun a => ∃ i : Nat, i ≤ o.length ∧ a = ⟨o, n, i⟩ ∧ ctn (o.drop i) n = ctn o n)
    (fun _ r => (r = .inl true ∧ ctn o n = true) ∨ (r = .inr () ∧ ctn o n = false)) (fun a => o.length - a.x5.toNat) (by
    rintro a ⟨i, hi, rfl, hq⟩
    simp only [r3_has_L1_b, Int.toNat_natCast]
    by_cases h : i < o.length
    · have c1 : decide ((i : Int) < (o.length : Int)) = true := decide_eq_true (by omega)
      have c2 : decide (0 ≤ (i : Int)) = true := decide_eq_true (by omega)
      have hd : o.drop i = o[i] :: o.drop (i + 1) := List.drop_eq_getElem_cons h
      rw [hd] at hq
      rw [c1, cond_true, c2, cond_true, List.getElem?_eq_getElem h, Option.bind_some]
      cases he : eqS o[i] n with
      | true =>
        refine .inr ⟨_, rfl, .inl ⟨rfl, ?_⟩⟩
        rw [← hq]; simp only [ctn, List.any_cons, he, Bool.true_or]
      | false =>
        refine .inl ⟨⟨o, n, (i + 1 : Nat)⟩, ?_, ⟨i + 1, by omega, rfl, ?_⟩, by simp only [Int.toNat_natCast]; omega, fun r hr => hr⟩
        · rw [cond_false, w64_in (n := (i : Int) + 1) (by omega) (by omega)]; rfl
        · rw [← hq]; simp only [ctn, List.any_cons, he, Bool.false_or]
    · have c1 : decide ((i : Int) < (o.length : Int)) = false := decide_eq_false (by omega)
      rw [List.drop_eq_nil_of_le (by omega)] at hq
      exact .inr ⟨_, by rw [c1]; rfl, .inr ⟨rfl, hq.symm⟩⟩) ⟨o, n, 0⟩ ⟨0, by omega, rfl, rfl⟩
  rw [r3_has.eq]; unfold r3_has_b
  rw [h1]
  rcases h2 with ⟨rfl, h⟩ | ⟨rfl, h⟩
  · rw [h]; rfl
  · rw [h]; rfl
/-- an expression's names -/
def nms : X3 → List ByteArray
  | .nm s => [s]
  | .neg x => addN [] (nms x)
  | .bin _ x y => addN (addN [] (nms x)) (nms y)
  | _ => []
theorem nms_len : ∀ x : X3, (nms x).length ≤ 2 ^ x.d
  | .num n => by simp [nms]
  | .nm s => by simp [nms, X3.d]
  | .here => by simp [nms]
  | .neg x => by
    have h1 := nms_len x
    have h2 := addN_len (nms x) []
    simp only [nms, X3.d, Nat.pow_succ, List.length_nil] at h2 ⊢; omega
  | .bin k x y => by
    have h1 := nms_len x
    have h2 := nms_len y
    have h3 := addN_len (nms x) []
    have h4 := addN_len (nms y) (addN [] (nms x))
    have e1 : 2 ^ x.d ≤ 2 ^ max x.d y.d := Nat.pow_le_pow_right (by decide) (Nat.le_max_left _ _)
    have e2 : 2 ^ y.d ≤ 2 ^ max x.d y.d := Nat.pow_le_pow_right (by decide) (Nat.le_max_right _ _)
    simp only [nms, X3.d, Nat.pow_succ, List.length_nil] at h3 ⊢; omega
theorem names_L2 (a : List T_api_Expr) (b c : Int) (l : List ByteArray) (o : List ByteArray) (ho : o.length + l.length ≤ 100000) : expr_Names_L2 ⟨a, b, c, l, l.length, 0, o⟩ = some ⟨a, b, c, addN o l⟩ := by
  obtain ⟨r, h1, h2⟩ := loop_ind expr_Names_L2.eq (fun q => ∃ i : Nat, ∃ o' : List ByteArray, i ≤ l.length ∧ q = ⟨a, b, c, l, l.length, i, o'⟩ ∧ addN o' (l.drop i) = addN o l ∧ o'.length ≤ o.length + i)
    (fun _ r => r = ⟨a, b, c, addN o l⟩) (fun q => l.length - q.x26.toNat) (by
    rintro q ⟨i, o', hi, rfl, hq, hlen⟩
    simp only [expr_Names_L2_b, Int.toNat_natCast]
    by_cases h : i < l.length
    · have c1 : decide ((i : Int) < (l.length : Int)) = true := decide_eq_true (by omega)
      have c2 : decide (0 ≤ (i : Int)) = true := decide_eq_true (by omega)
      have hd : l.drop i = l[i] :: l.drop (i + 1) := List.drop_eq_getElem_cons h
      rw [hd] at hq
      simp only [addN, List.foldl_cons] at hq
      rw [c1, cond_true, c2, cond_true, List.getElem?_eq_getElem h, Option.bind_some, contains_eq _ _ (by omega), Option.bind_some]
      cases hc : ctn o' l[i] with
      | true =>
        rw [hc] at hq
        refine .inl ⟨⟨a, b, c, l, l.length, (i + 1 : Nat), o'⟩, ?_, ⟨i + 1, o', by omega, rfl, hq, by omega⟩, by simp only [Int.toNat_natCast]; omega, fun r hr => hr⟩
        rw [w64_in (n := (i : Int) + 1) (by omega) (by omega)]; rfl
      | false =>
        rw [hc] at hq
        have c3 : decide ((o'.length + [l[i]].length) * 16 ≤ most) = true := decide_eq_true (by simp [most]; omega)
        refine .inl ⟨⟨a, b, c, l, l.length, (i + 1 : Nat), o' ++ [l[i]]⟩, ?_, ⟨i + 1, _, by omega, rfl, hq, by simp; omega⟩, by simp only [Int.toNat_natCast]; omega, fun r hr => hr⟩
        rw [w64_in (n := (i : Int) + 1) (by omega) (by omega), c3]; rfl
    · have c1 : decide ((i : Int) < (l.length : Int)) = false := decide_eq_false (by omega)
      rw [List.drop_eq_nil_of_le (by omega)] at hq
      exact .inr ⟨_, by rw [c1]; rfl, by rw [← hq]; rfl⟩) ⟨a, b, c, l, l.length, 0, o⟩ ⟨0, o, by omega, rfl, rfl, by omega⟩
  rw [h1, h2]
theorem r3names_L2 (a : Int) (e : T_api_Expr) (l : List ByteArray) (o : List ByteArray) (ho : o.length + l.length ≤ 100000) : r3_Names_L2 ⟨a, l, 0, e, o⟩ = some ⟨a, e, addN o l⟩ := by
  obtain ⟨r, h1, h2⟩ := loop_ind r3_Names_L2.eq (fun q => ∃ i : Nat, ∃ o' : List ByteArray, i ≤ l.length ∧ q = ⟨a, l, i, e, o'⟩ ∧ addN o' (l.drop i) = addN o l ∧ o'.length ≤ o.length + i)
    (fun _ r => r = ⟨a, e, addN o l⟩) (fun q => l.length - q.x6.toNat) (by
    rintro q ⟨i, o', hi, rfl, hq, hlen⟩
    simp only [r3_Names_L2_b, Int.toNat_natCast]
    by_cases h : i < l.length
    · have c1 : decide ((i : Int) < (l.length : Int)) = true := decide_eq_true (by omega)
      have c2 : decide (0 ≤ (i : Int)) = true := decide_eq_true (by omega)
      have hd : l.drop i = l[i] :: l.drop (i + 1) := List.drop_eq_getElem_cons h
      rw [hd] at hq
      simp only [addN, List.foldl_cons] at hq
      rw [c1, cond_true, c2, cond_true, List.getElem?_eq_getElem h, Option.bind_some, has_eq _ _ (by omega), Option.bind_some]
      cases hc : ctn o' l[i] with
      | true =>
        rw [hc] at hq
        refine .inl ⟨⟨a, l, (i + 1 : Nat), e, o'⟩, ?_, ⟨i + 1, o', by omega, rfl, hq, by omega⟩, by simp only [Int.toNat_natCast]; omega, fun r hr => hr⟩
        rw [w64_in (n := (i : Int) + 1) (by omega) (by omega)]; rfl
      | false =>
        rw [hc] at hq
        have c3 : decide ((o'.length + [l[i]].length) * 16 ≤ most) = true := decide_eq_true (by simp [most]; omega)
        refine .inl ⟨⟨a, l, (i + 1 : Nat), e, o' ++ [l[i]]⟩, ?_, ⟨i + 1, _, by omega, rfl, hq, by simp; omega⟩, by simp only [Int.toNat_natCast]; omega, fun r hr => hr⟩
        rw [w64_in (n := (i : Int) + 1) (by omega) (by omega), Bool.not_false, cond_true, Option.bind_some, c3]; rfl
    · have c1 : decide ((i : Int) < (l.length : Int)) = false := decide_eq_false (by omega)
      rw [List.drop_eq_nil_of_le (by omega)] at hq
      exact .inr ⟨_, by rw [c1]; rfl, by rw [← hq]; rfl⟩) ⟨a, l, 0, e, o⟩ ⟨0, o, by omega, rfl, rfl, by omega⟩
  rw [h1, h2]
theorem clone_eq {l : List ByteArray} (h : l.length ≤ 100000) : slices_Clone l = some l := by
  show cloneS l = some l
  unfold cloneS; rw [if_pos (by omega)]
theorem w1 : w64 (0 + 1) = 1 ∧ w64 (1 + 1) = 2 := by decide
theorem names_eq : ∀ x : X3, okW x → x.d ≤ 12 → expr_Names x.t = some (nms x) ∧ r3_Names x.t = some (nms x) := by
  intro x
  induction x with
  | num n =>
    intro _ _
    constructor
    · have e0 : expr_Names_L1 ⟨(X3.num n).t.L, (((X3.num n).t.L.length : Nat) : Int), 0, []⟩ = some [] := by rw [expr_Names_L1.eq]; rfl
      have c1 : ((X3.num n).t.Kind == 2) = false := rfl
      rw [expr_Names.eq]; unfold expr_Names_b
      rw [c1, cond_false, e0, Option.bind_some, clone_eq (by simp)]; rfl
    · rw [r3_Names.eq]; unfold r3_Names_b; rw [r3_Names_L1.eq]; rfl
  | here =>
    intro _ _
    constructor
    · have e0 : expr_Names_L1 ⟨X3.here.t.L, ((X3.here.t.L.length : Nat) : Int), 0, []⟩ = some [] := by rw [expr_Names_L1.eq]; rfl
      have c1 : (X3.here.t.Kind == 2) = false := rfl
      rw [expr_Names.eq]; unfold expr_Names_b
      rw [c1, cond_false, e0, Option.bind_some, clone_eq (by simp)]; rfl
    · rw [r3_Names.eq]; unfold r3_Names_b; rw [r3_Names_L1.eq]; rfl
  | nm s =>
    intro _ _
    constructor
    · rw [expr_Names.eq]; unfold expr_Names_b; rw [expr_Names_L1.eq]; rfl
    · rw [r3_Names.eq]; rfl
  | neg x ih =>
    intro hx hd
    have hd' : x.d + 1 ≤ 12 := hd
    obtain ⟨i1, i2⟩ := ih hx (by omega)
    have hl := nms_len x
    have hp : 2 ^ x.d ≤ 2 ^ 12 := Nat.pow_le_pow_right (by decide) (by omega)
    have hp2 : (2 : Nat) ^ 12 = 4096 := rfl
    have ha := addN_len (nms x) []
    constructor
    · have e2 : expr_Names_L1 ⟨[x.t], 1, 1, addN [] (nms x)⟩ = some (addN [] (nms x)) := by rw [expr_Names_L1.eq]; rfl
      have e1 : expr_Names_L1 ⟨[x.t], 1, 0, []⟩ = some (addN [] (nms x)) := by
        rw [expr_Names_L1.eq]; unfold expr_Names_L1_b
        have c1 : decide ((0 : Int) < 1) = true := rfl
        have c2 : decide ((0 : Int) ≤ 0) = true := rfl
        have g0 : ([x.t] : List T_api_Expr)[Int.toNat 0]? = some x.t := rfl
        rw [c1, cond_true, c2, cond_true, g0, Option.bind_some, i1, Option.bind_some, names_L2 _ _ _ (nms x) [] (by simp; omega), Option.bind_some, w1.1]
        exact e2
      rw [expr_Names.eq]; unfold expr_Names_b
      have c1 : ((X3.neg x).t.Kind == 2) = false := rfl
      have e0 : expr_Names_L1 ⟨(X3.neg x).t.L, (((X3.neg x).t.L.length : Nat) : Int), 0, []⟩ = some (addN [] (nms x)) := e1
      rw [c1, cond_false, e0, Option.bind_some, clone_eq (by simp at ha; omega)]; rfl
    · have e2 : r3_Names_L1 ⟨1, (X3.neg x).t, addN [] (nms x)⟩ = some (addN [] (nms x)) := by rw [r3_Names_L1.eq]; rfl
      rw [r3_Names.eq]; unfold r3_Names_b
      have c0 : ((X3.neg x).t.Kind == 2) = false := rfl
      rw [c0, cond_false, r3_Names_L1.eq]; unfold r3_Names_L1_b
      have c1 : decide ((0 : Int) < (((X3.neg x).t.L.length : Nat) : Int)) = true := rfl
      have c2 : decide ((0 : Int) ≤ 0) = true := rfl
      have g0 : (X3.neg x).t.L[Int.toNat 0]? = some x.t := rfl
      rw [c1, cond_true, c2, cond_true, g0, Option.bind_some, i2, Option.bind_some, r3names_L2 _ _ (nms x) [] (by simp; omega), Option.bind_some, w1.1, Option.bind_some]
      show Option.bind (r3_Names_L1 ⟨1, (X3.neg x).t, addN [] (nms x)⟩) _ = _
      rw [e2]; rfl
  | bin k x y ihx ihy =>
    intro hx hd
    obtain ⟨hk1, hk2, hx', hy'⟩ := hx
    have hd' : max x.d y.d + 1 ≤ 12 := hd
    have m1 : x.d ≤ max x.d y.d := Nat.le_max_left _ _
    have m2 : y.d ≤ max x.d y.d := Nat.le_max_right _ _
    obtain ⟨i1, i2⟩ := ihx hx' (by omega)
    obtain ⟨j1, j2⟩ := ihy hy' (by omega)
    have hl := nms_len x
    have hl2 := nms_len y
    have hp : 2 ^ x.d ≤ 2 ^ 12 := Nat.pow_le_pow_right (by decide) (by omega)
    have hp' : 2 ^ y.d ≤ 2 ^ 12 := Nat.pow_le_pow_right (by decide) (by omega)
    have hp2 : (2 : Nat) ^ 12 = 4096 := rfl
    have ha := addN_len (nms x) []
    have ha2 := addN_len (nms y) (addN [] (nms x))
    simp only [List.length_nil] at ha
    constructor
    · have e3 : expr_Names_L1 ⟨[x.t, y.t], 2, 2, addN (addN [] (nms x)) (nms y)⟩ = some (addN (addN [] (nms x)) (nms y)) := by rw [expr_Names_L1.eq]; rfl
      have e2 : expr_Names_L1 ⟨[x.t, y.t], 2, 1, addN [] (nms x)⟩ = some (addN (addN [] (nms x)) (nms y)) := by
        rw [expr_Names_L1.eq]; unfold expr_Names_L1_b
        have c1 : decide ((1 : Int) < 2) = true := rfl
        have c2 : decide ((0 : Int) ≤ 1) = true := rfl
        have g0 : ([x.t, y.t] : List T_api_Expr)[Int.toNat 1]? = some y.t := rfl
        rw [c1, cond_true, c2, cond_true, g0, Option.bind_some, j1, Option.bind_some, names_L2 _ _ _ (nms y) (addN [] (nms x)) (by omega), Option.bind_some, w1.2]
        exact e3
      have e1 : expr_Names_L1 ⟨[x.t, y.t], 2, 0, []⟩ = some (addN (addN [] (nms x)) (nms y)) := by
        rw [expr_Names_L1.eq]; unfold expr_Names_L1_b
        have c1 : decide ((0 : Int) < 2) = true := rfl
        have c2 : decide ((0 : Int) ≤ 0) = true := rfl
        have g0 : ([x.t, y.t] : List T_api_Expr)[Int.toNat 0]? = some x.t := rfl
        rw [c1, cond_true, c2, cond_true, g0, Option.bind_some, i1, Option.bind_some, names_L2 _ _ _ (nms x) [] (by simp; omega), Option.bind_some, w1.1]
        exact e2
      rw [expr_Names.eq]; unfold expr_Names_b
      have c1 : ((X3.bin k x y).t.Kind == 2) = false := by rw [beq_eq_false_iff_ne]; show (k : Int) ≠ 2; omega
      have e0 : expr_Names_L1 ⟨(X3.bin k x y).t.L, (((X3.bin k x y).t.L.length : Nat) : Int), 0, []⟩ = some (addN (addN [] (nms x)) (nms y)) := e1
      rw [c1, cond_false, e0, Option.bind_some, clone_eq (by omega)]; rfl
    · have e3 : r3_Names_L1 ⟨2, (X3.bin k x y).t, addN (addN [] (nms x)) (nms y)⟩ = some (addN (addN [] (nms x)) (nms y)) := by rw [r3_Names_L1.eq]; rfl
      have e2 : r3_Names_L1 ⟨1, (X3.bin k x y).t, addN [] (nms x)⟩ = some (addN (addN [] (nms x)) (nms y)) := by
        rw [r3_Names_L1.eq]; unfold r3_Names_L1_b
        have c1 : decide ((1 : Int) < (((X3.bin k x y).t.L.length : Nat) : Int)) = true := rfl
        have c2 : decide ((0 : Int) ≤ 1) = true := rfl
        have g0 : (X3.bin k x y).t.L[Int.toNat 1]? = some y.t := rfl
        rw [c1, cond_true, c2, cond_true, g0, Option.bind_some, j2, Option.bind_some, r3names_L2 _ _ (nms y) (addN [] (nms x)) (by omega), Option.bind_some, w1.2, Option.bind_some]
        exact e3
      rw [r3_Names.eq]; unfold r3_Names_b
      have c0 : ((X3.bin k x y).t.Kind == 2) = false := by rw [beq_eq_false_iff_ne]; show (k : Int) ≠ 2; omega
      rw [c0, cond_false, r3_Names_L1.eq]; unfold r3_Names_L1_b
      have c1 : decide ((0 : Int) < (((X3.bin k x y).t.L.length : Nat) : Int)) = true := rfl
      have c2 : decide ((0 : Int) ≤ 0) = true := rfl
      have g0 : (X3.bin k x y).t.L[Int.toNat 0]? = some x.t := rfl
      rw [c1, cond_true, c2, cond_true, g0, Option.bind_some, i2, Option.bind_some, r3names_L2 _ _ (nms x) [] (by simp; omega), Option.bind_some, w1.1, Option.bind_some]
      show Option.bind (r3_Names_L1 ⟨1, (X3.bin k x y).t, addN [] (nms x)⟩) _ = _
      rw [e2]; rfl
theorem back_L1 (s : ByteArray) (b : Bool) (l : List ByteArray) (hl : l.length ≤ 100000) (e f : T_api_Expr) : w3_ExprBack_L1 ⟨s, b, l, l, 0, e, f⟩ = some (.inr ⟨s, b, e, f⟩) := by
  obtain ⟨r, h1, h2⟩ := loop_ind w3_ExprBack_L1.eq (fun a => ∃ i : Nat, i ≤ l.length ∧ a = ⟨s, b, l, l, i, e, f⟩) (fun _ r => r = .inr ⟨s, b, e, f⟩) (fun a => l.length - a.x9.toNat) (by
    rintro a ⟨i, hi, rfl⟩
    simp only [w3_ExprBack_L1_b, Int.toNat_natCast]
    by_cases h : i < l.length
    · have c1 : decide ((i : Int) < (l.length : Int)) = true := decide_eq_true (by omega)
      have c2 : decide (0 ≤ (i : Int)) = true := decide_eq_true (by omega)
      have he : eqS l[i] l[i] = true := eqS_iff.2 rfl
      refine .inl ⟨⟨s, b, l, l, (i + 1 : Nat), e, f⟩, ?_, ⟨i + 1, by omega, rfl⟩, by simp only [Int.toNat_natCast]; omega, fun r hr => hr⟩
      rw [c1, cond_true, c2, cond_true, List.getElem?_eq_getElem h, Option.bind_some, Option.bind_some, he, w64_in (n := (i : Int) + 1) (by omega) (by omega)]; rfl
    · have c1 : decide ((i : Int) < (l.length : Int)) = false := decide_eq_false (by omega)
      exact .inr ⟨_, by rw [c1]; rfl, rfl⟩) ⟨s, b, l, l, 0, e, f⟩ ⟨0, by omega, rfl⟩
  rw [h1, h2]
theorem w3_ExprBack_true (l : List T_w3_Raw) (w : l.length ≤ maxLen ∧ ∀ y ∈ l, wf_w3_Raw y) : w3_ExprBack l = some true := by
  rw [w3_ExprBack.eq]; unfold w3_ExprBack_b
  obtain ⟨b, hb, hx⟩ := few_one l w.1 w.2
  rw [w3_known_true, Option.bind_some, hb, Option.bind_some]
  cases b with
  | false => rfl
  | true =>
    obtain ⟨x, e1, e2, e3⟩ := hx rfl
    have hW := ok_okW e2
    obtain ⟨n1, n2⟩ := names_eq x hW (by omega)
    have hn := nsp_le x
    have hl := nms_len x
    have hp : 2 ^ x.d ≤ 2 ^ 12 := Nat.pow_le_pow_right (by decide) (by omega)
    have hp2 : (2 : Nat) ^ 12 = 4096 := rfl
    have c1 : ((((nms x).length : Nat) : Int) != (((nms x).length : Nat) : Int)) = false := by simp
    have he : eqS (ba (tx x)) (ba (tx x)) = true := eqS_iff.2 rfl
    simp only [Bool.not_true, cond_false]
    rw [e1, Option.bind_some, (expr_Text_eq x hW (by omega)).1, Option.bind_some, read_text hW (by omega) (tx_tk x), Option.bind_some, n1, Option.bind_some, n2, Option.bind_some, c1, cond_false, back_L1 _ _ _ (by omega), Option.bind_some]
    simp only [Sum.elim_inr]
    rw [(r3_Text_eq x hW (by omega)).1, Option.bind_some, he, cond_true, cond_true, same_refl, Option.bind_some]
end Go.Ab
namespace Go.Ab
/-- the document's reader, what is left of the text l being s -/
abbrev RS (l s : List UInt8) (d : Int) (b : Bool) : T_r3_reader := ⟨ba l, ((l.length - s.length : Nat) : Int), d, b⟩
theorem suf_get {l s : List UInt8} {c : UInt8} {t : List UInt8} (h : s <:+ l) (e : s = c :: t) : (ba l).data.getD (Int.toNat ((l.length - s.length : Nat) : Int)) 0 = c ∧ l.length - s.length < l.length ∧ l.length - t.length = l.length - s.length + 1 ∧ t <:+ l := by
  obtain ⟨q, rfl⟩ := h
  subst e
  refine ⟨?_, by simp, by simp; omega, ⟨q ++ [c], by simp⟩⟩
  rw [ba_getD, Int.toNat_natCast]
  simp
theorem past_eq {l : List UInt8} (hl : l.length ≤ 1000000000) (d : Int) (b : Bool) : ∀ s, s <:+ l → r3_reader_past (RS l s d b) = some (RS l (dropB s) d b) := by
  have loop : ∀ s, s <:+ l → r3_reader_past_L1 (RS l s d b) = some (RS l (dropB s) d b) := by
    intro s
    induction s with
    | nil =>
      intro hs
      rw [r3_reader_past_L1.eq]; unfold r3_reader_past_L1_b
      have c1 : decide (((l.length - ([] : List UInt8).length : Nat) : Int) < (((ba l).size : Nat) : Int)) = false := decide_eq_false (by rw [ba_size]; simp)
      simp only
      rw [c1]; rfl
    | cons c t ih =>
      intro hs
      obtain ⟨h1, h2, h3, h4⟩ := suf_get hs rfl
      have c1 : decide (((l.length - (c :: t).length : Nat) : Int) < (((ba l).size : Nat) : Int)) = true := decide_eq_true (by rw [ba_size]; omega)
      have c2 : decide (0 ≤ ((l.length - (c :: t).length : Nat) : Int) ∧ ((l.length - (c :: t).length : Nat) : Int) < (((ba l).size : Nat) : Int)) = true := decide_eq_true (by rw [ba_size]; omega)
      rw [r3_reader_past_L1.eq]; unfold r3_reader_past_L1_b
      simp only
      rw [c1, cond_true, c2, cond_true, h1]
      by_cases hc : c = 32
      · have c3 : ((c.toNat : Int) == 32) = true := by subst hc; rfl
        rw [c3, cond_true, w64_in (by omega) (by omega)]
        simp only [Option.bind_some, Sum.elim_inl]
        have e : (⟨ba l, ((l.length - (c :: t).length : Nat) : Int) + 1, d, b⟩ : T_r3_reader) = RS l t d b := by
          rw [show ((l.length - (c :: t).length : Nat) : Int) + 1 = ((l.length - t.length : Nat) : Int) from by rw [h3]; rfl]
        rw [e, ih h4]
        subst hc; rfl
      · have c3 : ((c.toNat : Int) == 32) = false := by
          rw [beq_eq_false_iff_ne]; intro e; exact hc (UInt8.toNat_inj.1 (by have : (32 : UInt8).toNat = 32 := rfl; omega))
        rw [c3, cond_false, dropB_head hc]; rfl
  intro s hs
  rw [r3_reader_past.eq]; unfold r3_reader_past_b
  rw [loop s hs]; rfl
theorem dropB_suf (s : List UInt8) : dropB s <:+ s := List.dropWhile_suffix _
theorem is_eq {l : List UInt8} (hl : l.length ≤ 1000000000) (a : List UInt8) (ha : a.length ≤ 100) (s : List UInt8) (hs : s <:+ l) (d : Int) (b : Bool) :
    r3_reader_is (ba a) (RS l s d b) = some (bif pre a (dropB s) then (true, RS l ((dropB s).drop a.length) d b) else (false, RS l (dropB s) d b)) := by
  rw [r3_reader_is.eq]; unfold r3_reader_is_b
  rw [past_eq hl d b s hs, Option.bind_some]
  have hs2 : dropB s <:+ l := (dropB_suf s).trans hs
  generalize dropB s = t at hs2
  obtain ⟨q, hq⟩ := hs2
  have hlen : l.length = q.length + t.length := by rw [← hq, List.length_append]
  have hP : l.length - t.length = q.length := by omega
  simp only [ba_size]
  rw [hP, w64_in (n := (q.length : Int) + (a.length : Int)) (by omega) (by omega)]
  by_cases h : a.length ≤ t.length
  · have c1 : decide ((q.length : Int) + (a.length : Int) > (l.length : Int)) = false := decide_eq_false (by omega)
    have c2 : decide (0 ≤ (q.length : Int) ∧ (q.length : Int) ≤ (q.length : Int) + (a.length : Int) ∧ (q.length : Int) + (a.length : Int) ≤ (l.length : Int)) = true := decide_eq_true (by omega)
    have e1 : (ba l).extract (Int.toNat (q.length : Int)) (Int.toNat ((q.length : Int) + (a.length : Int))) = ba (t.take a.length) := by
      rw [ba_extract, Int.toNat_natCast, show ((q.length : Int) + (a.length : Int)).toNat = q.length + a.length from by omega, ← hq, List.take_append, List.take_of_length_le (by omega), List.drop_left, show q.length + a.length - q.length = a.length from by omega]
    rw [c1, cond_false, c2, cond_true, e1, eqS_ba]
    cases hp : pre a t with
    | true =>
      have : decide (t.take a.length = a) = true := hp
      rw [this]
      simp only [Bool.not_true, cond_false, cond_true]
      rw [show (q.length : Int) + (a.length : Int) = ((l.length - (t.drop a.length).length : Nat) : Int) from by rw [List.length_drop]; omega]
    | false =>
      have : decide (t.take a.length = a) = false := hp
      rw [this]
      simp only [Bool.not_false, cond_true, cond_false]
  · have c1 : decide ((q.length : Int) + (a.length : Int) > (l.length : Int)) = true := decide_eq_true (by omega)
    have hp : pre a t = false := by
      unfold pre; exact decide_eq_false fun e => by
        have := congrArg List.length e
        simp at this; omega
    rw [c1, hp]
    simp only [cond_true, cond_false]
theorem r3_digit_eq (c : UInt8) : r3_digit (c.toNat : Int) 10 = some (if isD c then (dg c : Int) else -1) ∧ r3_digit (c.toNat : Int) 16 = some (if isH c then (dg c : Int) else -1) := by
  have hc := c.toNat_lt
  have e10 : ((10 : Int) == 16) = false := rfl
  have e16 : ((16 : Int) == 16) = true := rfl
  by_cases h1 : 48 ≤ c.toNat ∧ c.toNat ≤ 57
  · have c1 : decide ((c.toNat : Int) ≥ 48) = true := decide_eq_true (by omega)
    have c2 : decide ((c.toNat : Int) ≤ 57) = true := decide_eq_true (by omega)
    have hD : isD c = true := decide_eq_true h1
    have hH : isH c = true := by simp [isH, hD]
    have hg : dg c = c.toNat - 48 := by unfold dg; rw [if_neg (by omega)]
    have e : w64 (IntKind.u8.wrap ((c.toNat : Int) - 48)) = (dg c : Int) := by rw [u8_in (by omega) (by omega), w64_in (by omega) (by omega)]; omega
    constructor <;> rw [r3_digit.eq] <;> unfold r3_digit_b <;> rw [c1, cond_true, c2, cond_true, e]
    · rw [hD]; rfl
    · rw [hH]; rfl
  · have hD : isD c = false := decide_eq_false h1
    have step10 : r3_digit (c.toNat : Int) 10 = some (-1) := by
      rw [r3_digit.eq]; unfold r3_digit_b
      rw [e10]
      cases h : decide ((c.toNat : Int) ≥ 48)
      · rfl
      · have c2 : decide ((c.toNat : Int) ≤ 57) = false := decide_eq_false (by have := of_decide_eq_true h; omega)
        rw [c2]; rfl
    refine ⟨by rw [step10, hD]; rfl, ?_⟩
    have head : r3_digit (c.toNat : Int) 16 = bif decide ((c.toNat : Int) ≥ 97) then (bif decide ((c.toNat : Int) ≤ 102) then some (w64 (w64 (IntKind.u8.wrap ((c.toNat : Int) - 97)) + 10)) else some (-1)) else some (-1) := by
      rw [r3_digit.eq]; unfold r3_digit_b
      rw [e16]
      cases h : decide ((c.toNat : Int) ≥ 48)
      · rfl
      · have c2 : decide ((c.toNat : Int) ≤ 57) = false := decide_eq_false (by have := of_decide_eq_true h; omega)
        rw [c2]; rfl
    rw [head]
    by_cases h2 : 97 ≤ c.toNat ∧ c.toNat ≤ 102
    · have c3 : decide ((c.toNat : Int) ≥ 97) = true := decide_eq_true (by omega)
      have c4 : decide ((c.toNat : Int) ≤ 102) = true := decide_eq_true (by omega)
      have hH : isH c = true := by simp [isH, h2]
      have hg : dg c = c.toNat - 97 + 10 := by unfold dg; rw [if_pos h2.1]
      have e : w64 (w64 (IntKind.u8.wrap ((c.toNat : Int) - 97)) + 10) = (dg c : Int) := by
        rw [u8_in (by omega) (by omega), w64_in (n := (c.toNat : Int) - 97) (by omega) (by omega), w64_in (by omega) (by omega)]; omega
      rw [c3, cond_true, c4, cond_true, e, hH]; rfl
    · have hH : isH c = false := by rw [isH, hD]; simp; omega
      rw [hH]
      cases h : decide ((c.toNat : Int) ≥ 97)
      · rfl
      · have c4 : decide ((c.toNat : Int) ≤ 102) = false := decide_eq_false (by have := of_decide_eq_true h; omega)
        rw [c4]; rfl
/-- digits to a base -/
def isB (base : Nat) (c : UInt8) : Bool := if base = 16 then isH c else isD c
theorem r3_digit_B {base : Nat} (hb : base = 10 ∨ base = 16) (c : UInt8) : r3_digit (c.toNat : Int) (base : Int) = some (if isB base c then (dg c : Int) else -1) := by
  rcases hb with rfl | rfl
  · exact (r3_digit_eq c).1
  · exact (r3_digit_eq c).2
theorem isB_H {base : Nat} {c : UInt8} (h : isB base c = true) : isH c = true := by
  unfold isB at h
  split at h
  · exact h
  · simp [isH, h]
theorem rnum_loop {l : List UInt8} (hl : l.length ≤ 1000000000) {base : Nat} (hb : base = 10 ∨ base = 16) (at_ : Int) (d : Int) (b : Bool) : ∀ (s : List UInt8) (n : Nat), s <:+ l → n < 4294967296 →
    match numv base (s.takeWhile (isB base)) n with
    | some m => r3_reader_number_L1 ⟨base, n, at_, RS l s d b, E0⟩ = some (.inr ⟨m, at_, RS l (s.dropWhile (isB base)) d b, E0⟩)
    | none => ∃ r, r <:+ l ∧ r3_reader_number_L1 ⟨base, n, at_, RS l s d b, E0⟩ = some (.inl ⟨RS l r d true, E0⟩) := by
  intro s
  induction s with
  | nil =>
    intro n hs hn
    simp only [List.takeWhile_nil, numv]
    rw [r3_reader_number_L1.eq]; unfold r3_reader_number_L1_b
    have c1 : decide (((l.length - ([] : List UInt8).length : Nat) : Int) < (((ba l).size : Nat) : Int)) = false := decide_eq_false (by rw [ba_size]; simp)
    simp only
    rw [c1]; rfl
  | cons c t ih =>
    intro n hs hn
    obtain ⟨h1, h2, h3, h4⟩ := suf_get hs rfl
    have c1 : decide (((l.length - (c :: t).length : Nat) : Int) < (((ba l).size : Nat) : Int)) = true := decide_eq_true (by rw [ba_size]; omega)
    have c2 : decide (0 ≤ ((l.length - (c :: t).length : Nat) : Int) ∧ ((l.length - (c :: t).length : Nat) : Int) < (((ba l).size : Nat) : Int)) = true := decide_eq_true (by rw [ba_size]; omega)
    have step : r3_reader_number_L1 ⟨base, n, at_, RS l (c :: t) d b, E0⟩ = (r3_reader_number_L1_b r3_digit ⟨base, n, at_, RS l (c :: t) d b, E0⟩).bind (Sum.elim r3_reader_number_L1 some) := r3_reader_number_L1.eq _
    unfold r3_reader_number_L1_b at step
    simp only at step
    rw [c1, cond_true, c2, cond_true, h1, r3_digit_B hb, Option.bind_some, Option.bind_some] at step
    cases hB : isB base c with
    | false =>
      rw [hB] at step
      have c3 : decide ((if false = true then ((dg c : Nat) : Int) else -1) ≥ 0) = false := rfl
      rw [c3, cond_false] at step
      simp only [List.takeWhile_cons, hB, Bool.false_eq_true, if_false, numv, List.dropWhile_cons]
      rw [step]; rfl
    | true =>
      rw [hB] at step
      have hdg := dg_lt (isB_H hB)
      have c3 : decide ((if true = true then ((dg c : Nat) : Int) else -1) ≥ 0) = true := decide_eq_true (by rw [if_pos rfl]; omega)
      have hmul : n * base ≤ 4294967296 * 16 := Nat.mul_le_mul (by omega) (by omega)
      have em : w64 (w64 ((base : Int) * (n : Int)) + (if true = true then ((dg c : Nat) : Int) else -1)) = ((n * base + dg c : Nat) : Int) := by
        rw [if_pos rfl, ← Int.natCast_mul, Nat.mul_comm base n, w64_in (n := ((n * base : Nat) : Int)) (by omega) (by omega), w64_in (by omega) (by omega)]; omega
      have e3 : (⟨ba l, w64 (((l.length - (c :: t).length : Nat) : Int) + 1), d, b⟩ : T_r3_reader) = RS l t d b := by
        rw [w64_in (by omega) (by omega), show ((l.length - (c :: t).length : Nat) : Int) + 1 = ((l.length - t.length : Nat) : Int) from by rw [h3]; rfl]
      have e4 : (⟨ba l, w64 (((l.length - (c :: t).length : Nat) : Int) + 1), d, true⟩ : T_r3_reader) = RS l t d true := by
        rw [w64_in (by omega) (by omega), show ((l.length - (c :: t).length : Nat) : Int) + 1 = ((l.length - t.length : Nat) : Int) from by rw [h3]; rfl]
      rw [c3, cond_true, em, e3, e4] at step
      simp only [List.takeWhile_cons, hB, if_true, numv, List.dropWhile_cons]
      by_cases hbig : n * base + dg c ≥ 4294967296
      · have c4 : decide (((n * base + dg c : Nat) : Int) ≥ 4294967296) = true := decide_eq_true (by omega)
        rw [if_pos hbig]
        rw [c4, cond_true] at step
        exact ⟨t, h4, step⟩
      · have c4 : decide (((n * base + dg c : Nat) : Int) ≥ 4294967296) = false := decide_eq_false (by omega)
        rw [if_neg hbig]
        rw [c4, cond_false] at step
        have ih := ih (n * base + dg c) h4 (by omega)
        rw [step]
        exact ih
theorem tw_nil_dw {p : UInt8 → Bool} {s : List UInt8} : (s.takeWhile p = [] ↔ s.dropWhile p = s) ∧ (s.dropWhile p).length = s.length - (s.takeWhile p).length := by
  have h := List.takeWhile_append_dropWhile (p := p) (l := s)
  have hl := congrArg List.length h
  rw [List.length_append] at hl
  refine ⟨⟨fun e => by rw [e, List.nil_append] at h; exact h, fun e => by
    have := congrArg List.length e
    exact List.eq_nil_of_length_eq_zero (by omega)⟩, by omega⟩
theorem rnumber_eq {l : List UInt8} (hl : l.length ≤ 1000000000) {base : Nat} (hb : base = 10 ∨ base = 16) (s : List UInt8) (hs : s <:+ l) (d : Int) (b : Bool) :
    match numv base (s.takeWhile (isB base)) 0 with
    | some n => r3_reader_number base (RS l s d b) = some (⟨1, n, s_, []⟩, RS l (s.dropWhile (isB base)) d (bif decide (s.takeWhile (isB base) = []) then true else b))
    | none => ∃ r, r <:+ l ∧ r3_reader_number base (RS l s d b) = some (E0, RS l r d true) := by
  have hL := rnum_loop hl hb ((l.length - s.length : Nat) : Int) d b s 0 hs (by decide)
  have step : r3_reader_number base (RS l s d b) = r3_reader_number_b r3_reader_number_L1 base (RS l s d b) := r3_reader_number.eq _ _
  unfold r3_reader_number_b at step
  cases hv : numv base (s.takeWhile (isB base)) 0 with
  | none =>
    rw [hv] at hL
    obtain ⟨r, hr, e⟩ := hL
    refine ⟨r, hr, ?_⟩
    have e : r3_reader_number_L1 ⟨base, 0, ((l.length - s.length : Nat) : Int), RS l s d b, E0⟩ = some (.inl ⟨RS l r d true, E0⟩) := e
    simp only at step
    rw [e] at step; exact step
  | some n =>
    rw [hv] at hL
    have e : r3_reader_number_L1 ⟨base, 0, ((l.length - s.length : Nat) : Int), RS l s d b, E0⟩ = some (.inr ⟨n, ((l.length - s.length : Nat) : Int), RS l (s.dropWhile (isB base)) d b, E0⟩) := hL
    simp only at step
    rw [e, Option.bind_some, Sum.elim_inr] at step
    simp only at step ⊢
    obtain ⟨t1, t2⟩ := @tw_nil_dw (isB base) s
    have hsl : s.length ≤ l.length := hs.length_le
    have htl : (s.takeWhile (isB base)).length ≤ s.length := (List.takeWhile_sublist _).length_le
    have c1 : (((l.length - s.length : Nat) : Int) == ((l.length - (s.dropWhile (isB base)).length : Nat) : Int)) = decide (s.takeWhile (isB base) = []) := by
      rw [Bool.eq_iff_iff, beq_iff_eq, decide_eq_true_iff]
      constructor
      · intro e; exact List.eq_nil_of_length_eq_zero (by omega)
      · intro e; rw [t1.1 e]
    rw [c1] at step
    rw [step]
    cases decide (s.takeWhile (isB base) = []) <;> rfl
end Go.Ab
namespace Go.Ab
theorem I_split (c : UInt8) : isI c = (isS c || isD c) := rfl
theorem S_not_D {c : UInt8} : isS c = (isI c && !isD c) := by
  rw [I_split]
  cases hd : isD c with
  | false => simp
  | true =>
    have : isS c = false := by
      unfold isD at hd; unfold isS
      have := of_decide_eq_true hd
      exact decide_eq_false (by omega)
    rw [this]; rfl
/-- a round of the document's look at a word -/
theorem rword_round (w : List UInt8) (f : Bool) (i : Nat) (hi : i < w.length) (hw : w.length ≤ 100) : r3_Word_L1_b ⟨ba w, f, i⟩ =
    some (bif !isS w[i] && (decide (i = 0) || !isD w[i]) then .inr (.inl false) else .inl ⟨ba w, bif decide (0 < i) && !isD w[i] then false else f, (i + 1 : Nat)⟩) := by
  have hg : (ba w).data.getD (Int.toNat (i : Int)) 0 = w[i] := by rw [ba_getD, Int.toNat_natCast]; simp [hi]
  have c1 : decide ((i : Int) < (((ba w).size : Nat) : Int)) = true := decide_eq_true (by rw [ba_size]; omega)
  have c2 : decide (0 ≤ (i : Int) ∧ (i : Int) < (((ba w).size : Nat) : Int)) = true := decide_eq_true (by rw [ba_size]; omega)
  unfold r3_Word_L1_b
  simp only
  rw [c1, cond_true, c2, cond_true, hg]
  generalize w[i] = c
  have hS : isS c = (decide ((c.toNat : Int) ≥ 97) && decide ((c.toNat : Int) ≤ 122) || !((c.toNat : Int) != 95)) := by
    have e1 : decide ((c.toNat : Int) ≥ 97) = decide (97 ≤ c.toNat) := decide_eq_decide.2 (by omega)
    have e2 : decide ((c.toNat : Int) ≤ 122) = decide (c.toNat ≤ 122) := decide_eq_decide.2 (by omega)
    have e3 : (!((c.toNat : Int) != 95)) = decide (c.toNat = 95) := by
      rw [Bool.eq_iff_iff]; simp; omega
    unfold isS; rw [e1, e2, e3, Bool.decide_or, Bool.decide_and]
  have hD : isD c = (decide ((c.toNat : Int) ≥ 48) && decide ((c.toNat : Int) ≤ 57)) := by
    have e1 : decide ((c.toNat : Int) ≥ 48) = decide (48 ≤ c.toNat) := decide_eq_decide.2 (by omega)
    have e2 : decide ((c.toNat : Int) ≤ 57) = decide (c.toNat ≤ 57) := decide_eq_decide.2 (by omega)
    unfold isD; rw [e1, e2, Bool.decide_and]
  have h0 : ((i : Int) == 0) = decide (i = 0) := by rw [Bool.eq_iff_iff, beq_iff_eq, decide_eq_true_iff]; omega
  have hp : decide ((i : Int) > 0) = decide (0 < i) := decide_eq_decide.2 (by omega)
  rw [hS, hD, h0, hp, w64_in (n := (i : Int) + 1) (by omega) (by omega)]
  have hip : decide (0 < i) = !decide (i = 0) := by
    by_cases h : i = 0
    · rw [decide_eq_true h, decide_eq_false (by omega)]; rfl
    · rw [decide_eq_false h, decide_eq_true (by omega)]; rfl
  rw [hip]
  cases decide ((c.toNat : Int) ≥ 48) <;> cases decide ((c.toNat : Int) ≥ 97) <;> cases decide ((c.toNat : Int) ≤ 122) <;> cases ((c.toNat : Int) != 95) <;> cases decide (i = 0) <;> cases decide ((c.toNat : Int) ≤ 57) <;> rfl
theorem rword_loop (w : List UInt8) (hw : w.length ≤ 100) : ∀ (g i : Nat) (f : Bool), g + i = w.length → 1 ≤ i → r3_Word_L1 ⟨ba w, f, i⟩ = some (bif (w.drop i).all isI then .inr (f && (w.drop i).all isD) else .inl false)
  | 0, i, f, hg, h1 => by
    rw [r3_Word_L1.eq]
    have c1 : decide ((i : Int) < (((ba w).size : Nat) : Int)) = false := decide_eq_false (by rw [ba_size]; omega)
    unfold r3_Word_L1_b
    simp only
    rw [c1, List.drop_eq_nil_of_le (by omega)]
    simp
  | g + 1, i, f, hg, h1 => by
    have hi : i < w.length := by omega
    rw [r3_Word_L1.eq, rword_round w f i hi hw, List.drop_eq_getElem_cons hi, Option.bind_some]
    have hi0 : decide (i = 0) = false := decide_eq_false (by omega)
    have hip : decide (0 < i) = true := decide_eq_true (by omega)
    rw [hi0, hip]
    simp only [List.all_cons]
    have hsd := @S_not_D w[i]
    cases hD : isD w[i] with
    | true =>
      have hI : isI w[i] = true := by rw [I_split, hD, Bool.or_true]
      rw [hD, hI] at hsd
      rw [hsd, hI]
      simp only [Bool.not_true, Bool.and_false, Bool.or_false, Bool.not_false, Bool.true_and, cond_false, Sum.elim_inl, Bool.and_true, Bool.or_true]
      exact rword_loop w hw g (i + 1) f (by omega) (by omega)
    | false =>
      rw [hD] at hsd
      simp only [Bool.not_false, Bool.and_true] at hsd
      rw [hsd]
      cases hI : isI w[i] with
      | true =>
        simp only [Bool.not_true, Bool.false_and, cond_false, Bool.not_false, Bool.and_true, cond_true, Sum.elim_inl, Bool.true_and]
        rw [rword_loop w hw g (i + 1) false (by omega) (by omega)]
        simp
      | false => simp
theorem all_tw_iff {p : UInt8 → Bool} {l : List UInt8} : decide (l.takeWhile p = l) = l.all p := by
  rw [Bool.eq_iff_iff, decide_eq_true_iff]
  constructor
  · intro e; rw [← e]; exact List.all_takeWhile
  · intro h
    have := (tw_append (r := []) h (fun c t e => by cases e)).1
    rwa [List.append_nil] at this
theorem r3_Word_eq (w : List UInt8) (hw : w.length ≤ 1000000000) : r3_Word (ba w) = some (wordB w) := by
  rw [r3_Word.eq]; unfold r3_Word_b
  rw [ba_size]
  cases w with
  | nil => rfl
  | cons c t =>
    have c1 : decide ((((c :: t).length : Nat) : Int) < 1) = false := decide_eq_false (by simp only [List.length_cons]; omega)
    have hwb : wordB (c :: t) = (decide (t.length < 12) && (!isD c && (decide ((c :: t).takeWhile isI = c :: t) && (decide (c ≠ 114) || (decide (t = []) || !decide (t.takeWhile isD = t)))))) := rfl
    rw [c1, cond_false, hwb, all_tw_iff, all_tw_iff]
    by_cases hl : t.length < 12
    · have c2 : decide ((((c :: t).length : Nat) : Int) > 12) = false := decide_eq_false (by simp only [List.length_cons]; omega)
      have c3 : decide (0 ≤ (0 : Int) ∧ (0 : Int) < (((c :: t).length : Nat) : Int)) = true := decide_eq_true (by simp only [List.length_cons]; omega)
      have hg : (ba (c :: t)).data.getD (Int.toNat 0) 0 = c := by rw [ba_getD]; rfl
      rw [c2, cond_false, c3, cond_true, hg, decide_eq_true hl]
      have h100 : (c :: t).length ≤ 100 := by simp only [List.length_cons]; omega
      have first : ∀ f : Bool, r3_Word_L1 ⟨ba (c :: t), f, 0⟩ = some (bif isI c && !isD c then (bif t.all isI then .inr (f && t.all isD) else .inl false) else .inl false) := by
        intro f
        have hr := rword_round (c :: t) f 0 (by simp) h100
        have hr : r3_Word_L1_b ⟨ba (c :: t), f, 0⟩ = _ := hr
        rw [r3_Word_L1.eq, hr, Option.bind_some]
        simp only [List.getElem_cons_zero, decide_true, Bool.true_or, Bool.and_true, Nat.lt_irrefl, decide_false, Bool.false_and, cond_false]
        rw [S_not_D]
        cases isI c && !isD c with
        | false => rfl
        | true =>
          simp only [Bool.not_true, cond_false, Sum.elim_inl, cond_true]
          exact rword_loop (c :: t) h100 t.length 1 f (by simp) (by omega)
      have c4 : ((c.toNat : Int) == 114) = !decide (c ≠ 114) := by
        by_cases h : c = 114
        · subst h; rfl
        · have : ((c.toNat : Int) == 114) = false := by
            rw [beq_eq_false_iff_ne]; intro e; exact h (UInt8.toNat_inj.1 (by have : (114 : UInt8).toNat = 114 := rfl; omega))
          rw [this, decide_eq_true h]; rfl
      have c5 : decide ((((c :: t).length : Nat) : Int) > 1) = !decide (t = []) := by
        cases t with
        | nil => rfl
        | cons b t =>
          have e1 : decide ((((c :: b :: t).length : Nat) : Int) > 1) = true := decide_eq_true (by simp only [List.length_cons]; omega)
          rw [e1, decide_eq_false (List.cons_ne_nil b t)]; rfl
      rw [first, first, c4, c5, List.all_cons]
      cases isI c <;> cases isD c <;> cases t.all isI <;> cases t.all isD <;> cases decide (c ≠ 114) <;> cases decide (t = []) <;> rfl
    · have c2 : decide ((((c :: t).length : Nat) : Int) > 12) = true := decide_eq_true (by simp only [List.length_cons]; omega)
      rw [c2, decide_eq_false hl]; rfl
theorem rw_loop {l : List UInt8} (hl : l.length ≤ 1000000000) (at_ d : Int) (b : Bool) : ∀ s : List UInt8, s <:+ l → r3_reader_word_L1 ⟨at_, RS l s d b, E0⟩ = some ⟨at_, RS l (s.dropWhile isI) d b, E0⟩ := by
  intro s
  induction s with
  | nil =>
    intro hs
    rw [r3_reader_word_L1.eq]; unfold r3_reader_word_L1_b
    have c1 : decide (((l.length - ([] : List UInt8).length : Nat) : Int) < (((ba l).size : Nat) : Int)) = false := decide_eq_false (by rw [ba_size]; simp)
    simp only
    rw [c1]; rfl
  | cons c t ih =>
    intro hs
    obtain ⟨h1, h2, h3, h4⟩ := suf_get hs rfl
    have c1 : decide (((l.length - (c :: t).length : Nat) : Int) < (((ba l).size : Nat) : Int)) = true := decide_eq_true (by rw [ba_size]; omega)
    have c2 : decide (0 ≤ ((l.length - (c :: t).length : Nat) : Int) ∧ ((l.length - (c :: t).length : Nat) : Int) < (((ba l).size : Nat) : Int)) = true := decide_eq_true (by rw [ba_size]; omega)
    have e3 : (⟨ba l, w64 (((l.length - (c :: t).length : Nat) : Int) + 1), d, b⟩ : T_r3_reader) = RS l t d b := by
      rw [w64_in (by omega) (by omega), show ((l.length - (c :: t).length : Nat) : Int) + 1 = ((l.length - t.length : Nat) : Int) from by rw [h3]; rfl]
    rw [r3_reader_word_L1.eq]; unfold r3_reader_word_L1_b
    simp only
    rw [c1, cond_true, c2, cond_true, h1, e3]
    have e97 : decide ((c.toNat : Int) ≥ 97) = decide (97 ≤ c.toNat) := decide_eq_decide.2 (by omega)
    have e122 : decide ((c.toNat : Int) ≤ 122) = decide (c.toNat ≤ 122) := decide_eq_decide.2 (by omega)
    have e48 : decide ((c.toNat : Int) ≥ 48) = decide (48 ≤ c.toNat) := decide_eq_decide.2 (by omega)
    have e57 : decide ((c.toNat : Int) ≤ 57) = decide (c.toNat ≤ 57) := decide_eq_decide.2 (by omega)
    have e95 : ((c.toNat : Int) == 95) = decide (c.toNat = 95) := by rw [Bool.eq_iff_iff, beq_iff_eq, decide_eq_true_iff]; omega
    have hI : isI c = (decide (97 ≤ c.toNat) && decide (c.toNat ≤ 122) || decide (c.toNat = 95) || decide (48 ≤ c.toNat) && decide (c.toNat ≤ 57)) := by
      unfold isI isS isD; rw [Bool.decide_or, Bool.decide_and, Bool.decide_and]
    rw [e97, e122, e48, e57, e95]
    rw [List.dropWhile_cons, hI]
    have ih := ih h4
    cases decide (97 ≤ c.toNat) <;> cases decide (c.toNat ≤ 122) <;> cases decide (48 ≤ c.toNat) <;> cases decide (c.toNat ≤ 57) <;> cases decide (c.toNat = 95) <;> first | exact ih | rfl
theorem rword_eq {l : List UInt8} (hl : l.length ≤ 1000000000) (s : List UInt8) (hs : s <:+ l) (d : Int) (b : Bool) :
    r3_reader_word (RS l s d b) = some (⟨2, 0, ba (s.takeWhile isI), []⟩, RS l (s.dropWhile isI) d (bif wordB (s.takeWhile isI) then b else true)) := by
  rw [r3_reader_word.eq]; unfold r3_reader_word_b
  simp only
  have e : r3_reader_word_L1 ⟨((l.length - s.length : Nat) : Int), RS l s d b, E0⟩ = some ⟨((l.length - s.length : Nat) : Int), RS l (s.dropWhile isI) d b, E0⟩ := rw_loop hl _ d b s hs
  rw [e, Option.bind_some]
  simp only
  obtain ⟨q, hq⟩ := hs
  have hlen : l.length = q.length + s.length := by rw [← hq, List.length_append]
  obtain ⟨_, t2⟩ := @tw_nil_dw isI s
  have htl : (s.takeWhile isI).length ≤ s.length := (List.takeWhile_sublist _).length_le
  have c1 : decide (0 ≤ ((l.length - s.length : Nat) : Int) ∧ ((l.length - s.length : Nat) : Int) ≤ ((l.length - (s.dropWhile isI).length : Nat) : Int) ∧ ((l.length - (s.dropWhile isI).length : Nat) : Int) ≤ (((ba l).size : Nat) : Int)) = true := decide_eq_true (by rw [ba_size]; omega)
  have e1 : (ba l).extract (Int.toNat ((l.length - s.length : Nat) : Int)) (Int.toNat ((l.length - (s.dropWhile isI).length : Nat) : Int)) = ba (s.takeWhile isI) := by
    rw [ba_extract, Int.toNat_natCast, Int.toNat_natCast, show l.length - s.length = q.length from by omega, show l.length - (s.dropWhile isI).length = q.length + (s.takeWhile isI).length from by omega, ← hq, List.take_append, List.take_of_length_le (by omega), List.drop_left, show q.length + (s.takeWhile isI).length - q.length = (s.takeWhile isI).length from by omega]
    conv => lhs; arg 1; arg 2; rw [← List.takeWhile_append_dropWhile (p := isI) (l := s)]
    rw [List.take_left']
    rfl
  rw [c1, cond_true, e1, r3_Word_eq _ (by omega), Option.bind_some]
  cases wordB (s.takeWhile isI) <;> rfl
end Go.Ab
namespace Go.Ab
section
variable {l : List UInt8} (hl : l.length ≤ 1000000000)
include hl
omit hl in
theorem next_skip {k lev : Nat} (hk : 5 ≤ k ∧ k ≤ 11) (h : lvlOf k ≠ lev) (r : T_r3_reader) : r3_reader_next_L1 ⟨lev, k, r⟩ = r3_reader_next_L1 ⟨lev, (k + 1 : Nat), r⟩ := by
  rw [r3_reader_next_L1.eq ⟨lev, k, r⟩]; unfold r3_reader_next_L1_b
  have c1 : decide ((k : Int) ≤ 11) = true := decide_eq_true (by omega)
  have c2 : ((lvlOf k : Int) == (lev : Int)) = false := by rw [beq_eq_false_iff_ne]; omega
  simp only
  rw [c1, cond_true, r3_sign_eq hk, Option.bind_some]
  simp only
  rw [c2, cond_false, w64_in (n := (k : Int) + 1) (by omega) (by omega)]
  rfl
theorem next_hit {k lev : Nat} (hk : 5 ≤ k ∧ k ≤ 11) (h : lvlOf k = lev) (s : List UInt8) (hs : s <:+ l) (d : Int) : r3_reader_next_L1 ⟨lev, k, RS l s d false⟩ =
    bif pre (sg k) (dropB s) then some (.inl ⟨k, RS l ((dropB s).drop (sg k).length) d false⟩) else r3_reader_next_L1 ⟨lev, (k + 1 : Nat), RS l (dropB s) d false⟩ := by
  rw [r3_reader_next_L1.eq ⟨lev, k, RS l s d false⟩]; unfold r3_reader_next_L1_b
  have c1 : decide ((k : Int) ≤ 11) = true := decide_eq_true (by omega)
  have c2 : ((lvlOf k : Int) == (lev : Int)) = true := by rw [beq_iff_eq]; omega
  have hsg : (sg k).length ≤ 100 := by unfold sg; split <;> simp
  simp only
  rw [c1, cond_true, r3_sign_eq hk, Option.bind_some]
  simp only
  rw [c2, cond_true, is_eq hl (sg k) hsg s hs d false]
  simp only [Bool.not_false, cond_true, Option.bind_some]
  cases pre (sg k) (dropB s) with
  | true => rfl
  | false =>
    simp only [cond_false]
    rw [w64_in (n := (k : Int) + 1) (by omega) (by omega)]
    rfl
omit hl in
theorem next_end (lev : Int) (r : T_r3_reader) : r3_reader_next_L1 ⟨lev, ((12 : Nat) : Int), r⟩ = some (.inr r) := by rw [r3_reader_next_L1.eq]; rfl
theorem next_eq {lev : Nat} (h5 : lev < 5) (s : List UInt8) (hs : s <:+ l) (d : Int) : r3_reader_next lev (RS l s d false) =
    some (match kindS (lv lev) (dropB s) with | some k => ((k : Int), RS l ((dropB s).drop (sg k).length) d false) | none => (0, RS l (dropB s) d false)) := by
  have hs2 : dropB s <:+ l := (dropB_suf s).trans hs
  rw [r3_reader_next.eq]; unfold r3_reader_next_b
  have h2 : lev = 0 ∨ lev = 1 ∨ lev = 2 ∨ lev = 3 ∨ lev = 4 := by omega
  have e5 : r3_reader_next_L1 ⟨lev, 5, RS l s d false⟩ = r3_reader_next_L1 ⟨lev, ((5 : Nat) : Int), RS l s d false⟩ := rfl
  rw [e5]
  rcases h2 with rfl | rfl | rfl | rfl | rfl
  · rw [next_skip (by omega) (by decide), next_skip (by omega) (by decide), next_skip (by omega) (by decide), next_skip (by omega) (by decide), next_hit hl (by omega) (by decide) s hs d, next_skip (by omega) (by decide), next_skip (by omega) (by decide), next_end]
    simp only [kindS, lv, List.find?_cons]
    cases pre (sg 9) (dropB s) <;> rfl
  · rw [next_skip (by omega) (by decide), next_skip (by omega) (by decide), next_skip (by omega) (by decide), next_hit hl (by omega) (by decide) s hs d, next_skip (by omega) (by decide), next_skip (by omega) (by decide), next_skip (by omega) (by decide), next_end]
    simp only [kindS, lv, List.find?_cons]
    cases pre (sg 8) (dropB s) <;> rfl
  · rw [next_skip (by omega) (by decide), next_skip (by omega) (by decide), next_skip (by omega) (by decide), next_skip (by omega) (by decide), next_skip (by omega) (by decide), next_hit hl (by omega) (by decide) s hs d, next_hit hl (by omega) (by decide) (dropB s) hs2 d, dropB_idem, next_end]
    simp only [kindS, lv, List.find?_cons]
    cases pre (sg 10) (dropB s) <;> cases pre (sg 11) (dropB s) <;> rfl
  · rw [next_hit hl (by omega) (by decide) s hs d, next_hit hl (by omega) (by decide) (dropB s) hs2 d, dropB_idem, next_skip (by omega) (by decide), next_skip (by omega) (by decide), next_skip (by omega) (by decide), next_skip (by omega) (by decide), next_skip (by omega) (by decide), next_end]
    simp only [kindS, lv, List.find?_cons]
    cases pre (sg 5) (dropB s) <;> cases pre (sg 6) (dropB s) <;> rfl
  · rw [next_skip (by omega) (by decide), next_skip (by omega) (by decide), next_hit hl (by omega) (by decide) s hs d, next_skip (by omega) (by decide), next_skip (by omega) (by decide), next_skip (by omega) (by decide), next_skip (by omega) (by decide), next_end]
    simp only [kindS, lv, List.find?_cons]
    cases pre (sg 7) (dropB s) <;> rfl
omit hl in
theorem next_bad (lev : Nat) (S : ByteArray) (p d : Int) : r3_reader_next lev ⟨S, p, d, true⟩ = some (0, ⟨S, p, d, true⟩) := by
  have loop : ∀ (g k : Nat), g + k = 12 → 5 ≤ k → r3_reader_next_L1 ⟨lev, k, ⟨S, p, d, true⟩⟩ = some (.inr ⟨S, p, d, true⟩) := by
    intro g
    induction g with
    | zero => intro k hk _; obtain rfl : k = 12 := by omega
              exact next_end _ _
    | succ g ih =>
      intro k hk h5
      rw [r3_reader_next_L1.eq]; unfold r3_reader_next_L1_b
      have c1 : decide ((k : Int) ≤ 11) = true := decide_eq_true (by omega)
      simp only
      rw [c1, cond_true, r3_sign_eq ⟨h5, by omega⟩, Option.bind_some, w64_in (n := (k : Int) + 1) (by omega) (by omega)]
      have := ih (k + 1) (by omega) (by omega)
      cases ((lvlOf k : Int) == (lev : Int)) <;> exact this
  rw [r3_reader_next.eq]; unfold r3_reader_next_b
  have e : r3_reader_next_L1 ⟨lev, 5, ⟨S, p, d, true⟩⟩ = some (.inr ⟨S, p, d, true⟩) := loop 7 5 rfl (by omega)
  rw [e]; rfl
end
/-- what the document reads behind x at a level -/
noncomputable def RL (lev : Nat) (r : T_r3_reader) (x : T_api_Expr) : Option (T_api_Expr × T_r3_reader) := (r3_reader_two_L1 ⟨(lev : Int), r, E0, x⟩).bind fun o => some (o.h1, o.h0)
theorem rtwo5 (r : T_r3_reader) : r3_reader_two ((5 : Nat) : Int) r = r3_reader_one r := by
  rw [r3_reader_two.eq]; unfold r3_reader_two_b
  have c1 : decide (((5 : Nat) : Int) > 4) = true := rfl
  rw [c1, cond_true]
  cases r3_reader_one r <;> rfl
theorem rtwo_lt {lev : Nat} (h : lev < 5) (r : T_r3_reader) : r3_reader_two (lev : Int) r = (r3_reader_two ((lev + 1 : Nat) : Int) r).bind fun q => RL lev q.2 q.1 := by
  rw [r3_reader_two.eq]; unfold r3_reader_two_b
  have c1 : decide ((lev : Int) > 4) = false := decide_eq_false (by omega)
  rw [c1, cond_false, w64_in (n := (lev : Int) + 1) (by omega) (by omega)]
  rfl
theorem RL_bad (lev : Nat) (S : ByteArray) (p d : Int) (x : T_api_Expr) : RL lev ⟨S, p, d, true⟩ x = some (x, ⟨S, p, d, true⟩) := by
  unfold RL
  rw [r3_reader_two_L1.eq]; unfold r3_reader_two_L1_b
  simp only
  rw [next_bad]; rfl
theorem RL_eq {l : List UInt8} (hl : l.length ≤ 1000000000) {lev : Nat} (h5 : lev < 5) (s : List UInt8) (hs : s <:+ l) (d : Int) (x : T_api_Expr) : RL lev (RS l s d false) x = match kindS (lv lev) (dropB s) with
    | none => some (x, RS l (dropB s) d false)
    | some k => (r3_reader_two ((lev + 1 : Nat) : Int) (RS l ((dropB s).drop (sg k).length) d false)).bind fun q => RL lev q.2 ⟨k, 0, s_, [x, q.1]⟩ := by
  conv => lhs; unfold RL
  rw [r3_reader_two_L1.eq]; unfold r3_reader_two_L1_b
  simp only
  rw [next_eq hl h5 s hs d, Option.bind_some]
  cases hk : kindS (lv lev) (dropB s) with
  | none => rfl
  | some k =>
    have hk5 := lv_ok (List.mem_of_find?_eq_some hk)
    have c1 : ((k : Int) == 0) = false := by rw [beq_eq_false_iff_ne]; omega
    simp only
    rw [c1, cond_false, w64_in (n := (lev : Int) + 1) (by omega) (by omega)]
    show Option.bind (Option.bind (Option.bind (r3_reader_two ((lev + 1 : Nat) : Int) (RS l ((dropB s).drop (sg k).length) d false)) _) _) _ = _
    cases r3_reader_two ((lev + 1 : Nat) : Int) (RS l ((dropB s).drop (sg k).length) d false) <;> rfl
/-- a part of a word stands ahead: nothing goes on from here -/
def stuck (r : List UInt8) : Prop := ∃ c t, r = c :: t ∧ isI c = true
/-- what the document answers -/
def RR (l : List UInt8) (f : Option (T_api_Expr × T_r3_reader)) (d : Int) (o : Option (X3 × List UInt8)) : Prop := match o with
  | some (x, r) => f = some (x.t, RS l r d false)
  | none => ∃ e r b, f = some (e, RS l r d b) ∧ r <:+ l ∧ (b = true ∨ stuck r)
theorem stuck_drop {r : List UInt8} (h : stuck r) : dropB r = r := by
  obtain ⟨c, t, rfl, hc⟩ := h
  exact dropB_head fun e => by rw [e] at hc; cases hc
theorem stuck_kind {r : List UInt8} (h : stuck r) {lev : Nat} (h5 : lev < 5) : kindS (lv lev) r = none := by
  obtain ⟨c, t, rfl, hc⟩ := h
  unfold kindS
  rw [List.find?_eq_none]
  intro k hk
  obtain ⟨c', t', e, hc', _⟩ := sg_head (lv_ok hk)
  rw [e]
  have : c' ≠ c := fun e => by rw [e, hc] at hc'; cases hc'
  simp only [pre, Bool.not_eq_true]
  exact decide_eq_false fun e => this (by simpa using congrArg List.head? e.symm)
theorem RL_none {l : List UInt8} (hl : l.length ≤ 1000000000) {lev : Nat} (h5 : lev < 5) {r : List UInt8} (hr : r <:+ l) {d : Int} {b : Bool} (h : b = true ∨ stuck r) (x : T_api_Expr) : RL lev (RS l r d b) x = some (x, RS l r d b) := by
  cases b with
  | true => exact RL_bad lev _ _ d x
  | false =>
    have h : stuck r := by rcases h with h | h; cases h; exact h
    rw [RL_eq hl h5 r hr d x, stuck_drop h, stuck_kind h h5]
/-- numbers, words: the document's -/
theorem dw_suf {p : UInt8 → Bool} (s : List UInt8) : s.dropWhile p <:+ s := List.dropWhile_suffix p
theorem tail_RR {l : List UInt8} (hl : l.length ≤ 1000000000) {base : Nat} (hb : base = 10 ∨ base = 16) (s : List UInt8) (hs : s <:+ l) (hne : s.takeWhile (isB base) ≠ []) (d : Int) :
    RR l (r3_reader_number base (RS l s d false)) d (tailA base (s.takeWhile (isB base)) (s.dropWhile (isB base))) := by
  have h := rnumber_eq hl hb s hs d false
  unfold tailA
  cases hv : numv base (s.takeWhile (isB base)) 0 with
  | none =>
    rw [hv] at h
    obtain ⟨r, hr, e⟩ := h
    exact ⟨_, r, true, e, hr, .inl rfl⟩
  | some n =>
    rw [hv] at h
    simp only at h ⊢
    rw [decide_eq_false hne, cond_false] at h
    by_cases hi : (s.dropWhile (isB base)).takeWhile isI = []
    · rw [if_pos hi]; exact h
    · rw [if_neg hi]
      refine ⟨_, _, false, h, (dw_suf s).trans hs, .inr ?_⟩
      cases hd : s.dropWhile (isB base) with
      | nil => rw [hd] at hi; exact absurd rfl hi
      | cons c t =>
        rw [hd] at hi
        refine ⟨c, t, rfl, ?_⟩
        cases hc : isI c with
        | true => rfl
        | false => exfalso; apply hi; simp [List.takeWhile_cons, hc]
theorem isB10 : isB 10 = isD := by funext c; rfl
theorem isB16 : isB 16 = isH := by funext c; rfl
theorem ratom {l : List UInt8} (hl : l.length ≤ 1000000000) {s t : List UInt8} (hs : s <:+ l) (h : dropB s = t) (h1 : ∀ r, t ≠ 40 :: r) (h2 : ∀ r, t ≠ 45 :: r) (h3 : ∀ r, t ≠ 46 :: r) (d : Int) : RR l (r3_reader_one (RS l s d false)) d (atomS t) := by
  have ht : dropB t = t := by rw [← h, dropB_idem]
  have hts : t <:+ l := by rw [← h]; exact (dropB_suf s).trans hs
  have fin : ∀ f : Option (T_api_Expr × T_r3_reader), (f.bind fun r => some (r.1, r.2)) = f := fun f => by cases f <;> rfl
  rw [r3_reader_one.eq]; unfold r3_reader_one_b
  simp only [cond_false]
  rw [show h_28 = ba [40] from rfl, is_eq hl [40] (by simp) s hs d false, h, pre1_ne h1]
  simp only [cond_false, Option.bind_some]
  rw [show h_2d = ba [45] from rfl, is_eq hl [45] (by simp) t hts d false, ht, pre1_ne h2]
  simp only [cond_false, Option.bind_some]
  rw [show h_2e = ba [46] from rfl, is_eq hl [46] (by simp) t hts d false, ht, pre1_ne h3]
  simp only [cond_false, Option.bind_some]
  rw [show s_0x = ba [48, 120] from rfl, is_eq hl [48, 120] (by simp) t hts d false, ht]
  cases hp : pre [48, 120] t with
  | true =>
    obtain ⟨p1, p2⟩ := pre_len hp
    have h2s : t.drop 2 <:+ l := (List.drop_suffix 2 t).trans hts
    simp only [cond_true, Option.bind_some]
    rw [fin]
    show RR l (r3_reader_number ((16 : Nat) : Int) (RS l (t.drop 2) d false)) d (atomS t)
    unfold atomS
    rw [hp]
    by_cases he : (t.drop 2).takeWhile isH = []
    · -- no digit: the document tells so; the program reads 0, and a word begins behind it
      have hn := rnumber_eq hl (.inr rfl) (t.drop 2) h2s d false
      rw [isB16, he] at hn
      simp only [numv, decide_true, cond_true] at hn
      rw [decide_eq_true he]
      simp only [Bool.not_true, Bool.and_false, cond_false]
      have e0 : t = 48 :: 120 :: t.drop 2 := p2
      have d48 : isD 48 = true := by decide
      have d120 : isD 120 = false := by decide
      have q1 : t.takeWhile isD = [48] := by rw [e0]; simp [List.takeWhile_cons, d48, d120]
      have q2 : t.dropWhile isD = 120 :: t.drop 2 := by
        conv => lhs; rw [e0]
        rfl
      rw [q1, q2]
      have : tailA 10 [48] (120 :: t.drop 2) = none := by
        unfold tailA
        rw [show numv 10 [48] 0 = some 0 from rfl]
        simp only
        have i120 : isI 120 = true := by decide
        rw [if_neg]
        simp [List.takeWhile_cons, i120]
      simp only [show decide (([48] : List UInt8) = []) = false from rfl, Bool.not_false, cond_true, this]
      exact ⟨_, _, true, hn, (dw_suf _).trans h2s, .inl rfl⟩
    · rw [decide_eq_false he]
      simp only [Bool.not_false, Bool.true_and, cond_true]
      have := tail_RR hl (base := 16) (.inr rfl) (t.drop 2) h2s (by rw [isB16]; exact he) d
      rw [isB16] at this; exact this
  | false =>
    simp only [cond_false, Option.bind_some]
    unfold atomS
    rw [hp]
    simp only [Bool.false_and, cond_false]
    have wd : RR l (r3_reader_word (RS l t d false)) d (bif wordB (t.takeWhile isI) then some (.nm (ba (t.takeWhile isI)), t.dropWhile isI) else none) := by
      rw [rword_eq hl t hts d false]
      cases hw : wordB (t.takeWhile isI) with
      | true => rfl
      | false => exact ⟨_, _, true, rfl, (dw_suf _).trans hts, .inl rfl⟩
    match t, hts, wd with
    | [], hts, wd =>
      have c1 : decide (((l.length - ([] : List UInt8).length : Nat) : Int) < (((ba l).size : Nat) : Int)) = false := decide_eq_false (by rw [ba_size]; simp)
      rw [c1, cond_false, fin]
      exact wd
    | c :: u, hts, wd =>
      obtain ⟨g1, g2, g3, g4⟩ := suf_get hts rfl
      have c1 : decide (((l.length - (c :: u).length : Nat) : Int) < (((ba l).size : Nat) : Int)) = true := decide_eq_true (by rw [ba_size]; omega)
      have c2 : decide (0 ≤ ((l.length - (c :: u).length : Nat) : Int) ∧ ((l.length - (c :: u).length : Nat) : Int) < (((ba l).size : Nat) : Int)) = true := decide_eq_true (by rw [ba_size]; omega)
      rw [c1, cond_true, c2, cond_true, g1, (r3_digit_eq c).1, Option.bind_some, fin, fin]
      cases hD : isD c with
      | true =>
        have c3 : decide ((if true = true then ((dg c : Nat) : Int) else -1) ≥ 0) = true := decide_eq_true (by rw [if_pos rfl]; omega)
        have hne : (c :: u).takeWhile isD ≠ [] := by simp [List.takeWhile_cons, hD]
        rw [c3, cond_true, decide_eq_false hne]
        simp only [Bool.not_false, cond_true]
        have := tail_RR hl (base := 10) (.inl rfl) (c :: u) hts (by rw [isB10]; exact hne) d
        rw [isB10] at this; exact this
      | false =>
        have c3 : decide ((if false = true then ((dg c : Nat) : Int) else -1) ≥ 0) = false := rfl
        have he : (c :: u).takeWhile isD = [] := by simp [List.takeWhile_cons, hD]
        rw [c3, cond_false, decide_eq_true he]
        exact wd
end Go.Ab
namespace Go.Ab
/-- both readers answer o -/
def BothO (s : List UInt8) (d : Int) : Prop := ∃ o : Option (X3 × List UInt8), (∀ x r, o = some (x, r) → r <:+ s) ∧ PR (expr_parser_one (PS s d false)) d o ∧
  ∀ l : List UInt8, l.length ≤ 1000000000 → s <:+ l → RR l (r3_reader_one (RS l s d false)) d o
def BothT (lev : Nat) (s : List UInt8) (d : Int) : Prop := ∃ o : Option (X3 × List UInt8), (∀ x r, o = some (x, r) → r <:+ s) ∧ PR (expr_parser_two (lev : Int) (PS s d false)) d o ∧
  ∀ l : List UInt8, l.length ≤ 1000000000 → s <:+ l → RR l (r3_reader_two (lev : Int) (RS l s d false)) d o
/-- behind x at a level -/
def BothL (lev : Nat) (x : X3) (s : List UInt8) (d : Int) : Prop := ∃ o : Option (X3 × List UInt8), (∀ y r, o = some (y, r) → r <:+ s) ∧ PR (PL lev (PS s d false) x.t) d o ∧
  ∀ l : List UInt8, l.length ≤ 1000000000 → s <:+ l → RR l (RL lev (RS l s d false) x.t) d o
theorem sg_pos {k : Nat} (hk : 5 ≤ k ∧ k ≤ 11) : 1 ≤ (sg k).length := by
  obtain ⟨c, t, e, _⟩ := sg_head hk
  rw [e]; simp
/-- the loop of a level, where what is shorter is read alike -/
theorem bothL {lev : Nat} (h5 : lev < 5) {d : Int} : ∀ (n : Nat) (s : List UInt8), s.length ≤ n → (∀ s' : List UInt8, s'.length < s.length → BothT (lev + 1) s' d) → ∀ x : X3, BothL lev x s d := by
  intro n
  induction n with
  | zero =>
    intro s hs _ x
    have : s = [] := List.eq_nil_of_length_eq_zero (by omega)
    subst this
    have hk : kindS (lv lev) (dropB []) = none := (kindS_close h5 []).2
    refine ⟨some (x, []), fun y r e => by cases e; exact List.suffix_refl _, ?_, fun l hl hs => ?_⟩
    · have := PL_none h5 hk d x.t; exact this
    · have := RL_eq hl h5 [] hs d x.t
      rw [hk] at this; exact this
  | succ n ih =>
    intro s hs hT x
    have hds := dropB_suf s
    have hdl := dropB_le s
    cases hk : kindS (lv lev) (dropB s) with
    | none =>
      refine ⟨some (x, dropB s), fun y r e => by cases e; exact hds, PL_none h5 hk d x.t, fun l hl hs => ?_⟩
      have := RL_eq hl h5 s hs d x.t
      rw [hk] at this; exact this
    | some k =>
      have hk5 := lv_ok (List.mem_of_find?_eq_some hk)
      have hpre : pre (sg k) (dropB s) = true := by simpa using List.find?_some hk
      have hpl := (pre_len hpre).1
      have hsp := sg_pos hk5
      have hlt : ((dropB s).drop (sg k).length).length < s.length := by rw [List.length_drop]; omega
      obtain ⟨o1, a1, a2, a3⟩ := hT _ hlt
      have hsuf : (dropB s).drop (sg k).length <:+ s := (List.drop_suffix _ _).trans hds
      have hP := PL_eq h5 s d x.t
      rw [hk] at hP
      simp only at hP
      cases o1 with
      | none =>
        obtain ⟨e, r, he⟩ := a2
        refine ⟨none, fun y r e => (nomatch e), ?_, fun l hl hs => ?_⟩
        · rw [hP, he]
          simp only [Option.bind_some, PL_bad]
          exact ⟨_, _, rfl⟩
        · obtain ⟨e', r', b, h1, h2, h3⟩ := a3 l hl (hsuf.trans hs)
          have hR := RL_eq hl h5 s hs d x.t
          rw [hk] at hR
          simp only at hR
          rw [hR, h1]
          simp only [Option.bind_some]
          rw [RL_none hl h5 h2 h3]
          exact ⟨_, r', b, rfl, h2, h3⟩
      | some yr =>
        obtain ⟨y, r⟩ := yr
        have hr := a1 y r rfl
        have hrl := hr.length_le
        obtain ⟨o2, b1, b2, b3⟩ := ih r (by omega) (fun s' h => hT s' (by omega)) (.bin k x y)
        refine ⟨o2, fun z r2 e => (b1 z r2 e).trans (hr.trans hsuf), ?_, fun l hl hs => ?_⟩
        · have a2 : expr_parser_two ((lev + 1 : Nat) : Int) (PS ((dropB s).drop (sg k).length) d false) = some (y.t, PS r d false) := a2
          rw [hP, a2]
          exact b2
        · have a3 : r3_reader_two ((lev + 1 : Nat) : Int) (RS l ((dropB s).drop (sg k).length) d false) = some (y.t, RS l r d false) := a3 l hl (hsuf.trans hs)
          have hR := RL_eq hl h5 s hs d x.t
          rw [hk] at hR
          simp only at hR
          rw [hR, a3]
          exact b3 l hl (hr.trans (hsuf.trans hs))
/-- all levels, from what stands by itself -/
theorem bothT {s : List UInt8} {d : Int} (hO : BothO s d) (hS : ∀ (lev : Nat), lev ≤ 5 → ∀ s' : List UInt8, s'.length < s.length → BothT lev s' d) : ∀ (g lev : Nat), g + lev = 5 → BothT lev s d
  | 0, lev, hg => by
    obtain rfl : lev = 5 := by omega
    obtain ⟨o, h1, h2, h3⟩ := hO
    refine ⟨o, h1, ?_, fun l hl hs => ?_⟩
    · rw [show ((5 : Nat) : Int) = 5 from rfl, two5]; exact h2
    · rw [rtwo5]; exact h3 l hl hs
  | g + 1, lev, hg => by
    have h5 : lev < 5 := by omega
    obtain ⟨o1, a1, a2, a3⟩ := bothT hO hS g (lev + 1) (by omega)
    cases o1 with
    | none =>
      obtain ⟨e, r, he⟩ := a2
      refine ⟨none, fun y r e => (nomatch e), ?_, fun l hl hs => ?_⟩
      · rw [two_lt h5, he]
        simp only [Option.bind_some, PL_bad]
        exact ⟨_, _, rfl⟩
      · obtain ⟨e', r', b, h1, h2, h3⟩ := a3 l hl hs
        rw [rtwo_lt h5, h1]
        simp only [Option.bind_some]
        rw [RL_none hl h5 h2 h3]
        exact ⟨_, r', b, rfl, h2, h3⟩
    | some xr =>
      obtain ⟨x, r⟩ := xr
      have hr := a1 x r rfl
      have hrl := hr.length_le
      obtain ⟨o2, b1, b2, b3⟩ := bothL h5 (d := d) r.length r (Nat.le_refl _) (fun s' h => hS (lev + 1) (by omega) s' (by omega)) x
      refine ⟨o2, fun y r2 e => (b1 y r2 e).trans hr, ?_, fun l hl hs => ?_⟩
      · have a2 : expr_parser_two ((lev + 1 : Nat) : Int) (PS s d false) = some (x.t, PS r d false) := a2
        rw [two_lt h5, a2]
        exact b2
      · have a3 : r3_reader_two ((lev + 1 : Nat) : Int) (RS l s d false) = some (x.t, RS l r d false) := a3 l hl hs
        rw [rtwo_lt h5, a3]
        exact b3 l hl (hr.trans hs)
theorem rinner_max {d : Int} (h : d ≥ 12) (b : Bool) (l s : List UInt8) : r3_reader_inner b (RS l s d false) = some (E0, RS l s d true) := by
  rw [r3_reader_inner.eq]; unfold r3_reader_inner_b
  simp only
  rw [decide_eq_true h]; rfl
theorem rinner_open {l : List UInt8} (hl : l.length ≤ 1000000000) {d : Int} (h0 : 0 ≤ d) (h : d < 12) {s : List UInt8} (hs : s <:+ l) {o : Option (X3 × List UInt8)} (hsuf : ∀ x r, o = some (x, r) → r <:+ s) (ho : RR l (r3_reader_two 0 (RS l s (d + 1) false)) (d + 1) o) :
    RR l (r3_reader_inner true (RS l s d false)) d (o.bind fun xr => bif pre [41] (dropB xr.2) then some (xr.1, (dropB xr.2).drop 1) else none) := by
  rw [r3_reader_inner.eq]; unfold r3_reader_inner_b
  have c1 : decide (d ≥ 12) = false := decide_eq_false (by omega)
  have wd : w64 (d + 1 - 1) = d := by rw [w64_in (by omega) (by omega)]; omega
  simp only
  rw [c1, cond_false, cond_true, w64_in (n := d + 1) (by omega) (by omega)]
  cases o with
  | none =>
    obtain ⟨e, r, b, h1, h2, h3⟩ := ho
    have h1 : r3_reader_two 0 ⟨ba l, ((l.length - s.length : Nat) : Int), d + 1, false⟩ = some (e, RS l r (d + 1) b) := h1
    rw [h1, Option.bind_some, show h_29 = ba [41] from rfl, is_eq hl [41] (by simp) r h2 (d + 1) b]
    have hdr : dropB r <:+ l := (dropB_suf r).trans h2
    cases hp : pre [41] (dropB r) with
    | true =>
      simp only [cond_true, Option.bind_some, Bool.not_true, cond_false, wd, Option.bind_none]
      refine ⟨_, (dropB r).drop 1, b, rfl, (List.drop_suffix _ _).trans hdr, ?_⟩
      rcases h3 with h3 | h3
      · exact .inl h3
      · exfalso
        obtain ⟨c, t, rfl, hc⟩ := h3
        rw [stuck_drop ⟨c, t, rfl, hc⟩] at hp
        have : c = 41 := by
          have := of_decide_eq_true (show decide ((c :: t).take 1 = [41]) = true from hp)
          simpa using this
        rw [this] at hc; cases hc
    | false =>
      simp only [cond_false, Option.bind_some, Bool.not_false, cond_true, wd, Option.bind_none]
      exact ⟨_, dropB r, true, rfl, hdr, .inl rfl⟩
  | some xr =>
    obtain ⟨x, r⟩ := xr
    have hr : r <:+ l := (hsuf x r rfl).trans hs
    have hdr : dropB r <:+ l := (dropB_suf r).trans hr
    have h1 : r3_reader_two 0 ⟨ba l, ((l.length - s.length : Nat) : Int), d + 1, false⟩ = some (x.t, RS l r (d + 1) false) := ho
    rw [h1, Option.bind_some, show h_29 = ba [41] from rfl, is_eq hl [41] (by simp) r hr (d + 1) false]
    cases hp : pre [41] (dropB r) with
    | true =>
      simp only [cond_true, Option.bind_some, Bool.not_true, cond_false, wd, hp]
      rfl
    | false =>
      simp only [cond_false, Option.bind_some, Bool.not_false, cond_true, wd, hp]
      exact ⟨_, dropB r, true, rfl, hdr, .inl rfl⟩
theorem rinner_minus {l : List UInt8} {d : Int} (h0 : 0 ≤ d) (h : d < 12) {s : List UInt8} {o : Option (X3 × List UInt8)} (ho : RR l (r3_reader_one (RS l s (d + 1) false)) (d + 1) o) :
    RR l (r3_reader_inner false (RS l s d false)) d (o.bind fun xr => some (.neg xr.1, xr.2)) := by
  rw [r3_reader_inner.eq]; unfold r3_reader_inner_b
  have c1 : decide (d ≥ 12) = false := decide_eq_false (by omega)
  have wd : w64 (d + 1 - 1) = d := by rw [w64_in (by omega) (by omega)]; omega
  simp only
  rw [c1, cond_false, cond_false, w64_in (n := d + 1) (by omega) (by omega)]
  cases o with
  | none =>
    obtain ⟨e, r, b, h1, h2, h3⟩ := ho
    have h1 : r3_reader_one ⟨ba l, ((l.length - s.length : Nat) : Int), d + 1, false⟩ = some (e, RS l r (d + 1) b) := h1
    rw [h1, Option.bind_some]
    simp only [wd, Option.bind_none]
    exact ⟨_, r, b, rfl, h2, h3⟩
  | some xr =>
    obtain ⟨x, r⟩ := xr
    have h1 : r3_reader_one ⟨ba l, ((l.length - s.length : Nat) : Int), d + 1, false⟩ = some (x.t, RS l r (d + 1) false) := ho
    rw [h1, Option.bind_some]
    simp only [wd, Option.bind_some]
    rfl
theorem rone_open {l : List UInt8} (hl : l.length ≤ 1000000000) {s r : List UInt8} (hs : s <:+ l) (h : dropB s = 40 :: r) (d : Int) : r3_reader_one (RS l s d false) = r3_reader_inner true (RS l r d false) := by
  rw [r3_reader_one.eq]; unfold r3_reader_one_b
  simp only [cond_false]
  rw [show h_28 = ba [40] from rfl, is_eq hl [40] (by simp) s hs d false, h, show pre [40] (40 :: r) = true from by simp [pre]]
  simp only [cond_true, Option.bind_some]
  show (r3_reader_inner true (RS l r d false)).bind (fun q => some (q.1, q.2)) = _
  cases r3_reader_inner true (RS l r d false) <;> rfl
theorem rone_minus {l : List UInt8} (hl : l.length ≤ 1000000000) {s r : List UInt8} (hs : s <:+ l) (h : dropB s = 45 :: r) (d : Int) : r3_reader_one (RS l s d false) = r3_reader_inner false (RS l r d false) := by
  have hs2 : (45 :: r) <:+ l := by rw [← h]; exact (dropB_suf s).trans hs
  have hd : dropB (45 :: r) = 45 :: r := dropB_head (by decide)
  rw [r3_reader_one.eq]; unfold r3_reader_one_b
  simp only [cond_false]
  rw [show h_28 = ba [40] from rfl, is_eq hl [40] (by simp) s hs d false, h, show pre [40] (45 :: r) = false from by simp [pre]]
  simp only [cond_false, Option.bind_some]
  rw [show h_2d = ba [45] from rfl, is_eq hl [45] (by simp) _ hs2 d false, hd, show pre [45] (45 :: r) = true from by simp [pre]]
  simp only [cond_true, Option.bind_some]
  show (r3_reader_inner false (RS l r d false)).bind (fun q => some (q.1, q.2)) = _
  cases r3_reader_inner false (RS l r d false) <;> rfl
theorem rone_dot {l : List UInt8} (hl : l.length ≤ 1000000000) {s r : List UInt8} (hs : s <:+ l) (h : dropB s = 46 :: r) (d : Int) : r3_reader_one (RS l s d false) = some (X3.here.t, RS l r d false) := by
  have hs2 : (46 :: r) <:+ l := by rw [← h]; exact (dropB_suf s).trans hs
  have hd : dropB (46 :: r) = 46 :: r := dropB_head (by decide)
  rw [r3_reader_one.eq]; unfold r3_reader_one_b
  simp only [cond_false]
  rw [show h_28 = ba [40] from rfl, is_eq hl [40] (by simp) s hs d false, h, show pre [40] (46 :: r) = false from by simp [pre]]
  simp only [cond_false, Option.bind_some]
  rw [show h_2d = ba [45] from rfl, is_eq hl [45] (by simp) _ hs2 d false, hd, show pre [45] (46 :: r) = false from by simp [pre]]
  simp only [cond_false, Option.bind_some]
  rw [show h_2e = ba [46] from rfl, is_eq hl [46] (by simp) _ hs2 d false, hd, show pre [46] (46 :: r) = true from by simp [pre]]
  rfl
theorem tailA_suf {base : Nat} {h r : List UInt8} {x : X3} {r' : List UInt8} (e : tailA base h r = some (x, r')) : r' = r := by
  unfold tailA at e
  split at e
  · split at e
    · cases e; rfl
    · cases e
  · cases e
theorem atomS_suf {t : List UInt8} {x : X3} {r : List UInt8} (e : atomS t = some (x, r)) : r <:+ t := by
  unfold atomS at e
  cases h1 : pre [48, 120] t && !decide ((t.drop 2).takeWhile isH = []) with
  | true =>
    rw [h1, cond_true] at e
    rw [tailA_suf e]
    exact (dw_suf _).trans (List.drop_suffix 2 t)
  | false =>
    rw [h1, cond_false] at e
    cases h2 : !decide (t.takeWhile isD = []) with
    | true =>
      rw [h2, cond_true] at e
      rw [tailA_suf e]; exact dw_suf _
    | false =>
      rw [h2, cond_false] at e
      cases h3 : wordB (t.takeWhile isI) with
      | true => rw [h3, cond_true] at e; cases e; exact dw_suf _
      | false => rw [h3, cond_false] at e; cases e
theorem both_all : ∀ (n : Nat) (s : List UInt8), s.length ≤ n → ∀ d : Int, 0 ≤ d → d ≤ 12 → BothO s d ∧ ∀ lev, lev ≤ 5 → BothT lev s d := by
  intro n
  induction n using Nat.strongRecOn with
  | _ n ih =>
    intro s hs d h0 h12
    have hO : BothO s d := by
      have hds := dropB_suf s
      have hdl := dropB_le s
      by_cases h40 : ∃ r, dropB s = 40 :: r
      · obtain ⟨r, hr⟩ := h40
        have hrl : r.length < s.length := by rw [hr] at hdl; simp at hdl; omega
        have hrs : r <:+ s := by rw [hr] at hds; exact (List.suffix_cons 40 r).trans hds
        by_cases hd : d ≥ 12
        · refine ⟨none, fun x r e => (nomatch e), ?_, fun l hl hsl => ?_⟩
          · rw [one_open hr, (within_max hd r).1]; exact ⟨_, _, rfl⟩
          · rw [rone_open hl hsl hr, rinner_max hd]; exact ⟨_, r, true, rfl, hrs.trans hsl, .inl rfl⟩
        · obtain ⟨o, a1, a2, a3⟩ := (ih r.length (by omega) r (Nat.le_refl _) (d + 1) (by omega) (by omega)).2 0 (by omega)
          refine ⟨o.bind fun xr => bif pre [41] (dropB xr.2) then some (xr.1, (dropB xr.2).drop 1) else none, ?_, ?_, fun l hl hsl => ?_⟩
          · intro x r2 e
            cases o with
            | none => cases e
            | some yr =>
              obtain ⟨y, r3⟩ := yr
              simp only [Option.bind_some] at e
              cases hp : pre [41] (dropB r3) with
              | true =>
                rw [hp, cond_true] at e; cases e
                exact (List.drop_suffix _ _).trans ((dropB_suf r3).trans ((a1 _ r3 rfl).trans hrs))
              | false => rw [hp, cond_false] at e; cases e
          · rw [one_open hr]; exact within_PR h0 (by omega) r a2
          · rw [rone_open hl hsl hr]; exact rinner_open hl h0 (by omega) (hrs.trans hsl) a1 (a3 l hl (hrs.trans hsl))
      · by_cases h45 : ∃ r, dropB s = 45 :: r
        · obtain ⟨r, hr⟩ := h45
          have hrl : r.length < s.length := by rw [hr] at hdl; simp at hdl; omega
          have hrs : r <:+ s := by rw [hr] at hds; exact (List.suffix_cons 45 r).trans hds
          by_cases hd : d ≥ 12
          · refine ⟨none, fun x r e => (nomatch e), ?_, fun l hl hsl => ?_⟩
            · rw [one_minus hr, (within_max hd r).2]; exact ⟨_, _, rfl⟩
            · rw [rone_minus hl hsl hr, rinner_max hd]; exact ⟨_, r, true, rfl, hrs.trans hsl, .inl rfl⟩
          · obtain ⟨o, a1, a2, a3⟩ := (ih r.length (by omega) r (Nat.le_refl _) (d + 1) (by omega) (by omega)).1
            refine ⟨o.bind fun xr => some (.neg xr.1, xr.2), ?_, ?_, fun l hl hsl => ?_⟩
            · intro x r2 e
              cases o with
              | none => cases e
              | some yr => cases e; exact (a1 _ _ rfl).trans hrs
            · rw [one_minus hr]; exact minus_PR h0 (by omega) r a2
            · rw [rone_minus hl hsl hr]; exact rinner_minus h0 (by omega) (a3 l hl (hrs.trans hsl))
        · by_cases h46 : ∃ r, dropB s = 46 :: r
          · obtain ⟨r, hr⟩ := h46
            have hrs : r <:+ s := by rw [hr] at hds; exact (List.suffix_cons 46 r).trans hds
            exact ⟨some (.here, r), fun x r2 e => by cases e; exact hrs, one_dot hr d, fun l hl hsl => rone_dot hl hsl hr d⟩
          · have n1 : ∀ r, dropB s ≠ 40 :: r := fun r e => h40 ⟨r, e⟩
            have n2 : ∀ r, dropB s ≠ 45 :: r := fun r e => h45 ⟨r, e⟩
            have n3 : ∀ r, dropB s ≠ 46 :: r := fun r e => h46 ⟨r, e⟩
            exact ⟨atomS (dropB s), fun x r e => (atomS_suf e).trans hds, one_atom rfl n1 n2 n3 d, fun l hl hsl => ratom hl hsl rfl n1 n2 n3 d⟩
    refine ⟨hO, fun lev hlev => bothT hO (fun lev' h' s' hs' => (ih s'.length (by omega) s' (Nat.le_refl _) d h0 h12).2 lev' h') (5 - lev) lev (by omega)⟩
/-- any text: the two readers answer alike -/
theorem parse_alike (s : List UInt8) (hs : s.length ≤ 1000000000) : ∃ e b, expr_Parse (ba s) = some (e, b) ∧ r3_Parse (ba s) = some (e, b) ∧ ((∃ x : X3, e = x.t) ∨ e = E0) := by
  obtain ⟨o, a1, a2, a3⟩ := (both_all s.length s (Nat.le_refl _) 0 (by omega) (by omega)).2 0 (by omega)
  have hP := parse_PR s (o := o) a2
  have hR := a3 s hs (List.suffix_refl s)
  have h0 : (RS s s 0 false) = ⟨ba s, 0, 0, false⟩ := by simp
  have step : r3_Parse (ba s) = r3_Parse_b r3_reader_two r3_reader_past (ba s) := r3_Parse.eq _
  unfold r3_Parse_b at step
  cases o with
  | none =>
    obtain ⟨e, r, b, h1, h2, h3⟩ := hR
    have h1 : r3_reader_two 0 ⟨ba s, 0, 0, false⟩ = some (e, RS s r 0 b) := by rw [← h0]; exact h1
    refine ⟨E0, false, hP, ?_, .inr rfl⟩
    rw [step, h1, Option.bind_some, past_eq hs 0 b r h2, Option.bind_some]
    cases b with
    | true => rfl
    | false =>
      have h3 : stuck r := by rcases h3 with h | h; cases h; exact h
      obtain ⟨c, t, e, hc⟩ := id h3
      have hrl := h2.length_le
      simp only [cond_false]
      rw [stuck_drop h3]
      have c1 : decide (((s.length - r.length : Nat) : Int) < (((ba s).size : Nat) : Int)) = true := decide_eq_true (by rw [ba_size]; subst e; simp only [List.length_cons] at hrl ⊢; omega)
      rw [c1]; rfl
  | some xr =>
    obtain ⟨x, r⟩ := xr
    have h2 := a1 x r rfl
    have h1 : r3_reader_two 0 ⟨ba s, 0, 0, false⟩ = some (x.t, RS s r 0 false) := by rw [← h0]; exact hR
    simp only at hP
    have hdl := ((dropB_suf r).trans h2).length_le
    by_cases hd : dropB r = []
    · rw [if_pos hd] at hP
      refine ⟨x.t, true, hP, ?_, .inl ⟨x, rfl⟩⟩
      rw [step, h1, Option.bind_some, past_eq hs 0 false r h2, Option.bind_some, hd]
      simp only [cond_false]
      have c1 : decide (((s.length - ([] : List UInt8).length : Nat) : Int) < (((ba s).size : Nat) : Int)) = false := decide_eq_false (by rw [ba_size]; simp)
      rw [c1]; rfl
    · rw [if_neg hd] at hP
      refine ⟨E0, false, hP, ?_, .inr rfl⟩
      rw [step, h1, Option.bind_some, past_eq hs 0 false r h2, Option.bind_some]
      simp only [cond_false]
      have : 0 < (dropB r).length := List.length_pos_iff.2 hd
      have c1 : decide (((s.length - (dropB r).length : Nat) : Int) < (((ba s).size : Nat) : Int)) = true := decide_eq_true (by rw [ba_size]; omega)
      rw [c1]; rfl
end Go.Ab
namespace Go.Ab
theorem same_E0 : r3_Same E0 E0 = some true := by
  rw [r3_Same.eq]; unfold r3_Same_b
  have h3 : eqS (E0).Name (E0).Name = true := eqS_iff.2 rfl
  have e : r3_Same_L1 ⟨0, E0, E0⟩ = some (.inr ()) := by rw [r3_Same_L1.eq]; rfl
  rw [h3, e]; rfl
theorem reads_rows (rows : List ByteArray) (hn : rows.length ≤ 100) (h : ∀ r ∈ rows, (bl r).length ≤ 1000000000) : w3_ExprReads_L2 ⟨rows, 0⟩ = some (.inr ()) := by
  obtain ⟨r, h1, h2⟩ := loop_ind w3_ExprReads_L2.eq (fun a => ∃ i : Nat, i ≤ rows.length ∧ a = ⟨rows, i⟩) (fun _ r => r = .inr ()) (fun a => rows.length - a.x19.toNat) (by
    rintro a ⟨i, hi, rfl⟩
    unfold w3_ExprReads_L2_b
    simp only
    by_cases h' : i < rows.length
    · have c1 : decide ((i : Int) < (((rows.length) : Nat) : Int)) = true := decide_eq_true (by omega)
      have c2 : decide (0 ≤ (i : Int)) = true := decide_eq_true (by omega)
      obtain ⟨e, b, p1, p2, p3⟩ := parse_alike (bl rows[i]) (h _ (List.getElem_mem h'))
      rw [ba_bl] at p1 p2
      have hs : r3_Same e e = some true := by
        rcases p3 with ⟨x, rfl⟩ | rfl
        · exact same_refl x
        · exact same_E0
      refine .inl ⟨⟨rows, (i + 1 : Nat)⟩, ?_, ⟨i + 1, by omega, rfl⟩, by simp only [Int.toNat_natCast]; omega, fun r hr => hr⟩
      rw [c1, cond_true, c2, cond_true, get_nat _ h', Option.bind_some, p1, Option.bind_some, Option.bind_some, p2, Option.bind_some, beq_self_eq_true]
      simp only [Bool.not_true, cond_false]
      rw [hs, Option.bind_some, w64_in (n := (i : Int) + 1) (by omega) (by omega)]; rfl
    · have c1 : decide ((i : Int) < (((rows.length) : Nat) : Int)) = false := decide_eq_false (by omega)
      exact .inr ⟨_, by rw [c1]; rfl, rfl⟩) ⟨rows, 0⟩ ⟨0, by omega, rfl⟩
  rw [h1, h2]
theorem more_loop (ns : List Int) (a5 a13 : ByteArray) (a15 : Int) (r0 : List Int) : ∃ m : List UInt8, m.length ≤ 100 ∧ w3_ExprReads_L1 ⟨ns, a5, a13, a15, s_, 0, r0⟩ = some ⟨a5, a13, a15, ba m, r0⟩ := by
  obtain ⟨r, h1, m, h2, h3⟩ := loop_ind w3_ExprReads_L1.eq (fun a => ∃ i : Nat, ∃ m : List UInt8, i ≤ ns.length ∧ i ≤ 20 ∧ m.length ≤ 4 * i ∧ a = ⟨ns, a5, a13, a15, ba m, i, r0⟩)
    (fun _ r => ∃ m : List UInt8, m.length ≤ 100 ∧ r = ⟨a5, a13, a15, ba m, r0⟩) (fun a => 20 - a.x17.toNat) (by
    rintro a ⟨i, m, hi, hi2, hm, rfl⟩
    unfold w3_ExprReads_L1_b
    simp only
    by_cases h : i < ns.length
    · have c1 : decide ((i : Int) < (((ns.length) : Nat) : Int)) = true := decide_eq_true (by omega)
      by_cases h20 : i < 20
      · have c2 : decide ((i : Int) < 20) = true := decide_eq_true (by omega)
        have c3 : decide (0 ≤ (i : Int)) = true := decide_eq_true (by omega)
        obtain ⟨j, hj, ej⟩ := within_nat ns[i] 20 (by decide) (by decide)
        have ej : w3_within ns[i] 20 = some (j : Int) := ej
        have hx : ∀ x ∈ ([s_1, h_20, h_2b, h_2d, h_2a, h_28, h_29, s_x, h_3c3c, h_3e3e, h_26, h_7c, h_2e, s_0x1f, s_r3, s_12, h_203720, h_3c, s_a_b, s_0x] : List ByteArray), (bl x).length ≤ 4 := by decide
        have hlen : ([s_1, h_20, h_2b, h_2d, h_2a, h_28, h_29, s_x, h_3c3c, h_3e3e, h_26, h_7c, h_2e, s_0x1f, s_r3, s_12, h_203720, h_3c, s_a_b, s_0x] : List ByteArray).length = 20 := rfl
        generalize ([s_1, h_20, h_2b, h_2d, h_2a, h_28, h_29, s_x, h_3c3c, h_3e3e, h_26, h_7c, h_2e, s_0x1f, s_r3, s_12, h_203720, h_3c, s_a_b, s_0x] : List ByteArray) = L at hx hlen
        have hjl : j < L.length := by omega
        have c4 : decide (0 ≤ (j : Int) ∧ (j : Int) < ((L.length : Nat) : Int)) = true := decide_eq_true (by omega)
        have hxl := hx L[j] (List.getElem_mem hjl)
        have hb : L[j] = ba (bl L[j]) := (ba_bl _).symm
        refine .inl ⟨⟨ns, a5, a13, a15, ba (m ++ bl L[j]), (i + 1 : Nat), r0⟩, ?_, ⟨i + 1, _, by omega, by omega, by rw [List.length_append]; omega, rfl⟩, by simp only [Int.toNat_natCast]; omega, fun r hr => hr⟩
        rw [c1, cond_true, c2, cond_true, c3, cond_true, get_nat _ h, Option.bind_some, ej, Option.bind_some, c4, cond_true, get_nat _ hjl, Option.bind_some]
        rw [hb, guardS m (bl L[j]) (by omega), cond_true, ba_append, w64_in (n := (i : Int) + 1) (by omega) (by omega), ← hb]; rfl
      · have c2 : decide ((i : Int) < 20) = false := decide_eq_false (by omega)
        exact .inr ⟨_, by rw [c1, cond_true, c2]; rfl, m, by omega, rfl⟩
    · have c1 : decide ((i : Int) < (((ns.length) : Nat) : Int)) = false := decide_eq_false (by omega)
      exact .inr ⟨_, by rw [c1]; rfl, m, by omega, rfl⟩) ⟨ns, a5, a13, a15, s_, 0, r0⟩ ⟨0, [], by omega, by omega, by simp, rfl⟩
  exact ⟨m, h2, by rw [h1, h3]⟩
theorem tx_pos : ∀ x : X3, okW x → 1 ≤ (tx x).length
  | .num n, _ => by
    have := (@isD_dec n.toNat).2
    have e : tx (.num n) = Lib.decDigits n.toNat := rfl
    rw [e]; exact List.length_pos_iff.2 this
  | .nm s, h => by
    obtain ⟨c, t, e, _⟩ := word_parts (w := bl s) h
    have e2 : tx (.nm s) = bl s := rfl
    rw [e2, e]; simp
  | .here, _ => by decide
  | .neg x, _ => by rw [tx_neg]; simp
  | .bin k x y, _ => by rw [tx_bin]; simp; omega
theorem w3_ExprReads_true (l : List T_w3_Raw) (at_ by_ cut : Int) (ns : List Int) (raw : ByteArray) (w : l.length ≤ maxLen ∧ ∀ y ∈ l, wf_w3_Raw y) (w1 : IntKind.i64.min ≤ at_ ∧ at_ ≤ IntKind.i64.max) (w2 : IntKind.u8.min ≤ by_ ∧ by_ ≤ IntKind.u8.max)
    (w3 : IntKind.i64.min ≤ cut ∧ cut ≤ IntKind.i64.max) (w4 : ns.length ≤ maxLen ∧ ∀ y ∈ ns, IntKind.i64.min ≤ y ∧ y ≤ IntKind.i64.max) (w5 : raw.size ≤ maxLen) : w3_ExprReads l at_ by_ cut ns raw = some true := by
  rw [w3_ExprReads.eq]; unfold w3_ExprReads_b
  obtain ⟨b, hb, hx⟩ := few_one l w.1 w.2
  rw [w3_known_true, Option.bind_some, hb, Option.bind_some]
  simp only [Bool.not_true, cond_false]
  cases b with
  | false => rfl
  | true =>
    simp only [Bool.not_true, cond_false]
    by_cases hr : raw.size ≤ 100
    · have c0 : decide (((raw.size : Nat) : Int) > 100) = false := decide_eq_false (by omega)
      obtain ⟨x, e1, e2, e3⟩ := hx rfl
      have hW := ok_okW e2
      have hl := (tx_len x hW).1
      have hp : 2 ^ x.d ≤ 2 ^ 7 := Nat.pow_le_pow_right (by decide) e3
      have hp2 : (2 : Nat) ^ 7 = 128 := rfl
      have hpos := tx_pos x hW
      have hbl : (bytesL (ba (tx x))).length = (tx x).length := by simp [bytesL, ba]
      rw [c0, cond_false, e1, Option.bind_some, (r3_Text_eq x hW (by omega)).1, Option.bind_some, hbl]
      generalize hB : bytesL (ba (tx x)) = B at hbl
      obtain ⟨j, hj, ej⟩ := within_nat at_ (tx x).length (by omega) (by omega)
      have c1 : decide (0 ≤ (j : Int) ∧ (j : Int) < (((tx x).length : Nat) : Int)) = true := decide_eq_true (by omega)
      obtain ⟨k, hk, ek⟩ := within_nat cut ((tx x).length + 1) (by omega) (by omega)
      have ek : w3_within cut (w64 ((((ba (tx x)).size : Nat) : Int) + 1)) = some (k : Int) := by
        rw [ba_size, w64_in (by omega) (by omega)]; exact ek
      rw [ej, Option.bind_some, c1, cond_true, get_nat B (by omega), Option.bind_some, Option.bind_some, ek, Option.bind_some]
      obtain ⟨m, hm, em⟩ := more_loop ns raw (ba (tx x)) (k : Int) (B.set (Int.toNat (j : Int)) (IntKind.u8.wrap (B[j]'(by omega) + by_)))
      rw [em, Option.bind_some, Option.bind_some]
      simp only [ba_size, ba_extract, Int.toNat_natCast, List.take_length]
      have d1 : decide (0 ≤ (0 : Int) ∧ (0 : Int) ≤ (k : Int) ∧ (k : Int) ≤ (((tx x).length : Nat) : Int)) = true := decide_eq_true (by omega)
      have d2 : decide (0 ≤ (k : Int) ∧ (k : Int) ≤ (((tx x).length : Nat) : Int) ∧ (((tx x).length : Nat) : Int) ≤ (((tx x).length : Nat) : Int)) = true := decide_eq_true (by omega)
      rw [d1, cond_true, guard_ok (by simp; omega), cond_true, d2, cond_true, ba_append, ba_size, guard_ok (by simp; omega), cond_true]
      rw [show h_28 = ba [40] from rfl, show h_29 = ba [41] from rfl, ba_size, guard_ok (by simp; omega), cond_true, ba_append, ba_size, ba_size, guard_ok (by simp; omega), cond_true]
      rw [reads_rows]
      · rfl
      · simp
      · intro r hr'
        simp only [List.mem_cons, List.not_mem_nil, or_false] at hr'
        rcases hr' with rfl | rfl | rfl | rfl | rfl | rfl
        · simp [bl, listB]; omega
        · rw [bl_ba]; simp; omega
        · rw [ba_append, bl_ba]; simp; omega
        · have : (bl r).length = r.size := rfl
          omega
        · rw [bl_ba]; omega
        · rw [ba_append, bl_ba]; simp; omega
    · have c0 : decide (((raw.size : Nat) : Int) > 100) = true := decide_eq_true (by omega)
      rw [c0]; rfl
end Go.Ab
namespace Go.Proofs.YtklkkgmflfioeaaDoor
open Go Go.Ab Go.ChangeShapes Go.WideShapes Go.ChangeAt Go.RowKit
open Go.ChangeMaps (open_string shut_string)
theorem repL_one {c : Ctx} {w : World} {a : AV} {v : Value} (h : RepL c w [a] [v]) : Rep c w a v := by cases h; assumption
theorem laidOut : laidOutB Tryd.prog = true := by kernel_rfl
theorem own : ownKnob Tryd.prog.godebug = none := by kernel_rfl
theorem door_met (os : Os) (args : Array Value) : laidMetH Tryd.prog [("math/bits.deBruijn32tab", Rows.laid_math_bits_deBruijn32tab), ("math/bits.deBruijn64tab", Rows.laid_math_bits_deBruijn64tab), ("internal/strconv.uint64pow10", Rows.laid_internal_strconv_uint64pow10), ("unicode/utf8.acceptRanges", Rows.laid_unicode_utf8_acceptRanges), ("unicode/utf8.first", Rows.laid_unicode_utf8_first)] ((World.laidAll Tryd.prog os [("math/bits.deBruijn32tab", Rows.laid_math_bits_deBruijn32tab), ("math/bits.deBruijn64tab", Rows.laid_math_bits_deBruijn64tab), ("internal/strconv.uint64pow10", Rows.laid_internal_strconv_uint64pow10), ("unicode/utf8.acceptRanges", Rows.laid_unicode_utf8_acceptRanges), ("unicode/utf8.first", Rows.laid_unicode_utf8_first)]).forCall (fun _ _ => 0) ⟨#[], args, []⟩).memory := by
  rw [MakeChecks.laidMetH_plain _ _ _ (by kernel_rfl)]; exact laidMet_laidAll _ (by kernel_rfl) (by kernel_rfl)
section
variable {H : Type} {enc : TypeId × Value → H} {W : World}
theorem rd_w3_Raw (fuel : Nat) : Rd enc Tryd.prog W fuel 63 C_w3_Raw wf_w3_Raw := by
  induction fuel using Nat.strongRecOn with
  | _ fuel ih =>
    intro cs x h
    obtain ⟨xs, n, hn, _, hl, hlen, hel⟩ := DataW.trod_struct Tryd.underlying63 h
    have hlen' : xs.length = 3 := hlen
    have hl' : cs.length = 3 := hl.trans (by kernel_rfl)
    have e0 := hel 0 _ rfl
    rw [List.getElem?_eq_getElem (by omega)] at e0
    obtain ⟨a0, w0, r0, f0⟩ := (rd_int Tryd.underlying3 n) _ _ e0
    have z0 : Tryd.prog.cellsOf 3 = 1 := by kernel_rfl
    replace r0 := repL_size z0 r0
    have e1 := hel 1 _ rfl
    rw [List.getElem?_eq_getElem (by omega)] at e1
    obtain ⟨a1, w1, r1, f1⟩ := (rd_int Tryd.underlying3 n) _ _ e1
    have z1 : Tryd.prog.cellsOf 3 = 1 := by kernel_rfl
    replace r1 := repL_size z1 r1
    have e2 := hel 2 _ rfl
    rw [List.getElem?_eq_getElem (by omega)] at e2
    obtain ⟨a2, w2, r2, f2⟩ := (show Rd enc Tryd.prog W n 22 (fun l : List T_w3_Raw => [.sl (l.map C_w3_Raw)]) (fun l => l.length ≤ maxLen ∧ ∀ y ∈ l, wf_w3_Raw y) from by
      cases n with
      | zero => exact rd_zero _ _
      | succ m => exact rd_slice (s := 3) Tryd.underlying22 (by kernel_rfl) (by decide) (fun _ => rfl) (ih m (by omega))) _ _ e2
    have z2 : Tryd.prog.cellsOf 22 = 1 := by kernel_rfl
    replace r2 := repL_size z2 r2
    refine ⟨T_w3_Raw.mk a0 a1 a2, .mk _ w0 w1 w2.1 w2.2, ?_, ?_⟩
    · have hc : cs = ((cs.drop 0).take 1) ++ (((cs.drop 1).take 1) ++ (((cs.drop 2).take 1))) := by
        have hd : cs.drop 3 = [] := List.drop_eq_nil_of_le (by omega)
        have d2 := parts_eq cs 2 1
        have d1 := parts_eq cs 1 1
        have d0 := parts_eq cs 0 1
        simp only [Nat.zero_add, Nat.reduceAdd, List.drop_zero, hd, List.append_nil] at d0 d1 d2
        first | (rw [List.drop_zero]; rw [← d2, ← d1, ← d0]) | (rw [← d2, ← d1, ← d0])
      rw [hc]
      have := repL_append r0 (repL_append r1 (r2))
      first | exact this | (simp only [R_w3_Raw_map] at this; exact this)
    · rfl
end
namespace exprReads
set_option maxRecDepth 100000 in
theorem lifted (os : Os) (started : os.Started) (H : Type) (enc : TypeId × Value → H) :
    ReturnsInHanded {} Tryd.checked os 3 .any (fun w args => (Rows.exprReadsSpec.pre enc Tryd.prog Tryd.f3 [] false w args ∧ laidMetH Tryd.prog [("math/bits.deBruijn32tab", Rows.laid_math_bits_deBruijn32tab), ("math/bits.deBruijn64tab", Rows.laid_math_bits_deBruijn64tab), ("internal/strconv.uint64pow10", Rows.laid_internal_strconv_uint64pow10), ("unicode/utf8.acceptRanges", Rows.laid_unicode_utf8_acceptRanges), ("unicode/utf8.first", Rows.laid_unicode_utf8_first)] w) ∧ sizedMet enc Tryd.prog Tryd.f3 (OpenSpec.ofChange Rows.exprReadsSpec) false w args) (Rows.exprReadsSpec.post enc Tryd.prog Tryd.f3 false true false false) := by
  refine returnsInHanded_of_change_and (C := Tryd.checked) (X := fun w _ => laidMetH Tryd.prog [("math/bits.deBruijn32tab", Rows.laid_math_bits_deBruijn32tab), ("math/bits.deBruijn64tab", Rows.laid_math_bits_deBruijn64tab), ("internal/strconv.uint64pow10", Rows.laid_internal_strconv_uint64pow10), ("unicode/utf8.acceptRanges", Rows.laid_unicode_utf8_acceptRanges), ("unicode/utf8.first", Rows.laid_unicode_utf8_first)] w) (fun _ _ _ hh h => h.of_heap hh) own started (by kernel_rfl) Tryd.func3
    (ChangeSpec.witness_shaped (enc := enc) (C := Tryd.checked) (os := os) (X := fun w _ => laidMetH Tryd.prog [("math/bits.deBruijn32tab", Rows.laid_math_bits_deBruijn32tab), ("math/bits.deBruijn64tab", Rows.laid_math_bits_deBruijn64tab), ("internal/strconv.uint64pow10", Rows.laid_internal_strconv_uint64pow10), ("unicode/utf8.acceptRanges", Rows.laid_unicode_utf8_acceptRanges), ("unicode/utf8.first", Rows.laid_unicode_utf8_first)] w) false (World.laidAll Tryd.prog os [("math/bits.deBruijn32tab", Rows.laid_math_bits_deBruijn32tab), ("math/bits.deBruijn64tab", Rows.laid_math_bits_deBruijn64tab), ("internal/strconv.uint64pow10", Rows.laid_internal_strconv_uint64pow10), ("unicode/utf8.acceptRanges", Rows.laid_unicode_utf8_acceptRanges), ("unicode/utf8.first", Rows.laid_unicode_utf8_first)]) #[.slice none 0 0, .int .i64 0, .int .u8 0, .int .i64 0, .slice none 0 0, .string ByteArray.empty] 8 (World.laidAll_os _ _ _) (World.shaped_of_ZipB (by kernel_rfl) (by kernel_rfl)) (by kernel_rfl) (by kernel_rfl) (by kernel_rfl) (door_met os _)) ?_
  intro W base args ds gs before hval0 hW hcnd hsz0 hL _
  have hT := told_of hL
  have hW' := hW
  obtain ⟨p, q, hA0, hV, rfl, hfz, hnd⟩ := hW
  have hA : DataW.TrodAll enc Tryd.prog W 0 (fun _ => true) true Tryd.f3.params.toList args.toList ds p := hA0
  rw [Tryd.params3] at hA
  obtain ⟨v0, vs0, d0, ds0, p0, q0, hargs, rfl, rfl, h0, r0⟩ := trodAll_cons hA
  obtain ⟨v1, vs1, d1, ds1, p1, q1, rfl, rfl, rfl, h1, r1⟩ := trodAll_cons r0
  obtain ⟨v2, vs2, d2, ds2, p2, q2, rfl, rfl, rfl, h2, r2⟩ := trodAll_cons r1
  obtain ⟨v3, vs3, d3, ds3, p3, q3, rfl, rfl, rfl, h3, r3⟩ := trodAll_cons r2
  obtain ⟨v4, vs4, d4, ds4, p4, q4, rfl, rfl, rfl, h4, r4⟩ := trodAll_cons r3
  obtain ⟨v5, vs5, d5, ds5, p5, q5, rfl, rfl, rfl, h5, r5⟩ := trodAll_cons r4
  obtain ⟨rfl, rfl, rfl⟩ := trodAll_nil r5
  obtain rfl : args = #[v0, v1, v2, v3, v4, v5] := by cases args; simp_all
  obtain ⟨rfl, rfl⟩ := trodVars_none hV
  obtain ⟨u0, len0, cap0, rfl⟩ := okWide_slice Tryd.underlying22 (hval0 0 22 v0 rfl rfl)
  obtain ⟨a0, w0, y0⟩ := rd_fuel (enc := enc) (P := Tryd.prog) (W := W) (fun fuel => (show Rd enc Tryd.prog W fuel 22 (fun l : List T_w3_Raw => [.sl (l.map C_w3_Raw)]) (fun l => l.length ≤ maxLen ∧ ∀ y ∈ l, wf_w3_Raw y) from by
      cases fuel with
      | zero => exact rd_zero _ _
      | succ m => exact rd_slice (s := 3) Tryd.underlying22 (by kernel_rfl) (by decide) (fun _ => rfl) (rd_w3_Raw m))) h0
  replace y0 := repL_one (show RepL (oldCtx W) W [_] [_] from y0)
  obtain ⟨u1, rfl⟩ := okWide_int Tryd.underlying3 (hval0 1 3 v1 rfl rfl)
  obtain ⟨a1, w1, y1⟩ := rd_fuel (enc := enc) (P := Tryd.prog) (W := W) (fun fuel => (rd_int Tryd.underlying3 fuel)) h1
  replace y1 := repL_one (show RepL (oldCtx W) W [_] [_] from y1)
  obtain ⟨u2, rfl⟩ := okWide_int Tryd.underlying5 (hval0 2 5 v2 rfl rfl)
  obtain ⟨a2, w2, y2⟩ := rd_fuel (enc := enc) (P := Tryd.prog) (W := W) (fun fuel => (rd_int Tryd.underlying5 fuel)) h2
  replace y2 := repL_one (show RepL (oldCtx W) W [_] [_] from y2)
  obtain ⟨u3, rfl⟩ := okWide_int Tryd.underlying3 (hval0 3 3 v3 rfl rfl)
  obtain ⟨a3, w3, y3⟩ := rd_fuel (enc := enc) (P := Tryd.prog) (W := W) (fun fuel => (rd_int Tryd.underlying3 fuel)) h3
  replace y3 := repL_one (show RepL (oldCtx W) W [_] [_] from y3)
  obtain ⟨u4, len4, cap4, rfl⟩ := okWide_slice Tryd.underlying23 (hval0 4 23 v4 rfl rfl)
  obtain ⟨a4, w4, y4⟩ := rd_fuel (enc := enc) (P := Tryd.prog) (W := W) (fun fuel => (show Rd enc Tryd.prog W fuel 23 (fun l : List Int => [.sl (l.map C_i64)]) (fun l => l.length ≤ maxLen ∧ ∀ y ∈ l, IntKind.i64.min ≤ y ∧ y ≤ IntKind.i64.max) from by
      cases fuel with
      | zero => exact rd_zero _ _
      | succ m => exact rd_slice (s := 1) Tryd.underlying23 (by kernel_rfl) (by decide) (fun _ => rfl) (rd_int Tryd.underlying3 m))) h4
  replace y4 := repL_one (show RepL (oldCtx W) W [_] [_] from y4)
  obtain ⟨u5, rfl⟩ := okWide_string Tryd.underlying9 (hval0 5 9 v5 rfl rfl)
  obtain ⟨a5, w5, y5⟩ := rd_fuel (enc := enc) (P := Tryd.prog) (W := W) (fun fuel => (rd_string Tryd.underlying9 fuel)) h5
  replace y5 := repL_one (show RepL (oldCtx W) W [_] [_] from y5)
  obtain ⟨k, hk⟩ := w3_ExprReads.run a0 a1 a2 a3 a4 a5 (w3_ExprReads_true a0 a1 a2 a3 a4 a5 w0 w1 w2 w3 w4 w5)
  rw [R_w3_Raw_map] at y0
  rw [R_i64_map] at y4
  have lt0 : ∀ x ∈ p0, x.block < W.heap.size := by obtain ⟨m, hm⟩ := h0; exact DataW.trod_lt m _ _ _ hm
  have lt1 : ∀ x ∈ p1, x.block < W.heap.size := by obtain ⟨m, hm⟩ := h1; exact DataW.trod_lt m _ _ _ hm
  have lt2 : ∀ x ∈ p2, x.block < W.heap.size := by obtain ⟨m, hm⟩ := h2; exact DataW.trod_lt m _ _ _ hm
  have lt3 : ∀ x ∈ p3, x.block < W.heap.size := by obtain ⟨m, hm⟩ := h3; exact DataW.trod_lt m _ _ _ hm
  have lt4 : ∀ x ∈ p4, x.block < W.heap.size := by obtain ⟨m, hm⟩ := h4; exact DataW.trod_lt m _ _ _ hm
  have lt5 : ∀ x ∈ p5, x.block < W.heap.size := by obtain ⟨m, hm⟩ := h5; exact DataW.trod_lt m _ _ _ hm
  refine (calls_of_eval (T := told) (by kernel_rfl) ext_ok hk hT (.cons _ _ _ _ y0 (.cons _ _ _ _ y1 (.cons _ _ _ _ y2 (.cons _ _ _ _ y3 (.cons _ _ _ _ y4 (.cons _ _ _ _ y5 .nil))))))).mono fun e W' ⟨he, bel⟩ => ?_
  subst he
  exact ⟨_, rfl, _, _, _, [], _, [], hW', trodAll_mk1 (shut_bool Tryd.underlying4 _), (trodAll_cons_mk (Below.trod laidOut (by kernel_rfl) (of_decide_eq_true (by kernel_rfl)) h0 bel lt0) (trodAll_cons_mk (Below.trod laidOut (by kernel_rfl) (of_decide_eq_true (by kernel_rfl)) h1 bel lt1) (trodAll_cons_mk (Below.trod laidOut (by kernel_rfl) (of_decide_eq_true (by kernel_rfl)) h2 bel lt2) (trodAll_cons_mk (Below.trod laidOut (by kernel_rfl) (of_decide_eq_true (by kernel_rfl)) h3 bel lt3) (trodAll_cons_mk (Below.trod laidOut (by kernel_rfl) (of_decide_eq_true (by kernel_rfl)) h4 bel lt4) (trodAll_cons_mk (Below.trod laidOut (by kernel_rfl) (of_decide_eq_true (by kernel_rfl)) h5 bel lt5) trodAll_mk0)))))), rfl, bel.frame _, fun h => by cases h⟩
theorem over : Rows.exprReadsRow.holds Tryd.pinned (OpenSpec.ofChange Rows.exprReadsSpec) :=
  OpenClaim.holds_of_wide 3 Tryd.f3 rfl rfl rfl rfl rfl rfl rfl ⟨rfl, rfl, rfl, rfl, rfl⟩ rfl rfl rfl rfl rfl (by kernel_rfl) Tryd.func3 (by kernel_rfl)
    (of_decide_eq_true (by kernel_rfl)) (by unfold Func.isWrapper; first | (rw [if_pos (by decide +kernel)]; kernel_rfl) | (rw [if_neg (by decide +kernel)]; exact ⟨rfl, rfl⟩))
    (fun os started H enc _ => lifted os started H enc)
theorem proved : Rows.ExprReadsSaid := over
theorem card : Rows.ExprReadsCardSaid :=
  Claim7.holds_tied_plain_at .later [] [.data, .data, .data, .data, .pinned] true (true, "81d4f43cb237afca914f61e8cf0b2df16f6704554aedcf2901d890bfb1c48d5f") false
    proved (fun _ h => by cases h) (by kernel_rfl) (fun _ h => by cases h) exprReads_row_tie rfl ⟨rfl, rfl⟩ (by kernel_rfl) rfl
    (fun f fn hf hfn => by
      obtain rfl : f = 3 := Option.some.inj ((show Tryd.prog.funcNamed Tryd.f3.name = some 3 by kernel_rfl).symm.trans hf) |>.symm
      obtain rfl : fn = Tryd.f3 := (Option.some.inj (Tryd.func3.symm.trans hfn)).symm
      exact ⟨by kernel_rfl, fun j t ht => by
        rw [Tryd.params3] at ht
        have hm : t ∈ [22, 3, 5, 3, 23, 9] := by simpa using Array.mem_of_getElem? ht
        have hall : ([22, 3, 5, 3, 23, 9].all fun u => !Tryd.prog.wantsStandIn u) = true := by kernel_rfl
        exact (show Tryd.prog.wantsStandIn t = false by simpa using List.all_eq_true.1 hall t hm)⟩)
    (by kernel_rfl)
end exprReads
/-- The row, under a short name, for the claim. -/
theorem exprReads_holds : Rows.ExprReadsCardSaid := exprReads.card
end Go.Proofs.YtklkkgmflfioeaaDoor
