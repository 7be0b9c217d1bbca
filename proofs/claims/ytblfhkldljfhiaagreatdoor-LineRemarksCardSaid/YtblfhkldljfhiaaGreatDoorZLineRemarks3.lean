/- LineRemarks: part 3 of the proof that, whatever the input, the law returns true and the input reads as it did; its conditions are those of the given row. -/
import Derived.Test.YtblfhkldljfhiaaGreatDoorZLineRemarks2
import Derived.Shelf.Strings.SlTrimAscii
import Derived.Tactics
import Derived.WalkLawsBesides
import Derived.RowKit3
import Derived.Laws.BitsLemmas
import Derived.Test.YtblfhkldljfhiaaGreatDoorSh
import Derived.Test.YtblfhkldljfhiaaGreatDoorRows
import Derived.LaidMore
import Derived.MakeChecks
import Derived.Lib.AppendIntMem
import Derived.Shelf.Vars
import Derived.WalkKit
import Derived.Deep.LoopGhost
import Derived.Lib.Walk
import Derived.Lib.SliceRun
set_option linter.unusedVariables false
set_option linter.unusedSimpArgs false
namespace Go.Ab
open Go.Proofs
theorem Qom : ∀ (k : Nat), QhA (ev k) (UJ.s k)
  | 0 => fun _ _ _ h => (nomatch h)
  | k + 1 => by
    have i_w3_size := Qom k
    exact fun a0 a1 r h => fn_ok rfl (Qib pp (ev k) (Wn.s k (UJ.s k)) a0 a1) (QxN _ _ a0 a1) (QxO _ _ _ _ (Qsq _ k _ (i_w3_size)) a0 a1) h
theorem UJ.ok (k : Nat) : QhA (ev k) (UJ.s k) := (Qom k)
theorem QmS : ∀ (k : Nat), (∀ (a0 : (List Qr)) (a1 : Int), Le (UJ.s k a0 a1) (UJ.s (k + 1) a0 a1))
  | 0 => fun _ _ _ h => (nomatch h)
  | k + 1 => by
    have i_w3_size := QmS k
    exact fun a0 a1 => (QrC (tw1 (Wn.m (Nat.le_succ k) (UJ.s k) (UJ.s (k + 1)) (i_w3_size))) a0 a1).1 0
theorem UJ.mono (k : Nat) : ∀ (a0 : (List Qr)) (a1 : Int), Le (UJ.s k a0 a1) (UJ.s (k + 1) a0 a1) := (QmS k)
noncomputable def UJ (a0 : (List Qr)) (a1 : Int) : Option Int := lim fun k => UJ.s k a0 a1
theorem UJ.cv (a0 : (List Qr)) (a1 : Int) : Cv (fun k => UJ.s k a0 a1) (UJ a0 a1) := .lim fun k => UJ.mono k a0 a1
noncomputable def Wn : UQ → Option Int := Wn.w UJ
theorem Wn.eq (a : UQ) : Wn a = (FH UJ a).bind (Sum.elim Wn some) := UN _ _
theorem UJ.eq (a0 : (List Qr)) (a1 : Int) : UJ a0 a1 = Qa8 Wn a0 a1 := Cv.uniq (UJ.cv a0 a1).shift (QrC (Wn.cv (fun k => UJ.s k) UJ UJ.cv) a0 a1)
def Qkx (r : Bool) : AV × Heap := (xo r, [])
abbrev Pf := (List Qr) → Option Bool
abbrev Qky (a0 : (List Qr)) : List AV × Heap := ([.sl (WU a0)], [])
abbrev QtQ (w : Cf) (a0 : (List Qr)) : Option AH := w 61 (Qky a0).1 (Qky a0).2
abbrev QqW (w : Cf) (c : Pf) : Prop := ∀ (a0 : (List Qr)) (r : Bool), c a0 = some r → QtQ w a0 = some (Qkx r)
def QcD (C0 : Xr) (a0 : (List Qr)) : Option Bool := ((C0 a0 (0 : Int)).bind fun r1 => (some (decide (r1 ≤ 16))))
def Qkz (P : Pg) (w : Cf) (C0 : Xr) (a0 : (List Qr)) : Tr Bool AH := (.call (QmQ w a0 i0) (C0 a0 i0) Qc1 fun r1 => (rt Qkx (decide (r1 ≤ 16))))
theorem QyR (w : Cf) (C0 : Xr) (a0 : (List Qr)) : (Qkz pp w C0 a0).norm (bodyT pp w G 61 (Qky a0).1 (Qky a0).2) = Qkz pp w C0 a0 := by kernel_rfl
theorem QyS (P : Pg) (w : Cf) (lp : Lo) (C0 : Xr) (K0 : QhA w C0) (a0 : (List Qr)) : (Qkz P w C0 a0).ok lp Qkx := fun r1 hr1 => ⟨K0 _ _ _ hr1, rfl⟩
theorem QyT {C0 : Nat → Xr} {D0 : Xr} (H0 : Cv2 C0 D0) (a0 : (List Qr)) : Cv (fun k => QcD (C0 k) a0) (QcD D0 a0) := by
  unfold QcD
  exact .bind (H0 _ _) fun r1 => by exact .const _
def GC.s : Nat → (List Qr) → Option Bool
  | 0, _ => none
  | k + 1, a0 => QcD (UJ.s k) a0
theorem GC.ok : ∀ (k : Nat), QqW (ev k) (GC.s k)
  | 0, _, _, h => (nomatch h)
  | k + 1, a0, r, h => fn_ok rfl (Qkz pp (ev k) (UJ.s k) a0) (QyR _ _ a0) (QyS _ _ _ _ (UJ.ok k) a0) h
noncomputable def GC (a0 : (List Qr)) : Option Bool := QcD UJ a0
theorem GC.cv (a0 : (List Qr)) : Cv (fun k => GC.s k a0) (GC a0) := .un rfl (QyT UJ.cv a0)
theorem GC.eq (a0 : (List Qr)) : GC a0 = QcD UJ a0 := rfl
def QhB (r : Bool) : AV × Heap := (xo r, [])
abbrev QeO := (List Ql) → Option Bool
abbrev QkA (a0 : (List Ql)) : List AV × Heap := ([.sl (Zu a0)], [])
abbrev QtR (w : Cf) (a0 : (List Ql)) : Option AH := w 24 (QkA a0).1 (QkA a0).2
abbrev QvS (w : Cf) (c : QeO) : Prop := ∀ (a0 : (List Ql)) (r : Bool), c a0 = some r → QtR w a0 = some (QhB r)
structure Vs where
  x0 : (List Ql)
  x3 : Int
def Qar (a : Vs) : St := { n := 26, nx := 0, env := [(0, .sl (Zu a.x0)), (3, xi a.x3)], heap := [] }
def QmT (a : Bool) : Ex × St := (.ret, { n := 26, nx := 0, env := [(2, xo a)], heap := [] })
def QmU (a : Unit) : Ex × St := (.exit 0, { n := 26, nx := 0, env := [], heap := [] })
def Qas (a : (Bool ⊕ Unit)) : Ex × St := Sum.elim QmT QmU a
abbrev S6 := Vs → Option (Bool ⊕ Unit)
abbrev QwS (P : Pg) (lp : Lo) (l : S6) : Prop := ∀ (a : Vs) (r : (Bool ⊕ Unit)), l a = some r → lp (loopAt P 24 2) (Qar a) = some (Qas r)
def Fi (C0 : Pf) (a : Vs) : Option (Vs ⊕ (Bool ⊕ Unit)) := (bif (decide (a.x3 < (((a.x0.length) : Nat) : Int))) then (bif (decide (0 ≤ a.x3)) then ((a.x0[(Int.toNat a.x3)]?).bind fun e1 => ((C0 e1.E).bind fun r2 => (bif (!r2) then (some (.inr (.inl false))) else ((a.x0[(Int.toNat a.x3)]?).bind fun e3 => (bif (decide ((((e3.Ns.length) : Nat) : Int) > 60)) then (some (.inr (.inl false))) else (some (.inl (Vs.mk a.x0 (w64 (a.x3 + 1)))))))))) else none) else (some (.inr (.inr ()))))
def Qfp (P : Pg) (w : Cf) (C0 : Pf) (a : Vs) : Tr (Vs ⊕ (Bool ⊕ Unit)) XS := (.num ((Zu a.x0).length) (a.x0.length) (.as (decide (a.x3 < (((a.x0.length) : Nat) : Int))) (let u85 := (decide (0 ≤ a.x3)); .as u85 (.row ((Zu a.x0)[(Int.toNat a.x3)]?) (a.x0[(Int.toNat a.x3)]?) Zt fun (e1 : Ql) => (.call (QtQ w e1.E) (C0 e1.E) Qkx fun r2 => (.as (!r2) (yesN 7 (!r2) (.yes true (rx Qas (.inl false)))) (noN 2 (!r2) (.yes u85 (.row ((Zu a.x0)[(Int.toNat a.x3)]?) (a.x0[(Int.toNat a.x3)]?) Zt fun (e3 : Ql) => (noN 3 (!r2) (.num ((JE e3.Ns).length) (e3.Ns.length) (noN 2 (!r2) (.as (decide ((((e3.Ns.length) : Nat) : Int) > 60)) (rx Qas (.inl false)) (lf Qar (Vs.mk a.x0 (w64 (a.x3 + 1)))))))))))))) .fail) (rx Qas (.inr ()))))
theorem Qvj (w : Cf) (C0 : Pf) (a : Vs) : (Qfp pp w C0 a).norm (roundT pp G.kd w 0 (G.an 24) (loopAt pp 24 2) (Qar a)) = Qfp pp w C0 a := by kernel_rfl
theorem Qvk (P : Pg) (w : Cf) (lp : Lo) (C0 : Pf) (K0 : QqW w C0) (a : Vs) : (Qfp P w C0 a).ok lp (Sum.elim (fun a => (.norm, Qar a)) Qas) := ⟨(Ql8 _), ⟨rfl, fun q0 => ⟨rfl, fun q1 => fun e1 h => ⟨Qg8 h, fun r2 hr2 => ⟨K0 _ _ hr2, ⟨rfl, fun q2 => Qj 7 (q2) (⟨rfl, rfl⟩), fun q2 => noN_ok 2 (q2) (⟨q1, fun e3 h => ⟨Qg8 h, noN_ok 3 (q2) (⟨(WI _), noN_ok 2 (q2) (⟨rfl, fun q3 => rfl, fun q3 => rfl⟩)⟩)⟩⟩)⟩⟩⟩, fun q1 => trivial⟩, fun q0 => rfl⟩⟩
theorem Qvl {C0 : Nat → Pf} {D0 : Pf} (H0 : Cv1 C0 D0) (a : Vs) : Cv (fun k => Fi (C0 k) a) (Fi D0 a) := by
  unfold Fi
  exact .cond (.cond (.bind (.const _) fun e1 => .bind (H0 _) fun r2 => by exact .const _) cst) cst
def WS.s (k : Nat) (C0 : Pf) : Vs → Option (Bool ⊕ Unit) := iter (Fi C0) k
theorem QtS (w : Cf) (k : Nat) (C0 : Pf) (K0 : QqW w C0) (a : Vs) (r : (Bool ⊕ Unit)) (h : WS.s k C0 a = some r) : loopsF pp G.kd w 0 (G.an 24) k (loopAt pp 24 2) (Qar a) = some (Qas r) :=
  Va (fun a => Qfp pp w C0 a) (fun _ => rfl) (fun a => Qvj w _ a) (fun a => Qvk _ w _ _ K0 a) (fun r => by cases r <;> nofun) h
noncomputable def WS.w (C0 : Pf) : Vs → Option (Bool ⊕ Unit) := loopW (Fi C0)
theorem WS.cv (C0 : Nat → Pf) (D0 : Pf) (H0 : Cv1 C0 D0) (a : Vs) : Cv (fun k => WS.s k (C0 k) a) (WS.w D0 a) := Cv.iter (fun a => Qvl H0 a) a
def QcE (L0 : S6) (a0 : (List Ql)) : Option Bool := ((L0 (Vs.mk a0 (0 : Int))).bind fun x => Sum.elim (fun (o1 : Bool) => (some o1)) (fun (o2 : Unit) => (some true)) x)
def QkB (P : Pg) (w : Cf) (L0 : S6) (a0 : (List Ql)) : Tr Bool AH := (.loop2 (loopAt P 24 2) (Qar (Vs.mk a0 i0)) (L0 (Vs.mk a0 i0)) QmT QmU (fun (o1 : Bool) => (rt QhB o1)) (fun (o2 : Unit) => (rt QhB true)))
theorem QyU (w : Cf) (L0 : S6) (a0 : (List Ql)) : (QkB pp w L0 a0).norm (bodyT pp w G 24 (QkA a0).1 (QkA a0).2) = QkB pp w L0 a0 := by kernel_rfl
theorem QyV (P : Pg) (w : Cf) (lp : Lo) (L0 : S6) (N0 : QwS P lp L0) (a0 : (List Ql)) : (QkB P w L0 a0).ok lp QhB := ⟨fun o1 ho1 => ⟨N0 _ (.inl _) ho1, rfl⟩, fun o2 ho2 => ⟨N0 _ (.inr _) ho2, rfl⟩⟩
theorem QyW {L0 : Nat → S6} {M0 : S6} (N0 : Cv1 L0 M0) (a0 : (List Ql)) : Cv (fun k => QcE (L0 k) a0) (QcE M0 a0) := by
  unfold QcE
  exact .bind (N0 _) fun x => .sum (fun o1 => by exact .const _) (fun o2 => by exact .const _) x
def EZ.s : Nat → (List Ql) → Option Bool
  | 0, _ => none
  | k + 1, a0 => QcE (WS.s k (GC.s k)) a0
theorem EZ.ok : ∀ (k : Nat), QvS (ev k) (EZ.s k)
  | 0, _, _, h => (nomatch h)
  | k + 1, a0, r, h => fn_ok rfl (QkB pp (ev k) (WS.s k (GC.s k)) a0) (QyU _ _ a0) (QyV _ _ _ _ (QtS _ k _ (GC.ok k)) a0) h
noncomputable def WS : Vs → Option (Bool ⊕ Unit) := WS.w GC
theorem WS.eq (a : Vs) : WS a = (Fi GC a).bind (Sum.elim WS some) := UN _ _
noncomputable def EZ (a0 : (List Ql)) : Option Bool := QcE WS a0
theorem EZ.cv (a0 : (List Ql)) : Cv (fun k => EZ.s k a0) (EZ a0) := .un rfl (QyW (WS.cv (fun k => GC.s k) GC GC.cv) a0)
theorem EZ.eq (a0 : (List Ql)) : EZ a0 = QcE WS a0 := rfl
def Qc2 (r : (QG × Int × Bool)) : AV × Heap := (.tup [.agg (Qkd r.1), xi r.2.1, xo r.2.2], [])
abbrev Z9 := Int → ByteArray → Option (QG × Int × Bool)
abbrev Qic (a0 : Int) (a1 : ByteArray) : List AV × Heap := ([xi a0, xs a1], [])
abbrev QmV (w : Cf) (a0 : Int) (a1 : ByteArray) : Option AH := w 58 (Qic a0 a1).1 (Qic a0 a1).2
abbrev QoJ (w : Cf) (c : Z9) : Prop := ∀ (a0 : Int) (a1 : ByteArray) (r : (QG × Int × Bool)), c a0 a1 = some r → QmV w a0 a1 = some (Qc2 r)
structure QA where
  x0 : Int
  x1 : ByteArray
  x7 : Int
  x8 : Int
  x10 : Int
  x11 : Int
  h0 : QG
  h1_0 : ByteArray
  h1_1 : ByteArray
  h1_2 : ByteArray
structure QU where
  x5 : Int
  x6 : Bool
  h0 : QG
def VI (a : QA) : St := { n := 56, nx := 2, env := [(0, xi a.x0), (1, xs a.x1), (4, .ptr 0 0), (7, xi a.x7), (8, xi a.x8), (9, .ptr 1 0), (10, xi a.x10), (11, xi a.x11)], heap := [(0, .box [] (Qkd a.h0)), (1, .box [] [xs a.h1_0, xs a.h1_1, xs a.h1_2])] }
def Qk6 (a : QU) : Ex × St := (.ret, { n := 56, nx := 1, env := [(4, .ptr 0 0), (5, xi a.x5), (6, xo a.x6)], heap := [(0, .box [] (Qkd a.h0))] })
def Qk7 (a : QG) : Ex × St := (.exit 0, { n := 56, nx := 1, env := [(4, .ptr 0 0)], heap := [(0, .box [] (Qkd a))] })
def Wh (a : (QU ⊕ QG)) : Ex × St := Sum.elim Qk6 Qk7 a
abbrev P7 := QA → Option (QU ⊕ QG)
abbrev Qvm (P : Pg) (lp : Lo) (l : P7) : Prop := ∀ (a : QA) (r : (QU ⊕ QG)), l a = some r → lp (loopAt P 58 5) (VI a) = some (Wh r)
def SH (a : QA) : Option (QA ⊕ (QU ⊕ QG)) := (bif (decide (a.x11 < 1212)) then (bif (decide (0 ≤ a.x11 ∧ a.x11 < ((Qm.size : Nat) : Int))) then (bif (((Qm.data.getD (Int.toNat a.x11) 0).toNat : Int) != 58) then (bif (((Qm.data.getD (Int.toNat a.x11) 0).toNat : Int) != 124) then (some (.inl (QA.mk a.x0 a.x1 a.x7 a.x8 a.x10 (w64 (a.x11 + 1)) a.h0 a.h1_0 a.h1_1 a.h1_2))) else (bif (decide (0 ≤ a.x8 ∧ a.x8 ≤ a.x11 ∧ a.x11 ≤ ((Qm.size : Nat) : Int))) then (bif (decide (a.x10 = 0)) then (bif (((Qm.data.getD (Int.toNat a.x11) 0).toNat : Int) == 124) then (bif (a.x7 == a.x0) then (some (.inr (.inl (QU.mk a.x7 true (QG.mk (Qm.extract (Int.toNat a.x8) (Int.toNat a.x11)) a.h1_1 a.h1_2))))) else (bif (eqS (Qm.extract (Int.toNat a.x8) (Int.toNat a.x11)) a.x1) then (some (.inr (.inl (QU.mk a.x7 true (QG.mk (Qm.extract (Int.toNat a.x8) (Int.toNat a.x11)) a.h1_1 a.h1_2))))) else (some (.inl (QA.mk a.x0 a.x1 (w64 (a.x7 + 1)) (w64 (a.x11 + 1)) (0 : Int) (w64 (a.x11 + 1)) a.h0 (Qm.extract (Int.toNat a.x8) (Int.toNat a.x11)) a.h1_1 a.h1_2))))) else (some (.inl (QA.mk a.x0 a.x1 a.x7 (w64 (a.x11 + 1)) (w64 (a.x10 + 1)) (w64 (a.x11 + 1)) a.h0 (Qm.extract (Int.toNat a.x8) (Int.toNat a.x11)) a.h1_1 a.h1_2)))) else (bif (decide (a.x10 = 1)) then (bif (((Qm.data.getD (Int.toNat a.x11) 0).toNat : Int) == 124) then (bif (a.x7 == a.x0) then (some (.inr (.inl (QU.mk a.x7 true (QG.mk a.h1_0 (Qm.extract (Int.toNat a.x8) (Int.toNat a.x11)) a.h1_2))))) else (bif (eqS a.h1_0 a.x1) then (some (.inr (.inl (QU.mk a.x7 true (QG.mk a.h1_0 (Qm.extract (Int.toNat a.x8) (Int.toNat a.x11)) a.h1_2))))) else (some (.inl (QA.mk a.x0 a.x1 (w64 (a.x7 + 1)) (w64 (a.x11 + 1)) (0 : Int) (w64 (a.x11 + 1)) a.h0 a.h1_0 (Qm.extract (Int.toNat a.x8) (Int.toNat a.x11)) a.h1_2))))) else (some (.inl (QA.mk a.x0 a.x1 a.x7 (w64 (a.x11 + 1)) (w64 (a.x10 + 1)) (w64 (a.x11 + 1)) a.h0 a.h1_0 (Qm.extract (Int.toNat a.x8) (Int.toNat a.x11)) a.h1_2)))) else (bif (decide (a.x10 = 2)) then (bif (((Qm.data.getD (Int.toNat a.x11) 0).toNat : Int) == 124) then (bif (a.x7 == a.x0) then (some (.inr (.inl (QU.mk a.x7 true (QG.mk a.h1_0 a.h1_1 (Qm.extract (Int.toNat a.x8) (Int.toNat a.x11))))))) else (bif (eqS a.h1_0 a.x1) then (some (.inr (.inl (QU.mk a.x7 true (QG.mk a.h1_0 a.h1_1 (Qm.extract (Int.toNat a.x8) (Int.toNat a.x11))))))) else (some (.inl (QA.mk a.x0 a.x1 (w64 (a.x7 + 1)) (w64 (a.x11 + 1)) (0 : Int) (w64 (a.x11 + 1)) a.h0 a.h1_0 a.h1_1 (Qm.extract (Int.toNat a.x8) (Int.toNat a.x11))))))) else (some (.inl (QA.mk a.x0 a.x1 a.x7 (w64 (a.x11 + 1)) (w64 (a.x10 + 1)) (w64 (a.x11 + 1)) a.h0 a.h1_0 a.h1_1 (Qm.extract (Int.toNat a.x8) (Int.toNat a.x11)))))) else none))) else none)) else (bif (decide (0 ≤ a.x8 ∧ a.x8 ≤ a.x11 ∧ a.x11 ≤ ((Qm.size : Nat) : Int))) then (bif (decide (a.x10 = 0)) then (bif (((Qm.data.getD (Int.toNat a.x11) 0).toNat : Int) == 124) then (bif (a.x7 == a.x0) then (some (.inr (.inl (QU.mk a.x7 true (QG.mk (Qm.extract (Int.toNat a.x8) (Int.toNat a.x11)) a.h1_1 a.h1_2))))) else (bif (eqS (Qm.extract (Int.toNat a.x8) (Int.toNat a.x11)) a.x1) then (some (.inr (.inl (QU.mk a.x7 true (QG.mk (Qm.extract (Int.toNat a.x8) (Int.toNat a.x11)) a.h1_1 a.h1_2))))) else (some (.inl (QA.mk a.x0 a.x1 (w64 (a.x7 + 1)) (w64 (a.x11 + 1)) (0 : Int) (w64 (a.x11 + 1)) a.h0 (Qm.extract (Int.toNat a.x8) (Int.toNat a.x11)) a.h1_1 a.h1_2))))) else (some (.inl (QA.mk a.x0 a.x1 a.x7 (w64 (a.x11 + 1)) (w64 (a.x10 + 1)) (w64 (a.x11 + 1)) a.h0 (Qm.extract (Int.toNat a.x8) (Int.toNat a.x11)) a.h1_1 a.h1_2)))) else (bif (decide (a.x10 = 1)) then (bif (((Qm.data.getD (Int.toNat a.x11) 0).toNat : Int) == 124) then (bif (a.x7 == a.x0) then (some (.inr (.inl (QU.mk a.x7 true (QG.mk a.h1_0 (Qm.extract (Int.toNat a.x8) (Int.toNat a.x11)) a.h1_2))))) else (bif (eqS a.h1_0 a.x1) then (some (.inr (.inl (QU.mk a.x7 true (QG.mk a.h1_0 (Qm.extract (Int.toNat a.x8) (Int.toNat a.x11)) a.h1_2))))) else (some (.inl (QA.mk a.x0 a.x1 (w64 (a.x7 + 1)) (w64 (a.x11 + 1)) (0 : Int) (w64 (a.x11 + 1)) a.h0 a.h1_0 (Qm.extract (Int.toNat a.x8) (Int.toNat a.x11)) a.h1_2))))) else (some (.inl (QA.mk a.x0 a.x1 a.x7 (w64 (a.x11 + 1)) (w64 (a.x10 + 1)) (w64 (a.x11 + 1)) a.h0 a.h1_0 (Qm.extract (Int.toNat a.x8) (Int.toNat a.x11)) a.h1_2)))) else (bif (decide (a.x10 = 2)) then (bif (((Qm.data.getD (Int.toNat a.x11) 0).toNat : Int) == 124) then (bif (a.x7 == a.x0) then (some (.inr (.inl (QU.mk a.x7 true (QG.mk a.h1_0 a.h1_1 (Qm.extract (Int.toNat a.x8) (Int.toNat a.x11))))))) else (bif (eqS a.h1_0 a.x1) then (some (.inr (.inl (QU.mk a.x7 true (QG.mk a.h1_0 a.h1_1 (Qm.extract (Int.toNat a.x8) (Int.toNat a.x11))))))) else (some (.inl (QA.mk a.x0 a.x1 (w64 (a.x7 + 1)) (w64 (a.x11 + 1)) (0 : Int) (w64 (a.x11 + 1)) a.h0 a.h1_0 a.h1_1 (Qm.extract (Int.toNat a.x8) (Int.toNat a.x11))))))) else (some (.inl (QA.mk a.x0 a.x1 a.x7 (w64 (a.x11 + 1)) (w64 (a.x10 + 1)) (w64 (a.x11 + 1)) a.h0 a.h1_0 a.h1_1 (Qm.extract (Int.toNat a.x8) (Int.toNat a.x11)))))) else none))) else none)) else none) else (some (.inr (.inr a.h0))))
def Qd5 (P : Pg) (w : Cf) (a : QA) : Tr (QA ⊕ (QU ⊕ QG)) XS := (.as (decide (a.x11 < 1212)) (let u93 := (in1 a.x11 (zz Qm)); .as u93 (let u92 := ((gb Qm a.x11) != 58); .as u92 (.yes u92 (.yes u93 (yesN 2 u92 (.as ((gb Qm a.x11) != 124) (lf VI (QA.mk a.x0 a.x1 a.x7 a.x8 a.x10 (w64 (a.x11 + 1)) a.h0 a.h1_0 a.h1_1 a.h1_2)) (.as (in2 a.x8 a.x11 (zz Qm)) (.ask (decide (a.x10 = ((0 : Nat) : Int))) (decide (a.x10 = 0)) (.yes u93 (.as ((gb Qm a.x11) == 124) (let u86 := (a.x7 == a.x0); .as u86 (yesN 4 u86 (.yes true (.yes (decide (i0 = ((0 : Nat) : Int))) (.no (decide ((zi 1) = ((0 : Nat) : Int))) (.yes (decide ((zi 1) = ((1 : Nat) : Int))) (.no (decide ((zi 2) = ((0 : Nat) : Int))) (.no (decide ((zi 2) = ((1 : Nat) : Int))) (.yes (decide ((zi 2) = ((2 : Nat) : Int))) (rx Wh (.inl (QU.mk a.x7 true (QG.mk (cu Qm a.x8 a.x11) a.h1_1 a.h1_2)))))))))))) (.yes (decide (i0 = ((0 : Nat) : Int))) (noN 4 u86 (.as (eqS (cu Qm a.x8 a.x11) a.x1) (.yes (decide (i0 = ((0 : Nat) : Int))) (.no (decide ((zi 1) = ((0 : Nat) : Int))) (.yes (decide ((zi 1) = ((1 : Nat) : Int))) (.no (decide ((zi 2) = ((0 : Nat) : Int))) (.no (decide ((zi 2) = ((1 : Nat) : Int))) (.yes (decide ((zi 2) = ((2 : Nat) : Int))) (rx Wh (.inl (QU.mk a.x7 true (QG.mk (cu Qm a.x8 a.x11) a.h1_1 a.h1_2)))))))))) (lf VI (QA.mk a.x0 a.x1 (w64 (a.x7 + 1)) (w64 (a.x11 + 1)) i0 (w64 (a.x11 + 1)) a.h0 (cu Qm a.x8 a.x11) a.h1_1 a.h1_2)))))) (lf VI (QA.mk a.x0 a.x1 a.x7 (w64 (a.x11 + 1)) (w64 (a.x10 + 1)) (w64 (a.x11 + 1)) a.h0 (cu Qm a.x8 a.x11) a.h1_1 a.h1_2)))) (.ask (decide (a.x10 = ((1 : Nat) : Int))) (decide (a.x10 = 1)) (.yes u93 (.as ((gb Qm a.x11) == 124) (let u87 := (a.x7 == a.x0); .as u87 (yesN 4 u87 (.yes true (.yes (decide (i0 = ((0 : Nat) : Int))) (.no (decide ((zi 1) = ((0 : Nat) : Int))) (.yes (decide ((zi 1) = ((1 : Nat) : Int))) (.no (decide ((zi 2) = ((0 : Nat) : Int))) (.no (decide ((zi 2) = ((1 : Nat) : Int))) (.yes (decide ((zi 2) = ((2 : Nat) : Int))) (rx Wh (.inl (QU.mk a.x7 true (QG.mk a.h1_0 (cu Qm a.x8 a.x11) a.h1_2)))))))))))) (.yes (decide (i0 = ((0 : Nat) : Int))) (noN 4 u87 (.as (eqS a.h1_0 a.x1) (.yes (decide (i0 = ((0 : Nat) : Int))) (.no (decide ((zi 1) = ((0 : Nat) : Int))) (.yes (decide ((zi 1) = ((1 : Nat) : Int))) (.no (decide ((zi 2) = ((0 : Nat) : Int))) (.no (decide ((zi 2) = ((1 : Nat) : Int))) (.yes (decide ((zi 2) = ((2 : Nat) : Int))) (rx Wh (.inl (QU.mk a.x7 true (QG.mk a.h1_0 (cu Qm a.x8 a.x11) a.h1_2)))))))))) (lf VI (QA.mk a.x0 a.x1 (w64 (a.x7 + 1)) (w64 (a.x11 + 1)) i0 (w64 (a.x11 + 1)) a.h0 a.h1_0 (cu Qm a.x8 a.x11) a.h1_2)))))) (lf VI (QA.mk a.x0 a.x1 a.x7 (w64 (a.x11 + 1)) (w64 (a.x10 + 1)) (w64 (a.x11 + 1)) a.h0 a.h1_0 (cu Qm a.x8 a.x11) a.h1_2)))) (.ask (decide (a.x10 = ((2 : Nat) : Int))) (decide (a.x10 = 2)) (.yes u93 (.as ((gb Qm a.x11) == 124) (let u88 := (a.x7 == a.x0); .as u88 (yesN 4 u88 (.yes true (.yes (decide (i0 = ((0 : Nat) : Int))) (.no (decide ((zi 1) = ((0 : Nat) : Int))) (.yes (decide ((zi 1) = ((1 : Nat) : Int))) (.no (decide ((zi 2) = ((0 : Nat) : Int))) (.no (decide ((zi 2) = ((1 : Nat) : Int))) (.yes (decide ((zi 2) = ((2 : Nat) : Int))) (rx Wh (.inl (QU.mk a.x7 true (QG.mk a.h1_0 a.h1_1 (cu Qm a.x8 a.x11))))))))))))) (.yes (decide (i0 = ((0 : Nat) : Int))) (noN 4 u88 (.as (eqS a.h1_0 a.x1) (.yes (decide (i0 = ((0 : Nat) : Int))) (.no (decide ((zi 1) = ((0 : Nat) : Int))) (.yes (decide ((zi 1) = ((1 : Nat) : Int))) (.no (decide ((zi 2) = ((0 : Nat) : Int))) (.no (decide ((zi 2) = ((1 : Nat) : Int))) (.yes (decide ((zi 2) = ((2 : Nat) : Int))) (rx Wh (.inl (QU.mk a.x7 true (QG.mk a.h1_0 a.h1_1 (cu Qm a.x8 a.x11))))))))))) (lf VI (QA.mk a.x0 a.x1 (w64 (a.x7 + 1)) (w64 (a.x11 + 1)) i0 (w64 (a.x11 + 1)) a.h0 a.h1_0 a.h1_1 (cu Qm a.x8 a.x11))))))) (lf VI (QA.mk a.x0 a.x1 a.x7 (w64 (a.x11 + 1)) (w64 (a.x10 + 1)) (w64 (a.x11 + 1)) a.h0 a.h1_0 a.h1_1 (cu Qm a.x8 a.x11))))) .fail))) .fail))))) (noN 3 u92 (.no false (.as (in2 a.x8 a.x11 (zz Qm)) (.ask (decide (a.x10 = ((0 : Nat) : Int))) (decide (a.x10 = 0)) (.yes u93 (.as ((gb Qm a.x11) == 124) (let u89 := (a.x7 == a.x0); .as u89 (yesN 4 u89 (.yes true (.yes (decide (i0 = ((0 : Nat) : Int))) (.no (decide ((zi 1) = ((0 : Nat) : Int))) (.yes (decide ((zi 1) = ((1 : Nat) : Int))) (.no (decide ((zi 2) = ((0 : Nat) : Int))) (.no (decide ((zi 2) = ((1 : Nat) : Int))) (.yes (decide ((zi 2) = ((2 : Nat) : Int))) (rx Wh (.inl (QU.mk a.x7 true (QG.mk (cu Qm a.x8 a.x11) a.h1_1 a.h1_2)))))))))))) (.yes (decide (i0 = ((0 : Nat) : Int))) (noN 4 u89 (.as (eqS (cu Qm a.x8 a.x11) a.x1) (.yes (decide (i0 = ((0 : Nat) : Int))) (.no (decide ((zi 1) = ((0 : Nat) : Int))) (.yes (decide ((zi 1) = ((1 : Nat) : Int))) (.no (decide ((zi 2) = ((0 : Nat) : Int))) (.no (decide ((zi 2) = ((1 : Nat) : Int))) (.yes (decide ((zi 2) = ((2 : Nat) : Int))) (rx Wh (.inl (QU.mk a.x7 true (QG.mk (cu Qm a.x8 a.x11) a.h1_1 a.h1_2)))))))))) (lf VI (QA.mk a.x0 a.x1 (w64 (a.x7 + 1)) (w64 (a.x11 + 1)) i0 (w64 (a.x11 + 1)) a.h0 (cu Qm a.x8 a.x11) a.h1_1 a.h1_2)))))) (lf VI (QA.mk a.x0 a.x1 a.x7 (w64 (a.x11 + 1)) (w64 (a.x10 + 1)) (w64 (a.x11 + 1)) a.h0 (cu Qm a.x8 a.x11) a.h1_1 a.h1_2)))) (.ask (decide (a.x10 = ((1 : Nat) : Int))) (decide (a.x10 = 1)) (.yes u93 (.as ((gb Qm a.x11) == 124) (let u90 := (a.x7 == a.x0); .as u90 (yesN 4 u90 (.yes true (.yes (decide (i0 = ((0 : Nat) : Int))) (.no (decide ((zi 1) = ((0 : Nat) : Int))) (.yes (decide ((zi 1) = ((1 : Nat) : Int))) (.no (decide ((zi 2) = ((0 : Nat) : Int))) (.no (decide ((zi 2) = ((1 : Nat) : Int))) (.yes (decide ((zi 2) = ((2 : Nat) : Int))) (rx Wh (.inl (QU.mk a.x7 true (QG.mk a.h1_0 (cu Qm a.x8 a.x11) a.h1_2)))))))))))) (.yes (decide (i0 = ((0 : Nat) : Int))) (noN 4 u90 (.as (eqS a.h1_0 a.x1) (.yes (decide (i0 = ((0 : Nat) : Int))) (.no (decide ((zi 1) = ((0 : Nat) : Int))) (.yes (decide ((zi 1) = ((1 : Nat) : Int))) (.no (decide ((zi 2) = ((0 : Nat) : Int))) (.no (decide ((zi 2) = ((1 : Nat) : Int))) (.yes (decide ((zi 2) = ((2 : Nat) : Int))) (rx Wh (.inl (QU.mk a.x7 true (QG.mk a.h1_0 (cu Qm a.x8 a.x11) a.h1_2)))))))))) (lf VI (QA.mk a.x0 a.x1 (w64 (a.x7 + 1)) (w64 (a.x11 + 1)) i0 (w64 (a.x11 + 1)) a.h0 a.h1_0 (cu Qm a.x8 a.x11) a.h1_2)))))) (lf VI (QA.mk a.x0 a.x1 a.x7 (w64 (a.x11 + 1)) (w64 (a.x10 + 1)) (w64 (a.x11 + 1)) a.h0 a.h1_0 (cu Qm a.x8 a.x11) a.h1_2)))) (.ask (decide (a.x10 = ((2 : Nat) : Int))) (decide (a.x10 = 2)) (.yes u93 (.as ((gb Qm a.x11) == 124) (let u91 := (a.x7 == a.x0); .as u91 (yesN 4 u91 (.yes true (.yes (decide (i0 = ((0 : Nat) : Int))) (.no (decide ((zi 1) = ((0 : Nat) : Int))) (.yes (decide ((zi 1) = ((1 : Nat) : Int))) (.no (decide ((zi 2) = ((0 : Nat) : Int))) (.no (decide ((zi 2) = ((1 : Nat) : Int))) (.yes (decide ((zi 2) = ((2 : Nat) : Int))) (rx Wh (.inl (QU.mk a.x7 true (QG.mk a.h1_0 a.h1_1 (cu Qm a.x8 a.x11))))))))))))) (.yes (decide (i0 = ((0 : Nat) : Int))) (noN 4 u91 (.as (eqS a.h1_0 a.x1) (.yes (decide (i0 = ((0 : Nat) : Int))) (.no (decide ((zi 1) = ((0 : Nat) : Int))) (.yes (decide ((zi 1) = ((1 : Nat) : Int))) (.no (decide ((zi 2) = ((0 : Nat) : Int))) (.no (decide ((zi 2) = ((1 : Nat) : Int))) (.yes (decide ((zi 2) = ((2 : Nat) : Int))) (rx Wh (.inl (QU.mk a.x7 true (QG.mk a.h1_0 a.h1_1 (cu Qm a.x8 a.x11))))))))))) (lf VI (QA.mk a.x0 a.x1 (w64 (a.x7 + 1)) (w64 (a.x11 + 1)) i0 (w64 (a.x11 + 1)) a.h0 a.h1_0 a.h1_1 (cu Qm a.x8 a.x11))))))) (lf VI (QA.mk a.x0 a.x1 a.x7 (w64 (a.x11 + 1)) (w64 (a.x10 + 1)) (w64 (a.x11 + 1)) a.h0 a.h1_0 a.h1_1 (cu Qm a.x8 a.x11))))) .fail))) .fail)))) .fail) (rx Wh (.inr a.h0)))
theorem QtT (w : Cf) (a : QA) : (Qd5 pp w a).norm (roundT pp G.kd w 0 (G.an 58) (loopAt pp 58 5) (VI a)) = Qd5 pp w a := by kernel_rfl
theorem QtU (P : Pg) (w : Cf) (lp : Lo) (a : QA) : (Qd5 P w a).ok lp (Sum.elim (fun a => (.norm, VI a)) Wh) := ⟨rfl, fun q0 => ⟨rfl, fun q1 => ⟨rfl, fun q2 => ⟨q2, ⟨q1, Qj 2 (q2) (⟨rfl, fun q3 => rfl, fun q3 => ⟨rfl, fun q4 => ⟨rfl, fun q5 => ⟨q1, ⟨rfl, fun q6 => ⟨rfl, fun q7 => Qj 4 (q7) (⟨rfl, ⟨rfl, ⟨rfl, ⟨rfl, ⟨rfl, ⟨rfl, ⟨rfl, rfl⟩⟩⟩⟩⟩⟩⟩), fun q7 => ⟨rfl, noN_ok 4 (q7) (⟨rfl, fun q8 => ⟨rfl, ⟨rfl, ⟨rfl, ⟨rfl, ⟨rfl, ⟨rfl, rfl⟩⟩⟩⟩⟩⟩, fun q8 => rfl⟩)⟩⟩, fun q6 => rfl⟩⟩, fun q5 => ⟨rfl, fun q6 => ⟨q1, ⟨rfl, fun q7 => ⟨rfl, fun q8 => Qj 4 (q8) (⟨rfl, ⟨rfl, ⟨rfl, ⟨rfl, ⟨rfl, ⟨rfl, ⟨rfl, rfl⟩⟩⟩⟩⟩⟩⟩), fun q8 => ⟨rfl, noN_ok 4 (q8) (⟨rfl, fun q9 => ⟨rfl, ⟨rfl, ⟨rfl, ⟨rfl, ⟨rfl, ⟨rfl, rfl⟩⟩⟩⟩⟩⟩, fun q9 => rfl⟩)⟩⟩, fun q7 => rfl⟩⟩, fun q6 => ⟨rfl, fun q7 => ⟨q1, ⟨rfl, fun q8 => ⟨rfl, fun q9 => Qj 4 (q9) (⟨rfl, ⟨rfl, ⟨rfl, ⟨rfl, ⟨rfl, ⟨rfl, ⟨rfl, rfl⟩⟩⟩⟩⟩⟩⟩), fun q9 => ⟨rfl, noN_ok 4 (q9) (⟨rfl, fun q10 => ⟨rfl, ⟨rfl, ⟨rfl, ⟨rfl, ⟨rfl, ⟨rfl, rfl⟩⟩⟩⟩⟩⟩, fun q10 => rfl⟩)⟩⟩, fun q8 => rfl⟩⟩, fun q7 => trivial⟩⟩⟩, fun q4 => trivial⟩⟩)⟩⟩, fun q2 => noN_ok 3 (q2) (⟨rfl, ⟨rfl, fun q3 => ⟨rfl, fun q4 => ⟨q1, ⟨rfl, fun q5 => ⟨rfl, fun q6 => Qj 4 (q6) (⟨rfl, ⟨rfl, ⟨rfl, ⟨rfl, ⟨rfl, ⟨rfl, ⟨rfl, rfl⟩⟩⟩⟩⟩⟩⟩), fun q6 => ⟨rfl, noN_ok 4 (q6) (⟨rfl, fun q7 => ⟨rfl, ⟨rfl, ⟨rfl, ⟨rfl, ⟨rfl, ⟨rfl, rfl⟩⟩⟩⟩⟩⟩, fun q7 => rfl⟩)⟩⟩, fun q5 => rfl⟩⟩, fun q4 => ⟨rfl, fun q5 => ⟨q1, ⟨rfl, fun q6 => ⟨rfl, fun q7 => Qj 4 (q7) (⟨rfl, ⟨rfl, ⟨rfl, ⟨rfl, ⟨rfl, ⟨rfl, ⟨rfl, rfl⟩⟩⟩⟩⟩⟩⟩), fun q7 => ⟨rfl, noN_ok 4 (q7) (⟨rfl, fun q8 => ⟨rfl, ⟨rfl, ⟨rfl, ⟨rfl, ⟨rfl, ⟨rfl, rfl⟩⟩⟩⟩⟩⟩, fun q8 => rfl⟩)⟩⟩, fun q6 => rfl⟩⟩, fun q5 => ⟨rfl, fun q6 => ⟨q1, ⟨rfl, fun q7 => ⟨rfl, fun q8 => Qj 4 (q8) (⟨rfl, ⟨rfl, ⟨rfl, ⟨rfl, ⟨rfl, ⟨rfl, ⟨rfl, rfl⟩⟩⟩⟩⟩⟩⟩), fun q8 => ⟨rfl, noN_ok 4 (q8) (⟨rfl, fun q9 => ⟨rfl, ⟨rfl, ⟨rfl, ⟨rfl, ⟨rfl, ⟨rfl, rfl⟩⟩⟩⟩⟩⟩, fun q9 => rfl⟩)⟩⟩, fun q7 => rfl⟩⟩, fun q6 => trivial⟩⟩⟩, fun q3 => trivial⟩⟩)⟩, fun q1 => trivial⟩, fun q0 => rfl⟩
def Vn.s (k : Nat) : QA → Option (QU ⊕ QG) := iter (SH ) k
theorem Qsr (w : Cf) (k : Nat) (a : QA) (r : (QU ⊕ QG)) (h : Vn.s k a = some r) : loopsF pp G.kd w 0 (G.an 58) k (loopAt pp 58 5) (VI a) = some (Wh r) :=
  Va (fun a => Qd5 pp w a) (fun _ => rfl) (fun a => QtT w a) (fun a => QtU _ w _ a) (fun r => by cases r <;> nofun) h
noncomputable def Vn.w : QA → Option (QU ⊕ QG) := loopW (SH )
theorem Vn.cv (a : QA) : Cv (fun k => Vn.s k a) (Vn.w a) := Cv.iter (fun a => by exact .const _) a
def Qa9 (L0 : P7) (a0 : Int) (a1 : ByteArray) : Option (QG × Int × Bool) := ((L0 (QA.mk a0 a1 (0 : Int) (0 : Int) (0 : Int) (0 : Int) (QG.mk s_ s_ s_) s_ s_ s_)).bind fun x => Sum.elim (fun (o1 : QU) => (some (o1.h0, o1.x5, o1.x6))) (fun (o2 : QG) => (some ((QG.mk s_ s_ s_), (0 : Int), false))) x)
def Qid (P : Pg) (w : Cf) (L0 : P7) (a0 : Int) (a1 : ByteArray) : Tr (QG × Int × Bool) AH := (.loop2 (loopAt P 58 5) (VI (QA.mk a0 a1 i0 i0 i0 i0 (QG.mk s_ s_ s_) s_ s_ s_)) (L0 (QA.mk a0 a1 i0 i0 i0 i0 (QG.mk s_ s_ s_) s_ s_ s_)) Qk6 Qk7 (fun (o1 : QU) => (rt Qc2 (o1.h0, o1.x5, o1.x6))) (fun (o2 : QG) => (rt Qc2 ((QG.mk s_ s_ s_), i0, false))))
theorem QxP (w : Cf) (L0 : P7) (a0 : Int) (a1 : ByteArray) : (Qid pp w L0 a0 a1).norm (bodyT pp w G 58 (Qic a0 a1).1 (Qic a0 a1).2) = Qid pp w L0 a0 a1 := by kernel_rfl
theorem QxQ (P : Pg) (w : Cf) (lp : Lo) (L0 : P7) (N0 : Qvm P lp L0) (a0 : Int) (a1 : ByteArray) : (Qid P w L0 a0 a1).ok lp Qc2 := ⟨fun o1 ho1 => ⟨N0 _ (.inl _) ho1, rfl⟩, fun o2 ho2 => ⟨N0 _ (.inr _) ho2, rfl⟩⟩
theorem QxR {L0 : Nat → P7} {M0 : P7} (N0 : Cv1 L0 M0) (a0 : Int) (a1 : ByteArray) : Cv (fun k => Qa9 (L0 k) a0 a1) (Qa9 M0 a0 a1) := by
  unfold Qa9
  exact .bind (N0 _) fun x => .sum (fun o1 => by exact .const _) (fun o2 => by exact .const _) x
def W3.s : Nat → Int → ByteArray → Option (QG × Int × Bool)
  | 0, _, _ => none
  | k + 1, a0, a1 => Qa9 (Vn.s k) a0 a1
theorem W3.ok : ∀ (k : Nat), QoJ (ev k) (W3.s k)
  | 0, _, _, _, h => (nomatch h)
  | k + 1, a0, a1, r, h => fn_ok rfl (Qid pp (ev k) (Vn.s k) a0 a1) (QxP _ _ a0 a1) (QxQ _ _ _ _ (Qsr _ k) a0 a1) h
noncomputable def Vn : QA → Option (QU ⊕ QG) := Vn.w
theorem Vn.eq (a : QA) : Vn a = (SH a).bind (Sum.elim Vn some) := UN _ _
noncomputable def W3 (a0 : Int) (a1 : ByteArray) : Option (QG × Int × Bool) := Qa9 Vn a0 a1
theorem W3.cv (a0 : Int) (a1 : ByteArray) : Cv (fun k => W3.s k a0 a1) (W3 a0 a1) := .un rfl (QxR (Vn.cv) a0 a1)
theorem W3.eq (a0 : Int) (a1 : ByteArray) : W3 a0 a1 = Qa9 Vn a0 a1 := rfl
def QgG (r : ByteArray) : AV × Heap := (xs r, [])
abbrev Qba := Int → Option ByteArray
abbrev QgH (a0 : Int) : List AV × Heap := ([xi a0], [])
abbrev QpV (w : Cf) (a0 : Int) : Option AH := w 37 (QgH a0).1 (QgH a0).2
abbrev QrD (w : Cf) (c : Qba) : Prop := ∀ (a0 : Int) (r : ByteArray), c a0 = some r → QpV w a0 = some (QgG r)
def S7 (C0 : Z9) (a0 : Int) : Option ByteArray := ((C0 a0 h_20).bind fun r1 => (some r1.1.Kinds))
def QgI (P : Pg) (w : Cf) (C0 : Z9) (a0 : Int) : Tr ByteArray AH := (.call (QmV w a0 h_20) (C0 a0 h_20) Qc2 fun r1 => (rt QgG r1.1.Kinds))
theorem QwT (w : Cf) (C0 : Z9) (a0 : Int) : (QgI pp w C0 a0).norm (bodyT pp w G 37 (QgH a0).1 (QgH a0).2) = QgI pp w C0 a0 := by kernel_rfl
theorem QwU (P : Pg) (w : Cf) (lp : Lo) (C0 : Z9) (K0 : QoJ w C0) (a0 : Int) : (QgI P w C0 a0).ok lp QgG := fun r1 hr1 => ⟨K0 _ _ _ hr1, rfl⟩
theorem QwV {C0 : Nat → Z9} {D0 : Z9} (H0 : Cv2 C0 D0) (a0 : Int) : Cv (fun k => S7 (C0 k) a0) (S7 D0 a0) := by
  unfold S7
  exact .bind (H0 _ _) fun r1 => by exact .const _
def Yg.s : Nat → Int → Option ByteArray
  | 0, _ => none
  | k + 1, a0 => S7 (W3.s k) a0
theorem Yg.ok : ∀ (k : Nat), QrD (ev k) (Yg.s k)
  | 0, _, _, h => (nomatch h)
  | k + 1, a0, r, h => fn_ok rfl (QgI pp (ev k) (W3.s k) a0) (QwT _ _ a0) (QwU _ _ _ _ (W3.ok k) a0) h
noncomputable def Yg (a0 : Int) : Option ByteArray := S7 W3 a0
theorem Yg.cv (a0 : Int) : Cv (fun k => Yg.s k a0) (Yg a0) := .un rfl (QwV W3.cv a0)
theorem Yg.eq (a0 : Int) : Yg a0 = S7 W3 a0 := rfl
def QgJ (r : (List ByteArray)) : AV × Heap := (.sl (Qh r), [])
abbrev Qbb := ByteArray → Option (List ByteArray)
abbrev QgK (a0 : ByteArray) : List AV × Heap := ([xs a0], [])
abbrev QpW (w : Cf) (a0 : ByteArray) : Option AH := w 36 (QgK a0).1 (QgK a0).2
abbrev QrE (w : Cf) (c : Qbb) : Prop := ∀ (a0 : ByteArray) (r : (List ByteArray)), c a0 = some r → QpW w a0 = some (QgJ r)
structure JI where
  x0 : ByteArray
  x4 : Int
  x5 : Int
  r0 : (List ByteArray)
def YQ (a : JI) : St := { n := 35, nx := 1, env := [(0, xs a.x0), (3, .arr 0), (4, xi a.x4), (5, xi a.x5)], heap := [(0, .arr true 1 (Qh a.r0))] }
def Qal (a : (List ByteArray)) : Ex × St := (.exit 0, { n := 35, nx := 1, env := [(3, .arr 0)], heap := [(0, .arr true 1 (Qh a))] })
abbrev FJ := JI → Option (List ByteArray)
abbrev QtV (P : Pg) (lp : Lo) (l : FJ) : Prop := ∀ (a : JI) (r : (List ByteArray)), l a = some r → lp (loopAt P 36 4) (YQ a) = some (Qal r)
def Qk8 (a : JI) : Option (JI ⊕ (List ByteArray)) := (bif (decide (a.x5 ≤ ((a.x0.size : Nat) : Int))) then (bif (a.x5 == ((a.x0.size : Nat) : Int)) then (bif (decide (a.x5 > a.x4)) then (bif (decide (0 ≤ a.x4 ∧ a.x4 ≤ a.x5 ∧ a.x5 ≤ ((a.x0.size : Nat) : Int))) then (bif (decide ((a.r0.length + [(a.x0.extract (Int.toNat a.x4) (Int.toNat a.x5))].length) * 16 ≤ most)) then (some (.inl (JI.mk a.x0 (w64 (a.x5 + 1)) (w64 (a.x5 + 1)) (a.r0 ++ [(a.x0.extract (Int.toNat a.x4) (Int.toNat a.x5))])))) else none) else none) else (some (.inl (JI.mk a.x0 (w64 (a.x5 + 1)) (w64 (a.x5 + 1)) a.r0)))) else (bif (decide (0 ≤ a.x5 ∧ a.x5 < ((a.x0.size : Nat) : Int))) then (bif (((a.x0.data.getD (Int.toNat a.x5) 0).toNat : Int) == 32) then (bif (decide (a.x5 > a.x4)) then (bif (decide (0 ≤ a.x4 ∧ a.x4 ≤ a.x5 ∧ a.x5 ≤ ((a.x0.size : Nat) : Int))) then (bif (decide ((a.r0.length + [(a.x0.extract (Int.toNat a.x4) (Int.toNat a.x5))].length) * 16 ≤ most)) then (some (.inl (JI.mk a.x0 (w64 (a.x5 + 1)) (w64 (a.x5 + 1)) (a.r0 ++ [(a.x0.extract (Int.toNat a.x4) (Int.toNat a.x5))])))) else none) else none) else (some (.inl (JI.mk a.x0 (w64 (a.x5 + 1)) (w64 (a.x5 + 1)) a.r0)))) else (some (.inl (JI.mk a.x0 a.x4 (w64 (a.x5 + 1)) a.r0)))) else none)) else (some (.inr a.r0)))
def Qcm (P : Pg) (w : Cf) (a : JI) : Tr (JI ⊕ (List ByteArray)) XS := (.as (decide (a.x5 ≤ (zz a.x0))) (let u94 := (a.x5 == (zz a.x0)); .as u94 (yesN 4 u94 (.yes true (.as (decide (a.x5 > a.x4)) (.as (in2 a.x4 a.x5 (zz a.x0)) (.rows [[xs (cu a.x0 a.x4 a.x5)]] (Qh [(cu a.x0 a.x4 a.x5)]) (.yes (decide ((Qh [(cu a.x0 a.x4 a.x5)]).all (fun r => r.length == 1) = true)) (.ask (decide (((Qh a.r0).length + (Qh [(cu a.x0 a.x4 a.x5)]).length) * 16 ≤ most)) (decide ((a.r0.length + [(cu a.x0 a.x4 a.x5)].length) * 16 ≤ most)) (.rows ((Qh a.r0) ++ (Qh [(cu a.x0 a.x4 a.x5)])) (Qh (a.r0 ++ [(cu a.x0 a.x4 a.x5)])) (lf YQ (JI.mk a.x0 (w64 (a.x5 + 1)) (w64 (a.x5 + 1)) (a.r0 ++ [(cu a.x0 a.x4 a.x5)])))) .fail))) .fail) (lf YQ (JI.mk a.x0 (w64 (a.x5 + 1)) (w64 (a.x5 + 1)) a.r0))))) (noN 2 u94 (.as (in1 a.x5 (zz a.x0)) (noN 2 u94 (.as ((gb a.x0 a.x5) == 32) (.as (decide (a.x5 > a.x4)) (.as (in2 a.x4 a.x5 (zz a.x0)) (.rows [[xs (cu a.x0 a.x4 a.x5)]] (Qh [(cu a.x0 a.x4 a.x5)]) (.yes (decide ((Qh [(cu a.x0 a.x4 a.x5)]).all (fun r => r.length == 1) = true)) (.ask (decide (((Qh a.r0).length + (Qh [(cu a.x0 a.x4 a.x5)]).length) * 16 ≤ most)) (decide ((a.r0.length + [(cu a.x0 a.x4 a.x5)].length) * 16 ≤ most)) (.rows ((Qh a.r0) ++ (Qh [(cu a.x0 a.x4 a.x5)])) (Qh (a.r0 ++ [(cu a.x0 a.x4 a.x5)])) (lf YQ (JI.mk a.x0 (w64 (a.x5 + 1)) (w64 (a.x5 + 1)) (a.r0 ++ [(cu a.x0 a.x4 a.x5)])))) .fail))) .fail) (lf YQ (JI.mk a.x0 (w64 (a.x5 + 1)) (w64 (a.x5 + 1)) a.r0))) (lf YQ (JI.mk a.x0 a.x4 (w64 (a.x5 + 1)) a.r0)))) .fail))) (rx Qal a.r0))
theorem Qss (w : Cf) (a : JI) : (Qcm pp w a).norm (roundT pp G.kd w 0 (G.an 36) (loopAt pp 36 4) (YQ a)) = Qcm pp w a := by kernel_rfl
theorem Qst (P : Pg) (w : Cf) (lp : Lo) (a : JI) : (Qcm P w a).ok lp (Sum.elim (fun a => (.norm, YQ a)) Qal) := ⟨rfl, fun q0 => ⟨rfl, fun q1 => Qj 4 (q1) (⟨rfl, ⟨rfl, fun q2 => ⟨rfl, fun q3 => ⟨(Jv [(a.x0.extract (Int.toNat a.x4) (Int.toNat a.x5))]), ⟨(decide_eq_true (Xk _)), ⟨(by rw [QJ, QJ]), fun q4 => ⟨(Z0 _ _), rfl⟩, fun q4 => trivial⟩⟩⟩, fun q3 => trivial⟩, fun q2 => rfl⟩⟩), fun q1 => noN_ok 2 (q1) (⟨rfl, fun q2 => noN_ok 2 (q1) (⟨rfl, fun q3 => ⟨rfl, fun q4 => ⟨rfl, fun q5 => ⟨(Jv [(a.x0.extract (Int.toNat a.x4) (Int.toNat a.x5))]), ⟨(decide_eq_true (Xk _)), ⟨(by rw [QJ, QJ]), fun q6 => ⟨(Z0 _ _), rfl⟩, fun q6 => trivial⟩⟩⟩, fun q5 => trivial⟩, fun q4 => rfl⟩, fun q3 => rfl⟩), fun q2 => trivial⟩)⟩, fun q0 => rfl⟩
def Zr.s (k : Nat) : JI → Option (List ByteArray) := iter (Qk8 ) k
theorem QqX (w : Cf) (k : Nat) (a : JI) (r : (List ByteArray)) (h : Zr.s k a = some r) : loopsF pp G.kd w 0 (G.an 36) k (loopAt pp 36 4) (YQ a) = some (Qal r) :=
  Va (fun a => Qcm pp w a) (fun _ => rfl) (fun a => Qss w a) (fun a => Qst _ w _ a) (fun r => nofun) h
noncomputable def Zr.w : JI → Option (List ByteArray) := loopW (Qk8 )
theorem Zr.cv (a : JI) : Cv (fun k => Zr.s k a) (Zr.w a) := Cv.iter (fun a => by exact .const _) a
def Qd6 (L0 : FJ) (a0 : ByteArray) : Option (List ByteArray) := ((L0 (JI.mk a0 (0 : Int) (0 : Int) ([] : List ByteArray))).bind (fun (o1 : (List ByteArray)) => (some o1)))
def QgL (P : Pg) (w : Cf) (L0 : FJ) (a0 : ByteArray) : Tr (List ByteArray) AH := (.loop (loopAt P 36 4) (YQ (JI.mk a0 i0 i0 ([] : List ByteArray))) (L0 (JI.mk a0 i0 i0 ([] : List ByteArray))) Qal (fun (o1 : (List ByteArray)) => (rt QgJ o1)))
theorem QwW (w : Cf) (L0 : FJ) (a0 : ByteArray) : (QgL pp w L0 a0).norm (bodyT pp w G 36 (QgK a0).1 (QgK a0).2) = QgL pp w L0 a0 := by kernel_rfl
theorem QwX (P : Pg) (w : Cf) (lp : Lo) (L0 : FJ) (N0 : QtV P lp L0) (a0 : ByteArray) : (QgL P w L0 a0).ok lp QgJ := fun o1 ho1 => ⟨N0 _ _ ho1, rfl⟩
theorem QwY {L0 : Nat → FJ} {M0 : FJ} (N0 : Cv1 L0 M0) (a0 : ByteArray) : Cv (fun k => Qd6 (L0 k) a0) (Qd6 M0 a0) := by
  unfold Qd6
  exact .bind (N0 _) (fun o1 => by exact .const _)
def XN.s : Nat → ByteArray → Option (List ByteArray)
  | 0, _ => none
  | k + 1, a0 => Qd6 (Zr.s k) a0
theorem XN.ok : ∀ (k : Nat), QrE (ev k) (XN.s k)
  | 0, _, _, h => (nomatch h)
  | k + 1, a0, r, h => fn_ok rfl (QgL pp (ev k) (Zr.s k) a0) (QwW _ _ a0) (QwX _ _ _ _ (QqX _ k) a0) h
noncomputable def Zr : JI → Option (List ByteArray) := Zr.w
noncomputable def XN (a0 : ByteArray) : Option (List ByteArray) := Qd6 Zr a0
theorem XN.cv (a0 : ByteArray) : Cv (fun k => XN.s k a0) (XN a0) := .un rfl (QwY (Zr.cv) a0)
def EE (r : Int) : AV × Heap := (xi r, [])
abbrev J1 := Ql → Int → Option Int
abbrev QaC (a0 : Ql) (a1 : Int) : List AV × Heap := ([.agg (Zt a0), xi a1], [])
abbrev Qd7 (w : Cf) (a0 : Ql) (a1 : Int) : Option AH := w 63 (QaC a0 a1).1 (QaC a0 a1).2
abbrev SI (w : Cf) (c : J1) : Prop := ∀ (a0 : Ql) (a1 : Int) (r : Int), c a0 a1 = some r → Qd7 w a0 a1 = some (EE r)
def QaD (a0 : Ql) (a1 : Int) : Option Int := (bif (decide (a1 < (((a0.Ns.length) : Nat) : Int))) then (bif (decide (0 ≤ a1)) then ((a0.Ns[(Int.toNat a1)]?).bind fun e1 => (some e1)) else none) else (some (w64 (a0.A + a1))))
def QaE (P : Pg) (w : Cf) (a0 : Ql) (a1 : Int) : Tr Int AH := (.num ((JE a0.Ns).length) (a0.Ns.length) (.as (decide (a1 < (((a0.Ns.length) : Nat) : Int))) (.as (decide (0 ≤ a1)) (.row ((JE a0.Ns)[(Int.toNat a1)]?) (a0.Ns[(Int.toNat a1)]?) Z1 fun (e1 : Int) => (rt EE e1)) .fail) (rt EE (w64 (a0.A + a1)))))
theorem QpX (w : Cf) (a0 : Ql) (a1 : Int) : (QaE pp w a0 a1).norm (bodyT pp w G 63 (QaC a0 a1).1 (QaC a0 a1).2) = QaE pp w a0 a1 := by kernel_rfl
theorem QpY (P : Pg) (w : Cf) (lp : Lo) (a0 : Ql) (a1 : Int) : (QaE P w a0 a1).ok lp EE := ⟨(WI _), ⟨rfl, fun q0 => ⟨rfl, fun q1 => fun e1 h => ⟨WP h, rfl⟩, fun q1 => trivial⟩, fun q0 => rfl⟩⟩
def Jy.s : Nat → Ql → Int → Option Int
  | 0, _, _ => none
  | k + 1, a0, a1 => QaD a0 a1
theorem Jy.ok : ∀ (k : Nat), SI (ev k) (Jy.s k)
  | 0, _, _, _, h => (nomatch h)
  | k + 1, a0, a1, r, h => fn_ok rfl (QaE pp (ev k) a0 a1) (QpX _ a0 a1) (QpY _ _ _ a0 a1) h
noncomputable def Jy (a0 : Ql) (a1 : Int) : Option Int := QaD a0 a1
theorem Jy.cv (a0 : Ql) (a1 : Int) : Cv (fun k => Jy.s k a0 a1) (Jy a0 a1) := .un rfl (by exact .const _)
theorem Jy.eq (a0 : Ql) (a1 : Int) : Jy a0 a1 = QaD a0 a1 := rfl
def Qam (r : Bool) : AV × Heap := (xo r, [])
abbrev FK := ByteArray → Option Bool
abbrev Qcn (a0 : ByteArray) : List AV × Heap := ([xs a0], [])
abbrev Qk9 (w : Cf) (a0 : ByteArray) : Option AH := w 39 (Qcn a0).1 (Qcn a0).2
abbrev QmW (w : Cf) (c : FK) : Prop := ∀ (a0 : ByteArray) (r : Bool), c a0 = some r → Qk9 w a0 = some (Qam r)
structure Un where
  x0 : ByteArray
  x3 : Int
def GT (a : Un) : St := { n := 28, nx := 0, env := [(0, xs a.x0), (3, xi a.x3)], heap := [] }
def Qgk (a : Bool) : Ex × St := (.ret, { n := 28, nx := 0, env := [(2, xo a)], heap := [] })
def Qgl (a : Unit) : Ex × St := (.exit 0, { n := 28, nx := 0, env := [], heap := [] })
def GU (a : (Bool ⊕ Unit)) : Ex × St := Sum.elim Qgk Qgl a
abbrev Ga := Un → Option (Bool ⊕ Unit)
abbrev QpZ (P : Pg) (lp : Lo) (l : Ga) : Prop := ∀ (a : Un) (r : (Bool ⊕ Unit)), l a = some r → lp (loopAt P 39 2) (GT a) = some (GU r)
def QhC (a : Un) : Option (Un ⊕ (Bool ⊕ Unit)) := (bif (decide ((w64 ((w64 (a.x3 + ((a.x0.size : Nat) : Int))) + 2)) ≤ 11)) then (bif (decide (((a.x0.size : Nat) : Int) > 0)) then (bif (decide (0 ≤ a.x3 ∧ a.x3 ≤ (w64 ((w64 (a.x3 + ((a.x0.size : Nat) : Int))) + 2)) ∧ (w64 ((w64 (a.x3 + ((a.x0.size : Nat) : Int))) + 2)) ≤ ((Vt.size : Nat) : Int))) then (bif (decide (((h_20.size + a.x0.size : Nat) : Int) ≤ IntKind.i64.max)) then (bif (decide ((((h_20 ++ a.x0).size + h_20.size : Nat) : Int) ≤ IntKind.i64.max)) then (bif (eqS (Vt.extract (Int.toNat a.x3) (Int.toNat (w64 ((w64 (a.x3 + ((a.x0.size : Nat) : Int))) + 2)))) ((h_20 ++ a.x0) ++ h_20)) then (some (.inr (.inl true))) else (some (.inl (Un.mk a.x0 (w64 (a.x3 + 1)))))) else none) else none) else none) else (some (.inr (.inr ())))) else (some (.inr (.inr ()))))
def S8 (P : Pg) (w : Cf) (a : Un) : Tr (Un ⊕ (Bool ⊕ Unit)) XS := (let u95 := (decide ((w64 ((w64 (a.x3 + (zz a.x0))) + 2)) ≤ 11)); .as u95 (yesN 3 u95 (.as (decide ((zz a.x0) > 0)) (.as (in2 a.x3 (w64 ((w64 (a.x3 + (zz a.x0))) + 2)) (zz Vt)) (.as (decide (((h_20.size + a.x0.size : Nat) : Int) ≤ IntKind.i64.max)) (.as (decide ((((h_20 ++ a.x0).size + h_20.size : Nat) : Int) ≤ IntKind.i64.max)) (.as (eqS (cu Vt a.x3 (w64 ((w64 (a.x3 + (zz a.x0))) + 2))) ((h_20 ++ a.x0) ++ h_20)) (rx GU (.inl true)) (lf GT (Un.mk a.x0 (w64 (a.x3 + 1))))) .fail) .fail) .fail) (rx GU (.inr ())))) (noN 3 u95 (.no false (rx GU (.inr ())))))
theorem QoK (w : Cf) (a : Un) : (S8 pp w a).norm (roundT pp G.kd w 0 (G.an 39) (loopAt pp 39 2) (GT a)) = S8 pp w a := by kernel_rfl
theorem QoL (P : Pg) (w : Cf) (lp : Lo) (a : Un) : (S8 P w a).ok lp (Sum.elim (fun a => (.norm, GT a)) GU) := ⟨rfl, fun q0 => Qj 3 (q0) (⟨rfl, fun q1 => ⟨rfl, fun q2 => ⟨rfl, fun q3 => ⟨rfl, fun q4 => ⟨rfl, fun q5 => rfl, fun q5 => rfl⟩, fun q4 => trivial⟩, fun q3 => trivial⟩, fun q2 => trivial⟩, fun q1 => rfl⟩), fun q0 => noN_ok 3 (q0) (⟨rfl, rfl⟩)⟩
def Xs.s (k : Nat) : Un → Option (Bool ⊕ Unit) := iter (QhC ) k
theorem QnY (w : Cf) (k : Nat) (a : Un) (r : (Bool ⊕ Unit)) (h : Xs.s k a = some r) : loopsF pp G.kd w 0 (G.an 39) k (loopAt pp 39 2) (GT a) = some (GU r) :=
  Va (fun a => S8 pp w a) (fun _ => rfl) (fun a => QoK w a) (fun a => QoL _ w _ a) (fun r => by cases r <;> nofun) h
noncomputable def Xs.w : Un → Option (Bool ⊕ Unit) := loopW (QhC )
theorem Xs.cv (a : Un) : Cv (fun k => Xs.s k a) (Xs.w a) := Cv.iter (fun a => by exact .const _) a
def Qan (L0 : Ga) (a0 : ByteArray) : Option Bool := ((L0 (Un.mk a0 (0 : Int))).bind fun x => Sum.elim (fun (o1 : Bool) => (some o1)) (fun (o2 : Unit) => (some false)) x)
def Qco (P : Pg) (w : Cf) (L0 : Ga) (a0 : ByteArray) : Tr Bool AH := (.loop2 (loopAt P 39 2) (GT (Un.mk a0 i0)) (L0 (Un.mk a0 i0)) Qgk Qgl (fun (o1 : Bool) => (rt Qam o1)) (fun (o2 : Unit) => (rt Qam false)))
theorem Qsu (w : Cf) (L0 : Ga) (a0 : ByteArray) : (Qco pp w L0 a0).norm (bodyT pp w G 39 (Qcn a0).1 (Qcn a0).2) = Qco pp w L0 a0 := by kernel_rfl
theorem Qsv (P : Pg) (w : Cf) (lp : Lo) (L0 : Ga) (N0 : QpZ P lp L0) (a0 : ByteArray) : (Qco P w L0 a0).ok lp Qam := ⟨fun o1 ho1 => ⟨N0 _ (.inl _) ho1, rfl⟩, fun o2 ho2 => ⟨N0 _ (.inr _) ho2, rfl⟩⟩
theorem Qsw {L0 : Nat → Ga} {M0 : Ga} (N0 : Cv1 L0 M0) (a0 : ByteArray) : Cv (fun k => Qan (L0 k) a0) (Qan M0 a0) := by
  unfold Qan
  exact .bind (N0 _) fun x => .sum (fun o1 => by exact .const _) (fun o2 => by exact .const _) x
def U2.s : Nat → ByteArray → Option Bool
  | 0, _ => none
  | k + 1, a0 => Qan (Xs.s k) a0
theorem U2.ok : ∀ (k : Nat), QmW (ev k) (U2.s k)
  | 0, _, _, h => (nomatch h)
  | k + 1, a0, r, h => fn_ok rfl (Qco pp (ev k) (Xs.s k) a0) (Qsu _ _ a0) (Qsv _ _ _ _ (QnY _ k) a0) h
noncomputable def Xs : Un → Option (Bool ⊕ Unit) := Xs.w
noncomputable def U2 (a0 : ByteArray) : Option Bool := Qan Xs a0
theorem U2.cv (a0 : ByteArray) : Cv (fun k => U2.s k a0) (U2 a0) := .un rfl (Qsw (Xs.cv) a0)
def Qcp (r : Bool) : AV × Heap := (xo r, [])
abbrev FL := ByteArray → Option Bool
abbrev Qcq (a0 : ByteArray) : List AV × Heap := ([xs a0], [])
abbrev Qla (w : Cf) (a0 : ByteArray) : Option AH := w 106 (Qcq a0).1 (Qcq a0).2
abbrev QmX (w : Cf) (c : FL) : Prop := ∀ (a0 : ByteArray) (r : Bool), c a0 = some r → Qla w a0 = some (Qcp r)
def Gt (C0 : FK) (a0 : ByteArray) : Option Bool := ((C0 a0).bind fun r1 => (some r1))
def Qcr (P : Pg) (w : Cf) (C0 : FK) (a0 : ByteArray) : Tr Bool AH := (.call (Qk9 w a0) (C0 a0) Qam fun r1 => (rt Qcp r1))
theorem Qsx (w : Cf) (C0 : FK) (a0 : ByteArray) : (Qcr pp w C0 a0).norm (bodyT pp w G 106 (Qcq a0).1 (Qcq a0).2) = Qcr pp w C0 a0 := by kernel_rfl
theorem Qsy (P : Pg) (w : Cf) (lp : Lo) (C0 : FK) (K0 : QmW w C0) (a0 : ByteArray) : (Qcr P w C0 a0).ok lp Qcp := fun r1 hr1 => ⟨K0 _ _ hr1, rfl⟩
theorem Qsz {C0 : Nat → FK} {D0 : FK} (H0 : Cv1 C0 D0) (a0 : ByteArray) : Cv (fun k => Gt (C0 k) a0) (Gt D0 a0) := by
  unfold Gt
  exact .bind (H0 _) fun r1 => by exact .const _
def Wa.s : Nat → ByteArray → Option Bool
  | 0, _ => none
  | k + 1, a0 => Gt (U2.s k) a0
theorem Wa.ok : ∀ (k : Nat), QmX (ev k) (Wa.s k)
  | 0, _, _, h => (nomatch h)
  | k + 1, a0, r, h => fn_ok rfl (Qcr pp (ev k) (U2.s k) a0) (Qsx _ _ a0) (Qsy _ _ _ _ (U2.ok k) a0) h
noncomputable def Wa (a0 : ByteArray) : Option Bool := Gt U2 a0
theorem Wa.cv (a0 : ByteArray) : Cv (fun k => Wa.s k a0) (Wa a0) := .un rfl (Qsz U2.cv a0)
theorem Wa.eq (a0 : ByteArray) : Wa a0 = Gt U2 a0 := rfl
def YR (r : Int) : AV × Heap := (xi r, [])
abbrev S9 := Int → Int → Option Int
abbrev Qfq (a0 : Int) (a1 : Int) : List AV × Heap := ([xi a0, xi a1], [])
abbrev Ee (w : Cf) (a0 : Int) (a1 : Int) : Option AH := w 84 (Qfq a0 a1).1 (Qfq a0 a1).2
abbrev Qp0 (w : Cf) (c : S9) : Prop := ∀ (a0 : Int) (a1 : Int) (r : Int), c a0 a1 = some r → Ee w a0 a1 = some (YR r)
def Qi2 (a0 : Int) (a1 : Int) : Option Int := (bif (decide (a1 ≠ 0)) then (bif (decide ((Int.tmod a0 a1) < 0)) then (some (w64 ((Int.tmod a0 a1) + a1))) else (some (Int.tmod a0 a1))) else none)
def Qfr (P : Pg) (w : Cf) (a0 : Int) (a1 : Int) : Tr Int AH := (.as (decide (a1 ≠ 0)) (.as (decide ((Int.tmod a0 a1) < 0)) (rt YR (w64 ((Int.tmod a0 a1) + a1))) (rt YR (Int.tmod a0 a1))) .fail)
theorem Qvn (w : Cf) (a0 : Int) (a1 : Int) : (Qfr pp w a0 a1).norm (bodyT pp w G 84 (Qfq a0 a1).1 (Qfq a0 a1).2) = Qfr pp w a0 a1 := by kernel_rfl
theorem Qvo (P : Pg) (w : Cf) (lp : Lo) (a0 : Int) (a1 : Int) : (Qfr P w a0 a1).ok lp YR := ⟨rfl, fun q0 => ⟨rfl, fun q1 => rfl, fun q1 => rfl⟩, fun q0 => trivial⟩
def X5.s : Nat → Int → Int → Option Int
  | 0, _, _ => none
  | k + 1, a0, a1 => Qi2 a0 a1
theorem X5.ok : ∀ (k : Nat), Qp0 (ev k) (X5.s k)
  | 0, _, _, _, h => (nomatch h)
  | k + 1, a0, a1, r, h => fn_ok rfl (Qfr pp (ev k) a0 a1) (Qvn _ a0 a1) (Qvo _ _ _ a0 a1) h
noncomputable def X5 (a0 : Int) (a1 : Int) : Option Int := Qi2 a0 a1
theorem X5.cv (a0 : Int) (a1 : Int) : Cv (fun k => X5.s k a0 a1) (X5 a0 a1) := .un rfl (by exact .const _)
theorem X5.eq (a0 : Int) (a1 : Int) : X5 a0 a1 = Qi2 a0 a1 := rfl
def Ue (r : Int) : AV × Heap := (xi r, [])
abbrev P8 := ByteArray → Int → Option Int
abbrev Qd8 (a0 : ByteArray) (a1 : Int) : List AV × Heap := ([xs a0, xi a1], [])
abbrev Qd9 (w : Cf) (a0 : ByteArray) (a1 : Int) : Option AH := w 85 (Qd8 a0 a1).1 (Qd8 a0 a1).2
abbrev Qon (w : Cf) (c : P8) : Prop := ∀ (a0 : ByteArray) (a1 : Int) (r : Int), c a0 a1 = some r → Qd9 w a0 a1 = some (Ue r)
def En (C0 : S9) (a0 : ByteArray) (a1 : Int) : Option Int := ((C0 a1 (9 : Int)).bind fun r1 => (bif (eqS a0 s_X) then (bif (decide (0 ≤ r1 ∧ r1 < (([(0 : Int), (1 : Int), (7 : Int), (24 : Int), (31 : Int), (5 : Int), (28 : Int), (3 : Int), (30 : Int)].length : Nat) : Int))) then (([(0 : Int), (1 : Int), (7 : Int), (24 : Int), (31 : Int), (5 : Int), (28 : Int), (3 : Int), (30 : Int)][(Int.toNat r1)]?).bind fun e2 => (some e2)) else none) else (bif (eqS a0 s_Y) then (bif (decide (0 ≤ r1 ∧ r1 < (([(0 : Int), (1 : Int), (7 : Int), (24 : Int), (31 : Int), (5 : Int), (28 : Int), (3 : Int), (30 : Int)].length : Nat) : Int))) then (([(0 : Int), (1 : Int), (7 : Int), (24 : Int), (31 : Int), (5 : Int), (28 : Int), (3 : Int), (30 : Int)][(Int.toNat r1)]?).bind fun e3 => (some e3)) else none) else (bif (eqS a0 s_D) then (bif (decide (0 ≤ r1 ∧ r1 < (([(0 : Int), (31 : Int), (1 : Int), (15 : Int), (16 : Int), (7 : Int), (30 : Int), (12 : Int), (3 : Int)].length : Nat) : Int))) then (([(0 : Int), (31 : Int), (1 : Int), (15 : Int), (16 : Int), (7 : Int), (30 : Int), (12 : Int), (3 : Int)][(Int.toNat r1)]?).bind fun e4 => (some e4)) else none) else (bif (eqS a0 s_A) then (bif (decide (0 ≤ r1 ∧ r1 < (([(0 : Int), (31 : Int), (1 : Int), (15 : Int), (16 : Int), (7 : Int), (30 : Int), (12 : Int), (3 : Int)].length : Nat) : Int))) then (([(0 : Int), (31 : Int), (1 : Int), (15 : Int), (16 : Int), (7 : Int), (30 : Int), (12 : Int), (3 : Int)][(Int.toNat r1)]?).bind fun e5 => (some e5)) else none) else (bif (eqS a0 s_B) then (bif (decide (0 ≤ r1 ∧ r1 < (([(0 : Int), (31 : Int), (1 : Int), (15 : Int), (16 : Int), (7 : Int), (30 : Int), (12 : Int), (3 : Int)].length : Nat) : Int))) then (([(0 : Int), (31 : Int), (1 : Int), (15 : Int), (16 : Int), (7 : Int), (30 : Int), (12 : Int), (3 : Int)][(Int.toNat r1)]?).bind fun e6 => (some e6)) else none) else (bif (eqS a0 s_U5) then (bif (decide (0 ≤ r1 ∧ r1 < (([(0 : Int), (31 : Int), (1 : Int), (15 : Int), (16 : Int), (7 : Int), (30 : Int), (12 : Int), (3 : Int)].length : Nat) : Int))) then (([(0 : Int), (31 : Int), (1 : Int), (15 : Int), (16 : Int), (7 : Int), (30 : Int), (12 : Int), (3 : Int)][(Int.toNat r1)]?).bind fun e7 => (some e7)) else none) else (bif (eqS a0 s_U7) then (bif (decide (0 ≤ r1 ∧ r1 < (([(0 : Int), (127 : Int), (64 : Int), (1 : Int), (63 : Int), (100 : Int), (7 : Int), (15 : Int), (16 : Int)].length : Nat) : Int))) then (([(0 : Int), (127 : Int), (64 : Int), (1 : Int), (63 : Int), (100 : Int), (7 : Int), (15 : Int), (16 : Int)][(Int.toNat r1)]?).bind fun e8 => (some e8)) else none) else (bif (eqS a0 s_O5) then (bif (decide (0 ≤ r1 ∧ r1 < (([(1 : Int), (32 : Int), (2 : Int), (16 : Int), (31 : Int), (17 : Int), (8 : Int), (5 : Int), (30 : Int)].length : Nat) : Int))) then (([(1 : Int), (32 : Int), (2 : Int), (16 : Int), (31 : Int), (17 : Int), (8 : Int), (5 : Int), (30 : Int)][(Int.toNat r1)]?).bind fun e9 => (some e9)) else none) else (bif (eqS a0 s_M1) then (bif (decide (0 ≤ r1 ∧ r1 < (([(0 : Int), (15 : Int), (1 : Int), (7 : Int), (8 : Int), (4 : Int), (12 : Int), (3 : Int), (14 : Int)].length : Nat) : Int))) then (([(0 : Int), (15 : Int), (1 : Int), (7 : Int), (8 : Int), (4 : Int), (12 : Int), (3 : Int), (14 : Int)][(Int.toNat r1)]?).bind fun e10 => (some e10)) else none) else (bif (eqS a0 s_I4) then (bif (decide (0 ≤ r1 ∧ r1 < (([(0 : Int), (15 : Int), (1 : Int), (7 : Int), (8 : Int), (4 : Int), (12 : Int), (3 : Int), (14 : Int)].length : Nat) : Int))) then (([(0 : Int), (15 : Int), (1 : Int), (7 : Int), (8 : Int), (4 : Int), (12 : Int), (3 : Int), (14 : Int)][(Int.toNat r1)]?).bind fun e11 => (some e11)) else none) else (bif (eqS a0 s_M2) then (bif (decide (0 ≤ r1 ∧ r1 < (([(0 : Int), (15 : Int), (1 : Int), (7 : Int), (8 : Int), (4 : Int), (12 : Int), (3 : Int), (14 : Int)].length : Nat) : Int))) then (([(0 : Int), (15 : Int), (1 : Int), (7 : Int), (8 : Int), (4 : Int), (12 : Int), (3 : Int), (14 : Int)][(Int.toNat r1)]?).bind fun e12 => (some (w64 ((2 : Int) * e12)))) else none) else (bif (eqS a0 s_M4) then (bif (decide (0 ≤ r1 ∧ r1 < (([(0 : Int), (15 : Int), (1 : Int), (7 : Int), (8 : Int), (4 : Int), (12 : Int), (3 : Int), (14 : Int)].length : Nat) : Int))) then (([(0 : Int), (15 : Int), (1 : Int), (7 : Int), (8 : Int), (4 : Int), (12 : Int), (3 : Int), (14 : Int)][(Int.toNat r1)]?).bind fun e13 => (some (w64 ((4 : Int) * e13)))) else none) else (bif (eqS a0 s_O1) then ((C0 a1 (2 : Int)).bind fun r14 => (some r14)) else (bif (eqS a0 s_I2) then ((C0 a1 (4 : Int)).bind fun r15 => (some r15)) else (bif (eqS a0 s_O2) then ((C0 a1 (4 : Int)).bind fun r16 => (some r16)) else (bif (eqS a0 s_T8) then ((C0 a1 (256 : Int)).bind fun r17 => (some (w64 ((2 : Int) * (w64 (r17 - 128)))))) else (bif (eqS a0 Qzw) then (bif (decide (0 ≤ r1 ∧ r1 < (([(0 : Int), (32767 : Int), (-32768 : Int), (-1 : Int), (1 : Int), (255 : Int), (-256 : Int), (4660 : Int), (-4660 : Int)].length : Nat) : Int))) then (([(0 : Int), (32767 : Int), (-32768 : Int), (-1 : Int), (1 : Int), (255 : Int), (-256 : Int), (4660 : Int), (-4660 : Int)][(Int.toNat r1)]?).bind fun e18 => (some e18)) else none) else (bif (eqS a0 Qzv) then ((C0 a1 (1048576 : Int)).bind fun r19 => (some (w64 (r19 - 524288)))) else (bif (eqS a0 Qzx) then ((C0 a1 (32768 : Int)).bind fun r20 => (some (w64 ((2 : Int) * (w64 (r20 - 16384)))))) else (bif (eqS a0 Qch) then ((C0 a1 (16777216 : Int)).bind fun r21 => (some (w64 ((2 : Int) * (w64 (r21 - 8388608)))))) else (bif (decide (0 ≤ r1 ∧ r1 < (([(0 : Int), (255 : Int), (256 : Int), (65280 : Int), (-1 : Int), (-2 : Int), (16711680 : Int), (-256 : Int), (2130706432 : Int)].length : Nat) : Int))) then (([(0 : Int), (255 : Int), (256 : Int), (65280 : Int), (-1 : Int), (-2 : Int), (16711680 : Int), (-256 : Int), (2130706432 : Int)][(Int.toNat r1)]?).bind fun e22 => (some e22)) else none))))))))))))))))))))))
def Qea (P : Pg) (w : Cf) (C0 : S9) (a0 : ByteArray) (a1 : Int) : Tr Int AH := (.call (Ee w a1 (zi 9)) (C0 a1 (zi 9)) YR fun r1 => (let u101 := (eqS a0 s_X); .as u101 (.yes u101 (.rows [[xi i0], [xi (zi 1)], [xi (zi 7)], [xi (zi 24)], [xi (zi 31)], [xi (zi 5)], [xi (zi 28)], [xi (zi 3)], [xi (zi 30)]] (JE [i0, (zi 1), (zi 7), (zi 24), (zi 31), (zi 5), (zi 28), (zi 3), (zi 30)]) (.ask (in1 r1 (((JE [i0, (zi 1), (zi 7), (zi 24), (zi 31), (zi 5), (zi 28), (zi 3), (zi 30)]).length : Nat) : Int)) (in1 r1 (([i0, (zi 1), (zi 7), (zi 24), (zi 31), (zi 5), (zi 28), (zi 3), (zi 30)].length : Nat) : Int)) (.row ((JE [i0, (zi 1), (zi 7), (zi 24), (zi 31), (zi 5), (zi 28), (zi 3), (zi 30)])[(Int.toNat r1)]?) ([i0, (zi 1), (zi 7), (zi 24), (zi 31), (zi 5), (zi 28), (zi 3), (zi 30)][(Int.toNat r1)]?) Z1 fun (e2 : Int) => (rt Ue e2)) .fail))) (.as (eqS a0 s_Y) (.rows [[xi i0], [xi (zi 1)], [xi (zi 7)], [xi (zi 24)], [xi (zi 31)], [xi (zi 5)], [xi (zi 28)], [xi (zi 3)], [xi (zi 30)]] (JE [i0, (zi 1), (zi 7), (zi 24), (zi 31), (zi 5), (zi 28), (zi 3), (zi 30)]) (.ask (in1 r1 (((JE [i0, (zi 1), (zi 7), (zi 24), (zi 31), (zi 5), (zi 28), (zi 3), (zi 30)]).length : Nat) : Int)) (in1 r1 (([i0, (zi 1), (zi 7), (zi 24), (zi 31), (zi 5), (zi 28), (zi 3), (zi 30)].length : Nat) : Int)) (.row ((JE [i0, (zi 1), (zi 7), (zi 24), (zi 31), (zi 5), (zi 28), (zi 3), (zi 30)])[(Int.toNat r1)]?) ([i0, (zi 1), (zi 7), (zi 24), (zi 31), (zi 5), (zi 28), (zi 3), (zi 30)][(Int.toNat r1)]?) Z1 fun (e3 : Int) => (rt Ue e3)) .fail)) (let u100 := (eqS a0 s_D); .as u100 (.yes u100 (.rows [[xi i0], [xi (zi 31)], [xi (zi 1)], [xi (zi 15)], [xi (zi 16)], [xi (zi 7)], [xi (zi 30)], [xi (zi 12)], [xi (zi 3)]] (JE [i0, (zi 31), (zi 1), (zi 15), (zi 16), (zi 7), (zi 30), (zi 12), (zi 3)]) (.ask (in1 r1 (((JE [i0, (zi 31), (zi 1), (zi 15), (zi 16), (zi 7), (zi 30), (zi 12), (zi 3)]).length : Nat) : Int)) (in1 r1 (([i0, (zi 31), (zi 1), (zi 15), (zi 16), (zi 7), (zi 30), (zi 12), (zi 3)].length : Nat) : Int)) (.row ((JE [i0, (zi 31), (zi 1), (zi 15), (zi 16), (zi 7), (zi 30), (zi 12), (zi 3)])[(Int.toNat r1)]?) ([i0, (zi 31), (zi 1), (zi 15), (zi 16), (zi 7), (zi 30), (zi 12), (zi 3)][(Int.toNat r1)]?) Z1 fun (e4 : Int) => (rt Ue e4)) .fail))) (let u99 := (eqS a0 s_A); .as u99 (.yes u99 (.rows [[xi i0], [xi (zi 31)], [xi (zi 1)], [xi (zi 15)], [xi (zi 16)], [xi (zi 7)], [xi (zi 30)], [xi (zi 12)], [xi (zi 3)]] (JE [i0, (zi 31), (zi 1), (zi 15), (zi 16), (zi 7), (zi 30), (zi 12), (zi 3)]) (.ask (in1 r1 (((JE [i0, (zi 31), (zi 1), (zi 15), (zi 16), (zi 7), (zi 30), (zi 12), (zi 3)]).length : Nat) : Int)) (in1 r1 (([i0, (zi 31), (zi 1), (zi 15), (zi 16), (zi 7), (zi 30), (zi 12), (zi 3)].length : Nat) : Int)) (.row ((JE [i0, (zi 31), (zi 1), (zi 15), (zi 16), (zi 7), (zi 30), (zi 12), (zi 3)])[(Int.toNat r1)]?) ([i0, (zi 31), (zi 1), (zi 15), (zi 16), (zi 7), (zi 30), (zi 12), (zi 3)][(Int.toNat r1)]?) Z1 fun (e5 : Int) => (rt Ue e5)) .fail))) (let u98 := (eqS a0 s_B); .as u98 (.yes u98 (.rows [[xi i0], [xi (zi 31)], [xi (zi 1)], [xi (zi 15)], [xi (zi 16)], [xi (zi 7)], [xi (zi 30)], [xi (zi 12)], [xi (zi 3)]] (JE [i0, (zi 31), (zi 1), (zi 15), (zi 16), (zi 7), (zi 30), (zi 12), (zi 3)]) (.ask (in1 r1 (((JE [i0, (zi 31), (zi 1), (zi 15), (zi 16), (zi 7), (zi 30), (zi 12), (zi 3)]).length : Nat) : Int)) (in1 r1 (([i0, (zi 31), (zi 1), (zi 15), (zi 16), (zi 7), (zi 30), (zi 12), (zi 3)].length : Nat) : Int)) (.row ((JE [i0, (zi 31), (zi 1), (zi 15), (zi 16), (zi 7), (zi 30), (zi 12), (zi 3)])[(Int.toNat r1)]?) ([i0, (zi 31), (zi 1), (zi 15), (zi 16), (zi 7), (zi 30), (zi 12), (zi 3)][(Int.toNat r1)]?) Z1 fun (e6 : Int) => (rt Ue e6)) .fail))) (.as (eqS a0 s_U5) (.rows [[xi i0], [xi (zi 31)], [xi (zi 1)], [xi (zi 15)], [xi (zi 16)], [xi (zi 7)], [xi (zi 30)], [xi (zi 12)], [xi (zi 3)]] (JE [i0, (zi 31), (zi 1), (zi 15), (zi 16), (zi 7), (zi 30), (zi 12), (zi 3)]) (.ask (in1 r1 (((JE [i0, (zi 31), (zi 1), (zi 15), (zi 16), (zi 7), (zi 30), (zi 12), (zi 3)]).length : Nat) : Int)) (in1 r1 (([i0, (zi 31), (zi 1), (zi 15), (zi 16), (zi 7), (zi 30), (zi 12), (zi 3)].length : Nat) : Int)) (.row ((JE [i0, (zi 31), (zi 1), (zi 15), (zi 16), (zi 7), (zi 30), (zi 12), (zi 3)])[(Int.toNat r1)]?) ([i0, (zi 31), (zi 1), (zi 15), (zi 16), (zi 7), (zi 30), (zi 12), (zi 3)][(Int.toNat r1)]?) Z1 fun (e7 : Int) => (rt Ue e7)) .fail)) (.as (eqS a0 s_U7) (.rows [[xi i0], [xi (zi 127)], [xi (zi 64)], [xi (zi 1)], [xi (zi 63)], [xi (zi 100)], [xi (zi 7)], [xi (zi 15)], [xi (zi 16)]] (JE [i0, (zi 127), (zi 64), (zi 1), (zi 63), (zi 100), (zi 7), (zi 15), (zi 16)]) (.ask (in1 r1 (((JE [i0, (zi 127), (zi 64), (zi 1), (zi 63), (zi 100), (zi 7), (zi 15), (zi 16)]).length : Nat) : Int)) (in1 r1 (([i0, (zi 127), (zi 64), (zi 1), (zi 63), (zi 100), (zi 7), (zi 15), (zi 16)].length : Nat) : Int)) (.row ((JE [i0, (zi 127), (zi 64), (zi 1), (zi 63), (zi 100), (zi 7), (zi 15), (zi 16)])[(Int.toNat r1)]?) ([i0, (zi 127), (zi 64), (zi 1), (zi 63), (zi 100), (zi 7), (zi 15), (zi 16)][(Int.toNat r1)]?) Z1 fun (e8 : Int) => (rt Ue e8)) .fail)) (.as (eqS a0 s_O5) (.rows [[xi (zi 1)], [xi (zi 32)], [xi (zi 2)], [xi (zi 16)], [xi (zi 31)], [xi (zi 17)], [xi (zi 8)], [xi (zi 5)], [xi (zi 30)]] (JE [(zi 1), (zi 32), (zi 2), (zi 16), (zi 31), (zi 17), (zi 8), (zi 5), (zi 30)]) (.ask (in1 r1 (((JE [(zi 1), (zi 32), (zi 2), (zi 16), (zi 31), (zi 17), (zi 8), (zi 5), (zi 30)]).length : Nat) : Int)) (in1 r1 (([(zi 1), (zi 32), (zi 2), (zi 16), (zi 31), (zi 17), (zi 8), (zi 5), (zi 30)].length : Nat) : Int)) (.row ((JE [(zi 1), (zi 32), (zi 2), (zi 16), (zi 31), (zi 17), (zi 8), (zi 5), (zi 30)])[(Int.toNat r1)]?) ([(zi 1), (zi 32), (zi 2), (zi 16), (zi 31), (zi 17), (zi 8), (zi 5), (zi 30)][(Int.toNat r1)]?) Z1 fun (e9 : Int) => (rt Ue e9)) .fail)) (let u97 := (eqS a0 s_M1); .as u97 (.yes u97 (.rows [[xi i0], [xi (zi 15)], [xi (zi 1)], [xi (zi 7)], [xi (zi 8)], [xi (zi 4)], [xi (zi 12)], [xi (zi 3)], [xi (zi 14)]] (JE [i0, (zi 15), (zi 1), (zi 7), (zi 8), (zi 4), (zi 12), (zi 3), (zi 14)]) (.ask (in1 r1 (((JE [i0, (zi 15), (zi 1), (zi 7), (zi 8), (zi 4), (zi 12), (zi 3), (zi 14)]).length : Nat) : Int)) (in1 r1 (([i0, (zi 15), (zi 1), (zi 7), (zi 8), (zi 4), (zi 12), (zi 3), (zi 14)].length : Nat) : Int)) (.row ((JE [i0, (zi 15), (zi 1), (zi 7), (zi 8), (zi 4), (zi 12), (zi 3), (zi 14)])[(Int.toNat r1)]?) ([i0, (zi 15), (zi 1), (zi 7), (zi 8), (zi 4), (zi 12), (zi 3), (zi 14)][(Int.toNat r1)]?) Z1 fun (e10 : Int) => (rt Ue e10)) .fail))) (.as (eqS a0 s_I4) (.rows [[xi i0], [xi (zi 15)], [xi (zi 1)], [xi (zi 7)], [xi (zi 8)], [xi (zi 4)], [xi (zi 12)], [xi (zi 3)], [xi (zi 14)]] (JE [i0, (zi 15), (zi 1), (zi 7), (zi 8), (zi 4), (zi 12), (zi 3), (zi 14)]) (.ask (in1 r1 (((JE [i0, (zi 15), (zi 1), (zi 7), (zi 8), (zi 4), (zi 12), (zi 3), (zi 14)]).length : Nat) : Int)) (in1 r1 (([i0, (zi 15), (zi 1), (zi 7), (zi 8), (zi 4), (zi 12), (zi 3), (zi 14)].length : Nat) : Int)) (.row ((JE [i0, (zi 15), (zi 1), (zi 7), (zi 8), (zi 4), (zi 12), (zi 3), (zi 14)])[(Int.toNat r1)]?) ([i0, (zi 15), (zi 1), (zi 7), (zi 8), (zi 4), (zi 12), (zi 3), (zi 14)][(Int.toNat r1)]?) Z1 fun (e11 : Int) => (rt Ue e11)) .fail)) (.as (eqS a0 s_M2) (.rows [[xi i0], [xi (zi 15)], [xi (zi 1)], [xi (zi 7)], [xi (zi 8)], [xi (zi 4)], [xi (zi 12)], [xi (zi 3)], [xi (zi 14)]] (JE [i0, (zi 15), (zi 1), (zi 7), (zi 8), (zi 4), (zi 12), (zi 3), (zi 14)]) (.ask (in1 r1 (((JE [i0, (zi 15), (zi 1), (zi 7), (zi 8), (zi 4), (zi 12), (zi 3), (zi 14)]).length : Nat) : Int)) (in1 r1 (([i0, (zi 15), (zi 1), (zi 7), (zi 8), (zi 4), (zi 12), (zi 3), (zi 14)].length : Nat) : Int)) (.row ((JE [i0, (zi 15), (zi 1), (zi 7), (zi 8), (zi 4), (zi 12), (zi 3), (zi 14)])[(Int.toNat r1)]?) ([i0, (zi 15), (zi 1), (zi 7), (zi 8), (zi 4), (zi 12), (zi 3), (zi 14)][(Int.toNat r1)]?) Z1 fun (e12 : Int) => (rt Ue (w64 ((zi 2) * e12)))) .fail)) (.as (eqS a0 s_M4) (.rows [[xi i0], [xi (zi 15)], [xi (zi 1)], [xi (zi 7)], [xi (zi 8)], [xi (zi 4)], [xi (zi 12)], [xi (zi 3)], [xi (zi 14)]] (JE [i0, (zi 15), (zi 1), (zi 7), (zi 8), (zi 4), (zi 12), (zi 3), (zi 14)]) (.ask (in1 r1 (((JE [i0, (zi 15), (zi 1), (zi 7), (zi 8), (zi 4), (zi 12), (zi 3), (zi 14)]).length : Nat) : Int)) (in1 r1 (([i0, (zi 15), (zi 1), (zi 7), (zi 8), (zi 4), (zi 12), (zi 3), (zi 14)].length : Nat) : Int)) (.row ((JE [i0, (zi 15), (zi 1), (zi 7), (zi 8), (zi 4), (zi 12), (zi 3), (zi 14)])[(Int.toNat r1)]?) ([i0, (zi 15), (zi 1), (zi 7), (zi 8), (zi 4), (zi 12), (zi 3), (zi 14)][(Int.toNat r1)]?) Z1 fun (e13 : Int) => (rt Ue (w64 ((zi 4) * e13)))) .fail)) (.as (eqS a0 s_O1) (.call (Ee w a1 (zi 2)) (C0 a1 (zi 2)) YR fun r14 => (rt Ue r14)) (let u96 := (eqS a0 s_I2); .as u96 (.yes u96 (.call (Ee w a1 (zi 4)) (C0 a1 (zi 4)) YR fun r15 => (rt Ue r15))) (.as (eqS a0 s_O2) (.call (Ee w a1 (zi 4)) (C0 a1 (zi 4)) YR fun r16 => (rt Ue r16)) (.as (eqS a0 s_T8) (.call (Ee w a1 (zi 256)) (C0 a1 (zi 256)) YR fun r17 => (rt Ue (w64 ((zi 2) * (w64 (r17 - 128)))))) (.as (eqS a0 Qzw) (.rows [[xi i0], [xi (zi 32767)], [xi (-32768 : Int)], [xi (-1 : Int)], [xi (zi 1)], [xi (zi 255)], [xi (-256 : Int)], [xi (zi 4660)], [xi (-4660 : Int)]] (JE [i0, (zi 32767), (-32768 : Int), (-1 : Int), (zi 1), (zi 255), (-256 : Int), (zi 4660), (-4660 : Int)]) (.ask (in1 r1 (((JE [i0, (zi 32767), (-32768 : Int), (-1 : Int), (zi 1), (zi 255), (-256 : Int), (zi 4660), (-4660 : Int)]).length : Nat) : Int)) (in1 r1 (([i0, (zi 32767), (-32768 : Int), (-1 : Int), (zi 1), (zi 255), (-256 : Int), (zi 4660), (-4660 : Int)].length : Nat) : Int)) (.row ((JE [i0, (zi 32767), (-32768 : Int), (-1 : Int), (zi 1), (zi 255), (-256 : Int), (zi 4660), (-4660 : Int)])[(Int.toNat r1)]?) ([i0, (zi 32767), (-32768 : Int), (-1 : Int), (zi 1), (zi 255), (-256 : Int), (zi 4660), (-4660 : Int)][(Int.toNat r1)]?) Z1 fun (e18 : Int) => (rt Ue e18)) .fail)) (.as (eqS a0 Qzv) (.call (Ee w a1 (zi 1048576)) (C0 a1 (zi 1048576)) YR fun r19 => (rt Ue (w64 (r19 - 524288)))) (.as (eqS a0 Qzx) (.call (Ee w a1 (zi 32768)) (C0 a1 (zi 32768)) YR fun r20 => (rt Ue (w64 ((zi 2) * (w64 (r20 - 16384)))))) (.as (eqS a0 Qch) (.call (Ee w a1 (zi 16777216)) (C0 a1 (zi 16777216)) YR fun r21 => (rt Ue (w64 ((zi 2) * (w64 (r21 - 8388608)))))) (.rows [[xi i0], [xi (zi 255)], [xi (zi 256)], [xi (zi 65280)], [xi (-1 : Int)], [xi (-2 : Int)], [xi (zi 16711680)], [xi (-256 : Int)], [xi (zi 2130706432)]] (JE [i0, (zi 255), (zi 256), (zi 65280), (-1 : Int), (-2 : Int), (zi 16711680), (-256 : Int), (zi 2130706432)]) (.ask (in1 r1 (((JE [i0, (zi 255), (zi 256), (zi 65280), (-1 : Int), (-2 : Int), (zi 16711680), (-256 : Int), (zi 2130706432)]).length : Nat) : Int)) (in1 r1 (([i0, (zi 255), (zi 256), (zi 65280), (-1 : Int), (-2 : Int), (zi 16711680), (-256 : Int), (zi 2130706432)].length : Nat) : Int)) (.row ((JE [i0, (zi 255), (zi 256), (zi 65280), (-1 : Int), (-2 : Int), (zi 16711680), (-256 : Int), (zi 2130706432)])[(Int.toNat r1)]?) ([i0, (zi 255), (zi 256), (zi 65280), (-1 : Int), (-2 : Int), (zi 16711680), (-256 : Int), (zi 2130706432)][(Int.toNat r1)]?) Z1 fun (e22 : Int) => (rt Ue e22)) .fail)))))))))))))))))))))))
theorem QtW (w : Cf) (C0 : S9) (a0 : ByteArray) (a1 : Int) : (Qea pp w C0 a0 a1).norm (bodyT pp w G 85 (Qd8 a0 a1).1 (Qd8 a0 a1).2) = Qea pp w C0 a0 a1 := by kernel_rfl
theorem QtX (P : Pg) (w : Cf) (lp : Lo) (C0 : S9) (K0 : Qp0 w C0) (a0 : ByteArray) (a1 : Int) : (Qea P w C0 a0 a1).ok lp Ue := fun r1 hr1 => ⟨K0 _ _ _ hr1, ⟨rfl, fun q0 => ⟨q0, ⟨(Vy [(0 : Int), (1 : Int), (7 : Int), (24 : Int), (31 : Int), (5 : Int), (28 : Int), (3 : Int), (30 : Int)]), ⟨(by rw [WI]), fun q1 => fun e2 h => ⟨WP h, rfl⟩, fun q1 => trivial⟩⟩⟩, fun q0 => ⟨rfl, fun q1 => ⟨(Vy [(0 : Int), (1 : Int), (7 : Int), (24 : Int), (31 : Int), (5 : Int), (28 : Int), (3 : Int), (30 : Int)]), ⟨(by rw [WI]), fun q2 => fun e3 h => ⟨WP h, rfl⟩, fun q2 => trivial⟩⟩, fun q1 => ⟨rfl, fun q2 => ⟨q2, ⟨(Vy [(0 : Int), (31 : Int), (1 : Int), (15 : Int), (16 : Int), (7 : Int), (30 : Int), (12 : Int), (3 : Int)]), ⟨(by rw [WI]), fun q3 => fun e4 h => ⟨WP h, rfl⟩, fun q3 => trivial⟩⟩⟩, fun q2 => ⟨rfl, fun q3 => ⟨q3, ⟨(Vy [(0 : Int), (31 : Int), (1 : Int), (15 : Int), (16 : Int), (7 : Int), (30 : Int), (12 : Int), (3 : Int)]), ⟨(by rw [WI]), fun q4 => fun e5 h => ⟨WP h, rfl⟩, fun q4 => trivial⟩⟩⟩, fun q3 => ⟨rfl, fun q4 => ⟨q4, ⟨(Vy [(0 : Int), (31 : Int), (1 : Int), (15 : Int), (16 : Int), (7 : Int), (30 : Int), (12 : Int), (3 : Int)]), ⟨(by rw [WI]), fun q5 => fun e6 h => ⟨WP h, rfl⟩, fun q5 => trivial⟩⟩⟩, fun q4 => ⟨rfl, fun q5 => ⟨(Vy [(0 : Int), (31 : Int), (1 : Int), (15 : Int), (16 : Int), (7 : Int), (30 : Int), (12 : Int), (3 : Int)]), ⟨(by rw [WI]), fun q6 => fun e7 h => ⟨WP h, rfl⟩, fun q6 => trivial⟩⟩, fun q5 => ⟨rfl, fun q6 => ⟨(Vy [(0 : Int), (127 : Int), (64 : Int), (1 : Int), (63 : Int), (100 : Int), (7 : Int), (15 : Int), (16 : Int)]), ⟨(by rw [WI]), fun q7 => fun e8 h => ⟨WP h, rfl⟩, fun q7 => trivial⟩⟩, fun q6 => ⟨rfl, fun q7 => ⟨(Vy [(1 : Int), (32 : Int), (2 : Int), (16 : Int), (31 : Int), (17 : Int), (8 : Int), (5 : Int), (30 : Int)]), ⟨(by rw [WI]), fun q8 => fun e9 h => ⟨WP h, rfl⟩, fun q8 => trivial⟩⟩, fun q7 => ⟨rfl, fun q8 => ⟨q8, ⟨(Vy [(0 : Int), (15 : Int), (1 : Int), (7 : Int), (8 : Int), (4 : Int), (12 : Int), (3 : Int), (14 : Int)]), ⟨(by rw [WI]), fun q9 => fun e10 h => ⟨WP h, rfl⟩, fun q9 => trivial⟩⟩⟩, fun q8 => ⟨rfl, fun q9 => ⟨(Vy [(0 : Int), (15 : Int), (1 : Int), (7 : Int), (8 : Int), (4 : Int), (12 : Int), (3 : Int), (14 : Int)]), ⟨(by rw [WI]), fun q10 => fun e11 h => ⟨WP h, rfl⟩, fun q10 => trivial⟩⟩, fun q9 => ⟨rfl, fun q10 => ⟨(Vy [(0 : Int), (15 : Int), (1 : Int), (7 : Int), (8 : Int), (4 : Int), (12 : Int), (3 : Int), (14 : Int)]), ⟨(by rw [WI]), fun q11 => fun e12 h => ⟨WP h, rfl⟩, fun q11 => trivial⟩⟩, fun q10 => ⟨rfl, fun q11 => ⟨(Vy [(0 : Int), (15 : Int), (1 : Int), (7 : Int), (8 : Int), (4 : Int), (12 : Int), (3 : Int), (14 : Int)]), ⟨(by rw [WI]), fun q12 => fun e13 h => ⟨WP h, rfl⟩, fun q12 => trivial⟩⟩, fun q11 => ⟨rfl, fun q12 => fun r14 hr14 => ⟨K0 _ _ _ hr14, rfl⟩, fun q12 => ⟨rfl, fun q13 => ⟨q13, fun r15 hr15 => ⟨K0 _ _ _ hr15, rfl⟩⟩, fun q13 => ⟨rfl, fun q14 => fun r16 hr16 => ⟨K0 _ _ _ hr16, rfl⟩, fun q14 => ⟨rfl, fun q15 => fun r17 hr17 => ⟨K0 _ _ _ hr17, rfl⟩, fun q15 => ⟨rfl, fun q16 => ⟨(Vy [(0 : Int), (32767 : Int), (-32768 : Int), (-1 : Int), (1 : Int), (255 : Int), (-256 : Int), (4660 : Int), (-4660 : Int)]), ⟨(by rw [WI]), fun q17 => fun e18 h => ⟨WP h, rfl⟩, fun q17 => trivial⟩⟩, fun q16 => ⟨rfl, fun q17 => fun r19 hr19 => ⟨K0 _ _ _ hr19, rfl⟩, fun q17 => ⟨rfl, fun q18 => fun r20 hr20 => ⟨K0 _ _ _ hr20, rfl⟩, fun q18 => ⟨rfl, fun q19 => fun r21 hr21 => ⟨K0 _ _ _ hr21, rfl⟩, fun q19 => ⟨(Vy [(0 : Int), (255 : Int), (256 : Int), (65280 : Int), (-1 : Int), (-2 : Int), (16711680 : Int), (-256 : Int), (2130706432 : Int)]), ⟨(by rw [WI]), fun q20 => fun e22 h => ⟨WP h, rfl⟩, fun q20 => trivial⟩⟩⟩⟩⟩⟩⟩⟩⟩⟩⟩⟩⟩⟩⟩⟩⟩⟩⟩⟩⟩⟩⟩
theorem QtY {C0 : Nat → S9} {D0 : S9} (H0 : Cv2 C0 D0) (a0 : ByteArray) (a1 : Int) : Cv (fun k => En (C0 k) a0 a1) (En D0 a0 a1) := by
  unfold En
  exact .bind (H0 _ _) fun r1 => .cond cst (.cond cst (.cond cst (.cond cst (.cond cst (.cond cst (.cond cst (.cond cst (.cond cst (.cond cst (.cond cst (.cond cst (.cond (.bind (H0 _ _) fun r14 => by exact .const _) (.cond (.bind (H0 _ _) fun r15 => by exact .const _) (.cond (.bind (H0 _ _) fun r16 => by exact .const _) (.cond (.bind (H0 _ _) fun r17 => by exact .const _) (.cond cst (.cond (.bind (H0 _ _) fun r19 => by exact .const _) (.cond (.bind (H0 _ _) fun r20 => by exact .const _) (.cond (.bind (H0 _ _) fun r21 => by exact .const _) cst)))))))))))))))))))
def Wo.s : Nat → ByteArray → Int → Option Int
  | 0, _, _ => none
  | k + 1, a0, a1 => En (X5.s k) a0 a1
theorem Wo.ok : ∀ (k : Nat), Qon (ev k) (Wo.s k)
  | 0, _, _, _, h => (nomatch h)
  | k + 1, a0, a1, r, h => fn_ok rfl (Qea pp (ev k) (X5.s k) a0 a1) (QtW _ _ a0 a1) (QtX _ _ _ _ (X5.ok k) a0 a1) h
noncomputable def Wo (a0 : ByteArray) (a1 : Int) : Option Int := En X5 a0 a1
theorem Wo.cv (a0 : ByteArray) (a1 : Int) : Cv (fun k => Wo.s k a0 a1) (Wo a0 a1) := .un rfl (QtY X5.cv a0 a1)
theorem Wo.eq (a0 : ByteArray) (a1 : Int) : Wo a0 a1 = En X5 a0 a1 := rfl
def Fj (r : Int) : AV × Heap := (xi r, [])
abbrev Y1 := Int → Int → Option Int
abbrev Qfs (a0 : Int) (a1 : Int) : List AV × Heap := ([xi a0, xi a1], [])
abbrev Qcc (w : Cf) (a0 : Int) (a1 : Int) : Option AH := w 161 (Qfs a0 a1).1 (Qfs a0 a1).2
abbrev QkC (w : Cf) (c : Y1) : Prop := ∀ (a0 : Int) (a1 : Int) (r : Int), c a0 a1 = some r → Qcc w a0 a1 = some (Fj r)
def Qi3 (a0 : Int) (a1 : Int) : Option Int := (bif (decide (a1 ≠ 0)) then (bif (decide ((Int.tmod a0 a1) < 0)) then (some (w64 ((Int.tmod a0 a1) + a1))) else (some (Int.tmod a0 a1))) else none)
def Qft (P : Pg) (w : Cf) (a0 : Int) (a1 : Int) : Tr Int AH := (.as (decide (a1 ≠ 0)) (.as (decide ((Int.tmod a0 a1) < 0)) (rt Fj (w64 ((Int.tmod a0 a1) + a1))) (rt Fj (Int.tmod a0 a1))) .fail)
theorem Qvp (w : Cf) (a0 : Int) (a1 : Int) : (Qft pp w a0 a1).norm (bodyT pp w G 161 (Qfs a0 a1).1 (Qfs a0 a1).2) = Qft pp w a0 a1 := by kernel_rfl
theorem Qvq (P : Pg) (w : Cf) (lp : Lo) (a0 : Int) (a1 : Int) : (Qft P w a0 a1).ok lp Fj := ⟨rfl, fun q0 => ⟨rfl, fun q1 => rfl, fun q1 => rfl⟩, fun q0 => trivial⟩
def Vl.s : Nat → Int → Int → Option Int
  | 0, _, _ => none
  | k + 1, a0, a1 => Qi3 a0 a1
theorem Vl.ok : ∀ (k : Nat), QkC (ev k) (Vl.s k)
  | 0, _, _, _, h => (nomatch h)
  | k + 1, a0, a1, r, h => fn_ok rfl (Qft pp (ev k) a0 a1) (Qvp _ a0 a1) (Qvq _ _ _ a0 a1) h
noncomputable def Vl (a0 : Int) (a1 : Int) : Option Int := Qi3 a0 a1
theorem Vl.cv (a0 : Int) (a1 : Int) : Cv (fun k => Vl.s k a0 a1) (Vl a0 a1) := .un rfl (by exact .const _)
theorem Vl.eq (a0 : Int) (a1 : Int) : Vl a0 a1 = Qi3 a0 a1 := rfl
def QgM (r : (List ByteArray)) : AV × Heap := (.sl (Qh r), [])
abbrev Qbc := Option (List ByteArray)
abbrev QgN : List AV × Heap := ([], [])
abbrev Qp1 (w : Cf) : Option AH := w 162 (QgN ).1 (QgN ).2
abbrev QrF (w : Cf) (c : Qbc) : Prop := ∀ (r : (List ByteArray)), c = some r → Qp1 w = some (QgM r)
def QkD : Option (List ByteArray) := (some [QfA, s_x, QcU, s_r])
def QgO (P : Pg) (w : Cf) : Tr (List ByteArray) AH := (.rows [[xs QfA], [xs s_x], [xs QcU], [xs s_r]] (Qh [QfA, s_x, QcU, s_r]) (rt QgM [QfA, s_x, QcU, s_r]))
theorem QwZ (w : Cf) : (QgO pp w ).norm (bodyT pp w G 162 (QgN ).1 (QgN ).2) = QgO pp w := by kernel_rfl
theorem Qw0 (P : Pg) (w : Cf) (lp : Lo) : (QgO P w ).ok lp QgM := ⟨(Jv [QfA, s_x, QcU, s_r]), rfl⟩
def Zc.s : Nat → Option (List ByteArray)
  | 0 => none
  | k + 1 => QkD
theorem Zc.ok : ∀ (k : Nat), QrF (ev k) (Zc.s k)
  | 0, _, h => (nomatch h)
  | k + 1, r, h => fn_ok rfl (QgO pp (ev k) ) (QwZ _ ) (Qw0 _ _ _ ) h
noncomputable def Zc : Option (List ByteArray) := QkD
theorem Zc.cv : Cv (fun k => Zc.s k ) (Zc ) := .un rfl (by exact .const _)
theorem Zc.eq : Zc = QkD := rfl
def EQ (r : Qa) : AV × Heap := (.agg (QZ r), [])
def Zs (r : Qa) : AV × Heap := (.agg (QZ r), [])
abbrev FM := Qr → Int → Option Qa
abbrev Qcs (a0 : Qr) (a1 : Int) : List AV × Heap := ([.agg (PO a0), xi a1], [])
abbrev Qct (w : Cf) (a0 : Qr) (a1 : Int) : Option AH := w 163 (Qcs a0 a1).1 (Qcs a0 a1).2
abbrev QmY (w : Cf) (c : FM) : Prop := ∀ (a0 : Qr) (a1 : Int) (r : Qa), c a0 a1 = some r → Qct w a0 a1 = some (EQ r)
abbrev Xt := Qr → Option Qa
abbrev Qcu (a0 : Qr) : List AV × Heap := ([.agg (PO a0)], [])
abbrev Qgb (w : Cf) (a0 : Qr) : Option AH := w 108 (Qcu a0).1 (Qcu a0).2
abbrev Qeb (w : Cf) (c : Xt) : Prop := ∀ (a0 : Qr) (r : Qa), c a0 = some r → Qgb w a0 = some (Zs r)
def Ph (C0 : Xt) (C1 : Y1) (a0 : Qr) (a1 : Int) : Option Qa := (bif (decide (a1 < (((a0.L.length) : Nat) : Int))) then (bif (decide (0 ≤ a1)) then ((a0.L[(Int.toNat a1)]?).bind fun e1 => ((C0 e1).bind fun r2 => (some r2))) else none) else ((C1 (w64 (a0.N + a1)) (5 : Int)).bind fun r3 => (some (Qa.mk (1 : Int) r3 s_ ([] : List Qa)))))
def Qcv (P : Pg) (w : Cf) (C0 : Xt) (C1 : Y1) (a0 : Qr) (a1 : Int) : Tr Qa AH := (.num ((WU a0.L).length) (a0.L.length) (.as (decide (a1 < (((a0.L.length) : Nat) : Int))) (.as (decide (0 ≤ a1)) (.row ((WU a0.L)[(Int.toNat a1)]?) (a0.L[(Int.toNat a1)]?) PO fun (e1 : Qr) => (.call (Qgb w e1) (C0 e1) Zs fun r2 => (rt EQ r2))) .fail) (.call (Qcc w (w64 (a0.N + a1)) (zi 5)) (C1 (w64 (a0.N + a1)) (zi 5)) Fj fun r3 => (rt EQ (Qa.mk (zi 1) r3 s_ ([] : List Qa))))))
theorem QsA (w : Cf) (C0 : Xt) (C1 : Y1) (a0 : Qr) (a1 : Int) : (Qcv pp w C0 C1 a0 a1).norm (bodyT pp w G 163 (Qcs a0 a1).1 (Qcs a0 a1).2) = Qcv pp w C0 C1 a0 a1 := by kernel_rfl
theorem QsB (P : Pg) (w : Cf) (lp : Lo) (C0 : Xt) (C1 : Y1) (K0 : Qeb w C0) (K1 : QkC w C1) (a0 : Qr) (a1 : Int) : (Qcv P w C0 C1 a0 a1).ok lp EQ := ⟨(QaL _), ⟨rfl, fun q0 => ⟨rfl, fun q1 => fun e1 h => ⟨Qg6 h, fun r2 hr2 => ⟨K0 _ _ hr2, rfl⟩⟩, fun q1 => trivial⟩, fun q0 => fun r3 hr3 => ⟨K1 _ _ _ hr3, rfl⟩⟩⟩
theorem Qlb {C0 : Nat → Xt} {D0 : Xt} (H0 : Cv1 C0 D0) {C1 : Nat → Y1} {D1 : Y1} (H1 : Cv2 C1 D1) (a0 : Qr) (a1 : Int) : Cv (fun k => Ph (C0 k) (C1 k) a0 a1) (Ph D0 D1 a0 a1) := by
  unfold Ph
  exact .cond (.cond (.bind (.const _) fun e1 => .bind (H0 _) fun r2 => by exact .const _) cst) (.bind (H1 _ _) fun r3 => by exact .const _)
def Pi (C0 : Y1) (C1 : Qbc) (C2 : FM) (a0 : Qr) : Option Qa := ((C0 a0.K (18 : Int)).bind fun r1 => (bif (decide (r1 < 4)) then ((C0 a0.N (8 : Int)).bind fun r2 => (bif (decide (0 ≤ r2 ∧ r2 < (([(0 : Int), (1 : Int), (2 : Int), (255 : Int), (65536 : Int), (4294967295 : Int), (40 : Int), (7 : Int)].length : Nat) : Int))) then (([(0 : Int), (1 : Int), (2 : Int), (255 : Int), (65536 : Int), (4294967295 : Int), (40 : Int), (7 : Int)][(Int.toNat r2)]?).bind fun e3 => (some (Qa.mk (1 : Int) e3 s_ ([] : List Qa)))) else none)) else (bif (decide (r1 < 8)) then ((C1).bind fun r4 => ((C0 a0.N (4 : Int)).bind fun r5 => (bif (decide (0 ≤ r5)) then ((r4[(Int.toNat r5)]?).bind fun e6 => (some (Qa.mk (2 : Int) (0 : Int) e6 ([] : List Qa)))) else none))) else (bif (r1 == 8) then (some (Qa.mk (3 : Int) (0 : Int) s_ ([] : List Qa))) else (bif (decide (r1 < 11)) then ((C2 a0 (0 : Int)).bind fun r7 => (some (Qa.mk (4 : Int) (0 : Int) s_ [r7]))) else ((C2 a0 (0 : Int)).bind fun r8 => ((C2 a0 (1 : Int)).bind fun r9 => (some (Qa.mk (w64 ((w64 ((5 : Int) + r1)) - 11)) (0 : Int) s_ [r8, r9])))))))))
def Qcw (P : Pg) (w : Cf) (C0 : Y1) (C1 : Qbc) (C2 : FM) (a0 : Qr) : Tr Qa AH := (.call (Qcc w a0.K (zi 18)) (C0 a0.K (zi 18)) Fj fun r1 => (.as (decide (r1 < 4)) (.rows [[xi i0], [xi (zi 1)], [xi (zi 2)], [xi (zi 255)], [xi (zi 65536)], [xi (zi 4294967295)], [xi (zi 40)], [xi (zi 7)]] (JE [i0, (zi 1), (zi 2), (zi 255), (zi 65536), (zi 4294967295), (zi 40), (zi 7)]) (.call (Qcc w a0.N (zi 8)) (C0 a0.N (zi 8)) Fj fun r2 => (.ask (in1 r2 (((JE [i0, (zi 1), (zi 2), (zi 255), (zi 65536), (zi 4294967295), (zi 40), (zi 7)]).length : Nat) : Int)) (in1 r2 (([i0, (zi 1), (zi 2), (zi 255), (zi 65536), (zi 4294967295), (zi 40), (zi 7)].length : Nat) : Int)) (.row ((JE [i0, (zi 1), (zi 2), (zi 255), (zi 65536), (zi 4294967295), (zi 40), (zi 7)])[(Int.toNat r2)]?) ([i0, (zi 1), (zi 2), (zi 255), (zi 65536), (zi 4294967295), (zi 40), (zi 7)][(Int.toNat r2)]?) Z1 fun (e3 : Int) => (rt Zs (Qa.mk (zi 1) e3 s_ ([] : List Qa)))) .fail))) (.as (decide (r1 < 8)) (.call (Qp1 w) (C1) QgM fun r4 => (.call (Qcc w a0.N (zi 4)) (C0 a0.N (zi 4)) Fj fun r5 => (.as (decide (0 ≤ r5)) (.row ((Qh r4)[(Int.toNat r5)]?) (r4[(Int.toNat r5)]?) JL fun (e6 : ByteArray) => (rt Zs (Qa.mk (zi 2) i0 e6 ([] : List Qa)))) .fail))) (.as (r1 == 8) (rt Zs (Qa.mk (zi 3) i0 s_ ([] : List Qa))) (.as (decide (r1 < 11)) (.call (Qct w a0 i0) (C2 a0 i0) EQ fun r7 => (.rows [[xi r7.Kind, xi r7.N, xs r7.Name, .sl (QY r7.L)]] (QY [r7]) (rt Zs (Qa.mk (zi 4) i0 s_ [r7])))) (.call (Qct w a0 i0) (C2 a0 i0) EQ fun r8 => (.call (Qct w a0 (zi 1)) (C2 a0 (zi 1)) EQ fun r9 => (.rows [[xi r8.Kind, xi r8.N, xs r8.Name, .sl (QY r8.L)], [xi r9.Kind, xi r9.N, xs r9.Name, .sl (QY r9.L)]] (QY [r8, r9]) (rt Zs (Qa.mk (w64 ((w64 ((zi 5) + r1)) - 11)) i0 s_ [r8, r9]))))))))))
theorem QsC (w : Cf) (C0 : Y1) (C1 : Qbc) (C2 : FM) (a0 : Qr) : (Qcw pp w C0 C1 C2 a0).norm (bodyT pp w G 108 (Qcu a0).1 (Qcu a0).2) = Qcw pp w C0 C1 C2 a0 := by kernel_rfl
theorem QsD (P : Pg) (w : Cf) (lp : Lo) (C0 : Y1) (C1 : Qbc) (C2 : FM) (K0 : QkC w C0) (K1 : QrF w C1) (K2 : QmY w C2) (a0 : Qr) : (Qcw P w C0 C1 C2 a0).ok lp Zs := fun r1 hr1 => ⟨K0 _ _ _ hr1, ⟨rfl, fun q0 => ⟨(Vy [(0 : Int), (1 : Int), (2 : Int), (255 : Int), (65536 : Int), (4294967295 : Int), (40 : Int), (7 : Int)]), fun r2 hr2 => ⟨K0 _ _ _ hr2, ⟨(by rw [WI]), fun q1 => fun e3 h => ⟨WP h, rfl⟩, fun q1 => trivial⟩⟩⟩, fun q0 => ⟨rfl, fun q1 => fun r4 hr4 => ⟨K1 _ hr4, fun r5 hr5 => ⟨K0 _ _ _ hr5, ⟨rfl, fun q2 => fun e6 h => ⟨Jo h, rfl⟩, fun q2 => trivial⟩⟩⟩, fun q1 => ⟨rfl, fun q2 => rfl, fun q2 => ⟨rfl, fun q3 => fun r7 hr7 => ⟨K2 _ _ _ hr7, ⟨(ZF [r7]), rfl⟩⟩, fun q3 => fun r8 hr8 => ⟨K2 _ _ _ hr8, fun r9 hr9 => ⟨K2 _ _ _ hr9, ⟨(ZF [r8, r9]), rfl⟩⟩⟩⟩⟩⟩⟩⟩
theorem Qlc {C0 : Nat → Y1} {D0 : Y1} (H0 : Cv2 C0 D0) {C1 : Nat → Qbc} {D1 : Qbc} (H1 : Cv C1 D1) {C2 : Nat → FM} {D2 : FM} (H2 : Cv2 C2 D2) (a0 : Qr) : Cv (fun k => Pi (C0 k) (C1 k) (C2 k) a0) (Pi D0 D1 D2 a0) := by
  unfold Pi
  exact .bind (H0 _ _) fun r1 => .cond (.bind (H0 _ _) fun r2 => by exact .const _) (.cond (.bind (H1) fun r4 => .bind (H0 _ _) fun r5 => by exact .const _) (.cond cst (.cond (.bind (H2 _ _) fun r7 => by exact .const _) (.bind (H2 _ _) fun r8 => .bind (H2 _ _) fun r9 => by exact .const _))))
mutual
def U3.s : Nat → Qr → Int → Option Qa
  | 0, _, _ => none
  | k + 1, a0, a1 => Ph (fun a0 => J9.s k a0) (Vl.s k) a0 a1
termination_by structural k => k
def J9.s : Nat → Qr → Option Qa
  | 0, _ => none
  | k + 1, a0 => Pi (Vl.s k) (Zc.s k) (fun a0 a1 => U3.s k a0 a1) a0
termination_by structural k => k
end
theorem Qie : ∀ (k : Nat), (QmY (ev k) (U3.s k)) ∧ (Qeb (ev k) (J9.s k))
  | 0 => ⟨fun _ _ _ h => (nomatch h), fun _ _ h => (nomatch h)⟩
  | k + 1 => by
    obtain ⟨i_w3_Raw_part, i_w3_Raw_Make⟩ := Qie k
    exact ⟨fun a0 a1 r h => fn_ok rfl (Qcv pp (ev k) (J9.s k) (Vl.s k) a0 a1) (QsA _ _ _ a0 a1) (QsB _ _ _ _ _ (i_w3_Raw_Make) (Vl.ok k) a0 a1) h,
      fun a0 r h => fn_ok rfl (Qcw pp (ev k) (Vl.s k) (Zc.s k) (U3.s k) a0) (QsC _ _ _ _ a0) (QsD _ _ _ _ _ _ (Vl.ok k) (Zc.ok k) (i_w3_Raw_part) a0) h⟩
theorem J9.ok (k : Nat) : Qeb (ev k) (J9.s k) := (Qie k).2
theorem QcF : ∀ (k : Nat), (∀ (a0 : Qr) (a1 : Int), Le (U3.s k a0 a1) (U3.s (k + 1) a0 a1)) ∧ (∀ (a0 : Qr), Le (J9.s k a0) (J9.s (k + 1) a0))
  | 0 => ⟨fun _ _ _ h => (nomatch h), fun _ _ h => (nomatch h)⟩
  | k + 1 => by
    obtain ⟨i_w3_Raw_part, i_w3_Raw_Make⟩ := QcF k
    exact ⟨fun a0 a1 => (Qlb (tw1 (i_w3_Raw_Make)) (tw2 (fun a0 a1 => (Vl.cv a0 a1).1 k)) a0 a1).1 0,
      fun a0 => (Qlc (tw2 (fun a0 a1 => (Vl.cv a0 a1).1 k)) (.two (Zc.cv.1 k)) (tw2 (i_w3_Raw_part)) a0).1 0⟩
theorem U3.mono (k : Nat) : ∀ (a0 : Qr) (a1 : Int), Le (U3.s k a0 a1) (U3.s (k + 1) a0 a1) := (QcF k).1
theorem J9.mono (k : Nat) : ∀ (a0 : Qr), Le (J9.s k a0) (J9.s (k + 1) a0) := (QcF k).2
noncomputable def U3 (a0 : Qr) (a1 : Int) : Option Qa := lim fun k => U3.s k a0 a1
theorem U3.cv (a0 : Qr) (a1 : Int) : Cv (fun k => U3.s k a0 a1) (U3 a0 a1) := .lim fun k => U3.mono k a0 a1
noncomputable def J9 (a0 : Qr) : Option Qa := lim fun k => J9.s k a0
theorem J9.cv (a0 : Qr) : Cv (fun k => J9.s k a0) (J9 a0) := .lim fun k => J9.mono k a0
theorem U3.eq (a0 : Qr) (a1 : Int) : U3 a0 a1 = Ph J9 Vl a0 a1 := Cv.uniq (U3.cv a0 a1).shift (Qlb J9.cv Vl.cv a0 a1)
theorem J9.eq (a0 : Qr) : J9 a0 = Pi Vl Zc U3 a0 := Cv.uniq (J9.cv a0).shift (Qlc Vl.cv Zc.cv U3.cv a0)
def QcG (r : Qa) : AV × Heap := (.agg (QZ r), [])
abbrev W4 := (List Qr) → Option Qa
abbrev QkE (a0 : (List Qr)) : List AV × Heap := ([.sl (WU a0)], [])
abbrev QkF (w : Cf) (a0 : (List Qr)) : Option AH := w 66 (QkE a0).1 (QkE a0).2
abbrev QjM (w : Cf) (c : W4) : Prop := ∀ (a0 : (List Qr)) (r : Qa), c a0 = some r → QkF w a0 = some (QcG r)
def QcH (C0 : Xt) (a0 : (List Qr)) : Option Qa := (bif ((((a0.length) : Nat) : Int) == 0) then (some (Qa.mk (1 : Int) (1 : Int) s_ ([] : List Qa))) else ((a0[(Int.toNat 0)]?).bind fun e1 => ((C0 e1).bind fun r2 => (some r2))))
def QkG (P : Pg) (w : Cf) (C0 : Xt) (a0 : (List Qr)) : Tr Qa AH := (.num ((WU a0).length) (a0.length) (.as ((((a0.length) : Nat) : Int) == 0) (rt QcG (Qa.mk (zi 1) (zi 1) s_ ([] : List Qa))) (.yes (decide (0 ≤ i0)) (.row ((WU a0)[(Int.toNat 0)]?) (a0[(Int.toNat 0)]?) PO fun (e1 : Qr) => (.call (Qgb w e1) (C0 e1) Zs fun r2 => (rt QcG r2))))))
theorem QyX (w : Cf) (C0 : Xt) (a0 : (List Qr)) : (QkG pp w C0 a0).norm (bodyT pp w G 66 (QkE a0).1 (QkE a0).2) = QkG pp w C0 a0 := by kernel_rfl
theorem QyY (P : Pg) (w : Cf) (lp : Lo) (C0 : Xt) (K0 : Qeb w C0) (a0 : (List Qr)) : (QkG P w C0 a0).ok lp QcG := ⟨(QaL _), ⟨rfl, fun q0 => rfl, fun q0 => ⟨rfl, fun e1 h => ⟨Qg6 h, fun r2 hr2 => ⟨K0 _ _ hr2, rfl⟩⟩⟩⟩⟩
theorem QyZ {C0 : Nat → Xt} {D0 : Xt} (H0 : Cv1 C0 D0) (a0 : (List Qr)) : Cv (fun k => QcH (C0 k) a0) (QcH D0 a0) := by
  unfold QcH
  exact .cond cst (.bind (.const _) fun e1 => .bind (H0 _) fun r2 => by exact .const _)
def Wr.s : Nat → (List Qr) → Option Qa
  | 0, _ => none
  | k + 1, a0 => QcH (J9.s k) a0
theorem Wr.ok : ∀ (k : Nat), QjM (ev k) (Wr.s k)
  | 0, _, _, h => (nomatch h)
  | k + 1, a0, r, h => fn_ok rfl (QkG pp (ev k) (J9.s k) a0) (QyX _ _ a0) (QyY _ _ _ _ (J9.ok k) a0) h
noncomputable def Wr (a0 : (List Qr)) : Option Qa := QcH J9 a0
theorem Wr.cv (a0 : (List Qr)) : Cv (fun k => Wr.s k a0) (Wr a0) := .un rfl (QyZ J9.cv a0)
theorem Wr.eq (a0 : (List Qr)) : Wr a0 = QcH J9 a0 := rfl
def V0 (r : (List ByteArray)) : AV × Heap := (.sl (Qh r), [])
abbrev Vo := Option (List ByteArray)
abbrev Qfu : List AV × Heap := ([], [])
abbrev Ws (w : Cf) : Option AH := w 64 (Qfu ).1 (Qfu ).2
abbrev Qec (w : Cf) (c : Vo) : Prop := ∀ (r : (List ByteArray)), c = some r → Ws w = some (V0 r)
def Qi4 : Option (List ByteArray) := (some [s_a, s_b1, Qde, s_x])
def Qfv (P : Pg) (w : Cf) : Tr (List ByteArray) AH := (.rows [[xs s_a], [xs s_b1], [xs Qde], [xs s_x]] (Qh [s_a, s_b1, Qde, s_x]) (rt V0 [s_a, s_b1, Qde, s_x]))
theorem Qvr (w : Cf) : (Qfv pp w ).norm (bodyT pp w G 64 (Qfu ).1 (Qfu ).2) = Qfv pp w := by kernel_rfl
theorem Qvs (P : Pg) (w : Cf) (lp : Lo) : (Qfv P w ).ok lp V0 := ⟨(Jv [s_a, s_b1, Qde, s_x]), rfl⟩
def Up.s : Nat → Option (List ByteArray)
  | 0 => none
  | k + 1 => Qi4
theorem Up.ok : ∀ (k : Nat), Qec (ev k) (Up.s k)
  | 0, _, h => (nomatch h)
  | k + 1, r, h => fn_ok rfl (Qfv pp (ev k) ) (Qvr _ ) (Qvs _ _ _ ) h
noncomputable def Up : Option (List ByteArray) := Qi4
theorem Up.cv : Cv (fun k => Up.s k ) (Up ) := .un rfl (by exact .const _)
theorem Up.eq : Up = Qi4 := rfl
def YS (r : ByteArray) : AV × Heap := (xs r, [])
abbrev Uv := Int → Option ByteArray
abbrev Qfw (a0 : Int) : List AV × Heap := ([xi a0], [])
abbrev Fk (w : Cf) (a0 : Int) : Option AH := w 40 (Qfw a0).1 (Qfw a0).2
abbrev Qaa (w : Cf) (c : Uv) : Prop := ∀ (a0 : Int) (r : ByteArray), c a0 = some r → Fk w a0 = some (YS r)
def P9 (C0 : Uv) (a0 : Int) : Option ByteArray := (bif (decide (a0 < 0)) then ((C0 (w64 ((0 : Int) - a0))).bind fun r1 => (bif (decide (((h_2d.size + r1.size : Nat) : Int) ≤ IntKind.i64.max)) then (some (h_2d ++ r1)) else none)) else (bif (decide (a0 ≥ 10)) then ((C0 (w64 (Int.tdiv a0 (10 : Int)))).bind fun r2 => ((C0 (Int.tmod a0 (10 : Int))).bind fun r3 => (bif (decide (((r2.size + r3.size : Nat) : Int) ≤ IntKind.i64.max)) then (some (r2 ++ r3)) else none))) else ((some (listB [(IntKind.u8.wrap (w64 ((48 : Int) + a0)))])).bind fun e4 => (some (⟨e4.toArray⟩ : ByteArray)))))
def Qfx (P : Pg) (w : Cf) (C0 : Uv) (a0 : Int) : Tr ByteArray AH := (.as (decide (a0 < 0)) (.call (Fk w (w64 (i0 - a0))) (C0 (w64 (i0 - a0))) YS fun r1 => (.as (decide (((h_2d.size + r1.size : Nat) : Int) ≤ IntKind.i64.max)) (rt YS (h_2d ++ r1)) .fail)) (.as (decide (a0 ≥ 10)) (.yes (decide ((zi 10) ≠ 0)) (.call (Fk w (w64 (Int.tdiv a0 (zi 10)))) (C0 (w64 (Int.tdiv a0 (zi 10)))) YS fun r2 => (.yes (decide ((zi 10) ≠ 0)) (.call (Fk w (Int.tmod a0 (zi 10))) (C0 (Int.tmod a0 (zi 10))) YS fun r3 => (.as (decide (((r2.size + r3.size : Nat) : Int) ≤ IntKind.i64.max)) (rt YS (r2 ++ r3)) .fail))))) (.rows [[xb (IntKind.u8.wrap (w64 ((zi 48) + a0)))]] (R_u8 [(IntKind.u8.wrap (w64 ((zi 48) + a0)))]) (.byt (bytesOfRows (R_u8 [(IntKind.u8.wrap (w64 ((zi 48) + a0)))])) (some (listB [(IntKind.u8.wrap (w64 ((zi 48) + a0)))])) fun (e4 : List UInt8) => (rt YS (⟨e4.toArray⟩ : ByteArray))))))
theorem Qvt (w : Cf) (C0 : Uv) (a0 : Int) : (Qfx pp w C0 a0).norm (bodyT pp w G 40 (Qfw a0).1 (Qfw a0).2) = Qfx pp w C0 a0 := by kernel_rfl
theorem Qvu (P : Pg) (w : Cf) (lp : Lo) (C0 : Uv) (K0 : Qaa w C0) (a0 : Int) : (Qfx P w C0 a0).ok lp YS := ⟨rfl, fun q0 => fun r1 hr1 => ⟨K0 _ _ hr1, ⟨rfl, fun q1 => rfl, fun q1 => trivial⟩⟩, fun q0 => ⟨rfl, fun q1 => ⟨rfl, fun r2 hr2 => ⟨K0 _ _ hr2, ⟨rfl, fun r3 hr3 => ⟨K0 _ _ hr3, ⟨rfl, fun q2 => rfl, fun q2 => trivial⟩⟩⟩⟩⟩, fun q1 => ⟨(QyN [(IntKind.u8.wrap (w64 ((48 : Int) + a0)))]), fun e4 he4 => ⟨(QxF _).trans he4, rfl⟩⟩⟩⟩
theorem Qoo {C0 : Nat → Uv} {D0 : Uv} (H0 : Cv1 C0 D0) (a0 : Int) : Cv (fun k => P9 (C0 k) a0) (P9 D0 a0) := by
  unfold P9
  exact .cond (.bind (H0 _) fun r1 => by exact .const _) (.cond (.bind (H0 _) fun r2 => .bind (H0 _) fun r3 => by exact .const _) cst)
def Jf.s : Nat → Int → Option ByteArray
  | 0, _ => none
  | k + 1, a0 => P9 (fun a0 => Jf.s k a0) a0
termination_by structural k => k
theorem Qld : ∀ (k : Nat), Qaa (ev k) (Jf.s k)
  | 0 => fun _ _ h => (nomatch h)
  | k + 1 => by
    have i_r3_Digits := Qld k
    exact fun a0 r h => fn_ok rfl (Qfx pp (ev k) (Jf.s k) a0) (Qvt _ _ a0) (Qvu _ _ _ _ (i_r3_Digits) a0) h
theorem Jf.ok (k : Nat) : Qaa (ev k) (Jf.s k) := (Qld k)
theorem QjN : ∀ (k : Nat), (∀ (a0 : Int), Le (Jf.s k a0) (Jf.s (k + 1) a0))
  | 0 => fun _ _ h => (nomatch h)
  | k + 1 => by
    have i_r3_Digits := QjN k
    exact fun a0 => (Qoo (tw1 (i_r3_Digits)) a0).1 0
theorem Jf.mono (k : Nat) : ∀ (a0 : Int), Le (Jf.s k a0) (Jf.s (k + 1) a0) := (QjN k)
noncomputable def Jf (a0 : Int) : Option ByteArray := lim fun k => Jf.s k a0
theorem Jf.cv (a0 : Int) : Cv (fun k => Jf.s k a0) (Jf a0) := .lim fun k => Jf.mono k a0
theorem Jf.eq (a0 : Int) : Jf a0 = P9 Jf a0 := Cv.uniq (Jf.cv a0).shift (Qoo Jf.cv a0)
def FN (r : Qd) : AV × Heap := (.tup [], [(0, .box [] (Uo r))])
abbrev V8 := Qd → Option Qd
abbrev Qab (h0 : Qd) : List AV × Heap := ([.ptr 0 0], [(0, .box [] (Uo h0))])
abbrev QcI (w : Cf) (h0 : Qd) : Option AH := w 160 (Qab h0).1 (Qab h0).2
abbrev Qed (w : Cf) (c : V8) : Prop := ∀ (h0 : Qd) (r : Qd), c h0 = some r → QcI w h0 = some (FN r)
def Zj (a : Qd) : St := { n := 31, nx := 1, env := [(0, .ptr 0 0)], heap := [(0, .box [] (Uo a))] }
def Zk (a : Qd) : Ex × St := (.exit 0, { n := 31, nx := 1, env := [], heap := [(0, .box [] (Uo a))] })
abbrev YE := Qd → Option Qd
abbrev QmZ (P : Pg) (lp : Lo) (l : YE) : Prop := ∀ (a : Qd) (r : Qd), l a = some r → lp (loopAt P 160 0) (Zj a) = some (Zk r)
def GD (a : Qd) : Option (Qd ⊕ Qd) := (bif (decide (a.P < ((a.S.size : Nat) : Int))) then (bif (decide (0 ≤ a.P ∧ a.P < ((a.S.size : Nat) : Int))) then (bif (((a.S.data.getD (Int.toNat a.P) 0).toNat : Int) == 32) then (some (.inl (Qd.mk a.S (w64 (a.P + 1)) a.Deep a.Bad))) else (some (.inr a))) else none) else (some (.inr a)))
def F7 (P : Pg) (w : Cf) (a : Qd) : Tr (Qd ⊕ Qd) XS := (let u102 := (decide (a.P < (zz a.S))); .as u102 (yesN 8 u102 (.as (in1 a.P (zz a.S)) (yesN 2 u102 (.as ((gb a.S a.P) == 32) (lf Zj (Qd.mk a.S (w64 (a.P + 1)) a.Deep a.Bad)) (rx Zk a))) .fail)) (noN 10 u102 (.no false (rx Zk a))))
theorem QlF (w : Cf) (a : Qd) : (F7 pp w a).norm (roundT pp G.kd w 1 (G.an 160) (loopAt pp 160 0) (Zj a)) = F7 pp w a := by kernel_rfl
theorem QlG (P : Pg) (w : Cf) (lp : Lo) (a : Qd) : (F7 P w a).ok lp (Sum.elim (fun a => (.norm, Zj a)) Zk) := ⟨rfl, fun q0 => Qj 8 (q0) (⟨rfl, fun q1 => Qj 2 (q0) (⟨rfl, fun q2 => rfl, fun q2 => rfl⟩), fun q1 => trivial⟩), fun q0 => noN_ok 10 (q0) (⟨rfl, rfl⟩)⟩
def Uj.s (k : Nat) : Qd → Option Qd := iter (GD ) k
theorem QkH (w : Cf) (k : Nat) (a : Qd) (r : Qd) (h : Uj.s k a = some r) : loopsF pp G.kd w 1 (G.an 160) k (loopAt pp 160 0) (Zj a) = some (Zk r) :=
  Va (fun a => F7 pp w a) (fun _ => rfl) (fun a => QlF w a) (fun a => QlG _ w _ a) (fun r => nofun) h
noncomputable def Uj.w : Qd → Option Qd := loopW (GD )
theorem Uj.cv (a : Qd) : Cv (fun k => Uj.s k a) (Uj.w a) := Cv.iter (fun a => by exact .const _) a
def ZA (L0 : YE) (h0 : Qd) : Option Qd := ((L0 h0).bind (fun (o1 : Qd) => (some o1)))
def Qac (P : Pg) (w : Cf) (L0 : YE) (h0 : Qd) : Tr Qd AH := (.loop (loopAt P 160 0) (Zj h0) (L0 h0) Zk (fun (o1 : Qd) => (rt FN o1)))
theorem QoM (w : Cf) (L0 : YE) (h0 : Qd) : (Qac pp w L0 h0).norm (bodyT pp w G 160 (Qab h0).1 (Qab h0).2) = Qac pp w L0 h0 := by kernel_rfl
theorem QoN (P : Pg) (w : Cf) (lp : Lo) (L0 : YE) (N0 : QmZ P lp L0) (h0 : Qd) : (Qac P w L0 h0).ok lp FN := fun o1 ho1 => ⟨N0 _ _ ho1, rfl⟩
theorem QoO {L0 : Nat → YE} {M0 : YE} (N0 : Cv1 L0 M0) (h0 : Qd) : Cv (fun k => ZA (L0 k) h0) (ZA M0 h0) := by
  unfold ZA
  exact .bind (N0 _) (fun o1 => by exact .const _)
def J2.s : Nat → Qd → Option Qd
  | 0, _ => none
  | k + 1, h0 => ZA (Uj.s k) h0
theorem J2.ok : ∀ (k : Nat), Qed (ev k) (J2.s k)
  | 0, _, _, h => (nomatch h)
  | k + 1, h0, r, h => fn_ok rfl (Qac pp (ev k) (Uj.s k) h0) (QoM _ _ h0) (QoN _ _ _ _ (QkH _ k) h0) h
noncomputable def Uj : Qd → Option Qd := Uj.w
theorem Uj.eq (a : Qd) : Uj a = (GD a).bind (Sum.elim Uj some) := UN _ _
noncomputable def J2 (h0 : Qd) : Option Qd := ZA Uj h0
theorem J2.cv (h0 : Qd) : Cv (fun k => J2.s k h0) (J2 h0) := .un rfl (QoO (Uj.cv) h0)
theorem J2.eq (h0 : Qd) : J2 h0 = ZA Uj h0 := rfl
def Xu (r : (Bool × Qd)) : AV × Heap := (xo r.1, [(0, .box [] (Uo r.2))])
abbrev Ud := ByteArray → Qd → Option (Bool × Qd)
abbrev QbG (a1 : ByteArray) (h0 : Qd) : List AV × Heap := ([.ptr 0 0, xs a1], [(0, .box [] (Uo h0))])
abbrev GV (w : Cf) (a1 : ByteArray) (h0 : Qd) : Option AH := w 233 (QbG a1 h0).1 (QbG a1 h0).2
abbrev Qao (w : Cf) (c : Ud) : Prop := ∀ (a1 : ByteArray) (h0 : Qd) (r : (Bool × Qd)), c a1 h0 = some r → GV w a1 h0 = some (Xu r)
def GW (C0 : V8) (a1 : ByteArray) (h0 : Qd) : Option (Bool × Qd) := ((C0 h0).bind fun r1 => (bif (decide ((w64 (r1.P + ((a1.size : Nat) : Int))) > ((r1.S.size : Nat) : Int))) then (some (false, r1)) else (bif (decide (0 ≤ r1.P ∧ r1.P ≤ (w64 (r1.P + ((a1.size : Nat) : Int))) ∧ (w64 (r1.P + ((a1.size : Nat) : Int))) ≤ ((r1.S.size : Nat) : Int))) then (bif (!(eqS (r1.S.extract (Int.toNat r1.P) (Int.toNat (w64 (r1.P + ((a1.size : Nat) : Int))))) a1)) then (some (false, r1)) else (some (true, (Qd.mk r1.S (w64 (r1.P + ((a1.size : Nat) : Int))) r1.Deep r1.Bad)))) else none)))
def QbH (P : Pg) (w : Cf) (C0 : V8) (a1 : ByteArray) (h0 : Qd) : Tr (Bool × Qd) AH := (.call (QcI w h0) (C0 h0) FN fun r1 => (let u103 := (decide ((w64 (r1.P + (zz a1))) > (zz r1.S))); .as u103 (yesN 18 u103 (.yes true (rt Xu (false, r1)))) (noN 15 u103 (.as (in2 r1.P (w64 (r1.P + (zz a1))) (zz r1.S)) (noN 3 u103 (.as (!(eqS (cu r1.S r1.P (w64 (r1.P + (zz a1)))) a1)) (rt Xu (false, r1)) (rt Xu (true, (Qd.mk r1.S (w64 (r1.P + (zz a1))) r1.Deep r1.Bad))))) .fail))))
theorem QqY (w : Cf) (C0 : V8) (a1 : ByteArray) (h0 : Qd) : (QbH pp w C0 a1 h0).norm (bodyT pp w G 233 (QbG a1 h0).1 (QbG a1 h0).2) = QbH pp w C0 a1 h0 := by kernel_rfl
theorem QqZ (P : Pg) (w : Cf) (lp : Lo) (C0 : V8) (K0 : Qed w C0) (a1 : ByteArray) (h0 : Qd) : (QbH P w C0 a1 h0).ok lp Xu := fun r1 hr1 => ⟨K0 _ _ hr1, ⟨rfl, fun q0 => Qj 18 (q0) (⟨rfl, rfl⟩), fun q0 => noN_ok 15 (q0) (⟨rfl, fun q1 => noN_ok 3 (q0) (⟨rfl, fun q2 => rfl, fun q2 => rfl⟩), fun q1 => trivial⟩)⟩⟩
theorem Qq0 {C0 : Nat → V8} {D0 : V8} (H0 : Cv1 C0 D0) (a1 : ByteArray) (h0 : Qd) : Cv (fun k => GW (C0 k) a1 h0) (GW D0 a1 h0) := by
  unfold GW
  exact .bind (H0 _) fun r1 => by exact .const _
def JD.s : Nat → ByteArray → Qd → Option (Bool × Qd)
  | 0, _, _ => none
  | k + 1, a1, h0 => GW (J2.s k) a1 h0
theorem JD.ok : ∀ (k : Nat), Qao (ev k) (JD.s k)
  | 0, _, _, _, h => (nomatch h)
  | k + 1, a1, h0, r, h => fn_ok rfl (QbH pp (ev k) (J2.s k) a1 h0) (QqY _ _ a1 h0) (QqZ _ _ _ _ (J2.ok k) a1 h0) h
noncomputable def JD (a1 : ByteArray) (h0 : Qd) : Option (Bool × Qd) := GW J2 a1 h0
theorem JD.cv (a1 : ByteArray) (h0 : Qd) : Cv (fun k => JD.s k a1 h0) (JD a1 h0) := .un rfl (Qq0 J2.cv a1 h0)
theorem JD.eq (a1 : ByteArray) (h0 : Qd) : JD a1 h0 = GW J2 a1 h0 := rfl
def Yk (r : Int) : AV × Heap := (xi r, [])
abbrev Xa := Int → Int → Option Int
abbrev QgP (a0 : Int) (a1 : Int) : List AV × Heap := ([xb a0, xi a1], [])
abbrev QgQ (w : Cf) (a0 : Int) (a1 : Int) : Option AH := w 236 (QgP a0 a1).1 (QgP a0 a1).2
abbrev Qif (w : Cf) (c : Xa) : Prop := ∀ (a0 : Int) (a1 : Int) (r : Int), c a0 a1 = some r → QgQ w a0 a1 = some (Yk r)
def QbI (a0 : Int) (a1 : Int) : Option Int := (bif (decide (a0 ≥ 48)) then (bif (decide (a0 ≤ (57 : Int))) then (some (w64 (IntKind.u8.wrap (a0 - 48)))) else (bif (a1 == 16) then (bif (decide (a0 ≥ 97)) then (bif (decide (a0 ≤ (102 : Int))) then (some (w64 ((w64 (IntKind.u8.wrap (a0 - 97))) + 10))) else (some (-1 : Int))) else (some (-1 : Int))) else (some (-1 : Int)))) else (bif (a1 == 16) then (bif (decide (a0 ≥ 97)) then (bif (decide (a0 ≤ (102 : Int))) then (some (w64 ((w64 (IntKind.u8.wrap (a0 - 97))) + 10))) else (some (-1 : Int))) else (some (-1 : Int))) else (some (-1 : Int))))
def QgR (P : Pg) (w : Cf) (a0 : Int) (a1 : Int) : Tr Int AH := (let u108 := (decide (a0 ≥ 48)); .as u108 (yesN 2 u108 (.as (decide (a0 ≤ (zi 57))) (rt Yk (w64 (IntKind.u8.wrap (a0 - 48)))) (let u105 := (a1 == 16); .as u105 (yesN 2 u105 (let u104 := (decide (a0 ≥ 97)); .as u104 (yesN 2 u104 (.as (decide (a0 ≤ (zi 102))) (rt Yk (w64 ((w64 (IntKind.u8.wrap (a0 - 97))) + 10))) (rt Yk (-1 : Int)))) (noN 2 u104 (.no false (rt Yk (-1 : Int)))))) (noN 2 u105 (noN 4 false (rt Yk (-1 : Int))))))) (noN 2 u108 (.no false (let u107 := (a1 == 16); .as u107 (yesN 2 u107 (let u106 := (decide (a0 ≥ 97)); .as u106 (yesN 2 u106 (.as (decide (a0 ≤ (zi 102))) (rt Yk (w64 ((w64 (IntKind.u8.wrap (a0 - 97))) + 10))) (rt Yk (-1 : Int)))) (noN 2 u106 (.no false (rt Yk (-1 : Int)))))) (noN 2 u107 (noN 4 false (rt Yk (-1 : Int))))))))
theorem Qw1 (w : Cf) (a0 : Int) (a1 : Int) : (QgR pp w a0 a1).norm (bodyT pp w G 236 (QgP a0 a1).1 (QgP a0 a1).2) = QgR pp w a0 a1 := by kernel_rfl
theorem Qw2 (P : Pg) (w : Cf) (lp : Lo) (a0 : Int) (a1 : Int) : (QgR P w a0 a1).ok lp Yk := ⟨rfl, fun q0 => Qj 2 (q0) (⟨rfl, fun q1 => rfl, fun q1 => ⟨rfl, fun q2 => Qj 2 (q2) (⟨rfl, fun q3 => Qj 2 (q3) (⟨rfl, fun q4 => rfl, fun q4 => rfl⟩), fun q3 => noN_ok 2 (q3) (⟨rfl, rfl⟩)⟩), fun q2 => noN_ok 2 (q2) (noN_ok 4 (rfl) (rfl))⟩⟩), fun q0 => noN_ok 2 (q0) (⟨rfl, ⟨rfl, fun q1 => Qj 2 (q1) (⟨rfl, fun q2 => Qj 2 (q2) (⟨rfl, fun q3 => rfl, fun q3 => rfl⟩), fun q2 => noN_ok 2 (q2) (⟨rfl, rfl⟩)⟩), fun q1 => noN_ok 2 (q1) (noN_ok 4 (rfl) (rfl))⟩⟩)⟩
def Vc.s : Nat → Int → Int → Option Int
  | 0, _, _ => none
  | k + 1, a0, a1 => QbI a0 a1
theorem Vc.ok : ∀ (k : Nat), Qif (ev k) (Vc.s k)
  | 0, _, _, _, h => (nomatch h)
  | k + 1, a0, a1, r, h => fn_ok rfl (QgR pp (ev k) a0 a1) (Qw1 _ a0 a1) (Qw2 _ _ _ a0 a1) h
noncomputable def Vc (a0 : Int) (a1 : Int) : Option Int := QbI a0 a1
theorem Vc.cv (a0 : Int) (a1 : Int) : Cv (fun k => Vc.s k a0 a1) (Vc a0 a1) := .un rfl (by exact .const _)
theorem Vc.eq (a0 : Int) (a1 : Int) : Vc a0 a1 = QbI a0 a1 := rfl
def YF (r : (Qa × Qd)) : AV × Heap := (.agg (QZ r.1), [(0, .box [] (Uo r.2))])
abbrev Zd := Int → Qd → Option (Qa × Qd)
abbrev PH (a1 : Int) (h0 : Qd) : List AV × Heap := ([.ptr 0 0, xi a1], [(0, .box [] (Uo h0))])
abbrev Qbd (w : Cf) (a1 : Int) (h0 : Qd) : Option AH := w 235 (PH a1 h0).1 (PH a1 h0).2
abbrev Qgm (w : Cf) (c : Zd) : Prop := ∀ (a1 : Int) (h0 : Qd) (r : (Qa × Qd)), c a1 h0 = some r → Qbd w a1 h0 = some (YF r)
structure Q8 where
  x1 : Int
  x5 : Int
  x6 : Int
  h0 : Qd
  h1 : Qa
structure Ua where
  h0 : Qd
  h1 : Qa
structure JC where
  x5 : Int
  x6 : Int
  h0 : Qd
  h1 : Qa
def Yp (a : Q8) : St := { n := 74, nx := 2, env := [(0, .ptr 0 0), (1, xi a.x1), (4, .ptr 1 0), (5, xi a.x5), (6, xi a.x6)], heap := [(0, .box [] (Uo a.h0)), (1, .box [] (QZ a.h1))] }
def Qcd (a : Ua) : Ex × St := (.ret, { n := 74, nx := 2, env := [(4, .ptr 1 0)], heap := [(0, .box [] (Uo a.h0)), (1, .box [] (QZ a.h1))] })
def Qce (a : JC) : Ex × St := (.exit 0, { n := 74, nx := 2, env := [(0, .ptr 0 0), (4, .ptr 1 0), (5, xi a.x5), (6, xi a.x6)], heap := [(0, .box [] (Uo a.h0)), (1, .box [] (QZ a.h1))] })
def Yq (a : (Ua ⊕ JC)) : Ex × St := Sum.elim Qcd Qce a
abbrev XO := Q8 → Option (Ua ⊕ JC)
abbrev QkI (P : Pg) (lp : Lo) (l : XO) : Prop := ∀ (a : Q8) (r : (Ua ⊕ JC)), l a = some r → lp (loopAt P 235 2) (Yp a) = some (Yq r)
def V9 (C0 : Xa) (a : Q8) : Option (Q8 ⊕ (Ua ⊕ JC)) := (bif (decide (a.h0.P < ((a.h0.S.size : Nat) : Int))) then (bif (decide (0 ≤ a.h0.P ∧ a.h0.P < ((a.h0.S.size : Nat) : Int))) then ((C0 ((a.h0.S.data.getD (Int.toNat a.h0.P) 0).toNat : Int) a.x1).bind fun r1 => (bif (decide (r1 ≥ 0)) then ((C0 ((a.h0.S.data.getD (Int.toNat a.h0.P) 0).toNat : Int) a.x1).bind fun r2 => (bif (decide ((w64 ((w64 (a.x1 * a.x5)) + r2)) ≥ 4294967296)) then (some (.inr (.inl (Ua.mk (Qd.mk a.h0.S (w64 (a.h0.P + 1)) a.h0.Deep true) (Qa.mk (0 : Int) (0 : Int) s_ ([] : List Qa)))))) else (some (.inl (Q8.mk a.x1 (w64 ((w64 (a.x1 * a.x5)) + r2)) a.x6 (Qd.mk a.h0.S (w64 (a.h0.P + 1)) a.h0.Deep a.h0.Bad) a.h1))))) else (some (.inr (.inr (JC.mk a.x5 a.x6 a.h0 a.h1)))))) else none) else (some (.inr (.inr (JC.mk a.x5 a.x6 a.h0 a.h1)))))
def EF (P : Pg) (w : Cf) (C0 : Xa) (a : Q8) : Tr (Q8 ⊕ (Ua ⊕ JC)) XS := (let u110 := (decide (a.h0.P < (zz a.h0.S))); .as u110 (yesN 8 u110 (let u109 := (in1 a.h0.P (zz a.h0.S)); .as u109 (yesN 2 u110 (.call (QgQ w (gb a.h0.S a.h0.P) a.x1) (C0 (gb a.h0.S a.h0.P) a.x1) Yk fun r1 => (yesN 2 u110 (.as (decide (r1 ≥ 0)) (.yes u109 (.call (QgQ w (gb a.h0.S a.h0.P) a.x1) (C0 (gb a.h0.S a.h0.P) a.x1) Yk fun r2 => (.as (decide ((w64 ((w64 (a.x1 * a.x5)) + r2)) ≥ 4294967296)) (rx Yq (.inl (Ua.mk (Qd.mk a.h0.S (w64 (a.h0.P + 1)) a.h0.Deep true) (Qa.mk i0 i0 s_ ([] : List Qa))))) (lf Yp (Q8.mk a.x1 (w64 ((w64 (a.x1 * a.x5)) + r2)) a.x6 (Qd.mk a.h0.S (w64 (a.h0.P + 1)) a.h0.Deep a.h0.Bad) a.h1))))) (rx Yq (.inr (JC.mk a.x5 a.x6 a.h0 a.h1))))))) .fail)) (noN 12 u110 (.no false (rx Yq (.inr (JC.mk a.x5 a.x6 a.h0 a.h1))))))
theorem QjO (w : Cf) (C0 : Xa) (a : Q8) : (EF pp w C0 a).norm (roundT pp G.kd w 1 (G.an 235) (loopAt pp 235 2) (Yp a)) = EF pp w C0 a := by kernel_rfl
theorem QjP (P : Pg) (w : Cf) (lp : Lo) (C0 : Xa) (K0 : Qif w C0) (a : Q8) : (EF P w C0 a).ok lp (Sum.elim (fun a => (.norm, Yp a)) Yq) := ⟨rfl, fun q0 => Qj 8 (q0) (⟨rfl, fun q1 => Qj 2 (q0) (fun r1 hr1 => ⟨K0 _ _ _ hr1, Qj 2 (q0) (⟨rfl, fun q2 => ⟨q1, fun r2 hr2 => ⟨K0 _ _ _ hr2, ⟨rfl, fun q3 => rfl, fun q3 => rfl⟩⟩⟩, fun q2 => rfl⟩)⟩), fun q1 => trivial⟩), fun q0 => noN_ok 12 (q0) (⟨rfl, rfl⟩)⟩
theorem QjQ {C0 : Nat → Xa} {D0 : Xa} (H0 : Cv2 C0 D0) (a : Q8) : Cv (fun k => V9 (C0 k) a) (V9 D0 a) := by
  unfold V9
  exact .cond (.cond (.bind (H0 _ _) fun r1 => .cond (.bind (H0 _ _) fun r2 => by exact .const _) cst) cst) cst
def Q3.s (k : Nat) (C0 : Xa) : Q8 → Option (Ua ⊕ JC) := iter (V9 C0) k
theorem Qi5 (w : Cf) (k : Nat) (C0 : Xa) (K0 : Qif w C0) (a : Q8) (r : (Ua ⊕ JC)) (h : Q3.s k C0 a = some r) : loopsF pp G.kd w 1 (G.an 235) k (loopAt pp 235 2) (Yp a) = some (Yq r) :=
  Va (fun a => EF pp w C0 a) (fun _ => rfl) (fun a => QjO w _ a) (fun a => QjP _ w _ _ K0 a) (fun r => by cases r <;> nofun) h
noncomputable def Q3.w (C0 : Xa) : Q8 → Option (Ua ⊕ JC) := loopW (V9 C0)
theorem Q3.cv (C0 : Nat → Xa) (D0 : Xa) (H0 : Cv2 C0 D0) (a : Q8) : Cv (fun k => Q3.s k (C0 k) a) (Q3.w D0 a) := Cv.iter (fun a => QjQ H0 a) a
def Xx (L0 : XO) (a1 : Int) (h0 : Qd) : Option (Qa × Qd) := ((L0 (Q8.mk a1 (0 : Int) h0.P h0 (Qa.mk (0 : Int) (0 : Int) s_ ([] : List Qa)))).bind fun x => Sum.elim (fun (o1 : Ua) => (some (o1.h1, o1.h0))) (fun (o2 : JC) => (bif (o2.x6 == o2.h0.P) then (some ((Qa.mk (1 : Int) o2.x5 s_ ([] : List Qa)), (Qd.mk o2.h0.S o2.h0.P o2.h0.Deep true))) else (some ((Qa.mk (1 : Int) o2.x5 s_ ([] : List Qa)), o2.h0)))) x)
def PI (P : Pg) (w : Cf) (L0 : XO) (a1 : Int) (h0 : Qd) : Tr (Qa × Qd) AH := (.loop2 (loopAt P 235 2) (Yp (Q8.mk a1 i0 h0.P h0 (Qa.mk i0 i0 s_ ([] : List Qa)))) (L0 (Q8.mk a1 i0 h0.P h0 (Qa.mk i0 i0 s_ ([] : List Qa)))) Qcd Qce (fun (o1 : Ua) => (rt YF (o1.h1, o1.h0))) (fun (o2 : JC) => (.as (o2.x6 == o2.h0.P) (rt YF ((Qa.mk (zi 1) o2.x5 s_ ([] : List Qa)), (Qd.mk o2.h0.S o2.h0.P o2.h0.Deep true))) (rt YF ((Qa.mk (zi 1) o2.x5 s_ ([] : List Qa)), o2.h0)))))
theorem Qm0 (w : Cf) (L0 : XO) (a1 : Int) (h0 : Qd) : (PI pp w L0 a1 h0).norm (bodyT pp w G 235 (PH a1 h0).1 (PH a1 h0).2) = PI pp w L0 a1 h0 := by kernel_rfl
theorem Qm1 (P : Pg) (w : Cf) (lp : Lo) (L0 : XO) (N0 : QkI P lp L0) (a1 : Int) (h0 : Qd) : (PI P w L0 a1 h0).ok lp YF := ⟨fun o1 ho1 => ⟨N0 _ (.inl _) ho1, rfl⟩, fun o2 ho2 => ⟨N0 _ (.inr _) ho2, ⟨rfl, fun q0 => rfl, fun q0 => rfl⟩⟩⟩
theorem Qm2 {L0 : Nat → XO} {M0 : XO} (N0 : Cv1 L0 M0) (a1 : Int) (h0 : Qd) : Cv (fun k => Xx (L0 k) a1 h0) (Xx M0 a1 h0) := by
  unfold Xx
  exact .bind (N0 _) fun x => .sum (fun o1 => by exact .const _) (fun o2 => by exact .const _) x
def J3.s : Nat → Int → Qd → Option (Qa × Qd)
  | 0, _, _ => none
  | k + 1, a1, h0 => Xx (Q3.s k (Vc.s k)) a1 h0
theorem J3.ok : ∀ (k : Nat), Qgm (ev k) (J3.s k)
  | 0, _, _, _, h => (nomatch h)
  | k + 1, a1, h0, r, h => fn_ok rfl (PI pp (ev k) (Q3.s k (Vc.s k)) a1 h0) (Qm0 _ _ a1 h0) (Qm1 _ _ _ _ (Qi5 _ k _ (Vc.ok k)) a1 h0) h
noncomputable def Q3 : Q8 → Option (Ua ⊕ JC) := Q3.w Vc
theorem Q3.eq (a : Q8) : Q3 a = (V9 Vc a).bind (Sum.elim Q3 some) := UN _ _
noncomputable def J3 (a1 : Int) (h0 : Qd) : Option (Qa × Qd) := Xx Q3 a1 h0
theorem J3.cv (a1 : Int) (h0 : Qd) : Cv (fun k => J3.s k a1 h0) (J3 a1 h0) := .un rfl (Qm2 (Q3.cv (fun k => Vc.s k) Vc Vc.cv) a1 h0)
theorem J3.eq (a1 : Int) (h0 : Qd) : J3 a1 h0 = Xx Q3 a1 h0 := rfl
def GX (r : (Qa × Qd)) : AV × Heap := (.agg (QZ r.1), [(0, .box [] (Uo r.2))])
abbrev Gb := Qd → Option (Qa × Qd)
abbrev Qad (h0 : Qd) : List AV × Heap := ([.ptr 0 0], [(0, .box [] (Uo h0))])
abbrev QcJ (w : Cf) (h0 : Qd) : Option AH := w 237 (Qad h0).1 (Qad h0).2
abbrev Qig (w : Cf) (c : Gb) : Prop := ∀ (h0 : Qd) (r : (Qa × Qd)), c h0 = some r → QcJ w h0 = some (GX r)
structure Qz where
  x3 : Int
  h0 : Qd
  h1 : Qa
structure Jb where
  x3 : Int
  h0 : Qd
  h1 : Qa
def Vp (a : Qz) : St := { n := 111, nx := 2, env := [(0, .ptr 0 0), (2, .ptr 1 0), (3, xi a.x3)], heap := [(0, .box [] (Uo a.h0)), (1, .box [] (QZ a.h1))] }
def WG (a : Jb) : Ex × St := (.exit 0, { n := 111, nx := 2, env := [(0, .ptr 0 0), (2, .ptr 1 0), (3, xi a.x3)], heap := [(0, .box [] (Uo a.h0)), (1, .box [] (QZ a.h1))] })
abbrev YG := Qz → Option Jb
abbrev Qm3 (P : Pg) (lp : Lo) (l : YG) : Prop := ∀ (a : Qz) (r : Jb), l a = some r → lp (loopAt P 237 2) (Vp a) = some (WG r)
def GE (a : Qz) : Option (Qz ⊕ Jb) := (bif (decide (a.h0.P < ((a.h0.S.size : Nat) : Int))) then (bif (decide (0 ≤ a.h0.P ∧ a.h0.P < ((a.h0.S.size : Nat) : Int))) then (bif (decide (((a.h0.S.data.getD (Int.toNat a.h0.P) 0).toNat : Int) ≥ 97)) then (bif (decide (((a.h0.S.data.getD (Int.toNat a.h0.P) 0).toNat : Int) ≤ 122)) then (some (.inl (Qz.mk a.x3 (Qd.mk a.h0.S (w64 (a.h0.P + 1)) a.h0.Deep a.h0.Bad) a.h1))) else (bif (decide (((a.h0.S.data.getD (Int.toNat a.h0.P) 0).toNat : Int) ≥ 48)) then (bif (decide (((a.h0.S.data.getD (Int.toNat a.h0.P) 0).toNat : Int) ≤ 57)) then (some (.inl (Qz.mk a.x3 (Qd.mk a.h0.S (w64 (a.h0.P + 1)) a.h0.Deep a.h0.Bad) a.h1))) else (bif (((a.h0.S.data.getD (Int.toNat a.h0.P) 0).toNat : Int) == 95) then (some (.inl (Qz.mk a.x3 (Qd.mk a.h0.S (w64 (a.h0.P + 1)) a.h0.Deep a.h0.Bad) a.h1))) else (some (.inr (Jb.mk a.x3 a.h0 a.h1))))) else (bif (((a.h0.S.data.getD (Int.toNat a.h0.P) 0).toNat : Int) == 95) then (some (.inl (Qz.mk a.x3 (Qd.mk a.h0.S (w64 (a.h0.P + 1)) a.h0.Deep a.h0.Bad) a.h1))) else (some (.inr (Jb.mk a.x3 a.h0 a.h1)))))) else (bif (decide (((a.h0.S.data.getD (Int.toNat a.h0.P) 0).toNat : Int) ≥ 48)) then (bif (decide (((a.h0.S.data.getD (Int.toNat a.h0.P) 0).toNat : Int) ≤ 57)) then (some (.inl (Qz.mk a.x3 (Qd.mk a.h0.S (w64 (a.h0.P + 1)) a.h0.Deep a.h0.Bad) a.h1))) else (bif (((a.h0.S.data.getD (Int.toNat a.h0.P) 0).toNat : Int) == 95) then (some (.inl (Qz.mk a.x3 (Qd.mk a.h0.S (w64 (a.h0.P + 1)) a.h0.Deep a.h0.Bad) a.h1))) else (some (.inr (Jb.mk a.x3 a.h0 a.h1))))) else (bif (((a.h0.S.data.getD (Int.toNat a.h0.P) 0).toNat : Int) == 95) then (some (.inl (Qz.mk a.x3 (Qd.mk a.h0.S (w64 (a.h0.P + 1)) a.h0.Deep a.h0.Bad) a.h1))) else (some (.inr (Jb.mk a.x3 a.h0 a.h1)))))) else none) else (some (.inr (Jb.mk a.x3 a.h0 a.h1))))
def F8 (P : Pg) (w : Cf) (a : Qz) : Tr (Qz ⊕ Jb) XS := (let u118 := (decide (a.h0.P < (zz a.h0.S))); .as u118 (yesN 8 u118 (let u117 := (in1 a.h0.P (zz a.h0.S)); .as u117 (yesN 2 u118 (let u116 := (decide ((gb a.h0.S a.h0.P) ≥ 97)); .as u116 (yesN 8 u116 (.yes u117 (.yes u116 (.yes u118 (.yes u116 (.yes u118 (let u113 := (decide ((gb a.h0.S a.h0.P) ≤ 122)); .as u113 (yesN 11 u113 (.yes u118 (.yes u113 (.yes u118 (yesN 10 true (.yes u118 (.yes true (.yes u118 (.yes true (lf Vp (Qz.mk a.x3 (Qd.mk a.h0.S (w64 (a.h0.P + 1)) a.h0.Deep a.h0.Bad) a.h1))))))))))) (noN 8 u113 (.yes u117 (noN 2 u113 (let u112 := (decide ((gb a.h0.S a.h0.P) ≥ 48)); .as u112 (yesN 8 u112 (.yes u117 (.yes u112 (.no u113 (.yes u112 (.yes u118 (.no u113 (.yes u118 (let u111 := (decide ((gb a.h0.S a.h0.P) ≤ 57)); .as u111 (yesN 9 u111 (.yes u118 (.yes u111 (.yes u118 (.yes true (lf Vp (Qz.mk a.x3 (Qd.mk a.h0.S (w64 (a.h0.P + 1)) a.h0.Deep a.h0.Bad) a.h1))))))) (noN 8 u111 (.yes u117 (.no u111 (.yes u118 (.no u111 (.yes u118 (.as ((gb a.h0.S a.h0.P) == 95) (lf Vp (Qz.mk a.x3 (Qd.mk a.h0.S (w64 (a.h0.P + 1)) a.h0.Deep a.h0.Bad) a.h1)) (rx WG (Jb.mk a.x3 a.h0 a.h1)))))))))))))))))) (noN 9 u112 (.no u113 (.no u112 (.yes u118 (.no u113 (.yes u118 (noN 9 false (.yes u117 (.no false (.yes u118 (.no false (.yes u118 (.as ((gb a.h0.S a.h0.P) == 95) (lf Vp (Qz.mk a.x3 (Qd.mk a.h0.S (w64 (a.h0.P + 1)) a.h0.Deep a.h0.Bad) a.h1)) (rx WG (Jb.mk a.x3 a.h0 a.h1)))))))))))))))))))))))))) (noN 9 u116 (.yes u118 (.no u116 (.yes u118 (noN 9 false (.yes u117 (noN 2 false (let u115 := (decide ((gb a.h0.S a.h0.P) ≥ 48)); .as u115 (yesN 8 u115 (.yes u117 (.yes u115 (.no false (.yes u115 (.yes u118 (.no false (.yes u118 (let u114 := (decide ((gb a.h0.S a.h0.P) ≤ 57)); .as u114 (yesN 9 u114 (.yes u118 (.yes u114 (.yes u118 (.yes true (lf Vp (Qz.mk a.x3 (Qd.mk a.h0.S (w64 (a.h0.P + 1)) a.h0.Deep a.h0.Bad) a.h1))))))) (noN 8 u114 (.yes u117 (.no u114 (.yes u118 (.no u114 (.yes u118 (.as ((gb a.h0.S a.h0.P) == 95) (lf Vp (Qz.mk a.x3 (Qd.mk a.h0.S (w64 (a.h0.P + 1)) a.h0.Deep a.h0.Bad) a.h1)) (rx WG (Jb.mk a.x3 a.h0 a.h1)))))))))))))))))) (noN 9 u115 (.no false (.no u115 (.yes u118 (.no false (.yes u118 (noN 9 false (.yes u117 (.no false (.yes u118 (.no false (.yes u118 (.as ((gb a.h0.S a.h0.P) == 95) (lf Vp (Qz.mk a.x3 (Qd.mk a.h0.S (w64 (a.h0.P + 1)) a.h0.Deep a.h0.Bad) a.h1)) (rx WG (Jb.mk a.x3 a.h0 a.h1))))))))))))))))))))))))) .fail)) (noN 16 u118 (.no false (rx WG (Jb.mk a.x3 a.h0 a.h1)))))
theorem QlH (w : Cf) (a : Qz) : (F8 pp w a).norm (roundT pp G.kd w 1 (G.an 237) (loopAt pp 237 2) (Vp a)) = F8 pp w a := by kernel_rfl
theorem QlI (P : Pg) (w : Cf) (lp : Lo) (a : Qz) : (F8 P w a).ok lp (Sum.elim (fun a => (.norm, Vp a)) WG) := ⟨rfl, fun q0 => Qj 8 (q0) (⟨rfl, fun q1 => Qj 2 (q0) (⟨rfl, fun q2 => Qj 8 (q2) (⟨q1, ⟨q2, ⟨q0, ⟨q2, ⟨q0, ⟨rfl, fun q3 => Qj 11 (q3) (⟨q0, ⟨q3, ⟨q0, Qj 10 (rfl) (⟨q0, ⟨rfl, ⟨q0, ⟨rfl, rfl⟩⟩⟩⟩)⟩⟩⟩), fun q3 => noN_ok 8 (q3) (⟨q1, noN_ok 2 (q3) (⟨rfl, fun q4 => Qj 8 (q4) (⟨q1, ⟨q4, ⟨q3, ⟨q4, ⟨q0, ⟨q3, ⟨q0, ⟨rfl, fun q5 => Qj 9 (q5) (⟨q0, ⟨q5, ⟨q0, ⟨rfl, rfl⟩⟩⟩⟩), fun q5 => noN_ok 8 (q5) (⟨q1, ⟨q5, ⟨q0, ⟨q5, ⟨q0, ⟨rfl, fun q6 => rfl, fun q6 => rfl⟩⟩⟩⟩⟩⟩)⟩⟩⟩⟩⟩⟩⟩⟩), fun q4 => noN_ok 9 (q4) (⟨q3, ⟨q4, ⟨q0, ⟨q3, ⟨q0, noN_ok 9 (rfl) (⟨q1, ⟨rfl, ⟨q0, ⟨rfl, ⟨q0, ⟨rfl, fun q5 => rfl, fun q5 => rfl⟩⟩⟩⟩⟩⟩)⟩⟩⟩⟩⟩)⟩)⟩)⟩⟩⟩⟩⟩⟩), fun q2 => noN_ok 9 (q2) (⟨q0, ⟨q2, ⟨q0, noN_ok 9 (rfl) (⟨q1, noN_ok 2 (rfl) (⟨rfl, fun q3 => Qj 8 (q3) (⟨q1, ⟨q3, ⟨rfl, ⟨q3, ⟨q0, ⟨rfl, ⟨q0, ⟨rfl, fun q4 => Qj 9 (q4) (⟨q0, ⟨q4, ⟨q0, ⟨rfl, rfl⟩⟩⟩⟩), fun q4 => noN_ok 8 (q4) (⟨q1, ⟨q4, ⟨q0, ⟨q4, ⟨q0, ⟨rfl, fun q5 => rfl, fun q5 => rfl⟩⟩⟩⟩⟩⟩)⟩⟩⟩⟩⟩⟩⟩⟩), fun q3 => noN_ok 9 (q3) (⟨rfl, ⟨q3, ⟨q0, ⟨rfl, ⟨q0, noN_ok 9 (rfl) (⟨q1, ⟨rfl, ⟨q0, ⟨rfl, ⟨q0, ⟨rfl, fun q4 => rfl, fun q4 => rfl⟩⟩⟩⟩⟩⟩)⟩⟩⟩⟩⟩)⟩)⟩)⟩⟩⟩)⟩), fun q1 => trivial⟩), fun q0 => noN_ok 16 (q0) (⟨rfl, rfl⟩)⟩
def JX.s (k : Nat) : Qz → Option Jb := iter (GE ) k
theorem QkJ (w : Cf) (k : Nat) (a : Qz) (r : Jb) (h : JX.s k a = some r) : loopsF pp G.kd w 1 (G.an 237) k (loopAt pp 237 2) (Vp a) = some (WG r) :=
  Va (fun a => F8 pp w a) (fun _ => rfl) (fun a => QlH w a) (fun a => QlI _ w _ a) (fun r => nofun) h
noncomputable def JX.w : Qz → Option Jb := loopW (GE )
theorem JX.cv (a : Qz) : Cv (fun k => JX.s k a) (JX.w a) := Cv.iter (fun a => by exact .const _) a
def ZB (C0 : Qcz) (L1 : YG) (h0 : Qd) : Option (Qa × Qd) := ((L1 (Qz.mk h0.P h0 (Qa.mk (0 : Int) (0 : Int) s_ ([] : List Qa)))).bind (fun (o1 : Jb) => (bif (decide (0 ≤ o1.x3 ∧ o1.x3 ≤ o1.h0.P ∧ o1.h0.P ≤ ((o1.h0.S.size : Nat) : Int))) then ((C0 (o1.h0.S.extract (Int.toNat o1.x3) (Int.toNat o1.h0.P))).bind fun r2 => (bif (!r2) then (some ((Qa.mk (2 : Int) (0 : Int) (o1.h0.S.extract (Int.toNat o1.x3) (Int.toNat o1.h0.P)) ([] : List Qa)), (Qd.mk o1.h0.S o1.h0.P o1.h0.Deep true))) else (some ((Qa.mk (2 : Int) (0 : Int) (o1.h0.S.extract (Int.toNat o1.x3) (Int.toNat o1.h0.P)) ([] : List Qa)), o1.h0)))) else none)))
def Qae (P : Pg) (w : Cf) (C0 : Qcz) (L1 : YG) (h0 : Qd) : Tr (Qa × Qd) AH := (.loop (loopAt P 237 2) (Vp (Qz.mk h0.P h0 (Qa.mk i0 i0 s_ ([] : List Qa)))) (L1 (Qz.mk h0.P h0 (Qa.mk i0 i0 s_ ([] : List Qa)))) WG (fun (o1 : Jb) => (let u119 := (in2 o1.x3 o1.h0.P (zz o1.h0.S)); .as u119 (.call (Qrz w (cu o1.h0.S o1.x3 o1.h0.P)) (C0 (cu o1.h0.S o1.x3 o1.h0.P)) Pm fun r2 => (.as (!r2) (.yes u119 (rt GX ((Qa.mk (zi 2) i0 (cu o1.h0.S o1.x3 o1.h0.P) ([] : List Qa)), (Qd.mk o1.h0.S o1.h0.P o1.h0.Deep true)))) (.yes u119 (rt GX ((Qa.mk (zi 2) i0 (cu o1.h0.S o1.x3 o1.h0.P) ([] : List Qa)), o1.h0))))) .fail)))
theorem QoP (w : Cf) (C0 : Qcz) (L1 : YG) (h0 : Qd) : (Qae pp w C0 L1 h0).norm (bodyT pp w G 237 (Qad h0).1 (Qad h0).2) = Qae pp w C0 L1 h0 := by kernel_rfl
theorem QoQ (P : Pg) (w : Cf) (lp : Lo) (C0 : Qcz) (L1 : YG) (K0 : Qtn w C0) (N1 : Qm3 P lp L1) (h0 : Qd) : (Qae P w C0 L1 h0).ok lp GX := fun o1 ho1 => ⟨N1 _ _ ho1, ⟨rfl, fun q0 => fun r2 hr2 => ⟨K0 _ _ hr2, ⟨rfl, fun q1 => ⟨q0, rfl⟩, fun q1 => ⟨q0, rfl⟩⟩⟩, fun q0 => trivial⟩⟩
theorem QoR {C0 : Nat → Qcz} {D0 : Qcz} (H0 : Cv1 C0 D0) {L1 : Nat → YG} {M1 : YG} (N1 : Cv1 L1 M1) (h0 : Qd) : Cv (fun k => ZB (C0 k) (L1 k) h0) (ZB D0 M1 h0) := by
  unfold ZB
  exact .bind (N1 _) (fun o1 => .cond (.bind (H0 _) fun r2 => by exact .const _) cst)
def Vm.s : Nat → Qd → Option (Qa × Qd)
  | 0, _ => none
  | k + 1, h0 => ZB (Gi.s k) (JX.s k) h0
theorem Vm.ok : ∀ (k : Nat), Qig (ev k) (Vm.s k)
  | 0, _, _, h => (nomatch h)
  | k + 1, h0, r, h => fn_ok rfl (Qae pp (ev k) (Gi.s k) (JX.s k) h0) (QoP _ _ _ h0) (QoQ _ _ _ _ _ (Gi.ok k) (QkJ _ k) h0) h
noncomputable def JX : Qz → Option Jb := JX.w
theorem JX.eq (a : Qz) : JX a = (GE a).bind (Sum.elim JX some) := UN _ _
noncomputable def Vm (h0 : Qd) : Option (Qa × Qd) := ZB Gi JX h0
theorem Vm.cv (h0 : Qd) : Cv (fun k => Vm.s k h0) (Vm h0) := .un rfl (QoR Gi.cv (JX.cv) h0)
theorem Vm.eq (h0 : Qd) : Vm h0 = ZB Gi JX h0 := rfl
def Eo (r : (ByteArray × Int)) : AV × Heap := (.tup [xs r.1, xi r.2], [])
abbrev Yh := Int → Option (ByteArray × Int)
abbrev Qih (a0 : Int) : List AV × Heap := ([xi a0], [])
abbrev Qm4 (w : Cf) (a0 : Int) : Option AH := w 104 (Qih a0).1 (Qih a0).2
abbrev QkK (w : Cf) (c : Yh) : Prop := ∀ (a0 : Int) (r : (ByteArray × Int)), c a0 = some r → Qm4 w a0 = some (Eo r)
def Qii (a0 : Int) : Option (ByteArray × Int) := (bif (a0 == 5) then (some (h_2b, (3 : Int))) else (bif (a0 == 6) then (some (h_2d, (3 : Int))) else (bif (a0 == 7) then (some (h_2a, (4 : Int))) else (bif (a0 == 8) then (some (h_26, (1 : Int))) else (bif (a0 == 9) then (some (h_7c, (0 : Int))) else (bif (a0 == 10) then (some (Qha, (2 : Int))) else (some (Qhb, (2 : Int)))))))))
def Qij (P : Pg) (w : Cf) (a0 : Int) : Tr (ByteArray × Int) AH := (.as (a0 == 5) (rt Eo (h_2b, (zi 3))) (.as (a0 == 6) (rt Eo (h_2d, (zi 3))) (.as (a0 == 7) (rt Eo (h_2a, (zi 4))) (.as (a0 == 8) (rt Eo (h_26, (zi 1))) (.as (a0 == 9) (rt Eo (h_7c, i0)) (.as (a0 == 10) (rt Eo (Qha, (zi 2))) (rt Eo (Qhb, (zi 2)))))))))
theorem QxS (w : Cf) (a0 : Int) : (Qij pp w a0).norm (bodyT pp w G 104 (Qih a0).1 (Qih a0).2) = Qij pp w a0 := by kernel_rfl
theorem QxT (P : Pg) (w : Cf) (lp : Lo) (a0 : Int) : (Qij P w a0).ok lp Eo := ⟨rfl, fun q0 => rfl, fun q0 => ⟨rfl, fun q1 => rfl, fun q1 => ⟨rfl, fun q2 => rfl, fun q2 => ⟨rfl, fun q3 => rfl, fun q3 => ⟨rfl, fun q4 => rfl, fun q4 => ⟨rfl, fun q5 => rfl, fun q5 => rfl⟩⟩⟩⟩⟩⟩
def W5.s : Nat → Int → Option (ByteArray × Int)
  | 0, _ => none
  | k + 1, a0 => Qii a0
theorem W5.ok : ∀ (k : Nat), QkK (ev k) (W5.s k)
  | 0, _, _, h => (nomatch h)
  | k + 1, a0, r, h => fn_ok rfl (Qij pp (ev k) a0) (QxS _ a0) (QxT _ _ _ a0) h
noncomputable def W5 (a0 : Int) : Option (ByteArray × Int) := Qii a0
theorem W5.cv (a0 : Int) : Cv (fun k => W5.s k a0) (W5 a0) := .un rfl (by exact .const _)
theorem W5.eq (a0 : Int) : W5 a0 = Qii a0 := rfl
def FO (r : (Int × Qd)) : AV × Heap := (xi r.1, [(0, .box [] (Uo r.2))])
abbrev VM := Int → Qd → Option (Int × Qd)
abbrev Qaf (a1 : Int) (h0 : Qd) : List AV × Heap := ([.ptr 0 0, xi a1], [(0, .box [] (Uo h0))])
abbrev QhD (w : Cf) (a1 : Int) (h0 : Qd) : Option AH := w 207 (Qaf a1 h0).1 (Qaf a1 h0).2
abbrev Qee (w : Cf) (c : VM) : Prop := ∀ (a1 : Int) (h0 : Qd) (r : (Int × Qd)), c a1 h0 = some r → QhD w a1 h0 = some (FO r)
structure QV where
  x1 : Int
  x5 : Int
  h0 : Qd
structure UE where
  x4 : Int
  h0 : Qd
def Xb (a : QV) : St := { n := 33, nx := 1, env := [(0, .ptr 0 0), (1, xi a.x1), (5, xi a.x5)], heap := [(0, .box [] (Uo a.h0))] }
def Qef (a : UE) : Ex × St := (.ret, { n := 33, nx := 1, env := [(4, xi a.x4)], heap := [(0, .box [] (Uo a.h0))] })
def Qeg (a : Qd) : Ex × St := (.exit 0, { n := 33, nx := 1, env := [], heap := [(0, .box [] (Uo a))] })
def GF (a : (UE ⊕ Qd)) : Ex × St := Sum.elim Qef Qeg a
abbrev YH := QV → Option (UE ⊕ Qd)
abbrev Qm5 (P : Pg) (lp : Lo) (l : YH) : Prop := ∀ (a : QV) (r : (UE ⊕ Qd)), l a = some r → lp (loopAt P 207 2) (Xb a) = some (GF r)
def WH (C0 : Yh) (C1 : Ud) (a : QV) : Option (QV ⊕ (UE ⊕ Qd)) := (bif (decide (a.x5 ≤ 11)) then ((C0 a.x5).bind fun r1 => (bif (r1.2 == a.x1) then (bif (!a.h0.Bad) then ((C1 r1.1 a.h0).bind fun r2 => (bif r2.1 then (some (.inr (.inl (UE.mk a.x5 r2.2)))) else (some (.inl (QV.mk a.x1 (w64 (a.x5 + 1)) r2.2))))) else (some (.inl (QV.mk a.x1 (w64 (a.x5 + 1)) a.h0)))) else (some (.inl (QV.mk a.x1 (w64 (a.x5 + 1)) a.h0))))) else (some (.inr (.inr a.h0))))
def F9 (P : Pg) (w : Cf) (C0 : Yh) (C1 : Ud) (a : QV) : Tr (QV ⊕ (UE ⊕ Qd)) XS := (.as (decide (a.x5 ≤ 11)) (.call (Qm4 w a.x5) (C0 a.x5) Eo fun r1 => (let u121 := (r1.2 == a.x1); .as u121 (yesN 5 u121 (let u120 := (!a.h0.Bad); .as u120 (yesN 2 u120 (.call (GV w r1.1 a.h0) (C1 r1.1 a.h0) Xu fun r2 => (.yes u120 (.as r2.1 (rx GF (.inl (UE.mk a.x5 r2.2))) (lf Xb (QV.mk a.x1 (w64 (a.x5 + 1)) r2.2)))))) (noN 3 u120 (.no false (lf Xb (QV.mk a.x1 (w64 (a.x5 + 1)) a.h0)))))) (noN 5 u121 (noN 5 false (lf Xb (QV.mk a.x1 (w64 (a.x5 + 1)) a.h0)))))) (rx GF (.inr a.h0)))
theorem QlJ (w : Cf) (C0 : Yh) (C1 : Ud) (a : QV) : (F9 pp w C0 C1 a).norm (roundT pp G.kd w 1 (G.an 207) (loopAt pp 207 2) (Xb a)) = F9 pp w C0 C1 a := by kernel_rfl
theorem QlK (P : Pg) (w : Cf) (lp : Lo) (C0 : Yh) (C1 : Ud) (K0 : QkK w C0) (K1 : Qao w C1) (a : QV) : (F9 P w C0 C1 a).ok lp (Sum.elim (fun a => (.norm, Xb a)) GF) := ⟨rfl, fun q0 => fun r1 hr1 => ⟨K0 _ _ hr1, ⟨rfl, fun q1 => Qj 5 (q1) (⟨rfl, fun q2 => Qj 2 (q2) (fun r2 hr2 => ⟨K1 _ _ _ hr2, ⟨q2, ⟨rfl, fun q3 => rfl, fun q3 => rfl⟩⟩⟩), fun q2 => noN_ok 3 (q2) (⟨rfl, rfl⟩)⟩), fun q1 => noN_ok 5 (q1) (noN_ok 5 (rfl) (rfl))⟩⟩, fun q0 => rfl⟩
theorem QlL {C0 : Nat → Yh} {D0 : Yh} (H0 : Cv1 C0 D0) {C1 : Nat → Ud} {D1 : Ud} (H1 : Cv2 C1 D1) (a : QV) : Cv (fun k => WH (C0 k) (C1 k) a) (WH D0 D1 a) := by
  unfold WH
  exact .cond (.bind (H0 _) fun r1 => .cond (.cond (.bind (H1 _ _) fun r2 => by exact .const _) cst) cst) cst
def QX.s (k : Nat) (C0 : Yh) (C1 : Ud) : QV → Option (UE ⊕ Qd) := iter (WH C0 C1) k
theorem QkL (w : Cf) (k : Nat) (C0 : Yh) (C1 : Ud) (K0 : QkK w C0) (K1 : Qao w C1) (a : QV) (r : (UE ⊕ Qd)) (h : QX.s k C0 C1 a = some r) : loopsF pp G.kd w 1 (G.an 207) k (loopAt pp 207 2) (Xb a) = some (GF r) :=
  Va (fun a => F9 pp w C0 C1 a) (fun _ => rfl) (fun a => QlJ w _ _ a) (fun a => QlK _ w _ _ _ K0 K1 a) (fun r => by cases r <;> nofun) h
noncomputable def QX.w (C0 : Yh) (C1 : Ud) : QV → Option (UE ⊕ Qd) := loopW (WH C0 C1)
theorem QX.cv (C0 : Nat → Yh) (C1 : Nat → Ud) (D0 : Yh) (D1 : Ud) (H0 : Cv1 C0 D0) (H1 : Cv2 C1 D1) (a : QV) : Cv (fun k => QX.s k (C0 k) (C1 k) a) (QX.w D0 D1 a) := Cv.iter (fun a => QlL H0 H1 a) a
def YI (L0 : YH) (a1 : Int) (h0 : Qd) : Option (Int × Qd) := ((L0 (QV.mk a1 (5 : Int) h0)).bind fun x => Sum.elim (fun (o1 : UE) => (some (o1.x4, o1.h0))) (fun (o2 : Qd) => (some ((0 : Int), o2))) x)
def Qag (P : Pg) (w : Cf) (L0 : YH) (a1 : Int) (h0 : Qd) : Tr (Int × Qd) AH := (.loop2 (loopAt P 207 2) (Xb (QV.mk a1 (zi 5) h0)) (L0 (QV.mk a1 (zi 5) h0)) Qef Qeg (fun (o1 : UE) => (rt FO (o1.x4, o1.h0))) (fun (o2 : Qd) => (rt FO (i0, o2))))
theorem QoS (w : Cf) (L0 : YH) (a1 : Int) (h0 : Qd) : (Qag pp w L0 a1 h0).norm (bodyT pp w G 207 (Qaf a1 h0).1 (Qaf a1 h0).2) = Qag pp w L0 a1 h0 := by kernel_rfl
theorem QoT (P : Pg) (w : Cf) (lp : Lo) (L0 : YH) (N0 : Qm5 P lp L0) (a1 : Int) (h0 : Qd) : (Qag P w L0 a1 h0).ok lp FO := ⟨fun o1 ho1 => ⟨N0 _ (.inl _) ho1, rfl⟩, fun o2 ho2 => ⟨N0 _ (.inr _) ho2, rfl⟩⟩
theorem QoU {L0 : Nat → YH} {M0 : YH} (N0 : Cv1 L0 M0) (a1 : Int) (h0 : Qd) : Cv (fun k => YI (L0 k) a1 h0) (YI M0 a1 h0) := by
  unfold YI
  exact .bind (N0 _) fun x => .sum (fun o1 => by exact .const _) (fun o2 => by exact .const _) x
def J4.s : Nat → Int → Qd → Option (Int × Qd)
  | 0, _, _ => none
  | k + 1, a1, h0 => YI (QX.s k (W5.s k) (JD.s k)) a1 h0
theorem J4.ok : ∀ (k : Nat), Qee (ev k) (J4.s k)
  | 0, _, _, _, h => (nomatch h)
  | k + 1, a1, h0, r, h => fn_ok rfl (Qag pp (ev k) (QX.s k (W5.s k) (JD.s k)) a1 h0) (QoS _ _ a1 h0) (QoT _ _ _ _ (QkL _ k _ _ (W5.ok k) (JD.ok k)) a1 h0) h
noncomputable def QX : QV → Option (UE ⊕ Qd) := QX.w W5 JD
theorem QX.eq (a : QV) : QX a = (WH W5 JD a).bind (Sum.elim QX some) := UN _ _
noncomputable def J4 (a1 : Int) (h0 : Qd) : Option (Int × Qd) := YI QX a1 h0
theorem J4.cv (a1 : Int) (h0 : Qd) : Cv (fun k => J4.s k a1 h0) (J4 a1 h0) := .un rfl (QoU (QX.cv (fun k => W5.s k) (fun k => JD.s k) W5 JD W5.cv JD.cv) a1 h0)
theorem J4.eq (a1 : Int) (h0 : Qd) : J4 a1 h0 = YI QX a1 h0 := rfl
def X6 (r : (Qa × Qd)) : AV × Heap := (.agg (QZ r.1), [(0, .box [] (Uo r.2))])
def Wv (r : (Qa × Qd)) : AV × Heap := (.agg (QZ r.1), [(0, .box [] (Uo r.2))])
def Zf (r : (Qa × Qd)) : AV × Heap := (.agg (QZ r.1), [(0, .box [] (Uo r.2))])
abbrev ZC := Bool → Qd → Option (Qa × Qd)
abbrev So (a1 : Bool) (h0 : Qd) : List AV × Heap := ([.ptr 0 0, xo a1], [(0, .box [] (Uo h0))])
abbrev QbW (w : Cf) (a1 : Bool) (h0 : Qd) : Option AH := w 234 (So a1 h0).1 (So a1 h0).2
abbrev QhE (w : Cf) (c : ZC) : Prop := ∀ (a1 : Bool) (h0 : Qd) (r : (Qa × Qd)), c a1 h0 = some r → QbW w a1 h0 = some (X6 r)
abbrev Wu := Qd → Option (Qa × Qd)
abbrev QaF (h0 : Qd) : List AV × Heap := ([.ptr 0 0], [(0, .box [] (Uo h0))])
abbrev Qeh (w : Cf) (h0 : Qd) : Option AH := w 206 (QaF h0).1 (QaF h0).2
abbrev QeP (w : Cf) (c : Wu) : Prop := ∀ (h0 : Qd) (r : (Qa × Qd)), c h0 = some r → Qeh w h0 = some (Wv r)
abbrev Q9 := Int → Qd → Option (Qa × Qd)
abbrev QaG (a1 : Int) (h0 : Qd) : List AV × Heap := ([.ptr 0 0, xi a1], [(0, .box [] (Uo h0))])
abbrev PJ (w : Cf) (a1 : Int) (h0 : Qd) : Option AH := w 159 (QaG a1 h0).1 (QaG a1 h0).2
abbrev GY (w : Cf) (c : Q9) : Prop := ∀ (a1 : Int) (h0 : Qd) (r : (Qa × Qd)), c a1 h0 = some r → PJ w a1 h0 = some (Zf r)
def X7 (C0 : Q9) (C1 : Ud) (C2 : Wu) (a1 : Bool) (h0 : Qd) : Option (Qa × Qd) := (bif (decide (h0.Deep ≥ 12)) then (some ((Qa.mk (0 : Int) (0 : Int) s_ ([] : List Qa)), (Qd.mk h0.S h0.P h0.Deep true))) else (bif a1 then ((C0 (0 : Int) (Qd.mk h0.S h0.P (w64 (h0.Deep + 1)) h0.Bad)).bind fun r1 => ((C1 h_29 r1.2).bind fun r2 => (bif (!r2.1) then (some (r1.1, (Qd.mk r2.2.S r2.2.P (w64 (r2.2.Deep - 1)) true))) else (some (r1.1, (Qd.mk r2.2.S r2.2.P (w64 (r2.2.Deep - 1)) r2.2.Bad)))))) else ((C2 (Qd.mk h0.S h0.P (w64 (h0.Deep + 1)) h0.Bad)).bind fun r3 => (some ((Qa.mk (4 : Int) (0 : Int) s_ [r3.1]), (Qd.mk r3.2.S r3.2.P (w64 (r3.2.Deep - 1)) r3.2.Bad))))))
def Sq (P : Pg) (w : Cf) (C0 : Q9) (C1 : Ud) (C2 : Wu) (a1 : Bool) (h0 : Qd) : Tr (Qa × Qd) AH := (.as (decide (h0.Deep ≥ 12)) (rt X6 ((Qa.mk i0 i0 s_ ([] : List Qa)), (Qd.mk h0.S h0.P h0.Deep true))) (.as a1 (.call (PJ w i0 (Qd.mk h0.S h0.P (w64 (h0.Deep + 1)) h0.Bad)) (C0 i0 (Qd.mk h0.S h0.P (w64 (h0.Deep + 1)) h0.Bad)) Zf fun r1 => (.call (GV w h_29 r1.2) (C1 h_29 r1.2) Xu fun r2 => (.as (!r2.1) (rt X6 (r1.1, (Qd.mk r2.2.S r2.2.P (w64 (r2.2.Deep - 1)) true))) (rt X6 (r1.1, (Qd.mk r2.2.S r2.2.P (w64 (r2.2.Deep - 1)) r2.2.Bad)))))) (.call (Qeh w (Qd.mk h0.S h0.P (w64 (h0.Deep + 1)) h0.Bad)) (C2 (Qd.mk h0.S h0.P (w64 (h0.Deep + 1)) h0.Bad)) Wv fun r3 => (.rows [[xi r3.1.Kind, xi r3.1.N, xs r3.1.Name, .sl (QY r3.1.L)]] (QY [r3.1]) (rt X6 ((Qa.mk (zi 4) i0 s_ [r3.1]), (Qd.mk r3.2.S r3.2.P (w64 (r3.2.Deep - 1)) r3.2.Bad)))))))
theorem QnZ (w : Cf) (C0 : Q9) (C1 : Ud) (C2 : Wu) (a1 : Bool) (h0 : Qd) : (Sq pp w C0 C1 C2 a1 h0).norm (bodyT pp w G 234 (So a1 h0).1 (So a1 h0).2) = Sq pp w C0 C1 C2 a1 h0 := by kernel_rfl
theorem Qn0 (P : Pg) (w : Cf) (lp : Lo) (C0 : Q9) (C1 : Ud) (C2 : Wu) (K0 : GY w C0) (K1 : Qao w C1) (K2 : QeP w C2) (a1 : Bool) (h0 : Qd) : (Sq P w C0 C1 C2 a1 h0).ok lp X6 := ⟨rfl, fun q0 => rfl, fun q0 => ⟨rfl, fun q1 => fun r1 hr1 => ⟨K0 _ _ _ hr1, fun r2 hr2 => ⟨K1 _ _ _ hr2, ⟨rfl, fun q2 => rfl, fun q2 => rfl⟩⟩⟩, fun q1 => fun r3 hr3 => ⟨K2 _ _ hr3, ⟨(ZF [r3.1]), rfl⟩⟩⟩⟩
theorem Qgn {C0 : Nat → Q9} {D0 : Q9} (H0 : Cv2 C0 D0) {C1 : Nat → Ud} {D1 : Ud} (H1 : Cv2 C1 D1) {C2 : Nat → Wu} {D2 : Wu} (H2 : Cv1 C2 D2) (a1 : Bool) (h0 : Qd) : Cv (fun k => X7 (C0 k) (C1 k) (C2 k) a1 h0) (X7 D0 D1 D2 a1 h0) := by
  unfold X7
  exact .cond cst (.cond (.bind (H0 _ _) fun r1 => .bind (H1 _ _) fun r2 => by exact .const _) (.bind (H2 _) fun r3 => by exact .const _))
def Yl (C0 : Ud) (C1 : ZC) (C2 : Zd) (C3 : Xa) (C4 : Gb) (h0 : Qd) : Option (Qa × Qd) := (bif h0.Bad then (some ((Qa.mk (0 : Int) (0 : Int) s_ ([] : List Qa)), h0)) else ((C0 h_28 h0).bind fun r1 => (bif r1.1 then ((C1 true r1.2).bind fun r2 => (some (r2.1, r2.2))) else ((C0 h_2d r1.2).bind fun r3 => (bif r3.1 then ((C1 false r3.2).bind fun r4 => (some (r4.1, r4.2))) else ((C0 h_2e r3.2).bind fun r5 => (bif r5.1 then (some ((Qa.mk (3 : Int) (0 : Int) s_ ([] : List Qa)), r5.2)) else ((C0 s_0x r5.2).bind fun r6 => (bif r6.1 then ((C2 (16 : Int) r6.2).bind fun r7 => (some (r7.1, r7.2))) else (bif (decide (r6.2.P < ((r6.2.S.size : Nat) : Int))) then (bif (decide (0 ≤ r6.2.P ∧ r6.2.P < ((r6.2.S.size : Nat) : Int))) then ((C3 ((r6.2.S.data.getD (Int.toNat r6.2.P) 0).toNat : Int) (10 : Int)).bind fun r8 => (bif (decide (r8 ≥ 0)) then ((C2 (10 : Int) r6.2).bind fun r9 => (some (r9.1, r9.2))) else ((C4 r6.2).bind fun r10 => (some (r10.1, r10.2))))) else none) else ((C4 r6.2).bind fun r11 => (some (r11.1, r11.2)))))))))))))
def QaH (P : Pg) (w : Cf) (C0 : Ud) (C1 : ZC) (C2 : Zd) (C3 : Xa) (C4 : Gb) (h0 : Qd) : Tr (Qa × Qd) AH := (.as h0.Bad (rt Wv ((Qa.mk i0 i0 s_ ([] : List Qa)), h0)) (.call (GV w h_28 h0) (C0 h_28 h0) Xu fun r1 => (.as r1.1 (.call (QbW w true r1.2) (C1 true r1.2) X6 fun r2 => (rt Wv (r2.1, r2.2))) (.call (GV w h_2d r1.2) (C0 h_2d r1.2) Xu fun r3 => (.as r3.1 (.call (QbW w false r3.2) (C1 false r3.2) X6 fun r4 => (rt Wv (r4.1, r4.2))) (.call (GV w h_2e r3.2) (C0 h_2e r3.2) Xu fun r5 => (.as r5.1 (rt Wv ((Qa.mk (zi 3) i0 s_ ([] : List Qa)), r5.2)) (.call (GV w s_0x r5.2) (C0 s_0x r5.2) Xu fun r6 => (.as r6.1 (.call (Qbd w (zi 16) r6.2) (C2 (zi 16) r6.2) YF fun r7 => (rt Wv (r7.1, r7.2))) (let u122 := (decide (r6.2.P < (zz r6.2.S))); .as u122 (yesN 8 u122 (.as (in1 r6.2.P (zz r6.2.S)) (.yes u122 (.call (QgQ w (gb r6.2.S r6.2.P) (zi 10)) (C3 (gb r6.2.S r6.2.P) (zi 10)) Yk fun r8 => (yesN 2 u122 (.as (decide (r8 ≥ 0)) (.call (Qbd w (zi 10) r6.2) (C2 (zi 10) r6.2) YF fun r9 => (rt Wv (r9.1, r9.2))) (.call (QcJ w r6.2) (C4 r6.2) GX fun r10 => (rt Wv (r10.1, r10.2))))))) .fail)) (noN 11 u122 (.no false (.call (QcJ w r6.2) (C4 r6.2) GX fun r11 => (rt Wv (r11.1, r11.2)))))))))))))))
theorem Qp2 (w : Cf) (C0 : Ud) (C1 : ZC) (C2 : Zd) (C3 : Xa) (C4 : Gb) (h0 : Qd) : (QaH pp w C0 C1 C2 C3 C4 h0).norm (bodyT pp w G 206 (QaF h0).1 (QaF h0).2) = QaH pp w C0 C1 C2 C3 C4 h0 := by kernel_rfl
theorem Qp3 (P : Pg) (w : Cf) (lp : Lo) (C0 : Ud) (C1 : ZC) (C2 : Zd) (C3 : Xa) (C4 : Gb) (K0 : Qao w C0) (K1 : QhE w C1) (K2 : Qgm w C2) (K3 : Qif w C3) (K4 : Qig w C4) (h0 : Qd) : (QaH P w C0 C1 C2 C3 C4 h0).ok lp Wv := ⟨rfl, fun q0 => rfl, fun q0 => fun r1 hr1 => ⟨K0 _ _ _ hr1, ⟨rfl, fun q1 => fun r2 hr2 => ⟨K1 _ _ _ hr2, rfl⟩, fun q1 => fun r3 hr3 => ⟨K0 _ _ _ hr3, ⟨rfl, fun q2 => fun r4 hr4 => ⟨K1 _ _ _ hr4, rfl⟩, fun q2 => fun r5 hr5 => ⟨K0 _ _ _ hr5, ⟨rfl, fun q3 => rfl, fun q3 => fun r6 hr6 => ⟨K0 _ _ _ hr6, ⟨rfl, fun q4 => fun r7 hr7 => ⟨K2 _ _ _ hr7, rfl⟩, fun q4 => ⟨rfl, fun q5 => Qj 8 (q5) (⟨rfl, fun q6 => ⟨q5, fun r8 hr8 => ⟨K3 _ _ _ hr8, Qj 2 (q5) (⟨rfl, fun q7 => fun r9 hr9 => ⟨K2 _ _ _ hr9, rfl⟩, fun q7 => fun r10 hr10 => ⟨K4 _ _ hr10, rfl⟩⟩)⟩⟩, fun q6 => trivial⟩), fun q5 => noN_ok 11 (q5) (⟨rfl, fun r11 hr11 => ⟨K4 _ _ hr11, rfl⟩⟩)⟩⟩⟩⟩⟩⟩⟩⟩⟩⟩
theorem Qik {C0 : Nat → Ud} {D0 : Ud} (H0 : Cv2 C0 D0) {C1 : Nat → ZC} {D1 : ZC} (H1 : Cv2 C1 D1) {C2 : Nat → Zd} {D2 : Zd} (H2 : Cv2 C2 D2) {C3 : Nat → Xa} {D3 : Xa} (H3 : Cv2 C3 D3) {C4 : Nat → Gb} {D4 : Gb} (H4 : Cv1 C4 D4) (h0 : Qd) : Cv (fun k => Yl (C0 k) (C1 k) (C2 k) (C3 k) (C4 k) h0) (Yl D0 D1 D2 D3 D4 h0) := by
  unfold Yl
  exact .cond cst (.bind (H0 _ _) fun r1 => .cond (.bind (H1 _ _) fun r2 => by exact .const _) (.bind (H0 _ _) fun r3 => .cond (.bind (H1 _ _) fun r4 => by exact .const _) (.bind (H0 _ _) fun r5 => .cond cst (.bind (H0 _ _) fun r6 => .cond (.bind (H2 _ _) fun r7 => by exact .const _) (.cond (.cond (.bind (H3 _ _) fun r8 => .cond (.bind (H2 _ _) fun r9 => by exact .const _) (.bind (H4 _) fun r10 => by exact .const _)) cst) (.bind (H4 _) fun r11 => by exact .const _))))))
structure Jk where
  x1 : Int
  h0 : Qd
  h1 : Qa
  h2 : Qa
structure UZ where
  h0 : Qd
  h1 : Qa
def ZQ (a : Jk) : St := { n := 29, nx := 3, env := [(0, .ptr 0 0), (1, xi a.x1), (4, .ptr 1 0), (5, .ptr 2 0)], heap := [(0, .box [] (Uo a.h0)), (1, .box [] (QZ a.h1)), (2, .box [] (QZ a.h2))] }
def Ep (a : UZ) : Ex × St := (.ret, { n := 29, nx := 2, env := [(4, .ptr 1 0)], heap := [(0, .box [] (Uo a.h0)), (1, .box [] (QZ a.h1))] })
abbrev Ze := Jk → Option UZ
abbrev Qn1 (P : Pg) (lp : Lo) (l : Ze) : Prop := ∀ (a : Jk) (r : UZ), l a = some r → lp (loopAt P 159 4) (ZQ a) = some (Ep r)
def Xy (C0 : VM) (C1 : Q9) (a : Jk) : Option (Jk ⊕ UZ) := ((C0 a.x1 a.h0).bind fun r1 => (bif (r1.1 == 0) then (some (.inr (UZ.mk r1.2 a.h2))) else ((C1 (w64 (a.x1 + 1)) r1.2).bind fun r2 => (some (.inl (Jk.mk a.x1 r2.2 a.h1 (Qa.mk r1.1 (0 : Int) s_ [a.h2, r2.1])))))))
def PK (P : Pg) (w : Cf) (C0 : VM) (C1 : Q9) (a : Jk) : Tr (Jk ⊕ UZ) XS := (.call (QhD w a.x1 a.h0) (C0 a.x1 a.h0) FO fun r1 => (.as (r1.1 == 0) (rx Ep (UZ.mk r1.2 a.h2)) (.call (PJ w (w64 (a.x1 + 1)) r1.2) (C1 (w64 (a.x1 + 1)) r1.2) Zf fun r2 => (.rows [[xi a.h2.Kind, xi a.h2.N, xs a.h2.Name, .sl (QY a.h2.L)], [xi r2.1.Kind, xi r2.1.N, xs r2.1.Name, .sl (QY r2.1.L)]] (QY [a.h2, r2.1]) (lf ZQ (Jk.mk a.x1 r2.2 a.h1 (Qa.mk r1.1 i0 s_ [a.h2, r2.1])))))))
theorem Qm6 (w : Cf) (C0 : VM) (C1 : Q9) (a : Jk) : (PK pp w C0 C1 a).norm (roundT pp G.kd w 1 (G.an 159) (loopAt pp 159 4) (ZQ a)) = PK pp w C0 C1 a := by kernel_rfl
theorem Qm7 (P : Pg) (w : Cf) (lp : Lo) (C0 : VM) (C1 : Q9) (K0 : Qee w C0) (K1 : GY w C1) (a : Jk) : (PK P w C0 C1 a).ok lp (Sum.elim (fun a => (.norm, ZQ a)) Ep) := fun r1 hr1 => ⟨K0 _ _ _ hr1, ⟨rfl, fun q0 => rfl, fun q0 => fun r2 hr2 => ⟨K1 _ _ _ hr2, ⟨(ZF [a.h2, r2.1]), rfl⟩⟩⟩⟩
theorem Qf0 {C0 : Nat → VM} {D0 : VM} (H0 : Cv2 C0 D0) {C1 : Nat → Q9} {D1 : Q9} (H1 : Cv2 C1 D1) (a : Jk) : Cv (fun k => Xy (C0 k) (C1 k) a) (Xy D0 D1 a) := by
  unfold Xy
  exact .bind (H0 _ _) fun r1 => .cond cst (.bind (H1 _ _) fun r2 => by exact .const _)
def JT.s (k : Nat) (C0 : VM) (C1 : Q9) : Jk → Option UZ := iter (Xy C0 C1) k
theorem QlM (w : Cf) (k : Nat) (C0 : VM) (C1 : Q9) (K0 : Qee w C0) (K1 : GY w C1) (a : Jk) (r : UZ) (h : JT.s k C0 C1 a = some r) : loopsF pp G.kd w 1 (G.an 159) k (loopAt pp 159 4) (ZQ a) = some (Ep r) :=
  Va (fun a => PK pp w C0 C1 a) (fun _ => rfl) (fun a => Qm6 w _ _ a) (fun a => Qm7 _ w _ _ _ K0 K1 a) (fun r => nofun) h
theorem JT.m {j k : Nat} (hj : j ≤ k) (C0 : VM) (C1 : Q9) (D0 : VM) (D1 : Q9) (H0 : Le2 C0 D0) (H1 : Le2 C1 D1) (a : Jk) : Le (JT.s j C0 C1 a) (JT.s k D0 D1 a) := Le.iter (fun a => (Qf0 (tw2 H0) (tw2 H1) a).1 0) hj a
noncomputable def JT.w (C0 : VM) (C1 : Q9) : Jk → Option UZ := loopW (Xy C0 C1)
theorem JT.cv (C0 : Nat → VM) (C1 : Nat → Q9) (D0 : VM) (D1 : Q9) (H0 : Cv2 C0 D0) (H1 : Cv2 C1 D1) (a : Jk) : Cv (fun k => JT.s k (C0 k) (C1 k) a) (JT.w D0 D1 a) := Cv.iter (fun a => Qf0 H0 H1 a) a
def Gc (C0 : Wu) (C1 : Q9) (L2 : Ze) (a1 : Int) (h0 : Qd) : Option (Qa × Qd) := (bif (decide (a1 > 4)) then ((C0 h0).bind fun r1 => (some (r1.1, r1.2))) else ((C1 (w64 (a1 + 1)) h0).bind fun r2 => ((L2 (Jk.mk a1 r2.2 (Qa.mk (0 : Int) (0 : Int) s_ ([] : List Qa)) r2.1)).bind (fun (o3 : UZ) => (some (o3.h1, o3.h0))))))
def QaI (P : Pg) (w : Cf) (C0 : Wu) (C1 : Q9) (L2 : Ze) (a1 : Int) (h0 : Qd) : Tr (Qa × Qd) AH := (.as (decide (a1 > 4)) (.call (Qeh w h0) (C0 h0) Wv fun r1 => (rt Zf (r1.1, r1.2))) (.call (PJ w (w64 (a1 + 1)) h0) (C1 (w64 (a1 + 1)) h0) Zf fun r2 => (.loop (loopAt P 159 4) (ZQ (Jk.mk a1 r2.2 (Qa.mk i0 i0 s_ ([] : List Qa)) r2.1)) (L2 (Jk.mk a1 r2.2 (Qa.mk i0 i0 s_ ([] : List Qa)) r2.1)) Ep (fun (o3 : UZ) => (rt Zf (o3.h1, o3.h0))))))
theorem Qp4 (w : Cf) (C0 : Wu) (C1 : Q9) (L2 : Ze) (a1 : Int) (h0 : Qd) : (QaI pp w C0 C1 L2 a1 h0).norm (bodyT pp w G 159 (QaG a1 h0).1 (QaG a1 h0).2) = QaI pp w C0 C1 L2 a1 h0 := by kernel_rfl
theorem Qp5 (P : Pg) (w : Cf) (lp : Lo) (C0 : Wu) (C1 : Q9) (L2 : Ze) (K0 : QeP w C0) (K1 : GY w C1) (N2 : Qn1 P lp L2) (a1 : Int) (h0 : Qd) : (QaI P w C0 C1 L2 a1 h0).ok lp Zf := ⟨rfl, fun q0 => fun r1 hr1 => ⟨K0 _ _ hr1, rfl⟩, fun q0 => fun r2 hr2 => ⟨K1 _ _ _ hr2, fun o3 ho3 => ⟨N2 _ _ ho3, rfl⟩⟩⟩
theorem Qil {C0 : Nat → Wu} {D0 : Wu} (H0 : Cv1 C0 D0) {C1 : Nat → Q9} {D1 : Q9} (H1 : Cv2 C1 D1) {L2 : Nat → Ze} {M2 : Ze} (N2 : Cv1 L2 M2) (a1 : Int) (h0 : Qd) : Cv (fun k => Gc (C0 k) (C1 k) (L2 k) a1 h0) (Gc D0 D1 M2 a1 h0) := by
  unfold Gc
  exact .cond (.bind (H0 _) fun r1 => by exact .const _) (.bind (H1 _ _) fun r2 => .bind (N2 _) (fun o3 => by exact .const _))
mutual
def Q2.s : Nat → Bool → Qd → Option (Qa × Qd)
  | 0, _, _ => none
  | k + 1, a1, h0 => X7 (fun a1 h0 => Qq.s k a1 h0) (JD.s k) (fun h0 => QW.s k h0) a1 h0
termination_by structural k => k
def QW.s : Nat → Qd → Option (Qa × Qd)
  | 0, _ => none
  | k + 1, h0 => Yl (JD.s k) (fun a1 h0 => Q2.s k a1 h0) (J3.s k) (Vc.s k) (Vm.s k) h0
termination_by structural k => k
def Qq.s : Nat → Int → Qd → Option (Qa × Qd)
  | 0, _, _ => none
  | k + 1, a1, h0 => Gc (fun h0 => QW.s k h0) (fun a1 h0 => Qq.s k a1 h0) (JT.s k (J4.s k) (fun a1 h0 => Qq.s k a1 h0)) a1 h0
termination_by structural k => k
end
theorem QeE : ∀ (k : Nat), (QhE (ev k) (Q2.s k)) ∧ (QeP (ev k) (QW.s k)) ∧ (GY (ev k) (Qq.s k))
  | 0 => ⟨fun _ _ _ h => (nomatch h), fun _ _ h => (nomatch h), fun _ _ _ h => (nomatch h)⟩
  | k + 1 => by
    obtain ⟨i_r3_reader_inner, i_r3_reader_one, i_r3_reader_two⟩ := QeE k
    exact ⟨fun a1 h0 r h => fn_ok rfl (Sq pp (ev k) (Qq.s k) (JD.s k) (QW.s k) a1 h0) (QnZ _ _ _ _ a1 h0) (Qn0 _ _ _ _ _ _ (i_r3_reader_two) (JD.ok k) (i_r3_reader_one) a1 h0) h,
      fun h0 r h => fn_ok rfl (QaH pp (ev k) (JD.s k) (Q2.s k) (J3.s k) (Vc.s k) (Vm.s k) h0) (Qp2 _ _ _ _ _ _ h0) (Qp3 _ _ _ _ _ _ _ _ (JD.ok k) (i_r3_reader_inner) (J3.ok k) (Vc.ok k) (Vm.ok k) h0) h,
      fun a1 h0 r h => fn_ok rfl (QaI pp (ev k) (QW.s k) (Qq.s k) (JT.s k (J4.s k) (Qq.s k)) a1 h0) (Qp4 _ _ _ _ a1 h0) (Qp5 _ _ _ _ _ _ (i_r3_reader_one) (i_r3_reader_two) (QlM _ k _ _ (J4.ok k) (i_r3_reader_two)) a1 h0) h⟩
theorem Qq.ok (k : Nat) : GY (ev k) (Qq.s k) := (QeE k).2.2
theorem Fc : ∀ (k : Nat), (∀ (a1 : Bool) (h0 : Qd), Le (Q2.s k a1 h0) (Q2.s (k + 1) a1 h0)) ∧ (∀ (h0 : Qd), Le (QW.s k h0) (QW.s (k + 1) h0)) ∧ (∀ (a1 : Int) (h0 : Qd), Le (Qq.s k a1 h0) (Qq.s (k + 1) a1 h0))
  | 0 => ⟨fun _ _ _ h => (nomatch h), fun _ _ h => (nomatch h), fun _ _ _ h => (nomatch h)⟩
  | k + 1 => by
    obtain ⟨i_r3_reader_inner, i_r3_reader_one, i_r3_reader_two⟩ := Fc k
    exact ⟨fun a1 h0 => (Qgn (tw2 (i_r3_reader_two)) (tw2 (fun a1 h0 => (JD.cv a1 h0).1 k)) (tw1 (i_r3_reader_one)) a1 h0).1 0,
      fun h0 => (Qik (tw2 (fun a1 h0 => (JD.cv a1 h0).1 k)) (tw2 (i_r3_reader_inner)) (tw2 (fun a1 h0 => (J3.cv a1 h0).1 k)) (tw2 (fun a0 a1 => (Vc.cv a0 a1).1 k)) (tw1 (fun h0 => (Vm.cv h0).1 k)) h0).1 0,
      fun a1 h0 => (Qil (tw1 (i_r3_reader_one)) (tw2 (i_r3_reader_two)) (tw1 (JT.m (Nat.le_succ k) (J4.s k) (Qq.s k) (J4.s (k + 1)) (Qq.s (k + 1)) (fun a1 h0 => (J4.cv a1 h0).1 k) (i_r3_reader_two))) a1 h0).1 0⟩
theorem Q2.mono (k : Nat) : ∀ (a1 : Bool) (h0 : Qd), Le (Q2.s k a1 h0) (Q2.s (k + 1) a1 h0) := (Fc k).1
theorem QW.mono (k : Nat) : ∀ (h0 : Qd), Le (QW.s k h0) (QW.s (k + 1) h0) := (Fc k).2.1
theorem Qq.mono (k : Nat) : ∀ (a1 : Int) (h0 : Qd), Le (Qq.s k a1 h0) (Qq.s (k + 1) a1 h0) := (Fc k).2.2
noncomputable def Q2 (a1 : Bool) (h0 : Qd) : Option (Qa × Qd) := lim fun k => Q2.s k a1 h0
theorem Q2.cv (a1 : Bool) (h0 : Qd) : Cv (fun k => Q2.s k a1 h0) (Q2 a1 h0) := .lim fun k => Q2.mono k a1 h0
noncomputable def QW (h0 : Qd) : Option (Qa × Qd) := lim fun k => QW.s k h0
theorem QW.cv (h0 : Qd) : Cv (fun k => QW.s k h0) (QW h0) := .lim fun k => QW.mono k h0
noncomputable def Qq (a1 : Int) (h0 : Qd) : Option (Qa × Qd) := lim fun k => Qq.s k a1 h0
theorem Qq.cv (a1 : Int) (h0 : Qd) : Cv (fun k => Qq.s k a1 h0) (Qq a1 h0) := .lim fun k => Qq.mono k a1 h0
noncomputable def JT : Jk → Option UZ := JT.w J4 Qq
theorem JT.eq (a : Jk) : JT a = (Xy J4 Qq a).bind (Sum.elim JT some) := UN _ _
theorem Q2.eq (a1 : Bool) (h0 : Qd) : Q2 a1 h0 = X7 Qq JD QW a1 h0 := Cv.uniq (Q2.cv a1 h0).shift (Qgn Qq.cv JD.cv QW.cv a1 h0)
theorem QW.eq (h0 : Qd) : QW h0 = Yl JD Q2 J3 Vc Vm h0 := Cv.uniq (QW.cv h0).shift (Qik JD.cv Q2.cv J3.cv Vc.cv Vm.cv h0)
theorem Qq.eq (a1 : Int) (h0 : Qd) : Qq a1 h0 = Gc QW Qq JT a1 h0 := Cv.uniq (Qq.cv a1 h0).shift (Qil QW.cv Qq.cv (JT.cv (fun k => J4.s k) (fun k => Qq.s k) J4 Qq J4.cv Qq.cv) a1 h0)
def Qah (r : (Qa × Bool)) : AV × Heap := (.tup [.agg (QZ r.1), xo r.2], [])
abbrev Qbe := ByteArray → Option (Qa × Bool)
abbrev QgS (a0 : ByteArray) : List AV × Heap := ([xs a0], [])
abbrev QkM (w : Cf) (a0 : ByteArray) : Option AH := w 107 (QgS a0).1 (QgS a0).2
abbrev QrG (w : Cf) (c : Qbe) : Prop := ∀ (a0 : ByteArray) (r : (Qa × Bool)), c a0 = some r → QkM w a0 = some (Qah r)
def PM (C0 : Q9) (C1 : V8) (a0 : ByteArray) : Option (Qa × Bool) := ((C0 (0 : Int) (Qd.mk a0 (0 : Int) (0 : Int) false)).bind fun r1 => ((C1 r1.2).bind fun r2 => (bif r2.Bad then (some ((Qa.mk (0 : Int) (0 : Int) s_ ([] : List Qa)), false)) else (bif (decide (r2.P < ((a0.size : Nat) : Int))) then (some ((Qa.mk (0 : Int) (0 : Int) s_ ([] : List Qa)), false)) else (some (r1.1, true))))))
def QgT (P : Pg) (w : Cf) (C0 : Q9) (C1 : V8) (a0 : ByteArray) : Tr (Qa × Bool) AH := (.call (PJ w i0 (Qd.mk a0 i0 i0 false)) (C0 i0 (Qd.mk a0 i0 i0 false)) Zf fun r1 => (.call (QcI w r1.2) (C1 r1.2) FN fun r2 => (.as r2.Bad (yesN 7 r2.Bad (.yes true (rt Qah ((Qa.mk i0 i0 s_ ([] : List Qa)), false)))) (noN 7 r2.Bad (.as (decide (r2.P < (zz a0))) (rt Qah ((Qa.mk i0 i0 s_ ([] : List Qa)), false)) (rt Qah (r1.1, true)))))))
theorem Qw3 (w : Cf) (C0 : Q9) (C1 : V8) (a0 : ByteArray) : (QgT pp w C0 C1 a0).norm (bodyT pp w G 107 (QgS a0).1 (QgS a0).2) = QgT pp w C0 C1 a0 := by kernel_rfl
theorem Qw4 (P : Pg) (w : Cf) (lp : Lo) (C0 : Q9) (C1 : V8) (K0 : GY w C0) (K1 : Qed w C1) (a0 : ByteArray) : (QgT P w C0 C1 a0).ok lp Qah := fun r1 hr1 => ⟨K0 _ _ _ hr1, fun r2 hr2 => ⟨K1 _ _ hr2, ⟨rfl, fun q0 => Qj 7 (q0) (⟨rfl, rfl⟩), fun q0 => noN_ok 7 (q0) (⟨rfl, fun q1 => rfl, fun q1 => rfl⟩)⟩⟩⟩
theorem Qw5 {C0 : Nat → Q9} {D0 : Q9} (H0 : Cv2 C0 D0) {C1 : Nat → V8} {D1 : V8} (H1 : Cv1 C1 D1) (a0 : ByteArray) : Cv (fun k => PM (C0 k) (C1 k) a0) (PM D0 D1 a0) := by
  unfold PM
  exact .bind (H0 _ _) fun r1 => .bind (H1 _) fun r2 => by exact .const _
def XP.s : Nat → ByteArray → Option (Qa × Bool)
  | 0, _ => none
  | k + 1, a0 => PM (Qq.s k) (J2.s k) a0
theorem XP.ok : ∀ (k : Nat), QrG (ev k) (XP.s k)
  | 0, _, _, h => (nomatch h)
  | k + 1, a0, r, h => fn_ok rfl (QgT pp (ev k) (Qq.s k) (J2.s k) a0) (Qw3 _ _ _ a0) (Qw4 _ _ _ _ _ (Qq.ok k) (J2.ok k) a0) h
noncomputable def XP (a0 : ByteArray) : Option (Qa × Bool) := PM Qq J2 a0
theorem XP.cv (a0 : ByteArray) : Cv (fun k => XP.s k a0) (XP a0) := .un rfl (Qw5 Qq.cv J2.cv a0)
theorem XP.eq (a0 : ByteArray) : XP a0 = PM Qq J2 a0 := rfl
def Y2 (r : Qf) : AV × Heap := (.agg (ZG r), [])
abbrev Xj := Ql → ByteArray → Int → Option Qf
abbrev QbJ (a0 : Ql) (a1 : ByteArray) (a2 : Int) : List AV × Heap := ([.agg (Zt a0), xs a1, xi a2], [])
abbrev QjR (w : Cf) (a0 : Ql) (a1 : ByteArray) (a2 : Int) : Option AH := w 62 (QbJ a0 a1 a2).1 (QbJ a0 a1 a2).2
abbrev Qgc (w : Cf) (c : Xj) : Prop := ∀ (a0 : Ql) (a1 : ByteArray) (a2 : Int) (r : Qf), c a0 a1 a2 = some r → QjR w a0 a1 a2 = some (Y2 r)
def ZR (C0 : FL) (C1 : P8) (C2 : Ut) (C3 : W4) (C4 : Vo) (C5 : Uv) (C6 : Qbe) (a0 : Ql) (a1 : ByteArray) (a2 : Int) : Option Qf := ((C0 a1).bind fun r1 => (bif r1 then ((C1 a1 a2).bind fun r2 => (some (Qf.mk r2 (Qa.mk (0 : Int) (0 : Int) s_ ([] : List Qa))))) else ((C2 a2 (5 : Int)).bind fun r3 => (bif (r3 == 0) then (bif (decide ((((a0.E.length) : Nat) : Int) > 0)) then ((C3 a0.E).bind fun r4 => (some (Qf.mk (-1 : Int) r4))) else (bif (decide (0 ≤ (0 : Int) ∧ (0 : Int) < ((a1.size : Nat) : Int))) then (bif (((a1.data.getD (Int.toNat 0) 0).toNat : Int) == 84) then ((C4).bind fun r5 => ((C2 a2 (4 : Int)).bind fun r6 => (bif (decide (0 ≤ r6)) then ((r5[(Int.toNat r6)]?).bind fun e7 => (some (Qf.mk (-1 : Int) (Qa.mk (2 : Int) (0 : Int) e7 ([] : List Qa))))) else none))) else ((C1 a1 a2).bind fun r8 => ((C5 r8).bind fun r9 => ((C6 r9).bind fun r10 => (some (Qf.mk (-1 : Int) r10.1)))))) else none)) else (bif (decide (0 ≤ (0 : Int) ∧ (0 : Int) < ((a1.size : Nat) : Int))) then (bif (((a1.data.getD (Int.toNat 0) 0).toNat : Int) == 84) then ((C4).bind fun r11 => ((C2 a2 (4 : Int)).bind fun r12 => (bif (decide (0 ≤ r12)) then ((r11[(Int.toNat r12)]?).bind fun e13 => (some (Qf.mk (-1 : Int) (Qa.mk (2 : Int) (0 : Int) e13 ([] : List Qa))))) else none))) else ((C1 a1 a2).bind fun r14 => ((C5 r14).bind fun r15 => ((C6 r15).bind fun r16 => (some (Qf.mk (-1 : Int) r16.1)))))) else none)))))
def QbK (P : Pg) (w : Cf) (C0 : FL) (C1 : P8) (C2 : Ut) (C3 : W4) (C4 : Vo) (C5 : Uv) (C6 : Qbe) (a0 : Ql) (a1 : ByteArray) (a2 : Int) : Tr Qf AH := (.call (Qla w a1) (C0 a1) Qcp fun r1 => (.as r1 (.call (Qd9 w a1 a2) (C1 a1 a2) Ue fun r2 => (rt Y2 (Qf.mk r2 (Qa.mk i0 i0 s_ ([] : List Qa))))) (.call (Ju w a2 (zi 5)) (C2 a2 (zi 5)) Jh fun r3 => (let u123 := (r3 == 0); .as u123 (yesN 2 u123 (.num ((WU a0.E).length) (a0.E.length) (yesN 2 u123 (.as (decide ((((a0.E.length) : Nat) : Int) > 0)) (.call (QkF w a0.E) (C3 a0.E) QcG fun r4 => (rt Y2 (Qf.mk (-1 : Int) r4))) (.as (in1 i0 (zz a1)) (.as ((gb a1 i0) == 84) (.call (Ws w) (C4) V0 fun r5 => (.call (Ju w a2 (zi 4)) (C2 a2 (zi 4)) Jh fun r6 => (.as (decide (0 ≤ r6)) (.row ((Qh r5)[(Int.toNat r6)]?) (r5[(Int.toNat r6)]?) JL fun (e7 : ByteArray) => (rt Y2 (Qf.mk (-1 : Int) (Qa.mk (zi 2) i0 e7 ([] : List Qa))))) .fail))) (.call (Qd9 w a1 a2) (C1 a1 a2) Ue fun r8 => (.call (Fk w r8) (C5 r8) YS fun r9 => (.call (QkM w r9) (C6 r9) Qah fun r10 => (rt Y2 (Qf.mk (-1 : Int) r10.1)))))) .fail))))) (noN 4 u123 (.no false (.as (in1 i0 (zz a1)) (.as ((gb a1 i0) == 84) (.call (Ws w) (C4) V0 fun r11 => (.call (Ju w a2 (zi 4)) (C2 a2 (zi 4)) Jh fun r12 => (.as (decide (0 ≤ r12)) (.row ((Qh r11)[(Int.toNat r12)]?) (r11[(Int.toNat r12)]?) JL fun (e13 : ByteArray) => (rt Y2 (Qf.mk (-1 : Int) (Qa.mk (zi 2) i0 e13 ([] : List Qa))))) .fail))) (.call (Qd9 w a1 a2) (C1 a1 a2) Ue fun r14 => (.call (Fk w r14) (C5 r14) YS fun r15 => (.call (QkM w r15) (C6 r15) Qah fun r16 => (rt Y2 (Qf.mk (-1 : Int) r16.1)))))) .fail)))))))
theorem Qq1 (w : Cf) (C0 : FL) (C1 : P8) (C2 : Ut) (C3 : W4) (C4 : Vo) (C5 : Uv) (C6 : Qbe) (a0 : Ql) (a1 : ByteArray) (a2 : Int) : (QbK pp w C0 C1 C2 C3 C4 C5 C6 a0 a1 a2).norm (bodyT pp w G 62 (QbJ a0 a1 a2).1 (QbJ a0 a1 a2).2) = QbK pp w C0 C1 C2 C3 C4 C5 C6 a0 a1 a2 := by kernel_rfl
theorem Qq2 (P : Pg) (w : Cf) (lp : Lo) (C0 : FL) (C1 : P8) (C2 : Ut) (C3 : W4) (C4 : Vo) (C5 : Uv) (C6 : Qbe) (K0 : QmX w C0) (K1 : Qon w C1) (K2 : Qbo w C2) (K3 : QjM w C3) (K4 : Qec w C4) (K5 : Qaa w C5) (K6 : QrG w C6) (a0 : Ql) (a1 : ByteArray) (a2 : Int) : (QbK P w C0 C1 C2 C3 C4 C5 C6 a0 a1 a2).ok lp Y2 := fun r1 hr1 => ⟨K0 _ _ hr1, ⟨rfl, fun q0 => fun r2 hr2 => ⟨K1 _ _ _ hr2, rfl⟩, fun q0 => fun r3 hr3 => ⟨K2 _ _ _ hr3, ⟨rfl, fun q1 => Qj 2 (q1) (⟨(QaL _), Qj 2 (q1) (⟨rfl, fun q2 => fun r4 hr4 => ⟨K3 _ _ hr4, rfl⟩, fun q2 => ⟨rfl, fun q3 => ⟨rfl, fun q4 => fun r5 hr5 => ⟨K4 _ hr5, fun r6 hr6 => ⟨K2 _ _ _ hr6, ⟨rfl, fun q5 => fun e7 h => ⟨Jo h, rfl⟩, fun q5 => trivial⟩⟩⟩, fun q4 => fun r8 hr8 => ⟨K1 _ _ _ hr8, fun r9 hr9 => ⟨K5 _ _ hr9, fun r10 hr10 => ⟨K6 _ _ hr10, rfl⟩⟩⟩⟩, fun q3 => trivial⟩⟩)⟩), fun q1 => noN_ok 4 (q1) (⟨rfl, ⟨rfl, fun q2 => ⟨rfl, fun q3 => fun r11 hr11 => ⟨K4 _ hr11, fun r12 hr12 => ⟨K2 _ _ _ hr12, ⟨rfl, fun q4 => fun e13 h => ⟨Jo h, rfl⟩, fun q4 => trivial⟩⟩⟩, fun q3 => fun r14 hr14 => ⟨K1 _ _ _ hr14, fun r15 hr15 => ⟨K5 _ _ hr15, fun r16 hr16 => ⟨K6 _ _ hr16, rfl⟩⟩⟩⟩, fun q2 => trivial⟩⟩)⟩⟩⟩⟩
theorem Qq3 {C0 : Nat → FL} {D0 : FL} (H0 : Cv1 C0 D0) {C1 : Nat → P8} {D1 : P8} (H1 : Cv2 C1 D1) {C2 : Nat → Ut} {D2 : Ut} (H2 : Cv2 C2 D2) {C3 : Nat → W4} {D3 : W4} (H3 : Cv1 C3 D3) {C4 : Nat → Vo} {D4 : Vo} (H4 : Cv C4 D4) {C5 : Nat → Uv} {D5 : Uv} (H5 : Cv1 C5 D5) {C6 : Nat → Qbe} {D6 : Qbe} (H6 : Cv1 C6 D6) (a0 : Ql) (a1 : ByteArray) (a2 : Int) : Cv (fun k => ZR (C0 k) (C1 k) (C2 k) (C3 k) (C4 k) (C5 k) (C6 k) a0 a1 a2) (ZR D0 D1 D2 D3 D4 D5 D6 a0 a1 a2) := by
  unfold ZR
  exact .bind (H0 _) fun r1 => .cond (.bind (H1 _ _) fun r2 => by exact .const _) (.bind (H2 _ _) fun r3 => .cond (.cond (.bind (H3 _) fun r4 => by exact .const _) (.cond (.cond (.bind (H4) fun r5 => .bind (H2 _ _) fun r6 => by exact .const _) (.bind (H1 _ _) fun r8 => .bind (H5 _) fun r9 => .bind (H6 _) fun r10 => by exact .const _)) cst)) (.cond (.cond (.bind (H4) fun r11 => .bind (H2 _ _) fun r12 => by exact .const _) (.bind (H1 _ _) fun r14 => .bind (H5 _) fun r15 => .bind (H6 _) fun r16 => by exact .const _)) cst))
def U4.s : Nat → Ql → ByteArray → Int → Option Qf
  | 0, _, _, _ => none
  | k + 1, a0, a1, a2 => ZR (Wa.s k) (Wo.s k) (Jp.s k) (Wr.s k) (Up.s k) (Jf.s k) (XP.s k) a0 a1 a2
theorem U4.ok : ∀ (k : Nat), Qgc (ev k) (U4.s k)
  | 0, _, _, _, _, h => (nomatch h)
  | k + 1, a0, a1, a2, r, h => fn_ok rfl (QbK pp (ev k) (Wa.s k) (Wo.s k) (Jp.s k) (Wr.s k) (Up.s k) (Jf.s k) (XP.s k) a0 a1 a2) (Qq1 _ _ _ _ _ _ _ _ a0 a1 a2) (Qq2 _ _ _ _ _ _ _ _ _ _ (Wa.ok k) (Wo.ok k) (Jp.ok k) (Wr.ok k) (Up.ok k) (Jf.ok k) (XP.ok k) a0 a1 a2) h
noncomputable def U4 (a0 : Ql) (a1 : ByteArray) (a2 : Int) : Option Qf := ZR Wa Wo Jp Wr Up Jf XP a0 a1 a2
theorem U4.cv (a0 : Ql) (a1 : ByteArray) (a2 : Int) : Cv (fun k => U4.s k a0 a1 a2) (U4 a0 a1 a2) := .un rfl (Qq3 Wa.cv Wo.cv Jp.cv Wr.cv Up.cv Jf.cv XP.cv a0 a1 a2)
theorem U4.eq (a0 : Ql) (a1 : ByteArray) (a2 : Int) : U4 a0 a1 a2 = ZR Wa Wo Jp Wr Up Jf XP a0 a1 a2 := rfl
def QbL (r : Qg) : AV × Heap := (.agg (G4 r), [])
abbrev ER := Ql → Int → Option Qg
abbrev QbM (a0 : Ql) (a1 : Int) : List AV × Heap := ([.agg (Zt a0), xi a1], [])
abbrev QjS (w : Cf) (a0 : Ql) (a1 : Int) : Option AH := w 65 (QbM a0 a1).1 (QbM a0 a1).2
abbrev Qle (w : Cf) (c : ER) : Prop := ∀ (a0 : Ql) (a1 : Int) (r : Qg), c a0 a1 = some r → QjS w a0 a1 = some (QbL r)
structure QE where
  x6 : Int
  h0 : Ql
  h1 : Qg
  h2 : Qg
structure UC where
  h0 : Qg
  h1 : Qg
def WK (a : QE) : St := { n := 59, nx := 5, env := [(2, .ptr 0 0), (4, .ptr 1 0), (5, .ptr 2 0), (6, xi a.x6)], heap := [(0, .box [] (Zt a.h0)), (1, .box [0, 0, 0, 0, 0, 5] [xi a.h1.Line, xs a.h1.Label, xi a.h1.Kind, xi a.h1.Op, xs a.h1.Text, .arr 3]), (2, .box [0, 0, 0, 0, 0, 5] [xi a.h2.Line, xs a.h2.Label, xi a.h2.Kind, xi a.h2.Op, xs a.h2.Text, .arr 4]), (3, .arr true 5 (Qi a.h1.Args)), (4, .arr true 5 (Qi a.h2.Args))] }
def E1 (a : UC) : Ex × St := (.exit 0, { n := 59, nx := 4, env := [(4, .ptr 0 0), (5, .ptr 1 0)], heap := [(0, .box [0, 0, 0, 0, 0, 5] [xi a.h0.Line, xs a.h0.Label, xi a.h0.Kind, xi a.h0.Op, xs a.h0.Text, .arr 2]), (1, .box [0, 0, 0, 0, 0, 5] [xi a.h1.Line, xs a.h1.Label, xi a.h1.Kind, xi a.h1.Op, xs a.h1.Text, .arr 3]), (2, .arr true 5 (Qi a.h0.Args)), (3, .arr true 5 (Qi a.h1.Args))] })
abbrev ZD := QE → Option UC
abbrev QoV (P : Pg) (lp : Lo) (l : ZD) : Prop := ∀ (a : QE) (r : UC), l a = some r → lp (loopAt P 65 3) (WK a) = some (E1 r)
def Xh (C0 : Ut) (C1 : J1) (C2 : W4) (C3 : Vo) (a : QE) : Option (QE ⊕ UC) := ((C0 a.h0.B (4 : Int)).bind fun r1 => (bif (decide (a.x6 ≤ r1)) then ((C1 a.h0 a.x6).bind fun r2 => ((C0 r2 (6 : Int)).bind fun r3 => (bif (r3 == 0) then (bif (decide ((((a.h0.E.length) : Nat) : Int) > 0)) then ((C2 a.h0.E).bind fun r4 => (bif (decide ((a.h2.Args.length + [(Qf.mk (-1 : Int) r4)].length) * 64 ≤ most)) then (some (.inl (QE.mk (w64 (a.x6 + 1)) a.h0 a.h1 (Qg.mk a.h2.Line a.h2.Label a.h2.Kind a.h2.Op a.h2.Text (a.h2.Args ++ [(Qf.mk (-1 : Int) r4)]))))) else none)) else ((C0 r2 (6 : Int)).bind fun r5 => (bif (r5 == 1) then ((C3).bind fun r6 => ((C0 (w64 (Int.tdiv r2 (6 : Int))) (4 : Int)).bind fun r7 => (bif (decide (0 ≤ r7)) then ((r6[(Int.toNat r7)]?).bind fun e8 => (bif (decide ((a.h2.Args.length + [(Qf.mk (-1 : Int) (Qa.mk (2 : Int) (0 : Int) e8 ([] : List Qa)))].length) * 64 ≤ most)) then (some (.inl (QE.mk (w64 (a.x6 + 1)) a.h0 a.h1 (Qg.mk a.h2.Line a.h2.Label a.h2.Kind a.h2.Op a.h2.Text (a.h2.Args ++ [(Qf.mk (-1 : Int) (Qa.mk (2 : Int) (0 : Int) e8 ([] : List Qa)))]))))) else none)) else none))) else ((C0 r2 (256 : Int)).bind fun r9 => (bif (decide ((a.h2.Args.length + [(Qf.mk (-1 : Int) (Qa.mk (1 : Int) r9 s_ ([] : List Qa)))].length) * 64 ≤ most)) then (some (.inl (QE.mk (w64 (a.x6 + 1)) a.h0 a.h1 (Qg.mk a.h2.Line a.h2.Label a.h2.Kind a.h2.Op a.h2.Text (a.h2.Args ++ [(Qf.mk (-1 : Int) (Qa.mk (1 : Int) r9 s_ ([] : List Qa)))]))))) else none))))) else ((C0 r2 (6 : Int)).bind fun r10 => (bif (r10 == 1) then ((C3).bind fun r11 => ((C0 (w64 (Int.tdiv r2 (6 : Int))) (4 : Int)).bind fun r12 => (bif (decide (0 ≤ r12)) then ((r11[(Int.toNat r12)]?).bind fun e13 => (bif (decide ((a.h2.Args.length + [(Qf.mk (-1 : Int) (Qa.mk (2 : Int) (0 : Int) e13 ([] : List Qa)))].length) * 64 ≤ most)) then (some (.inl (QE.mk (w64 (a.x6 + 1)) a.h0 a.h1 (Qg.mk a.h2.Line a.h2.Label a.h2.Kind a.h2.Op a.h2.Text (a.h2.Args ++ [(Qf.mk (-1 : Int) (Qa.mk (2 : Int) (0 : Int) e13 ([] : List Qa)))]))))) else none)) else none))) else ((C0 r2 (256 : Int)).bind fun r14 => (bif (decide ((a.h2.Args.length + [(Qf.mk (-1 : Int) (Qa.mk (1 : Int) r14 s_ ([] : List Qa)))].length) * 64 ≤ most)) then (some (.inl (QE.mk (w64 (a.x6 + 1)) a.h0 a.h1 (Qg.mk a.h2.Line a.h2.Label a.h2.Kind a.h2.Op a.h2.Text (a.h2.Args ++ [(Qf.mk (-1 : Int) (Qa.mk (1 : Int) r14 s_ ([] : List Qa)))]))))) else none))))))) else (some (.inr (UC.mk a.h1 a.h2)))))
def Sr (P : Pg) (w : Cf) (C0 : Ut) (C1 : J1) (C2 : W4) (C3 : Vo) (a : QE) : Tr (QE ⊕ UC) XS := (.call (Ju w a.h0.B (zi 4)) (C0 a.h0.B (zi 4)) Jh fun r1 => (.as (decide (a.x6 ≤ r1)) (.call (Qd7 w a.h0 a.x6) (C1 a.h0 a.x6) EE fun r2 => (.call (Ju w r2 (zi 6)) (C0 r2 (zi 6)) Jh fun r3 => (let u124 := (r3 == 0); .as u124 (yesN 2 u124 (.num ((WU a.h0.E).length) (a.h0.E.length) (yesN 2 u124 (.as (decide ((((a.h0.E.length) : Nat) : Int) > 0)) (.call (QkF w a.h0.E) (C2 a.h0.E) QcG fun r4 => (.rows [[xi (-1 : Int), xi r4.Kind, xi r4.N, xs r4.Name, .sl (QY r4.L)]] (Qi [(Qf.mk (-1 : Int) r4)]) (.yes (decide ((Qi [(Qf.mk (-1 : Int) r4)]).all (fun r => r.length == 5) = true)) (.ask (decide (((Qi a.h2.Args).length + (Qi [(Qf.mk (-1 : Int) r4)]).length) * 64 ≤ most)) (decide ((a.h2.Args.length + [(Qf.mk (-1 : Int) r4)].length) * 64 ≤ most)) (.rows ((Qi a.h2.Args) ++ (Qi [(Qf.mk (-1 : Int) r4)])) (Qi (a.h2.Args ++ [(Qf.mk (-1 : Int) r4)])) (lf WK (QE.mk (w64 (a.x6 + 1)) a.h0 a.h1 (Qg.mk a.h2.Line a.h2.Label a.h2.Kind a.h2.Op a.h2.Text (a.h2.Args ++ [(Qf.mk (-1 : Int) r4)]))))) .fail)))) (.call (Ju w r2 (zi 6)) (C0 r2 (zi 6)) Jh fun r5 => (.as (r5 == 1) (.call (Ws w) (C3) V0 fun r6 => (.yes (decide ((zi 6) ≠ 0)) (.call (Ju w (w64 (Int.tdiv r2 (zi 6))) (zi 4)) (C0 (w64 (Int.tdiv r2 (zi 6))) (zi 4)) Jh fun r7 => (.as (decide (0 ≤ r7)) (.row ((Qh r6)[(Int.toNat r7)]?) (r6[(Int.toNat r7)]?) JL fun (e8 : ByteArray) => (.rows [[xi (-1 : Int), xi (zi 2), xi i0, xs e8, .sl (QY ([] : List Qa))]] (Qi [(Qf.mk (-1 : Int) (Qa.mk (zi 2) i0 e8 ([] : List Qa)))]) (.yes (decide ((Qi [(Qf.mk (-1 : Int) (Qa.mk (zi 2) i0 e8 ([] : List Qa)))]).all (fun r => r.length == 5) = true)) (.ask (decide (((Qi a.h2.Args).length + (Qi [(Qf.mk (-1 : Int) (Qa.mk (zi 2) i0 e8 ([] : List Qa)))]).length) * 64 ≤ most)) (decide ((a.h2.Args.length + [(Qf.mk (-1 : Int) (Qa.mk (zi 2) i0 e8 ([] : List Qa)))].length) * 64 ≤ most)) (.rows ((Qi a.h2.Args) ++ (Qi [(Qf.mk (-1 : Int) (Qa.mk (zi 2) i0 e8 ([] : List Qa)))])) (Qi (a.h2.Args ++ [(Qf.mk (-1 : Int) (Qa.mk (zi 2) i0 e8 ([] : List Qa)))])) (lf WK (QE.mk (w64 (a.x6 + 1)) a.h0 a.h1 (Qg.mk a.h2.Line a.h2.Label a.h2.Kind a.h2.Op a.h2.Text (a.h2.Args ++ [(Qf.mk (-1 : Int) (Qa.mk (zi 2) i0 e8 ([] : List Qa)))]))))) .fail)))) .fail)))) (.call (Ju w r2 (zi 256)) (C0 r2 (zi 256)) Jh fun r9 => (.rows [[xi (-1 : Int), xi (zi 1), xi r9, xs s_, .sl (QY ([] : List Qa))]] (Qi [(Qf.mk (-1 : Int) (Qa.mk (zi 1) r9 s_ ([] : List Qa)))]) (.yes (decide ((Qi [(Qf.mk (-1 : Int) (Qa.mk (zi 1) r9 s_ ([] : List Qa)))]).all (fun r => r.length == 5) = true)) (.ask (decide (((Qi a.h2.Args).length + (Qi [(Qf.mk (-1 : Int) (Qa.mk (zi 1) r9 s_ ([] : List Qa)))]).length) * 64 ≤ most)) (decide ((a.h2.Args.length + [(Qf.mk (-1 : Int) (Qa.mk (zi 1) r9 s_ ([] : List Qa)))].length) * 64 ≤ most)) (.rows ((Qi a.h2.Args) ++ (Qi [(Qf.mk (-1 : Int) (Qa.mk (zi 1) r9 s_ ([] : List Qa)))])) (Qi (a.h2.Args ++ [(Qf.mk (-1 : Int) (Qa.mk (zi 1) r9 s_ ([] : List Qa)))])) (lf WK (QE.mk (w64 (a.x6 + 1)) a.h0 a.h1 (Qg.mk a.h2.Line a.h2.Label a.h2.Kind a.h2.Op a.h2.Text (a.h2.Args ++ [(Qf.mk (-1 : Int) (Qa.mk (zi 1) r9 s_ ([] : List Qa)))]))))) .fail)))))))))) (noN 4 u124 (.no false (.call (Ju w r2 (zi 6)) (C0 r2 (zi 6)) Jh fun r10 => (.as (r10 == 1) (.call (Ws w) (C3) V0 fun r11 => (.yes (decide ((zi 6) ≠ 0)) (.call (Ju w (w64 (Int.tdiv r2 (zi 6))) (zi 4)) (C0 (w64 (Int.tdiv r2 (zi 6))) (zi 4)) Jh fun r12 => (.as (decide (0 ≤ r12)) (.row ((Qh r11)[(Int.toNat r12)]?) (r11[(Int.toNat r12)]?) JL fun (e13 : ByteArray) => (.rows [[xi (-1 : Int), xi (zi 2), xi i0, xs e13, .sl (QY ([] : List Qa))]] (Qi [(Qf.mk (-1 : Int) (Qa.mk (zi 2) i0 e13 ([] : List Qa)))]) (.yes (decide ((Qi [(Qf.mk (-1 : Int) (Qa.mk (zi 2) i0 e13 ([] : List Qa)))]).all (fun r => r.length == 5) = true)) (.ask (decide (((Qi a.h2.Args).length + (Qi [(Qf.mk (-1 : Int) (Qa.mk (zi 2) i0 e13 ([] : List Qa)))]).length) * 64 ≤ most)) (decide ((a.h2.Args.length + [(Qf.mk (-1 : Int) (Qa.mk (zi 2) i0 e13 ([] : List Qa)))].length) * 64 ≤ most)) (.rows ((Qi a.h2.Args) ++ (Qi [(Qf.mk (-1 : Int) (Qa.mk (zi 2) i0 e13 ([] : List Qa)))])) (Qi (a.h2.Args ++ [(Qf.mk (-1 : Int) (Qa.mk (zi 2) i0 e13 ([] : List Qa)))])) (lf WK (QE.mk (w64 (a.x6 + 1)) a.h0 a.h1 (Qg.mk a.h2.Line a.h2.Label a.h2.Kind a.h2.Op a.h2.Text (a.h2.Args ++ [(Qf.mk (-1 : Int) (Qa.mk (zi 2) i0 e13 ([] : List Qa)))]))))) .fail)))) .fail)))) (.call (Ju w r2 (zi 256)) (C0 r2 (zi 256)) Jh fun r14 => (.rows [[xi (-1 : Int), xi (zi 1), xi r14, xs s_, .sl (QY ([] : List Qa))]] (Qi [(Qf.mk (-1 : Int) (Qa.mk (zi 1) r14 s_ ([] : List Qa)))]) (.yes (decide ((Qi [(Qf.mk (-1 : Int) (Qa.mk (zi 1) r14 s_ ([] : List Qa)))]).all (fun r => r.length == 5) = true)) (.ask (decide (((Qi a.h2.Args).length + (Qi [(Qf.mk (-1 : Int) (Qa.mk (zi 1) r14 s_ ([] : List Qa)))]).length) * 64 ≤ most)) (decide ((a.h2.Args.length + [(Qf.mk (-1 : Int) (Qa.mk (zi 1) r14 s_ ([] : List Qa)))].length) * 64 ≤ most)) (.rows ((Qi a.h2.Args) ++ (Qi [(Qf.mk (-1 : Int) (Qa.mk (zi 1) r14 s_ ([] : List Qa)))])) (Qi (a.h2.Args ++ [(Qf.mk (-1 : Int) (Qa.mk (zi 1) r14 s_ ([] : List Qa)))])) (lf WK (QE.mk (w64 (a.x6 + 1)) a.h0 a.h1 (Qg.mk a.h2.Line a.h2.Label a.h2.Kind a.h2.Op a.h2.Text (a.h2.Args ++ [(Qf.mk (-1 : Int) (Qa.mk (zi 1) r14 s_ ([] : List Qa)))]))))) .fail))))))))))) (rx E1 (UC.mk a.h1 a.h2))))
theorem Qn2 (w : Cf) (C0 : Ut) (C1 : J1) (C2 : W4) (C3 : Vo) (a : QE) : (Sr pp w C0 C1 C2 C3 a).norm (roundT pp G.kd w 0 (G.an 65) (loopAt pp 65 3) (WK a)) = Sr pp w C0 C1 C2 C3 a := by kernel_rfl
theorem Qn3 (P : Pg) (w : Cf) (lp : Lo) (C0 : Ut) (C1 : J1) (C2 : W4) (C3 : Vo) (K0 : Qbo w C0) (K1 : SI w C1) (K2 : QjM w C2) (K3 : Qec w C3) (a : QE) : (Sr P w C0 C1 C2 C3 a).ok lp (Sum.elim (fun a => (.norm, WK a)) E1) := fun r1 hr1 => ⟨K0 _ _ _ hr1, ⟨rfl, fun q0 => fun r2 hr2 => ⟨K1 _ _ _ hr2, fun r3 hr3 => ⟨K0 _ _ _ hr3, ⟨rfl, fun q1 => Qj 2 (q1) (⟨(QaL _), Qj 2 (q1) (⟨rfl, fun q2 => fun r4 hr4 => ⟨K2 _ _ hr4, ⟨(UU [(Qf.mk (-1 : Int) r4)]), ⟨(decide_eq_true (YK _)), ⟨(by rw [Uc, Uc]), fun q3 => ⟨(WT _ _), rfl⟩, fun q3 => trivial⟩⟩⟩⟩, fun q2 => fun r5 hr5 => ⟨K0 _ _ _ hr5, ⟨rfl, fun q3 => fun r6 hr6 => ⟨K3 _ hr6, ⟨rfl, fun r7 hr7 => ⟨K0 _ _ _ hr7, ⟨rfl, fun q4 => fun e8 h => ⟨Jo h, ⟨(UU [(Qf.mk (-1 : Int) (Qa.mk (2 : Int) (0 : Int) e8 ([] : List Qa)))]), ⟨(decide_eq_true (YK _)), ⟨(by rw [Uc, Uc]), fun q5 => ⟨(WT _ _), rfl⟩, fun q5 => trivial⟩⟩⟩⟩, fun q4 => trivial⟩⟩⟩⟩, fun q3 => fun r9 hr9 => ⟨K0 _ _ _ hr9, ⟨(UU [(Qf.mk (-1 : Int) (Qa.mk (1 : Int) r9 s_ ([] : List Qa)))]), ⟨(decide_eq_true (YK _)), ⟨(by rw [Uc, Uc]), fun q4 => ⟨(WT _ _), rfl⟩, fun q4 => trivial⟩⟩⟩⟩⟩⟩⟩)⟩), fun q1 => noN_ok 4 (q1) (⟨rfl, fun r10 hr10 => ⟨K0 _ _ _ hr10, ⟨rfl, fun q2 => fun r11 hr11 => ⟨K3 _ hr11, ⟨rfl, fun r12 hr12 => ⟨K0 _ _ _ hr12, ⟨rfl, fun q3 => fun e13 h => ⟨Jo h, ⟨(UU [(Qf.mk (-1 : Int) (Qa.mk (2 : Int) (0 : Int) e13 ([] : List Qa)))]), ⟨(decide_eq_true (YK _)), ⟨(by rw [Uc, Uc]), fun q4 => ⟨(WT _ _), rfl⟩, fun q4 => trivial⟩⟩⟩⟩, fun q3 => trivial⟩⟩⟩⟩, fun q2 => fun r14 hr14 => ⟨K0 _ _ _ hr14, ⟨(UU [(Qf.mk (-1 : Int) (Qa.mk (1 : Int) r14 s_ ([] : List Qa)))]), ⟨(decide_eq_true (YK _)), ⟨(by rw [Uc, Uc]), fun q3 => ⟨(WT _ _), rfl⟩, fun q3 => trivial⟩⟩⟩⟩⟩⟩⟩)⟩⟩⟩, fun q0 => rfl⟩⟩
theorem Qn4 {C0 : Nat → Ut} {D0 : Ut} (H0 : Cv2 C0 D0) {C1 : Nat → J1} {D1 : J1} (H1 : Cv2 C1 D1) {C2 : Nat → W4} {D2 : W4} (H2 : Cv1 C2 D2) {C3 : Nat → Vo} {D3 : Vo} (H3 : Cv C3 D3) (a : QE) : Cv (fun k => Xh (C0 k) (C1 k) (C2 k) (C3 k) a) (Xh D0 D1 D2 D3 a) := by
  unfold Xh
  exact .bind (H0 _ _) fun r1 => .cond (.bind (H1 _ _) fun r2 => .bind (H0 _ _) fun r3 => .cond (.cond (.bind (H2 _) fun r4 => by exact .const _) (.bind (H0 _ _) fun r5 => .cond (.bind (H3) fun r6 => .bind (H0 _ _) fun r7 => by exact .const _) (.bind (H0 _ _) fun r9 => by exact .const _))) (.bind (H0 _ _) fun r10 => .cond (.bind (H3) fun r11 => .bind (H0 _ _) fun r12 => by exact .const _) (.bind (H0 _ _) fun r14 => by exact .const _))) cst
def UM.s (k : Nat) (C0 : Ut) (C1 : J1) (C2 : W4) (C3 : Vo) : QE → Option UC := iter (Xh C0 C1 C2 C3) k
theorem Qm8 (w : Cf) (k : Nat) (C0 : Ut) (C1 : J1) (C2 : W4) (C3 : Vo) (K0 : Qbo w C0) (K1 : SI w C1) (K2 : QjM w C2) (K3 : Qec w C3) (a : QE) (r : UC) (h : UM.s k C0 C1 C2 C3 a = some r) : loopsF pp G.kd w 0 (G.an 65) k (loopAt pp 65 3) (WK a) = some (E1 r) :=
  Va (fun a => Sr pp w C0 C1 C2 C3 a) (fun _ => rfl) (fun a => Qn2 w _ _ _ _ a) (fun a => Qn3 _ w _ _ _ _ _ K0 K1 K2 K3 a) (fun r => nofun) h
noncomputable def UM.w (C0 : Ut) (C1 : J1) (C2 : W4) (C3 : Vo) : QE → Option UC := loopW (Xh C0 C1 C2 C3)
theorem UM.cv (C0 : Nat → Ut) (C1 : Nat → J1) (C2 : Nat → W4) (C3 : Nat → Vo) (D0 : Ut) (D1 : J1) (D2 : W4) (D3 : Vo) (H0 : Cv2 C0 D0) (H1 : Cv2 C1 D1) (H2 : Cv1 C2 D2) (H3 : Cv C3 D3) (a : QE) : Cv (fun k => UM.s k (C0 k) (C1 k) (C2 k) (C3 k) a) (UM.w D0 D1 D2 D3 a) := Cv.iter (fun a => Qn4 H0 H1 H2 H3 a) a
def GZ (L0 : ZD) (a0 : Ql) (a1 : Int) : Option Qg := ((L0 (QE.mk (0 : Int) a0 (Qg.mk (0 : Int) s_ (0 : Int) (0 : Int) s_ ([] : List Qf)) (Qg.mk (1 : Int) s_ a1 (0 : Int) s_ ([] : List Qf)))).bind (fun (o1 : UC) => (some o1.h1)))
def QbN (P : Pg) (w : Cf) (L0 : ZD) (a0 : Ql) (a1 : Int) : Tr Qg AH := (.loop (loopAt P 65 3) (WK (QE.mk i0 a0 (Qg.mk i0 s_ i0 i0 s_ ([] : List Qf)) (Qg.mk (zi 1) s_ a1 i0 s_ ([] : List Qf)))) (L0 (QE.mk i0 a0 (Qg.mk i0 s_ i0 i0 s_ ([] : List Qf)) (Qg.mk (zi 1) s_ a1 i0 s_ ([] : List Qf)))) E1 (fun (o1 : UC) => (rt QbL o1.h1)))
theorem Qq4 (w : Cf) (L0 : ZD) (a0 : Ql) (a1 : Int) : (QbN pp w L0 a0 a1).norm (bodyT pp w G 65 (QbM a0 a1).1 (QbM a0 a1).2) = QbN pp w L0 a0 a1 := by kernel_rfl
theorem Qq5 (P : Pg) (w : Cf) (lp : Lo) (L0 : ZD) (N0 : QoV P lp L0) (a0 : Ql) (a1 : Int) : (QbN P w L0 a0 a1).ok lp QbL := fun o1 ho1 => ⟨N0 _ _ ho1, rfl⟩
theorem Qq6 {L0 : Nat → ZD} {M0 : ZD} (N0 : Cv1 L0 M0) (a0 : Ql) (a1 : Int) : Cv (fun k => GZ (L0 k) a0 a1) (GZ M0 a0 a1) := by
  unfold GZ
  exact .bind (N0 _) (fun o1 => by exact .const _)
def Wi.s : Nat → Ql → Int → Option Qg
  | 0, _, _ => none
  | k + 1, a0, a1 => GZ (UM.s k (Jp.s k) (Jy.s k) (Wr.s k) (Up.s k)) a0 a1
theorem Wi.ok : ∀ (k : Nat), Qle (ev k) (Wi.s k)
  | 0, _, _, _, h => (nomatch h)
  | k + 1, a0, a1, r, h => fn_ok rfl (QbN pp (ev k) (UM.s k (Jp.s k) (Jy.s k) (Wr.s k) (Up.s k)) a0 a1) (Qq4 _ _ a0 a1) (Qq5 _ _ _ _ (Qm8 _ k _ _ _ _ (Jp.ok k) (Jy.ok k) (Wr.ok k) (Up.ok k)) a0 a1) h
noncomputable def UM : QE → Option UC := UM.w Jp Jy Wr Up
theorem UM.eq (a : QE) : UM a = (Xh Jp Jy Wr Up a).bind (Sum.elim UM some) := UN _ _
noncomputable def Wi (a0 : Ql) (a1 : Int) : Option Qg := GZ UM a0 a1
theorem Wi.cv (a0 : Ql) (a1 : Int) : Cv (fun k => Wi.s k a0 a1) (Wi a0 a1) := .un rfl (Qq6 (UM.cv (fun k => Jp.s k) (fun k => Jy.s k) (fun k => Wr.s k) (fun k => Up.s k) Jp Jy Wr Up Jp.cv Jy.cv Wr.cv Up.cv) a0 a1)
theorem Wi.eq (a0 : Ql) (a1 : Int) : Wi a0 a1 = GZ UM a0 a1 := rfl
def UL (r : Qg) : AV × Heap := (.agg (G4 r), [])
abbrev FP := Ql → Option Qg
abbrev Qcx (a0 : Ql) : List AV × Heap := ([.agg (Zt a0)], [])
abbrev Qlf (w : Cf) (a0 : Ql) : Option AH := w 25 (Qcx a0).1 (Qcx a0).2
abbrev Qm9 (w : Cf) (c : FP) : Prop := ∀ (a0 : Ql) (r : Qg), c a0 = some r → Qlf w a0 = some (UL r)
structure JH where
  x5 : (List ByteArray)
  x6 : Int
  h0 : Ql
  h1 : Qg
  h2 : Qg
structure Vg where
  h0 : Ql
  h1 : Qg
  h2 : Qg
def G2 (a : JH) : St := { n := 156, nx := 5, env := [(1, .ptr 0 0), (2, .ptr 1 0), (3, .ptr 2 0), (5, .sl (Qh a.x5)), (6, xi a.x6)], heap := [(0, .box [] (Zt a.h0)), (1, .box [0, 0, 0, 0, 0, 5] [xi a.h1.Line, xs a.h1.Label, xi a.h1.Kind, xi a.h1.Op, xs a.h1.Text, .arr 3]), (2, .box [0, 0, 0, 0, 0, 5] [xi a.h2.Line, xs a.h2.Label, xi a.h2.Kind, xi a.h2.Op, xs a.h2.Text, .arr 4]), (3, .arr true 5 (Qi a.h1.Args)), (4, .arr true 5 (Qi a.h2.Args))] }
def FQ (a : Vg) : Ex × St := (.exit 1, { n := 156, nx := 5, env := [(1, .ptr 0 0), (2, .ptr 1 0), (3, .ptr 2 0)], heap := [(0, .box [] (Zt a.h0)), (1, .box [0, 0, 0, 0, 0, 5] [xi a.h1.Line, xs a.h1.Label, xi a.h1.Kind, xi a.h1.Op, xs a.h1.Text, .arr 3]), (2, .box [0, 0, 0, 0, 0, 5] [xi a.h2.Line, xs a.h2.Label, xi a.h2.Kind, xi a.h2.Op, xs a.h2.Text, .arr 4]), (3, .arr true 5 (Qi a.h1.Args)), (4, .arr true 5 (Qi a.h2.Args))] })
abbrev Gd := JH → Option Vg
abbrev Qp6 (P : Pg) (lp : Lo) (l : Gd) : Prop := ∀ (a : JH) (r : Vg), l a = some r → lp (loopAt P 25 8) (G2 a) = some (FQ r)
def XQ (C0 : J1) (C1 : Xj) (a : JH) : Option (JH ⊕ Vg) := (bif (decide (a.x6 < (((a.x5.length) : Nat) : Int))) then (bif (decide (0 ≤ a.x6)) then ((a.x5[(Int.toNat a.x6)]?).bind fun e1 => ((C0 a.h0 a.x6).bind fun r2 => ((C1 a.h0 e1 r2).bind fun r3 => (bif (decide ((a.h2.Args.length + [r3].length) * 64 ≤ most)) then (some (.inl (JH.mk a.x5 (w64 (a.x6 + 1)) a.h0 a.h1 (Qg.mk a.h2.Line a.h2.Label a.h2.Kind a.h2.Op a.h2.Text (a.h2.Args ++ [r3]))))) else none)))) else none) else (some (.inr (Vg.mk a.h0 a.h1 a.h2))))
def Qai (P : Pg) (w : Cf) (C0 : J1) (C1 : Xj) (a : JH) : Tr (JH ⊕ Vg) XS := (.num ((Qh a.x5).length) (a.x5.length) (.as (decide (a.x6 < (((a.x5.length) : Nat) : Int))) (.as (decide (0 ≤ a.x6)) (.row ((Qh a.x5)[(Int.toNat a.x6)]?) (a.x5[(Int.toNat a.x6)]?) JL fun (e1 : ByteArray) => (.call (Qd7 w a.h0 a.x6) (C0 a.h0 a.x6) EE fun r2 => (.call (QjR w a.h0 e1 r2) (C1 a.h0 e1 r2) Y2 fun r3 => (.rows [[xi r3.Reg, xi r3.E.Kind, xi r3.E.N, xs r3.E.Name, .sl (QY r3.E.L)]] (Qi [r3]) (.yes (decide ((Qi [r3]).all (fun r => r.length == 5) = true)) (.ask (decide (((Qi a.h2.Args).length + (Qi [r3]).length) * 64 ≤ most)) (decide ((a.h2.Args.length + [r3].length) * 64 ≤ most)) (.rows ((Qi a.h2.Args) ++ (Qi [r3])) (Qi (a.h2.Args ++ [r3])) (lf G2 (JH.mk a.x5 (w64 (a.x6 + 1)) a.h0 a.h1 (Qg.mk a.h2.Line a.h2.Label a.h2.Kind a.h2.Op a.h2.Text (a.h2.Args ++ [r3]))))) .fail)))))) .fail) (rx FQ (Vg.mk a.h0 a.h1 a.h2))))
theorem QoW (w : Cf) (C0 : J1) (C1 : Xj) (a : JH) : (Qai pp w C0 C1 a).norm (roundT pp G.kd w 0 (G.an 25) (loopAt pp 25 8) (G2 a)) = Qai pp w C0 C1 a := by kernel_rfl
theorem QoX (P : Pg) (w : Cf) (lp : Lo) (C0 : J1) (C1 : Xj) (K0 : SI w C0) (K1 : Qgc w C1) (a : JH) : (Qai P w C0 C1 a).ok lp (Sum.elim (fun a => (.norm, G2 a)) FQ) := ⟨(QJ _), ⟨rfl, fun q0 => ⟨rfl, fun q1 => fun e1 h => ⟨Jo h, fun r2 hr2 => ⟨K0 _ _ _ hr2, fun r3 hr3 => ⟨K1 _ _ _ _ hr3, ⟨(UU [r3]), ⟨(decide_eq_true (YK _)), ⟨(by rw [Uc, Uc]), fun q2 => ⟨(WT _ _), rfl⟩, fun q2 => trivial⟩⟩⟩⟩⟩⟩, fun q1 => trivial⟩, fun q0 => rfl⟩⟩
theorem QoY {C0 : Nat → J1} {D0 : J1} (H0 : Cv2 C0 D0) {C1 : Nat → Xj} {D1 : Xj} (H1 : Cv3 C1 D1) (a : JH) : Cv (fun k => XQ (C0 k) (C1 k) a) (XQ D0 D1 a) := by
  unfold XQ
  exact .cond (.cond (.bind (.const _) fun e1 => .bind (H0 _ _) fun r2 => .bind (H1 _ _ _) fun r3 => by exact .const _) cst) cst
def U0.s (k : Nat) (C0 : J1) (C1 : Xj) : JH → Option Vg := iter (XQ C0 C1) k
theorem Qn5 (w : Cf) (k : Nat) (C0 : J1) (C1 : Xj) (K0 : SI w C0) (K1 : Qgc w C1) (a : JH) (r : Vg) (h : U0.s k C0 C1 a = some r) : loopsF pp G.kd w 0 (G.an 25) k (loopAt pp 25 8) (G2 a) = some (FQ r) :=
  Va (fun a => Qai pp w C0 C1 a) (fun _ => rfl) (fun a => QoW w _ _ a) (fun a => QoX _ w _ _ _ K0 K1 a) (fun r => nofun) h
noncomputable def U0.w (C0 : J1) (C1 : Xj) : JH → Option Vg := loopW (XQ C0 C1)
theorem U0.cv (C0 : Nat → J1) (C1 : Nat → Xj) (D0 : J1) (D1 : Xj) (H0 : Cv2 C0 D0) (H1 : Cv3 C1 D1) (a : JH) : Cv (fun k => U0.s k (C0 k) (C1 k) a) (U0.w D0 D1 a) := Cv.iter (fun a => QoY H0 H1 a) a
def ES (C0 : Ut) (C1 : Qba) (C2 : Qbb) (C3 : Vo) (C4 : ER) (C5 : W4) (L6 : Gd) (a0 : Ql) : Option Qg := ((C0 a0.K (16 : Int)).bind fun r1 => (bif (decide (r1 < 6)) then ((C0 a0.A (66 : Int)).bind fun r2 => ((C1 r2).bind fun r3 => ((C2 r3).bind fun r4 => ((L6 (JH.mk r4 (0 : Int) a0 (Qg.mk (0 : Int) s_ (0 : Int) (0 : Int) s_ ([] : List Qf)) (Qg.mk (1 : Int) s_ (1 : Int) r2 s_ ([] : List Qf)))).bind (fun (o5 : Vg) => (bif o5.h0.Label then ((C3).bind fun r6 => ((C0 o5.h0.B (4 : Int)).bind fun r7 => (bif (decide (0 ≤ r7)) then ((r6[(Int.toNat r7)]?).bind fun e8 => (some (Qg.mk o5.h2.Line e8 o5.h2.Kind o5.h2.Op o5.h2.Text o5.h2.Args))) else none))) else (bif (o5.h2.Kind == 0) then ((C3).bind fun r9 => ((C0 o5.h0.B (4 : Int)).bind fun r10 => (bif (decide (0 ≤ r10)) then ((r9[(Int.toNat r10)]?).bind fun e11 => (some (Qg.mk o5.h2.Line e11 o5.h2.Kind o5.h2.Op o5.h2.Text o5.h2.Args))) else none))) else (some o5.h2)))))))) else (bif (decide (r1 < 9)) then ((C0 a0.A (3 : Int)).bind fun r12 => (bif (r12 == 2) then ((C0 a0.B (2 : Int)).bind fun r13 => ((C0 (w64 (Int.tdiv a0.B (2 : Int))) (4 : Int)).bind fun r14 => ((C3).bind fun r15 => ((C0 a0.B (4 : Int)).bind fun r16 => (bif (decide (0 ≤ r16)) then ((r15[(Int.toNat r16)]?).bind fun e17 => (bif (decide (([(Qf.mk (-1 : Int) (Qa.mk (1 : Int) r13 s_ ([] : List Qa))), (Qf.mk (-1 : Int) (Qa.mk (1 : Int) r14 s_ ([] : List Qa)))].length + [(Qf.mk (-1 : Int) (Qa.mk (2 : Int) (0 : Int) e17 ([] : List Qa)))].length) * 64 ≤ most)) then (bif a0.Label then ((C3).bind fun r18 => ((C0 a0.B (4 : Int)).bind fun r19 => (bif (decide (0 ≤ r19)) then ((r18[(Int.toNat r19)]?).bind fun e20 => (some (Qg.mk (1 : Int) e20 (2 : Int) r12 s_ ([(Qf.mk (-1 : Int) (Qa.mk (1 : Int) r13 s_ ([] : List Qa))), (Qf.mk (-1 : Int) (Qa.mk (1 : Int) r14 s_ ([] : List Qa)))] ++ [(Qf.mk (-1 : Int) (Qa.mk (2 : Int) (0 : Int) e17 ([] : List Qa)))])))) else none))) else (some (Qg.mk (1 : Int) s_ (2 : Int) r12 s_ ([(Qf.mk (-1 : Int) (Qa.mk (1 : Int) r13 s_ ([] : List Qa))), (Qf.mk (-1 : Int) (Qa.mk (1 : Int) r14 s_ ([] : List Qa)))] ++ [(Qf.mk (-1 : Int) (Qa.mk (2 : Int) (0 : Int) e17 ([] : List Qa)))])))) else none)) else none))))) else ((C3).bind fun r21 => ((C0 a0.B (4 : Int)).bind fun r22 => (bif (decide (0 ≤ r22)) then ((r21[(Int.toNat r22)]?).bind fun e23 => (bif (decide ((([] : List Qf).length + [(Qf.mk (-1 : Int) (Qa.mk (2 : Int) (0 : Int) e23 ([] : List Qa)))].length) * 64 ≤ most)) then (bif a0.Label then ((C3).bind fun r24 => ((C0 a0.B (4 : Int)).bind fun r25 => (bif (decide (0 ≤ r25)) then ((r24[(Int.toNat r25)]?).bind fun e26 => (some (Qg.mk (1 : Int) e26 (2 : Int) r12 s_ (([] : List Qf) ++ [(Qf.mk (-1 : Int) (Qa.mk (2 : Int) (0 : Int) e23 ([] : List Qa)))])))) else none))) else (some (Qg.mk (1 : Int) s_ (2 : Int) r12 s_ (([] : List Qf) ++ [(Qf.mk (-1 : Int) (Qa.mk (2 : Int) (0 : Int) e23 ([] : List Qa)))])))) else none)) else none))))) else (bif (decide (r1 < 12)) then ((C4 a0 (w64 ((w64 ((3 : Int) + r1)) - 9))).bind fun r27 => (bif a0.Label then ((C3).bind fun r28 => ((C0 a0.B (4 : Int)).bind fun r29 => (bif (decide (0 ≤ r29)) then ((r28[(Int.toNat r29)]?).bind fun e30 => (some (Qg.mk r27.Line e30 r27.Kind r27.Op r27.Text r27.Args))) else none))) else (bif (r27.Kind == 0) then ((C3).bind fun r31 => ((C0 a0.B (4 : Int)).bind fun r32 => (bif (decide (0 ≤ r32)) then ((r31[(Int.toNat r32)]?).bind fun e33 => (some (Qg.mk r27.Line e33 r27.Kind r27.Op r27.Text r27.Args))) else none))) else (some r27)))) else (bif (r1 == 12) then ((C0 a0.A (5 : Int)).bind fun r34 => (bif (decide (0 ≤ r34 ∧ r34 < (([s_, s_hi, V1, Yr, Qdr].length : Nat) : Int))) then (([s_, s_hi, V1, Yr, Qdr][(Int.toNat r34)]?).bind fun e35 => (bif a0.Label then ((C3).bind fun r36 => ((C0 a0.B (4 : Int)).bind fun r37 => (bif (decide (0 ≤ r37)) then ((r36[(Int.toNat r37)]?).bind fun e38 => (some (Qg.mk (1 : Int) e38 (6 : Int) (0 : Int) e35 ([] : List Qf)))) else none))) else (some (Qg.mk (1 : Int) s_ (6 : Int) (0 : Int) e35 ([] : List Qf))))) else none)) else (bif (r1 == 13) then ((C0 a0.A (6 : Int)).bind fun r39 => (bif (decide (0 ≤ r39 ∧ r39 < (([(1 : Int), (2 : Int), (4 : Int), (8 : Int), (16 : Int), (3 : Int)].length : Nat) : Int))) then (([(1 : Int), (2 : Int), (4 : Int), (8 : Int), (16 : Int), (3 : Int)][(Int.toNat r39)]?).bind fun e40 => (bif a0.Label then ((C3).bind fun r41 => ((C0 a0.B (4 : Int)).bind fun r42 => (bif (decide (0 ≤ r42)) then ((r41[(Int.toNat r42)]?).bind fun e43 => (some (Qg.mk (1 : Int) e43 (7 : Int) (0 : Int) s_ [(Qf.mk (-1 : Int) (Qa.mk (1 : Int) e40 s_ ([] : List Qa)))]))) else none))) else (some (Qg.mk (1 : Int) s_ (7 : Int) (0 : Int) s_ [(Qf.mk (-1 : Int) (Qa.mk (1 : Int) e40 s_ ([] : List Qa)))])))) else none)) else (bif (r1 == 14) then ((C0 a0.A (8 : Int)).bind fun r44 => (bif (decide (0 ≤ r44 ∧ r44 < (([(0 : Int), (2 : Int), (100 : Int), (250 : Int), (252 : Int), (254 : Int), (256 : Int), (7 : Int)].length : Nat) : Int))) then (([(0 : Int), (2 : Int), (100 : Int), (250 : Int), (252 : Int), (254 : Int), (256 : Int), (7 : Int)][(Int.toNat r44)]?).bind fun e45 => (bif a0.Label then ((C3).bind fun r46 => ((C0 a0.B (4 : Int)).bind fun r47 => (bif (decide (0 ≤ r47)) then ((r46[(Int.toNat r47)]?).bind fun e48 => (some (Qg.mk (1 : Int) e48 (8 : Int) (0 : Int) s_ [(Qf.mk (-1 : Int) (Qa.mk (1 : Int) e45 s_ ([] : List Qa)))]))) else none))) else (some (Qg.mk (1 : Int) s_ (8 : Int) (0 : Int) s_ [(Qf.mk (-1 : Int) (Qa.mk (1 : Int) e45 s_ ([] : List Qa)))])))) else none)) else ((C0 a0.A (3 : Int)).bind fun r49 => (bif (decide (0 ≤ r49 ∧ r49 < (([s_k, QaO, s_x].length : Nat) : Int))) then (([s_k, QaO, s_x][(Int.toNat r49)]?).bind fun e50 => ((C5 a0.E).bind fun r51 => (bif a0.Label then ((C3).bind fun r52 => ((C0 a0.B (4 : Int)).bind fun r53 => (bif (decide (0 ≤ r53)) then ((r52[(Int.toNat r53)]?).bind fun e54 => (some (Qg.mk (1 : Int) e54 (9 : Int) (0 : Int) e50 [(Qf.mk (-1 : Int) r51)]))) else none))) else (some (Qg.mk (1 : Int) s_ (9 : Int) (0 : Int) e50 [(Qf.mk (-1 : Int) r51)]))))) else none)))))))))
def Qcy (P : Pg) (w : Cf) (C0 : Ut) (C1 : Qba) (C2 : Qbb) (C3 : Vo) (C4 : ER) (C5 : W4) (L6 : Gd) (a0 : Ql) : Tr Qg AH := (.call (Ju w a0.K (zi 16)) (C0 a0.K (zi 16)) Jh fun r1 => (.as (decide (r1 < 6)) (.call (Ju w a0.A (zi 66)) (C0 a0.A (zi 66)) Jh fun r2 => (.call (QpV w r2) (C1 r2) QgG fun r3 => (.call (QpW w r3) (C2 r3) QgJ fun r4 => (.loop (loopAt P 25 8) (G2 (JH.mk r4 i0 a0 (Qg.mk i0 s_ i0 i0 s_ ([] : List Qf)) (Qg.mk (zi 1) s_ (zi 1) r2 s_ ([] : List Qf)))) (L6 (JH.mk r4 i0 a0 (Qg.mk i0 s_ i0 i0 s_ ([] : List Qf)) (Qg.mk (zi 1) s_ (zi 1) r2 s_ ([] : List Qf)))) FQ (fun (o5 : Vg) => (let u125 := o5.h0.Label; .as u125 (yesN 3 u125 (.yes true (.call (Ws w) (C3) V0 fun r6 => (.call (Ju w o5.h0.B (zi 4)) (C0 o5.h0.B (zi 4)) Jh fun r7 => (.as (decide (0 ≤ r7)) (.row ((Qh r6)[(Int.toNat r7)]?) (r6[(Int.toNat r7)]?) JL fun (e8 : ByteArray) => (rt UL (Qg.mk o5.h2.Line e8 o5.h2.Kind o5.h2.Op o5.h2.Text o5.h2.Args))) .fail))))) (noN 3 u125 (.as (o5.h2.Kind == 0) (.call (Ws w) (C3) V0 fun r9 => (.call (Ju w o5.h0.B (zi 4)) (C0 o5.h0.B (zi 4)) Jh fun r10 => (.as (decide (0 ≤ r10)) (.row ((Qh r9)[(Int.toNat r10)]?) (r9[(Int.toNat r10)]?) JL fun (e11 : ByteArray) => (rt UL (Qg.mk o5.h2.Line e11 o5.h2.Kind o5.h2.Op o5.h2.Text o5.h2.Args))) .fail))) (rt UL o5.h2))))))))) (.as (decide (r1 < 9)) (.call (Ju w a0.A (zi 3)) (C0 a0.A (zi 3)) Jh fun r12 => (.as (r12 == 2) (.call (Ju w a0.B (zi 2)) (C0 a0.B (zi 2)) Jh fun r13 => (.yes (decide ((zi 2) ≠ 0)) (.call (Ju w (w64 (Int.tdiv a0.B (zi 2))) (zi 4)) (C0 (w64 (Int.tdiv a0.B (zi 2))) (zi 4)) Jh fun r14 => (.rows [[xi (-1 : Int), xi (zi 1), xi r13, xs s_, .sl (QY ([] : List Qa))], [xi (-1 : Int), xi (zi 1), xi r14, xs s_, .sl (QY ([] : List Qa))]] (Qi [(Qf.mk (-1 : Int) (Qa.mk (zi 1) r13 s_ ([] : List Qa))), (Qf.mk (-1 : Int) (Qa.mk (zi 1) r14 s_ ([] : List Qa)))]) (.call (Ws w) (C3) V0 fun r15 => (.call (Ju w a0.B (zi 4)) (C0 a0.B (zi 4)) Jh fun r16 => (.as (decide (0 ≤ r16)) (.row ((Qh r15)[(Int.toNat r16)]?) (r15[(Int.toNat r16)]?) JL fun (e17 : ByteArray) => (.rows [[xi (-1 : Int), xi (zi 2), xi i0, xs e17, .sl (QY ([] : List Qa))]] (Qi [(Qf.mk (-1 : Int) (Qa.mk (zi 2) i0 e17 ([] : List Qa)))]) (.yes (decide ((Qi [(Qf.mk (-1 : Int) (Qa.mk (zi 2) i0 e17 ([] : List Qa)))]).all (fun r => r.length == 5) = true)) (.ask (decide (((Qi [(Qf.mk (-1 : Int) (Qa.mk (zi 1) r13 s_ ([] : List Qa))), (Qf.mk (-1 : Int) (Qa.mk (zi 1) r14 s_ ([] : List Qa)))]).length + (Qi [(Qf.mk (-1 : Int) (Qa.mk (zi 2) i0 e17 ([] : List Qa)))]).length) * 64 ≤ most)) (decide (([(Qf.mk (-1 : Int) (Qa.mk (zi 1) r13 s_ ([] : List Qa))), (Qf.mk (-1 : Int) (Qa.mk (zi 1) r14 s_ ([] : List Qa)))].length + [(Qf.mk (-1 : Int) (Qa.mk (zi 2) i0 e17 ([] : List Qa)))].length) * 64 ≤ most)) (.rows ((Qi [(Qf.mk (-1 : Int) (Qa.mk (zi 1) r13 s_ ([] : List Qa))), (Qf.mk (-1 : Int) (Qa.mk (zi 1) r14 s_ ([] : List Qa)))]) ++ (Qi [(Qf.mk (-1 : Int) (Qa.mk (zi 2) i0 e17 ([] : List Qa)))])) (Qi ([(Qf.mk (-1 : Int) (Qa.mk (zi 1) r13 s_ ([] : List Qa))), (Qf.mk (-1 : Int) (Qa.mk (zi 1) r14 s_ ([] : List Qa)))] ++ [(Qf.mk (-1 : Int) (Qa.mk (zi 2) i0 e17 ([] : List Qa)))])) (.as a0.Label (yesN 3 a0.Label (.yes true (.call (Ws w) (C3) V0 fun r18 => (.call (Ju w a0.B (zi 4)) (C0 a0.B (zi 4)) Jh fun r19 => (.as (decide (0 ≤ r19)) (.row ((Qh r18)[(Int.toNat r19)]?) (r18[(Int.toNat r19)]?) JL fun (e20 : ByteArray) => (rt UL (Qg.mk (zi 1) e20 (zi 2) r12 s_ ([(Qf.mk (-1 : Int) (Qa.mk (zi 1) r13 s_ ([] : List Qa))), (Qf.mk (-1 : Int) (Qa.mk (zi 1) r14 s_ ([] : List Qa)))] ++ [(Qf.mk (-1 : Int) (Qa.mk (zi 2) i0 e17 ([] : List Qa)))])))) .fail))))) (noN 3 a0.Label (.no false (rt UL (Qg.mk (zi 1) s_ (zi 2) r12 s_ ([(Qf.mk (-1 : Int) (Qa.mk (zi 1) r13 s_ ([] : List Qa))), (Qf.mk (-1 : Int) (Qa.mk (zi 1) r14 s_ ([] : List Qa)))] ++ [(Qf.mk (-1 : Int) (Qa.mk (zi 2) i0 e17 ([] : List Qa)))]))))))) .fail)))) .fail))))))) (.call (Ws w) (C3) V0 fun r21 => (.call (Ju w a0.B (zi 4)) (C0 a0.B (zi 4)) Jh fun r22 => (.as (decide (0 ≤ r22)) (.row ((Qh r21)[(Int.toNat r22)]?) (r21[(Int.toNat r22)]?) JL fun (e23 : ByteArray) => (.rows [[xi (-1 : Int), xi (zi 2), xi i0, xs e23, .sl (QY ([] : List Qa))]] (Qi [(Qf.mk (-1 : Int) (Qa.mk (zi 2) i0 e23 ([] : List Qa)))]) (.yes (decide ((Qi [(Qf.mk (-1 : Int) (Qa.mk (zi 2) i0 e23 ([] : List Qa)))]).all (fun r => r.length == 5) = true)) (.ask (decide (((Qi ([] : List Qf)).length + (Qi [(Qf.mk (-1 : Int) (Qa.mk (zi 2) i0 e23 ([] : List Qa)))]).length) * 64 ≤ most)) (decide ((([] : List Qf).length + [(Qf.mk (-1 : Int) (Qa.mk (zi 2) i0 e23 ([] : List Qa)))].length) * 64 ≤ most)) (.rows ((Qi ([] : List Qf)) ++ (Qi [(Qf.mk (-1 : Int) (Qa.mk (zi 2) i0 e23 ([] : List Qa)))])) (Qi (([] : List Qf) ++ [(Qf.mk (-1 : Int) (Qa.mk (zi 2) i0 e23 ([] : List Qa)))])) (.as a0.Label (yesN 3 a0.Label (.yes true (.call (Ws w) (C3) V0 fun r24 => (.call (Ju w a0.B (zi 4)) (C0 a0.B (zi 4)) Jh fun r25 => (.as (decide (0 ≤ r25)) (.row ((Qh r24)[(Int.toNat r25)]?) (r24[(Int.toNat r25)]?) JL fun (e26 : ByteArray) => (rt UL (Qg.mk (zi 1) e26 (zi 2) r12 s_ (([] : List Qf) ++ [(Qf.mk (-1 : Int) (Qa.mk (zi 2) i0 e23 ([] : List Qa)))])))) .fail))))) (noN 3 a0.Label (.no false (rt UL (Qg.mk (zi 1) s_ (zi 2) r12 s_ (([] : List Qf) ++ [(Qf.mk (-1 : Int) (Qa.mk (zi 2) i0 e23 ([] : List Qa)))]))))))) .fail)))) .fail))))) (.as (decide (r1 < 12)) (.call (QjS w a0 (w64 ((w64 ((zi 3) + r1)) - 9))) (C4 a0 (w64 ((w64 ((zi 3) + r1)) - 9))) QbL fun r27 => (.as a0.Label (yesN 3 a0.Label (.yes true (.call (Ws w) (C3) V0 fun r28 => (.call (Ju w a0.B (zi 4)) (C0 a0.B (zi 4)) Jh fun r29 => (.as (decide (0 ≤ r29)) (.row ((Qh r28)[(Int.toNat r29)]?) (r28[(Int.toNat r29)]?) JL fun (e30 : ByteArray) => (rt UL (Qg.mk r27.Line e30 r27.Kind r27.Op r27.Text r27.Args))) .fail))))) (noN 3 a0.Label (.as (r27.Kind == 0) (.call (Ws w) (C3) V0 fun r31 => (.call (Ju w a0.B (zi 4)) (C0 a0.B (zi 4)) Jh fun r32 => (.as (decide (0 ≤ r32)) (.row ((Qh r31)[(Int.toNat r32)]?) (r31[(Int.toNat r32)]?) JL fun (e33 : ByteArray) => (rt UL (Qg.mk r27.Line e33 r27.Kind r27.Op r27.Text r27.Args))) .fail))) (rt UL r27))))) (.as (r1 == 12) (.rows [[xs s_], [xs s_hi], [xs V1], [xs Yr], [xs Qdr]] (Qh [s_, s_hi, V1, Yr, Qdr]) (.call (Ju w a0.A (zi 5)) (C0 a0.A (zi 5)) Jh fun r34 => (.ask (in1 r34 (((Qh [s_, s_hi, V1, Yr, Qdr]).length : Nat) : Int)) (in1 r34 (([s_, s_hi, V1, Yr, Qdr].length : Nat) : Int)) (.row ((Qh [s_, s_hi, V1, Yr, Qdr])[(Int.toNat r34)]?) ([s_, s_hi, V1, Yr, Qdr][(Int.toNat r34)]?) JL fun (e35 : ByteArray) => (.as a0.Label (yesN 3 a0.Label (.yes true (.call (Ws w) (C3) V0 fun r36 => (.call (Ju w a0.B (zi 4)) (C0 a0.B (zi 4)) Jh fun r37 => (.as (decide (0 ≤ r37)) (.row ((Qh r36)[(Int.toNat r37)]?) (r36[(Int.toNat r37)]?) JL fun (e38 : ByteArray) => (rt UL (Qg.mk (zi 1) e38 (zi 6) i0 e35 ([] : List Qf)))) .fail))))) (noN 3 a0.Label (.no false (rt UL (Qg.mk (zi 1) s_ (zi 6) i0 e35 ([] : List Qf))))))) .fail))) (.as (r1 == 13) (.rows [[xi (zi 1)], [xi (zi 2)], [xi (zi 4)], [xi (zi 8)], [xi (zi 16)], [xi (zi 3)]] (JE [(zi 1), (zi 2), (zi 4), (zi 8), (zi 16), (zi 3)]) (.call (Ju w a0.A (zi 6)) (C0 a0.A (zi 6)) Jh fun r39 => (.ask (in1 r39 (((JE [(zi 1), (zi 2), (zi 4), (zi 8), (zi 16), (zi 3)]).length : Nat) : Int)) (in1 r39 (([(zi 1), (zi 2), (zi 4), (zi 8), (zi 16), (zi 3)].length : Nat) : Int)) (.row ((JE [(zi 1), (zi 2), (zi 4), (zi 8), (zi 16), (zi 3)])[(Int.toNat r39)]?) ([(zi 1), (zi 2), (zi 4), (zi 8), (zi 16), (zi 3)][(Int.toNat r39)]?) Z1 fun (e40 : Int) => (.rows [[xi (-1 : Int), xi (zi 1), xi e40, xs s_, .sl (QY ([] : List Qa))]] (Qi [(Qf.mk (-1 : Int) (Qa.mk (zi 1) e40 s_ ([] : List Qa)))]) (.as a0.Label (yesN 3 a0.Label (.yes true (.call (Ws w) (C3) V0 fun r41 => (.call (Ju w a0.B (zi 4)) (C0 a0.B (zi 4)) Jh fun r42 => (.as (decide (0 ≤ r42)) (.row ((Qh r41)[(Int.toNat r42)]?) (r41[(Int.toNat r42)]?) JL fun (e43 : ByteArray) => (rt UL (Qg.mk (zi 1) e43 (zi 7) i0 s_ [(Qf.mk (-1 : Int) (Qa.mk (zi 1) e40 s_ ([] : List Qa)))]))) .fail))))) (noN 3 a0.Label (.no false (rt UL (Qg.mk (zi 1) s_ (zi 7) i0 s_ [(Qf.mk (-1 : Int) (Qa.mk (zi 1) e40 s_ ([] : List Qa)))]))))))) .fail))) (.as (r1 == 14) (.rows [[xi i0], [xi (zi 2)], [xi (zi 100)], [xi (zi 250)], [xi (zi 252)], [xi (zi 254)], [xi (zi 256)], [xi (zi 7)]] (JE [i0, (zi 2), (zi 100), (zi 250), (zi 252), (zi 254), (zi 256), (zi 7)]) (.call (Ju w a0.A (zi 8)) (C0 a0.A (zi 8)) Jh fun r44 => (.ask (in1 r44 (((JE [i0, (zi 2), (zi 100), (zi 250), (zi 252), (zi 254), (zi 256), (zi 7)]).length : Nat) : Int)) (in1 r44 (([i0, (zi 2), (zi 100), (zi 250), (zi 252), (zi 254), (zi 256), (zi 7)].length : Nat) : Int)) (.row ((JE [i0, (zi 2), (zi 100), (zi 250), (zi 252), (zi 254), (zi 256), (zi 7)])[(Int.toNat r44)]?) ([i0, (zi 2), (zi 100), (zi 250), (zi 252), (zi 254), (zi 256), (zi 7)][(Int.toNat r44)]?) Z1 fun (e45 : Int) => (.rows [[xi (-1 : Int), xi (zi 1), xi e45, xs s_, .sl (QY ([] : List Qa))]] (Qi [(Qf.mk (-1 : Int) (Qa.mk (zi 1) e45 s_ ([] : List Qa)))]) (.as a0.Label (yesN 3 a0.Label (.yes true (.call (Ws w) (C3) V0 fun r46 => (.call (Ju w a0.B (zi 4)) (C0 a0.B (zi 4)) Jh fun r47 => (.as (decide (0 ≤ r47)) (.row ((Qh r46)[(Int.toNat r47)]?) (r46[(Int.toNat r47)]?) JL fun (e48 : ByteArray) => (rt UL (Qg.mk (zi 1) e48 (zi 8) i0 s_ [(Qf.mk (-1 : Int) (Qa.mk (zi 1) e45 s_ ([] : List Qa)))]))) .fail))))) (noN 3 a0.Label (.no false (rt UL (Qg.mk (zi 1) s_ (zi 8) i0 s_ [(Qf.mk (-1 : Int) (Qa.mk (zi 1) e45 s_ ([] : List Qa)))]))))))) .fail))) (.rows [[xs s_k], [xs QaO], [xs s_x]] (Qh [s_k, QaO, s_x]) (.call (Ju w a0.A (zi 3)) (C0 a0.A (zi 3)) Jh fun r49 => (.ask (in1 r49 (((Qh [s_k, QaO, s_x]).length : Nat) : Int)) (in1 r49 (([s_k, QaO, s_x].length : Nat) : Int)) (.row ((Qh [s_k, QaO, s_x])[(Int.toNat r49)]?) ([s_k, QaO, s_x][(Int.toNat r49)]?) JL fun (e50 : ByteArray) => (.call (QkF w a0.E) (C5 a0.E) QcG fun r51 => (.rows [[xi (-1 : Int), xi r51.Kind, xi r51.N, xs r51.Name, .sl (QY r51.L)]] (Qi [(Qf.mk (-1 : Int) r51)]) (.as a0.Label (yesN 3 a0.Label (.yes true (.call (Ws w) (C3) V0 fun r52 => (.call (Ju w a0.B (zi 4)) (C0 a0.B (zi 4)) Jh fun r53 => (.as (decide (0 ≤ r53)) (.row ((Qh r52)[(Int.toNat r53)]?) (r52[(Int.toNat r53)]?) JL fun (e54 : ByteArray) => (rt UL (Qg.mk (zi 1) e54 (zi 9) i0 e50 [(Qf.mk (-1 : Int) r51)]))) .fail))))) (noN 3 a0.Label (.no false (rt UL (Qg.mk (zi 1) s_ (zi 9) i0 e50 [(Qf.mk (-1 : Int) r51)])))))))) .fail))))))))))
theorem QsE (w : Cf) (C0 : Ut) (C1 : Qba) (C2 : Qbb) (C3 : Vo) (C4 : ER) (C5 : W4) (L6 : Gd) (a0 : Ql) : (Qcy pp w C0 C1 C2 C3 C4 C5 L6 a0).norm (bodyT pp w G 25 (Qcx a0).1 (Qcx a0).2) = Qcy pp w C0 C1 C2 C3 C4 C5 L6 a0 := by kernel_rfl
theorem QsF (P : Pg) (w : Cf) (lp : Lo) (C0 : Ut) (C1 : Qba) (C2 : Qbb) (C3 : Vo) (C4 : ER) (C5 : W4) (L6 : Gd) (K0 : Qbo w C0) (K1 : QrD w C1) (K2 : QrE w C2) (K3 : Qec w C3) (K4 : Qle w C4) (K5 : QjM w C5) (N6 : Qp6 P lp L6) (a0 : Ql) : (Qcy P w C0 C1 C2 C3 C4 C5 L6 a0).ok lp UL := fun r1 hr1 => ⟨K0 _ _ _ hr1, ⟨rfl, fun q0 => fun r2 hr2 => ⟨K0 _ _ _ hr2, fun r3 hr3 => ⟨K1 _ _ hr3, fun r4 hr4 => ⟨K2 _ _ hr4, fun o5 ho5 => ⟨N6 _ _ ho5, ⟨rfl, fun q1 => Qj 3 (q1) (⟨rfl, fun r6 hr6 => ⟨K3 _ hr6, fun r7 hr7 => ⟨K0 _ _ _ hr7, ⟨rfl, fun q2 => fun e8 h => ⟨Jo h, rfl⟩, fun q2 => trivial⟩⟩⟩⟩), fun q1 => noN_ok 3 (q1) (⟨rfl, fun q2 => fun r9 hr9 => ⟨K3 _ hr9, fun r10 hr10 => ⟨K0 _ _ _ hr10, ⟨rfl, fun q3 => fun e11 h => ⟨Jo h, rfl⟩, fun q3 => trivial⟩⟩⟩, fun q2 => rfl⟩)⟩⟩⟩⟩⟩, fun q0 => ⟨rfl, fun q1 => fun r12 hr12 => ⟨K0 _ _ _ hr12, ⟨rfl, fun q2 => fun r13 hr13 => ⟨K0 _ _ _ hr13, ⟨rfl, fun r14 hr14 => ⟨K0 _ _ _ hr14, ⟨(UU [(Qf.mk (-1 : Int) (Qa.mk (1 : Int) r13 s_ ([] : List Qa))), (Qf.mk (-1 : Int) (Qa.mk (1 : Int) r14 s_ ([] : List Qa)))]), fun r15 hr15 => ⟨K3 _ hr15, fun r16 hr16 => ⟨K0 _ _ _ hr16, ⟨rfl, fun q3 => fun e17 h => ⟨Jo h, ⟨(UU [(Qf.mk (-1 : Int) (Qa.mk (2 : Int) (0 : Int) e17 ([] : List Qa)))]), ⟨(decide_eq_true (YK _)), ⟨(by rw [Uc, Uc]), fun q4 => ⟨(WT _ _), ⟨rfl, fun q5 => Qj 3 (q5) (⟨rfl, fun r18 hr18 => ⟨K3 _ hr18, fun r19 hr19 => ⟨K0 _ _ _ hr19, ⟨rfl, fun q6 => fun e20 h => ⟨Jo h, rfl⟩, fun q6 => trivial⟩⟩⟩⟩), fun q5 => noN_ok 3 (q5) (⟨rfl, rfl⟩)⟩⟩, fun q4 => trivial⟩⟩⟩⟩, fun q3 => trivial⟩⟩⟩⟩⟩⟩⟩, fun q2 => fun r21 hr21 => ⟨K3 _ hr21, fun r22 hr22 => ⟨K0 _ _ _ hr22, ⟨rfl, fun q3 => fun e23 h => ⟨Jo h, ⟨(UU [(Qf.mk (-1 : Int) (Qa.mk (2 : Int) (0 : Int) e23 ([] : List Qa)))]), ⟨(decide_eq_true (YK _)), ⟨(by rw [Uc, Uc]), fun q4 => ⟨(WT _ _), ⟨rfl, fun q5 => Qj 3 (q5) (⟨rfl, fun r24 hr24 => ⟨K3 _ hr24, fun r25 hr25 => ⟨K0 _ _ _ hr25, ⟨rfl, fun q6 => fun e26 h => ⟨Jo h, rfl⟩, fun q6 => trivial⟩⟩⟩⟩), fun q5 => noN_ok 3 (q5) (⟨rfl, rfl⟩)⟩⟩, fun q4 => trivial⟩⟩⟩⟩, fun q3 => trivial⟩⟩⟩⟩⟩, fun q1 => ⟨rfl, fun q2 => fun r27 hr27 => ⟨K4 _ _ _ hr27, ⟨rfl, fun q3 => Qj 3 (q3) (⟨rfl, fun r28 hr28 => ⟨K3 _ hr28, fun r29 hr29 => ⟨K0 _ _ _ hr29, ⟨rfl, fun q4 => fun e30 h => ⟨Jo h, rfl⟩, fun q4 => trivial⟩⟩⟩⟩), fun q3 => noN_ok 3 (q3) (⟨rfl, fun q4 => fun r31 hr31 => ⟨K3 _ hr31, fun r32 hr32 => ⟨K0 _ _ _ hr32, ⟨rfl, fun q5 => fun e33 h => ⟨Jo h, rfl⟩, fun q5 => trivial⟩⟩⟩, fun q4 => rfl⟩)⟩⟩, fun q2 => ⟨rfl, fun q3 => ⟨(Jv [s_, s_hi, V1, Yr, Qdr]), fun r34 hr34 => ⟨K0 _ _ _ hr34, ⟨(by rw [QJ]), fun q4 => fun e35 h => ⟨Jo h, ⟨rfl, fun q5 => Qj 3 (q5) (⟨rfl, fun r36 hr36 => ⟨K3 _ hr36, fun r37 hr37 => ⟨K0 _ _ _ hr37, ⟨rfl, fun q6 => fun e38 h => ⟨Jo h, rfl⟩, fun q6 => trivial⟩⟩⟩⟩), fun q5 => noN_ok 3 (q5) (⟨rfl, rfl⟩)⟩⟩, fun q4 => trivial⟩⟩⟩, fun q3 => ⟨rfl, fun q4 => ⟨(Vy [(1 : Int), (2 : Int), (4 : Int), (8 : Int), (16 : Int), (3 : Int)]), fun r39 hr39 => ⟨K0 _ _ _ hr39, ⟨(by rw [WI]), fun q5 => fun e40 h => ⟨WP h, ⟨(UU [(Qf.mk (-1 : Int) (Qa.mk (1 : Int) e40 s_ ([] : List Qa)))]), ⟨rfl, fun q6 => Qj 3 (q6) (⟨rfl, fun r41 hr41 => ⟨K3 _ hr41, fun r42 hr42 => ⟨K0 _ _ _ hr42, ⟨rfl, fun q7 => fun e43 h => ⟨Jo h, rfl⟩, fun q7 => trivial⟩⟩⟩⟩), fun q6 => noN_ok 3 (q6) (⟨rfl, rfl⟩)⟩⟩⟩, fun q5 => trivial⟩⟩⟩, fun q4 => ⟨rfl, fun q5 => ⟨(Vy [(0 : Int), (2 : Int), (100 : Int), (250 : Int), (252 : Int), (254 : Int), (256 : Int), (7 : Int)]), fun r44 hr44 => ⟨K0 _ _ _ hr44, ⟨(by rw [WI]), fun q6 => fun e45 h => ⟨WP h, ⟨(UU [(Qf.mk (-1 : Int) (Qa.mk (1 : Int) e45 s_ ([] : List Qa)))]), ⟨rfl, fun q7 => Qj 3 (q7) (⟨rfl, fun r46 hr46 => ⟨K3 _ hr46, fun r47 hr47 => ⟨K0 _ _ _ hr47, ⟨rfl, fun q8 => fun e48 h => ⟨Jo h, rfl⟩, fun q8 => trivial⟩⟩⟩⟩), fun q7 => noN_ok 3 (q7) (⟨rfl, rfl⟩)⟩⟩⟩, fun q6 => trivial⟩⟩⟩, fun q5 => ⟨(Jv [s_k, QaO, s_x]), fun r49 hr49 => ⟨K0 _ _ _ hr49, ⟨(by rw [QJ]), fun q6 => fun e50 h => ⟨Jo h, fun r51 hr51 => ⟨K5 _ _ hr51, ⟨(UU [(Qf.mk (-1 : Int) r51)]), ⟨rfl, fun q7 => Qj 3 (q7) (⟨rfl, fun r52 hr52 => ⟨K3 _ hr52, fun r53 hr53 => ⟨K0 _ _ _ hr53, ⟨rfl, fun q8 => fun e54 h => ⟨Jo h, rfl⟩, fun q8 => trivial⟩⟩⟩⟩), fun q7 => noN_ok 3 (q7) (⟨rfl, rfl⟩)⟩⟩⟩⟩, fun q6 => trivial⟩⟩⟩⟩⟩⟩⟩⟩⟩⟩
theorem QsG {C0 : Nat → Ut} {D0 : Ut} (H0 : Cv2 C0 D0) {C1 : Nat → Qba} {D1 : Qba} (H1 : Cv1 C1 D1) {C2 : Nat → Qbb} {D2 : Qbb} (H2 : Cv1 C2 D2) {C3 : Nat → Vo} {D3 : Vo} (H3 : Cv C3 D3) {C4 : Nat → ER} {D4 : ER} (H4 : Cv2 C4 D4) {C5 : Nat → W4} {D5 : W4} (H5 : Cv1 C5 D5) {L6 : Nat → Gd} {M6 : Gd} (N6 : Cv1 L6 M6) (a0 : Ql) : Cv (fun k => ES (C0 k) (C1 k) (C2 k) (C3 k) (C4 k) (C5 k) (L6 k) a0) (ES D0 D1 D2 D3 D4 D5 M6 a0) := by
  unfold ES
  exact .bind (H0 _ _) fun r1 => .cond (.bind (H0 _ _) fun r2 => .bind (H1 _) fun r3 => .bind (H2 _) fun r4 => .bind (N6 _) (fun o5 => .cond (.bind (H3) fun r6 => .bind (H0 _ _) fun r7 => by exact .const _) (.cond (.bind (H3) fun r9 => .bind (H0 _ _) fun r10 => by exact .const _) cst))) (.cond (.bind (H0 _ _) fun r12 => .cond (.bind (H0 _ _) fun r13 => .bind (H0 _ _) fun r14 => .bind (H3) fun r15 => .bind (H0 _ _) fun r16 => .cond (.bind (.const _) fun e17 => .cond (.cond (.bind (H3) fun r18 => .bind (H0 _ _) fun r19 => by exact .const _) cst) cst) cst) (.bind (H3) fun r21 => .bind (H0 _ _) fun r22 => .cond (.bind (.const _) fun e23 => .cond (.cond (.bind (H3) fun r24 => .bind (H0 _ _) fun r25 => by exact .const _) cst) cst) cst)) (.cond (.bind (H4 _ _) fun r27 => .cond (.bind (H3) fun r28 => .bind (H0 _ _) fun r29 => by exact .const _) (.cond (.bind (H3) fun r31 => .bind (H0 _ _) fun r32 => by exact .const _) cst)) (.cond (.bind (H0 _ _) fun r34 => .cond (.bind (.const _) fun e35 => .cond (.bind (H3) fun r36 => .bind (H0 _ _) fun r37 => by exact .const _) cst) cst) (.cond (.bind (H0 _ _) fun r39 => .cond (.bind (.const _) fun e40 => .cond (.bind (H3) fun r41 => .bind (H0 _ _) fun r42 => by exact .const _) cst) cst) (.cond (.bind (H0 _ _) fun r44 => .cond (.bind (.const _) fun e45 => .cond (.bind (H3) fun r46 => .bind (H0 _ _) fun r47 => by exact .const _) cst) cst) (.bind (H0 _ _) fun r49 => .cond (.bind (.const _) fun e50 => .bind (H5 _) fun r51 => .cond (.bind (H3) fun r52 => .bind (H0 _ _) fun r53 => by exact .const _) cst) cst))))))
def Wt.s : Nat → Ql → Option Qg
  | 0, _ => none
  | k + 1, a0 => ES (Jp.s k) (Yg.s k) (XN.s k) (Up.s k) (Wi.s k) (Wr.s k) (U0.s k (Jy.s k) (U4.s k)) a0
theorem Wt.ok : ∀ (k : Nat), Qm9 (ev k) (Wt.s k)
  | 0, _, _, h => (nomatch h)
  | k + 1, a0, r, h => fn_ok rfl (Qcy pp (ev k) (Jp.s k) (Yg.s k) (XN.s k) (Up.s k) (Wi.s k) (Wr.s k) (U0.s k (Jy.s k) (U4.s k)) a0) (QsE _ _ _ _ _ _ _ _ a0) (QsF _ _ _ _ _ _ _ _ _ _ (Jp.ok k) (Yg.ok k) (XN.ok k) (Up.ok k) (Wi.ok k) (Wr.ok k) (Qn5 _ k _ _ (Jy.ok k) (U4.ok k)) a0) h
noncomputable def U0 : JH → Option Vg := U0.w Jy U4
theorem U0.eq (a : JH) : U0 a = (XQ Jy U4 a).bind (Sum.elim U0 some) := UN _ _
noncomputable def Wt (a0 : Ql) : Option Qg := ES Jp Yg XN Up Wi Wr U0 a0
theorem Wt.cv (a0 : Ql) : Cv (fun k => Wt.s k a0) (Wt a0) := .un rfl (QsG Jp.cv Yg.cv XN.cv Up.cv Wi.cv Wr.cv (U0.cv (fun k => Jy.s k) (fun k => U4.s k) Jy U4 Jy.cv U4.cv) a0)
theorem Wt.eq (a0 : Ql) : Wt a0 = ES Jp Yg XN Up Wi Wr U0 a0 := rfl
def Qim (r : ByteArray) : AV × Heap := (xs r, [])
abbrev QcK := Int → Option ByteArray
abbrev Qin (a0 : Int) : List AV × Heap := ([xi a0], [])
abbrev QrH (w : Cf) (a0 : Int) : Option AH := w 38 (Qin a0).1 (Qin a0).2
abbrev QtZ (w : Cf) (c : QcK) : Prop := ∀ (a0 : Int) (r : ByteArray), c a0 = some r → QrH w a0 = some (Qim r)
def Qbf (C0 : Z9) (a0 : Int) : Option ByteArray := ((C0 a0 h_20).bind fun r1 => (some r1.1.Name))
def Qio (P : Pg) (w : Cf) (C0 : Z9) (a0 : Int) : Tr ByteArray AH := (.call (QmV w a0 h_20) (C0 a0 h_20) Qc2 fun r1 => (rt Qim r1.1.Name))
theorem QxU (w : Cf) (C0 : Z9) (a0 : Int) : (Qio pp w C0 a0).norm (bodyT pp w G 38 (Qin a0).1 (Qin a0).2) = Qio pp w C0 a0 := by kernel_rfl
theorem QxV (P : Pg) (w : Cf) (lp : Lo) (C0 : Z9) (K0 : QoJ w C0) (a0 : Int) : (Qio P w C0 a0).ok lp Qim := fun r1 hr1 => ⟨K0 _ _ _ hr1, rfl⟩
theorem QxW {C0 : Nat → Z9} {D0 : Z9} (H0 : Cv2 C0 D0) (a0 : Int) : Cv (fun k => Qbf (C0 k) a0) (Qbf D0 a0) := by
  unfold Qbf
  exact .bind (H0 _ _) fun r1 => by exact .const _
def ZS.s : Nat → Int → Option ByteArray
  | 0, _ => none
  | k + 1, a0 => Qbf (W3.s k) a0
theorem ZS.ok : ∀ (k : Nat), QtZ (ev k) (ZS.s k)
  | 0, _, _, h => (nomatch h)
  | k + 1, a0, r, h => fn_ok rfl (Qio pp (ev k) (W3.s k) a0) (QxU _ _ a0) (QxV _ _ _ _ (W3.ok k) a0) h
noncomputable def ZS (a0 : Int) : Option ByteArray := Qbf W3 a0
theorem ZS.cv (a0 : Int) : Cv (fun k => ZS.s k a0) (ZS a0) := .un rfl (QxW W3.cv a0)
theorem ZS.eq (a0 : Int) : ZS a0 = Qbf W3 a0 := rfl
def Zg (r : ByteArray) : AV × Heap := (xs r, [])
abbrev QcL := Qg → Option ByteArray
abbrev Qip (a0 : Qg) : List AV × Heap := ([.agg (G4 a0)], [])
abbrev Qiq (w : Cf) (a0 : Qg) : Option AH := w 59 (Qip a0).1 (Qip a0).2
abbrev Qt0 (w : Cf) (c : QcL) : Prop := ∀ (a0 : Qg) (r : ByteArray), c a0 = some r → Qiq w a0 = some (Zg r)
def Qbg (C0 : QcK) (a0 : Qg) : Option ByteArray := (bif (a0.Kind == 1) then ((C0 a0.Op).bind fun r1 => (some r1)) else (bif (a0.Kind == 2) then (bif (decide (0 ≤ a0.Op ∧ a0.Op < (([s_b, s_bl, s_bc].length : Nat) : Int))) then (([s_b, s_bl, s_bc][(Int.toNat a0.Op)]?).bind fun e2 => (some e2)) else none) else (bif (a0.Kind == 3) then (some QP) else (bif (a0.Kind == 4) then (some QQ) else (bif (a0.Kind == 5) then (some QR) else (bif (a0.Kind == 6) then (some JZ) else (bif (a0.Kind == 7) then (some QO) else (bif (a0.Kind == 8) then (some QS) else (some Vu)))))))))
def Qir (P : Pg) (w : Cf) (C0 : QcK) (a0 : Qg) : Tr ByteArray AH := (.as (a0.Kind == 1) (.call (QrH w a0.Op) (C0 a0.Op) Qim fun r1 => (rt Zg r1)) (.as (a0.Kind == 2) (.rows [[xs s_b], [xs s_bl], [xs s_bc]] (Qh [s_b, s_bl, s_bc]) (.ask (in1 a0.Op (((Qh [s_b, s_bl, s_bc]).length : Nat) : Int)) (in1 a0.Op (([s_b, s_bl, s_bc].length : Nat) : Int)) (.row ((Qh [s_b, s_bl, s_bc])[(Int.toNat a0.Op)]?) ([s_b, s_bl, s_bc][(Int.toNat a0.Op)]?) JL fun (e2 : ByteArray) => (rt Zg e2)) .fail)) (.as (a0.Kind == 3) (rt Zg QP) (.as (a0.Kind == 4) (rt Zg QQ) (.as (a0.Kind == 5) (rt Zg QR) (.as (a0.Kind == 6) (rt Zg JZ) (.as (a0.Kind == 7) (rt Zg QO) (.as (a0.Kind == 8) (rt Zg QS) (rt Zg Vu)))))))))
theorem QxX (w : Cf) (C0 : QcK) (a0 : Qg) : (Qir pp w C0 a0).norm (bodyT pp w G 59 (Qip a0).1 (Qip a0).2) = Qir pp w C0 a0 := by kernel_rfl
theorem QxY (P : Pg) (w : Cf) (lp : Lo) (C0 : QcK) (K0 : QtZ w C0) (a0 : Qg) : (Qir P w C0 a0).ok lp Zg := ⟨rfl, fun q0 => fun r1 hr1 => ⟨K0 _ _ hr1, rfl⟩, fun q0 => ⟨rfl, fun q1 => ⟨(Jv [s_b, s_bl, s_bc]), ⟨(by rw [QJ]), fun q2 => fun e2 h => ⟨Jo h, rfl⟩, fun q2 => trivial⟩⟩, fun q1 => ⟨rfl, fun q2 => rfl, fun q2 => ⟨rfl, fun q3 => rfl, fun q3 => ⟨rfl, fun q4 => rfl, fun q4 => ⟨rfl, fun q5 => rfl, fun q5 => ⟨rfl, fun q6 => rfl, fun q6 => ⟨rfl, fun q7 => rfl, fun q7 => rfl⟩⟩⟩⟩⟩⟩⟩⟩
theorem QxZ {C0 : Nat → QcK} {D0 : QcK} (H0 : Cv1 C0 D0) (a0 : Qg) : Cv (fun k => Qbg (C0 k) a0) (Qbg D0 a0) := by
  unfold Qbg
  exact .cond (.bind (H0 _) fun r1 => by exact .const _) cst
def Gq.s : Nat → Qg → Option ByteArray
  | 0, _ => none
  | k + 1, a0 => Qbg (ZS.s k) a0
theorem Gq.ok : ∀ (k : Nat), Qt0 (ev k) (Gq.s k)
  | 0, _, _, h => (nomatch h)
  | k + 1, a0, r, h => fn_ok rfl (Qir pp (ev k) (ZS.s k) a0) (QxX _ _ a0) (QxY _ _ _ _ (ZS.ok k) a0) h
noncomputable def Gq (a0 : Qg) : Option ByteArray := Qbg ZS a0
theorem Gq.cv (a0 : Qg) : Cv (fun k => Gq.s k a0) (Gq a0) := .un rfl (QxZ ZS.cv a0)
theorem Gq.eq (a0 : Qg) : Gq a0 = Qbg ZS a0 := rfl
def G3 (r : ByteArray) : AV × Heap := (xs r, [])
def Fl (r : ByteArray) : AV × Heap := (xs r, [])
abbrev ET := Qa → Option ByteArray
abbrev QbO (a0 : Qa) : List AV × Heap := ([.agg (QZ a0)], [])
abbrev QbP (w : Cf) (a0 : Qa) : Option AH := w 103 (QbO a0).1 (QbO a0).2
abbrev Qlg (w : Cf) (c : ET) : Prop := ∀ (a0 : Qa) (r : ByteArray), c a0 = some r → QbP w a0 = some (G3 r)
abbrev Yi := Qa → Option ByteArray
abbrev Qis (a0 : Qa) : List AV × Heap := ([.agg (QZ a0)], [])
abbrev Qit (w : Cf) (a0 : Qa) : Option AH := w 60 (Qis a0).1 (Qis a0).2
abbrev QhF (w : Cf) (c : Yi) : Prop := ∀ (a0 : Qa) (r : ByteArray), c a0 = some r → Qit w a0 = some (Fl r)
def Fu (C0 : Yi) (a0 : Qa) : Option ByteArray := (bif ((((a0.L.length) : Nat) : Int) == 2) then ((C0 a0).bind fun r1 => (bif (decide (((h_28.size + r1.size : Nat) : Int) ≤ IntKind.i64.max)) then (bif (decide ((((h_28 ++ r1).size + h_29.size : Nat) : Int) ≤ IntKind.i64.max)) then (some ((h_28 ++ r1) ++ h_29)) else none) else none)) else ((C0 a0).bind fun r2 => (some r2)))
def QbQ (P : Pg) (w : Cf) (C0 : Yi) (a0 : Qa) : Tr ByteArray AH := (.num ((QY a0.L).length) (a0.L.length) (.as ((((a0.L.length) : Nat) : Int) == 2) (.call (Qit w a0) (C0 a0) Fl fun r1 => (.as (decide (((h_28.size + r1.size : Nat) : Int) ≤ IntKind.i64.max)) (.as (decide ((((h_28 ++ r1).size + h_29.size : Nat) : Int) ≤ IntKind.i64.max)) (rt G3 ((h_28 ++ r1) ++ h_29)) .fail) .fail)) (.call (Qit w a0) (C0 a0) Fl fun r2 => (rt G3 r2))))
theorem Qq7 (w : Cf) (C0 : Yi) (a0 : Qa) : (QbQ pp w C0 a0).norm (bodyT pp w G 103 (QbO a0).1 (QbO a0).2) = QbQ pp w C0 a0 := by kernel_rfl
theorem Qq8 (P : Pg) (w : Cf) (lp : Lo) (C0 : Yi) (K0 : QhF w C0) (a0 : Qa) : (QbQ P w C0 a0).ok lp G3 := ⟨(Qbn _), ⟨rfl, fun q0 => fun r1 hr1 => ⟨K0 _ _ hr1, ⟨rfl, fun q1 => ⟨rfl, fun q2 => rfl, fun q2 => trivial⟩, fun q1 => trivial⟩⟩, fun q0 => fun r2 hr2 => ⟨K0 _ _ hr2, rfl⟩⟩⟩
theorem QjT {C0 : Nat → Yi} {D0 : Yi} (H0 : Cv1 C0 D0) (a0 : Qa) : Cv (fun k => Fu (C0 k) a0) (Fu D0 a0) := by
  unfold Fu
  exact .cond (.bind (H0 _) fun r1 => by exact .const _) (.bind (H0 _) fun r2 => by exact .const _)
def PN (C0 : Uv) (C1 : ET) (C2 : Yh) (a0 : Qa) : Option ByteArray := (bif (a0.Kind == 1) then ((C0 a0.N).bind fun r1 => (some r1)) else (bif (a0.Kind == 2) then (some a0.Name) else (bif (a0.Kind == 3) then (some h_2e) else (bif (a0.Kind == 4) then ((a0.L[(Int.toNat 0)]?).bind fun e2 => ((C1 e2).bind fun r3 => (bif (decide (((h_2d.size + r3.size : Nat) : Int) ≤ IntKind.i64.max)) then (some (h_2d ++ r3)) else none))) else ((C2 a0.Kind).bind fun r4 => ((a0.L[(Int.toNat 0)]?).bind fun e5 => ((C1 e5).bind fun r6 => (bif (decide (((r6.size + h_20.size : Nat) : Int) ≤ IntKind.i64.max)) then (bif (decide ((((r6 ++ h_20).size + r4.1.size : Nat) : Int) ≤ IntKind.i64.max)) then (bif (decide (((((r6 ++ h_20) ++ r4.1).size + h_20.size : Nat) : Int) ≤ IntKind.i64.max)) then ((a0.L[(Int.toNat 1)]?).bind fun e7 => ((C1 e7).bind fun r8 => (bif (decide ((((((r6 ++ h_20) ++ r4.1) ++ h_20).size + r8.size : Nat) : Int) ≤ IntKind.i64.max)) then (some ((((r6 ++ h_20) ++ r4.1) ++ h_20) ++ r8)) else none))) else none) else none) else none))))))))
def Qiu (P : Pg) (w : Cf) (C0 : Uv) (C1 : ET) (C2 : Yh) (a0 : Qa) : Tr ByteArray AH := (.as (a0.Kind == 1) (.call (Fk w a0.N) (C0 a0.N) YS fun r1 => (rt Fl r1)) (.as (a0.Kind == 2) (rt Fl a0.Name) (.as (a0.Kind == 3) (rt Fl h_2e) (.as (a0.Kind == 4) (.yes (decide (0 ≤ i0)) (.row ((QY a0.L)[(Int.toNat 0)]?) (a0.L[(Int.toNat 0)]?) QZ fun (e2 : Qa) => (.call (QbP w e2) (C1 e2) G3 fun r3 => (.as (decide (((h_2d.size + r3.size : Nat) : Int) ≤ IntKind.i64.max)) (rt Fl (h_2d ++ r3)) .fail)))) (.call (Qm4 w a0.Kind) (C2 a0.Kind) Eo fun r4 => (.yes (decide (0 ≤ i0)) (.row ((QY a0.L)[(Int.toNat 0)]?) (a0.L[(Int.toNat 0)]?) QZ fun (e5 : Qa) => (.call (QbP w e5) (C1 e5) G3 fun r6 => (.as (decide (((r6.size + h_20.size : Nat) : Int) ≤ IntKind.i64.max)) (.as (decide ((((r6 ++ h_20).size + r4.1.size : Nat) : Int) ≤ IntKind.i64.max)) (.as (decide (((((r6 ++ h_20) ++ r4.1).size + h_20.size : Nat) : Int) ≤ IntKind.i64.max)) (.yes (decide (0 ≤ (zi 1))) (.row ((QY a0.L)[(Int.toNat 1)]?) (a0.L[(Int.toNat 1)]?) QZ fun (e7 : Qa) => (.call (QbP w e7) (C1 e7) G3 fun r8 => (.as (decide ((((((r6 ++ h_20) ++ r4.1) ++ h_20).size + r8.size : Nat) : Int) ≤ IntKind.i64.max)) (rt Fl ((((r6 ++ h_20) ++ r4.1) ++ h_20) ++ r8)) .fail)))) .fail) .fail) .fail)))))))))
theorem Qx0 (w : Cf) (C0 : Uv) (C1 : ET) (C2 : Yh) (a0 : Qa) : (Qiu pp w C0 C1 C2 a0).norm (bodyT pp w G 60 (Qis a0).1 (Qis a0).2) = Qiu pp w C0 C1 C2 a0 := by kernel_rfl
theorem Qx1 (P : Pg) (w : Cf) (lp : Lo) (C0 : Uv) (C1 : ET) (C2 : Yh) (K0 : Qaa w C0) (K1 : Qlg w C1) (K2 : QkK w C2) (a0 : Qa) : (Qiu P w C0 C1 C2 a0).ok lp Fl := ⟨rfl, fun q0 => fun r1 hr1 => ⟨K0 _ _ hr1, rfl⟩, fun q0 => ⟨rfl, fun q1 => rfl, fun q1 => ⟨rfl, fun q2 => rfl, fun q2 => ⟨rfl, fun q3 => ⟨rfl, fun e2 h => ⟨Ss h, fun r3 hr3 => ⟨K1 _ _ hr3, ⟨rfl, fun q4 => rfl, fun q4 => trivial⟩⟩⟩⟩, fun q3 => fun r4 hr4 => ⟨K2 _ _ hr4, ⟨rfl, fun e5 h => ⟨Ss h, fun r6 hr6 => ⟨K1 _ _ hr6, ⟨rfl, fun q4 => ⟨rfl, fun q5 => ⟨rfl, fun q6 => ⟨rfl, fun e7 h => ⟨Ss h, fun r8 hr8 => ⟨K1 _ _ hr8, ⟨rfl, fun q7 => rfl, fun q7 => trivial⟩⟩⟩⟩, fun q6 => trivial⟩, fun q5 => trivial⟩, fun q4 => trivial⟩⟩⟩⟩⟩⟩⟩⟩⟩
theorem QrI {C0 : Nat → Uv} {D0 : Uv} (H0 : Cv1 C0 D0) {C1 : Nat → ET} {D1 : ET} (H1 : Cv1 C1 D1) {C2 : Nat → Yh} {D2 : Yh} (H2 : Cv1 C2 D2) (a0 : Qa) : Cv (fun k => PN (C0 k) (C1 k) (C2 k) a0) (PN D0 D1 D2 a0) := by
  unfold PN
  exact .cond (.bind (H0 _) fun r1 => by exact .const _) (.cond cst (.cond cst (.cond (.bind (.const _) fun e2 => .bind (H1 _) fun r3 => by exact .const _) (.bind (H2 _) fun r4 => .bind (.const _) fun e5 => .bind (H1 _) fun r6 => .cond (.cond (.cond (.bind (.const _) fun e7 => .bind (H1 _) fun r8 => by exact .const _) cst) cst) cst))))
mutual
def UR.s : Nat → Qa → Option ByteArray
  | 0, _ => none
  | k + 1, a0 => Fu (fun a0 => UH.s k a0) a0
termination_by structural k => k
def UH.s : Nat → Qa → Option ByteArray
  | 0, _ => none
  | k + 1, a0 => PN (Jf.s k) (fun a0 => UR.s k a0) (W5.s k) a0
termination_by structural k => k
end
theorem QhG : ∀ (k : Nat), (Qlg (ev k) (UR.s k)) ∧ (QhF (ev k) (UH.s k))
  | 0 => ⟨fun _ _ h => (nomatch h), fun _ _ h => (nomatch h)⟩
  | k + 1 => by
    obtain ⟨i_r3_bracketed, i_r3_Text⟩ := QhG k
    exact ⟨fun a0 r h => fn_ok rfl (QbQ pp (ev k) (UH.s k) a0) (Qq7 _ _ a0) (Qq8 _ _ _ _ (i_r3_Text) a0) h,
      fun a0 r h => fn_ok rfl (Qiu pp (ev k) (Jf.s k) (UR.s k) (W5.s k) a0) (Qx0 _ _ _ _ a0) (Qx1 _ _ _ _ _ _ (Jf.ok k) (i_r3_bracketed) (W5.ok k) a0) h⟩
theorem UH.ok (k : Nat) : QhF (ev k) (UH.s k) := (QhG k).2
theorem QbX : ∀ (k : Nat), (∀ (a0 : Qa), Le (UR.s k a0) (UR.s (k + 1) a0)) ∧ (∀ (a0 : Qa), Le (UH.s k a0) (UH.s (k + 1) a0))
  | 0 => ⟨fun _ _ h => (nomatch h), fun _ _ h => (nomatch h)⟩
  | k + 1 => by
    obtain ⟨i_r3_bracketed, i_r3_Text⟩ := QbX k
    exact ⟨fun a0 => (QjT (tw1 (i_r3_Text)) a0).1 0,
      fun a0 => (QrI (tw1 (Jf.mono k)) (tw1 (i_r3_bracketed)) (tw1 (fun a0 => (W5.cv a0).1 k)) a0).1 0⟩
theorem UR.mono (k : Nat) : ∀ (a0 : Qa), Le (UR.s k a0) (UR.s (k + 1) a0) := (QbX k).1
theorem UH.mono (k : Nat) : ∀ (a0 : Qa), Le (UH.s k a0) (UH.s (k + 1) a0) := (QbX k).2
noncomputable def UR (a0 : Qa) : Option ByteArray := lim fun k => UR.s k a0
theorem UR.cv (a0 : Qa) : Cv (fun k => UR.s k a0) (UR a0) := .lim fun k => UR.mono k a0
noncomputable def UH (a0 : Qa) : Option ByteArray := lim fun k => UH.s k a0
theorem UH.cv (a0 : Qa) : Cv (fun k => UH.s k a0) (UH a0) := .lim fun k => UH.mono k a0
theorem UR.eq (a0 : Qa) : UR a0 = Fu UH a0 := Cv.uniq (UR.cv a0).shift (QjT UH.cv a0)
theorem UH.eq (a0 : Qa) : UH a0 = PN Jf UR W5 a0 := Cv.uniq (UH.cv a0).shift (QrI Jf.cv UR.cv W5.cv a0)
def Xz (r : ByteArray) : AV × Heap := (xs r, [])
abbrev QcM := Qg → Option ByteArray
abbrev Qiv (a0 : Qg) : List AV × Heap := ([.agg (G4 a0)], [])
abbrev QrJ (w : Cf) (a0 : Qg) : Option AH := w 22 (Qiv a0).1 (Qiv a0).2
abbrev Qt1 (w : Cf) (c : QcM) : Prop := ∀ (a0 : Qg) (r : ByteArray), c a0 = some r → QrJ w a0 = some (Xz r)
structure Qs where
  x3 : ByteArray
  x5 : Int
  h0 : Qg
  r1 : (List ByteArray)
structure QI where
  x3 : ByteArray
  r0 : (List ByteArray)
def VJ (a : Qs) : St := { n := 101, nx := 2, env := [(1, .ptr 0 0), (3, xs a.x3), (4, .arr 1), (5, xi a.x5)], heap := [(0, .box [0, 0, 0, 0, 0, 5] (G4 a.h0)), (1, .arr true 1 (Qh a.r1))] }
def Wj (a : QI) : Ex × St := (.exit 0, { n := 101, nx := 1, env := [(3, xs a.x3), (4, .arr 0)], heap := [(0, .arr true 1 (Qh a.r0))] })
abbrev Sa := Qs → Option QI
abbrev Qvv (P : Pg) (lp : Lo) (l : Sa) : Prop := ∀ (a : Qs) (r : QI), l a = some r → lp (loopAt P 22 15) (VJ a) = some (Wj r)
def Eq (C0 : Uv) (C1 : Yi) (a : Qs) : Option (Qs ⊕ QI) := (bif (decide (a.x5 < (((a.h0.Args.length) : Nat) : Int))) then (bif (decide (0 ≤ a.x5)) then ((a.h0.Args[(Int.toNat a.x5)]?).bind fun e1 => (bif (decide (e1.Reg ≥ 0)) then ((a.h0.Args[(Int.toNat a.x5)]?).bind fun e2 => ((C0 e2.Reg).bind fun r3 => (bif (decide (((s_r.size + r3.size : Nat) : Int) ≤ IntKind.i64.max)) then (bif (decide ((a.r1.length + [(s_r ++ r3)].length) * 16 ≤ most)) then (some (.inl (Qs.mk a.x3 (w64 (a.x5 + 1)) a.h0 (a.r1 ++ [(s_r ++ r3)])))) else none) else none))) else ((a.h0.Args[(Int.toNat a.x5)]?).bind fun e4 => ((C1 e4.E).bind fun r5 => (bif (decide ((a.r1.length + [r5].length) * 16 ≤ most)) then (some (.inl (Qs.mk a.x3 (w64 (a.x5 + 1)) a.h0 (a.r1 ++ [r5])))) else none))))) else none) else (some (.inr (QI.mk a.x3 a.r1))))
def Qei (P : Pg) (w : Cf) (C0 : Uv) (C1 : Yi) (a : Qs) : Tr (Qs ⊕ QI) XS := (.num ((Qi a.h0.Args).length) (a.h0.Args.length) (.as (decide (a.x5 < (((a.h0.Args.length) : Nat) : Int))) (let u126 := (decide (0 ≤ a.x5)); .as u126 (.row ((Qi a.h0.Args)[(Int.toNat a.x5)]?) (a.h0.Args[(Int.toNat a.x5)]?) ZG fun (e1 : Qf) => (.as (decide (e1.Reg ≥ 0)) (.yes u126 (.row ((Qi a.h0.Args)[(Int.toNat a.x5)]?) (a.h0.Args[(Int.toNat a.x5)]?) ZG fun (e2 : Qf) => (.call (Fk w e2.Reg) (C0 e2.Reg) YS fun r3 => (.as (decide (((s_r.size + r3.size : Nat) : Int) ≤ IntKind.i64.max)) (.rows [[xs (s_r ++ r3)]] (Qh [(s_r ++ r3)]) (.yes (decide ((Qh [(s_r ++ r3)]).all (fun r => r.length == 1) = true)) (.ask (decide (((Qh a.r1).length + (Qh [(s_r ++ r3)]).length) * 16 ≤ most)) (decide ((a.r1.length + [(s_r ++ r3)].length) * 16 ≤ most)) (.rows ((Qh a.r1) ++ (Qh [(s_r ++ r3)])) (Qh (a.r1 ++ [(s_r ++ r3)])) (lf VJ (Qs.mk a.x3 (w64 (a.x5 + 1)) a.h0 (a.r1 ++ [(s_r ++ r3)])))) .fail))) .fail)))) (.yes u126 (.row ((Qi a.h0.Args)[(Int.toNat a.x5)]?) (a.h0.Args[(Int.toNat a.x5)]?) ZG fun (e4 : Qf) => (.call (Qit w e4.E) (C1 e4.E) Fl fun r5 => (.rows [[xs r5]] (Qh [r5]) (.yes (decide ((Qh [r5]).all (fun r => r.length == 1) = true)) (.ask (decide (((Qh a.r1).length + (Qh [r5]).length) * 16 ≤ most)) (decide ((a.r1.length + [r5].length) * 16 ≤ most)) (.rows ((Qh a.r1) ++ (Qh [r5])) (Qh (a.r1 ++ [r5])) (lf VJ (Qs.mk a.x3 (w64 (a.x5 + 1)) a.h0 (a.r1 ++ [r5])))) .fail)))))))) .fail) (rx Wj (QI.mk a.x3 a.r1))))
theorem Qt2 (w : Cf) (C0 : Uv) (C1 : Yi) (a : Qs) : (Qei pp w C0 C1 a).norm (roundT pp G.kd w 0 (G.an 22) (loopAt pp 22 15) (VJ a)) = Qei pp w C0 C1 a := by kernel_rfl
theorem Qt3 (P : Pg) (w : Cf) (lp : Lo) (C0 : Uv) (C1 : Yi) (K0 : Qaa w C0) (K1 : QhF w C1) (a : Qs) : (Qei P w C0 C1 a).ok lp (Sum.elim (fun a => (.norm, VJ a)) Wj) := ⟨(Uc _), ⟨rfl, fun q0 => ⟨rfl, fun q1 => fun e1 h => ⟨EG h, ⟨rfl, fun q2 => ⟨q1, fun e2 h => ⟨EG h, fun r3 hr3 => ⟨K0 _ _ hr3, ⟨rfl, fun q3 => ⟨(Jv [(s_r ++ r3)]), ⟨(decide_eq_true (Xk _)), ⟨(by rw [QJ, QJ]), fun q4 => ⟨(Z0 _ _), rfl⟩, fun q4 => trivial⟩⟩⟩, fun q3 => trivial⟩⟩⟩⟩, fun q2 => ⟨q1, fun e4 h => ⟨EG h, fun r5 hr5 => ⟨K1 _ _ hr5, ⟨(Jv [r5]), ⟨(decide_eq_true (Xk _)), ⟨(by rw [QJ, QJ]), fun q3 => ⟨(Z0 _ _), rfl⟩, fun q3 => trivial⟩⟩⟩⟩⟩⟩⟩⟩, fun q1 => trivial⟩, fun q0 => rfl⟩⟩
theorem Qt4 {C0 : Nat → Uv} {D0 : Uv} (H0 : Cv1 C0 D0) {C1 : Nat → Yi} {D1 : Yi} (H1 : Cv1 C1 D1) (a : Qs) : Cv (fun k => Eq (C0 k) (C1 k) a) (Eq D0 D1 a) := by
  unfold Eq
  exact .cond (.cond (.bind (.const _) fun e1 => .cond (.bind (.const _) fun e2 => .bind (H0 _) fun r3 => by exact .const _) (.bind (.const _) fun e4 => .bind (H1 _) fun r5 => by exact .const _)) cst) cst
def U9.s (k : Nat) (C0 : Uv) (C1 : Yi) : Qs → Option QI := iter (Eq C0 C1) k
theorem QsH (w : Cf) (k : Nat) (C0 : Uv) (C1 : Yi) (K0 : Qaa w C0) (K1 : QhF w C1) (a : Qs) (r : QI) (h : U9.s k C0 C1 a = some r) : loopsF pp G.kd w 0 (G.an 22) k (loopAt pp 22 15) (VJ a) = some (Wj r) :=
  Va (fun a => Qei pp w C0 C1 a) (fun _ => rfl) (fun a => Qt2 w _ _ a) (fun a => Qt3 _ w _ _ _ K0 K1 a) (fun r => nofun) h
noncomputable def U9.w (C0 : Uv) (C1 : Yi) : Qs → Option QI := loopW (Eq C0 C1)
theorem U9.cv (C0 : Nat → Uv) (C1 : Nat → Yi) (D0 : Uv) (D1 : Yi) (H0 : Cv1 C0 D0) (H1 : Cv1 C1 D1) (a : Qs) : Cv (fun k => U9.s k (C0 k) (C1 k) a) (U9.w D0 D1 a) := Cv.iter (fun a => Qt4 H0 H1 a) a
structure Qt where
  x3 : ByteArray
  x6 : Int
  r0 : (List ByteArray)
def VK (a : Qt) : St := { n := 101, nx := 1, env := [(3, xs a.x3), (4, .arr 0), (6, xi a.x6)], heap := [(0, .arr true 1 (Qh a.r0))] }
def Wk (a : ByteArray) : Ex × St := (.exit 2, { n := 101, nx := 0, env := [(3, xs a)], heap := [] })
abbrev Sb := Qt → Option ByteArray
abbrev Qvw (P : Pg) (lp : Lo) (l : Sb) : Prop := ∀ (a : Qt) (r : ByteArray), l a = some r → lp (loopAt P 22 21) (VK a) = some (Wk r)
def SJ (a : Qt) : Option (Qt ⊕ ByteArray) := (bif (decide (a.x6 < (((a.r0.length) : Nat) : Int))) then (bif (a.x6 == 0) then (bif (decide (((a.x3.size + h_20.size : Nat) : Int) ≤ IntKind.i64.max)) then (bif (decide (0 ≤ a.x6 ∧ a.x6 < ((a.r0.length : Nat) : Int))) then ((a.r0[(Int.toNat a.x6)]?).bind fun e1 => (bif (decide ((((a.x3 ++ h_20).size + e1.size : Nat) : Int) ≤ IntKind.i64.max)) then (some (.inl (Qt.mk ((a.x3 ++ h_20) ++ e1) (w64 (a.x6 + 1)) a.r0))) else none)) else none) else none) else (bif (decide (((a.x3.size + Qg9.size : Nat) : Int) ≤ IntKind.i64.max)) then (bif (decide (0 ≤ a.x6 ∧ a.x6 < ((a.r0.length : Nat) : Int))) then ((a.r0[(Int.toNat a.x6)]?).bind fun e2 => (bif (decide ((((a.x3 ++ Qg9).size + e2.size : Nat) : Int) ≤ IntKind.i64.max)) then (some (.inl (Qt.mk ((a.x3 ++ Qg9) ++ e2) (w64 (a.x6 + 1)) a.r0))) else none)) else none) else none)) else (some (.inr a.x3)))
def Qej (P : Pg) (w : Cf) (a : Qt) : Tr (Qt ⊕ ByteArray) XS := (.num ((Qh a.r0).length) (a.r0.length) (.as (decide (a.x6 < (((a.r0.length) : Nat) : Int))) (.as (a.x6 == 0) (.as (decide (((a.x3.size + h_20.size : Nat) : Int) ≤ IntKind.i64.max)) (.ask (in1 a.x6 (((Qh a.r0).length : Nat) : Int)) (in1 a.x6 ((a.r0.length : Nat) : Int)) (.row ((Qh a.r0)[(Int.toNat a.x6)]?) (a.r0[(Int.toNat a.x6)]?) JL fun (e1 : ByteArray) => (.as (decide ((((a.x3 ++ h_20).size + e1.size : Nat) : Int) ≤ IntKind.i64.max)) (lf VK (Qt.mk ((a.x3 ++ h_20) ++ e1) (w64 (a.x6 + 1)) a.r0)) .fail)) .fail) .fail) (.as (decide (((a.x3.size + Qg9.size : Nat) : Int) ≤ IntKind.i64.max)) (.ask (in1 a.x6 (((Qh a.r0).length : Nat) : Int)) (in1 a.x6 ((a.r0.length : Nat) : Int)) (.row ((Qh a.r0)[(Int.toNat a.x6)]?) (a.r0[(Int.toNat a.x6)]?) JL fun (e2 : ByteArray) => (.as (decide ((((a.x3 ++ Qg9).size + e2.size : Nat) : Int) ≤ IntKind.i64.max)) (lf VK (Qt.mk ((a.x3 ++ Qg9) ++ e2) (w64 (a.x6 + 1)) a.r0)) .fail)) .fail) .fail)) (rx Wk a.x3)))
theorem Qt5 (w : Cf) (a : Qt) : (Qej pp w a).norm (roundT pp G.kd w 0 (G.an 22) (loopAt pp 22 21) (VK a)) = Qej pp w a := by kernel_rfl
theorem Qt6 (P : Pg) (w : Cf) (lp : Lo) (a : Qt) : (Qej P w a).ok lp (Sum.elim (fun a => (.norm, VK a)) Wk) := ⟨(QJ _), ⟨rfl, fun q0 => ⟨rfl, fun q1 => ⟨rfl, fun q2 => ⟨(by rw [QJ]), fun q3 => fun e1 h => ⟨Jo h, ⟨rfl, fun q4 => rfl, fun q4 => trivial⟩⟩, fun q3 => trivial⟩, fun q2 => trivial⟩, fun q1 => ⟨rfl, fun q2 => ⟨(by rw [QJ]), fun q3 => fun e2 h => ⟨Jo h, ⟨rfl, fun q4 => rfl, fun q4 => trivial⟩⟩, fun q3 => trivial⟩, fun q2 => trivial⟩⟩, fun q0 => rfl⟩⟩
def UO.s (k : Nat) : Qt → Option ByteArray := iter (SJ ) k
theorem QsI (w : Cf) (k : Nat) (a : Qt) (r : ByteArray) (h : UO.s k a = some r) : loopsF pp G.kd w 0 (G.an 22) k (loopAt pp 22 21) (VK a) = some (Wk r) :=
  Va (fun a => Qej pp w a) (fun _ => rfl) (fun a => Qt5 w a) (fun a => Qt6 _ w _ a) (fun r => nofun) h
noncomputable def UO.w : Qt → Option ByteArray := loopW (SJ )
theorem UO.cv (a : Qt) : Cv (fun k => UO.s k a) (UO.w a) := Cv.iter (fun a => by exact .const _) a
def Qbh (C0 : QcL) (L1 : Sa) (L2 : Sb) (a0 : Qg) : Option ByteArray := (bif (!(eqS a0.Label s_)) then (bif (decide (((a0.Label.size + h_3a.size : Nat) : Int) ≤ IntKind.i64.max)) then (bif (a0.Kind == 0) then (some (a0.Label ++ h_3a)) else (bif (!(eqS (a0.Label ++ h_3a) s_)) then (bif (decide ((((a0.Label ++ h_3a).size + h_20.size : Nat) : Int) ≤ IntKind.i64.max)) then ((C0 a0).bind fun r1 => (bif (decide (((((a0.Label ++ h_3a) ++ h_20).size + r1.size : Nat) : Int) ≤ IntKind.i64.max)) then (bif (a0.Kind == 6) then (bif (decide (((h_22.size + a0.Text.size : Nat) : Int) ≤ IntKind.i64.max)) then (bif (decide ((((h_22 ++ a0.Text).size + h_22.size : Nat) : Int) ≤ IntKind.i64.max)) then (bif (decide ([((h_22 ++ a0.Text) ++ h_22)].length * 16 ≤ most)) then (bif (a0.Kind == 9) then (bif (decide (([((h_22 ++ a0.Text) ++ h_22)].length + [a0.Text].length) * 16 ≤ most)) then ((L1 (Qs.mk (((a0.Label ++ h_3a) ++ h_20) ++ r1) (0 : Int) a0 ([((h_22 ++ a0.Text) ++ h_22)] ++ [a0.Text]))).bind (fun (o2 : QI) => ((L2 (Qt.mk o2.x3 (0 : Int) o2.r0)).bind (fun (o3 : ByteArray) => (some o3))))) else none) else ((L1 (Qs.mk (((a0.Label ++ h_3a) ++ h_20) ++ r1) (0 : Int) a0 [((h_22 ++ a0.Text) ++ h_22)])).bind (fun (o4 : QI) => ((L2 (Qt.mk o4.x3 (0 : Int) o4.r0)).bind (fun (o5 : ByteArray) => (some o5)))))) else none) else none) else none) else (bif (a0.Kind == 9) then (bif (decide ([a0.Text].length * 16 ≤ most)) then ((L1 (Qs.mk (((a0.Label ++ h_3a) ++ h_20) ++ r1) (0 : Int) a0 [a0.Text])).bind (fun (o6 : QI) => ((L2 (Qt.mk o6.x3 (0 : Int) o6.r0)).bind (fun (o7 : ByteArray) => (some o7))))) else none) else ((L1 (Qs.mk (((a0.Label ++ h_3a) ++ h_20) ++ r1) (0 : Int) a0 ([] : List ByteArray))).bind (fun (o8 : QI) => ((L2 (Qt.mk o8.x3 (0 : Int) o8.r0)).bind (fun (o9 : ByteArray) => (some o9))))))) else none)) else none) else ((C0 a0).bind fun r10 => (bif (decide ((((a0.Label ++ h_3a).size + r10.size : Nat) : Int) ≤ IntKind.i64.max)) then (bif (a0.Kind == 6) then (bif (decide (((h_22.size + a0.Text.size : Nat) : Int) ≤ IntKind.i64.max)) then (bif (decide ((((h_22 ++ a0.Text).size + h_22.size : Nat) : Int) ≤ IntKind.i64.max)) then (bif (decide ([((h_22 ++ a0.Text) ++ h_22)].length * 16 ≤ most)) then (bif (a0.Kind == 9) then (bif (decide (([((h_22 ++ a0.Text) ++ h_22)].length + [a0.Text].length) * 16 ≤ most)) then ((L1 (Qs.mk ((a0.Label ++ h_3a) ++ r10) (0 : Int) a0 ([((h_22 ++ a0.Text) ++ h_22)] ++ [a0.Text]))).bind (fun (o11 : QI) => ((L2 (Qt.mk o11.x3 (0 : Int) o11.r0)).bind (fun (o12 : ByteArray) => (some o12))))) else none) else ((L1 (Qs.mk ((a0.Label ++ h_3a) ++ r10) (0 : Int) a0 [((h_22 ++ a0.Text) ++ h_22)])).bind (fun (o13 : QI) => ((L2 (Qt.mk o13.x3 (0 : Int) o13.r0)).bind (fun (o14 : ByteArray) => (some o14)))))) else none) else none) else none) else (bif (a0.Kind == 9) then (bif (decide ([a0.Text].length * 16 ≤ most)) then ((L1 (Qs.mk ((a0.Label ++ h_3a) ++ r10) (0 : Int) a0 [a0.Text])).bind (fun (o15 : QI) => ((L2 (Qt.mk o15.x3 (0 : Int) o15.r0)).bind (fun (o16 : ByteArray) => (some o16))))) else none) else ((L1 (Qs.mk ((a0.Label ++ h_3a) ++ r10) (0 : Int) a0 ([] : List ByteArray))).bind (fun (o17 : QI) => ((L2 (Qt.mk o17.x3 (0 : Int) o17.r0)).bind (fun (o18 : ByteArray) => (some o18))))))) else none)))) else none) else (bif (a0.Kind == 0) then (some s_) else ((C0 a0).bind fun r19 => (bif (decide (((s_.size + r19.size : Nat) : Int) ≤ IntKind.i64.max)) then (bif (a0.Kind == 6) then (bif (decide (((h_22.size + a0.Text.size : Nat) : Int) ≤ IntKind.i64.max)) then (bif (decide ((((h_22 ++ a0.Text).size + h_22.size : Nat) : Int) ≤ IntKind.i64.max)) then (bif (decide ([((h_22 ++ a0.Text) ++ h_22)].length * 16 ≤ most)) then (bif (a0.Kind == 9) then (bif (decide (([((h_22 ++ a0.Text) ++ h_22)].length + [a0.Text].length) * 16 ≤ most)) then ((L1 (Qs.mk (s_ ++ r19) (0 : Int) a0 ([((h_22 ++ a0.Text) ++ h_22)] ++ [a0.Text]))).bind (fun (o20 : QI) => ((L2 (Qt.mk o20.x3 (0 : Int) o20.r0)).bind (fun (o21 : ByteArray) => (some o21))))) else none) else ((L1 (Qs.mk (s_ ++ r19) (0 : Int) a0 [((h_22 ++ a0.Text) ++ h_22)])).bind (fun (o22 : QI) => ((L2 (Qt.mk o22.x3 (0 : Int) o22.r0)).bind (fun (o23 : ByteArray) => (some o23)))))) else none) else none) else none) else (bif (a0.Kind == 9) then (bif (decide ([a0.Text].length * 16 ≤ most)) then ((L1 (Qs.mk (s_ ++ r19) (0 : Int) a0 [a0.Text])).bind (fun (o24 : QI) => ((L2 (Qt.mk o24.x3 (0 : Int) o24.r0)).bind (fun (o25 : ByteArray) => (some o25))))) else none) else ((L1 (Qs.mk (s_ ++ r19) (0 : Int) a0 ([] : List ByteArray))).bind (fun (o26 : QI) => ((L2 (Qt.mk o26.x3 (0 : Int) o26.r0)).bind (fun (o27 : ByteArray) => (some o27))))))) else none))))
def Qiw (P : Pg) (w : Cf) (C0 : QcL) (L1 : Sa) (L2 : Sb) (a0 : Qg) : Tr ByteArray AH := (.as (!(eqS a0.Label s_)) (.as (decide (((a0.Label.size + h_3a.size : Nat) : Int) ≤ IntKind.i64.max)) (.as (a0.Kind == 0) (rt Xz (a0.Label ++ h_3a)) (.as (!(eqS (a0.Label ++ h_3a) s_)) (.as (decide ((((a0.Label ++ h_3a).size + h_20.size : Nat) : Int) ≤ IntKind.i64.max)) (.call (Qiq w a0) (C0 a0) Zg fun r1 => (.as (decide (((((a0.Label ++ h_3a) ++ h_20).size + r1.size : Nat) : Int) ≤ IntKind.i64.max)) (.as (a0.Kind == 6) (.as (decide (((h_22.size + a0.Text.size : Nat) : Int) ≤ IntKind.i64.max)) (.as (decide ((((h_22 ++ a0.Text).size + h_22.size : Nat) : Int) ≤ IntKind.i64.max)) (.rows [[xs ((h_22 ++ a0.Text) ++ h_22)]] (Qh [((h_22 ++ a0.Text) ++ h_22)]) (.yes (decide ((Qh [((h_22 ++ a0.Text) ++ h_22)]).all (fun r => r.length == 1) = true)) (.ask (decide ((Qh [((h_22 ++ a0.Text) ++ h_22)]).length * 16 ≤ most)) (decide ([((h_22 ++ a0.Text) ++ h_22)].length * 16 ≤ most)) (.rows (Qh [((h_22 ++ a0.Text) ++ h_22)]) (Qh [((h_22 ++ a0.Text) ++ h_22)]) (.as (a0.Kind == 9) (.rows [[xs a0.Text]] (Qh [a0.Text]) (.yes (decide ((Qh [a0.Text]).all (fun r => r.length == 1) = true)) (.ask (decide (((Qh [((h_22 ++ a0.Text) ++ h_22)]).length + (Qh [a0.Text]).length) * 16 ≤ most)) (decide (([((h_22 ++ a0.Text) ++ h_22)].length + [a0.Text].length) * 16 ≤ most)) (.rows ((Qh [((h_22 ++ a0.Text) ++ h_22)]) ++ (Qh [a0.Text])) (Qh ([((h_22 ++ a0.Text) ++ h_22)] ++ [a0.Text])) (.loop (loopAt P 22 15) (VJ (Qs.mk (((a0.Label ++ h_3a) ++ h_20) ++ r1) i0 a0 ([((h_22 ++ a0.Text) ++ h_22)] ++ [a0.Text]))) (L1 (Qs.mk (((a0.Label ++ h_3a) ++ h_20) ++ r1) i0 a0 ([((h_22 ++ a0.Text) ++ h_22)] ++ [a0.Text]))) Wj (fun (o2 : QI) => (.loop (loopAt P 22 21) (VK (Qt.mk o2.x3 i0 o2.r0)) (L2 (Qt.mk o2.x3 i0 o2.r0)) Wk (fun (o3 : ByteArray) => (rt Xz o3)))))) .fail))) (.loop (loopAt P 22 15) (VJ (Qs.mk (((a0.Label ++ h_3a) ++ h_20) ++ r1) i0 a0 [((h_22 ++ a0.Text) ++ h_22)])) (L1 (Qs.mk (((a0.Label ++ h_3a) ++ h_20) ++ r1) i0 a0 [((h_22 ++ a0.Text) ++ h_22)])) Wj (fun (o4 : QI) => (.loop (loopAt P 22 21) (VK (Qt.mk o4.x3 i0 o4.r0)) (L2 (Qt.mk o4.x3 i0 o4.r0)) Wk (fun (o5 : ByteArray) => (rt Xz o5))))))) .fail))) .fail) .fail) (.as (a0.Kind == 9) (.rows [[xs a0.Text]] (Qh [a0.Text]) (.yes (decide ((Qh [a0.Text]).all (fun r => r.length == 1) = true)) (.ask (decide ((Qh [a0.Text]).length * 16 ≤ most)) (decide ([a0.Text].length * 16 ≤ most)) (.rows (Qh [a0.Text]) (Qh [a0.Text]) (.loop (loopAt P 22 15) (VJ (Qs.mk (((a0.Label ++ h_3a) ++ h_20) ++ r1) i0 a0 [a0.Text])) (L1 (Qs.mk (((a0.Label ++ h_3a) ++ h_20) ++ r1) i0 a0 [a0.Text])) Wj (fun (o6 : QI) => (.loop (loopAt P 22 21) (VK (Qt.mk o6.x3 i0 o6.r0)) (L2 (Qt.mk o6.x3 i0 o6.r0)) Wk (fun (o7 : ByteArray) => (rt Xz o7)))))) .fail))) (.loop (loopAt P 22 15) (VJ (Qs.mk (((a0.Label ++ h_3a) ++ h_20) ++ r1) i0 a0 ([] : List ByteArray))) (L1 (Qs.mk (((a0.Label ++ h_3a) ++ h_20) ++ r1) i0 a0 ([] : List ByteArray))) Wj (fun (o8 : QI) => (.loop (loopAt P 22 21) (VK (Qt.mk o8.x3 i0 o8.r0)) (L2 (Qt.mk o8.x3 i0 o8.r0)) Wk (fun (o9 : ByteArray) => (rt Xz o9))))))) .fail)) .fail) (.call (Qiq w a0) (C0 a0) Zg fun r10 => (.as (decide ((((a0.Label ++ h_3a).size + r10.size : Nat) : Int) ≤ IntKind.i64.max)) (.as (a0.Kind == 6) (.as (decide (((h_22.size + a0.Text.size : Nat) : Int) ≤ IntKind.i64.max)) (.as (decide ((((h_22 ++ a0.Text).size + h_22.size : Nat) : Int) ≤ IntKind.i64.max)) (.rows [[xs ((h_22 ++ a0.Text) ++ h_22)]] (Qh [((h_22 ++ a0.Text) ++ h_22)]) (.yes (decide ((Qh [((h_22 ++ a0.Text) ++ h_22)]).all (fun r => r.length == 1) = true)) (.ask (decide ((Qh [((h_22 ++ a0.Text) ++ h_22)]).length * 16 ≤ most)) (decide ([((h_22 ++ a0.Text) ++ h_22)].length * 16 ≤ most)) (.rows (Qh [((h_22 ++ a0.Text) ++ h_22)]) (Qh [((h_22 ++ a0.Text) ++ h_22)]) (.as (a0.Kind == 9) (.rows [[xs a0.Text]] (Qh [a0.Text]) (.yes (decide ((Qh [a0.Text]).all (fun r => r.length == 1) = true)) (.ask (decide (((Qh [((h_22 ++ a0.Text) ++ h_22)]).length + (Qh [a0.Text]).length) * 16 ≤ most)) (decide (([((h_22 ++ a0.Text) ++ h_22)].length + [a0.Text].length) * 16 ≤ most)) (.rows ((Qh [((h_22 ++ a0.Text) ++ h_22)]) ++ (Qh [a0.Text])) (Qh ([((h_22 ++ a0.Text) ++ h_22)] ++ [a0.Text])) (.loop (loopAt P 22 15) (VJ (Qs.mk ((a0.Label ++ h_3a) ++ r10) i0 a0 ([((h_22 ++ a0.Text) ++ h_22)] ++ [a0.Text]))) (L1 (Qs.mk ((a0.Label ++ h_3a) ++ r10) i0 a0 ([((h_22 ++ a0.Text) ++ h_22)] ++ [a0.Text]))) Wj (fun (o11 : QI) => (.loop (loopAt P 22 21) (VK (Qt.mk o11.x3 i0 o11.r0)) (L2 (Qt.mk o11.x3 i0 o11.r0)) Wk (fun (o12 : ByteArray) => (rt Xz o12)))))) .fail))) (.loop (loopAt P 22 15) (VJ (Qs.mk ((a0.Label ++ h_3a) ++ r10) i0 a0 [((h_22 ++ a0.Text) ++ h_22)])) (L1 (Qs.mk ((a0.Label ++ h_3a) ++ r10) i0 a0 [((h_22 ++ a0.Text) ++ h_22)])) Wj (fun (o13 : QI) => (.loop (loopAt P 22 21) (VK (Qt.mk o13.x3 i0 o13.r0)) (L2 (Qt.mk o13.x3 i0 o13.r0)) Wk (fun (o14 : ByteArray) => (rt Xz o14))))))) .fail))) .fail) .fail) (.as (a0.Kind == 9) (.rows [[xs a0.Text]] (Qh [a0.Text]) (.yes (decide ((Qh [a0.Text]).all (fun r => r.length == 1) = true)) (.ask (decide ((Qh [a0.Text]).length * 16 ≤ most)) (decide ([a0.Text].length * 16 ≤ most)) (.rows (Qh [a0.Text]) (Qh [a0.Text]) (.loop (loopAt P 22 15) (VJ (Qs.mk ((a0.Label ++ h_3a) ++ r10) i0 a0 [a0.Text])) (L1 (Qs.mk ((a0.Label ++ h_3a) ++ r10) i0 a0 [a0.Text])) Wj (fun (o15 : QI) => (.loop (loopAt P 22 21) (VK (Qt.mk o15.x3 i0 o15.r0)) (L2 (Qt.mk o15.x3 i0 o15.r0)) Wk (fun (o16 : ByteArray) => (rt Xz o16)))))) .fail))) (.loop (loopAt P 22 15) (VJ (Qs.mk ((a0.Label ++ h_3a) ++ r10) i0 a0 ([] : List ByteArray))) (L1 (Qs.mk ((a0.Label ++ h_3a) ++ r10) i0 a0 ([] : List ByteArray))) Wj (fun (o17 : QI) => (.loop (loopAt P 22 21) (VK (Qt.mk o17.x3 i0 o17.r0)) (L2 (Qt.mk o17.x3 i0 o17.r0)) Wk (fun (o18 : ByteArray) => (rt Xz o18))))))) .fail)))) .fail) (.as (a0.Kind == 0) (rt Xz s_) (.no false (.call (Qiq w a0) (C0 a0) Zg fun r19 => (.as (decide (((s_.size + r19.size : Nat) : Int) ≤ IntKind.i64.max)) (.as (a0.Kind == 6) (.as (decide (((h_22.size + a0.Text.size : Nat) : Int) ≤ IntKind.i64.max)) (.as (decide ((((h_22 ++ a0.Text).size + h_22.size : Nat) : Int) ≤ IntKind.i64.max)) (.rows [[xs ((h_22 ++ a0.Text) ++ h_22)]] (Qh [((h_22 ++ a0.Text) ++ h_22)]) (.yes (decide ((Qh [((h_22 ++ a0.Text) ++ h_22)]).all (fun r => r.length == 1) = true)) (.ask (decide ((Qh [((h_22 ++ a0.Text) ++ h_22)]).length * 16 ≤ most)) (decide ([((h_22 ++ a0.Text) ++ h_22)].length * 16 ≤ most)) (.rows (Qh [((h_22 ++ a0.Text) ++ h_22)]) (Qh [((h_22 ++ a0.Text) ++ h_22)]) (.as (a0.Kind == 9) (.rows [[xs a0.Text]] (Qh [a0.Text]) (.yes (decide ((Qh [a0.Text]).all (fun r => r.length == 1) = true)) (.ask (decide (((Qh [((h_22 ++ a0.Text) ++ h_22)]).length + (Qh [a0.Text]).length) * 16 ≤ most)) (decide (([((h_22 ++ a0.Text) ++ h_22)].length + [a0.Text].length) * 16 ≤ most)) (.rows ((Qh [((h_22 ++ a0.Text) ++ h_22)]) ++ (Qh [a0.Text])) (Qh ([((h_22 ++ a0.Text) ++ h_22)] ++ [a0.Text])) (.loop (loopAt P 22 15) (VJ (Qs.mk (s_ ++ r19) i0 a0 ([((h_22 ++ a0.Text) ++ h_22)] ++ [a0.Text]))) (L1 (Qs.mk (s_ ++ r19) i0 a0 ([((h_22 ++ a0.Text) ++ h_22)] ++ [a0.Text]))) Wj (fun (o20 : QI) => (.loop (loopAt P 22 21) (VK (Qt.mk o20.x3 i0 o20.r0)) (L2 (Qt.mk o20.x3 i0 o20.r0)) Wk (fun (o21 : ByteArray) => (rt Xz o21)))))) .fail))) (.loop (loopAt P 22 15) (VJ (Qs.mk (s_ ++ r19) i0 a0 [((h_22 ++ a0.Text) ++ h_22)])) (L1 (Qs.mk (s_ ++ r19) i0 a0 [((h_22 ++ a0.Text) ++ h_22)])) Wj (fun (o22 : QI) => (.loop (loopAt P 22 21) (VK (Qt.mk o22.x3 i0 o22.r0)) (L2 (Qt.mk o22.x3 i0 o22.r0)) Wk (fun (o23 : ByteArray) => (rt Xz o23))))))) .fail))) .fail) .fail) (.as (a0.Kind == 9) (.rows [[xs a0.Text]] (Qh [a0.Text]) (.yes (decide ((Qh [a0.Text]).all (fun r => r.length == 1) = true)) (.ask (decide ((Qh [a0.Text]).length * 16 ≤ most)) (decide ([a0.Text].length * 16 ≤ most)) (.rows (Qh [a0.Text]) (Qh [a0.Text]) (.loop (loopAt P 22 15) (VJ (Qs.mk (s_ ++ r19) i0 a0 [a0.Text])) (L1 (Qs.mk (s_ ++ r19) i0 a0 [a0.Text])) Wj (fun (o24 : QI) => (.loop (loopAt P 22 21) (VK (Qt.mk o24.x3 i0 o24.r0)) (L2 (Qt.mk o24.x3 i0 o24.r0)) Wk (fun (o25 : ByteArray) => (rt Xz o25)))))) .fail))) (.loop (loopAt P 22 15) (VJ (Qs.mk (s_ ++ r19) i0 a0 ([] : List ByteArray))) (L1 (Qs.mk (s_ ++ r19) i0 a0 ([] : List ByteArray))) Wj (fun (o26 : QI) => (.loop (loopAt P 22 21) (VK (Qt.mk o26.x3 i0 o26.r0)) (L2 (Qt.mk o26.x3 i0 o26.r0)) Wk (fun (o27 : ByteArray) => (rt Xz o27))))))) .fail)))))
theorem Qx2 (w : Cf) (C0 : QcL) (L1 : Sa) (L2 : Sb) (a0 : Qg) : (Qiw pp w C0 L1 L2 a0).norm (bodyT pp w G 22 (Qiv a0).1 (Qiv a0).2) = Qiw pp w C0 L1 L2 a0 := by kernel_rfl
theorem Qx3 (P : Pg) (w : Cf) (lp : Lo) (C0 : QcL) (L1 : Sa) (L2 : Sb) (K0 : Qt0 w C0) (N1 : Qvv P lp L1) (N2 : Qvw P lp L2) (a0 : Qg) : (Qiw P w C0 L1 L2 a0).ok lp Xz := ⟨rfl, fun q0 => ⟨rfl, fun q1 => ⟨rfl, fun q2 => rfl, fun q2 => ⟨rfl, fun q3 => ⟨rfl, fun q4 => fun r1 hr1 => ⟨K0 _ _ hr1, ⟨rfl, fun q5 => ⟨rfl, fun q6 => ⟨rfl, fun q7 => ⟨rfl, fun q8 => ⟨(Jv [((h_22 ++ a0.Text) ++ h_22)]), ⟨(decide_eq_true (Xk _)), ⟨(by rw [QJ]), fun q9 => ⟨rfl, ⟨rfl, fun q10 => ⟨(Jv [a0.Text]), ⟨(decide_eq_true (Xk _)), ⟨(by rw [QJ, QJ]), fun q11 => ⟨(Z0 _ _), fun o2 ho2 => ⟨N1 _ _ ho2, fun o3 ho3 => ⟨N2 _ _ ho3, rfl⟩⟩⟩, fun q11 => trivial⟩⟩⟩, fun q10 => fun o4 ho4 => ⟨N1 _ _ ho4, fun o5 ho5 => ⟨N2 _ _ ho5, rfl⟩⟩⟩⟩, fun q9 => trivial⟩⟩⟩, fun q8 => trivial⟩, fun q7 => trivial⟩, fun q6 => ⟨rfl, fun q7 => ⟨(Jv [a0.Text]), ⟨(decide_eq_true (Xk _)), ⟨(by rw [QJ]), fun q8 => ⟨rfl, fun o6 ho6 => ⟨N1 _ _ ho6, fun o7 ho7 => ⟨N2 _ _ ho7, rfl⟩⟩⟩, fun q8 => trivial⟩⟩⟩, fun q7 => fun o8 ho8 => ⟨N1 _ _ ho8, fun o9 ho9 => ⟨N2 _ _ ho9, rfl⟩⟩⟩⟩, fun q5 => trivial⟩⟩, fun q4 => trivial⟩, fun q3 => fun r10 hr10 => ⟨K0 _ _ hr10, ⟨rfl, fun q4 => ⟨rfl, fun q5 => ⟨rfl, fun q6 => ⟨rfl, fun q7 => ⟨(Jv [((h_22 ++ a0.Text) ++ h_22)]), ⟨(decide_eq_true (Xk _)), ⟨(by rw [QJ]), fun q8 => ⟨rfl, ⟨rfl, fun q9 => ⟨(Jv [a0.Text]), ⟨(decide_eq_true (Xk _)), ⟨(by rw [QJ, QJ]), fun q10 => ⟨(Z0 _ _), fun o11 ho11 => ⟨N1 _ _ ho11, fun o12 ho12 => ⟨N2 _ _ ho12, rfl⟩⟩⟩, fun q10 => trivial⟩⟩⟩, fun q9 => fun o13 ho13 => ⟨N1 _ _ ho13, fun o14 ho14 => ⟨N2 _ _ ho14, rfl⟩⟩⟩⟩, fun q8 => trivial⟩⟩⟩, fun q7 => trivial⟩, fun q6 => trivial⟩, fun q5 => ⟨rfl, fun q6 => ⟨(Jv [a0.Text]), ⟨(decide_eq_true (Xk _)), ⟨(by rw [QJ]), fun q7 => ⟨rfl, fun o15 ho15 => ⟨N1 _ _ ho15, fun o16 ho16 => ⟨N2 _ _ ho16, rfl⟩⟩⟩, fun q7 => trivial⟩⟩⟩, fun q6 => fun o17 ho17 => ⟨N1 _ _ ho17, fun o18 ho18 => ⟨N2 _ _ ho18, rfl⟩⟩⟩⟩, fun q4 => trivial⟩⟩⟩⟩, fun q1 => trivial⟩, fun q0 => ⟨rfl, fun q1 => rfl, fun q1 => ⟨rfl, fun r19 hr19 => ⟨K0 _ _ hr19, ⟨rfl, fun q2 => ⟨rfl, fun q3 => ⟨rfl, fun q4 => ⟨rfl, fun q5 => ⟨(Jv [((h_22 ++ a0.Text) ++ h_22)]), ⟨(decide_eq_true (Xk _)), ⟨(by rw [QJ]), fun q6 => ⟨rfl, ⟨rfl, fun q7 => ⟨(Jv [a0.Text]), ⟨(decide_eq_true (Xk _)), ⟨(by rw [QJ, QJ]), fun q8 => ⟨(Z0 _ _), fun o20 ho20 => ⟨N1 _ _ ho20, fun o21 ho21 => ⟨N2 _ _ ho21, rfl⟩⟩⟩, fun q8 => trivial⟩⟩⟩, fun q7 => fun o22 ho22 => ⟨N1 _ _ ho22, fun o23 ho23 => ⟨N2 _ _ ho23, rfl⟩⟩⟩⟩, fun q6 => trivial⟩⟩⟩, fun q5 => trivial⟩, fun q4 => trivial⟩, fun q3 => ⟨rfl, fun q4 => ⟨(Jv [a0.Text]), ⟨(decide_eq_true (Xk _)), ⟨(by rw [QJ]), fun q5 => ⟨rfl, fun o24 ho24 => ⟨N1 _ _ ho24, fun o25 ho25 => ⟨N2 _ _ ho25, rfl⟩⟩⟩, fun q5 => trivial⟩⟩⟩, fun q4 => fun o26 ho26 => ⟨N1 _ _ ho26, fun o27 ho27 => ⟨N2 _ _ ho27, rfl⟩⟩⟩⟩, fun q2 => trivial⟩⟩⟩⟩⟩
theorem Qx4 {C0 : Nat → QcL} {D0 : QcL} (H0 : Cv1 C0 D0) {L1 : Nat → Sa} {M1 : Sa} (N1 : Cv1 L1 M1) {L2 : Nat → Sb} {M2 : Sb} (N2 : Cv1 L2 M2) (a0 : Qg) : Cv (fun k => Qbh (C0 k) (L1 k) (L2 k) a0) (Qbh D0 M1 M2 a0) := by
  unfold Qbh
  exact .cond (.cond (.cond cst (.cond (.cond (.bind (H0 _) fun r1 => .cond (.cond (.cond (.cond (.cond (.cond (.cond (.bind (N1 _) (fun o2 => .bind (N2 _) (fun o3 => by exact .const _))) cst) (.bind (N1 _) (fun o4 => .bind (N2 _) (fun o5 => by exact .const _)))) cst) cst) cst) (.cond (.cond (.bind (N1 _) (fun o6 => .bind (N2 _) (fun o7 => by exact .const _))) cst) (.bind (N1 _) (fun o8 => .bind (N2 _) (fun o9 => by exact .const _))))) cst) cst) (.bind (H0 _) fun r10 => .cond (.cond (.cond (.cond (.cond (.cond (.cond (.bind (N1 _) (fun o11 => .bind (N2 _) (fun o12 => by exact .const _))) cst) (.bind (N1 _) (fun o13 => .bind (N2 _) (fun o14 => by exact .const _)))) cst) cst) cst) (.cond (.cond (.bind (N1 _) (fun o15 => .bind (N2 _) (fun o16 => by exact .const _))) cst) (.bind (N1 _) (fun o17 => .bind (N2 _) (fun o18 => by exact .const _))))) cst))) cst) (.cond cst (.bind (H0 _) fun r19 => .cond (.cond (.cond (.cond (.cond (.cond (.cond (.bind (N1 _) (fun o20 => .bind (N2 _) (fun o21 => by exact .const _))) cst) (.bind (N1 _) (fun o22 => .bind (N2 _) (fun o23 => by exact .const _)))) cst) cst) cst) (.cond (.cond (.bind (N1 _) (fun o24 => .bind (N2 _) (fun o25 => by exact .const _))) cst) (.bind (N1 _) (fun o26 => .bind (N2 _) (fun o27 => by exact .const _))))) cst))
def ZT.s : Nat → Qg → Option ByteArray
  | 0, _ => none
  | k + 1, a0 => Qbh (Gq.s k) (U9.s k (Jf.s k) (UH.s k)) (UO.s k) a0
theorem ZT.ok : ∀ (k : Nat), Qt1 (ev k) (ZT.s k)
  | 0, _, _, h => (nomatch h)
  | k + 1, a0, r, h => fn_ok rfl (Qiw pp (ev k) (Gq.s k) (U9.s k (Jf.s k) (UH.s k)) (UO.s k) a0) (Qx2 _ _ _ _ a0) (Qx3 _ _ _ _ _ _ (Gq.ok k) (QsH _ k _ _ (Jf.ok k) (UH.ok k)) (QsI _ k) a0) h
noncomputable def U9 : Qs → Option QI := U9.w Jf UH
theorem U9.eq (a : Qs) : U9 a = (Eq Jf UH a).bind (Sum.elim U9 some) := UN _ _
noncomputable def UO : Qt → Option ByteArray := UO.w
theorem UO.eq (a : Qt) : UO a = (SJ a).bind (Sum.elim UO some) := UN _ _
noncomputable def ZT (a0 : Qg) : Option ByteArray := Qbh Gq U9 UO a0
theorem ZT.cv (a0 : Qg) : Cv (fun k => ZT.s k a0) (ZT a0) := .un rfl (Qx4 Gq.cv (U9.cv (fun k => Jf.s k) (fun k => UH.s k) Jf UH Jf.cv UH.cv) (UO.cv) a0)
theorem ZT.eq (a0 : Qg) : ZT a0 = Qbh Gq U9 UO a0 := rfl
def Qna (C0 : Z9) (a0 : ByteArray) : Option (Int × Bool) := ((C0 (-1 : Int) a0).bind fun r1 => (some (r1.2.1, r1.2.2)))
noncomputable def QjU (a0 : ByteArray) : Option (Int × Bool) := Qna W3 a0
theorem QjU.eq (a0 : ByteArray) : QjU a0 = Qna W3 a0 := rfl
def Fm (r : Bool) : AV × Heap := (xo r, [])
abbrev Wb := Qa → Qa → Option Bool
abbrev Qix (a0 : Qa) (a1 : Qa) : List AV × Heap := ([.agg (QZ a0), .agg (QZ a1)], [])
abbrev Qnb (w : Cf) (a0 : Qa) (a1 : Qa) : Option AH := w 78 (Qix a0 a1).1 (Qix a0 a1).2
abbrev QeQ (w : Cf) (c : Wb) : Prop := ∀ (a0 : Qa) (a1 : Qa) (r : Bool), c a0 a1 = some r → Qnb w a0 a1 = some (Fm r)
structure US where
  x5 : Int
  h0 : Qa
  h1 : Qa
def SK (a : US) : St := { n := 53, nx := 2, env := [(2, .ptr 0 0), (3, .ptr 1 0), (5, xi a.x5)], heap := [(0, .box [] (QZ a.h0)), (1, .box [] (QZ a.h1))] }
def Qlh (a : Bool) : Ex × St := (.ret, { n := 53, nx := 0, env := [(4, xo a)], heap := [] })
def Qli (a : Unit) : Ex × St := (.exit 0, { n := 53, nx := 0, env := [], heap := [] })
def Qbi (a : (Bool ⊕ Unit)) : Ex × St := Sum.elim Qlh Qli a
abbrev Sc := US → Option (Bool ⊕ Unit)
abbrev Qvx (P : Pg) (lp : Lo) (l : Sc) : Prop := ∀ (a : US) (r : (Bool ⊕ Unit)), l a = some r → lp (loopAt P 78 4) (SK a) = some (Qbi r)
def Ge (C0 : Wb) (a : US) : Option (US ⊕ (Bool ⊕ Unit)) := (bif (decide (a.x5 < (((a.h0.L.length) : Nat) : Int))) then (bif (decide (0 ≤ a.x5)) then ((a.h0.L[(Int.toNat a.x5)]?).bind fun e1 => ((a.h1.L[(Int.toNat a.x5)]?).bind fun e2 => ((C0 e1 e2).bind fun r3 => (bif (!r3) then (some (.inr (.inl false))) else (some (.inl (US.mk (w64 (a.x5 + 1)) a.h0 a.h1))))))) else none) else (some (.inr (.inr ()))))
def Qek (P : Pg) (w : Cf) (C0 : Wb) (a : US) : Tr (US ⊕ (Bool ⊕ Unit)) XS := (.num ((QY a.h0.L).length) (a.h0.L.length) (.as (decide (a.x5 < (((a.h0.L.length) : Nat) : Int))) (let u127 := (decide (0 ≤ a.x5)); .as u127 (.row ((QY a.h0.L)[(Int.toNat a.x5)]?) (a.h0.L[(Int.toNat a.x5)]?) QZ fun (e1 : Qa) => (.yes u127 (.row ((QY a.h1.L)[(Int.toNat a.x5)]?) (a.h1.L[(Int.toNat a.x5)]?) QZ fun (e2 : Qa) => (.call (Qnb w e1 e2) (C0 e1 e2) Fm fun r3 => (.as (!r3) (rx Qbi (.inl false)) (lf SK (US.mk (w64 (a.x5 + 1)) a.h0 a.h1))))))) .fail) (rx Qbi (.inr ()))))
theorem Qt7 (w : Cf) (C0 : Wb) (a : US) : (Qek pp w C0 a).norm (roundT pp G.kd w 0 (G.an 78) (loopAt pp 78 4) (SK a)) = Qek pp w C0 a := by kernel_rfl
theorem Qt8 (P : Pg) (w : Cf) (lp : Lo) (C0 : Wb) (K0 : QeQ w C0) (a : US) : (Qek P w C0 a).ok lp (Sum.elim (fun a => (.norm, SK a)) Qbi) := ⟨(Qbn _), ⟨rfl, fun q0 => ⟨rfl, fun q1 => fun e1 h => ⟨Ss h, ⟨q1, fun e2 h => ⟨Ss h, fun r3 hr3 => ⟨K0 _ _ _ hr3, ⟨rfl, fun q2 => rfl, fun q2 => rfl⟩⟩⟩⟩⟩, fun q1 => trivial⟩, fun q0 => rfl⟩⟩
theorem Qnc {C0 : Nat → Wb} {D0 : Wb} (H0 : Cv2 C0 D0) (a : US) : Cv (fun k => Ge (C0 k) a) (Ge D0 a) := by
  unfold Ge
  exact .cond (.cond (.bind (.const _) fun e1 => .bind (.const _) fun e2 => .bind (H0 _ _) fun r3 => by exact .const _) cst) cst
def Ub.s (k : Nat) (C0 : Wb) : US → Option (Bool ⊕ Unit) := iter (Ge C0) k
theorem QsJ (w : Cf) (k : Nat) (C0 : Wb) (K0 : QeQ w C0) (a : US) (r : (Bool ⊕ Unit)) (h : Ub.s k C0 a = some r) : loopsF pp G.kd w 0 (G.an 78) k (loopAt pp 78 4) (SK a) = some (Qbi r) :=
  Va (fun a => Qek pp w C0 a) (fun _ => rfl) (fun a => Qt7 w _ a) (fun a => Qt8 _ w _ _ K0 a) (fun r => by cases r <;> nofun) h
theorem Ub.m {j k : Nat} (hj : j ≤ k) (C0 : Wb) (D0 : Wb) (H0 : Le2 C0 D0) (a : US) : Le (Ub.s j C0 a) (Ub.s k D0 a) := Le.iter (fun a => (Qnc (tw2 H0) a).1 0) hj a
noncomputable def Ub.w (C0 : Wb) : US → Option (Bool ⊕ Unit) := loopW (Ge C0)
theorem Ub.cv (C0 : Nat → Wb) (D0 : Wb) (H0 : Cv2 C0 D0) (a : US) : Cv (fun k => Ub.s k (C0 k) a) (Ub.w D0 a) := Cv.iter (fun a => Qnc H0 a) a
def Qbj (L0 : Sc) (a0 : Qa) (a1 : Qa) : Option Bool := (bif (a0.Kind != a1.Kind) then (some false) else (bif (a0.N != a1.N) then (some false) else (bif (!(eqS a0.Name a1.Name)) then (some false) else (bif ((((a0.L.length) : Nat) : Int) != (((a1.L.length) : Nat) : Int)) then (some false) else ((L0 (US.mk (0 : Int) a0 a1)).bind fun x => Sum.elim (fun (o1 : Bool) => (some o1)) (fun (o2 : Unit) => (some true)) x)))))
def Qiy (P : Pg) (w : Cf) (L0 : Sc) (a0 : Qa) (a1 : Qa) : Tr Bool AH := (let u130 := (a0.Kind != a1.Kind); .as u130 (yesN 5 u130 (yesN 15 true (rt Fm false))) (noN 5 u130 (let u129 := (a0.N != a1.N); .as u129 (yesN 5 u129 (yesN 9 true (rt Fm false))) (noN 5 u129 (let u128 := (!(eqS a0.Name a1.Name)); .as u128 (yesN 7 u128 (.yes true (rt Fm false))) (noN 2 u128 (.num ((QY a0.L).length) (a0.L.length) (noN 3 u128 (.num ((QY a1.L).length) (a1.L.length) (noN 2 u128 (.as ((((a0.L.length) : Nat) : Int) != (((a1.L.length) : Nat) : Int)) (rt Fm false) (.loop2 (loopAt P 78 4) (SK (US.mk i0 a0 a1)) (L0 (US.mk i0 a0 a1)) Qlh Qli (fun (o1 : Bool) => (rt Fm o1)) (fun (o2 : Unit) => (rt Fm true))))))))))))))
theorem Qx5 (w : Cf) (L0 : Sc) (a0 : Qa) (a1 : Qa) : (Qiy pp w L0 a0 a1).norm (bodyT pp w G 78 (Qix a0 a1).1 (Qix a0 a1).2) = Qiy pp w L0 a0 a1 := by kernel_rfl
theorem Qx6 (P : Pg) (w : Cf) (lp : Lo) (L0 : Sc) (N0 : Qvx P lp L0) (a0 : Qa) (a1 : Qa) : (Qiy P w L0 a0 a1).ok lp Fm := ⟨rfl, fun q0 => Qj 5 (q0) (Qj 15 (rfl) (rfl)), fun q0 => noN_ok 5 (q0) (⟨rfl, fun q1 => Qj 5 (q1) (Qj 9 (rfl) (rfl)), fun q1 => noN_ok 5 (q1) (⟨rfl, fun q2 => Qj 7 (q2) (⟨rfl, rfl⟩), fun q2 => noN_ok 2 (q2) (⟨(Qbn _), noN_ok 3 (q2) (⟨(Qbn _), noN_ok 2 (q2) (⟨rfl, fun q3 => rfl, fun q3 => ⟨fun o1 ho1 => ⟨N0 _ (.inl _) ho1, rfl⟩, fun o2 ho2 => ⟨N0 _ (.inr _) ho2, rfl⟩⟩⟩)⟩)⟩)⟩)⟩)⟩
theorem QrK {L0 : Nat → Sc} {M0 : Sc} (N0 : Cv1 L0 M0) (a0 : Qa) (a1 : Qa) : Cv (fun k => Qbj (L0 k) a0 a1) (Qbj M0 a0 a1) := by
  unfold Qbj
  exact .cond cst (.cond cst (.cond cst (.cond cst (.bind (N0 _) fun x => .sum (fun o1 => by exact .const _) (fun o2 => by exact .const _) x))))
def UK.s : Nat → Qa → Qa → Option Bool
  | 0, _, _ => none
  | k + 1, a0, a1 => Qbj (Ub.s k (fun a0 a1 => UK.s k a0 a1)) a0 a1
termination_by structural k => k
theorem Qop : ∀ (k : Nat), QeQ (ev k) (UK.s k)
  | 0 => fun _ _ _ h => (nomatch h)
  | k + 1 => by
    have i_r3_Same := Qop k
    exact fun a0 a1 r h => fn_ok rfl (Qiy pp (ev k) (Ub.s k (UK.s k)) a0 a1) (Qx5 _ _ a0 a1) (Qx6 _ _ _ _ (QsJ _ k _ (i_r3_Same)) a0 a1) h
theorem UK.ok (k : Nat) : QeQ (ev k) (UK.s k) := (Qop k)
theorem Qnd : ∀ (k : Nat), (∀ (a0 : Qa) (a1 : Qa), Le (UK.s k a0 a1) (UK.s (k + 1) a0 a1))
  | 0 => fun _ _ _ h => (nomatch h)
  | k + 1 => by
    have i_r3_Same := Qnd k
    exact fun a0 a1 => (QrK (tw1 (Ub.m (Nat.le_succ k) (UK.s k) (UK.s (k + 1)) (i_r3_Same))) a0 a1).1 0
theorem UK.mono (k : Nat) : ∀ (a0 : Qa) (a1 : Qa), Le (UK.s k a0 a1) (UK.s (k + 1) a0 a1) := (Qnd k)
noncomputable def UK (a0 : Qa) (a1 : Qa) : Option Bool := lim fun k => UK.s k a0 a1
theorem UK.cv (a0 : Qa) (a1 : Qa) : Cv (fun k => UK.s k a0 a1) (UK a0 a1) := .lim fun k => UK.mono k a0 a1
noncomputable def Ub : US → Option (Bool ⊕ Unit) := Ub.w UK
theorem Ub.eq (a : US) : Ub a = (Ge UK a).bind (Sum.elim Ub some) := UN _ _
theorem UK.eq (a0 : Qa) (a1 : Qa) : UK a0 a1 = Qbj Ub a0 a1 := Cv.uniq (UK.cv a0 a1).shift (QrK (Ub.cv (fun k => UK.s k) UK UK.cv) a0 a1)
def Er (r : Bool) : AV × Heap := (xo r, [])
abbrev QcN := Qg → Qg → Option Bool
abbrev Qiz (a0 : Qg) (a1 : Qg) : List AV × Heap := ([.agg (G4 a0), .agg (G4 a1)], [])
abbrev QrL (w : Cf) (a0 : Qg) (a1 : Qg) : Option AH := w 28 (Qiz a0 a1).1 (Qiz a0 a1).2
abbrev Qt9 (w : Cf) (c : QcN) : Prop := ∀ (a0 : Qg) (a1 : Qg) (r : Bool), c a0 a1 = some r → QrL w a0 a1 = some (Er r)
structure U5 where
  x5 : Int
  h0 : Qg
  h1 : Qg
def SL (a : U5) : St := { n := 84, nx := 2, env := [(2, .ptr 0 0), (3, .ptr 1 0), (5, xi a.x5)], heap := [(0, .box [0, 0, 0, 0, 0, 5] (G4 a.h0)), (1, .box [0, 0, 0, 0, 0, 5] (G4 a.h1))] }
def Qlj (a : Bool) : Ex × St := (.ret, { n := 84, nx := 0, env := [(4, xo a)], heap := [] })
def Qlk (a : Unit) : Ex × St := (.exit 0, { n := 84, nx := 0, env := [], heap := [] })
def SM (a : (Bool ⊕ Unit)) : Ex × St := Sum.elim Qlj Qlk a
abbrev Sd := U5 → Option (Bool ⊕ Unit)
abbrev Qvy (P : Pg) (lp : Lo) (l : Sd) : Prop := ∀ (a : U5) (r : (Bool ⊕ Unit)), l a = some r → lp (loopAt P 28 4) (SL a) = some (SM r)
def Es (C0 : Wb) (a : U5) : Option (U5 ⊕ (Bool ⊕ Unit)) := (bif (decide (a.x5 < (((a.h0.Args.length) : Nat) : Int))) then (bif (decide (0 ≤ a.x5)) then ((a.h0.Args[(Int.toNat a.x5)]?).bind fun e1 => ((a.h1.Args[(Int.toNat a.x5)]?).bind fun e2 => (bif (e1.Reg != e2.Reg) then (some (.inr (.inl false))) else ((a.h0.Args[(Int.toNat a.x5)]?).bind fun e3 => ((a.h1.Args[(Int.toNat a.x5)]?).bind fun e4 => ((C0 e3.E e4.E).bind fun r5 => (bif (!r5) then (some (.inr (.inl false))) else (some (.inl (U5.mk (w64 (a.x5 + 1)) a.h0 a.h1)))))))))) else none) else (some (.inr (.inr ()))))
def Qel (P : Pg) (w : Cf) (C0 : Wb) (a : U5) : Tr (U5 ⊕ (Bool ⊕ Unit)) XS := (.num ((Qi a.h0.Args).length) (a.h0.Args.length) (.as (decide (a.x5 < (((a.h0.Args.length) : Nat) : Int))) (let u132 := (decide (0 ≤ a.x5)); .as u132 (.row ((Qi a.h0.Args)[(Int.toNat a.x5)]?) (a.h0.Args[(Int.toNat a.x5)]?) ZG fun (e1 : Qf) => (.yes u132 (.row ((Qi a.h1.Args)[(Int.toNat a.x5)]?) (a.h1.Args[(Int.toNat a.x5)]?) ZG fun (e2 : Qf) => (let u131 := (e1.Reg != e2.Reg); .as u131 (yesN 14 u131 (.yes true (rx SM (.inl false)))) (noN 3 u131 (.yes u132 (.row ((Qi a.h0.Args)[(Int.toNat a.x5)]?) (a.h0.Args[(Int.toNat a.x5)]?) ZG fun (e3 : Qf) => (noN 6 u131 (.yes u132 (.row ((Qi a.h1.Args)[(Int.toNat a.x5)]?) (a.h1.Args[(Int.toNat a.x5)]?) ZG fun (e4 : Qf) => (noN 3 u131 (.call (Qnb w e3.E e4.E) (C0 e3.E e4.E) Fm fun r5 => (noN 2 u131 (.as (!r5) (rx SM (.inl false)) (lf SL (U5.mk (w64 (a.x5 + 1)) a.h0 a.h1)))))))))))))))) .fail) (rx SM (.inr ()))))
theorem Qua (w : Cf) (C0 : Wb) (a : U5) : (Qel pp w C0 a).norm (roundT pp G.kd w 0 (G.an 28) (loopAt pp 28 4) (SL a)) = Qel pp w C0 a := by kernel_rfl
theorem Qub (P : Pg) (w : Cf) (lp : Lo) (C0 : Wb) (K0 : QeQ w C0) (a : U5) : (Qel P w C0 a).ok lp (Sum.elim (fun a => (.norm, SL a)) SM) := ⟨(Uc _), ⟨rfl, fun q0 => ⟨rfl, fun q1 => fun e1 h => ⟨EG h, ⟨q1, fun e2 h => ⟨EG h, ⟨rfl, fun q2 => Qj 14 (q2) (⟨rfl, rfl⟩), fun q2 => noN_ok 3 (q2) (⟨q1, fun e3 h => ⟨EG h, noN_ok 6 (q2) (⟨q1, fun e4 h => ⟨EG h, noN_ok 3 (q2) (fun r5 hr5 => ⟨K0 _ _ _ hr5, noN_ok 2 (q2) (⟨rfl, fun q3 => rfl, fun q3 => rfl⟩)⟩)⟩⟩)⟩⟩)⟩⟩⟩⟩, fun q1 => trivial⟩, fun q0 => rfl⟩⟩
theorem Quc {C0 : Nat → Wb} {D0 : Wb} (H0 : Cv2 C0 D0) (a : U5) : Cv (fun k => Es (C0 k) a) (Es D0 a) := by
  unfold Es
  exact .cond (.cond (.bind (.const _) fun e1 => .bind (.const _) fun e2 => .cond cst (.bind (.const _) fun e3 => .bind (.const _) fun e4 => .bind (H0 _ _) fun r5 => by exact .const _)) cst) cst
def Wp.s (k : Nat) (C0 : Wb) : U5 → Option (Bool ⊕ Unit) := iter (Es C0) k
theorem QsK (w : Cf) (k : Nat) (C0 : Wb) (K0 : QeQ w C0) (a : U5) (r : (Bool ⊕ Unit)) (h : Wp.s k C0 a = some r) : loopsF pp G.kd w 0 (G.an 28) k (loopAt pp 28 4) (SL a) = some (SM r) :=
  Va (fun a => Qel pp w C0 a) (fun _ => rfl) (fun a => Qua w _ a) (fun a => Qub _ w _ _ K0 a) (fun r => by cases r <;> nofun) h
noncomputable def Wp.w (C0 : Wb) : U5 → Option (Bool ⊕ Unit) := loopW (Es C0)
theorem Wp.cv (C0 : Nat → Wb) (D0 : Wb) (H0 : Cv2 C0 D0) (a : U5) : Cv (fun k => Wp.s k (C0 k) a) (Wp.w D0 a) := Cv.iter (fun a => Quc H0 a) a
def Qbk (L0 : Sd) (a0 : Qg) (a1 : Qg) : Option Bool := (bif (a0.Line != a1.Line) then (some false) else (bif (!(eqS a0.Label a1.Label)) then (some false) else (bif (a0.Kind != a1.Kind) then (some false) else (bif (a0.Op != a1.Op) then (some false) else (bif (!(eqS a0.Text a1.Text)) then (some false) else (bif ((((a0.Args.length) : Nat) : Int) != (((a1.Args.length) : Nat) : Int)) then (some false) else ((L0 (U5.mk (0 : Int) a0 a1)).bind fun x => Sum.elim (fun (o1 : Bool) => (some o1)) (fun (o2 : Unit) => (some true)) x)))))))
def QiA (P : Pg) (w : Cf) (L0 : Sd) (a0 : Qg) (a1 : Qg) : Tr Bool AH := (let u137 := (a0.Line != a1.Line); .as u137 (yesN 5 u137 (yesN 27 true (rt Er false))) (noN 5 u137 (let u136 := (!(eqS a0.Label a1.Label)); .as u136 (yesN 5 u136 (yesN 21 true (rt Er false))) (noN 5 u136 (let u135 := (a0.Kind != a1.Kind); .as u135 (yesN 5 u135 (yesN 15 true (rt Er false))) (noN 5 u135 (let u134 := (a0.Op != a1.Op); .as u134 (yesN 5 u134 (yesN 9 true (rt Er false))) (noN 5 u134 (let u133 := (!(eqS a0.Text a1.Text)); .as u133 (yesN 7 u133 (.yes true (rt Er false))) (noN 2 u133 (.num ((Qi a0.Args).length) (a0.Args.length) (noN 3 u133 (.num ((Qi a1.Args).length) (a1.Args.length) (noN 2 u133 (.as ((((a0.Args.length) : Nat) : Int) != (((a1.Args.length) : Nat) : Int)) (rt Er false) (.loop2 (loopAt P 28 4) (SL (U5.mk i0 a0 a1)) (L0 (U5.mk i0 a0 a1)) Qlj Qlk (fun (o1 : Bool) => (rt Er o1)) (fun (o2 : Unit) => (rt Er true))))))))))))))))))
theorem Qx7 (w : Cf) (L0 : Sd) (a0 : Qg) (a1 : Qg) : (QiA pp w L0 a0 a1).norm (bodyT pp w G 28 (Qiz a0 a1).1 (Qiz a0 a1).2) = QiA pp w L0 a0 a1 := by kernel_rfl
theorem Qx8 (P : Pg) (w : Cf) (lp : Lo) (L0 : Sd) (N0 : Qvy P lp L0) (a0 : Qg) (a1 : Qg) : (QiA P w L0 a0 a1).ok lp Er := ⟨rfl, fun q0 => Qj 5 (q0) (Qj 27 (rfl) (rfl)), fun q0 => noN_ok 5 (q0) (⟨rfl, fun q1 => Qj 5 (q1) (Qj 21 (rfl) (rfl)), fun q1 => noN_ok 5 (q1) (⟨rfl, fun q2 => Qj 5 (q2) (Qj 15 (rfl) (rfl)), fun q2 => noN_ok 5 (q2) (⟨rfl, fun q3 => Qj 5 (q3) (Qj 9 (rfl) (rfl)), fun q3 => noN_ok 5 (q3) (⟨rfl, fun q4 => Qj 7 (q4) (⟨rfl, rfl⟩), fun q4 => noN_ok 2 (q4) (⟨(Uc _), noN_ok 3 (q4) (⟨(Uc _), noN_ok 2 (q4) (⟨rfl, fun q5 => rfl, fun q5 => ⟨fun o1 ho1 => ⟨N0 _ (.inl _) ho1, rfl⟩, fun o2 ho2 => ⟨N0 _ (.inr _) ho2, rfl⟩⟩⟩)⟩)⟩)⟩)⟩)⟩)⟩)⟩
theorem Qx9 {L0 : Nat → Sd} {M0 : Sd} (N0 : Cv1 L0 M0) (a0 : Qg) (a1 : Qg) : Cv (fun k => Qbk (L0 k) a0 a1) (Qbk M0 a0 a1) := by
  unfold Qbk
  exact .cond cst (.cond cst (.cond cst (.cond cst (.cond cst (.cond cst (.bind (N0 _) fun x => .sum (fun o1 => by exact .const _) (fun o2 => by exact .const _) x))))))
def ZU.s : Nat → Qg → Qg → Option Bool
  | 0, _, _ => none
  | k + 1, a0, a1 => Qbk (Wp.s k (UK.s k)) a0 a1
theorem ZU.ok : ∀ (k : Nat), Qt9 (ev k) (ZU.s k)
  | 0, _, _, _, h => (nomatch h)
  | k + 1, a0, a1, r, h => fn_ok rfl (QiA pp (ev k) (Wp.s k (UK.s k)) a0 a1) (Qx7 _ _ a0 a1) (Qx8 _ _ _ _ (QsK _ k _ (UK.ok k)) a0 a1) h
noncomputable def Wp : U5 → Option (Bool ⊕ Unit) := Wp.w UK
theorem Wp.eq (a : U5) : Wp a = (Es UK a).bind (Sum.elim Wp some) := UN _ _
noncomputable def ZU (a0 : Qg) (a1 : Qg) : Option Bool := Qbk Wp a0 a1
theorem ZU.cv (a0 : Qg) (a1 : Qg) : Cv (fun k => ZU.s k a0 a1) (ZU a0 a1) := .un rfl (Qx9 (Wp.cv (fun k => UK.s k) UK UK.cv) a0 a1)
theorem ZU.eq (a0 : Qg) (a1 : Qg) : ZU a0 a1 = Qbk Wp a0 a1 := rfl
def VS (r : Bool) : AV × Heap := (.sc (.bool r), [])
structure Jn where
  x0 : (List Ql)
  x1 : ByteArray
  x2 : Int
  x7 : Int
structure UF where
  x0 : (List Ql)
  x1 : ByteArray
  x2 : Int
def Zl (a : Jn) : St := { n := 82, nx := 0, env := [(0, .sl (Zu a.x0)), (1, xs a.x1), (2, xi a.x2), (7, xi a.x7)], heap := [] }
def Qem (a : Bool) : Ex × St := (.ret, { n := 82, nx := 0, env := [(6, xo a)], heap := [] })
def Qen (a : UF) : Ex × St := (.exit 0, { n := 82, nx := 0, env := [(0, .sl (Zu a.x0)), (1, xs a.x1), (2, xi a.x2)], heap := [] })
def GG (a : (Bool ⊕ UF)) : Ex × St := Sum.elim Qem Qen a
abbrev YJ := Jn → Option (Bool ⊕ UF)
abbrev Qne (P : Pg) (lp : Lo) (l : YJ) : Prop := ∀ (a : Jn) (r : (Bool ⊕ UF)), l a = some r → lp (loopAt P 12 6) (Zl a) = some (GG r)
def GH (a : Jn) : Option (Jn ⊕ (Bool ⊕ UF)) := (bif (decide (a.x7 < ((a.x1.size : Nat) : Int))) then (bif (decide (0 ≤ a.x7 ∧ a.x7 < ((a.x1.size : Nat) : Int))) then (bif (((a.x1.data.getD (Int.toNat a.x7) 0).toNat : Int) == 10) then (some (.inr (.inl true))) else (some (.inl (Jn.mk a.x0 a.x1 a.x2 (w64 (a.x7 + 1)))))) else none) else (some (.inr (.inr (UF.mk a.x0 a.x1 a.x2)))))
def Pa (P : Pg) (w : Cf) (a : Jn) : Tr (Jn ⊕ (Bool ⊕ UF)) XS := (.as (decide (a.x7 < (zz a.x1))) (.as (in1 a.x7 (zz a.x1)) (.as ((gb a.x1 a.x7) == 10) (rx GG (.inl true)) (lf Zl (Jn.mk a.x0 a.x1 a.x2 (w64 (a.x7 + 1))))) .fail) (rx GG (.inr (UF.mk a.x0 a.x1 a.x2))))
theorem QlN (w : Cf) (a : Jn) : (Pa pp w a).norm (roundT pp G.kd w 0 (G.an 12) (loopAt pp 12 6) (Zl a)) = Pa pp w a := by kernel_rfl
theorem QlO (P : Pg) (w : Cf) (lp : Lo) (a : Jn) : (Pa P w a).ok lp (Sum.elim (fun a => (.norm, Zl a)) GG) := ⟨rfl, fun q0 => ⟨rfl, fun q1 => ⟨rfl, fun q2 => rfl, fun q2 => rfl⟩, fun q1 => trivial⟩, fun q0 => rfl⟩
def JS.s (k : Nat) : Jn → Option (Bool ⊕ UF) := iter (GH ) k
theorem QkN (w : Cf) (k : Nat) (a : Jn) (r : (Bool ⊕ UF)) (h : JS.s k a = some r) : loopsF pp G.kd w 0 (G.an 12) k (loopAt pp 12 6) (Zl a) = some (GG r) :=
  Va (fun a => Pa pp w a) (fun _ => rfl) (fun a => QlN w a) (fun a => QlO _ w _ a) (fun r => by cases r <;> nofun) h
noncomputable def JS.w : Jn → Option (Bool ⊕ UF) := loopW (GH )
theorem JS.cv (a : Jn) : Cv (fun k => JS.s k a) (JS.w a) := Cv.iter (fun a => by exact .const _) a
def ZE (C0 : QaP) (C1 : QeO) (C2 : FP) (C3 : QcM) (C4 : Ut) (C5 : Qa7) (C6 : QcN) (L7 : YJ) (a0 : (List Ql)) (a1 : ByteArray) (a2 : Int) : Option Bool := ((C0).bind fun r1 => (bif (!r1) then (some false) else ((C1 a0).bind fun r2 => (bif (!r2) then (some true) else (bif ((((a0.length) : Nat) : Int) == 0) then (some true) else (bif (decide (((a1.size : Nat) : Int) > 100)) then (some true) else ((L7 (Jn.mk a0 a1 a2 (0 : Int))).bind fun x => Sum.elim (fun (o3 : Bool) => (some o3)) (fun (o4 : UF) => ((o4.x0[(Int.toNat 0)]?).bind fun e5 => ((C2 e5).bind fun r6 => ((C3 r6).bind fun r7 => ((C4 o4.x2 (3 : Int)).bind fun r8 => (bif (decide (0 ≤ r8 ∧ r8 < (([s_, h_20, h_09].length : Nat) : Int))) then (([s_, h_20, h_09][(Int.toNat r8)]?).bind fun e9 => (bif (decide (((r7.size + e9.size : Nat) : Int) ≤ IntKind.i64.max)) then (bif (decide ((((r7 ++ e9).size + h_23.size : Nat) : Int) ≤ IntKind.i64.max)) then (bif (decide (((((r7 ++ e9) ++ h_23).size + o4.x1.size : Nat) : Int) ≤ IntKind.i64.max)) then ((C5 (((r7 ++ e9) ++ h_23) ++ o4.x1)).bind fun r10 => (bif (decide (((h_23.size + o4.x1.size : Nat) : Int) ≤ IntKind.i64.max)) then ((C5 (h_23 ++ o4.x1)).bind fun r11 => (bif r10.2 then ((C6 r6 r10.1).bind fun r12 => (bif r12 then (bif r11.2 then (bif (r11.1.Line == 0) then (some (r11.1.Kind == 0)) else (some false)) else (some false)) else (some false))) else (some false))) else none)) else none) else none) else none)) else none)))))) x)))))))
def Qaj (P : Pg) (w : Cf) (C0 : QaP) (C1 : QeO) (C2 : FP) (C3 : QcM) (C4 : Ut) (C5 : Qa7) (C6 : QcN) (L7 : YJ) (a0 : (List Ql)) (a1 : ByteArray) (a2 : Int) : Tr Bool AH := (.call (QpA w) (C0) Qke fun r1 => (.as (!r1) (rt VS false) (.call (QtR w a0) (C1 a0) QhB fun r2 => (.as (!r2) (yesN 3 (!r2) (yesN 5 true (rt VS true))) (.no (!r2) (.num ((Zu a0).length) (a0.length) (noN 2 (!r2) (let u139 := ((((a0.length) : Nat) : Int) == 0); .as u139 (yesN 3 u139 (.yes true (rt VS true))) (noN 3 u139 (.as (decide ((zz a1) > 100)) (rt VS true) (.loop2 (loopAt P 12 6) (Zl (Jn.mk a0 a1 a2 i0)) (L7 (Jn.mk a0 a1 a2 i0)) Qem Qen (fun (o3 : Bool) => (rt VS o3)) (fun (o4 : UF) => (.yes (decide (0 ≤ i0)) (.row ((Zu o4.x0)[(Int.toNat 0)]?) (o4.x0[(Int.toNat 0)]?) Zt fun (e5 : Ql) => (.call (Qlf w e5) (C2 e5) UL fun r6 => (.call (QrJ w r6) (C3 r6) Xz fun r7 => (.rows [[xs s_], [xs h_20], [xs h_09]] (Qh [s_, h_20, h_09]) (.call (Ju w o4.x2 (zi 3)) (C4 o4.x2 (zi 3)) Jh fun r8 => (.ask (in1 r8 (((Qh [s_, h_20, h_09]).length : Nat) : Int)) (in1 r8 (([s_, h_20, h_09].length : Nat) : Int)) (.row ((Qh [s_, h_20, h_09])[(Int.toNat r8)]?) ([s_, h_20, h_09][(Int.toNat r8)]?) JL fun (e9 : ByteArray) => (.as (decide (((r7.size + e9.size : Nat) : Int) ≤ IntKind.i64.max)) (.as (decide ((((r7 ++ e9).size + h_23.size : Nat) : Int) ≤ IntKind.i64.max)) (.as (decide (((((r7 ++ e9) ++ h_23).size + o4.x1.size : Nat) : Int) ≤ IntKind.i64.max)) (.call (Qkw w (((r7 ++ e9) ++ h_23) ++ o4.x1)) (C5 (((r7 ++ e9) ++ h_23) ++ o4.x1)) Xg fun r10 => (.as (decide (((h_23.size + o4.x1.size : Nat) : Int) ≤ IntKind.i64.max)) (.call (Qkw w (h_23 ++ o4.x1)) (C5 (h_23 ++ o4.x1)) Xg fun r11 => (.as r10.2 (yesN 2 r10.2 (.call (QrL w r6 r10.1) (C6 r6 r10.1) Er fun r12 => (.yes r10.2 (.as r12 (.yes r12 (.as r11.2 (yesN 3 r11.2 (let u138 := (r11.1.Line == 0); .as u138 (yesN 3 u138 (rt VS (r11.1.Kind == 0))) (noN 3 u138 (rt VS false)))) (noN 3 r11.2 (noN 4 false (rt VS false))))) (.no r12 (noN 8 false (rt VS false))))))) (noN 3 r10.2 (noN 10 false (rt VS false))))) .fail)) .fail) .fail) .fail)) .fail)))))))))))))))))))
theorem QoZ (w : Cf) (C0 : QaP) (C1 : QeO) (C2 : FP) (C3 : QcM) (C4 : Ut) (C5 : Qa7) (C6 : QcN) (L7 : YJ) (a0 : (List Ql)) (a1 : ByteArray) (a2 : Int) : (Qaj Tryz.prog w C0 C1 C2 C3 C4 C5 C6 L7 a0 a1 a2).norm (bodyT Tryz.prog w G 12 [.sl (Zu a0), .sc (.string a1), .sc (.int .i64 a2)] []) = Qaj Tryz.prog w C0 C1 C2 C3 C4 C5 C6 L7 a0 a1 a2 := by kernel_rfl
theorem Qo0 (P : Pg) (w : Cf) (lp : Lo) (C0 : QaP) (C1 : QeO) (C2 : FP) (C3 : QcM) (C4 : Ut) (C5 : Qa7) (C6 : QcN) (L7 : YJ) (K0 : QxG w C0) (K1 : QvS w C1) (K2 : Qm9 w C2) (K3 : Qt1 w C3) (K4 : Qbo w C4) (K5 : QrB w C5) (K6 : Qt9 w C6) (N7 : Qne P lp L7) (a0 : (List Ql)) (a1 : ByteArray) (a2 : Int) : (Qaj P w C0 C1 C2 C3 C4 C5 C6 L7 a0 a1 a2).ok lp VS := fun r1 hr1 => ⟨K0 _ hr1, ⟨rfl, fun q0 => rfl, fun q0 => fun r2 hr2 => ⟨K1 _ _ hr2, ⟨rfl, fun q1 => Qj 3 (q1) (Qj 5 (rfl) (rfl)), fun q1 => ⟨q1, ⟨(Ql8 _), noN_ok 2 (q1) (⟨rfl, fun q2 => Qj 3 (q2) (⟨rfl, rfl⟩), fun q2 => noN_ok 3 (q2) (⟨rfl, fun q3 => rfl, fun q3 => ⟨fun o3 ho3 => ⟨N7 _ (.inl _) ho3, rfl⟩, fun o4 ho4 => ⟨N7 _ (.inr _) ho4, ⟨rfl, fun e5 h => ⟨Qg8 h, fun r6 hr6 => ⟨K2 _ _ hr6, fun r7 hr7 => ⟨K3 _ _ hr7, ⟨(Jv [s_, h_20, h_09]), fun r8 hr8 => ⟨K4 _ _ _ hr8, ⟨(by rw [QJ]), fun q4 => fun e9 h => ⟨Jo h, ⟨rfl, fun q5 => ⟨rfl, fun q6 => ⟨rfl, fun q7 => fun r10 hr10 => ⟨K5 _ _ hr10, ⟨rfl, fun q8 => fun r11 hr11 => ⟨K5 _ _ hr11, ⟨rfl, fun q9 => Qj 2 (q9) (fun r12 hr12 => ⟨K6 _ _ _ hr12, ⟨q9, ⟨rfl, fun q10 => ⟨q10, ⟨rfl, fun q11 => Qj 3 (q11) (⟨rfl, fun q12 => Qj 3 (q12) (rfl), fun q12 => noN_ok 3 (q12) (rfl)⟩), fun q11 => noN_ok 3 (q11) (noN_ok 4 (rfl) (rfl))⟩⟩, fun q10 => ⟨q10, noN_ok 8 (rfl) (rfl)⟩⟩⟩⟩), fun q9 => noN_ok 3 (q9) (noN_ok 10 (rfl) (rfl))⟩⟩, fun q8 => trivial⟩⟩, fun q7 => trivial⟩, fun q6 => trivial⟩, fun q5 => trivial⟩⟩, fun q4 => trivial⟩⟩⟩⟩⟩⟩⟩⟩⟩⟩)⟩)⟩⟩⟩⟩⟩⟩
theorem Qo1 {C0 : Nat → QaP} {D0 : QaP} (H0 : Cv C0 D0) {C1 : Nat → QeO} {D1 : QeO} (H1 : Cv1 C1 D1) {C2 : Nat → FP} {D2 : FP} (H2 : Cv1 C2 D2) {C3 : Nat → QcM} {D3 : QcM} (H3 : Cv1 C3 D3) {C4 : Nat → Ut} {D4 : Ut} (H4 : Cv2 C4 D4) {C5 : Nat → Qa7} {D5 : Qa7} (H5 : Cv1 C5 D5) {C6 : Nat → QcN} {D6 : QcN} (H6 : Cv2 C6 D6) {L7 : Nat → YJ} {M7 : YJ} (N7 : Cv1 L7 M7) (a0 : (List Ql)) (a1 : ByteArray) (a2 : Int) : Cv (fun k => ZE (C0 k) (C1 k) (C2 k) (C3 k) (C4 k) (C5 k) (C6 k) (L7 k) a0 a1 a2) (ZE D0 D1 D2 D3 D4 D5 D6 M7 a0 a1 a2) := by
  unfold ZE
  exact .bind (H0) fun r1 => .cond cst (.bind (H1 _) fun r2 => .cond cst (.cond cst (.cond cst (.bind (N7 _) fun x => .sum (fun o3 => by exact .const _) (fun o4 => .bind (.const _) fun e5 => .bind (H2 _) fun r6 => .bind (H3 _) fun r7 => .bind (H4 _ _) fun r8 => .cond (.bind (.const _) fun e9 => .cond (.cond (.cond (.bind (H5 _) fun r10 => .cond (.bind (H5 _) fun r11 => .cond (.bind (H6 _ _) fun r12 => by exact .const _) cst) cst) cst) cst) cst) cst) x))))
def VT.s : Nat → (List Ql) → ByteArray → Int → Option Bool
  | 0, _, _, _ => none
  | k + 1, a0, a1, a2 => ZE (Ys.s k) (EZ.s k) (Wt.s k) (ZT.s k) (Jp.s k) (Zb.s k) (ZU.s k) (JS.s k) a0 a1 a2
theorem VT.ok : ∀ (k : Nat), ∀ (a0 : (List Ql)) (a1 : ByteArray) (a2 : Int) (r : Bool), VT.s k a0 a1 a2 = some r → evalFn Tryz.prog G k 12 [.sl (Zu a0), .sc (.string a1), .sc (.int .i64 a2)] [] = some (VS r)
  | 0, _, _, _, _, h => (nomatch h)
  | k + 1, a0, a1, a2, r, h => fn_ok rfl (Qaj Tryz.prog (ev k) (Ys.s k) (EZ.s k) (Wt.s k) (ZT.s k) (Jp.s k) (Zb.s k) (ZU.s k) (JS.s k) a0 a1 a2) (QoZ _ _ _ _ _ _ _ _ _ a0 a1 a2) (Qo0 _ _ _ _ _ _ _ _ _ _ _ (Ys.ok k) (EZ.ok k) (Wt.ok k) (ZT.ok k) (Jp.ok k) (Zb.ok k) (ZU.ok k) (QkN _ k) a0 a1 a2) h
noncomputable def JS : Jn → Option (Bool ⊕ UF) := JS.w
theorem JS.eq (a : Jn) : JS a = (GH a).bind (Sum.elim JS some) := UN _ _
noncomputable def VT (a0 : (List Ql)) (a1 : ByteArray) (a2 : Int) : Option Bool := ZE Ys EZ Wt ZT Jp Zb ZU JS a0 a1 a2
theorem VT.cv (a0 : (List Ql)) (a1 : ByteArray) (a2 : Int) : Cv (fun k => VT.s k a0 a1 a2) (VT a0 a1 a2) := .un rfl (Qo1 Ys.cv EZ.cv Wt.cv ZT.cv Jp.cv Zb.cv ZU.cv (JS.cv) a0 a1 a2)
theorem VT.eq (a0 : (List Ql)) (a1 : ByteArray) (a2 : Int) : VT a0 a1 a2 = ZE Ys EZ Wt ZT Jp Zb ZU JS a0 a1 a2 := rfl
theorem VT.run (a0 : (List Ql)) (a1 : ByteArray) (a2 : Int) {r : Bool} (h : VT a0 a1 a2 = some r) : ∃ k, evalFn Tryz.prog G k 12 [.sl (Zu a0), .sc (.string a1), .sc (.int .i64 a2)] [] = some (VS r) :=
  let ⟨k, hk⟩ := ((VT.cv a0 a1 a2).2 r).1 h
  ⟨k, VT.ok k a0 a1 a2 r hk⟩

end Go.Ab
namespace Go.Proofs.YtblfhkldljfhiaaGreatDoor
open Go Go.Ab Go.RowKit Go.Shelf
theorem gPow : Tryz.prog.globalNamed "internal/strconv.uint64pow10" = some 5 := by kernel_rfl
theorem tPow : (Tryz.prog.globals[5]?).map (·.type) = some 287 := by kernel_rfl
theorem Qya : Tryz.prog.cellsOf 255 = 1 := by kernel_rfl
theorem Qyb : Tryz.prog.cellsOf 287 = 20 := by kernel_rfl
theorem datumP {H : Type} : (Rows.laid_internal_strconv_uint64pow10 : DataW H) = Lib.tabData .u64 Lib.pow10Tab := by kernel_rfl
theorem gSp : Tryz.prog.globalNamed "strings.asciiSpace" = some 0 := by kernel_rfl
theorem tSp : (Tryz.prog.globals[0]?).map (·.type) = some 234 := by kernel_rfl
theorem Qy0 : Tryz.prog.cellsOf 5 = 1 := by kernel_rfl
theorem Qy1 : Tryz.prog.cellsOf 234 = 256 := by kernel_rfl
theorem datumS {H : Type} : (Rows.laid_strings_asciiSpace : DataW H) = Lib.tabData .u8 Lib.asciiSpaceTab := by kernel_rfl
def told : Ab.Told := ((told1 Tryz.prog "internal/strconv.uint64pow10" 5 (Lib.pow10Tab.map fun z => Value.int .u64 z).toArray).both (told1 Tryz.prog "strings.asciiSpace" 0 (Lib.asciiSpaceTab.map fun z => Value.int .u8 z).toArray)).both (cellT 1)
theorem QzR {W : World} (h : laidMetH Tryz.prog [("math/bits.deBruijn32tab", Rows.laid_math_bits_deBruijn32tab), ("math/bits.deBruijn64tab", Rows.laid_math_bits_deBruijn64tab), ("internal/strconv.uint64pow10", Rows.laid_internal_strconv_uint64pow10), ("unicode/utf8.acceptRanges", Rows.laid_unicode_utf8_acceptRanges), ("strconv.ErrRange", Rows.laid_strconv_ErrRange), ("strconv.ErrSyntax", Rows.laid_strconv_ErrSyntax), ("unicode.White_Space", Rows.laid_unicode_White_Space), ("strings.asciiSpace", Rows.laid_strings_asciiSpace), ("unicode/utf8.first", Rows.laid_unicode_utf8_first)] W ∧ W.ShapedOpen Tryz.prog) : told.T (oldCtx W).Z W := by
  obtain ⟨h, hs⟩ := h
  rw [MakeChecks.laidMetH_plain _ _ _ (by kernel_rfl)] at h
  obtain ⟨ps, ⟨g0, t0, cs0, f0, p0, q0, hg0, ht0, hv0, hd0, ⟨g1, t1, cs1, f1, p1, q1, hg1, ht1, hv1, hd1, ⟨g2, t2, cs2, f2, p2, q2, hg2, ht2, hv2, hd2, ⟨g3, t3, cs3, f3, p3, q3, hg3, ht3, hv3, hd3, ⟨g4, t4, cs4, f4, p4, q4, hg4, ht4, hv4, hd4, ⟨g5, t5, cs5, f5, p5, q5, hg5, ht5, hv5, hd5, ⟨g6, t6, cs6, f6, p6, q6, hg6, ht6, hv6, hd6, ⟨g7, t7, cs7, f7, p7, q7, hg7, ht7, hv7, hd7, ⟨g8, t8, cs8, f8, p8, q8, hg8, ht8, hv8, hd8, _⟩, _⟩, _⟩, _⟩, _⟩, _⟩, _⟩, _⟩, _⟩, _⟩ := h
  refine ⟨⟨?_, ?_⟩, ?_⟩
  · obtain rfl := Option.some.inj (gPow.symm.trans hg2)
    obtain rfl := Option.some.inj (tPow.symm.trans ht2)
    rw [datumP] at hd2
    refine Qs7 gPow (hv2.trans ?_) (by decide)
    have := Lib.cells_of_tab Tryz.underlying287 Tryz.underlying255 Qya Qyb hd2
    rw [← this]
  · obtain rfl := Option.some.inj (gSp.symm.trans hg7)
    obtain rfl := Option.some.inj (tSp.symm.trans ht7)
    rw [datumS] at hd7
    refine Qs7 gSp (hv7.trans ?_) (of_decide_eq_true (by kernel_rfl))
    have := Lib.cells_of_tab Tryz.underlying234 Tryz.underlying5 Qy0 Qy1 hd7
    rw [← this]
  · exact QxB (cell_of_shapedOpen_int (P := Tryz.prog) (t := 3) (zero := #[.int .i64 0]) hs (by decide +kernel) (by kernel_rfl) rfl (by kernel_rfl) (by kernel_rfl) Tryz.underlying3)
set_option maxHeartbeats 2000000 in
set_option maxRecDepth 100000 in
theorem QzS (n c : Nat) (w : World) : Calls Tryz.prog 81 #[.slice none n c] w fun e w' => e = .returned (.slice none 0 0) ∧ w' = w := by
  have mixed : Tryz.prog.follows .mixedOrders = true := by kernel_rfl
  have t0 := Tryz.underlying3; have a0 := Tryz.isAgg3; have z0 := Tryz.sizeOf3; have v0 := Tryz.zeroValue3; have t1 := Tryz.underlying22; have a1 := Tryz.isAgg22; have z1 := Tryz.sizeOf22; have v1 := Tryz.zeroValue22; have t2 := Tryz.underlying4; have a2 := Tryz.isAgg4; have z2 := Tryz.sizeOf4; have v2 := Tryz.zeroValue4
  have q22 : ∀ (w : World) (a : Option Addr) (n c n' c' : Nat), (binOp .eql 22 (.slice a n c) (.slice none n' c')).run Tryz.prog w = .ok (.bool a.isNone) w := fun w a n c n' c' => Lib.run_eql_slice_nil w _ _ a n c n' c' t1
  go_enter Tryz.func81, Tryz.ntmps81
  go_wp2
  go_ret
  exact ⟨rfl, rfl⟩
set_option maxHeartbeats 2000000 in
set_option maxRecDepth 100000 in
theorem Qy2 (a : Addr) (c : Nat) (w : World) : Calls Tryz.prog 81 #[.slice (some a) 0 c] w fun e w' => ∃ v', e = .returned v' ∧ w'.ownsRow w.heap.size 3 1 v' 0 [] ∧ Below w.heap.size w w' := by
  have mixed : Tryz.prog.follows .mixedOrders = true := by kernel_rfl
  have t0 := Tryz.underlying3; have a0 := Tryz.isAgg3; have z0 := Tryz.sizeOf3; have v0 := Tryz.zeroValue3; have t1 := Tryz.underlying22; have a1 := Tryz.isAgg22; have z1 := Tryz.sizeOf22; have v1 := Tryz.zeroValue22; have t2 := Tryz.underlying4; have a2 := Tryz.isAgg4; have z2 := Tryz.sizeOf4; have v2 := Tryz.zeroValue4
  have q22 : ∀ (w : World) (a : Option Addr) (n c n' c' : Nat), (binOp .eql 22 (.slice a n c) (.slice none n' c')).run Tryz.prog w = .ok (.bool a.isNone) w := fun w a n c n' c' => Lib.run_eql_slice_nil w _ _ a n c n' c' t1
  have hinfo : (Tryz.prog.info? 3).map (fun i => (i.zero, i.size, i.bytes)) = some (some (.int .i64 0), 1, 8) := by kernel_rfl
  obtain ⟨i0, hi, hz0, hz1, hz2⟩ := info_parts hinfo
  have u22 : ∀ w, Sem.run Tryz.prog (underlying 22) w = .ok (TypeDesc.slice 3) w := run_underlying t1
  go_enter Tryz.func81, Tryz.ntmps81
  go_wp2_with (at_builtin; refine wpList_append_own _ rfl _ _ 22 rfl w.heap.size 3 i0 (.int .i64 0) 1 8 t1 hi hz0 hz1 hz2 rfl (by decide) _ _ _ rfl (World.ownsRow_made w #[] 0 (Nat.le_refl _) (Nat.zero_le _) rfl) a 0 c [] rfl rfl (by intro j u hj; simp at hj) (by intro u hu; cases hu) (by unfold maxLen; omega) (by omega) (by simp) ?_)
  intro v' w1 hown hgrow hnil
  go_wp2
  go_ret
  refine ⟨v', rfl, by simpa using hown, ?_⟩
  exact ((Below.refl _ w).alloc (Nat.le_refl _) _).grown hgrow (by simp) (by intro k hk; simp [Value.ownBlock] at hk; omega)
set_option maxHeartbeats 2000000 in
set_option maxRecDepth 100000 in
theorem Qy3 (b off c : Nat) (zs : List Value) (w : World) (hbig : zs.length * 8 ≤ 140737488355328) (hsc : zs.all scal = true) (hc : ∀ (j : Nat) z, zs[j]? = some z → w.cell? ⟨b, off + j, none⟩ = some z) :
    Calls Tryz.prog 81 #[.slice (some ⟨b, off, none⟩) zs.length c] w fun e w' => ∃ v', e = .returned v' ∧ w'.ownsRow w.heap.size 3 1 v' zs.length zs ∧ Below w.heap.size w w' := by
  have mixed : Tryz.prog.follows .mixedOrders = true := by kernel_rfl
  have t0 := Tryz.underlying3; have a0 := Tryz.isAgg3; have z0 := Tryz.sizeOf3; have v0 := Tryz.zeroValue3; have t1 := Tryz.underlying22; have a1 := Tryz.isAgg22; have z1 := Tryz.sizeOf22; have v1 := Tryz.zeroValue22; have t2 := Tryz.underlying4; have a2 := Tryz.isAgg4; have z2 := Tryz.sizeOf4; have v2 := Tryz.zeroValue4
  have q22 : ∀ (w : World) (a : Option Addr) (n c n' c' : Nat), (binOp .eql 22 (.slice a n c) (.slice none n' c')).run Tryz.prog w = .ok (.bool a.isNone) w := fun w a n c n' c' => Lib.run_eql_slice_nil w _ _ a n c n' c' t1
  have hinfo : (Tryz.prog.info? 3).map (fun i => (i.zero, i.size, i.bytes)) = some (some (.int .i64 0), 1, 8) := by kernel_rfl
  obtain ⟨i0, hi, hz0, hz1, hz2⟩ := info_parts hinfo
  have u22 : ∀ w, Sem.run Tryz.prog (underlying 22) w = .ok (TypeDesc.slice 3) w := run_underlying t1
  have A : Aside (∀ (j : Nat) z, zs[j]? = some z → w.cell? ⟨b, off + j, none⟩ = some z) := hc
  clear hc
  go_enter Tryz.func81, Tryz.ntmps81
  go_wp2_with (at_builtin; refine wpList_append_own _ rfl _ _ 22 rfl w.heap.size 3 i0 (.int .i64 0) 1 8 t1 hi hz0 hz1 hz2 rfl (by decide) _ _ _ rfl (World.ownsRow_made w #[] 0 (Nat.le_refl _) (Nat.zero_le _) rfl) ⟨b, off, none⟩ zs.length c zs rfl ?qc1 ?qc2 ?qc3 ?qc4 ?qc5 ?qc6 ?_)
  case qc1 => simp
  case qc2 =>
    intro j u hj
    rw [Addr.add_lit]
    exact Lib.cell?_alloc_some _ (A.out j u hj)
  case qc3 => intro u hu; exact Fv (c := oldCtx w) (w := w) (.sc u (List.all_eq_true.1 hsc u hu)) rfl
  case qc4 => unfold maxLen; omega
  case qc5 => omega
  case qc6 => simp
  intro v' w1 hown hgrow hnil
  go_wp2
  go_ret
  refine ⟨v', rfl, by simpa using hown, ?_⟩
  exact ((Below.refl _ w).alloc (Nat.le_refl _) _).grown hgrow (by simp) (by intro k hk; simp [Value.ownBlock] at hk; omega)

set_option maxHeartbeats 2000000 in
set_option maxRecDepth 100000 in
theorem Qyc (n c : Nat) (w : World) : Calls Tryz.prog 77 #[.slice none n c] w fun e w' => e = .returned (.slice none 0 0) ∧ w' = w := by
  have mixed : Tryz.prog.follows .mixedOrders = true := by kernel_rfl
  have t0 := Tryz.underlying68; have a0 := Tryz.isAgg68; have z0 := Tryz.sizeOf68; have v0 := Tryz.zeroValue68; have t1 := Tryz.underlying35; have a1 := Tryz.isAgg35; have z1 := Tryz.sizeOf35; have v1 := Tryz.zeroValue35; have t2 := Tryz.underlying4; have a2 := Tryz.isAgg4; have z2 := Tryz.sizeOf4; have v2 := Tryz.zeroValue4
  have q22 : ∀ (w : World) (a : Option Addr) (n c n' c' : Nat), (binOp .eql 35 (.slice a n c) (.slice none n' c')).run Tryz.prog w = .ok (.bool a.isNone) w := fun w a n c n' c' => Lib.run_eql_slice_nil w _ _ a n c n' c' t1
  go_enter Tryz.func77, Tryz.ntmps77
  go_wp2
  go_ret
  exact ⟨rfl, rfl⟩
set_option maxHeartbeats 2000000 in
set_option maxRecDepth 100000 in
theorem Qw6 (a : Addr) (c : Nat) (w : World) : Calls Tryz.prog 77 #[.slice (some a) 0 c] w fun e w' => ∃ v', e = .returned v' ∧ w'.ownsRow w.heap.size 68 5 v' 0 [] ∧ Below w.heap.size w w' := by
  have mixed : Tryz.prog.follows .mixedOrders = true := by kernel_rfl
  have t0 := Tryz.underlying68; have a0 := Tryz.isAgg68; have z0 := Tryz.sizeOf68; have v0 := Tryz.zeroValue68; have t1 := Tryz.underlying35; have a1 := Tryz.isAgg35; have z1 := Tryz.sizeOf35; have v1 := Tryz.zeroValue35; have t2 := Tryz.underlying4; have a2 := Tryz.isAgg4; have z2 := Tryz.sizeOf4; have v2 := Tryz.zeroValue4
  have q22 : ∀ (w : World) (a : Option Addr) (n c n' c' : Nat), (binOp .eql 35 (.slice a n c) (.slice none n' c')).run Tryz.prog w = .ok (.bool a.isNone) w := fun w a n c n' c' => Lib.run_eql_slice_nil w _ _ a n c n' c' t1
  have hinfo : (Tryz.prog.info? 68).map (fun i => (i.zero, i.size, i.bytes)) = some (some (.agg #[.int .i64 0, .int .i64 0, .int .i64 0, .string ByteArray.empty, .slice none 0 0]), 5, 64) := by kernel_rfl
  obtain ⟨i0, hi, hz0, hz1, hz2⟩ := info_parts hinfo
  have u22 : ∀ w, Sem.run Tryz.prog (underlying 35) w = .ok (TypeDesc.slice 68) w := run_underlying t1
  go_enter Tryz.func77, Tryz.ntmps77
  go_wp2_with (at_builtin; refine wpList_append_own _ rfl _ _ 35 rfl w.heap.size 68 i0 (.agg #[.int .i64 0, .int .i64 0, .int .i64 0, .string ByteArray.empty, .slice none 0 0]) 5 64 t1 hi hz0 hz1 hz2 rfl (by decide) _ _ _ rfl (World.ownsRow_made w #[] 0 (Nat.le_refl _) (Nat.zero_le _) rfl) a 0 c [] rfl rfl (by intro j u hj; simp at hj) (by intro u hu; cases hu) (by unfold maxLen; omega) (by omega) (by simp) ?_)
  intro v' w1 hown hgrow hnil
  go_wp2
  go_ret
  refine ⟨v', rfl, by simpa using hown, ?_⟩
  exact ((Below.refl _ w).alloc (Nat.le_refl _) _).grown hgrow (by simp) (by intro k hk; simp [Value.ownBlock] at hk; omega)
set_option maxHeartbeats 2000000 in
set_option maxRecDepth 100000 in
theorem Qw7 (b off n c : Nat) (zs : List Value) (w : World) (hl : zs.length = n * 5) (hbig : n * 64 ≤ 140737488355328) (hml : n ≤ maxLen) (hsc : ∀ u ∈ zs, u.oneCell' = true) (hc : ∀ (j : Nat) z, zs[j]? = some z → w.cell? ⟨b, off + j, none⟩ = some z) :
    Calls Tryz.prog 77 #[.slice (some ⟨b, off, none⟩) n c] w fun e w' => ∃ v', e = .returned v' ∧ w'.ownsRow w.heap.size 68 5 v' n zs ∧ Below w.heap.size w w' := by
  have mixed : Tryz.prog.follows .mixedOrders = true := by kernel_rfl
  have t0 := Tryz.underlying68; have a0 := Tryz.isAgg68; have z0 := Tryz.sizeOf68; have v0 := Tryz.zeroValue68; have t1 := Tryz.underlying35; have a1 := Tryz.isAgg35; have z1 := Tryz.sizeOf35; have v1 := Tryz.zeroValue35; have t2 := Tryz.underlying4; have a2 := Tryz.isAgg4; have z2 := Tryz.sizeOf4; have v2 := Tryz.zeroValue4
  have q22 : ∀ (w : World) (a : Option Addr) (n c n' c' : Nat), (binOp .eql 35 (.slice a n c) (.slice none n' c')).run Tryz.prog w = .ok (.bool a.isNone) w := fun w a n c n' c' => Lib.run_eql_slice_nil w _ _ a n c n' c' t1
  have hinfo : (Tryz.prog.info? 68).map (fun i => (i.zero, i.size, i.bytes)) = some (some (.agg #[.int .i64 0, .int .i64 0, .int .i64 0, .string ByteArray.empty, .slice none 0 0]), 5, 64) := by kernel_rfl
  obtain ⟨i0, hi, hz0, hz1, hz2⟩ := info_parts hinfo
  have u22 : ∀ w, Sem.run Tryz.prog (underlying 35) w = .ok (TypeDesc.slice 68) w := run_underlying t1
  have A : Aside (∀ (j : Nat) z, zs[j]? = some z → w.cell? ⟨b, off + j, none⟩ = some z) := hc
  clear hc
  go_enter Tryz.func77, Tryz.ntmps77
  go_wp2_with (at_builtin; refine wpList_append_own _ rfl _ _ 35 rfl w.heap.size 68 i0 (.agg #[.int .i64 0, .int .i64 0, .int .i64 0, .string ByteArray.empty, .slice none 0 0]) 5 64 t1 hi hz0 hz1 hz2 rfl (by decide) _ _ _ rfl (World.ownsRow_made w #[] 0 (Nat.le_refl _) (Nat.zero_le _) rfl) ⟨b, off, none⟩ n c zs rfl ?qc1 ?qc2 ?qc3 ?qc4 ?qc5 ?qc6 ?_)
  case qc1 => exact hl
  case qc2 =>
    intro j u hj
    rw [Addr.add_lit]
    exact Lib.cell?_alloc_some _ (A.out j u hj)
  case qc3 => intro u hu; exact hsc u hu
  case qc4 => omega
  case qc5 => omega
  case qc6 => simp
  intro v' w1 hown hgrow hnil
  go_wp2
  go_ret
  refine ⟨v', rfl, by simpa using hown, ?_⟩
  exact ((Below.refl _ w).alloc (Nat.le_refl _) _).grown hgrow (by simp) (by intro k hk; simp [Value.ownBlock] at hk; omega)

set_option maxHeartbeats 2000000 in
set_option maxRecDepth 100000 in
theorem Qw8 (n c : Nat) (w : World) : Calls Tryz.prog 80 #[.slice none n c] w fun e w' => e = .returned (.slice none 0 0) ∧ w' = w := by
  have mixed : Tryz.prog.follows .mixedOrders = true := by kernel_rfl
  have t0 := Tryz.underlying37; have a0 := Tryz.isAgg37; have z0 := Tryz.sizeOf37; have v0 := Tryz.zeroValue37; have t1 := Tryz.underlying52; have a1 := Tryz.isAgg52; have z1 := Tryz.sizeOf52; have v1 := Tryz.zeroValue52; have t2 := Tryz.underlying4; have a2 := Tryz.isAgg4; have z2 := Tryz.sizeOf4; have v2 := Tryz.zeroValue4
  have q22 : ∀ (w : World) (a : Option Addr) (n c n' c' : Nat), (binOp .eql 52 (.slice a n c) (.slice none n' c')).run Tryz.prog w = .ok (.bool a.isNone) w := fun w a n c n' c' => Lib.run_eql_slice_nil w _ _ a n c n' c' t1
  go_enter Tryz.func80, Tryz.ntmps80
  go_wp2
  go_ret
  exact ⟨rfl, rfl⟩
set_option maxHeartbeats 2000000 in
set_option maxRecDepth 100000 in
theorem Qvz (a : Addr) (c : Nat) (w : World) : Calls Tryz.prog 80 #[.slice (some a) 0 c] w fun e w' => ∃ v', e = .returned v' ∧ w'.ownsRow w.heap.size 37 6 v' 0 [] ∧ Below w.heap.size w w' := by
  have mixed : Tryz.prog.follows .mixedOrders = true := by kernel_rfl
  have t0 := Tryz.underlying37; have a0 := Tryz.isAgg37; have z0 := Tryz.sizeOf37; have v0 := Tryz.zeroValue37; have t1 := Tryz.underlying52; have a1 := Tryz.isAgg52; have z1 := Tryz.sizeOf52; have v1 := Tryz.zeroValue52; have t2 := Tryz.underlying4; have a2 := Tryz.isAgg4; have z2 := Tryz.sizeOf4; have v2 := Tryz.zeroValue4
  have q22 : ∀ (w : World) (a : Option Addr) (n c n' c' : Nat), (binOp .eql 52 (.slice a n c) (.slice none n' c')).run Tryz.prog w = .ok (.bool a.isNone) w := fun w a n c n' c' => Lib.run_eql_slice_nil w _ _ a n c n' c' t1
  have hinfo : (Tryz.prog.info? 37).map (fun i => (i.zero, i.size, i.bytes)) = some (some (.agg #[.int .i64 0, .string ByteArray.empty, .int .i64 0, .int .i64 0, .string ByteArray.empty, .slice none 0 0]), 6, 80) := by kernel_rfl
  obtain ⟨i0, hi, hz0, hz1, hz2⟩ := info_parts hinfo
  have u22 : ∀ w, Sem.run Tryz.prog (underlying 52) w = .ok (TypeDesc.slice 37) w := run_underlying t1
  go_enter Tryz.func80, Tryz.ntmps80
  go_wp2_with (at_builtin; refine wpList_append_own _ rfl _ _ 52 rfl w.heap.size 37 i0 (.agg #[.int .i64 0, .string ByteArray.empty, .int .i64 0, .int .i64 0, .string ByteArray.empty, .slice none 0 0]) 6 80 t1 hi hz0 hz1 hz2 rfl (by decide) _ _ _ rfl (World.ownsRow_made w #[] 0 (Nat.le_refl _) (Nat.zero_le _) rfl) a 0 c [] rfl rfl (by intro j u hj; simp at hj) (by intro u hu; cases hu) (by unfold maxLen; omega) (by omega) (by simp) ?_)
  intro v' w1 hown hgrow hnil
  go_wp2
  go_ret
  refine ⟨v', rfl, by simpa using hown, ?_⟩
  exact ((Below.refl _ w).alloc (Nat.le_refl _) _).grown hgrow (by simp) (by intro k hk; simp [Value.ownBlock] at hk; omega)
set_option maxHeartbeats 2000000 in
set_option maxRecDepth 100000 in
theorem QvA (b off n c : Nat) (zs : List Value) (w : World) (hl : zs.length = n * 6) (hbig : n * 80 ≤ 140737488355328) (hml : n ≤ maxLen) (hsc : ∀ u ∈ zs, u.oneCell' = true) (hc : ∀ (j : Nat) z, zs[j]? = some z → w.cell? ⟨b, off + j, none⟩ = some z) :
    Calls Tryz.prog 80 #[.slice (some ⟨b, off, none⟩) n c] w fun e w' => ∃ v', e = .returned v' ∧ w'.ownsRow w.heap.size 37 6 v' n zs ∧ Below w.heap.size w w' := by
  have mixed : Tryz.prog.follows .mixedOrders = true := by kernel_rfl
  have t0 := Tryz.underlying37; have a0 := Tryz.isAgg37; have z0 := Tryz.sizeOf37; have v0 := Tryz.zeroValue37; have t1 := Tryz.underlying52; have a1 := Tryz.isAgg52; have z1 := Tryz.sizeOf52; have v1 := Tryz.zeroValue52; have t2 := Tryz.underlying4; have a2 := Tryz.isAgg4; have z2 := Tryz.sizeOf4; have v2 := Tryz.zeroValue4
  have q22 : ∀ (w : World) (a : Option Addr) (n c n' c' : Nat), (binOp .eql 52 (.slice a n c) (.slice none n' c')).run Tryz.prog w = .ok (.bool a.isNone) w := fun w a n c n' c' => Lib.run_eql_slice_nil w _ _ a n c n' c' t1
  have hinfo : (Tryz.prog.info? 37).map (fun i => (i.zero, i.size, i.bytes)) = some (some (.agg #[.int .i64 0, .string ByteArray.empty, .int .i64 0, .int .i64 0, .string ByteArray.empty, .slice none 0 0]), 6, 80) := by kernel_rfl
  obtain ⟨i0, hi, hz0, hz1, hz2⟩ := info_parts hinfo
  have u22 : ∀ w, Sem.run Tryz.prog (underlying 52) w = .ok (TypeDesc.slice 37) w := run_underlying t1
  have A : Aside (∀ (j : Nat) z, zs[j]? = some z → w.cell? ⟨b, off + j, none⟩ = some z) := hc
  clear hc
  go_enter Tryz.func80, Tryz.ntmps80
  go_wp2_with (at_builtin; refine wpList_append_own _ rfl _ _ 52 rfl w.heap.size 37 i0 (.agg #[.int .i64 0, .string ByteArray.empty, .int .i64 0, .int .i64 0, .string ByteArray.empty, .slice none 0 0]) 6 80 t1 hi hz0 hz1 hz2 rfl (by decide) _ _ _ rfl (World.ownsRow_made w #[] 0 (Nat.le_refl _) (Nat.zero_le _) rfl) ⟨b, off, none⟩ n c zs rfl ?qc1 ?qc2 ?qc3 ?qc4 ?qc5 ?qc6 ?_)
  case qc1 => exact hl
  case qc2 =>
    intro j u hj
    rw [Addr.add_lit]
    exact Lib.cell?_alloc_some _ (A.out j u hj)
  case qc3 => intro u hu; exact hsc u hu
  case qc4 => omega
  case qc5 => omega
  case qc6 => simp
  intro v' w1 hown hgrow hnil
  go_wp2
  go_ret
  refine ⟨v', rfl, by simpa using hown, ?_⟩
  exact ((Below.refl _ w).alloc (Nat.le_refl _) _).grown hgrow (by simp) (by intro k hk; simp [Value.ownBlock] at hk; omega)

theorem ok_cli : FnOK1 told Tryz.prog 81 (cloneV 8) := Qta (e_ := 3) QzS Qy2 Qy3
theorem Qud : FnOK1 told Tryz.prog 77 (cloneF 5 64) := Ql5 (e_ := 68) Qyc Qw6 Qw7
theorem QrM : FnOK1 told Tryz.prog 80 (cloneF 6 80) := Ql5 (e_ := 37) Qw8 Qvz QvA
theorem QvT : FnOK1 told Tryz.prog 93 itoaX := by
  refine Qww fun n Z w h0 h1 hT => ?_
  refine (Tryz.strconv_Itoa n h0 h1 w hT.1.1.2.2.1).mono ?_
  rintro e w' ⟨rfl, k, os, rfl⟩
  exact ⟨rfl, Lib.below_grow _ _ (Nat.le_refl _) _ _⟩
theorem QrN : FnOK1 told Tryz.prog 145 fieldsX := Qs8 fun s Z w h1 h2 hT => Tryz.strings_Fields_laid s w h1 h2 hT.1.2.2.2.1
theorem Qoq : FnOK1 told Tryz.prog 177 containsX := Qqu fun s t Z w h1 hT => by
  obtain ⟨_, m, hm⟩ := hT.2
  exact Tryz.strings_Contains s t m w h1 hm
theorem QvU : FnOK1 told Tryz.prog 69 joinX := Qwy (fun a c sep w => Tryz.strings_Join_none a c sep w) (fun bk o c xs sep w h1 h2 h3 h4 h5 => Tryz.strings_Join bk o c xs sep w h1 h2 h3 h4 h5)
theorem Qnf : FnOK1 told Tryz.prog 70 indexByteX := Qpq fun s c w => Tryz.strings_IndexByte s c w
theorem Que : FnOK1 told Tryz.prog 79 splitX := QuP fun s sep Z w h1 h2 hT => by
  obtain ⟨_, m, hm⟩ := hT.2
  exact Tryz.strings_Split s sep m w h1 hm h2
theorem QvV : FnOK1 told Tryz.prog 74 trimX := QwA fun s w hs => Any.strings_Trim_laid Tryz.lays160 (by kernel_rfl) s ⟨#[32, 9]⟩ w hs (by decide) (ascii_of_all (by decide))
theorem QvW : FnOK1 told Tryz.prog 241 atoiX := QwC fun s n w hs hn => by
  refine (Tryz.strconv_Atoi s n hs hn w).mono ?_
  rintro e w' ⟨rfl, t, rfl⟩
  exact ⟨rfl, Go.Joins.below_bytesWorld _ _ _ _ (Nat.le_refl _)⟩
theorem QzT (f : FuncId) (x : List AV → Heap → Option (AV × Heap)) (h : G0.ext f = some x) : FnOK1 told Tryz.prog f x := by
  have h' : Go.Ab.get f extT0 = some x := h
  simp only [extT0, Go.Ab.get] at h'
  repeat' split at h'
  all_goals first
    | cases h'; done
    | (rename_i e; subst e; cases h'; first | exact ok_cli | exact Qud | exact QrM | exact QvT | exact QrN | exact Qoq | exact QvU | exact Qnf | exact Que | exact QvV | exact QvW)
theorem Qy4 : FnOK1 told Tryz.prog 23 knownX := QuQ (Qqq (T := told) (by kernel_rfl) QzT 2000) QwF
theorem ext_ok (f : FuncId) (x : List AV → Heap → Option (AV × Heap)) (h : G.ext f = some x) : FnOK1 told Tryz.prog f x := by
  have h' : Go.Ab.get f extT = some x := h
  simp only [extT, Go.Ab.get] at h'
  repeat' split at h'
  all_goals first
    | cases h'; done
    | (rename_i e; subst e; cases h'; first | exact Qy4 | exact ok_cli | exact Qud | exact QrM | exact QvT | exact QrN | exact Qoq | exact QvU | exact Qnf | exact Que | exact QvV | exact QvW)
end Go.Proofs.YtblfhkldljfhiaaGreatDoor
namespace Go.Ab
def ba (l : List UInt8) : ByteArray := ⟨l.toArray⟩
theorem bl_ba (l : List UInt8) : bl (ba l) = l := by simp [bl, ba]
theorem ba_bl (s : ByteArray) : ba (bl s) = s := by cases s; simp [bl, ba]
theorem QM (l : List UInt8) : (ba l).size = l.length := by rw [QcS, bl_ba]
theorem ba_inj {a b : List UInt8} (h : ba a = ba b) : a = b := by rw [← bl_ba a, ← bl_ba b, h]
theorem Vw (l : List UInt8) (i j : Nat) : (ba l).extract i j = ba ((l.take j).drop i) := by rw [← ba_bl ((ba l).extract i j), Qwv, bl_ba]
theorem V4 (a b : List UInt8) : ba a ++ ba b = ba (a ++ b) := by rw [← ba_bl (ba a ++ ba b), Qxw, bl_ba, bl_ba]
theorem Pj (l : List UInt8) (i : Nat) (d : UInt8) : (ba l).data.getD i d = l.getD i d := by rw [QzL, bl_ba]
theorem eqS_ba (a b : List UInt8) : eqS (ba a) (ba b) = decide (a = b) := by rw [Qwu, bl_ba, bl_ba]
def isD (b : UInt8) : Bool := decide (48 ≤ b.toNat ∧ b.toNat ≤ 57)
def isS (b : UInt8) : Bool := decide (97 ≤ b.toNat ∧ b.toNat ≤ 122 ∨ b.toNat = 95)
def isI (b : UInt8) : Bool := isS b || isD b
def isH (b : UInt8) : Bool := isD b || decide (97 ≤ b.toNat ∧ b.toNat ≤ 102)
theorem VL {p : UInt8 → Bool} : ∀ (s : List UInt8) (i : Nat) (hi : i ≤ s.length), (s.take i).all p = true → (∀ h : i < s.length, p s[i] = false) → s.takeWhile p = s.take i
  | s, 0, _, _, h => by
    cases s with
    | nil => rfl
    | cons b s => have := h (by simp); simp at this; simp [this]
  | [], i + 1, hi, _, _ => by simp at hi
  | b :: s, i + 1, hi, ha, h => by
    simp only [List.take_succ_cons, List.all_cons, Bool.and_eq_true] at ha
    simp only [List.take_succ_cons, List.takeWhile_cons, ha.1, if_true]
    rw [VL s i (by simpa using hi) ha.2 (fun hl => h (by simp only [List.length_cons]; omega))]
theorem EU {p : UInt8 → Bool} {s : List UInt8} {i : Nat} (h : i < s.length) (ha : (s.take i).all p = true) (hp : p s[i] = true) : (s.take (i + 1)).all p = true := by
  rw [List.take_succ_eq_append_getElem h, List.all_append, ha]; simp [hp]
theorem i32_in {n : Int} (h1 : 0 ≤ n) (h2 : n ≤ 2147483647) : IntKind.i32.wrap n = n := by
  have e : n % 4294967296 = n := Int.emod_eq_of_lt h1 (by omega)
  unfold IntKind.wrap
  simp [IntKind.bits, IntKind.signed, e]
  omega
def wordB (w : List UInt8) : Bool := match w with
  | [] => false
  | c :: t => decide (t.length < 12) && (!isD c && (decide ((c :: t).takeWhile isI = c :: t) && (decide (c ≠ 114) || (decide (t = []) || !decide (t.takeWhile isD = t)))))
theorem Qf1 {p : UInt8 → Bool} {a r : List UInt8} (ha : a.all p = true) (hr : ∀ c t, r = c :: t → p c = false) : (a ++ r).takeWhile p = a ∧ (a ++ r).dropWhile p = r := by
  induction a with
  | nil =>
    cases r with
    | nil => exact ⟨rfl, rfl⟩
    | cons c t => have := hr c t rfl; simp [List.takeWhile_cons, List.dropWhile_cons, this]
  | cons c a ih =>
    simp only [List.all_cons, Bool.and_eq_true] at ha
    obtain ⟨h1, h2⟩ := ih ha.2
    simp [List.takeWhile_cons, List.dropWhile_cons, ha.1, h1, h2]
theorem Qnz (c : UInt8) : isI c = (isS c || isD c) := rfl
theorem QvX {c : UInt8} : isS c = (isI c && !isD c) := by
  rw [Qnz]
  cases hd : isD c with
  | false => simp
  | true =>
    have : isS c = false := by
      unfold isD at hd; unfold isS
      have := of_decide_eq_true hd
      exact decide_eq_false (by omega)
    rw [this]; rfl
theorem QkO {p : UInt8 → Bool} {l : List UInt8} : decide (l.takeWhile p = l) = l.all p := by
  rw [Bool.eq_iff_iff, decide_eq_true_iff]
  constructor
  · intro e; rw [← e]; exact List.all_takeWhile
  · intro h
    have := (Qf1 (r := []) h (fun c t e => by cases e)).1
    rwa [List.append_nil] at this
end Go.Ab
namespace Go.Ab
theorem Quf (a n : Int) (hn : 0 < n) (hn2 : n ≤ 4611686018427387904) : Vl a n = some (a % n) := by
  rw [Vl.eq]; exact Qgq a n hn hn2
end Go.Ab
namespace Go.Ab
abbrev S0 : ByteArray := s_
inductive X3 where
  | num (n : Int)
  | nm (s : ByteArray)
  | here
  | neg (x : X3)
  | bin (k : Nat) (x y : X3)
namespace X3
def t : X3 → Qa
  | num n => ⟨1, n, S0, []⟩
  | nm s => ⟨2, 0, s, []⟩
  | here => ⟨3, 0, S0, []⟩
  | neg x => ⟨4, 0, S0, [x.t]⟩
  | bin k x y => ⟨k, 0, S0, [x.t, y.t]⟩
def d : X3 → Nat
  | neg x => x.d + 1
  | bin _ x y => max x.d y.d + 1
  | _ => 0
def ok (p : ByteArray → Prop) : X3 → Prop
  | num n => 0 ≤ n ∧ n < 4294967296
  | nm s => p s
  | here => True
  | neg x => x.ok p
  | bin k x y => 5 ≤ k ∧ k ≤ 11 ∧ x.ok p ∧ y.ok p
end X3
theorem eqS_ne {x y : ByteArray} (h : x ≠ y) : eqS x y = false := by rw [Bool.eq_false_iff]; exact fun e => h (XA.1 e)
end Go.Ab
