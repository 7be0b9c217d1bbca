/- LineInsts: part 3 of the proof that, whatever the input, the law returns true and the input reads as it did; its conditions are those of the given row. -/
import Derived.Test.YtblfhkldljfhiaaGreatDoorZLineInsts2
import Derived.Shelf.Strings.SlTrimAscii
import Derived.Tactics
import Derived.WalkLawsBesides
import Derived.RowKit3
import Derived.Laws.BitsLemmas
import Derived.Test.YtblfhkldljfhiaaGreatDoorSh
import Derived.Test.YtblfhkldljfhiaaGreatDoorRows
import Derived.LaidMore
import Derived.MakeChecks
import Derived.Lib.AppendIntMem
import Derived.Shelf.Vars
import Derived.WalkKit
import Derived.Deep.LoopGhost
import Derived.Lib.Walk
import Derived.Lib.SliceRun
set_option linter.unusedVariables false
set_option linter.unusedSimpArgs false
namespace Go.Ab
open Go.Proofs
theorem QnQ (P : Pg) (w : Cf) (lp : Lo) (a : Qt) : (QaQ P w a).ok lp (Sum.elim (fun a => (.norm, UY a)) Vu) := ⟨rfl, fun q0 => ⟨rfl, fun q1 => ⟨rfl, fun q2 => ⟨q2, ⟨q1, Qr 2 (q2) (⟨rfl, fun q3 => rfl, fun q3 => ⟨rfl, fun q4 => ⟨rfl, fun q5 => ⟨q1, ⟨rfl, fun q6 => ⟨rfl, fun q7 => Qr 4 (q7) (⟨rfl, ⟨rfl, ⟨rfl, ⟨rfl, ⟨rfl, ⟨rfl, ⟨rfl, rfl⟩⟩⟩⟩⟩⟩⟩), fun q7 => ⟨rfl, noN_ok 4 (q7) (⟨rfl, fun q8 => ⟨rfl, ⟨rfl, ⟨rfl, ⟨rfl, ⟨rfl, ⟨rfl, rfl⟩⟩⟩⟩⟩⟩, fun q8 => rfl⟩)⟩⟩, fun q6 => rfl⟩⟩, fun q5 => ⟨rfl, fun q6 => ⟨q1, ⟨rfl, fun q7 => ⟨rfl, fun q8 => Qr 4 (q8) (⟨rfl, ⟨rfl, ⟨rfl, ⟨rfl, ⟨rfl, ⟨rfl, ⟨rfl, rfl⟩⟩⟩⟩⟩⟩⟩), fun q8 => ⟨rfl, noN_ok 4 (q8) (⟨rfl, fun q9 => ⟨rfl, ⟨rfl, ⟨rfl, ⟨rfl, ⟨rfl, ⟨rfl, rfl⟩⟩⟩⟩⟩⟩, fun q9 => rfl⟩)⟩⟩, fun q7 => rfl⟩⟩, fun q6 => ⟨rfl, fun q7 => ⟨q1, ⟨rfl, fun q8 => ⟨rfl, fun q9 => Qr 4 (q9) (⟨rfl, ⟨rfl, ⟨rfl, ⟨rfl, ⟨rfl, ⟨rfl, ⟨rfl, rfl⟩⟩⟩⟩⟩⟩⟩), fun q9 => ⟨rfl, noN_ok 4 (q9) (⟨rfl, fun q10 => ⟨rfl, ⟨rfl, ⟨rfl, ⟨rfl, ⟨rfl, ⟨rfl, rfl⟩⟩⟩⟩⟩⟩, fun q10 => rfl⟩)⟩⟩, fun q8 => rfl⟩⟩, fun q7 => trivial⟩⟩⟩, fun q4 => trivial⟩⟩)⟩⟩, fun q2 => noN_ok 3 (q2) (⟨rfl, ⟨rfl, fun q3 => ⟨rfl, fun q4 => ⟨q1, ⟨rfl, fun q5 => ⟨rfl, fun q6 => Qr 4 (q6) (⟨rfl, ⟨rfl, ⟨rfl, ⟨rfl, ⟨rfl, ⟨rfl, ⟨rfl, rfl⟩⟩⟩⟩⟩⟩⟩), fun q6 => ⟨rfl, noN_ok 4 (q6) (⟨rfl, fun q7 => ⟨rfl, ⟨rfl, ⟨rfl, ⟨rfl, ⟨rfl, ⟨rfl, rfl⟩⟩⟩⟩⟩⟩, fun q7 => rfl⟩)⟩⟩, fun q5 => rfl⟩⟩, fun q4 => ⟨rfl, fun q5 => ⟨q1, ⟨rfl, fun q6 => ⟨rfl, fun q7 => Qr 4 (q7) (⟨rfl, ⟨rfl, ⟨rfl, ⟨rfl, ⟨rfl, ⟨rfl, ⟨rfl, rfl⟩⟩⟩⟩⟩⟩⟩), fun q7 => ⟨rfl, noN_ok 4 (q7) (⟨rfl, fun q8 => ⟨rfl, ⟨rfl, ⟨rfl, ⟨rfl, ⟨rfl, ⟨rfl, rfl⟩⟩⟩⟩⟩⟩, fun q8 => rfl⟩)⟩⟩, fun q6 => rfl⟩⟩, fun q5 => ⟨rfl, fun q6 => ⟨q1, ⟨rfl, fun q7 => ⟨rfl, fun q8 => Qr 4 (q8) (⟨rfl, ⟨rfl, ⟨rfl, ⟨rfl, ⟨rfl, ⟨rfl, ⟨rfl, rfl⟩⟩⟩⟩⟩⟩⟩), fun q8 => ⟨rfl, noN_ok 4 (q8) (⟨rfl, fun q9 => ⟨rfl, ⟨rfl, ⟨rfl, ⟨rfl, ⟨rfl, ⟨rfl, rfl⟩⟩⟩⟩⟩⟩, fun q9 => rfl⟩)⟩⟩, fun q7 => rfl⟩⟩, fun q6 => trivial⟩⟩⟩, fun q3 => trivial⟩⟩)⟩, fun q1 => trivial⟩, fun q0 => rfl⟩
def UC.s (k : Nat) : Qt → Option (QE ⊕ Qy) := iter (Fe ) k
theorem QmI (w : Cf) (k : Nat) (a : Qt) (r : (QE ⊕ Qy)) (h : UC.s k a = some r) : loopsF pp G.kd w 0 (G.an 58) k (loopAt pp 58 5) (UY a) = some (Vu r) :=
  VZ (fun a => QaQ pp w a) (fun _ => rfl) (fun a => QnP w a) (fun a => QnQ _ w _ a) (fun r => by cases r <;> nofun) h
noncomputable def UC.w : Qt → Option (QE ⊕ Qy) := loopW (Fe )
theorem UC.cv (a : Qt) : Cv (fun k => UC.s k a) (UC.w a) := Cv.iter (fun a => by exact .const _) a
def Pi (L0 : EN) (a0 : Int) (a1 : ByteArray) : Option (Qy × Int × Bool) := ((L0 (Qt.mk a0 a1 (0 : Int) (0 : Int) (0 : Int) (0 : Int) (Qy.mk s_ s_ s_) s_ s_ s_)).bind fun x => Sum.elim (fun (o1 : QE) => (some (o1.h0, o1.x5, o1.x6))) (fun (o2 : Qy) => (some ((Qy.mk s_ s_ s_), (0 : Int), false))) x)
def Qee (P : Pg) (w : Cf) (L0 : EN) (a0 : Int) (a1 : ByteArray) : Tr (Qy × Int × Bool) AH := (.loop2 (loopAt P 58 5) (UY (Qt.mk a0 a1 i0 i0 i0 i0 (Qy.mk s_ s_ s_) s_ s_ s_)) (L0 (Qt.mk a0 a1 i0 i0 i0 i0 (Qy.mk s_ s_ s_) s_ s_ s_)) QgH QgI (fun (o1 : QE) => (rt SI (o1.h0, o1.x5, o1.x6))) (fun (o2 : Qy) => (rt SI ((Qy.mk s_ s_ s_), i0, false))))
theorem Qrd (w : Cf) (L0 : EN) (a0 : Int) (a1 : ByteArray) : (Qee pp w L0 a0 a1).norm (bodyT pp w G 58 (Qed a0 a1).1 (Qed a0 a1).2) = Qee pp w L0 a0 a1 := by kernel_rfl
theorem Qre (P : Pg) (w : Cf) (lp : Lo) (L0 : EN) (N0 : Qo5 P lp L0) (a0 : Int) (a1 : ByteArray) : (Qee P w L0 a0 a1).ok lp SI := ⟨fun o1 ho1 => ⟨N0 _ (.inl _) ho1, rfl⟩, fun o2 ho2 => ⟨N0 _ (.inr _) ho2, rfl⟩⟩
theorem Qrf {L0 : Nat → EN} {M0 : EN} (N0 : Cv1 L0 M0) (a0 : Int) (a1 : ByteArray) : Cv (fun k => Pi (L0 k) a0 a1) (Pi M0 a0 a1) := by
  unfold Pi
  exact .bind (N0 _) fun x => .sum (fun o1 => by exact .const _) (fun o2 => by exact .const _) x
def We.s : Nat → Int → ByteArray → Option (Qy × Int × Bool)
  | 0, _, _ => none
  | k + 1, a0, a1 => Pi (UC.s k) a0 a1
theorem We.ok : ∀ (k : Nat), QjH (ev k) (We.s k)
  | 0, _, _, _, h => (nomatch h)
  | k + 1, a0, a1, r, h => fn_ok rfl (Qee pp (ev k) (UC.s k) a0 a1) (Qrd _ _ a0 a1) (Qre _ _ _ _ (QmI _ k) a0 a1) h
noncomputable def UC : Qt → Option (QE ⊕ Qy) := UC.w
theorem UC.eq (a : Qt) : UC a = (Fe a).bind (Sum.elim UC some) := UO _ _
noncomputable def We (a0 : Int) (a1 : ByteArray) : Option (Qy × Int × Bool) := Pi UC a0 a1
theorem We.cv (a0 : Int) (a1 : ByteArray) : Cv (fun k => We.s k a0 a1) (We a0 a1) := .un rfl (Qrf (UC.cv) a0 a1)
theorem We.eq (a0 : Int) (a1 : ByteArray) : We a0 a1 = Pi UC a0 a1 := rfl
def QaR (r : ByteArray) : AV × Heap := (xs r, [])
abbrev Yr := Int → Option ByteArray
abbrev Qc5 (a0 : Int) : List AV × Heap := ([xi a0], [])
abbrev Qgj (w : Cf) (a0 : Int) : Option AH := w 37 (Qc5 a0).1 (Qc5 a0).2
abbrev Qia (w : Cf) (c : Yr) : Prop := ∀ (a0 : Int) (r : ByteArray), c a0 = some r → Qgj w a0 = some (QaR r)
def Fv (C0 : YH) (a0 : Int) : Option ByteArray := ((C0 a0 h_20).bind fun r1 => (some r1.1.Kinds))
def Qc6 (P : Pg) (w : Cf) (C0 : YH) (a0 : Int) : Tr ByteArray AH := (.call (Qh9 w a0 h_20) (C0 a0 h_20) SI fun r1 => (rt QaR r1.1.Kinds))
theorem Qqt (w : Cf) (C0 : YH) (a0 : Int) : (Qc6 pp w C0 a0).norm (bodyT pp w G 37 (Qc5 a0).1 (Qc5 a0).2) = Qc6 pp w C0 a0 := by kernel_rfl
theorem Qqu (P : Pg) (w : Cf) (lp : Lo) (C0 : YH) (K0 : QjH w C0) (a0 : Int) : (Qc6 P w C0 a0).ok lp QaR := fun r1 hr1 => ⟨K0 _ _ _ hr1, rfl⟩
theorem Qqv {C0 : Nat → YH} {D0 : YH} (H0 : Cv2 C0 D0) (a0 : Int) : Cv (fun k => Fv (C0 k) a0) (Fv D0 a0) := by
  unfold Fv
  exact .bind (H0 _ _) fun r1 => by exact .const _
def Vy.s : Nat → Int → Option ByteArray
  | 0, _ => none
  | k + 1, a0 => Fv (We.s k) a0
theorem Vy.ok : ∀ (k : Nat), Qia (ev k) (Vy.s k)
  | 0, _, _, h => (nomatch h)
  | k + 1, a0, r, h => fn_ok rfl (Qc6 pp (ev k) (We.s k) a0) (Qqt _ _ a0) (Qqu _ _ _ _ (We.ok k) a0) h
noncomputable def Vy (a0 : Int) : Option ByteArray := Fv We a0
theorem Vy.cv (a0 : Int) : Cv (fun k => Vy.s k a0) (Vy a0) := .un rfl (Qqv We.cv a0)
theorem Vy.eq (a0 : Int) : Vy a0 = Fv We a0 := rfl
def QaS (r : (List ByteArray)) : AV × Heap := (.sl (Ql r), [])
abbrev Ys := ByteArray → Option (List ByteArray)
abbrev Qc7 (a0 : ByteArray) : List AV × Heap := ([xs a0], [])
abbrev Qgk (w : Cf) (a0 : ByteArray) : Option AH := w 36 (Qc7 a0).1 (Qc7 a0).2
abbrev Qib (w : Cf) (c : Ys) : Prop := ∀ (a0 : ByteArray) (r : (List ByteArray)), c a0 = some r → Qgk w a0 = some (QaS r)
structure Jg where
  x0 : ByteArray
  x4 : Int
  x5 : Int
  r0 : (List ByteArray)
def XC (a : Jg) : St := { n := 35, nx := 1, env := [(0, xs a.x0), (3, .arr 0), (4, xi a.x4), (5, xi a.x5)], heap := [(0, .arr true 1 (Ql a.r0))] }
def FB (a : (List ByteArray)) : Ex × St := (.exit 0, { n := 35, nx := 1, env := [(3, .arr 0)], heap := [(0, .arr true 1 (Ql a))] })
abbrev GL := Jg → Option (List ByteArray)
abbrev QnR (P : Pg) (lp : Lo) (l : GL) : Prop := ∀ (a : Jg) (r : (List ByteArray)), l a = some r → lp (loopAt P 36 4) (XC a) = some (FB r)
def QgJ (a : Jg) : Option (Jg ⊕ (List ByteArray)) := (bif (decide (a.x5 ≤ ((a.x0.size : Nat) : Int))) then (bif (a.x5 == ((a.x0.size : Nat) : Int)) then (bif (decide (a.x5 > a.x4)) then (bif (decide (0 ≤ a.x4 ∧ a.x4 ≤ a.x5 ∧ a.x5 ≤ ((a.x0.size : Nat) : Int))) then (bif (decide ((a.r0.length + [(a.x0.extract (Int.toNat a.x4) (Int.toNat a.x5))].length) * 16 ≤ most)) then (some (.inl (Jg.mk a.x0 (w64 (a.x5 + 1)) (w64 (a.x5 + 1)) (a.r0 ++ [(a.x0.extract (Int.toNat a.x4) (Int.toNat a.x5))])))) else none) else none) else (some (.inl (Jg.mk a.x0 (w64 (a.x5 + 1)) (w64 (a.x5 + 1)) a.r0)))) else (bif (decide (0 ≤ a.x5 ∧ a.x5 < ((a.x0.size : Nat) : Int))) then (bif (((a.x0.data.getD (Int.toNat a.x5) 0).toNat : Int) == 32) then (bif (decide (a.x5 > a.x4)) then (bif (decide (0 ≤ a.x4 ∧ a.x4 ≤ a.x5 ∧ a.x5 ≤ ((a.x0.size : Nat) : Int))) then (bif (decide ((a.r0.length + [(a.x0.extract (Int.toNat a.x4) (Int.toNat a.x5))].length) * 16 ≤ most)) then (some (.inl (Jg.mk a.x0 (w64 (a.x5 + 1)) (w64 (a.x5 + 1)) (a.r0 ++ [(a.x0.extract (Int.toNat a.x4) (Int.toNat a.x5))])))) else none) else none) else (some (.inl (Jg.mk a.x0 (w64 (a.x5 + 1)) (w64 (a.x5 + 1)) a.r0)))) else (some (.inl (Jg.mk a.x0 a.x4 (w64 (a.x5 + 1)) a.r0)))) else none)) else (some (.inr a.r0)))
def So (P : Pg) (w : Cf) (a : Jg) : Tr (Jg ⊕ (List ByteArray)) XS := (.as (decide (a.x5 ≤ (zz a.x0))) (let u92 := (a.x5 == (zz a.x0)); .as u92 (yesN 4 u92 (.yes true (.as (decide (a.x5 > a.x4)) (.as (in2 a.x4 a.x5 (zz a.x0)) (.rows [[xs (cu a.x0 a.x4 a.x5)]] (Ql [(cu a.x0 a.x4 a.x5)]) (.yes (decide ((Ql [(cu a.x0 a.x4 a.x5)]).all (fun r => r.length == 1) = true)) (.ask (decide (((Ql a.r0).length + (Ql [(cu a.x0 a.x4 a.x5)]).length) * 16 ≤ most)) (decide ((a.r0.length + [(cu a.x0 a.x4 a.x5)].length) * 16 ≤ most)) (.rows ((Ql a.r0) ++ (Ql [(cu a.x0 a.x4 a.x5)])) (Ql (a.r0 ++ [(cu a.x0 a.x4 a.x5)])) (lf XC (Jg.mk a.x0 (w64 (a.x5 + 1)) (w64 (a.x5 + 1)) (a.r0 ++ [(cu a.x0 a.x4 a.x5)])))) .fail))) .fail) (lf XC (Jg.mk a.x0 (w64 (a.x5 + 1)) (w64 (a.x5 + 1)) a.r0))))) (noN 2 u92 (.as (in1 a.x5 (zz a.x0)) (noN 2 u92 (.as ((gb a.x0 a.x5) == 32) (.as (decide (a.x5 > a.x4)) (.as (in2 a.x4 a.x5 (zz a.x0)) (.rows [[xs (cu a.x0 a.x4 a.x5)]] (Ql [(cu a.x0 a.x4 a.x5)]) (.yes (decide ((Ql [(cu a.x0 a.x4 a.x5)]).all (fun r => r.length == 1) = true)) (.ask (decide (((Ql a.r0).length + (Ql [(cu a.x0 a.x4 a.x5)]).length) * 16 ≤ most)) (decide ((a.r0.length + [(cu a.x0 a.x4 a.x5)].length) * 16 ≤ most)) (.rows ((Ql a.r0) ++ (Ql [(cu a.x0 a.x4 a.x5)])) (Ql (a.r0 ++ [(cu a.x0 a.x4 a.x5)])) (lf XC (Jg.mk a.x0 (w64 (a.x5 + 1)) (w64 (a.x5 + 1)) (a.r0 ++ [(cu a.x0 a.x4 a.x5)])))) .fail))) .fail) (lf XC (Jg.mk a.x0 (w64 (a.x5 + 1)) (w64 (a.x5 + 1)) a.r0))) (lf XC (Jg.mk a.x0 a.x4 (w64 (a.x5 + 1)) a.r0)))) .fail))) (rx FB a.r0))
theorem QmJ (w : Cf) (a : Jg) : (So pp w a).norm (roundT pp G.kd w 0 (G.an 36) (loopAt pp 36 4) (XC a)) = So pp w a := by kernel_rfl
theorem QmK (P : Pg) (w : Cf) (lp : Lo) (a : Jg) : (So P w a).ok lp (Sum.elim (fun a => (.norm, XC a)) FB) := ⟨rfl, fun q0 => ⟨rfl, fun q1 => Qr 4 (q1) (⟨rfl, ⟨rfl, fun q2 => ⟨rfl, fun q3 => ⟨(Vp [(a.x0.extract (Int.toNat a.x4) (Int.toNat a.x5))]), ⟨(decide_eq_true (Qho _)), ⟨(by rw [Jy, Jy]), fun q4 => ⟨(Qd2 _ _), rfl⟩, fun q4 => trivial⟩⟩⟩, fun q3 => trivial⟩, fun q2 => rfl⟩⟩), fun q1 => noN_ok 2 (q1) (⟨rfl, fun q2 => noN_ok 2 (q1) (⟨rfl, fun q3 => ⟨rfl, fun q4 => ⟨rfl, fun q5 => ⟨(Vp [(a.x0.extract (Int.toNat a.x4) (Int.toNat a.x5))]), ⟨(decide_eq_true (Qho _)), ⟨(by rw [Jy, Jy]), fun q6 => ⟨(Qd2 _ _), rfl⟩, fun q6 => trivial⟩⟩⟩, fun q5 => trivial⟩, fun q4 => rfl⟩, fun q3 => rfl⟩), fun q2 => trivial⟩)⟩, fun q0 => rfl⟩
def X8.s (k : Nat) : Jg → Option (List ByteArray) := iter (QgJ ) k
theorem QlB (w : Cf) (k : Nat) (a : Jg) (r : (List ByteArray)) (h : X8.s k a = some r) : loopsF pp G.kd w 0 (G.an 36) k (loopAt pp 36 4) (XC a) = some (FB r) :=
  VZ (fun a => So pp w a) (fun _ => rfl) (fun a => QmJ w a) (fun a => QmK _ w _ a) (fun r => nofun) h
noncomputable def X8.w : Jg → Option (List ByteArray) := loopW (QgJ )
theorem X8.cv (a : Jg) : Cv (fun k => X8.s k a) (X8.w a) := Cv.iter (fun a => by exact .const _) a
def QaT (L0 : GL) (a0 : ByteArray) : Option (List ByteArray) := ((L0 (Jg.mk a0 (0 : Int) (0 : Int) ([] : List ByteArray))).bind (fun (o1 : (List ByteArray)) => (some o1)))
def Qc8 (P : Pg) (w : Cf) (L0 : GL) (a0 : ByteArray) : Tr (List ByteArray) AH := (.loop (loopAt P 36 4) (XC (Jg.mk a0 i0 i0 ([] : List ByteArray))) (L0 (Jg.mk a0 i0 i0 ([] : List ByteArray))) FB (fun (o1 : (List ByteArray)) => (rt QaS o1)))
theorem Qqw (w : Cf) (L0 : GL) (a0 : ByteArray) : (Qc8 pp w L0 a0).norm (bodyT pp w G 36 (Qc7 a0).1 (Qc7 a0).2) = Qc8 pp w L0 a0 := by kernel_rfl
theorem Qqx (P : Pg) (w : Cf) (lp : Lo) (L0 : GL) (N0 : QnR P lp L0) (a0 : ByteArray) : (Qc8 P w L0 a0).ok lp QaS := fun o1 ho1 => ⟨N0 _ _ ho1, rfl⟩
theorem Qqy {L0 : Nat → GL} {M0 : GL} (N0 : Cv1 L0 M0) (a0 : ByteArray) : Cv (fun k => QaT (L0 k) a0) (QaT M0 a0) := by
  unfold QaT
  exact .bind (N0 _) (fun o1 => by exact .const _)
def Vj.s : Nat → ByteArray → Option (List ByteArray)
  | 0, _ => none
  | k + 1, a0 => QaT (X8.s k) a0
theorem Vj.ok : ∀ (k : Nat), Qib (ev k) (Vj.s k)
  | 0, _, _, h => (nomatch h)
  | k + 1, a0, r, h => fn_ok rfl (Qc8 pp (ev k) (X8.s k) a0) (Qqw _ _ a0) (Qqx _ _ _ _ (QlB _ k) a0) h
noncomputable def X8 : Jg → Option (List ByteArray) := X8.w
noncomputable def Vj (a0 : ByteArray) : Option (List ByteArray) := QaT X8 a0
theorem Vj.cv (a0 : ByteArray) : Cv (fun k => Vj.s k a0) (Vj a0) := .un rfl (Qqy (X8.cv) a0)
def YZ (r : Bool) : AV × Heap := (xo r, [])
abbrev J5 := ByteArray → Option Bool
abbrev Sq (a0 : ByteArray) : List AV × Heap := ([xs a0], [])
abbrev FC (w : Cf) (a0 : ByteArray) : Option AH := w 39 (Sq a0).1 (Sq a0).2
abbrev Pj (w : Cf) (c : J5) : Prop := ∀ (a0 : ByteArray) (r : Bool), c a0 = some r → FC w a0 = some (YZ r)
structure JH where
  x0 : ByteArray
  x3 : Int
def Zo (a : JH) : St := { n := 28, nx := 0, env := [(0, xs a.x0), (3, xi a.x3)], heap := [] }
def QcL (a : Bool) : Ex × St := (.ret, { n := 28, nx := 0, env := [(2, xo a)], heap := [] })
def QcM (a : Unit) : Ex × St := (.exit 0, { n := 28, nx := 0, env := [], heap := [] })
def Zp (a : (Bool ⊕ Unit)) : Ex × St := Sum.elim QcL QcM a
abbrev YI := JH → Option (Bool ⊕ Unit)
abbrev QkH (P : Pg) (lp : Lo) (l : YI) : Prop := ∀ (a : JH) (r : (Bool ⊕ Unit)), l a = some r → lp (loopAt P 39 2) (Zo a) = some (Zp r)
def QdK (a : JH) : Option (JH ⊕ (Bool ⊕ Unit)) := (bif (decide ((w64 ((w64 (a.x3 + ((a.x0.size : Nat) : Int))) + 2)) ≤ 11)) then (bif (decide (((a.x0.size : Nat) : Int) > 0)) then (bif (decide (0 ≤ a.x3 ∧ a.x3 ≤ (w64 ((w64 (a.x3 + ((a.x0.size : Nat) : Int))) + 2)) ∧ (w64 ((w64 (a.x3 + ((a.x0.size : Nat) : Int))) + 2)) ≤ ((UG.size : Nat) : Int))) then (bif (decide (((h_20.size + a.x0.size : Nat) : Int) ≤ IntKind.i64.max)) then (bif (decide ((((h_20 ++ a.x0).size + h_20.size : Nat) : Int) ≤ IntKind.i64.max)) then (bif (eqS (UG.extract (Int.toNat a.x3) (Int.toNat (w64 ((w64 (a.x3 + ((a.x0.size : Nat) : Int))) + 2)))) ((h_20 ++ a.x0) ++ h_20)) then (some (.inr (.inl true))) else (some (.inl (JH.mk a.x0 (w64 (a.x3 + 1)))))) else none) else none) else none) else (some (.inr (.inr ())))) else (some (.inr (.inr ()))))
def Fw (P : Pg) (w : Cf) (a : JH) : Tr (JH ⊕ (Bool ⊕ Unit)) XS := (let u93 := (decide ((w64 ((w64 (a.x3 + (zz a.x0))) + 2)) ≤ 11)); .as u93 (yesN 3 u93 (.as (decide ((zz a.x0) > 0)) (.as (in2 a.x3 (w64 ((w64 (a.x3 + (zz a.x0))) + 2)) (zz UG)) (.as (decide (((h_20.size + a.x0.size : Nat) : Int) ≤ IntKind.i64.max)) (.as (decide ((((h_20 ++ a.x0).size + h_20.size : Nat) : Int) ≤ IntKind.i64.max)) (.as (eqS (cu UG a.x3 (w64 ((w64 (a.x3 + (zz a.x0))) + 2))) ((h_20 ++ a.x0) ++ h_20)) (rx Zp (.inl true)) (lf Zo (JH.mk a.x0 (w64 (a.x3 + 1))))) .fail) .fail) .fail) (rx Zp (.inr ())))) (noN 3 u93 (.no false (rx Zp (.inr ())))))
theorem QjI (w : Cf) (a : JH) : (Fw pp w a).norm (roundT pp G.kd w 0 (G.an 39) (loopAt pp 39 2) (Zo a)) = Fw pp w a := by kernel_rfl
theorem QjJ (P : Pg) (w : Cf) (lp : Lo) (a : JH) : (Fw P w a).ok lp (Sum.elim (fun a => (.norm, Zo a)) Zp) := ⟨rfl, fun q0 => Qr 3 (q0) (⟨rfl, fun q1 => ⟨rfl, fun q2 => ⟨rfl, fun q3 => ⟨rfl, fun q4 => ⟨rfl, fun q5 => rfl, fun q5 => rfl⟩, fun q4 => trivial⟩, fun q3 => trivial⟩, fun q2 => trivial⟩, fun q1 => rfl⟩), fun q0 => noN_ok 3 (q0) (⟨rfl, rfl⟩)⟩
def Ww.s (k : Nat) : JH → Option (Bool ⊕ Unit) := iter (QdK ) k
theorem QiX (w : Cf) (k : Nat) (a : JH) (r : (Bool ⊕ Unit)) (h : Ww.s k a = some r) : loopsF pp G.kd w 0 (G.an 39) k (loopAt pp 39 2) (Zo a) = some (Zp r) :=
  VZ (fun a => Fw pp w a) (fun _ => rfl) (fun a => QjI w a) (fun a => QjJ _ w _ a) (fun r => by cases r <;> nofun) h
noncomputable def Ww.w : JH → Option (Bool ⊕ Unit) := loopW (QdK )
theorem Ww.cv (a : JH) : Cv (fun k => Ww.s k a) (Ww.w a) := Cv.iter (fun a => by exact .const _) a
def FD (L0 : YI) (a0 : ByteArray) : Option Bool := ((L0 (JH.mk a0 (0 : Int))).bind fun x => Sum.elim (fun (o1 : Bool) => (some o1)) (fun (o2 : Unit) => (some false)) x)
def Sr (P : Pg) (w : Cf) (L0 : YI) (a0 : ByteArray) : Tr Bool AH := (.loop2 (loopAt P 39 2) (Zo (JH.mk a0 i0)) (L0 (JH.mk a0 i0)) QcL QcM (fun (o1 : Bool) => (rt YZ o1)) (fun (o2 : Unit) => (rt YZ false)))
theorem QmL (w : Cf) (L0 : YI) (a0 : ByteArray) : (Sr pp w L0 a0).norm (bodyT pp w G 39 (Sq a0).1 (Sq a0).2) = Sr pp w L0 a0 := by kernel_rfl
theorem QmM (P : Pg) (w : Cf) (lp : Lo) (L0 : YI) (N0 : QkH P lp L0) (a0 : ByteArray) : (Sr P w L0 a0).ok lp YZ := ⟨fun o1 ho1 => ⟨N0 _ (.inl _) ho1, rfl⟩, fun o2 ho2 => ⟨N0 _ (.inr _) ho2, rfl⟩⟩
theorem QmN {L0 : Nat → YI} {M0 : YI} (N0 : Cv1 L0 M0) (a0 : ByteArray) : Cv (fun k => FD (L0 k) a0) (FD M0 a0) := by
  unfold FD
  exact .bind (N0 _) fun x => .sum (fun o1 => by exact .const _) (fun o2 => by exact .const _) x
def QT.s : Nat → ByteArray → Option Bool
  | 0, _ => none
  | k + 1, a0 => FD (Ww.s k) a0
theorem QT.ok : ∀ (k : Nat), Pj (ev k) (QT.s k)
  | 0, _, _, h => (nomatch h)
  | k + 1, a0, r, h => fn_ok rfl (Sr pp (ev k) (Ww.s k) a0) (QmL _ _ a0) (QmM _ _ _ _ (QiX _ k) a0) h
noncomputable def Ww : JH → Option (Bool ⊕ Unit) := Ww.w
noncomputable def QT (a0 : ByteArray) : Option Bool := FD Ww a0
theorem QT.cv (a0 : ByteArray) : Cv (fun k => QT.s k a0) (QT a0) := .un rfl (QmN (Ww.cv) a0)
def WV (r : Int) : AV × Heap := (xi r, [])
abbrev XP := Int → Int → Option Int
abbrev QbW (a0 : Int) (a1 : Int) : List AV × Heap := ([xi a0, xi a1], [])
abbrev Yz (w : Cf) (a0 : Int) (a1 : Int) : Option AH := w 84 (QbW a0 a1).1 (QbW a0 a1).2
abbrev Qgl (w : Cf) (c : XP) : Prop := ∀ (a0 : Int) (a1 : Int) (r : Int), c a0 a1 = some r → Yz w a0 a1 = some (WV r)
def QeV (a0 : Int) (a1 : Int) : Option Int := (bif (decide (a1 ≠ 0)) then (bif (decide ((Int.tmod a0 a1) < 0)) then (some (w64 ((Int.tmod a0 a1) + a1))) else (some (Int.tmod a0 a1))) else none)
def QbX (P : Pg) (w : Cf) (a0 : Int) (a1 : Int) : Tr Int AH := (.as (decide (a1 ≠ 0)) (.as (decide ((Int.tmod a0 a1) < 0)) (rt WV (w64 ((Int.tmod a0 a1) + a1))) (rt WV (Int.tmod a0 a1))) .fail)
theorem Qo6 (w : Cf) (a0 : Int) (a1 : Int) : (QbX pp w a0 a1).norm (bodyT pp w G 84 (QbW a0 a1).1 (QbW a0 a1).2) = QbX pp w a0 a1 := by kernel_rfl
theorem Qo7 (P : Pg) (w : Cf) (lp : Lo) (a0 : Int) (a1 : Int) : (QbX P w a0 a1).ok lp WV := ⟨rfl, fun q0 => ⟨rfl, fun q1 => rfl, fun q1 => rfl⟩, fun q0 => trivial⟩
def U0.s : Nat → Int → Int → Option Int
  | 0, _, _ => none
  | k + 1, a0, a1 => QeV a0 a1
theorem U0.ok : ∀ (k : Nat), Qgl (ev k) (U0.s k)
  | 0, _, _, _, h => (nomatch h)
  | k + 1, a0, a1, r, h => fn_ok rfl (QbX pp (ev k) a0 a1) (Qo6 _ a0 a1) (Qo7 _ _ _ a0 a1) h
noncomputable def U0 (a0 : Int) (a1 : Int) : Option Int := QeV a0 a1
theorem U0.cv (a0 : Int) (a1 : Int) : Cv (fun k => U0.s k a0 a1) (U0 a0 a1) := .un rfl (by exact .const _)
theorem U0.eq (a0 : Int) (a1 : Int) : U0 a0 a1 = QeV a0 a1 := rfl
def JQ (r : Int) : AV × Heap := (xi r, [])
abbrev XD := ByteArray → Int → Option Int
abbrev QaU (a0 : ByteArray) (a1 : Int) : List AV × Heap := ([xs a0, xi a1], [])
abbrev QdL (w : Cf) (a0 : ByteArray) (a1 : Int) : Option AH := w 85 (QaU a0 a1).1 (QaU a0 a1).2
abbrev QeW (w : Cf) (c : XD) : Prop := ∀ (a0 : ByteArray) (a1 : Int) (r : Int), c a0 a1 = some r → QdL w a0 a1 = some (JQ r)
def ZJ (C0 : XP) (a0 : ByteArray) (a1 : Int) : Option Int := ((C0 a1 (9 : Int)).bind fun r1 => (bif (eqS a0 s_X) then (bif (decide (0 ≤ r1 ∧ r1 < (([(0 : Int), (1 : Int), (7 : Int), (24 : Int), (31 : Int), (5 : Int), (28 : Int), (3 : Int), (30 : Int)].length : Nat) : Int))) then (([(0 : Int), (1 : Int), (7 : Int), (24 : Int), (31 : Int), (5 : Int), (28 : Int), (3 : Int), (30 : Int)][(Int.toNat r1)]?).bind fun e2 => (some e2)) else none) else (bif (eqS a0 s_Y) then (bif (decide (0 ≤ r1 ∧ r1 < (([(0 : Int), (1 : Int), (7 : Int), (24 : Int), (31 : Int), (5 : Int), (28 : Int), (3 : Int), (30 : Int)].length : Nat) : Int))) then (([(0 : Int), (1 : Int), (7 : Int), (24 : Int), (31 : Int), (5 : Int), (28 : Int), (3 : Int), (30 : Int)][(Int.toNat r1)]?).bind fun e3 => (some e3)) else none) else (bif (eqS a0 s_D) then (bif (decide (0 ≤ r1 ∧ r1 < (([(0 : Int), (31 : Int), (1 : Int), (15 : Int), (16 : Int), (7 : Int), (30 : Int), (12 : Int), (3 : Int)].length : Nat) : Int))) then (([(0 : Int), (31 : Int), (1 : Int), (15 : Int), (16 : Int), (7 : Int), (30 : Int), (12 : Int), (3 : Int)][(Int.toNat r1)]?).bind fun e4 => (some e4)) else none) else (bif (eqS a0 s_A) then (bif (decide (0 ≤ r1 ∧ r1 < (([(0 : Int), (31 : Int), (1 : Int), (15 : Int), (16 : Int), (7 : Int), (30 : Int), (12 : Int), (3 : Int)].length : Nat) : Int))) then (([(0 : Int), (31 : Int), (1 : Int), (15 : Int), (16 : Int), (7 : Int), (30 : Int), (12 : Int), (3 : Int)][(Int.toNat r1)]?).bind fun e5 => (some e5)) else none) else (bif (eqS a0 s_B) then (bif (decide (0 ≤ r1 ∧ r1 < (([(0 : Int), (31 : Int), (1 : Int), (15 : Int), (16 : Int), (7 : Int), (30 : Int), (12 : Int), (3 : Int)].length : Nat) : Int))) then (([(0 : Int), (31 : Int), (1 : Int), (15 : Int), (16 : Int), (7 : Int), (30 : Int), (12 : Int), (3 : Int)][(Int.toNat r1)]?).bind fun e6 => (some e6)) else none) else (bif (eqS a0 s_U5) then (bif (decide (0 ≤ r1 ∧ r1 < (([(0 : Int), (31 : Int), (1 : Int), (15 : Int), (16 : Int), (7 : Int), (30 : Int), (12 : Int), (3 : Int)].length : Nat) : Int))) then (([(0 : Int), (31 : Int), (1 : Int), (15 : Int), (16 : Int), (7 : Int), (30 : Int), (12 : Int), (3 : Int)][(Int.toNat r1)]?).bind fun e7 => (some e7)) else none) else (bif (eqS a0 s_U7) then (bif (decide (0 ≤ r1 ∧ r1 < (([(0 : Int), (127 : Int), (64 : Int), (1 : Int), (63 : Int), (100 : Int), (7 : Int), (15 : Int), (16 : Int)].length : Nat) : Int))) then (([(0 : Int), (127 : Int), (64 : Int), (1 : Int), (63 : Int), (100 : Int), (7 : Int), (15 : Int), (16 : Int)][(Int.toNat r1)]?).bind fun e8 => (some e8)) else none) else (bif (eqS a0 s_O5) then (bif (decide (0 ≤ r1 ∧ r1 < (([(1 : Int), (32 : Int), (2 : Int), (16 : Int), (31 : Int), (17 : Int), (8 : Int), (5 : Int), (30 : Int)].length : Nat) : Int))) then (([(1 : Int), (32 : Int), (2 : Int), (16 : Int), (31 : Int), (17 : Int), (8 : Int), (5 : Int), (30 : Int)][(Int.toNat r1)]?).bind fun e9 => (some e9)) else none) else (bif (eqS a0 s_M1) then (bif (decide (0 ≤ r1 ∧ r1 < (([(0 : Int), (15 : Int), (1 : Int), (7 : Int), (8 : Int), (4 : Int), (12 : Int), (3 : Int), (14 : Int)].length : Nat) : Int))) then (([(0 : Int), (15 : Int), (1 : Int), (7 : Int), (8 : Int), (4 : Int), (12 : Int), (3 : Int), (14 : Int)][(Int.toNat r1)]?).bind fun e10 => (some e10)) else none) else (bif (eqS a0 s_I4) then (bif (decide (0 ≤ r1 ∧ r1 < (([(0 : Int), (15 : Int), (1 : Int), (7 : Int), (8 : Int), (4 : Int), (12 : Int), (3 : Int), (14 : Int)].length : Nat) : Int))) then (([(0 : Int), (15 : Int), (1 : Int), (7 : Int), (8 : Int), (4 : Int), (12 : Int), (3 : Int), (14 : Int)][(Int.toNat r1)]?).bind fun e11 => (some e11)) else none) else (bif (eqS a0 s_M2) then (bif (decide (0 ≤ r1 ∧ r1 < (([(0 : Int), (15 : Int), (1 : Int), (7 : Int), (8 : Int), (4 : Int), (12 : Int), (3 : Int), (14 : Int)].length : Nat) : Int))) then (([(0 : Int), (15 : Int), (1 : Int), (7 : Int), (8 : Int), (4 : Int), (12 : Int), (3 : Int), (14 : Int)][(Int.toNat r1)]?).bind fun e12 => (some (w64 ((2 : Int) * e12)))) else none) else (bif (eqS a0 s_M4) then (bif (decide (0 ≤ r1 ∧ r1 < (([(0 : Int), (15 : Int), (1 : Int), (7 : Int), (8 : Int), (4 : Int), (12 : Int), (3 : Int), (14 : Int)].length : Nat) : Int))) then (([(0 : Int), (15 : Int), (1 : Int), (7 : Int), (8 : Int), (4 : Int), (12 : Int), (3 : Int), (14 : Int)][(Int.toNat r1)]?).bind fun e13 => (some (w64 ((4 : Int) * e13)))) else none) else (bif (eqS a0 s_O1) then ((C0 a1 (2 : Int)).bind fun r14 => (some r14)) else (bif (eqS a0 s_I2) then ((C0 a1 (4 : Int)).bind fun r15 => (some r15)) else (bif (eqS a0 s_O2) then ((C0 a1 (4 : Int)).bind fun r16 => (some r16)) else (bif (eqS a0 s_T8) then ((C0 a1 (256 : Int)).bind fun r17 => (some (w64 ((2 : Int) * (w64 (r17 - 128)))))) else (bif (eqS a0 Qsx) then (bif (decide (0 ≤ r1 ∧ r1 < (([(0 : Int), (32767 : Int), (-32768 : Int), (-1 : Int), (1 : Int), (255 : Int), (-256 : Int), (4660 : Int), (-4660 : Int)].length : Nat) : Int))) then (([(0 : Int), (32767 : Int), (-32768 : Int), (-1 : Int), (1 : Int), (255 : Int), (-256 : Int), (4660 : Int), (-4660 : Int)][(Int.toNat r1)]?).bind fun e18 => (some e18)) else none) else (bif (eqS a0 Qsw) then ((C0 a1 (1048576 : Int)).bind fun r19 => (some (w64 (r19 - 524288)))) else (bif (eqS a0 Qsy) then ((C0 a1 (32768 : Int)).bind fun r20 => (some (w64 ((2 : Int) * (w64 (r20 - 16384)))))) else (bif (eqS a0 Sj) then ((C0 a1 (16777216 : Int)).bind fun r21 => (some (w64 ((2 : Int) * (w64 (r21 - 8388608)))))) else (bif (decide (0 ≤ r1 ∧ r1 < (([(0 : Int), (255 : Int), (256 : Int), (65280 : Int), (-1 : Int), (-2 : Int), (16711680 : Int), (-256 : Int), (2130706432 : Int)].length : Nat) : Int))) then (([(0 : Int), (255 : Int), (256 : Int), (65280 : Int), (-1 : Int), (-2 : Int), (16711680 : Int), (-256 : Int), (2130706432 : Int)][(Int.toNat r1)]?).bind fun e22 => (some e22)) else none))))))))))))))))))))))
def QaV (P : Pg) (w : Cf) (C0 : XP) (a0 : ByteArray) (a1 : Int) : Tr Int AH := (.call (Yz w a1 (zi 9)) (C0 a1 (zi 9)) WV fun r1 => (let u99 := (eqS a0 s_X); .as u99 (.yes u99 (.rows [[xi i0], [xi (zi 1)], [xi (zi 7)], [xi (zi 24)], [xi (zi 31)], [xi (zi 5)], [xi (zi 28)], [xi (zi 3)], [xi (zi 30)]] (QH [i0, (zi 1), (zi 7), (zi 24), (zi 31), (zi 5), (zi 28), (zi 3), (zi 30)]) (.ask (in1 r1 (((QH [i0, (zi 1), (zi 7), (zi 24), (zi 31), (zi 5), (zi 28), (zi 3), (zi 30)]).length : Nat) : Int)) (in1 r1 (([i0, (zi 1), (zi 7), (zi 24), (zi 31), (zi 5), (zi 28), (zi 3), (zi 30)].length : Nat) : Int)) (.row ((QH [i0, (zi 1), (zi 7), (zi 24), (zi 31), (zi 5), (zi 28), (zi 3), (zi 30)])[(Int.toNat r1)]?) ([i0, (zi 1), (zi 7), (zi 24), (zi 31), (zi 5), (zi 28), (zi 3), (zi 30)][(Int.toNat r1)]?) XG fun (e2 : Int) => (rt JQ e2)) .fail))) (.as (eqS a0 s_Y) (.rows [[xi i0], [xi (zi 1)], [xi (zi 7)], [xi (zi 24)], [xi (zi 31)], [xi (zi 5)], [xi (zi 28)], [xi (zi 3)], [xi (zi 30)]] (QH [i0, (zi 1), (zi 7), (zi 24), (zi 31), (zi 5), (zi 28), (zi 3), (zi 30)]) (.ask (in1 r1 (((QH [i0, (zi 1), (zi 7), (zi 24), (zi 31), (zi 5), (zi 28), (zi 3), (zi 30)]).length : Nat) : Int)) (in1 r1 (([i0, (zi 1), (zi 7), (zi 24), (zi 31), (zi 5), (zi 28), (zi 3), (zi 30)].length : Nat) : Int)) (.row ((QH [i0, (zi 1), (zi 7), (zi 24), (zi 31), (zi 5), (zi 28), (zi 3), (zi 30)])[(Int.toNat r1)]?) ([i0, (zi 1), (zi 7), (zi 24), (zi 31), (zi 5), (zi 28), (zi 3), (zi 30)][(Int.toNat r1)]?) XG fun (e3 : Int) => (rt JQ e3)) .fail)) (let u98 := (eqS a0 s_D); .as u98 (.yes u98 (.rows [[xi i0], [xi (zi 31)], [xi (zi 1)], [xi (zi 15)], [xi (zi 16)], [xi (zi 7)], [xi (zi 30)], [xi (zi 12)], [xi (zi 3)]] (QH [i0, (zi 31), (zi 1), (zi 15), (zi 16), (zi 7), (zi 30), (zi 12), (zi 3)]) (.ask (in1 r1 (((QH [i0, (zi 31), (zi 1), (zi 15), (zi 16), (zi 7), (zi 30), (zi 12), (zi 3)]).length : Nat) : Int)) (in1 r1 (([i0, (zi 31), (zi 1), (zi 15), (zi 16), (zi 7), (zi 30), (zi 12), (zi 3)].length : Nat) : Int)) (.row ((QH [i0, (zi 31), (zi 1), (zi 15), (zi 16), (zi 7), (zi 30), (zi 12), (zi 3)])[(Int.toNat r1)]?) ([i0, (zi 31), (zi 1), (zi 15), (zi 16), (zi 7), (zi 30), (zi 12), (zi 3)][(Int.toNat r1)]?) XG fun (e4 : Int) => (rt JQ e4)) .fail))) (let u97 := (eqS a0 s_A); .as u97 (.yes u97 (.rows [[xi i0], [xi (zi 31)], [xi (zi 1)], [xi (zi 15)], [xi (zi 16)], [xi (zi 7)], [xi (zi 30)], [xi (zi 12)], [xi (zi 3)]] (QH [i0, (zi 31), (zi 1), (zi 15), (zi 16), (zi 7), (zi 30), (zi 12), (zi 3)]) (.ask (in1 r1 (((QH [i0, (zi 31), (zi 1), (zi 15), (zi 16), (zi 7), (zi 30), (zi 12), (zi 3)]).length : Nat) : Int)) (in1 r1 (([i0, (zi 31), (zi 1), (zi 15), (zi 16), (zi 7), (zi 30), (zi 12), (zi 3)].length : Nat) : Int)) (.row ((QH [i0, (zi 31), (zi 1), (zi 15), (zi 16), (zi 7), (zi 30), (zi 12), (zi 3)])[(Int.toNat r1)]?) ([i0, (zi 31), (zi 1), (zi 15), (zi 16), (zi 7), (zi 30), (zi 12), (zi 3)][(Int.toNat r1)]?) XG fun (e5 : Int) => (rt JQ e5)) .fail))) (let u96 := (eqS a0 s_B); .as u96 (.yes u96 (.rows [[xi i0], [xi (zi 31)], [xi (zi 1)], [xi (zi 15)], [xi (zi 16)], [xi (zi 7)], [xi (zi 30)], [xi (zi 12)], [xi (zi 3)]] (QH [i0, (zi 31), (zi 1), (zi 15), (zi 16), (zi 7), (zi 30), (zi 12), (zi 3)]) (.ask (in1 r1 (((QH [i0, (zi 31), (zi 1), (zi 15), (zi 16), (zi 7), (zi 30), (zi 12), (zi 3)]).length : Nat) : Int)) (in1 r1 (([i0, (zi 31), (zi 1), (zi 15), (zi 16), (zi 7), (zi 30), (zi 12), (zi 3)].length : Nat) : Int)) (.row ((QH [i0, (zi 31), (zi 1), (zi 15), (zi 16), (zi 7), (zi 30), (zi 12), (zi 3)])[(Int.toNat r1)]?) ([i0, (zi 31), (zi 1), (zi 15), (zi 16), (zi 7), (zi 30), (zi 12), (zi 3)][(Int.toNat r1)]?) XG fun (e6 : Int) => (rt JQ e6)) .fail))) (.as (eqS a0 s_U5) (.rows [[xi i0], [xi (zi 31)], [xi (zi 1)], [xi (zi 15)], [xi (zi 16)], [xi (zi 7)], [xi (zi 30)], [xi (zi 12)], [xi (zi 3)]] (QH [i0, (zi 31), (zi 1), (zi 15), (zi 16), (zi 7), (zi 30), (zi 12), (zi 3)]) (.ask (in1 r1 (((QH [i0, (zi 31), (zi 1), (zi 15), (zi 16), (zi 7), (zi 30), (zi 12), (zi 3)]).length : Nat) : Int)) (in1 r1 (([i0, (zi 31), (zi 1), (zi 15), (zi 16), (zi 7), (zi 30), (zi 12), (zi 3)].length : Nat) : Int)) (.row ((QH [i0, (zi 31), (zi 1), (zi 15), (zi 16), (zi 7), (zi 30), (zi 12), (zi 3)])[(Int.toNat r1)]?) ([i0, (zi 31), (zi 1), (zi 15), (zi 16), (zi 7), (zi 30), (zi 12), (zi 3)][(Int.toNat r1)]?) XG fun (e7 : Int) => (rt JQ e7)) .fail)) (.as (eqS a0 s_U7) (.rows [[xi i0], [xi (zi 127)], [xi (zi 64)], [xi (zi 1)], [xi (zi 63)], [xi (zi 100)], [xi (zi 7)], [xi (zi 15)], [xi (zi 16)]] (QH [i0, (zi 127), (zi 64), (zi 1), (zi 63), (zi 100), (zi 7), (zi 15), (zi 16)]) (.ask (in1 r1 (((QH [i0, (zi 127), (zi 64), (zi 1), (zi 63), (zi 100), (zi 7), (zi 15), (zi 16)]).length : Nat) : Int)) (in1 r1 (([i0, (zi 127), (zi 64), (zi 1), (zi 63), (zi 100), (zi 7), (zi 15), (zi 16)].length : Nat) : Int)) (.row ((QH [i0, (zi 127), (zi 64), (zi 1), (zi 63), (zi 100), (zi 7), (zi 15), (zi 16)])[(Int.toNat r1)]?) ([i0, (zi 127), (zi 64), (zi 1), (zi 63), (zi 100), (zi 7), (zi 15), (zi 16)][(Int.toNat r1)]?) XG fun (e8 : Int) => (rt JQ e8)) .fail)) (.as (eqS a0 s_O5) (.rows [[xi (zi 1)], [xi (zi 32)], [xi (zi 2)], [xi (zi 16)], [xi (zi 31)], [xi (zi 17)], [xi (zi 8)], [xi (zi 5)], [xi (zi 30)]] (QH [(zi 1), (zi 32), (zi 2), (zi 16), (zi 31), (zi 17), (zi 8), (zi 5), (zi 30)]) (.ask (in1 r1 (((QH [(zi 1), (zi 32), (zi 2), (zi 16), (zi 31), (zi 17), (zi 8), (zi 5), (zi 30)]).length : Nat) : Int)) (in1 r1 (([(zi 1), (zi 32), (zi 2), (zi 16), (zi 31), (zi 17), (zi 8), (zi 5), (zi 30)].length : Nat) : Int)) (.row ((QH [(zi 1), (zi 32), (zi 2), (zi 16), (zi 31), (zi 17), (zi 8), (zi 5), (zi 30)])[(Int.toNat r1)]?) ([(zi 1), (zi 32), (zi 2), (zi 16), (zi 31), (zi 17), (zi 8), (zi 5), (zi 30)][(Int.toNat r1)]?) XG fun (e9 : Int) => (rt JQ e9)) .fail)) (let u95 := (eqS a0 s_M1); .as u95 (.yes u95 (.rows [[xi i0], [xi (zi 15)], [xi (zi 1)], [xi (zi 7)], [xi (zi 8)], [xi (zi 4)], [xi (zi 12)], [xi (zi 3)], [xi (zi 14)]] (QH [i0, (zi 15), (zi 1), (zi 7), (zi 8), (zi 4), (zi 12), (zi 3), (zi 14)]) (.ask (in1 r1 (((QH [i0, (zi 15), (zi 1), (zi 7), (zi 8), (zi 4), (zi 12), (zi 3), (zi 14)]).length : Nat) : Int)) (in1 r1 (([i0, (zi 15), (zi 1), (zi 7), (zi 8), (zi 4), (zi 12), (zi 3), (zi 14)].length : Nat) : Int)) (.row ((QH [i0, (zi 15), (zi 1), (zi 7), (zi 8), (zi 4), (zi 12), (zi 3), (zi 14)])[(Int.toNat r1)]?) ([i0, (zi 15), (zi 1), (zi 7), (zi 8), (zi 4), (zi 12), (zi 3), (zi 14)][(Int.toNat r1)]?) XG fun (e10 : Int) => (rt JQ e10)) .fail))) (.as (eqS a0 s_I4) (.rows [[xi i0], [xi (zi 15)], [xi (zi 1)], [xi (zi 7)], [xi (zi 8)], [xi (zi 4)], [xi (zi 12)], [xi (zi 3)], [xi (zi 14)]] (QH [i0, (zi 15), (zi 1), (zi 7), (zi 8), (zi 4), (zi 12), (zi 3), (zi 14)]) (.ask (in1 r1 (((QH [i0, (zi 15), (zi 1), (zi 7), (zi 8), (zi 4), (zi 12), (zi 3), (zi 14)]).length : Nat) : Int)) (in1 r1 (([i0, (zi 15), (zi 1), (zi 7), (zi 8), (zi 4), (zi 12), (zi 3), (zi 14)].length : Nat) : Int)) (.row ((QH [i0, (zi 15), (zi 1), (zi 7), (zi 8), (zi 4), (zi 12), (zi 3), (zi 14)])[(Int.toNat r1)]?) ([i0, (zi 15), (zi 1), (zi 7), (zi 8), (zi 4), (zi 12), (zi 3), (zi 14)][(Int.toNat r1)]?) XG fun (e11 : Int) => (rt JQ e11)) .fail)) (.as (eqS a0 s_M2) (.rows [[xi i0], [xi (zi 15)], [xi (zi 1)], [xi (zi 7)], [xi (zi 8)], [xi (zi 4)], [xi (zi 12)], [xi (zi 3)], [xi (zi 14)]] (QH [i0, (zi 15), (zi 1), (zi 7), (zi 8), (zi 4), (zi 12), (zi 3), (zi 14)]) (.ask (in1 r1 (((QH [i0, (zi 15), (zi 1), (zi 7), (zi 8), (zi 4), (zi 12), (zi 3), (zi 14)]).length : Nat) : Int)) (in1 r1 (([i0, (zi 15), (zi 1), (zi 7), (zi 8), (zi 4), (zi 12), (zi 3), (zi 14)].length : Nat) : Int)) (.row ((QH [i0, (zi 15), (zi 1), (zi 7), (zi 8), (zi 4), (zi 12), (zi 3), (zi 14)])[(Int.toNat r1)]?) ([i0, (zi 15), (zi 1), (zi 7), (zi 8), (zi 4), (zi 12), (zi 3), (zi 14)][(Int.toNat r1)]?) XG fun (e12 : Int) => (rt JQ (w64 ((zi 2) * e12)))) .fail)) (.as (eqS a0 s_M4) (.rows [[xi i0], [xi (zi 15)], [xi (zi 1)], [xi (zi 7)], [xi (zi 8)], [xi (zi 4)], [xi (zi 12)], [xi (zi 3)], [xi (zi 14)]] (QH [i0, (zi 15), (zi 1), (zi 7), (zi 8), (zi 4), (zi 12), (zi 3), (zi 14)]) (.ask (in1 r1 (((QH [i0, (zi 15), (zi 1), (zi 7), (zi 8), (zi 4), (zi 12), (zi 3), (zi 14)]).length : Nat) : Int)) (in1 r1 (([i0, (zi 15), (zi 1), (zi 7), (zi 8), (zi 4), (zi 12), (zi 3), (zi 14)].length : Nat) : Int)) (.row ((QH [i0, (zi 15), (zi 1), (zi 7), (zi 8), (zi 4), (zi 12), (zi 3), (zi 14)])[(Int.toNat r1)]?) ([i0, (zi 15), (zi 1), (zi 7), (zi 8), (zi 4), (zi 12), (zi 3), (zi 14)][(Int.toNat r1)]?) XG fun (e13 : Int) => (rt JQ (w64 ((zi 4) * e13)))) .fail)) (.as (eqS a0 s_O1) (.call (Yz w a1 (zi 2)) (C0 a1 (zi 2)) WV fun r14 => (rt JQ r14)) (let u94 := (eqS a0 s_I2); .as u94 (.yes u94 (.call (Yz w a1 (zi 4)) (C0 a1 (zi 4)) WV fun r15 => (rt JQ r15))) (.as (eqS a0 s_O2) (.call (Yz w a1 (zi 4)) (C0 a1 (zi 4)) WV fun r16 => (rt JQ r16)) (.as (eqS a0 s_T8) (.call (Yz w a1 (zi 256)) (C0 a1 (zi 256)) WV fun r17 => (rt JQ (w64 ((zi 2) * (w64 (r17 - 128)))))) (.as (eqS a0 Qsx) (.rows [[xi i0], [xi (zi 32767)], [xi (-32768 : Int)], [xi (-1 : Int)], [xi (zi 1)], [xi (zi 255)], [xi (-256 : Int)], [xi (zi 4660)], [xi (-4660 : Int)]] (QH [i0, (zi 32767), (-32768 : Int), (-1 : Int), (zi 1), (zi 255), (-256 : Int), (zi 4660), (-4660 : Int)]) (.ask (in1 r1 (((QH [i0, (zi 32767), (-32768 : Int), (-1 : Int), (zi 1), (zi 255), (-256 : Int), (zi 4660), (-4660 : Int)]).length : Nat) : Int)) (in1 r1 (([i0, (zi 32767), (-32768 : Int), (-1 : Int), (zi 1), (zi 255), (-256 : Int), (zi 4660), (-4660 : Int)].length : Nat) : Int)) (.row ((QH [i0, (zi 32767), (-32768 : Int), (-1 : Int), (zi 1), (zi 255), (-256 : Int), (zi 4660), (-4660 : Int)])[(Int.toNat r1)]?) ([i0, (zi 32767), (-32768 : Int), (-1 : Int), (zi 1), (zi 255), (-256 : Int), (zi 4660), (-4660 : Int)][(Int.toNat r1)]?) XG fun (e18 : Int) => (rt JQ e18)) .fail)) (.as (eqS a0 Qsw) (.call (Yz w a1 (zi 1048576)) (C0 a1 (zi 1048576)) WV fun r19 => (rt JQ (w64 (r19 - 524288)))) (.as (eqS a0 Qsy) (.call (Yz w a1 (zi 32768)) (C0 a1 (zi 32768)) WV fun r20 => (rt JQ (w64 ((zi 2) * (w64 (r20 - 16384)))))) (.as (eqS a0 Sj) (.call (Yz w a1 (zi 16777216)) (C0 a1 (zi 16777216)) WV fun r21 => (rt JQ (w64 ((zi 2) * (w64 (r21 - 8388608)))))) (.rows [[xi i0], [xi (zi 255)], [xi (zi 256)], [xi (zi 65280)], [xi (-1 : Int)], [xi (-2 : Int)], [xi (zi 16711680)], [xi (-256 : Int)], [xi (zi 2130706432)]] (QH [i0, (zi 255), (zi 256), (zi 65280), (-1 : Int), (-2 : Int), (zi 16711680), (-256 : Int), (zi 2130706432)]) (.ask (in1 r1 (((QH [i0, (zi 255), (zi 256), (zi 65280), (-1 : Int), (-2 : Int), (zi 16711680), (-256 : Int), (zi 2130706432)]).length : Nat) : Int)) (in1 r1 (([i0, (zi 255), (zi 256), (zi 65280), (-1 : Int), (-2 : Int), (zi 16711680), (-256 : Int), (zi 2130706432)].length : Nat) : Int)) (.row ((QH [i0, (zi 255), (zi 256), (zi 65280), (-1 : Int), (-2 : Int), (zi 16711680), (-256 : Int), (zi 2130706432)])[(Int.toNat r1)]?) ([i0, (zi 255), (zi 256), (zi 65280), (-1 : Int), (-2 : Int), (zi 16711680), (-256 : Int), (zi 2130706432)][(Int.toNat r1)]?) XG fun (e22 : Int) => (rt JQ e22)) .fail)))))))))))))))))))))))
theorem QnS (w : Cf) (C0 : XP) (a0 : ByteArray) (a1 : Int) : (QaV pp w C0 a0 a1).norm (bodyT pp w G 85 (QaU a0 a1).1 (QaU a0 a1).2) = QaV pp w C0 a0 a1 := by kernel_rfl
theorem QnT (P : Pg) (w : Cf) (lp : Lo) (C0 : XP) (K0 : Qgl w C0) (a0 : ByteArray) (a1 : Int) : (QaV P w C0 a0 a1).ok lp JQ := fun r1 hr1 => ⟨K0 _ _ _ hr1, ⟨rfl, fun q0 => ⟨q0, ⟨(UF [(0 : Int), (1 : Int), (7 : Int), (24 : Int), (31 : Int), (5 : Int), (28 : Int), (3 : Int), (30 : Int)]), ⟨(by rw [VU]), fun q1 => fun e2 h => ⟨Vl h, rfl⟩, fun q1 => trivial⟩⟩⟩, fun q0 => ⟨rfl, fun q1 => ⟨(UF [(0 : Int), (1 : Int), (7 : Int), (24 : Int), (31 : Int), (5 : Int), (28 : Int), (3 : Int), (30 : Int)]), ⟨(by rw [VU]), fun q2 => fun e3 h => ⟨Vl h, rfl⟩, fun q2 => trivial⟩⟩, fun q1 => ⟨rfl, fun q2 => ⟨q2, ⟨(UF [(0 : Int), (31 : Int), (1 : Int), (15 : Int), (16 : Int), (7 : Int), (30 : Int), (12 : Int), (3 : Int)]), ⟨(by rw [VU]), fun q3 => fun e4 h => ⟨Vl h, rfl⟩, fun q3 => trivial⟩⟩⟩, fun q2 => ⟨rfl, fun q3 => ⟨q3, ⟨(UF [(0 : Int), (31 : Int), (1 : Int), (15 : Int), (16 : Int), (7 : Int), (30 : Int), (12 : Int), (3 : Int)]), ⟨(by rw [VU]), fun q4 => fun e5 h => ⟨Vl h, rfl⟩, fun q4 => trivial⟩⟩⟩, fun q3 => ⟨rfl, fun q4 => ⟨q4, ⟨(UF [(0 : Int), (31 : Int), (1 : Int), (15 : Int), (16 : Int), (7 : Int), (30 : Int), (12 : Int), (3 : Int)]), ⟨(by rw [VU]), fun q5 => fun e6 h => ⟨Vl h, rfl⟩, fun q5 => trivial⟩⟩⟩, fun q4 => ⟨rfl, fun q5 => ⟨(UF [(0 : Int), (31 : Int), (1 : Int), (15 : Int), (16 : Int), (7 : Int), (30 : Int), (12 : Int), (3 : Int)]), ⟨(by rw [VU]), fun q6 => fun e7 h => ⟨Vl h, rfl⟩, fun q6 => trivial⟩⟩, fun q5 => ⟨rfl, fun q6 => ⟨(UF [(0 : Int), (127 : Int), (64 : Int), (1 : Int), (63 : Int), (100 : Int), (7 : Int), (15 : Int), (16 : Int)]), ⟨(by rw [VU]), fun q7 => fun e8 h => ⟨Vl h, rfl⟩, fun q7 => trivial⟩⟩, fun q6 => ⟨rfl, fun q7 => ⟨(UF [(1 : Int), (32 : Int), (2 : Int), (16 : Int), (31 : Int), (17 : Int), (8 : Int), (5 : Int), (30 : Int)]), ⟨(by rw [VU]), fun q8 => fun e9 h => ⟨Vl h, rfl⟩, fun q8 => trivial⟩⟩, fun q7 => ⟨rfl, fun q8 => ⟨q8, ⟨(UF [(0 : Int), (15 : Int), (1 : Int), (7 : Int), (8 : Int), (4 : Int), (12 : Int), (3 : Int), (14 : Int)]), ⟨(by rw [VU]), fun q9 => fun e10 h => ⟨Vl h, rfl⟩, fun q9 => trivial⟩⟩⟩, fun q8 => ⟨rfl, fun q9 => ⟨(UF [(0 : Int), (15 : Int), (1 : Int), (7 : Int), (8 : Int), (4 : Int), (12 : Int), (3 : Int), (14 : Int)]), ⟨(by rw [VU]), fun q10 => fun e11 h => ⟨Vl h, rfl⟩, fun q10 => trivial⟩⟩, fun q9 => ⟨rfl, fun q10 => ⟨(UF [(0 : Int), (15 : Int), (1 : Int), (7 : Int), (8 : Int), (4 : Int), (12 : Int), (3 : Int), (14 : Int)]), ⟨(by rw [VU]), fun q11 => fun e12 h => ⟨Vl h, rfl⟩, fun q11 => trivial⟩⟩, fun q10 => ⟨rfl, fun q11 => ⟨(UF [(0 : Int), (15 : Int), (1 : Int), (7 : Int), (8 : Int), (4 : Int), (12 : Int), (3 : Int), (14 : Int)]), ⟨(by rw [VU]), fun q12 => fun e13 h => ⟨Vl h, rfl⟩, fun q12 => trivial⟩⟩, fun q11 => ⟨rfl, fun q12 => fun r14 hr14 => ⟨K0 _ _ _ hr14, rfl⟩, fun q12 => ⟨rfl, fun q13 => ⟨q13, fun r15 hr15 => ⟨K0 _ _ _ hr15, rfl⟩⟩, fun q13 => ⟨rfl, fun q14 => fun r16 hr16 => ⟨K0 _ _ _ hr16, rfl⟩, fun q14 => ⟨rfl, fun q15 => fun r17 hr17 => ⟨K0 _ _ _ hr17, rfl⟩, fun q15 => ⟨rfl, fun q16 => ⟨(UF [(0 : Int), (32767 : Int), (-32768 : Int), (-1 : Int), (1 : Int), (255 : Int), (-256 : Int), (4660 : Int), (-4660 : Int)]), ⟨(by rw [VU]), fun q17 => fun e18 h => ⟨Vl h, rfl⟩, fun q17 => trivial⟩⟩, fun q16 => ⟨rfl, fun q17 => fun r19 hr19 => ⟨K0 _ _ _ hr19, rfl⟩, fun q17 => ⟨rfl, fun q18 => fun r20 hr20 => ⟨K0 _ _ _ hr20, rfl⟩, fun q18 => ⟨rfl, fun q19 => fun r21 hr21 => ⟨K0 _ _ _ hr21, rfl⟩, fun q19 => ⟨(UF [(0 : Int), (255 : Int), (256 : Int), (65280 : Int), (-1 : Int), (-2 : Int), (16711680 : Int), (-256 : Int), (2130706432 : Int)]), ⟨(by rw [VU]), fun q20 => fun e22 h => ⟨Vl h, rfl⟩, fun q20 => trivial⟩⟩⟩⟩⟩⟩⟩⟩⟩⟩⟩⟩⟩⟩⟩⟩⟩⟩⟩⟩⟩⟩⟩
theorem QnU {C0 : Nat → XP} {D0 : XP} (H0 : Cv2 C0 D0) (a0 : ByteArray) (a1 : Int) : Cv (fun k => ZJ (C0 k) a0 a1) (ZJ D0 a0 a1) := by
  unfold ZJ
  exact .bind (H0 _ _) fun r1 => .cond cst (.cond cst (.cond cst (.cond cst (.cond cst (.cond cst (.cond cst (.cond cst (.cond cst (.cond cst (.cond cst (.cond cst (.cond (.bind (H0 _ _) fun r14 => by exact .const _) (.cond (.bind (H0 _ _) fun r15 => by exact .const _) (.cond (.bind (H0 _ _) fun r16 => by exact .const _) (.cond (.bind (H0 _ _) fun r17 => by exact .const _) (.cond cst (.cond (.bind (H0 _ _) fun r19 => by exact .const _) (.cond (.bind (H0 _ _) fun r20 => by exact .const _) (.cond (.bind (H0 _ _) fun r21 => by exact .const _) cst)))))))))))))))))))
def UT.s : Nat → ByteArray → Int → Option Int
  | 0, _, _ => none
  | k + 1, a0, a1 => ZJ (U0.s k) a0 a1
theorem UT.ok : ∀ (k : Nat), QeW (ev k) (UT.s k)
  | 0, _, _, _, h => (nomatch h)
  | k + 1, a0, a1, r, h => fn_ok rfl (QaV pp (ev k) (U0.s k) a0 a1) (QnS _ _ a0 a1) (QnT _ _ _ _ (U0.ok k) a0 a1) h
noncomputable def UT (a0 : ByteArray) (a1 : Int) : Option Int := ZJ U0 a0 a1
theorem UT.cv (a0 : ByteArray) (a1 : Int) : Cv (fun k => UT.s k a0 a1) (UT a0 a1) := .un rfl (QnU U0.cv a0 a1)
theorem UT.eq (a0 : ByteArray) (a1 : Int) : UT a0 a1 = ZJ U0 a0 a1 := rfl
def XE (r : ByteArray) : AV × Heap := (xs r, [])
abbrev VS := Int → Option ByteArray
abbrev QbY (a0 : Int) : List AV × Heap := ([xi a0], [])
abbrev Gr (w : Cf) (a0 : Int) : Option AH := w 40 (QbY a0).1 (QbY a0).2
abbrev QaW (w : Cf) (c : VS) : Prop := ∀ (a0 : Int) (r : ByteArray), c a0 = some r → Gr w a0 = some (XE r)
def EO (C0 : VS) (a0 : Int) : Option ByteArray := (bif (decide (a0 < 0)) then ((C0 (w64 ((0 : Int) - a0))).bind fun r1 => (bif (decide (((h_2d.size + r1.size : Nat) : Int) ≤ IntKind.i64.max)) then (some (h_2d ++ r1)) else none)) else (bif (decide (a0 ≥ 10)) then ((C0 (w64 (Int.tdiv a0 (10 : Int)))).bind fun r2 => ((C0 (Int.tmod a0 (10 : Int))).bind fun r3 => (bif (decide (((r2.size + r3.size : Nat) : Int) ≤ IntKind.i64.max)) then (some (r2 ++ r3)) else none))) else ((some (listB [(IntKind.u8.wrap (w64 ((48 : Int) + a0)))])).bind fun e4 => (some (⟨e4.toArray⟩ : ByteArray)))))
def QbZ (P : Pg) (w : Cf) (C0 : VS) (a0 : Int) : Tr ByteArray AH := (.as (decide (a0 < 0)) (.call (Gr w (w64 (i0 - a0))) (C0 (w64 (i0 - a0))) XE fun r1 => (.as (decide (((h_2d.size + r1.size : Nat) : Int) ≤ IntKind.i64.max)) (rt XE (h_2d ++ r1)) .fail)) (.as (decide (a0 ≥ 10)) (.yes (decide ((zi 10) ≠ 0)) (.call (Gr w (w64 (Int.tdiv a0 (zi 10)))) (C0 (w64 (Int.tdiv a0 (zi 10)))) XE fun r2 => (.yes (decide ((zi 10) ≠ 0)) (.call (Gr w (Int.tmod a0 (zi 10))) (C0 (Int.tmod a0 (zi 10))) XE fun r3 => (.as (decide (((r2.size + r3.size : Nat) : Int) ≤ IntKind.i64.max)) (rt XE (r2 ++ r3)) .fail))))) (.rows [[xb (IntKind.u8.wrap (w64 ((zi 48) + a0)))]] (R_u8 [(IntKind.u8.wrap (w64 ((zi 48) + a0)))]) (.byt (bytesOfRows (R_u8 [(IntKind.u8.wrap (w64 ((zi 48) + a0)))])) (some (listB [(IntKind.u8.wrap (w64 ((zi 48) + a0)))])) fun (e4 : List UInt8) => (rt XE (⟨e4.toArray⟩ : ByteArray))))))
theorem Qo8 (w : Cf) (C0 : VS) (a0 : Int) : (QbZ pp w C0 a0).norm (bodyT pp w G 40 (QbY a0).1 (QbY a0).2) = QbZ pp w C0 a0 := by kernel_rfl
theorem Qo9 (P : Pg) (w : Cf) (lp : Lo) (C0 : VS) (K0 : QaW w C0) (a0 : Int) : (QbZ P w C0 a0).ok lp XE := ⟨rfl, fun q0 => fun r1 hr1 => ⟨K0 _ _ hr1, ⟨rfl, fun q1 => rfl, fun q1 => trivial⟩⟩, fun q0 => ⟨rfl, fun q1 => ⟨rfl, fun r2 hr2 => ⟨K0 _ _ hr2, ⟨rfl, fun r3 hr3 => ⟨K0 _ _ hr3, ⟨rfl, fun q2 => rfl, fun q2 => trivial⟩⟩⟩⟩⟩, fun q1 => ⟨(QrW [(IntKind.u8.wrap (w64 ((48 : Int) + a0)))]), fun e4 he4 => ⟨(Qq7 _).trans he4, rfl⟩⟩⟩⟩
theorem Qjl {C0 : Nat → VS} {D0 : VS} (H0 : Cv1 C0 D0) (a0 : Int) : Cv (fun k => EO (C0 k) a0) (EO D0 a0) := by
  unfold EO
  exact .cond (.bind (H0 _) fun r1 => by exact .const _) (.cond (.bind (H0 _) fun r2 => .bind (H0 _) fun r3 => by exact .const _) cst)
def JK.s : Nat → Int → Option ByteArray
  | 0, _ => none
  | k + 1, a0 => EO (fun a0 => JK.s k a0) a0
termination_by structural k => k
theorem QgK : ∀ (k : Nat), QaW (ev k) (JK.s k)
  | 0 => fun _ _ h => (nomatch h)
  | k + 1 => by
    have i_r3_Digits := QgK k
    exact fun a0 r h => fn_ok rfl (QbZ pp (ev k) (JK.s k) a0) (Qo8 _ _ a0) (Qo9 _ _ _ _ (i_r3_Digits) a0) h
theorem JK.ok (k : Nat) : QaW (ev k) (JK.s k) := (QgK k)
theorem QfG : ∀ (k : Nat), (∀ (a0 : Int), Le (JK.s k a0) (JK.s (k + 1) a0))
  | 0 => fun _ _ h => (nomatch h)
  | k + 1 => by
    have i_r3_Digits := QfG k
    exact fun a0 => (Qjl (tw1 (i_r3_Digits)) a0).1 0
theorem JK.mono (k : Nat) : ∀ (a0 : Int), Le (JK.s k a0) (JK.s (k + 1) a0) := (QfG k)
noncomputable def JK (a0 : Int) : Option ByteArray := lim fun k => JK.s k a0
theorem JK.cv (a0 : Int) : Cv (fun k => JK.s k a0) (JK a0) := .lim fun k => JK.mono k a0
theorem JK.eq (a0 : Int) : JK a0 = EO JK a0 := Cv.uniq (JK.cv a0).shift (Qjl JK.cv a0)
abbrev FR := Qe → Option Qe
abbrev Pk := Qe → Option Qe
def Y9 (a : Qe) : Option (Qe ⊕ Qe) := (bif (decide (a.P < ((a.S.size : Nat) : Int))) then (bif (decide (0 ≤ a.P ∧ a.P < ((a.S.size : Nat) : Int))) then (bif (((a.S.data.getD (Int.toNat a.P) 0).toNat : Int) == 32) then (some (.inl (Qe.mk a.S (w64 (a.P + 1)) a.Deep a.Bad))) else (some (.inr a))) else none) else (some (.inr a)))
def J4.s (k : Nat) : Qe → Option Qe := iter (Y9 ) k
noncomputable def J4.w : Qe → Option Qe := loopW (Y9 )
theorem J4.cv (a : Qe) : Cv (fun k => J4.s k a) (J4.w a) := Cv.iter (fun a => by exact .const _) a
def Ye (L0 : Pk) (h0 : Qe) : Option Qe := ((L0 h0).bind (fun (o1 : Qe) => (some o1)))
theorem QjK {L0 : Nat → Pk} {M0 : Pk} (N0 : Cv1 L0 M0) (h0 : Qe) : Cv (fun k => Ye (L0 k) h0) (Ye M0 h0) := by
  unfold Ye
  exact .bind (N0 _) (fun o1 => by exact .const _)
def U6.s : Nat → Qe → Option Qe
  | 0, _ => none
  | k + 1, h0 => Ye (J4.s k) h0
noncomputable def J4 : Qe → Option Qe := J4.w
theorem J4.eq (a : Qe) : J4 a = (Y9 a).bind (Sum.elim J4 some) := UO _ _
noncomputable def U6 (h0 : Qe) : Option Qe := Ye J4 h0
theorem U6.cv (h0 : Qe) : Cv (fun k => U6.s k h0) (U6 h0) := .un rfl (QjK (J4.cv) h0)
theorem U6.eq (h0 : Qe) : U6 h0 = Ye J4 h0 := rfl
abbrev V1 := ByteArray → Qe → Option (Bool × Qe)
def Zq (C0 : FR) (a1 : ByteArray) (h0 : Qe) : Option (Bool × Qe) := ((C0 h0).bind fun r1 => (bif (decide ((w64 (r1.P + ((a1.size : Nat) : Int))) > ((r1.S.size : Nat) : Int))) then (some (false, r1)) else (bif (decide (0 ≤ r1.P ∧ r1.P ≤ (w64 (r1.P + ((a1.size : Nat) : Int))) ∧ (w64 (r1.P + ((a1.size : Nat) : Int))) ≤ ((r1.S.size : Nat) : Int))) then (bif (!(eqS (r1.S.extract (Int.toNat r1.P) (Int.toNat (w64 (r1.P + ((a1.size : Nat) : Int))))) a1)) then (some (false, r1)) else (some (true, (Qe.mk r1.S (w64 (r1.P + ((a1.size : Nat) : Int))) r1.Deep r1.Bad)))) else none)))
theorem QlC {C0 : Nat → FR} {D0 : FR} (H0 : Cv1 C0 D0) (a1 : ByteArray) (h0 : Qe) : Cv (fun k => Zq (C0 k) a1 h0) (Zq D0 a1 h0) := by
  unfold Zq
  exact .bind (H0 _) fun r1 => by exact .const _
def Ub.s : Nat → ByteArray → Qe → Option (Bool × Qe)
  | 0, _, _ => none
  | k + 1, a1, h0 => Zq (U6.s k) a1 h0
noncomputable def Ub (a1 : ByteArray) (h0 : Qe) : Option (Bool × Qe) := Zq U6 a1 h0
theorem Ub.cv (a1 : ByteArray) (h0 : Qe) : Cv (fun k => Ub.s k a1 h0) (Ub a1 h0) := .un rfl (QlC U6.cv a1 h0)
theorem Ub.eq (a1 : ByteArray) (h0 : Qe) : Ub a1 h0 = Zq U6 a1 h0 := rfl
abbrev Gs := Int → Int → Option Int
def PO (a0 : Int) (a1 : Int) : Option Int := (bif (decide (a0 ≥ 48)) then (bif (decide (a0 ≤ (57 : Int))) then (some (w64 (IntKind.u8.wrap (a0 - 48)))) else (bif (a1 == 16) then (bif (decide (a0 ≥ 97)) then (bif (decide (a0 ≤ (102 : Int))) then (some (w64 ((w64 (IntKind.u8.wrap (a0 - 97))) + 10))) else (some (-1 : Int))) else (some (-1 : Int))) else (some (-1 : Int)))) else (bif (a1 == 16) then (bif (decide (a0 ≥ 97)) then (bif (decide (a0 ≤ (102 : Int))) then (some (w64 ((w64 (IntKind.u8.wrap (a0 - 97))) + 10))) else (some (-1 : Int))) else (some (-1 : Int))) else (some (-1 : Int))))
def Vk.s : Nat → Int → Int → Option Int
  | 0, _, _ => none
  | k + 1, a0, a1 => PO a0 a1
noncomputable def Vk (a0 : Int) (a1 : Int) : Option Int := PO a0 a1
theorem Vk.cv (a0 : Int) (a1 : Int) : Cv (fun k => Vk.s k a0 a1) (Vk a0 a1) := .un rfl (by exact .const _)
theorem Vk.eq (a0 : Int) (a1 : Int) : Vk a0 a1 = PO a0 a1 := rfl
abbrev PW := Int → Qe → Option (Qd × Qe)
structure Uy where
  x1 : Int
  x5 : Int
  x6 : Int
  h0 : Qe
  h1 : Qd
structure Wb where
  h0 : Qe
  h1 : Qd
structure VB where
  x5 : Int
  x6 : Int
  h0 : Qe
  h1 : Qd
abbrev Fx := Uy → Option (Wb ⊕ VB)
def Vi (C0 : Gs) (a : Uy) : Option (Uy ⊕ (Wb ⊕ VB)) := (bif (decide (a.h0.P < ((a.h0.S.size : Nat) : Int))) then (bif (decide (0 ≤ a.h0.P ∧ a.h0.P < ((a.h0.S.size : Nat) : Int))) then ((C0 ((a.h0.S.data.getD (Int.toNat a.h0.P) 0).toNat : Int) a.x1).bind fun r1 => (bif (decide (r1 ≥ 0)) then ((C0 ((a.h0.S.data.getD (Int.toNat a.h0.P) 0).toNat : Int) a.x1).bind fun r2 => (bif (decide ((w64 ((w64 (a.x1 * a.x5)) + r2)) ≥ 4294967296)) then (some (.inr (.inl (Wb.mk (Qe.mk a.h0.S (w64 (a.h0.P + 1)) a.h0.Deep true) (Qd.mk (0 : Int) (0 : Int) s_ ([] : List Qd)))))) else (some (.inl (Uy.mk a.x1 (w64 ((w64 (a.x1 * a.x5)) + r2)) a.x6 (Qe.mk a.h0.S (w64 (a.h0.P + 1)) a.h0.Deep a.h0.Bad) a.h1))))) else (some (.inr (.inr (VB.mk a.x5 a.x6 a.h0 a.h1)))))) else none) else (some (.inr (.inr (VB.mk a.x5 a.x6 a.h0 a.h1)))))
theorem QfH {C0 : Nat → Gs} {D0 : Gs} (H0 : Cv2 C0 D0) (a : Uy) : Cv (fun k => Vi (C0 k) a) (Vi D0 a) := by
  unfold Vi
  exact .cond (.cond (.bind (H0 _ _) fun r1 => .cond (.bind (H0 _ _) fun r2 => by exact .const _) cst) cst) cst
def QV.s (k : Nat) (C0 : Gs) : Uy → Option (Wb ⊕ VB) := iter (Vi C0) k
noncomputable def QV.w (C0 : Gs) : Uy → Option (Wb ⊕ VB) := loopW (Vi C0)
theorem QV.cv (C0 : Nat → Gs) (D0 : Gs) (H0 : Cv2 C0 D0) (a : Uy) : Cv (fun k => QV.s k (C0 k) a) (QV.w D0 a) := Cv.iter (fun a => QfH H0 a) a
def Wz (L0 : Fx) (a1 : Int) (h0 : Qe) : Option (Qd × Qe) := ((L0 (Uy.mk a1 (0 : Int) h0.P h0 (Qd.mk (0 : Int) (0 : Int) s_ ([] : List Qd)))).bind fun x => Sum.elim (fun (o1 : Wb) => (some (o1.h1, o1.h0))) (fun (o2 : VB) => (bif (o2.x6 == o2.h0.P) then (some ((Qd.mk (1 : Int) o2.x5 s_ ([] : List Qd)), (Qe.mk o2.h0.S o2.h0.P o2.h0.Deep true))) else (some ((Qd.mk (1 : Int) o2.x5 s_ ([] : List Qd)), o2.h0)))) x)
theorem Qic {L0 : Nat → Fx} {M0 : Fx} (N0 : Cv1 L0 M0) (a1 : Int) (h0 : Qe) : Cv (fun k => Wz (L0 k) a1 h0) (Wz M0 a1 h0) := by
  unfold Wz
  exact .bind (N0 _) fun x => .sum (fun o1 => by exact .const _) (fun o2 => by exact .const _) x
def Ug.s : Nat → Int → Qe → Option (Qd × Qe)
  | 0, _, _ => none
  | k + 1, a1, h0 => Wz (QV.s k (Vk.s k)) a1 h0
noncomputable def QV : Uy → Option (Wb ⊕ VB) := QV.w Vk
theorem QV.eq (a : Uy) : QV a = (Vi Vk a).bind (Sum.elim QV some) := UO _ _
noncomputable def Ug (a1 : Int) (h0 : Qe) : Option (Qd × Qe) := Wz QV a1 h0
theorem Ug.cv (a1 : Int) (h0 : Qe) : Cv (fun k => Ug.s k a1 h0) (Ug a1 h0) := .un rfl (Qic (QV.cv (fun k => Vk.s k) Vk Vk.cv) a1 h0)
theorem Ug.eq (a1 : Int) (h0 : Qe) : Ug a1 h0 = Wz QV a1 h0 := rfl
abbrev QaX := Qe → Option (Qd × Qe)
structure JD where
  x3 : Int
  h0 : Qe
  h1 : Qd
structure UI where
  x3 : Int
  h0 : Qe
  h1 : Qd
abbrev Pl := JD → Option UI
def Za (a : JD) : Option (JD ⊕ UI) := (bif (decide (a.h0.P < ((a.h0.S.size : Nat) : Int))) then (bif (decide (0 ≤ a.h0.P ∧ a.h0.P < ((a.h0.S.size : Nat) : Int))) then (bif (decide (((a.h0.S.data.getD (Int.toNat a.h0.P) 0).toNat : Int) ≥ 97)) then (bif (decide (((a.h0.S.data.getD (Int.toNat a.h0.P) 0).toNat : Int) ≤ 122)) then (some (.inl (JD.mk a.x3 (Qe.mk a.h0.S (w64 (a.h0.P + 1)) a.h0.Deep a.h0.Bad) a.h1))) else (bif (decide (((a.h0.S.data.getD (Int.toNat a.h0.P) 0).toNat : Int) ≥ 48)) then (bif (decide (((a.h0.S.data.getD (Int.toNat a.h0.P) 0).toNat : Int) ≤ 57)) then (some (.inl (JD.mk a.x3 (Qe.mk a.h0.S (w64 (a.h0.P + 1)) a.h0.Deep a.h0.Bad) a.h1))) else (bif (((a.h0.S.data.getD (Int.toNat a.h0.P) 0).toNat : Int) == 95) then (some (.inl (JD.mk a.x3 (Qe.mk a.h0.S (w64 (a.h0.P + 1)) a.h0.Deep a.h0.Bad) a.h1))) else (some (.inr (UI.mk a.x3 a.h0 a.h1))))) else (bif (((a.h0.S.data.getD (Int.toNat a.h0.P) 0).toNat : Int) == 95) then (some (.inl (JD.mk a.x3 (Qe.mk a.h0.S (w64 (a.h0.P + 1)) a.h0.Deep a.h0.Bad) a.h1))) else (some (.inr (UI.mk a.x3 a.h0 a.h1)))))) else (bif (decide (((a.h0.S.data.getD (Int.toNat a.h0.P) 0).toNat : Int) ≥ 48)) then (bif (decide (((a.h0.S.data.getD (Int.toNat a.h0.P) 0).toNat : Int) ≤ 57)) then (some (.inl (JD.mk a.x3 (Qe.mk a.h0.S (w64 (a.h0.P + 1)) a.h0.Deep a.h0.Bad) a.h1))) else (bif (((a.h0.S.data.getD (Int.toNat a.h0.P) 0).toNat : Int) == 95) then (some (.inl (JD.mk a.x3 (Qe.mk a.h0.S (w64 (a.h0.P + 1)) a.h0.Deep a.h0.Bad) a.h1))) else (some (.inr (UI.mk a.x3 a.h0 a.h1))))) else (bif (((a.h0.S.data.getD (Int.toNat a.h0.P) 0).toNat : Int) == 95) then (some (.inl (JD.mk a.x3 (Qe.mk a.h0.S (w64 (a.h0.P + 1)) a.h0.Deep a.h0.Bad) a.h1))) else (some (.inr (UI.mk a.x3 a.h0 a.h1)))))) else none) else (some (.inr (UI.mk a.x3 a.h0 a.h1))))
def JZ.s (k : Nat) : JD → Option UI := iter (Za ) k
noncomputable def JZ.w : JD → Option UI := loopW (Za )
theorem JZ.cv (a : JD) : Cv (fun k => JZ.s k a) (JZ.w a) := Cv.iter (fun a => by exact .const _) a
def Yf (C0 : QjD) (L1 : Pl) (h0 : Qe) : Option (Qd × Qe) := ((L1 (JD.mk h0.P h0 (Qd.mk (0 : Int) (0 : Int) s_ ([] : List Qd)))).bind (fun (o1 : UI) => (bif (decide (0 ≤ o1.x3 ∧ o1.x3 ≤ o1.h0.P ∧ o1.h0.P ≤ ((o1.h0.S.size : Nat) : Int))) then ((C0 (o1.h0.S.extract (Int.toNat o1.x3) (Int.toNat o1.h0.P))).bind fun r2 => (bif (!r2) then (some ((Qd.mk (2 : Int) (0 : Int) (o1.h0.S.extract (Int.toNat o1.x3) (Int.toNat o1.h0.P)) ([] : List Qd)), (Qe.mk o1.h0.S o1.h0.P o1.h0.Deep true))) else (some ((Qd.mk (2 : Int) (0 : Int) (o1.h0.S.extract (Int.toNat o1.x3) (Int.toNat o1.h0.P)) ([] : List Qd)), o1.h0)))) else none)))
theorem QjL {C0 : Nat → QjD} {D0 : QjD} (H0 : Cv1 C0 D0) {L1 : Nat → Pl} {M1 : Pl} (N1 : Cv1 L1 M1) (h0 : Qe) : Cv (fun k => Yf (C0 k) (L1 k) h0) (Yf D0 M1 h0) := by
  unfold Yf
  exact .bind (N1 _) (fun o1 => .cond (.bind (H0 _) fun r2 => by exact .const _) cst)
def VC.s : Nat → Qe → Option (Qd × Qe)
  | 0, _ => none
  | k + 1, h0 => Yf (G9.s k) (JZ.s k) h0
noncomputable def JZ : JD → Option UI := JZ.w
theorem JZ.eq (a : JD) : JZ a = (Za a).bind (Sum.elim JZ some) := UO _ _
noncomputable def VC (h0 : Qe) : Option (Qd × Qe) := Yf G9 JZ h0
theorem VC.cv (h0 : Qe) : Cv (fun k => VC.s k h0) (VC h0) := .un rfl (QjL G9.cv (JZ.cv) h0)
theorem VC.eq (h0 : Qe) : VC h0 = Yf G9 JZ h0 := rfl
abbrev Sw := Int → Option (ByteArray × Int)
def Qef (a0 : Int) : Option (ByteArray × Int) := (bif (a0 == 5) then (some (h_2b, (3 : Int))) else (bif (a0 == 6) then (some (h_2d, (3 : Int))) else (bif (a0 == 7) then (some (h_2a, (4 : Int))) else (bif (a0 == 8) then (some (h_26, (1 : Int))) else (bif (a0 == 9) then (some (h_7c, (0 : Int))) else (bif (a0 == 10) then (some (Qe6, (2 : Int))) else (some (Qe7, (2 : Int)))))))))
def ZU.s : Nat → Int → Option (ByteArray × Int)
  | 0, _ => none
  | k + 1, a0 => Qef a0
noncomputable def ZU (a0 : Int) : Option (ByteArray × Int) := Qef a0
theorem ZU.cv (a0 : Int) : Cv (fun k => ZU.s k a0) (ZU a0) := .un rfl (by exact .const _)
theorem ZU.eq (a0 : Int) : ZU a0 = Qef a0 := rfl
abbrev Xf := Int → Qe → Option (Int × Qe)
structure Uj where
  x1 : Int
  x5 : Int
  h0 : Qe
structure WN where
  x4 : Int
  h0 : Qe
abbrev Pm := Uj → Option (WN ⊕ Qe)
def VT (C0 : Sw) (C1 : V1) (a : Uj) : Option (Uj ⊕ (WN ⊕ Qe)) := (bif (decide (a.x5 ≤ 11)) then ((C0 a.x5).bind fun r1 => (bif (r1.2 == a.x1) then (bif (!a.h0.Bad) then ((C1 r1.1 a.h0).bind fun r2 => (bif r2.1 then (some (.inr (.inl (WN.mk a.x5 r2.2)))) else (some (.inl (Uj.mk a.x1 (w64 (a.x5 + 1)) r2.2))))) else (some (.inl (Uj.mk a.x1 (w64 (a.x5 + 1)) a.h0)))) else (some (.inl (Uj.mk a.x1 (w64 (a.x5 + 1)) a.h0))))) else (some (.inr (.inr a.h0))))
theorem Qg7 {C0 : Nat → Sw} {D0 : Sw} (H0 : Cv1 C0 D0) {C1 : Nat → V1} {D1 : V1} (H1 : Cv2 C1 D1) (a : Uj) : Cv (fun k => VT (C0 k) (C1 k) a) (VT D0 D1 a) := by
  unfold VT
  exact .cond (.bind (H0 _) fun r1 => .cond (.cond (.bind (H1 _ _) fun r2 => by exact .const _) cst) cst) cst
def QQ.s (k : Nat) (C0 : Sw) (C1 : V1) : Uj → Option (WN ⊕ Qe) := iter (VT C0 C1) k
noncomputable def QQ.w (C0 : Sw) (C1 : V1) : Uj → Option (WN ⊕ Qe) := loopW (VT C0 C1)
theorem QQ.cv (C0 : Nat → Sw) (C1 : Nat → V1) (D0 : Sw) (D1 : V1) (H0 : Cv1 C0 D0) (H1 : Cv2 C1 D1) (a : Uj) : Cv (fun k => QQ.s k (C0 k) (C1 k) a) (QQ.w D0 D1 a) := Cv.iter (fun a => Qg7 H0 H1 a) a
def Xw (L0 : Pm) (a1 : Int) (h0 : Qe) : Option (Int × Qe) := ((L0 (Uj.mk a1 (5 : Int) h0)).bind fun x => Sum.elim (fun (o1 : WN) => (some (o1.x4, o1.h0))) (fun (o2 : Qe) => (some ((0 : Int), o2))) x)
theorem QjM {L0 : Nat → Pm} {M0 : Pm} (N0 : Cv1 L0 M0) (a1 : Int) (h0 : Qe) : Cv (fun k => Xw (L0 k) a1 h0) (Xw M0 a1 h0) := by
  unfold Xw
  exact .bind (N0 _) fun x => .sum (fun o1 => by exact .const _) (fun o2 => by exact .const _) x
def J9.s : Nat → Int → Qe → Option (Int × Qe)
  | 0, _, _ => none
  | k + 1, a1, h0 => Xw (QQ.s k (ZU.s k) (Ub.s k)) a1 h0
noncomputable def QQ : Uj → Option (WN ⊕ Qe) := QQ.w ZU Ub
theorem QQ.eq (a : Uj) : QQ a = (VT ZU Ub a).bind (Sum.elim QQ some) := UO _ _
noncomputable def J9 (a1 : Int) (h0 : Qe) : Option (Int × Qe) := Xw QQ a1 h0
theorem J9.cv (a1 : Int) (h0 : Qe) : Cv (fun k => J9.s k a1 h0) (J9 a1 h0) := .un rfl (QjM (QQ.cv (fun k => ZU.s k) (fun k => Ub.s k) ZU Ub ZU.cv Ub.cv) a1 h0)
theorem J9.eq (a1 : Int) (h0 : Qe) : J9 a1 h0 = Xw QQ a1 h0 := rfl
abbrev Sx := Bool → Qe → Option (Qd × Qe)
abbrev Gz := Qe → Option (Qd × Qe)
abbrev UK := Int → Qe → Option (Qd × Qe)
def W2 (C0 : UK) (C1 : V1) (C2 : Gz) (a1 : Bool) (h0 : Qe) : Option (Qd × Qe) := (bif (decide (h0.Deep ≥ 12)) then (some ((Qd.mk (0 : Int) (0 : Int) s_ ([] : List Qd)), (Qe.mk h0.S h0.P h0.Deep true))) else (bif a1 then ((C0 (0 : Int) (Qe.mk h0.S h0.P (w64 (h0.Deep + 1)) h0.Bad)).bind fun r1 => ((C1 h_29 r1.2).bind fun r2 => (bif (!r2.1) then (some (r1.1, (Qe.mk r2.2.S r2.2.P (w64 (r2.2.Deep - 1)) true))) else (some (r1.1, (Qe.mk r2.2.S r2.2.P (w64 (r2.2.Deep - 1)) r2.2.Bad)))))) else ((C2 (Qe.mk h0.S h0.P (w64 (h0.Deep + 1)) h0.Bad)).bind fun r3 => (some ((Qd.mk (4 : Int) (0 : Int) s_ [r3.1]), (Qe.mk r3.2.S r3.2.P (w64 (r3.2.Deep - 1)) r3.2.Bad))))))
theorem QcN {C0 : Nat → UK} {D0 : UK} (H0 : Cv2 C0 D0) {C1 : Nat → V1} {D1 : V1} (H1 : Cv2 C1 D1) {C2 : Nat → Gz} {D2 : Gz} (H2 : Cv1 C2 D2) (a1 : Bool) (h0 : Qe) : Cv (fun k => W2 (C0 k) (C1 k) (C2 k) a1 h0) (W2 D0 D1 D2 a1 h0) := by
  unfold W2
  exact .cond cst (.cond (.bind (H0 _ _) fun r1 => .bind (H1 _ _) fun r2 => by exact .const _) (.bind (H2 _) fun r3 => by exact .const _))
def Xg (C0 : V1) (C1 : Sx) (C2 : PW) (C3 : Gs) (C4 : QaX) (h0 : Qe) : Option (Qd × Qe) := (bif h0.Bad then (some ((Qd.mk (0 : Int) (0 : Int) s_ ([] : List Qd)), h0)) else ((C0 h_28 h0).bind fun r1 => (bif r1.1 then ((C1 true r1.2).bind fun r2 => (some (r2.1, r2.2))) else ((C0 h_2d r1.2).bind fun r3 => (bif r3.1 then ((C1 false r3.2).bind fun r4 => (some (r4.1, r4.2))) else ((C0 h_2e r3.2).bind fun r5 => (bif r5.1 then (some ((Qd.mk (3 : Int) (0 : Int) s_ ([] : List Qd)), r5.2)) else ((C0 s_0x r5.2).bind fun r6 => (bif r6.1 then ((C2 (16 : Int) r6.2).bind fun r7 => (some (r7.1, r7.2))) else (bif (decide (r6.2.P < ((r6.2.S.size : Nat) : Int))) then (bif (decide (0 ≤ r6.2.P ∧ r6.2.P < ((r6.2.S.size : Nat) : Int))) then ((C3 ((r6.2.S.data.getD (Int.toNat r6.2.P) 0).toNat : Int) (10 : Int)).bind fun r8 => (bif (decide (r8 ≥ 0)) then ((C2 (10 : Int) r6.2).bind fun r9 => (some (r9.1, r9.2))) else ((C4 r6.2).bind fun r10 => (some (r10.1, r10.2))))) else none) else ((C4 r6.2).bind fun r11 => (some (r11.1, r11.2)))))))))))))
theorem Qeg {C0 : Nat → V1} {D0 : V1} (H0 : Cv2 C0 D0) {C1 : Nat → Sx} {D1 : Sx} (H1 : Cv2 C1 D1) {C2 : Nat → PW} {D2 : PW} (H2 : Cv2 C2 D2) {C3 : Nat → Gs} {D3 : Gs} (H3 : Cv2 C3 D3) {C4 : Nat → QaX} {D4 : QaX} (H4 : Cv1 C4 D4) (h0 : Qe) : Cv (fun k => Xg (C0 k) (C1 k) (C2 k) (C3 k) (C4 k) h0) (Xg D0 D1 D2 D3 D4 h0) := by
  unfold Xg
  exact .cond cst (.bind (H0 _ _) fun r1 => .cond (.bind (H1 _ _) fun r2 => by exact .const _) (.bind (H0 _ _) fun r3 => .cond (.bind (H1 _ _) fun r4 => by exact .const _) (.bind (H0 _ _) fun r5 => .cond cst (.bind (H0 _ _) fun r6 => .cond (.bind (H2 _ _) fun r7 => by exact .const _) (.cond (.cond (.bind (H3 _ _) fun r8 => .cond (.bind (H2 _ _) fun r9 => by exact .const _) (.bind (H4 _) fun r10 => by exact .const _)) cst) (.bind (H4 _) fun r11 => by exact .const _))))))
structure UN where
  x1 : Int
  h0 : Qe
  h1 : Qd
  h2 : Qd
structure Xc where
  h0 : Qe
  h1 : Qd
abbrev PX := UN → Option Xc
def WA (C0 : Xf) (C1 : UK) (a : UN) : Option (UN ⊕ Xc) := ((C0 a.x1 a.h0).bind fun r1 => (bif (r1.1 == 0) then (some (.inr (Xc.mk r1.2 a.h2))) else ((C1 (w64 (a.x1 + 1)) r1.2).bind fun r2 => (some (.inl (UN.mk a.x1 r2.2 a.h1 (Qd.mk r1.1 (0 : Int) s_ [a.h2, r2.1])))))))
theorem Qcu {C0 : Nat → Xf} {D0 : Xf} (H0 : Cv2 C0 D0) {C1 : Nat → UK} {D1 : UK} (H1 : Cv2 C1 D1) (a : UN) : Cv (fun k => WA (C0 k) (C1 k) a) (WA D0 D1 a) := by
  unfold WA
  exact .bind (H0 _ _) fun r1 => .cond cst (.bind (H1 _ _) fun r2 => by exact .const _)
def JI.s (k : Nat) (C0 : Xf) (C1 : UK) : UN → Option Xc := iter (WA C0 C1) k
theorem JI.m {j k : Nat} (hj : j ≤ k) (C0 : Xf) (C1 : UK) (D0 : Xf) (D1 : UK) (H0 : Le2 C0 D0) (H1 : Le2 C1 D1) (a : UN) : Le (JI.s j C0 C1 a) (JI.s k D0 D1 a) := Le.iter (fun a => (Qcu (tw2 H0) (tw2 H1) a).1 0) hj a
noncomputable def JI.w (C0 : Xf) (C1 : UK) : UN → Option Xc := loopW (WA C0 C1)
theorem JI.cv (C0 : Nat → Xf) (C1 : Nat → UK) (D0 : Xf) (D1 : UK) (H0 : Cv2 C0 D0) (H1 : Cv2 C1 D1) (a : UN) : Cv (fun k => JI.s k (C0 k) (C1 k) a) (JI.w D0 D1 a) := Cv.iter (fun a => Qcu H0 H1 a) a
def YJ (C0 : Gz) (C1 : UK) (L2 : PX) (a1 : Int) (h0 : Qe) : Option (Qd × Qe) := (bif (decide (a1 > 4)) then ((C0 h0).bind fun r1 => (some (r1.1, r1.2))) else ((C1 (w64 (a1 + 1)) h0).bind fun r2 => ((L2 (UN.mk a1 r2.2 (Qd.mk (0 : Int) (0 : Int) s_ ([] : List Qd)) r2.1)).bind (fun (o3 : Xc) => (some (o3.h1, o3.h0))))))
theorem Qeh {C0 : Nat → Gz} {D0 : Gz} (H0 : Cv1 C0 D0) {C1 : Nat → UK} {D1 : UK} (H1 : Cv2 C1 D1) {L2 : Nat → PX} {M2 : PX} (N2 : Cv1 L2 M2) (a1 : Int) (h0 : Qe) : Cv (fun k => YJ (C0 k) (C1 k) (L2 k) a1 h0) (YJ D0 D1 M2 a1 h0) := by
  unfold YJ
  exact .cond (.bind (H0 _) fun r1 => by exact .const _) (.bind (H1 _ _) fun r2 => .bind (N2 _) (fun o3 => by exact .const _))
mutual
def QS.s : Nat → Bool → Qe → Option (Qd × Qe)
  | 0, _, _ => none
  | k + 1, a1, h0 => W2 (fun a1 h0 => Qs.s k a1 h0) (Ub.s k) (fun h0 => QR.s k h0) a1 h0
termination_by structural k => k
def QR.s : Nat → Qe → Option (Qd × Qe)
  | 0, _ => none
  | k + 1, h0 => Xg (Ub.s k) (fun a1 h0 => QS.s k a1 h0) (Ug.s k) (Vk.s k) (VC.s k) h0
termination_by structural k => k
def Qs.s : Nat → Int → Qe → Option (Qd × Qe)
  | 0, _, _ => none
  | k + 1, a1, h0 => YJ (fun h0 => QR.s k h0) (fun a1 h0 => Qs.s k a1 h0) (JI.s k (J9.s k) (fun a1 h0 => Qs.s k a1 h0)) a1 h0
termination_by structural k => k
end
theorem Gk : ∀ (k : Nat), (∀ (a1 : Bool) (h0 : Qe), Le (QS.s k a1 h0) (QS.s (k + 1) a1 h0)) ∧ (∀ (h0 : Qe), Le (QR.s k h0) (QR.s (k + 1) h0)) ∧ (∀ (a1 : Int) (h0 : Qe), Le (Qs.s k a1 h0) (Qs.s (k + 1) a1 h0))
  | 0 => ⟨fun _ _ _ h => (nomatch h), fun _ _ h => (nomatch h), fun _ _ _ h => (nomatch h)⟩
  | k + 1 => by
    obtain ⟨i_r3_reader_inner, i_r3_reader_one, i_r3_reader_two⟩ := Gk k
    exact ⟨fun a1 h0 => (QcN (tw2 (i_r3_reader_two)) (tw2 (fun a1 h0 => (Ub.cv a1 h0).1 k)) (tw1 (i_r3_reader_one)) a1 h0).1 0,
      fun h0 => (Qeg (tw2 (fun a1 h0 => (Ub.cv a1 h0).1 k)) (tw2 (i_r3_reader_inner)) (tw2 (fun a1 h0 => (Ug.cv a1 h0).1 k)) (tw2 (fun a0 a1 => (Vk.cv a0 a1).1 k)) (tw1 (fun h0 => (VC.cv h0).1 k)) h0).1 0,
      fun a1 h0 => (Qeh (tw1 (i_r3_reader_one)) (tw2 (i_r3_reader_two)) (tw1 (JI.m (Nat.le_succ k) (J9.s k) (Qs.s k) (J9.s (k + 1)) (Qs.s (k + 1)) (fun a1 h0 => (J9.cv a1 h0).1 k) (i_r3_reader_two))) a1 h0).1 0⟩
theorem QS.mono (k : Nat) : ∀ (a1 : Bool) (h0 : Qe), Le (QS.s k a1 h0) (QS.s (k + 1) a1 h0) := (Gk k).1
theorem QR.mono (k : Nat) : ∀ (h0 : Qe), Le (QR.s k h0) (QR.s (k + 1) h0) := (Gk k).2.1
theorem Qs.mono (k : Nat) : ∀ (a1 : Int) (h0 : Qe), Le (Qs.s k a1 h0) (Qs.s (k + 1) a1 h0) := (Gk k).2.2
noncomputable def QS (a1 : Bool) (h0 : Qe) : Option (Qd × Qe) := lim fun k => QS.s k a1 h0
theorem QS.cv (a1 : Bool) (h0 : Qe) : Cv (fun k => QS.s k a1 h0) (QS a1 h0) := .lim fun k => QS.mono k a1 h0
noncomputable def QR (h0 : Qe) : Option (Qd × Qe) := lim fun k => QR.s k h0
theorem QR.cv (h0 : Qe) : Cv (fun k => QR.s k h0) (QR h0) := .lim fun k => QR.mono k h0
noncomputable def Qs (a1 : Int) (h0 : Qe) : Option (Qd × Qe) := lim fun k => Qs.s k a1 h0
theorem Qs.cv (a1 : Int) (h0 : Qe) : Cv (fun k => Qs.s k a1 h0) (Qs a1 h0) := .lim fun k => Qs.mono k a1 h0
noncomputable def JI : UN → Option Xc := JI.w J9 Qs
theorem JI.eq (a : UN) : JI a = (WA J9 Qs a).bind (Sum.elim JI some) := UO _ _
theorem QS.eq (a1 : Bool) (h0 : Qe) : QS a1 h0 = W2 Qs Ub QR a1 h0 := Cv.uniq (QS.cv a1 h0).shift (QcN Qs.cv Ub.cv QR.cv a1 h0)
theorem QR.eq (h0 : Qe) : QR h0 = Xg Ub QS Ug Vk VC h0 := Cv.uniq (QR.cv h0).shift (Qeg Ub.cv QS.cv Ug.cv Vk.cv VC.cv h0)
theorem Qs.eq (a1 : Int) (h0 : Qe) : Qs a1 h0 = YJ QR Qs JI a1 h0 := Cv.uniq (Qs.cv a1 h0).shift (Qeh QR.cv Qs.cv (JI.cv (fun k => J9.s k) (fun k => Qs.s k) J9 Qs J9.cv Qs.cv) a1 h0)
def Qc9 (C0 : UK) (C1 : FR) (a0 : ByteArray) : Option (Qd × Bool) := ((C0 (0 : Int) (Qe.mk a0 (0 : Int) (0 : Int) false)).bind fun r1 => ((C1 r1.2).bind fun r2 => (bif r2.Bad then (some ((Qd.mk (0 : Int) (0 : Int) s_ ([] : List Qd)), false)) else (bif (decide (r2.P < ((a0.size : Nat) : Int))) then (some ((Qd.mk (0 : Int) (0 : Int) s_ ([] : List Qd)), false)) else (some (r1.1, true))))))
noncomputable def Qbr (a0 : ByteArray) : Option (Qd × Bool) := Qc9 Qs U6 a0
theorem Qbr.eq (a0 : ByteArray) : Qbr a0 = Qc9 Qs U6 a0 := rfl
def Fi (r : ByteArray) : AV × Heap := (xs r, [])
abbrev Sy := Int → Option ByteArray
abbrev Qei (a0 : Int) : List AV × Heap := ([xi a0], [])
abbrev SJ (w : Cf) (a0 : Int) : Option AH := w 38 (Qei a0).1 (Qei a0).2
abbrev QnV (w : Cf) (c : Sy) : Prop := ∀ (a0 : Int) (r : ByteArray), c a0 = some r → SJ w a0 = some (Fi r)
def Pn (C0 : YH) (a0 : Int) : Option ByteArray := ((C0 a0 h_20).bind fun r1 => (some r1.1.Name))
def Qej (P : Pg) (w : Cf) (C0 : YH) (a0 : Int) : Tr ByteArray AH := (.call (Qh9 w a0 h_20) (C0 a0 h_20) SI fun r1 => (rt Fi r1.1.Name))
theorem Qrg (w : Cf) (C0 : YH) (a0 : Int) : (Qej pp w C0 a0).norm (bodyT pp w G 38 (Qei a0).1 (Qei a0).2) = Qej pp w C0 a0 := by kernel_rfl
theorem Qrh (P : Pg) (w : Cf) (lp : Lo) (C0 : YH) (K0 : QjH w C0) (a0 : Int) : (Qej P w C0 a0).ok lp Fi := fun r1 hr1 => ⟨K0 _ _ _ hr1, rfl⟩
theorem Qri {C0 : Nat → YH} {D0 : YH} (H0 : Cv2 C0 D0) (a0 : Int) : Cv (fun k => Pn (C0 k) a0) (Pn D0 a0) := by
  unfold Pn
  exact .bind (H0 _ _) fun r1 => by exact .const _
def YU.s : Nat → Int → Option ByteArray
  | 0, _ => none
  | k + 1, a0 => Pn (We.s k) a0
theorem YU.ok : ∀ (k : Nat), QnV (ev k) (YU.s k)
  | 0, _, _, h => (nomatch h)
  | k + 1, a0, r, h => fn_ok rfl (Qej pp (ev k) (We.s k) a0) (Qrg _ _ a0) (Qrh _ _ _ _ (We.ok k) a0) h
noncomputable def YU (a0 : Int) : Option ByteArray := Pn We a0
theorem YU.cv (a0 : Int) : Cv (fun k => YU.s k a0) (YU a0) := .un rfl (Qri We.cv a0)
theorem YU.eq (a0 : Int) : YU a0 = Pn We a0 := rfl
def Qid (C0 : YH) (a0 : ByteArray) : Option (Int × Bool) := ((C0 (-1 : Int) a0).bind fun r1 => (some (r1.2.1, r1.2.2)))
noncomputable def QfI (a0 : ByteArray) : Option (Int × Bool) := Qid We a0
theorem QfI.eq (a0 : ByteArray) : QfI a0 = Qid We a0 := rfl
def Qek (r : J6) : AV × Heap := (.agg (SU r), [])
abbrev Sz := Int → (List Int) → Option J6
abbrev Qel (a0 : Int) (a1 : (List Int)) : List AV × Heap := ([xi a0, .sl (QH a1)], [])
abbrev Ql4 (w : Cf) (a0 : Int) (a1 : (List Int)) : Option AH := w 35 (Qel a0 a1).1 (Qel a0 a1).2
abbrev QnW (w : Cf) (c : Sz) : Prop := ∀ (a0 : Int) (a1 : (List Int)) (r : J6), c a0 a1 = some r → Ql4 w a0 a1 = some (Qek r)
structure J1 where
  x1 : (List Int)
  x6 : (List ByteArray)
  x7 : Int
  h0 : J6
  h1 : J6
structure VE where
  h0 : J6
  h1 : J6
def GM (a : J1) : St := { n := 43, nx := 4, env := [(1, .sl (QH a.x1)), (4, .ptr 0 0), (5, .ptr 1 0), (6, .sl (Ql a.x6)), (7, xi a.x7)], heap := [(0, .box [0, 1] [xi a.h0.Op, .arr 2]), (1, .box [0, 1] [xi a.h1.Op, .arr 3]), (2, .arr true 1 (QH a.h0.F)), (3, .arr true 1 (QH a.h1.F))] }
def Po (a : VE) : Ex × St := (.exit 0, { n := 43, nx := 4, env := [(4, .ptr 0 0), (5, .ptr 1 0)], heap := [(0, .box [0, 1] [xi a.h0.Op, .arr 2]), (1, .box [0, 1] [xi a.h1.Op, .arr 3]), (2, .arr true 1 (QH a.h0.F)), (3, .arr true 1 (QH a.h1.F))] })
abbrev EP := J1 → Option VE
abbrev Qpa (P : Pg) (lp : Lo) (l : EP) : Prop := ∀ (a : J1) (r : VE), l a = some r → lp (loopAt P 35 4) (GM a) = some (Po r)
def YK (C0 : XD) (a : J1) : Option (J1 ⊕ VE) := (bif (decide (a.x7 < (((a.x6.length) : Nat) : Int))) then (bif (decide (a.x7 < (((a.x1.length) : Nat) : Int))) then (bif (decide (0 ≤ a.x7)) then ((a.x1[(Int.toNat a.x7)]?).bind fun e1 => ((a.x6[(Int.toNat a.x7)]?).bind fun e2 => ((C0 e2 e1).bind fun r3 => (bif (decide ((a.h1.F.length + [r3].length) * 8 ≤ most)) then (some (.inl (J1.mk a.x1 a.x6 (w64 (a.x7 + 1)) a.h0 (J6.mk a.h1.Op (a.h1.F ++ [r3]))))) else none)))) else none) else (bif (decide (0 ≤ a.x7)) then ((a.x6[(Int.toNat a.x7)]?).bind fun e4 => ((C0 e4 a.x7).bind fun r5 => (bif (decide ((a.h1.F.length + [r5].length) * 8 ≤ most)) then (some (.inl (J1.mk a.x1 a.x6 (w64 (a.x7 + 1)) a.h0 (J6.mk a.h1.Op (a.h1.F ++ [r5]))))) else none))) else none)) else (some (.inr (VE.mk a.h0 a.h1))))
def QaY (P : Pg) (w : Cf) (C0 : XD) (a : J1) : Tr (J1 ⊕ VE) XS := (.num ((Ql a.x6).length) (a.x6.length) (.as (decide (a.x7 < (((a.x6.length) : Nat) : Int))) (.num ((QH a.x1).length) (a.x1.length) (.as (decide (a.x7 < (((a.x1.length) : Nat) : Int))) (let u121 := (decide (0 ≤ a.x7)); .as u121 (.row ((QH a.x1)[(Int.toNat a.x7)]?) (a.x1[(Int.toNat a.x7)]?) XG fun (e1 : Int) => (.yes u121 (.row ((Ql a.x6)[(Int.toNat a.x7)]?) (a.x6[(Int.toNat a.x7)]?) UP fun (e2 : ByteArray) => (.call (QdL w e2 e1) (C0 e2 e1) JQ fun r3 => (.rows [[xi r3]] (QH [r3]) (.yes (decide ((QH [r3]).all (fun r => r.length == 1) = true)) (.ask (decide (((QH a.h1.F).length + (QH [r3]).length) * 8 ≤ most)) (decide ((a.h1.F.length + [r3].length) * 8 ≤ most)) (.rows ((QH a.h1.F) ++ (QH [r3])) (QH (a.h1.F ++ [r3])) (lf GM (J1.mk a.x1 a.x6 (w64 (a.x7 + 1)) a.h0 (J6.mk a.h1.Op (a.h1.F ++ [r3]))))) .fail))))))) .fail) (.as (decide (0 ≤ a.x7)) (.row ((Ql a.x6)[(Int.toNat a.x7)]?) (a.x6[(Int.toNat a.x7)]?) UP fun (e4 : ByteArray) => (.call (QdL w e4 a.x7) (C0 e4 a.x7) JQ fun r5 => (.rows [[xi r5]] (QH [r5]) (.yes (decide ((QH [r5]).all (fun r => r.length == 1) = true)) (.ask (decide (((QH a.h1.F).length + (QH [r5]).length) * 8 ≤ most)) (decide ((a.h1.F.length + [r5].length) * 8 ≤ most)) (.rows ((QH a.h1.F) ++ (QH [r5])) (QH (a.h1.F ++ [r5])) (lf GM (J1.mk a.x1 a.x6 (w64 (a.x7 + 1)) a.h0 (J6.mk a.h1.Op (a.h1.F ++ [r5]))))) .fail))))) .fail))) (rx Po (VE.mk a.h0 a.h1))))
theorem QnX (w : Cf) (C0 : XD) (a : J1) : (QaY pp w C0 a).norm (roundT pp G.kd w 0 (G.an 35) (loopAt pp 35 4) (GM a)) = QaY pp w C0 a := by kernel_rfl
theorem QnY (P : Pg) (w : Cf) (lp : Lo) (C0 : XD) (K0 : QeW w C0) (a : J1) : (QaY P w C0 a).ok lp (Sum.elim (fun a => (.norm, GM a)) Po) := ⟨(Jy _), ⟨rfl, fun q0 => ⟨(VU _), ⟨rfl, fun q1 => ⟨rfl, fun q2 => fun e1 h => ⟨Vl h, ⟨q2, fun e2 h => ⟨Vq h, fun r3 hr3 => ⟨K0 _ _ _ hr3, ⟨(UF [r3]), ⟨(decide_eq_true (Ql1 _)), ⟨(by rw [VU, VU]), fun q3 => ⟨(Qhp _ _), rfl⟩, fun q3 => trivial⟩⟩⟩⟩⟩⟩⟩, fun q2 => trivial⟩, fun q1 => ⟨rfl, fun q2 => fun e4 h => ⟨Vq h, fun r5 hr5 => ⟨K0 _ _ _ hr5, ⟨(UF [r5]), ⟨(decide_eq_true (Ql1 _)), ⟨(by rw [VU, VU]), fun q3 => ⟨(Qhp _ _), rfl⟩, fun q3 => trivial⟩⟩⟩⟩⟩, fun q2 => trivial⟩⟩⟩, fun q0 => rfl⟩⟩
theorem QnZ {C0 : Nat → XD} {D0 : XD} (H0 : Cv2 C0 D0) (a : J1) : Cv (fun k => YK (C0 k) a) (YK D0 a) := by
  unfold YK
  exact .cond (.cond (.cond (.bind (.const _) fun e1 => .bind (.const _) fun e2 => .bind (H0 _ _) fun r3 => by exact .const _) cst) (.cond (.bind (.const _) fun e4 => .bind (H0 _ _) fun r5 => by exact .const _) cst)) cst
def Vz.s (k : Nat) (C0 : XD) : J1 → Option VE := iter (YK C0) k
theorem QmO (w : Cf) (k : Nat) (C0 : XD) (K0 : QeW w C0) (a : J1) (r : VE) (h : Vz.s k C0 a = some r) : loopsF pp G.kd w 0 (G.an 35) k (loopAt pp 35 4) (GM a) = some (Po r) :=
  VZ (fun a => QaY pp w C0 a) (fun _ => rfl) (fun a => QnX w _ a) (fun a => QnY _ w _ _ K0 a) (fun r => nofun) h
noncomputable def Vz.w (C0 : XD) : J1 → Option VE := loopW (YK C0)
theorem Vz.cv (C0 : Nat → XD) (D0 : XD) (H0 : Cv2 C0 D0) (a : J1) : Cv (fun k => Vz.s k (C0 k) a) (Vz.w D0 a) := Cv.iter (fun a => QnZ H0 a) a
def Pp (C0 : XP) (C1 : Yr) (C2 : Ys) (L3 : EP) (a0 : Int) (a1 : (List Int)) : Option J6 := ((C0 a0 (66 : Int)).bind fun r1 => ((C1 r1).bind fun r2 => ((C2 r2).bind fun r3 => ((L3 (J1.mk a1 r3 (0 : Int) (J6.mk (0 : Int) ([] : List Int)) (J6.mk r1 ([] : List Int)))).bind (fun (o4 : VE) => (some o4.h1))))))
def Qem (P : Pg) (w : Cf) (C0 : XP) (C1 : Yr) (C2 : Ys) (L3 : EP) (a0 : Int) (a1 : (List Int)) : Tr J6 AH := (.call (Yz w a0 (zi 66)) (C0 a0 (zi 66)) WV fun r1 => (.call (Qgj w r1) (C1 r1) QaR fun r2 => (.call (Qgk w r2) (C2 r2) QaS fun r3 => (.loop (loopAt P 35 4) (GM (J1.mk a1 r3 i0 (J6.mk i0 ([] : List Int)) (J6.mk r1 ([] : List Int)))) (L3 (J1.mk a1 r3 i0 (J6.mk i0 ([] : List Int)) (J6.mk r1 ([] : List Int)))) Po (fun (o4 : VE) => (rt Qek o4.h1))))))
theorem Qrj (w : Cf) (C0 : XP) (C1 : Yr) (C2 : Ys) (L3 : EP) (a0 : Int) (a1 : (List Int)) : (Qem pp w C0 C1 C2 L3 a0 a1).norm (bodyT pp w G 35 (Qel a0 a1).1 (Qel a0 a1).2) = Qem pp w C0 C1 C2 L3 a0 a1 := by kernel_rfl
theorem Qrk (P : Pg) (w : Cf) (lp : Lo) (C0 : XP) (C1 : Yr) (C2 : Ys) (L3 : EP) (K0 : Qgl w C0) (K1 : Qia w C1) (K2 : Qib w C2) (N3 : Qpa P lp L3) (a0 : Int) (a1 : (List Int)) : (Qem P w C0 C1 C2 L3 a0 a1).ok lp Qek := fun r1 hr1 => ⟨K0 _ _ _ hr1, fun r2 hr2 => ⟨K1 _ _ hr2, fun r3 hr3 => ⟨K2 _ _ hr3, fun o4 ho4 => ⟨N3 _ _ ho4, rfl⟩⟩⟩⟩
theorem Qrl {C0 : Nat → XP} {D0 : XP} (H0 : Cv2 C0 D0) {C1 : Nat → Yr} {D1 : Yr} (H1 : Cv1 C1 D1) {C2 : Nat → Ys} {D2 : Ys} (H2 : Cv1 C2 D2) {L3 : Nat → EP} {M3 : EP} (N3 : Cv1 L3 M3) (a0 : Int) (a1 : (List Int)) : Cv (fun k => Pp (C0 k) (C1 k) (C2 k) (L3 k) a0 a1) (Pp D0 D1 D2 M3 a0 a1) := by
  unfold Pp
  exact .bind (H0 _ _) fun r1 => .bind (H1 _) fun r2 => .bind (H2 _) fun r3 => .bind (N3 _) (fun o4 => by exact .const _)
def YV.s : Nat → Int → (List Int) → Option J6
  | 0, _, _ => none
  | k + 1, a0, a1 => Pp (U0.s k) (Vy.s k) (Vj.s k) (Vz.s k (UT.s k)) a0 a1
theorem YV.ok : ∀ (k : Nat), QnW (ev k) (YV.s k)
  | 0, _, _, _, h => (nomatch h)
  | k + 1, a0, a1, r, h => fn_ok rfl (Qem pp (ev k) (U0.s k) (Vy.s k) (Vj.s k) (Vz.s k (UT.s k)) a0 a1) (Qrj _ _ _ _ _ a0 a1) (Qrk _ _ _ _ _ _ _ (U0.ok k) (Vy.ok k) (Vj.ok k) (QmO _ k _ (UT.ok k)) a0 a1) h
noncomputable def Vz : J1 → Option VE := Vz.w UT
theorem Vz.eq (a : J1) : Vz a = (YK UT a).bind (Sum.elim Vz some) := UO _ _
noncomputable def YV (a0 : Int) (a1 : (List Int)) : Option J6 := Pp U0 Vy Vj Vz a0 a1
theorem YV.cv (a0 : Int) (a1 : (List Int)) : Cv (fun k => YV.s k a0 a1) (YV a0 a1) := .un rfl (Qrl U0.cv Vy.cv Vj.cv (Vz.cv (fun k => UT.s k) UT UT.cv) a0 a1)
theorem YV.eq (a0 : Int) (a1 : (List Int)) : YV a0 a1 = Pp U0 Vy Vj Vz a0 a1 := rfl
def Gl (r : (Int × Int)) : AV × Heap := (.tup [xi r.1, xi r.2], [])
abbrev Pq := Int → Option (Int × Int)
abbrev Qda (a0 : Int) : List AV × Heap := ([xi a0], [])
abbrev QaZ (w : Cf) (a0 : Int) : Option AH := w 133 (Qda a0).1 (Qda a0).2
abbrev Ql5 (w : Cf) (c : Pq) : Prop := ∀ (a0 : Int) (r : (Int × Int)), c a0 = some r → QaZ w a0 = some (Gl r)
def QkI (a0 : Int) : Option (Int × Int) := (bif (decide (a0 < (-1099511627776 : Int))) then (some ((0 : Int), (6 : Int))) else (bif (decide (a0 > 1099511627776)) then (some ((0 : Int), (6 : Int))) else (some (a0, (0 : Int)))))
def Qdb (P : Pg) (w : Cf) (a0 : Int) : Tr (Int × Int) AH := (let u122 := (decide (a0 < (-1099511627776 : Int))); .as u122 (yesN 2 u122 (.yes true (rt Gl (i0, (zi 6))))) (noN 2 u122 (.as (decide (a0 > 1099511627776)) (rt Gl (i0, (zi 6))) (rt Gl (a0, i0)))))
theorem Qqz (w : Cf) (a0 : Int) : (Qdb pp w a0).norm (bodyT pp w G 133 (Qda a0).1 (Qda a0).2) = Qdb pp w a0 := by kernel_rfl
theorem QqA (P : Pg) (w : Cf) (lp : Lo) (a0 : Int) : (Qdb P w a0).ok lp Gl := ⟨rfl, fun q0 => Qr 2 (q0) (⟨rfl, rfl⟩), fun q0 => noN_ok 2 (q0) (⟨rfl, fun q1 => rfl, fun q1 => rfl⟩)⟩
def GN.s : Nat → Int → Option (Int × Int)
  | 0, _ => none
  | k + 1, a0 => QkI a0
theorem GN.ok : ∀ (k : Nat), Ql5 (ev k) (GN.s k)
  | 0, _, _, h => (nomatch h)
  | k + 1, a0, r, h => fn_ok rfl (Qdb pp (ev k) a0) (Qqz _ a0) (QqA _ _ _ a0) h
noncomputable def GN (a0 : Int) : Option (Int × Int) := QkI a0
theorem GN.cv (a0 : Int) : Cv (fun k => GN.s k a0) (GN a0) := .un rfl (by exact .const _)
def Ey (r : (Int × Int)) : AV × Heap := (.tup [xi r.1, xi r.2], [])
abbrev Pr := Int → Int → Option (Int × Int)
abbrev Qdc (a0 : Int) (a1 : Int) : List AV × Heap := ([xi a0, xi a1], [])
abbrev Qgm (w : Cf) (a0 : Int) (a1 : Int) : Option AH := w 134 (Qdc a0 a1).1 (Qdc a0 a1).2
abbrev Ql6 (w : Cf) (c : Pr) : Prop := ∀ (a0 : Int) (a1 : Int) (r : (Int × Int)), c a0 a1 = some r → Qgm w a0 a1 = some (Ey r)
def QkJ (a0 : Int) (a1 : Int) : Option (Int × Int) := (bif (a0 == 0) then (some ((0 : Int), (0 : Int))) else (bif (a1 == 0) then (some ((0 : Int), (0 : Int))) else (bif (decide ((if (w64 ((0 : Int) - a1)) > a1 then (w64 ((0 : Int) - a1)) else a1) ≠ 0)) then (bif (decide ((if (w64 ((0 : Int) - a0)) > a0 then (w64 ((0 : Int) - a0)) else a0) > (w64 (Int.tdiv (1099511627776 : Int) (if (w64 ((0 : Int) - a1)) > a1 then (w64 ((0 : Int) - a1)) else a1))))) then (some ((0 : Int), (6 : Int))) else (some ((w64 (a0 * a1)), (0 : Int)))) else none)))
def Qdd (P : Pg) (w : Cf) (a0 : Int) (a1 : Int) : Tr (Int × Int) AH := (let u123 := (a0 == 0); .as u123 (yesN 2 u123 (.yes true (rt Ey (i0, i0)))) (noN 2 u123 (.as (a1 == 0) (rt Ey (i0, i0)) (.as (decide ((if (w64 (i0 - a1)) > a1 then (w64 (i0 - a1)) else a1) ≠ 0)) (.as (decide ((if (w64 (i0 - a0)) > a0 then (w64 (i0 - a0)) else a0) > (w64 (Int.tdiv (zi 1099511627776) (if (w64 (i0 - a1)) > a1 then (w64 (i0 - a1)) else a1))))) (rt Ey (i0, (zi 6))) (rt Ey ((w64 (a0 * a1)), i0))) .fail))))
theorem QqB (w : Cf) (a0 : Int) (a1 : Int) : (Qdd pp w a0 a1).norm (bodyT pp w G 134 (Qdc a0 a1).1 (Qdc a0 a1).2) = Qdd pp w a0 a1 := by kernel_rfl
theorem QqC (P : Pg) (w : Cf) (lp : Lo) (a0 : Int) (a1 : Int) : (Qdd P w a0 a1).ok lp Ey := ⟨rfl, fun q0 => Qr 2 (q0) (⟨rfl, rfl⟩), fun q0 => noN_ok 2 (q0) (⟨rfl, fun q1 => rfl, fun q1 => ⟨rfl, fun q2 => ⟨rfl, fun q3 => rfl, fun q3 => rfl⟩, fun q2 => trivial⟩⟩)⟩
def GO.s : Nat → Int → Int → Option (Int × Int)
  | 0, _, _ => none
  | k + 1, a0, a1 => QkJ a0 a1
theorem GO.ok : ∀ (k : Nat), Ql6 (ev k) (GO.s k)
  | 0, _, _, _, h => (nomatch h)
  | k + 1, a0, a1, r, h => fn_ok rfl (Qdd pp (ev k) a0 a1) (QqB _ a0 a1) (QqC _ _ _ a0 a1) h
noncomputable def GO (a0 : Int) (a1 : Int) : Option (Int × Int) := QkJ a0 a1
theorem GO.cv (a0 : Int) (a1 : Int) : Cv (fun k => GO.s k a0 a1) (GO a0 a1) := .un rfl (by exact .const _)
def XF (r : (Int × Int)) : AV × Heap := (.tup [xi r.1, xi r.2], [])
abbrev Fy := Int → Int → Int → Option (Int × Int)
abbrev Qb0 (a0 : Int) (a1 : Int) (a2 : Int) : List AV × Heap := ([xi a0, xi a1, xi a2], [])
abbrev Qjm (w : Cf) (a0 : Int) (a1 : Int) (a2 : Int) : Option AH := w 86 (Qb0 a0 a1 a2).1 (Qb0 a0 a1 a2).2
abbrev QkK (w : Cf) (c : Fy) : Prop := ∀ (a0 : Int) (a1 : Int) (a2 : Int) (r : (Int × Int)), c a0 a1 a2 = some r → Qjm w a0 a1 a2 = some (XF r)
def Sd (C0 : Pq) (C1 : Pr) (a0 : Int) (a1 : Int) (a2 : Int) : Option (Int × Int) := (bif (a0 == 5) then ((C0 (w64 (a1 + a2))).bind fun r1 => (some (r1.1, r1.2))) else (bif (a0 == 6) then ((C0 (w64 (a1 - a2))).bind fun r2 => (some (r2.1, r2.2))) else (bif (a0 == 7) then ((C1 a1 a2).bind fun r3 => (some (r3.1, r3.2))) else (bif (a0 == 8) then ((C0 (andI .i64 a1 a2)).bind fun r4 => (some (r4.1, r4.2))) else (bif (a0 == 9) then ((C0 (orI .i64 a1 a2)).bind fun r5 => (some (r5.1, r5.2))) else (bif (decide (a2 < 0)) then (some ((0 : Int), (6 : Int))) else (bif (decide (a2 > 40)) then (some ((0 : Int), (6 : Int))) else (bif (a0 == 11) then (bif (decide (0 ≤ (IntKind.u64.wrap a2))) then (some ((shrI .i64 a1 (IntKind.u64.wrap a2)), (0 : Int))) else none) else (bif (decide (0 ≤ (IntKind.u64.wrap a2))) then ((C1 a1 (shlI .i64 (1 : Int) (IntKind.u64.wrap a2))).bind fun r6 => (some (r6.1, r6.2))) else none)))))))))
def Qb1 (P : Pg) (w : Cf) (C0 : Pq) (C1 : Pr) (a0 : Int) (a1 : Int) (a2 : Int) : Tr (Int × Int) AH := (.as (a0 == 5) (.call (QaZ w (w64 (a1 + a2))) (C0 (w64 (a1 + a2))) Gl fun r1 => (rt XF (r1.1, r1.2))) (.as (a0 == 6) (.call (QaZ w (w64 (a1 - a2))) (C0 (w64 (a1 - a2))) Gl fun r2 => (rt XF (r2.1, r2.2))) (.as (a0 == 7) (.call (Qgm w a1 a2) (C1 a1 a2) Ey fun r3 => (rt XF (r3.1, r3.2))) (.as (a0 == 8) (.call (QaZ w (andI .i64 a1 a2)) (C0 (andI .i64 a1 a2)) Gl fun r4 => (rt XF (r4.1, r4.2))) (.as (a0 == 9) (.call (QaZ w (orI .i64 a1 a2)) (C0 (orI .i64 a1 a2)) Gl fun r5 => (rt XF (r5.1, r5.2))) (let u124 := (decide (a2 < 0)); .as u124 (yesN 2 u124 (.yes true (rt XF (i0, (zi 6))))) (noN 2 u124 (.as (decide (a2 > 40)) (rt XF (i0, (zi 6))) (.as (a0 == 11) (.as (decide (0 ≤ (IntKind.u64.wrap a2))) (rt XF ((shrI .i64 a1 (IntKind.u64.wrap a2)), i0)) .fail) (.as (decide (0 ≤ (IntKind.u64.wrap a2))) (.call (Qgm w a1 (shlI .i64 (zi 1) (IntKind.u64.wrap a2))) (C1 a1 (shlI .i64 (zi 1) (IntKind.u64.wrap a2))) Ey fun r6 => (rt XF (r6.1, r6.2))) .fail))))))))))
theorem Qpb (w : Cf) (C0 : Pq) (C1 : Pr) (a0 : Int) (a1 : Int) (a2 : Int) : (Qb1 pp w C0 C1 a0 a1 a2).norm (bodyT pp w G 86 (Qb0 a0 a1 a2).1 (Qb0 a0 a1 a2).2) = Qb1 pp w C0 C1 a0 a1 a2 := by kernel_rfl
theorem Qpc (P : Pg) (w : Cf) (lp : Lo) (C0 : Pq) (C1 : Pr) (K0 : Ql5 w C0) (K1 : Ql6 w C1) (a0 : Int) (a1 : Int) (a2 : Int) : (Qb1 P w C0 C1 a0 a1 a2).ok lp XF := ⟨rfl, fun q0 => fun r1 hr1 => ⟨K0 _ _ hr1, rfl⟩, fun q0 => ⟨rfl, fun q1 => fun r2 hr2 => ⟨K0 _ _ hr2, rfl⟩, fun q1 => ⟨rfl, fun q2 => fun r3 hr3 => ⟨K1 _ _ _ hr3, rfl⟩, fun q2 => ⟨rfl, fun q3 => fun r4 hr4 => ⟨K0 _ _ hr4, rfl⟩, fun q3 => ⟨rfl, fun q4 => fun r5 hr5 => ⟨K0 _ _ hr5, rfl⟩, fun q4 => ⟨rfl, fun q5 => Qr 2 (q5) (⟨rfl, rfl⟩), fun q5 => noN_ok 2 (q5) (⟨rfl, fun q6 => rfl, fun q6 => ⟨rfl, fun q7 => ⟨rfl, fun q8 => rfl, fun q8 => trivial⟩, fun q7 => ⟨rfl, fun q8 => fun r6 hr6 => ⟨K1 _ _ _ hr6, rfl⟩, fun q8 => trivial⟩⟩⟩)⟩⟩⟩⟩⟩⟩
theorem Qpd {C0 : Nat → Pq} {D0 : Pq} (H0 : Cv1 C0 D0) {C1 : Nat → Pr} {D1 : Pr} (H1 : Cv2 C1 D1) (a0 : Int) (a1 : Int) (a2 : Int) : Cv (fun k => Sd (C0 k) (C1 k) a0 a1 a2) (Sd D0 D1 a0 a1 a2) := by
  unfold Sd
  exact .cond (.bind (H0 _) fun r1 => by exact .const _) (.cond (.bind (H0 _) fun r2 => by exact .const _) (.cond (.bind (H1 _ _) fun r3 => by exact .const _) (.cond (.bind (H0 _) fun r4 => by exact .const _) (.cond (.bind (H0 _) fun r5 => by exact .const _) (.cond cst (.cond cst (.cond cst (.cond (.bind (H1 _ _) fun r6 => by exact .const _) cst))))))))
def Y0.s : Nat → Int → Int → Int → Option (Int × Int)
  | 0, _, _, _ => none
  | k + 1, a0, a1, a2 => Sd (GN.s k) (GO.s k) a0 a1 a2
theorem Y0.ok : ∀ (k : Nat), QkK (ev k) (Y0.s k)
  | 0, _, _, _, _, h => (nomatch h)
  | k + 1, a0, a1, a2, r, h => fn_ok rfl (Qb1 pp (ev k) (GN.s k) (GO.s k) a0 a1 a2) (Qpb _ _ _ a0 a1 a2) (Qpc _ _ _ _ _ (GN.ok k) (GO.ok k) a0 a1 a2) h
noncomputable def Y0 (a0 : Int) (a1 : Int) (a2 : Int) : Option (Int × Int) := Sd GN GO a0 a1 a2
theorem Y0.cv (a0 : Int) (a1 : Int) (a2 : Int) : Cv (fun k => Y0.s k a0 a1 a2) (Y0 a0 a1 a2) := .un rfl (Qpd GN.cv GO.cv a0 a1 a2)
def Yt (r : (Int × Int)) : AV × Heap := (.tup [xi r.1, xi r.2], [])
abbrev Xd := Qd → Int → (List Ut) → Option (Int × Int)
abbrev Qen (a0 : Qd) (a1 : Int) (a2 : (List Ut)) : List AV × Heap := ([.agg (UB a0), xi a1, .sl (Fh a2)], [])
abbrev Qeo (w : Cf) (a0 : Qd) (a1 : Int) (a2 : (List Ut)) : Option AH := w 41 (Qen a0 a1 a2).1 (Qen a0 a1 a2).2
abbrev QdM (w : Cf) (c : Xd) : Prop := ∀ (a0 : Qd) (a1 : Int) (a2 : (List Ut)) (r : (Int × Int)), c a0 a1 a2 = some r → Qeo w a0 a1 a2 = some (Yt r)
structure Uz where
  x2 : (List Ut)
  x8 : Int
  h0 : Qd
structure VF where
  x6 : Int
  x7 : Int
def Ff (a : Uz) : St := { n := 81, nx := 1, env := [(2, .sl (Fh a.x2)), (3, .ptr 0 0), (8, xi a.x8)], heap := [(0, .box [] (UB a.h0))] }
def QgL (a : VF) : Ex × St := (.ret, { n := 81, nx := 0, env := [(6, xi a.x6), (7, xi a.x7)], heap := [] })
def QgM (a : Unit) : Ex × St := (.exit 1, { n := 81, nx := 0, env := [], heap := [] })
def Ps (a : (VF ⊕ Unit)) : Ex × St := Sum.elim QgL QgM a
abbrev EQ := Uz → Option (VF ⊕ Unit)
abbrev Qpe (P : Pg) (lp : Lo) (l : EQ) : Prop := ∀ (a : Uz) (r : (VF ⊕ Unit)), l a = some r → lp (loopAt P 41 8) (Ff a) = some (Ps r)
def Qie (a : Uz) : Option (Uz ⊕ (VF ⊕ Unit)) := (bif (decide (a.x8 < (((a.x2.length) : Nat) : Int))) then (bif (decide (0 ≤ a.x8)) then ((a.x2[(Int.toNat a.x8)]?).bind fun e1 => (bif (eqS e1.Name a.h0.Name) then ((a.x2[(Int.toNat a.x8)]?).bind fun e2 => (some (.inr (.inl (VF.mk e2.Value (0 : Int)))))) else (some (.inl (Uz.mk a.x2 (w64 (a.x8 + 1)) a.h0))))) else none) else (some (.inr (.inr ()))))
def Qa0 (P : Pg) (w : Cf) (a : Uz) : Tr (Uz ⊕ (VF ⊕ Unit)) XS := (.num ((Fh a.x2).length) (a.x2.length) (.as (decide (a.x8 < (((a.x2.length) : Nat) : Int))) (let u125 := (decide (0 ≤ a.x8)); .as u125 (.row ((Fh a.x2)[(Int.toNat a.x8)]?) (a.x2[(Int.toNat a.x8)]?) Qb4 fun (e1 : Ut) => (.as (eqS e1.Name a.h0.Name) (.yes u125 (.row ((Fh a.x2)[(Int.toNat a.x8)]?) (a.x2[(Int.toNat a.x8)]?) Qb4 fun (e2 : Ut) => (rx Ps (.inl (VF.mk e2.Value i0))))) (lf Ff (Uz.mk a.x2 (w64 (a.x8 + 1)) a.h0)))) .fail) (rx Ps (.inr ()))))
theorem Qn0 (w : Cf) (a : Uz) : (Qa0 pp w a).norm (roundT pp G.kd w 0 (G.an 41) (loopAt pp 41 8) (Ff a)) = Qa0 pp w a := by kernel_rfl
theorem Qn1 (P : Pg) (w : Cf) (lp : Lo) (a : Uz) : (Qa0 P w a).ok lp (Sum.elim (fun a => (.norm, Ff a)) Ps) := ⟨(Qmv _), ⟨rfl, fun q0 => ⟨rfl, fun q1 => fun e1 h => ⟨QgB h, ⟨rfl, fun q2 => ⟨q1, fun e2 h => ⟨QgB h, rfl⟩⟩, fun q2 => rfl⟩⟩, fun q1 => trivial⟩, fun q0 => rfl⟩⟩
def WO.s (k : Nat) : Uz → Option (VF ⊕ Unit) := iter (Qie ) k
theorem QmP (w : Cf) (k : Nat) (a : Uz) (r : (VF ⊕ Unit)) (h : WO.s k a = some r) : loopsF pp G.kd w 0 (G.an 41) k (loopAt pp 41 8) (Ff a) = some (Ps r) :=
  VZ (fun a => Qa0 pp w a) (fun _ => rfl) (fun a => Qn0 w a) (fun a => Qn1 _ w _ a) (fun r => by cases r <;> nofun) h
theorem WO.m {j k : Nat} (hj : j ≤ k) (a : Uz) : Le (WO.s j a) (WO.s k a) := Le.iter (fun a => .refl _) hj a
noncomputable def WO.w : Uz → Option (VF ⊕ Unit) := loopW (Qie )
theorem WO.cv (a : Uz) : Cv (fun k => WO.s k a) (WO.w a) := Cv.iter (fun a => by exact .const _) a
def Qcv (C0 : Xd) (C1 : Fy) (L2 : EQ) (a0 : Qd) (a1 : Int) (a2 : (List Ut)) : Option (Int × Int) := (bif (a0.Kind == 1) then (some (a0.N, (0 : Int))) else (bif (a0.Kind == 3) then (some (a1, (0 : Int))) else (bif (a0.Kind == 2) then ((L2 (Uz.mk a2 (0 : Int) a0)).bind fun x => Sum.elim (fun (o1 : VF) => (some (o1.x6, o1.x7))) (fun (o2 : Unit) => (some ((0 : Int), (4 : Int)))) x) else ((a0.L[(Int.toNat 0)]?).bind fun e3 => ((C0 e3 a1 a2).bind fun r4 => (bif (r4.2 != 0) then (some ((0 : Int), r4.2)) else (bif (a0.Kind == 4) then (some ((w64 ((0 : Int) - r4.1)), (0 : Int))) else ((a0.L[(Int.toNat 1)]?).bind fun e5 => ((C0 e5 a1 a2).bind fun r6 => (bif (r6.2 != 0) then (some ((0 : Int), r6.2)) else ((C1 a0.Kind r4.1 r6.1).bind fun r7 => (some (r7.1, r7.2)))))))))))))
def Qep (P : Pg) (w : Cf) (C0 : Xd) (C1 : Fy) (L2 : EQ) (a0 : Qd) (a1 : Int) (a2 : (List Ut)) : Tr (Int × Int) AH := (.as (a0.Kind == 1) (rt Yt (a0.N, i0)) (.as (a0.Kind == 3) (rt Yt (a1, i0)) (.as (a0.Kind == 2) (.loop2 (loopAt P 41 8) (Ff (Uz.mk a2 i0 a0)) (L2 (Uz.mk a2 i0 a0)) QgL QgM (fun (o1 : VF) => (rt Yt (o1.x6, o1.x7))) (fun (o2 : Unit) => (rt Yt (i0, (zi 4))))) (.yes (decide (0 ≤ i0)) (.row ((V2 a0.L)[(Int.toNat 0)]?) (a0.L[(Int.toNat 0)]?) UB fun (e3 : Qd) => (.call (Qeo w e3 a1 a2) (C0 e3 a1 a2) Yt fun r4 => (.as (r4.2 != 0) (rt Yt (i0, r4.2)) (.as (a0.Kind == 4) (rt Yt ((w64 (i0 - r4.1)), i0)) (.yes (decide (0 ≤ (zi 1))) (.row ((V2 a0.L)[(Int.toNat 1)]?) (a0.L[(Int.toNat 1)]?) UB fun (e5 : Qd) => (.call (Qeo w e5 a1 a2) (C0 e5 a1 a2) Yt fun r6 => (.as (r6.2 != 0) (rt Yt (i0, r6.2)) (.call (Qjm w a0.Kind r4.1 r6.1) (C1 a0.Kind r4.1 r6.1) XF fun r7 => (rt Yt (r7.1, r7.2)))))))))))))))
theorem Qrm (w : Cf) (C0 : Xd) (C1 : Fy) (L2 : EQ) (a0 : Qd) (a1 : Int) (a2 : (List Ut)) : (Qep pp w C0 C1 L2 a0 a1 a2).norm (bodyT pp w G 41 (Qen a0 a1 a2).1 (Qen a0 a1 a2).2) = Qep pp w C0 C1 L2 a0 a1 a2 := by kernel_rfl
theorem Qrn (P : Pg) (w : Cf) (lp : Lo) (C0 : Xd) (C1 : Fy) (L2 : EQ) (K0 : QdM w C0) (K1 : QkK w C1) (N2 : Qpe P lp L2) (a0 : Qd) (a1 : Int) (a2 : (List Ut)) : (Qep P w C0 C1 L2 a0 a1 a2).ok lp Yt := ⟨rfl, fun q0 => rfl, fun q0 => ⟨rfl, fun q1 => rfl, fun q1 => ⟨rfl, fun q2 => ⟨fun o1 ho1 => ⟨N2 _ (.inl _) ho1, rfl⟩, fun o2 ho2 => ⟨N2 _ (.inr _) ho2, rfl⟩⟩, fun q2 => ⟨rfl, fun e3 h => ⟨Qe4 h, fun r4 hr4 => ⟨K0 _ _ _ _ hr4, ⟨rfl, fun q3 => rfl, fun q3 => ⟨rfl, fun q4 => rfl, fun q4 => ⟨rfl, fun e5 h => ⟨Qe4 h, fun r6 hr6 => ⟨K0 _ _ _ _ hr6, ⟨rfl, fun q5 => rfl, fun q5 => fun r7 hr7 => ⟨K1 _ _ _ _ hr7, rfl⟩⟩⟩⟩⟩⟩⟩⟩⟩⟩⟩⟩⟩
theorem Ql7 {C0 : Nat → Xd} {D0 : Xd} (H0 : Cv3 C0 D0) {C1 : Nat → Fy} {D1 : Fy} (H1 : Cv3 C1 D1) {L2 : Nat → EQ} {M2 : EQ} (N2 : Cv1 L2 M2) (a0 : Qd) (a1 : Int) (a2 : (List Ut)) : Cv (fun k => Qcv (C0 k) (C1 k) (L2 k) a0 a1 a2) (Qcv D0 D1 M2 a0 a1 a2) := by
  unfold Qcv
  exact .cond cst (.cond cst (.cond (.bind (N2 _) fun x => .sum (fun o1 => by exact .const _) (fun o2 => by exact .const _) x) (.bind (.const _) fun e3 => .bind (H0 _ _ _) fun r4 => .cond cst (.cond cst (.bind (.const _) fun e5 => .bind (H0 _ _ _) fun r6 => .cond cst (.bind (H1 _ _ _) fun r7 => by exact .const _))))))
def Uo.s : Nat → Qd → Int → (List Ut) → Option (Int × Int)
  | 0, _, _, _ => none
  | k + 1, a0, a1, a2 => Qcv (fun a0 a1 a2 => Uo.s k a0 a1 a2) (Y0.s k) (WO.s k) a0 a1 a2
termination_by structural k => k
theorem Qjn : ∀ (k : Nat), QdM (ev k) (Uo.s k)
  | 0 => fun _ _ _ _ h => (nomatch h)
  | k + 1 => by
    have i_r3_Eval := Qjn k
    exact fun a0 a1 a2 r h => fn_ok rfl (Qep pp (ev k) (Uo.s k) (Y0.s k) (WO.s k) a0 a1 a2) (Qrm _ _ _ _ a0 a1 a2) (Qrn _ _ _ _ _ _ (i_r3_Eval) (Y0.ok k) (QmP _ k) a0 a1 a2) h
theorem Uo.ok (k : Nat) : QdM (ev k) (Uo.s k) := (Qjn k)
theorem Qif : ∀ (k : Nat), (∀ (a0 : Qd) (a1 : Int) (a2 : (List Ut)), Le (Uo.s k a0 a1 a2) (Uo.s (k + 1) a0 a1 a2))
  | 0 => fun _ _ _ _ h => (nomatch h)
  | k + 1 => by
    have i_r3_Eval := Qif k
    exact fun a0 a1 a2 => (Ql7 (tw3 (i_r3_Eval)) (tw3 (fun a0 a1 a2 => (Y0.cv a0 a1 a2).1 k)) (tw1 (WO.m (Nat.le_succ k))) a0 a1 a2).1 0
theorem Uo.mono (k : Nat) : ∀ (a0 : Qd) (a1 : Int) (a2 : (List Ut)), Le (Uo.s k a0 a1 a2) (Uo.s (k + 1) a0 a1 a2) := (Qif k)
noncomputable def Uo (a0 : Qd) (a1 : Int) (a2 : (List Ut)) : Option (Int × Int) := lim fun k => Uo.s k a0 a1 a2
theorem Uo.cv (a0 : Qd) (a1 : Int) (a2 : (List Ut)) : Cv (fun k => Uo.s k a0 a1 a2) (Uo a0 a1 a2) := .lim fun k => Uo.mono k a0 a1 a2
noncomputable def WO : Uz → Option (VF ⊕ Unit) := WO.w
theorem Uo.eq (a0 : Qd) (a1 : Int) (a2 : (List Ut)) : Uo a0 a1 a2 = Qcv Uo Y0 WO a0 a1 a2 := Cv.uniq (Uo.cv a0 a1 a2).shift (Ql7 Uo.cv Y0.cv (WO.cv) a0 a1 a2)
def VD (r : Bool) : AV × Heap := (.sc (.bool r), [])
structure QK where
  x2 : Int
  x8 : (List ByteArray)
  x9 : ByteArray
  x10 : Int
  h0 : J6
structure UA where
  x2 : Int
  x8 : (List ByteArray)
  x9 : ByteArray
  h0 : J6
def Wn (a : QK) : St := { n := 169, nx := 1, env := [(2, xi a.x2), (7, .ptr 0 0), (8, .sl (Ql a.x8)), (9, xs a.x9), (10, xi a.x10)], heap := [(0, .box [0, 1] (SU a.h0))] }
def Z9 (a : UA) : Ex × St := (.exit 0, { n := 169, nx := 1, env := [(2, xi a.x2), (7, .ptr 0 0), (8, .sl (Ql a.x8)), (9, xs a.x9)], heap := [(0, .box [0, 1] (SU a.h0))] })
abbrev Yg := QK → Option UA
abbrev QjN (P : Pg) (lp : Lo) (l : Yg) : Prop := ∀ (a : QK) (r : UA), l a = some r → lp (loopAt P 10 7) (Wn a) = some (Z9 r)
def Vc (C0 : J5) (C1 : VS) (a : QK) : Option (QK ⊕ UA) := (bif (decide (a.x10 < (((a.x8.length) : Nat) : Int))) then (bif (decide (a.x10 > 0)) then (bif (decide (((a.x9.size + h_2c.size : Nat) : Int) ≤ IntKind.i64.max)) then (bif (decide ((((a.x9 ++ h_2c).size + h_20.size : Nat) : Int) ≤ IntKind.i64.max)) then (bif (decide (0 ≤ a.x10)) then ((a.x8[(Int.toNat a.x10)]?).bind fun e1 => ((C0 e1).bind fun r2 => (bif r2 then (bif (decide (((((a.x9 ++ h_2c) ++ h_20).size + s_r.size : Nat) : Int) ≤ IntKind.i64.max)) then ((a.h0.F[(Int.toNat a.x10)]?).bind fun e3 => ((C1 e3).bind fun r4 => (bif (decide ((((((a.x9 ++ h_2c) ++ h_20) ++ s_r).size + r4.size : Nat) : Int) ≤ IntKind.i64.max)) then (some (.inl (QK.mk a.x2 a.x8 ((((a.x9 ++ h_2c) ++ h_20) ++ s_r) ++ r4) (w64 (a.x10 + 1)) a.h0))) else none))) else none) else ((a.h0.F[(Int.toNat a.x10)]?).bind fun e5 => ((C1 e5).bind fun r6 => (bif (decide (((((a.x9 ++ h_2c) ++ h_20).size + r6.size : Nat) : Int) ≤ IntKind.i64.max)) then (some (.inl (QK.mk a.x2 a.x8 (((a.x9 ++ h_2c) ++ h_20) ++ r6) (w64 (a.x10 + 1)) a.h0))) else none)))))) else none) else none) else none) else (bif (decide (((a.x9.size + h_20.size : Nat) : Int) ≤ IntKind.i64.max)) then (bif (decide (0 ≤ a.x10)) then ((a.x8[(Int.toNat a.x10)]?).bind fun e7 => ((C0 e7).bind fun r8 => (bif r8 then (bif (decide ((((a.x9 ++ h_20).size + s_r.size : Nat) : Int) ≤ IntKind.i64.max)) then ((a.h0.F[(Int.toNat a.x10)]?).bind fun e9 => ((C1 e9).bind fun r10 => (bif (decide (((((a.x9 ++ h_20) ++ s_r).size + r10.size : Nat) : Int) ≤ IntKind.i64.max)) then (some (.inl (QK.mk a.x2 a.x8 (((a.x9 ++ h_20) ++ s_r) ++ r10) (w64 (a.x10 + 1)) a.h0))) else none))) else none) else ((a.h0.F[(Int.toNat a.x10)]?).bind fun e11 => ((C1 e11).bind fun r12 => (bif (decide ((((a.x9 ++ h_20).size + r12.size : Nat) : Int) ≤ IntKind.i64.max)) then (some (.inl (QK.mk a.x2 a.x8 ((a.x9 ++ h_20) ++ r12) (w64 (a.x10 + 1)) a.h0))) else none)))))) else none) else none)) else (some (.inr (UA.mk a.x2 a.x8 a.x9 a.h0))))
def E1 (P : Pg) (w : Cf) (C0 : J5) (C1 : VS) (a : QK) : Tr (QK ⊕ UA) XS := (.num ((Ql a.x8).length) (a.x8.length) (.as (decide (a.x10 < (((a.x8.length) : Nat) : Int))) (.as (decide (a.x10 > 0)) (.as (decide (((a.x9.size + h_2c.size : Nat) : Int) ≤ IntKind.i64.max)) (.as (decide ((((a.x9 ++ h_2c).size + h_20.size : Nat) : Int) ≤ IntKind.i64.max)) (let u126 := (decide (0 ≤ a.x10)); .as u126 (.row ((Ql a.x8)[(Int.toNat a.x10)]?) (a.x8[(Int.toNat a.x10)]?) UP fun (e1 : ByteArray) => (.call (FC w e1) (C0 e1) YZ fun r2 => (.as r2 (.as (decide (((((a.x9 ++ h_2c) ++ h_20).size + s_r.size : Nat) : Int) ≤ IntKind.i64.max)) (.yes u126 (.row ((QH a.h0.F)[(Int.toNat a.x10)]?) (a.h0.F[(Int.toNat a.x10)]?) XG fun (e3 : Int) => (.call (Gr w e3) (C1 e3) XE fun r4 => (.as (decide ((((((a.x9 ++ h_2c) ++ h_20) ++ s_r).size + r4.size : Nat) : Int) ≤ IntKind.i64.max)) (lf Wn (QK.mk a.x2 a.x8 ((((a.x9 ++ h_2c) ++ h_20) ++ s_r) ++ r4) (w64 (a.x10 + 1)) a.h0)) .fail)))) .fail) (.yes u126 (.row ((QH a.h0.F)[(Int.toNat a.x10)]?) (a.h0.F[(Int.toNat a.x10)]?) XG fun (e5 : Int) => (.call (Gr w e5) (C1 e5) XE fun r6 => (.as (decide (((((a.x9 ++ h_2c) ++ h_20).size + r6.size : Nat) : Int) ≤ IntKind.i64.max)) (lf Wn (QK.mk a.x2 a.x8 (((a.x9 ++ h_2c) ++ h_20) ++ r6) (w64 (a.x10 + 1)) a.h0)) .fail))))))) .fail) .fail) .fail) (.as (decide (((a.x9.size + h_20.size : Nat) : Int) ≤ IntKind.i64.max)) (let u127 := (decide (0 ≤ a.x10)); .as u127 (.row ((Ql a.x8)[(Int.toNat a.x10)]?) (a.x8[(Int.toNat a.x10)]?) UP fun (e7 : ByteArray) => (.call (FC w e7) (C0 e7) YZ fun r8 => (.as r8 (.as (decide ((((a.x9 ++ h_20).size + s_r.size : Nat) : Int) ≤ IntKind.i64.max)) (.yes u127 (.row ((QH a.h0.F)[(Int.toNat a.x10)]?) (a.h0.F[(Int.toNat a.x10)]?) XG fun (e9 : Int) => (.call (Gr w e9) (C1 e9) XE fun r10 => (.as (decide (((((a.x9 ++ h_20) ++ s_r).size + r10.size : Nat) : Int) ≤ IntKind.i64.max)) (lf Wn (QK.mk a.x2 a.x8 (((a.x9 ++ h_20) ++ s_r) ++ r10) (w64 (a.x10 + 1)) a.h0)) .fail)))) .fail) (.yes u127 (.row ((QH a.h0.F)[(Int.toNat a.x10)]?) (a.h0.F[(Int.toNat a.x10)]?) XG fun (e11 : Int) => (.call (Gr w e11) (C1 e11) XE fun r12 => (.as (decide ((((a.x9 ++ h_20).size + r12.size : Nat) : Int) ≤ IntKind.i64.max)) (lf Wn (QK.mk a.x2 a.x8 ((a.x9 ++ h_20) ++ r12) (w64 (a.x10 + 1)) a.h0)) .fail))))))) .fail) .fail)) (rx Z9 (UA.mk a.x2 a.x8 a.x9 a.h0))))
theorem QiY (w : Cf) (C0 : J5) (C1 : VS) (a : QK) : (E1 pp w C0 C1 a).norm (roundT pp G.kd w 0 (G.an 10) (loopAt pp 10 7) (Wn a)) = E1 pp w C0 C1 a := by kernel_rfl
theorem QiZ (P : Pg) (w : Cf) (lp : Lo) (C0 : J5) (C1 : VS) (K0 : Pj w C0) (K1 : QaW w C1) (a : QK) : (E1 P w C0 C1 a).ok lp (Sum.elim (fun a => (.norm, Wn a)) Z9) := ⟨(Jy _), ⟨rfl, fun q0 => ⟨rfl, fun q1 => ⟨rfl, fun q2 => ⟨rfl, fun q3 => ⟨rfl, fun q4 => fun e1 h => ⟨Vq h, fun r2 hr2 => ⟨K0 _ _ hr2, ⟨rfl, fun q5 => ⟨rfl, fun q6 => ⟨q4, fun e3 h => ⟨Vl h, fun r4 hr4 => ⟨K1 _ _ hr4, ⟨rfl, fun q7 => rfl, fun q7 => trivial⟩⟩⟩⟩, fun q6 => trivial⟩, fun q5 => ⟨q4, fun e5 h => ⟨Vl h, fun r6 hr6 => ⟨K1 _ _ hr6, ⟨rfl, fun q6 => rfl, fun q6 => trivial⟩⟩⟩⟩⟩⟩⟩, fun q4 => trivial⟩, fun q3 => trivial⟩, fun q2 => trivial⟩, fun q1 => ⟨rfl, fun q2 => ⟨rfl, fun q3 => fun e7 h => ⟨Vq h, fun r8 hr8 => ⟨K0 _ _ hr8, ⟨rfl, fun q4 => ⟨rfl, fun q5 => ⟨q3, fun e9 h => ⟨Vl h, fun r10 hr10 => ⟨K1 _ _ hr10, ⟨rfl, fun q6 => rfl, fun q6 => trivial⟩⟩⟩⟩, fun q5 => trivial⟩, fun q4 => ⟨q3, fun e11 h => ⟨Vl h, fun r12 hr12 => ⟨K1 _ _ hr12, ⟨rfl, fun q5 => rfl, fun q5 => trivial⟩⟩⟩⟩⟩⟩⟩, fun q3 => trivial⟩, fun q2 => trivial⟩⟩, fun q0 => rfl⟩⟩
theorem Qi0 {C0 : Nat → J5} {D0 : J5} (H0 : Cv1 C0 D0) {C1 : Nat → VS} {D1 : VS} (H1 : Cv1 C1 D1) (a : QK) : Cv (fun k => Vc (C0 k) (C1 k) a) (Vc D0 D1 a) := by
  unfold Vc
  exact .cond (.cond (.cond (.cond (.cond (.bind (.const _) fun e1 => .bind (H0 _) fun r2 => .cond (.cond (.bind (.const _) fun e3 => .bind (H1 _) fun r4 => by exact .const _) cst) (.bind (.const _) fun e5 => .bind (H1 _) fun r6 => by exact .const _)) cst) cst) cst) (.cond (.cond (.bind (.const _) fun e7 => .bind (H0 _) fun r8 => .cond (.cond (.bind (.const _) fun e9 => .bind (H1 _) fun r10 => by exact .const _) cst) (.bind (.const _) fun e11 => .bind (H1 _) fun r12 => by exact .const _)) cst) cst)) cst
def QZ.s (k : Nat) (C0 : J5) (C1 : VS) : QK → Option UA := iter (Vc C0 C1) k
theorem Qig (w : Cf) (k : Nat) (C0 : J5) (C1 : VS) (K0 : Pj w C0) (K1 : QaW w C1) (a : QK) (r : UA) (h : QZ.s k C0 C1 a = some r) : loopsF pp G.kd w 0 (G.an 10) k (loopAt pp 10 7) (Wn a) = some (Z9 r) :=
  VZ (fun a => E1 pp w C0 C1 a) (fun _ => rfl) (fun a => QiY w _ _ a) (fun a => QiZ _ w _ _ _ K0 K1 a) (fun r => nofun) h
noncomputable def QZ.w (C0 : J5) (C1 : VS) : QK → Option UA := loopW (Vc C0 C1)
theorem QZ.cv (C0 : Nat → J5) (C1 : Nat → VS) (D0 : J5) (D1 : VS) (H0 : Cv1 C0 D0) (H1 : Cv1 C1 D1) (a : QK) : Cv (fun k => QZ.s k (C0 k) (C1 k) a) (QZ.w D0 D1 a) := Cv.iter (fun a => Qi0 H0 H1 a) a
structure Q3 where
  x2 : Int
  x8 : (List ByteArray)
  x9 : ByteArray
  x13 : Int
  h0 : J6
  h1 : Qf
structure Uh where
  x2 : Int
  x8 : (List ByteArray)
  x9 : ByteArray
  h0 : J6
def X0 (a : Q3) : St := { n := 169, nx := 2, env := [(2, xi a.x2), (7, .ptr 0 0), (8, .sl (Ql a.x8)), (9, xs a.x9), (11, .ptr 1 0), (13, xi a.x13)], heap := [(0, .box [0, 1] (SU a.h0)), (1, .box [0, 0, 0, 0, 0, 5] (Qke a.h1))] }
def Qcw (a : Bool) : Ex × St := (.ret, { n := 169, nx := 0, env := [(6, xo a)], heap := [] })
def Qcx (a : Uh) : Ex × St := (.exit 2, { n := 169, nx := 1, env := [(2, xi a.x2), (7, .ptr 0 0), (8, .sl (Ql a.x8)), (9, xs a.x9)], heap := [(0, .box [0, 1] (SU a.h0))] })
def W3 (a : (Bool ⊕ Uh)) : Ex × St := Sum.elim Qcw Qcx a
abbrev Yh := Q3 → Option (Bool ⊕ Uh)
abbrev QjO (P : Pg) (lp : Lo) (l : Yh) : Prop := ∀ (a : Q3) (r : (Bool ⊕ Uh)), l a = some r → lp (loopAt P 10 19) (X0 a) = some (W3 r)
def Wo (C0 : Xd) (C1 : J5) (a : Q3) : Option (Q3 ⊕ (Bool ⊕ Uh)) := (bif (decide (a.x13 < (((a.x8.length) : Nat) : Int))) then (bif (decide (0 ≤ a.x13)) then ((a.h1.Args[(Int.toNat a.x13)]?).bind fun e1 => (bif (decide (e1.Reg < 0)) then ((a.h1.Args[(Int.toNat a.x13)]?).bind fun e2 => ((C0 e2.E (0 : Int) ([] : List Ut)).bind fun r3 => ((a.h0.F[(Int.toNat a.x13)]?).bind fun e4 => (bif (r3.1 != e4) then (some (.inr (.inl false))) else ((a.x8[(Int.toNat a.x13)]?).bind fun e5 => ((C1 e5).bind fun r6 => ((a.h1.Args[(Int.toNat a.x13)]?).bind fun e7 => (bif (!(r6 == (decide (e7.Reg ≥ 0)))) then (some (.inr (.inl false))) else (some (.inl (Q3.mk a.x2 a.x8 a.x9 (w64 (a.x13 + 1)) a.h0 a.h1))))))))))) else ((a.h0.F[(Int.toNat a.x13)]?).bind fun e8 => (bif (e1.Reg != e8) then (some (.inr (.inl false))) else ((a.x8[(Int.toNat a.x13)]?).bind fun e9 => ((C1 e9).bind fun r10 => ((a.h1.Args[(Int.toNat a.x13)]?).bind fun e11 => (bif (!(r10 == (decide (e11.Reg ≥ 0)))) then (some (.inr (.inl false))) else (some (.inl (Q3.mk a.x2 a.x8 a.x9 (w64 (a.x13 + 1)) a.h0 a.h1))))))))))) else none) else (some (.inr (.inr (Uh.mk a.x2 a.x8 a.x9 a.h0)))))
def E2 (P : Pg) (w : Cf) (C0 : Xd) (C1 : J5) (a : Q3) : Tr (Q3 ⊕ (Bool ⊕ Uh)) XS := (.num ((Ql a.x8).length) (a.x8.length) (.as (decide (a.x13 < (((a.x8.length) : Nat) : Int))) (let u130 := (decide (0 ≤ a.x13)); .as u130 (.row ((QJ a.h1.Args)[(Int.toNat a.x13)]?) (a.h1.Args[(Int.toNat a.x13)]?) Ec fun (e1 : Qg) => (.as (decide (e1.Reg < 0)) (.yes u130 (.row ((QJ a.h1.Args)[(Int.toNat a.x13)]?) (a.h1.Args[(Int.toNat a.x13)]?) Ec fun (e2 : Qg) => (.call (Qeo w e2.E i0 ([] : List Ut)) (C0 e2.E i0 ([] : List Ut)) Yt fun r3 => (.yes u130 (.row ((QH a.h0.F)[(Int.toNat a.x13)]?) (a.h0.F[(Int.toNat a.x13)]?) XG fun (e4 : Int) => (let u128 := (r3.1 != e4); .as u128 (yesN 13 u128 (.yes true (rx W3 (.inl false)))) (noN 2 u128 (.yes u130 (.row ((Ql a.x8)[(Int.toNat a.x13)]?) (a.x8[(Int.toNat a.x13)]?) UP fun (e5 : ByteArray) => (noN 2 u128 (.call (FC w e5) (C1 e5) YZ fun r6 => (noN 4 u128 (.yes u130 (.row ((QJ a.h1.Args)[(Int.toNat a.x13)]?) (a.h1.Args[(Int.toNat a.x13)]?) Ec fun (e7 : Qg) => (noN 5 u128 (.as (!(r6 == (decide (e7.Reg ≥ 0)))) (rx W3 (.inl false)) (lf X0 (Q3.mk a.x2 a.x8 a.x9 (w64 (a.x13 + 1)) a.h0 a.h1)))))))))))))))))) (.yes u130 (.row ((QH a.h0.F)[(Int.toNat a.x13)]?) (a.h0.F[(Int.toNat a.x13)]?) XG fun (e8 : Int) => (let u129 := (e1.Reg != e8); .as u129 (yesN 13 u129 (.yes true (rx W3 (.inl false)))) (noN 2 u129 (.yes u130 (.row ((Ql a.x8)[(Int.toNat a.x13)]?) (a.x8[(Int.toNat a.x13)]?) UP fun (e9 : ByteArray) => (noN 2 u129 (.call (FC w e9) (C1 e9) YZ fun r10 => (noN 4 u129 (.yes u130 (.row ((QJ a.h1.Args)[(Int.toNat a.x13)]?) (a.h1.Args[(Int.toNat a.x13)]?) Ec fun (e11 : Qg) => (noN 5 u129 (.as (!(r10 == (decide (e11.Reg ≥ 0)))) (rx W3 (.inl false)) (lf X0 (Q3.mk a.x2 a.x8 a.x9 (w64 (a.x13 + 1)) a.h0 a.h1))))))))))))))))) .fail) (rx W3 (.inr (Uh.mk a.x2 a.x8 a.x9 a.h0)))))
theorem Qi1 (w : Cf) (C0 : Xd) (C1 : J5) (a : Q3) : (E2 pp w C0 C1 a).norm (roundT pp G.kd w 0 (G.an 10) (loopAt pp 10 19) (X0 a)) = E2 pp w C0 C1 a := by kernel_rfl
theorem Qi2 (P : Pg) (w : Cf) (lp : Lo) (C0 : Xd) (C1 : J5) (K0 : QdM w C0) (K1 : Pj w C1) (a : Q3) : (E2 P w C0 C1 a).ok lp (Sum.elim (fun a => (.norm, X0 a)) W3) := ⟨(Jy _), ⟨rfl, fun q0 => ⟨rfl, fun q1 => fun e1 h => ⟨Si h, ⟨rfl, fun q2 => ⟨q1, fun e2 h => ⟨Si h, fun r3 hr3 => ⟨K0 _ _ _ _ hr3, ⟨q1, fun e4 h => ⟨Vl h, ⟨rfl, fun q3 => Qr 13 (q3) (⟨rfl, rfl⟩), fun q3 => noN_ok 2 (q3) (⟨q1, fun e5 h => ⟨Vq h, noN_ok 2 (q3) (fun r6 hr6 => ⟨K1 _ _ hr6, noN_ok 4 (q3) (⟨q1, fun e7 h => ⟨Si h, noN_ok 5 (q3) (⟨rfl, fun q4 => rfl, fun q4 => rfl⟩)⟩⟩)⟩)⟩⟩)⟩⟩⟩⟩⟩⟩, fun q2 => ⟨q1, fun e8 h => ⟨Vl h, ⟨rfl, fun q3 => Qr 13 (q3) (⟨rfl, rfl⟩), fun q3 => noN_ok 2 (q3) (⟨q1, fun e9 h => ⟨Vq h, noN_ok 2 (q3) (fun r10 hr10 => ⟨K1 _ _ hr10, noN_ok 4 (q3) (⟨q1, fun e11 h => ⟨Si h, noN_ok 5 (q3) (⟨rfl, fun q4 => rfl, fun q4 => rfl⟩)⟩⟩)⟩)⟩⟩)⟩⟩⟩⟩⟩, fun q1 => trivial⟩, fun q0 => rfl⟩⟩
theorem Qi3 {C0 : Nat → Xd} {D0 : Xd} (H0 : Cv3 C0 D0) {C1 : Nat → J5} {D1 : J5} (H1 : Cv1 C1 D1) (a : Q3) : Cv (fun k => Wo (C0 k) (C1 k) a) (Wo D0 D1 a) := by
  unfold Wo
  exact .cond (.cond (.bind (.const _) fun e1 => .cond (.bind (.const _) fun e2 => .bind (H0 _ _ _) fun r3 => .bind (.const _) fun e4 => .cond cst (.bind (.const _) fun e5 => .bind (H1 _) fun r6 => by exact .const _)) (.bind (.const _) fun e8 => .cond cst (.bind (.const _) fun e9 => .bind (H1 _) fun r10 => by exact .const _))) cst) cst
def JL.s (k : Nat) (C0 : Xd) (C1 : J5) : Q3 → Option (Bool ⊕ Uh) := iter (Wo C0 C1) k
theorem Qih (w : Cf) (k : Nat) (C0 : Xd) (C1 : J5) (K0 : QdM w C0) (K1 : Pj w C1) (a : Q3) (r : (Bool ⊕ Uh)) (h : JL.s k C0 C1 a = some r) : loopsF pp G.kd w 0 (G.an 10) k (loopAt pp 10 19) (X0 a) = some (W3 r) :=
  VZ (fun a => E2 pp w C0 C1 a) (fun _ => rfl) (fun a => Qi1 w _ _ a) (fun a => Qi2 _ w _ _ _ K0 K1 a) (fun r => by cases r <;> nofun) h
noncomputable def JL.w (C0 : Xd) (C1 : J5) : Q3 → Option (Bool ⊕ Uh) := loopW (Wo C0 C1)
theorem JL.cv (C0 : Nat → Xd) (C1 : Nat → J5) (D0 : Xd) (D1 : J5) (H0 : Cv3 C0 D0) (H1 : Cv1 C1 D1) (a : Q3) : Cv (fun k => JL.s k (C0 k) (C1 k) a) (JL.w D0 D1 a) := Cv.iter (fun a => Qi3 H0 H1 a) a
def Zr (C0 : FX) (C1 : Sz) (C2 : Yr) (C3 : Ys) (C4 : Sy) (C5 : Ph) (C6 : Fk) (L7 : Yg) (L8 : Yh) (a0 : Int) (a1 : (List Int)) (a2 : Int) : Option Bool := ((C0).bind fun r1 => (bif (!r1) then (some false) else ((C1 a0 a1).bind fun r2 => ((C2 r2.Op).bind fun r3 => ((C3 r3).bind fun r4 => ((C4 r2.Op).bind fun r5 => ((L7 (QK.mk a2 r4 r5 (0 : Int) r2)).bind (fun (o6 : UA) => ((C5 o6.x9).bind fun r7 => (bif (!r7.2) then (some false) else (bif (r7.1.Kind != 1) then (some false) else (bif (r7.1.Op != o6.h0.Op) then (some false) else (bif ((((r7.1.Args.length) : Nat) : Int) != (((o6.x8.length) : Nat) : Int)) then (some false) else ((L8 (Q3.mk o6.x2 o6.x8 o6.x9 (0 : Int) o6.h0 r7.1)).bind fun x => Sum.elim (fun (o8 : Bool) => (some o8)) (fun (o9 : Uh) => (bif (decide (((o9.x9.size + Qbj.size : Nat) : Int) ≤ IntKind.i64.max)) then (bif ((((o9.x8.length) : Nat) : Int) == 0) then (bif (decide (((o9.x9.size + Qe5.size : Nat) : Int) ≤ IntKind.i64.max)) then ((C5 (o9.x9 ++ Qe5)).bind fun r10 => ((C4 o9.h0.Op).bind fun r11 => (bif (decide (((r11.size + s_x.size : Nat) : Int) ≤ IntKind.i64.max)) then (bif (decide (((s__.size + o9.x9.size : Nat) : Int) ≤ IntKind.i64.max)) then ((C4 o9.h0.Op).bind fun r12 => (bif (decide (((r12.size + h_2c.size : Nat) : Int) ≤ IntKind.i64.max)) then ((C6 o9.x2 (3 : Int)).bind fun r13 => (bif (decide (0 ≤ r13 ∧ r13 < (([(r11 ++ s_x), (s__ ++ o9.x9), (r12 ++ h_2c)].length : Nat) : Int))) then (([(r11 ++ s_x), (s__ ++ o9.x9), (r12 ++ h_2c)][(Int.toNat r13)]?).bind fun e14 => ((C5 e14).bind fun r15 => (bif (!r10.2) then (some (!r15.2)) else (some false)))) else none)) else none)) else none) else none))) else none) else ((C5 (o9.x9 ++ Qbj)).bind fun r16 => ((C4 o9.h0.Op).bind fun r17 => (bif (decide (((r17.size + s_x.size : Nat) : Int) ≤ IntKind.i64.max)) then (bif (decide (((s__.size + o9.x9.size : Nat) : Int) ≤ IntKind.i64.max)) then ((C4 o9.h0.Op).bind fun r18 => (bif (decide (((r18.size + h_2c.size : Nat) : Int) ≤ IntKind.i64.max)) then ((C6 o9.x2 (3 : Int)).bind fun r19 => (bif (decide (0 ≤ r19 ∧ r19 < (([(r17 ++ s_x), (s__ ++ o9.x9), (r18 ++ h_2c)].length : Nat) : Int))) then (([(r17 ++ s_x), (s__ ++ o9.x9), (r18 ++ h_2c)][(Int.toNat r19)]?).bind fun e20 => ((C5 e20).bind fun r21 => (bif (!r16.2) then (some (!r21.2)) else (some false)))) else none)) else none)) else none) else none)))) else none)) x))))))))))))))
def PP (P : Pg) (w : Cf) (C0 : FX) (C1 : Sz) (C2 : Yr) (C3 : Ys) (C4 : Sy) (C5 : Ph) (C6 : Fk) (L7 : Yg) (L8 : Yh) (a0 : Int) (a1 : (List Int)) (a2 : Int) : Tr Bool AH := (.call (Qkl w) (C0) Qf1 fun r1 => (.as (!r1) (rt VD false) (.call (Ql4 w a0 a1) (C1 a0 a1) Qek fun r2 => (.call (Qgj w r2.Op) (C2 r2.Op) QaR fun r3 => (.call (Qgk w r3) (C3 r3) QaS fun r4 => (.call (SJ w r2.Op) (C4 r2.Op) Fi fun r5 => (.loop (loopAt P 10 7) (Wn (QK.mk a2 r4 r5 i0 r2)) (L7 (QK.mk a2 r4 r5 i0 r2)) Z9 (fun (o6 : UA) => (.call (PN w o6.x9) (C5 o6.x9) Vx fun r7 => (.as (!r7.2) (yesN 3 (!r7.2) (yesN 14 true (rt VD false))) (noN 3 (!r7.2) (let u132 := (r7.1.Kind != 1); .as u132 (yesN 5 u132 (yesN 8 true (rt VD false))) (noN 5 u132 (let u131 := (r7.1.Op != o6.h0.Op); .as u131 (yesN 6 u131 (.yes true (rt VD false))) (noN 2 u131 (.num ((QJ r7.1.Args).length) (r7.1.Args.length) (noN 2 u131 (.num ((Ql o6.x8).length) (o6.x8.length) (noN 2 u131 (.as ((((r7.1.Args.length) : Nat) : Int) != (((o6.x8.length) : Nat) : Int)) (rt VD false) (.loop2 (loopAt P 10 19) (X0 (Q3.mk o6.x2 o6.x8 o6.x9 i0 o6.h0 r7.1)) (L8 (Q3.mk o6.x2 o6.x8 o6.x9 i0 o6.h0 r7.1)) Qcw Qcx (fun (o8 : Bool) => (rt VD o8)) (fun (o9 : Uh) => (.as (decide (((o9.x9.size + Qbj.size : Nat) : Int) ≤ IntKind.i64.max)) (.num ((Ql o9.x8).length) (o9.x8.length) (.as ((((o9.x8.length) : Nat) : Int) == 0) (.as (decide (((o9.x9.size + Qe5.size : Nat) : Int) ≤ IntKind.i64.max)) (.call (PN w (o9.x9 ++ Qe5)) (C5 (o9.x9 ++ Qe5)) Vx fun r10 => (.call (SJ w o9.h0.Op) (C4 o9.h0.Op) Fi fun r11 => (.as (decide (((r11.size + s_x.size : Nat) : Int) ≤ IntKind.i64.max)) (.as (decide (((s__.size + o9.x9.size : Nat) : Int) ≤ IntKind.i64.max)) (.call (SJ w o9.h0.Op) (C4 o9.h0.Op) Fi fun r12 => (.as (decide (((r12.size + h_2c.size : Nat) : Int) ≤ IntKind.i64.max)) (.rows [[xs (r11 ++ s_x)], [xs (s__ ++ o9.x9)], [xs (r12 ++ h_2c)]] (Ql [(r11 ++ s_x), (s__ ++ o9.x9), (r12 ++ h_2c)]) (.call (Qey w o9.x2 (zi 3)) (C6 o9.x2 (zi 3)) FF fun r13 => (.ask (in1 r13 (((Ql [(r11 ++ s_x), (s__ ++ o9.x9), (r12 ++ h_2c)]).length : Nat) : Int)) (in1 r13 (([(r11 ++ s_x), (s__ ++ o9.x9), (r12 ++ h_2c)].length : Nat) : Int)) (.row ((Ql [(r11 ++ s_x), (s__ ++ o9.x9), (r12 ++ h_2c)])[(Int.toNat r13)]?) ([(r11 ++ s_x), (s__ ++ o9.x9), (r12 ++ h_2c)][(Int.toNat r13)]?) UP fun (e14 : ByteArray) => (.call (PN w e14) (C5 e14) Vx fun r15 => (.as (!r10.2) (yesN 2 (!r10.2) (rt VD (!r15.2))) (noN 2 (!r10.2) (rt VD false))))) .fail))) .fail)) .fail) .fail))) .fail) (.call (PN w (o9.x9 ++ Qbj)) (C5 (o9.x9 ++ Qbj)) Vx fun r16 => (.call (SJ w o9.h0.Op) (C4 o9.h0.Op) Fi fun r17 => (.as (decide (((r17.size + s_x.size : Nat) : Int) ≤ IntKind.i64.max)) (.as (decide (((s__.size + o9.x9.size : Nat) : Int) ≤ IntKind.i64.max)) (.call (SJ w o9.h0.Op) (C4 o9.h0.Op) Fi fun r18 => (.as (decide (((r18.size + h_2c.size : Nat) : Int) ≤ IntKind.i64.max)) (.rows [[xs (r17 ++ s_x)], [xs (s__ ++ o9.x9)], [xs (r18 ++ h_2c)]] (Ql [(r17 ++ s_x), (s__ ++ o9.x9), (r18 ++ h_2c)]) (.call (Qey w o9.x2 (zi 3)) (C6 o9.x2 (zi 3)) FF fun r19 => (.ask (in1 r19 (((Ql [(r17 ++ s_x), (s__ ++ o9.x9), (r18 ++ h_2c)]).length : Nat) : Int)) (in1 r19 (([(r17 ++ s_x), (s__ ++ o9.x9), (r18 ++ h_2c)].length : Nat) : Int)) (.row ((Ql [(r17 ++ s_x), (s__ ++ o9.x9), (r18 ++ h_2c)])[(Int.toNat r19)]?) ([(r17 ++ s_x), (s__ ++ o9.x9), (r18 ++ h_2c)][(Int.toNat r19)]?) UP fun (e20 : ByteArray) => (.call (PN w e20) (C5 e20) Vx fun r21 => (.as (!r16.2) (yesN 2 (!r16.2) (rt VD (!r21.2))) (noN 2 (!r16.2) (rt VD false))))) .fail))) .fail)) .fail) .fail))))) .fail)))))))))))))))))))))))
theorem QlD (w : Cf) (C0 : FX) (C1 : Sz) (C2 : Yr) (C3 : Ys) (C4 : Sy) (C5 : Ph) (C6 : Fk) (L7 : Yg) (L8 : Yh) (a0 : Int) (a1 : (List Int)) (a2 : Int) : (PP Tryz.prog w C0 C1 C2 C3 C4 C5 C6 L7 L8 a0 a1 a2).norm (bodyT Tryz.prog w G 10 [.sc (.int .i64 a0), .sl (QH a1), .sc (.int .i64 a2)] []) = PP Tryz.prog w C0 C1 C2 C3 C4 C5 C6 L7 L8 a0 a1 a2 := by kernel_rfl
theorem QlE (P : Pg) (w : Cf) (lp : Lo) (C0 : FX) (C1 : Sz) (C2 : Yr) (C3 : Ys) (C4 : Sy) (C5 : Ph) (C6 : Fk) (L7 : Yg) (L8 : Yh) (K0 : Qq8 w C0) (K1 : QnW w C1) (K2 : Qia w C2) (K3 : Qib w C3) (K4 : QnV w C4) (K5 : Ql3 w C5) (K6 : Qkm w C6) (N7 : QjN P lp L7) (N8 : QjO P lp L8) (a0 : Int) (a1 : (List Int)) (a2 : Int) : (PP P w C0 C1 C2 C3 C4 C5 C6 L7 L8 a0 a1 a2).ok lp VD := fun r1 hr1 => ⟨K0 _ hr1, ⟨rfl, fun q0 => rfl, fun q0 => fun r2 hr2 => ⟨K1 _ _ _ hr2, fun r3 hr3 => ⟨K2 _ _ hr3, fun r4 hr4 => ⟨K3 _ _ hr4, fun r5 hr5 => ⟨K4 _ _ hr5, fun o6 ho6 => ⟨N7 _ _ ho6, fun r7 hr7 => ⟨K5 _ _ hr7, ⟨rfl, fun q1 => Qr 3 (q1) (Qr 14 (rfl) (rfl)), fun q1 => noN_ok 3 (q1) (⟨rfl, fun q2 => Qr 5 (q2) (Qr 8 (rfl) (rfl)), fun q2 => noN_ok 5 (q2) (⟨rfl, fun q3 => Qr 6 (q3) (⟨rfl, rfl⟩), fun q3 => noN_ok 2 (q3) (⟨(Fz _), noN_ok 2 (q3) (⟨(Jy _), noN_ok 2 (q3) (⟨rfl, fun q4 => rfl, fun q4 => ⟨fun o8 ho8 => ⟨N8 _ (.inl _) ho8, rfl⟩, fun o9 ho9 => ⟨N8 _ (.inr _) ho9, ⟨rfl, fun q5 => ⟨(Jy _), ⟨rfl, fun q6 => ⟨rfl, fun q7 => fun r10 hr10 => ⟨K5 _ _ hr10, fun r11 hr11 => ⟨K4 _ _ hr11, ⟨rfl, fun q8 => ⟨rfl, fun q9 => fun r12 hr12 => ⟨K4 _ _ hr12, ⟨rfl, fun q10 => ⟨(Vp [(r11 ++ s_x), (s__ ++ o9.x9), (r12 ++ h_2c)]), fun r13 hr13 => ⟨K6 _ _ _ hr13, ⟨(by rw [Jy]), fun q11 => fun e14 h => ⟨Vq h, fun r15 hr15 => ⟨K5 _ _ hr15, ⟨rfl, fun q12 => Qr 2 (q12) (rfl), fun q12 => noN_ok 2 (q12) (rfl)⟩⟩⟩, fun q11 => trivial⟩⟩⟩, fun q10 => trivial⟩⟩, fun q9 => trivial⟩, fun q8 => trivial⟩⟩⟩, fun q7 => trivial⟩, fun q6 => fun r16 hr16 => ⟨K5 _ _ hr16, fun r17 hr17 => ⟨K4 _ _ hr17, ⟨rfl, fun q7 => ⟨rfl, fun q8 => fun r18 hr18 => ⟨K4 _ _ hr18, ⟨rfl, fun q9 => ⟨(Vp [(r17 ++ s_x), (s__ ++ o9.x9), (r18 ++ h_2c)]), fun r19 hr19 => ⟨K6 _ _ _ hr19, ⟨(by rw [Jy]), fun q10 => fun e20 h => ⟨Vq h, fun r21 hr21 => ⟨K5 _ _ hr21, ⟨rfl, fun q11 => Qr 2 (q11) (rfl), fun q11 => noN_ok 2 (q11) (rfl)⟩⟩⟩, fun q10 => trivial⟩⟩⟩, fun q9 => trivial⟩⟩, fun q8 => trivial⟩, fun q7 => trivial⟩⟩⟩⟩⟩, fun q5 => trivial⟩⟩⟩⟩)⟩)⟩)⟩)⟩)⟩⟩⟩⟩⟩⟩⟩⟩⟩
theorem QlF {C0 : Nat → FX} {D0 : FX} (H0 : Cv C0 D0) {C1 : Nat → Sz} {D1 : Sz} (H1 : Cv2 C1 D1) {C2 : Nat → Yr} {D2 : Yr} (H2 : Cv1 C2 D2) {C3 : Nat → Ys} {D3 : Ys} (H3 : Cv1 C3 D3) {C4 : Nat → Sy} {D4 : Sy} (H4 : Cv1 C4 D4) {C5 : Nat → Ph} {D5 : Ph} (H5 : Cv1 C5 D5) {C6 : Nat → Fk} {D6 : Fk} (H6 : Cv2 C6 D6) {L7 : Nat → Yg} {M7 : Yg} (N7 : Cv1 L7 M7) {L8 : Nat → Yh} {M8 : Yh} (N8 : Cv1 L8 M8) (a0 : Int) (a1 : (List Int)) (a2 : Int) : Cv (fun k => Zr (C0 k) (C1 k) (C2 k) (C3 k) (C4 k) (C5 k) (C6 k) (L7 k) (L8 k) a0 a1 a2) (Zr D0 D1 D2 D3 D4 D5 D6 M7 M8 a0 a1 a2) := by
  unfold Zr
  exact .bind (H0) fun r1 => .cond cst (.bind (H1 _ _) fun r2 => .bind (H2 _) fun r3 => .bind (H3 _) fun r4 => .bind (H4 _) fun r5 => .bind (N7 _) (fun o6 => .bind (H5 _) fun r7 => .cond cst (.cond cst (.cond cst (.cond cst (.bind (N8 _) fun x => .sum (fun o8 => by exact .const _) (fun o9 => .cond (.cond (.cond (.bind (H5 _) fun r10 => .bind (H4 _) fun r11 => .cond (.cond (.bind (H4 _) fun r12 => .cond (.bind (H6 _ _) fun r13 => .cond (.bind (.const _) fun e14 => .bind (H5 _) fun r15 => by exact .const _) cst) cst) cst) cst) cst) (.bind (H5 _) fun r16 => .bind (H4 _) fun r17 => .cond (.cond (.bind (H4 _) fun r18 => .cond (.bind (H6 _ _) fun r19 => .cond (.bind (.const _) fun e20 => .bind (H5 _) fun r21 => by exact .const _) cst) cst) cst) cst)) cst) x))))))
def VM.s : Nat → Int → (List Int) → Int → Option Bool
  | 0, _, _, _ => none
  | k + 1, a0, a1, a2 => Zr (Xk.s k) (YV.s k) (Vy.s k) (Vj.s k) (YU.s k) (XZ.s k) (WW.s k) (QZ.s k (QT.s k) (JK.s k)) (JL.s k (Uo.s k) (QT.s k)) a0 a1 a2
theorem VM.ok : ∀ (k : Nat), ∀ (a0 : Int) (a1 : (List Int)) (a2 : Int) (r : Bool), VM.s k a0 a1 a2 = some r → evalFn Tryz.prog G k 10 [.sc (.int .i64 a0), .sl (QH a1), .sc (.int .i64 a2)] [] = some (VD r)
  | 0, _, _, _, _, h => (nomatch h)
  | k + 1, a0, a1, a2, r, h => fn_ok rfl (PP Tryz.prog (ev k) (Xk.s k) (YV.s k) (Vy.s k) (Vj.s k) (YU.s k) (XZ.s k) (WW.s k) (QZ.s k (QT.s k) (JK.s k)) (JL.s k (Uo.s k) (QT.s k)) a0 a1 a2) (QlD _ _ _ _ _ _ _ _ _ _ a0 a1 a2) (QlE _ _ _ _ _ _ _ _ _ _ _ _ (Xk.ok k) (YV.ok k) (Vy.ok k) (Vj.ok k) (YU.ok k) (XZ.ok k) (WW.ok k) (Qig _ k _ _ (QT.ok k) (JK.ok k)) (Qih _ k _ _ (Uo.ok k) (QT.ok k)) a0 a1 a2) h
noncomputable def QZ : QK → Option UA := QZ.w QT JK
theorem QZ.eq (a : QK) : QZ a = (Vc QT JK a).bind (Sum.elim QZ some) := UO _ _
noncomputable def JL : Q3 → Option (Bool ⊕ Uh) := JL.w Uo QT
theorem JL.eq (a : Q3) : JL a = (Wo Uo QT a).bind (Sum.elim JL some) := UO _ _
noncomputable def VM (a0 : Int) (a1 : (List Int)) (a2 : Int) : Option Bool := Zr Xk YV Vy Vj YU XZ WW QZ JL a0 a1 a2
theorem VM.cv (a0 : Int) (a1 : (List Int)) (a2 : Int) : Cv (fun k => VM.s k a0 a1 a2) (VM a0 a1 a2) := .un rfl (QlF Xk.cv YV.cv Vy.cv Vj.cv YU.cv XZ.cv WW.cv (QZ.cv (fun k => QT.s k) (fun k => JK.s k) QT JK QT.cv JK.cv) (JL.cv (fun k => Uo.s k) (fun k => QT.s k) Uo QT Uo.cv QT.cv) a0 a1 a2)
theorem VM.eq (a0 : Int) (a1 : (List Int)) (a2 : Int) : VM a0 a1 a2 = Zr Xk YV Vy Vj YU XZ WW QZ JL a0 a1 a2 := rfl
theorem VM.run (a0 : Int) (a1 : (List Int)) (a2 : Int) {r : Bool} (h : VM a0 a1 a2 = some r) : ∃ k, evalFn Tryz.prog G k 10 [.sc (.int .i64 a0), .sl (QH a1), .sc (.int .i64 a2)] [] = some (VD r) :=
  let ⟨k, hk⟩ := ((VM.cv a0 a1 a2).2 r).1 h
  ⟨k, VM.ok k a0 a1 a2 r hk⟩

end Go.Ab
namespace Go.Proofs.YtblfhkldljfhiaaGreatDoor
open Go Go.Ab Go.RowKit Go.Shelf
theorem gPow : Tryz.prog.globalNamed "internal/strconv.uint64pow10" = some 5 := by kernel_rfl
theorem tPow : (Tryz.prog.globals[5]?).map (·.type) = some 287 := by kernel_rfl
theorem Qro : Tryz.prog.cellsOf 255 = 1 := by kernel_rfl
theorem Qrp : Tryz.prog.cellsOf 287 = 20 := by kernel_rfl
theorem datumP {H : Type} : (Rows.laid_internal_strconv_uint64pow10 : DataW H) = Lib.tabData .u64 Lib.pow10Tab := by kernel_rfl
theorem gSp : Tryz.prog.globalNamed "strings.asciiSpace" = some 0 := by kernel_rfl
theorem tSp : (Tryz.prog.globals[0]?).map (·.type) = some 234 := by kernel_rfl
theorem Qr0 : Tryz.prog.cellsOf 5 = 1 := by kernel_rfl
theorem Qr1 : Tryz.prog.cellsOf 234 = 256 := by kernel_rfl
theorem datumS {H : Type} : (Rows.laid_strings_asciiSpace : DataW H) = Lib.tabData .u8 Lib.asciiSpaceTab := by kernel_rfl
def told : Ab.Told := ((told1 Tryz.prog "internal/strconv.uint64pow10" 5 (Lib.pow10Tab.map fun z => Value.int .u64 z).toArray).both (told1 Tryz.prog "strings.asciiSpace" 0 (Lib.asciiSpaceTab.map fun z => Value.int .u8 z).toArray)).both (cellT 1)
theorem QsR {W : World} (h : laidMetH Tryz.prog [("math/bits.deBruijn32tab", Rows.laid_math_bits_deBruijn32tab), ("math/bits.deBruijn64tab", Rows.laid_math_bits_deBruijn64tab), ("internal/strconv.uint64pow10", Rows.laid_internal_strconv_uint64pow10), ("unicode/utf8.acceptRanges", Rows.laid_unicode_utf8_acceptRanges), ("strconv.ErrRange", Rows.laid_strconv_ErrRange), ("strconv.ErrSyntax", Rows.laid_strconv_ErrSyntax), ("unicode.White_Space", Rows.laid_unicode_White_Space), ("strings.asciiSpace", Rows.laid_strings_asciiSpace), ("unicode/utf8.first", Rows.laid_unicode_utf8_first)] W ∧ W.ShapedOpen Tryz.prog) : told.T (oldCtx W).Z W := by
  obtain ⟨h, hs⟩ := h
  rw [MakeChecks.laidMetH_plain _ _ _ (by kernel_rfl)] at h
  obtain ⟨ps, ⟨g0, t0, cs0, f0, p0, q0, hg0, ht0, hv0, hd0, ⟨g1, t1, cs1, f1, p1, q1, hg1, ht1, hv1, hd1, ⟨g2, t2, cs2, f2, p2, q2, hg2, ht2, hv2, hd2, ⟨g3, t3, cs3, f3, p3, q3, hg3, ht3, hv3, hd3, ⟨g4, t4, cs4, f4, p4, q4, hg4, ht4, hv4, hd4, ⟨g5, t5, cs5, f5, p5, q5, hg5, ht5, hv5, hd5, ⟨g6, t6, cs6, f6, p6, q6, hg6, ht6, hv6, hd6, ⟨g7, t7, cs7, f7, p7, q7, hg7, ht7, hv7, hd7, ⟨g8, t8, cs8, f8, p8, q8, hg8, ht8, hv8, hd8, _⟩, _⟩, _⟩, _⟩, _⟩, _⟩, _⟩, _⟩, _⟩, _⟩ := h
  refine ⟨⟨?_, ?_⟩, ?_⟩
  · obtain rfl := Option.some.inj (gPow.symm.trans hg2)
    obtain rfl := Option.some.inj (tPow.symm.trans ht2)
    rw [datumP] at hd2
    refine Qnc gPow (hv2.trans ?_) (by decide)
    have := Lib.cells_of_tab Tryz.underlying287 Tryz.underlying255 Qro Qrp hd2
    rw [← this]
  · obtain rfl := Option.some.inj (gSp.symm.trans hg7)
    obtain rfl := Option.some.inj (tSp.symm.trans ht7)
    rw [datumS] at hd7
    refine Qnc gSp (hv7.trans ?_) (of_decide_eq_true (by kernel_rfl))
    have := Lib.cells_of_tab Tryz.underlying234 Tryz.underlying5 Qr0 Qr1 hd7
    rw [← this]
  · exact Qq3 (cell_of_shapedOpen_int (P := Tryz.prog) (t := 3) (zero := #[.int .i64 0]) hs (by decide +kernel) (by kernel_rfl) rfl (by kernel_rfl) (by kernel_rfl) Tryz.underlying3)
set_option maxHeartbeats 2000000 in
set_option maxRecDepth 100000 in
theorem QsS (n c : Nat) (w : World) : Calls Tryz.prog 81 #[.slice none n c] w fun e w' => e = .returned (.slice none 0 0) ∧ w' = w := by
  have mixed : Tryz.prog.follows .mixedOrders = true := by kernel_rfl
  have t0 := Tryz.underlying3; have a0 := Tryz.isAgg3; have z0 := Tryz.sizeOf3; have v0 := Tryz.zeroValue3; have t1 := Tryz.underlying22; have a1 := Tryz.isAgg22; have z1 := Tryz.sizeOf22; have v1 := Tryz.zeroValue22; have t2 := Tryz.underlying4; have a2 := Tryz.isAgg4; have z2 := Tryz.sizeOf4; have v2 := Tryz.zeroValue4
  have q22 : ∀ (w : World) (a : Option Addr) (n c n' c' : Nat), (binOp .eql 22 (.slice a n c) (.slice none n' c')).run Tryz.prog w = .ok (.bool a.isNone) w := fun w a n c n' c' => Lib.run_eql_slice_nil w _ _ a n c n' c' t1
  go_enter Tryz.func81, Tryz.ntmps81
  go_wp2
  go_ret
  exact ⟨rfl, rfl⟩
set_option maxHeartbeats 2000000 in
set_option maxRecDepth 100000 in
theorem Qr2 (a : Addr) (c : Nat) (w : World) : Calls Tryz.prog 81 #[.slice (some a) 0 c] w fun e w' => ∃ v', e = .returned v' ∧ w'.ownsRow w.heap.size 3 1 v' 0 [] ∧ Below w.heap.size w w' := by
  have mixed : Tryz.prog.follows .mixedOrders = true := by kernel_rfl
  have t0 := Tryz.underlying3; have a0 := Tryz.isAgg3; have z0 := Tryz.sizeOf3; have v0 := Tryz.zeroValue3; have t1 := Tryz.underlying22; have a1 := Tryz.isAgg22; have z1 := Tryz.sizeOf22; have v1 := Tryz.zeroValue22; have t2 := Tryz.underlying4; have a2 := Tryz.isAgg4; have z2 := Tryz.sizeOf4; have v2 := Tryz.zeroValue4
  have q22 : ∀ (w : World) (a : Option Addr) (n c n' c' : Nat), (binOp .eql 22 (.slice a n c) (.slice none n' c')).run Tryz.prog w = .ok (.bool a.isNone) w := fun w a n c n' c' => Lib.run_eql_slice_nil w _ _ a n c n' c' t1
  have hinfo : (Tryz.prog.info? 3).map (fun i => (i.zero, i.size, i.bytes)) = some (some (.int .i64 0), 1, 8) := by kernel_rfl
  obtain ⟨i0, hi, hz0, hz1, hz2⟩ := info_parts hinfo
  have u22 : ∀ w, Sem.run Tryz.prog (underlying 22) w = .ok (TypeDesc.slice 3) w := run_underlying t1
  go_enter Tryz.func81, Tryz.ntmps81
  go_wp2_with (at_builtin; refine wpList_append_own _ rfl _ _ 22 rfl w.heap.size 3 i0 (.int .i64 0) 1 8 t1 hi hz0 hz1 hz2 rfl (by decide) _ _ _ rfl (World.ownsRow_made w #[] 0 (Nat.le_refl _) (Nat.zero_le _) rfl) a 0 c [] rfl rfl (by intro j u hj; simp at hj) (by intro u hu; cases hu) (by unfold maxLen; omega) (by omega) (by simp) ?_)
  intro v' w1 hown hgrow hnil
  go_wp2
  go_ret
  refine ⟨v', rfl, by simpa using hown, ?_⟩
  exact ((Below.refl _ w).alloc (Nat.le_refl _) _).grown hgrow (by simp) (by intro k hk; simp [Value.ownBlock] at hk; omega)
set_option maxHeartbeats 2000000 in
set_option maxRecDepth 100000 in
theorem Qr3 (b off c : Nat) (zs : List Value) (w : World) (hbig : zs.length * 8 ≤ 140737488355328) (hsc : zs.all scal = true) (hc : ∀ (j : Nat) z, zs[j]? = some z → w.cell? ⟨b, off + j, none⟩ = some z) :
    Calls Tryz.prog 81 #[.slice (some ⟨b, off, none⟩) zs.length c] w fun e w' => ∃ v', e = .returned v' ∧ w'.ownsRow w.heap.size 3 1 v' zs.length zs ∧ Below w.heap.size w w' := by
  have mixed : Tryz.prog.follows .mixedOrders = true := by kernel_rfl
  have t0 := Tryz.underlying3; have a0 := Tryz.isAgg3; have z0 := Tryz.sizeOf3; have v0 := Tryz.zeroValue3; have t1 := Tryz.underlying22; have a1 := Tryz.isAgg22; have z1 := Tryz.sizeOf22; have v1 := Tryz.zeroValue22; have t2 := Tryz.underlying4; have a2 := Tryz.isAgg4; have z2 := Tryz.sizeOf4; have v2 := Tryz.zeroValue4
  have q22 : ∀ (w : World) (a : Option Addr) (n c n' c' : Nat), (binOp .eql 22 (.slice a n c) (.slice none n' c')).run Tryz.prog w = .ok (.bool a.isNone) w := fun w a n c n' c' => Lib.run_eql_slice_nil w _ _ a n c n' c' t1
  have hinfo : (Tryz.prog.info? 3).map (fun i => (i.zero, i.size, i.bytes)) = some (some (.int .i64 0), 1, 8) := by kernel_rfl
  obtain ⟨i0, hi, hz0, hz1, hz2⟩ := info_parts hinfo
  have u22 : ∀ w, Sem.run Tryz.prog (underlying 22) w = .ok (TypeDesc.slice 3) w := run_underlying t1
  have A : Aside (∀ (j : Nat) z, zs[j]? = some z → w.cell? ⟨b, off + j, none⟩ = some z) := hc
  clear hc
  go_enter Tryz.func81, Tryz.ntmps81
  go_wp2_with (at_builtin; refine wpList_append_own _ rfl _ _ 22 rfl w.heap.size 3 i0 (.int .i64 0) 1 8 t1 hi hz0 hz1 hz2 rfl (by decide) _ _ _ rfl (World.ownsRow_made w #[] 0 (Nat.le_refl _) (Nat.zero_le _) rfl) ⟨b, off, none⟩ zs.length c zs rfl ?qc1 ?qc2 ?qc3 ?qc4 ?qc5 ?qc6 ?_)
  case qc1 => simp
  case qc2 =>
    intro j u hj
    rw [Addr.add_lit]
    exact Lib.cell?_alloc_some _ (A.out j u hj)
  case qc3 => intro u hu; exact GA (c := oldCtx w) (w := w) (.sc u (List.all_eq_true.1 hsc u hu)) rfl
  case qc4 => unfold maxLen; omega
  case qc5 => omega
  case qc6 => simp
  intro v' w1 hown hgrow hnil
  go_wp2
  go_ret
  refine ⟨v', rfl, by simpa using hown, ?_⟩
  exact ((Below.refl _ w).alloc (Nat.le_refl _) _).grown hgrow (by simp) (by intro k hk; simp [Value.ownBlock] at hk; omega)

set_option maxHeartbeats 2000000 in
set_option maxRecDepth 100000 in
theorem Qrq (n c : Nat) (w : World) : Calls Tryz.prog 77 #[.slice none n c] w fun e w' => e = .returned (.slice none 0 0) ∧ w' = w := by
  have mixed : Tryz.prog.follows .mixedOrders = true := by kernel_rfl
  have t0 := Tryz.underlying68; have a0 := Tryz.isAgg68; have z0 := Tryz.sizeOf68; have v0 := Tryz.zeroValue68; have t1 := Tryz.underlying35; have a1 := Tryz.isAgg35; have z1 := Tryz.sizeOf35; have v1 := Tryz.zeroValue35; have t2 := Tryz.underlying4; have a2 := Tryz.isAgg4; have z2 := Tryz.sizeOf4; have v2 := Tryz.zeroValue4
  have q22 : ∀ (w : World) (a : Option Addr) (n c n' c' : Nat), (binOp .eql 35 (.slice a n c) (.slice none n' c')).run Tryz.prog w = .ok (.bool a.isNone) w := fun w a n c n' c' => Lib.run_eql_slice_nil w _ _ a n c n' c' t1
  go_enter Tryz.func77, Tryz.ntmps77
  go_wp2
  go_ret
  exact ⟨rfl, rfl⟩
set_option maxHeartbeats 2000000 in
set_option maxRecDepth 100000 in
theorem QqD (a : Addr) (c : Nat) (w : World) : Calls Tryz.prog 77 #[.slice (some a) 0 c] w fun e w' => ∃ v', e = .returned v' ∧ w'.ownsRow w.heap.size 68 5 v' 0 [] ∧ Below w.heap.size w w' := by
  have mixed : Tryz.prog.follows .mixedOrders = true := by kernel_rfl
  have t0 := Tryz.underlying68; have a0 := Tryz.isAgg68; have z0 := Tryz.sizeOf68; have v0 := Tryz.zeroValue68; have t1 := Tryz.underlying35; have a1 := Tryz.isAgg35; have z1 := Tryz.sizeOf35; have v1 := Tryz.zeroValue35; have t2 := Tryz.underlying4; have a2 := Tryz.isAgg4; have z2 := Tryz.sizeOf4; have v2 := Tryz.zeroValue4
  have q22 : ∀ (w : World) (a : Option Addr) (n c n' c' : Nat), (binOp .eql 35 (.slice a n c) (.slice none n' c')).run Tryz.prog w = .ok (.bool a.isNone) w := fun w a n c n' c' => Lib.run_eql_slice_nil w _ _ a n c n' c' t1
  have hinfo : (Tryz.prog.info? 68).map (fun i => (i.zero, i.size, i.bytes)) = some (some (.agg #[.int .i64 0, .int .i64 0, .int .i64 0, .string ByteArray.empty, .slice none 0 0]), 5, 64) := by kernel_rfl
  obtain ⟨i0, hi, hz0, hz1, hz2⟩ := info_parts hinfo
  have u22 : ∀ w, Sem.run Tryz.prog (underlying 35) w = .ok (TypeDesc.slice 68) w := run_underlying t1
  go_enter Tryz.func77, Tryz.ntmps77
  go_wp2_with (at_builtin; refine wpList_append_own _ rfl _ _ 35 rfl w.heap.size 68 i0 (.agg #[.int .i64 0, .int .i64 0, .int .i64 0, .string ByteArray.empty, .slice none 0 0]) 5 64 t1 hi hz0 hz1 hz2 rfl (by decide) _ _ _ rfl (World.ownsRow_made w #[] 0 (Nat.le_refl _) (Nat.zero_le _) rfl) a 0 c [] rfl rfl (by intro j u hj; simp at hj) (by intro u hu; cases hu) (by unfold maxLen; omega) (by omega) (by simp) ?_)
  intro v' w1 hown hgrow hnil
  go_wp2
  go_ret
  refine ⟨v', rfl, by simpa using hown, ?_⟩
  exact ((Below.refl _ w).alloc (Nat.le_refl _) _).grown hgrow (by simp) (by intro k hk; simp [Value.ownBlock] at hk; omega)
set_option maxHeartbeats 2000000 in
set_option maxRecDepth 100000 in
theorem QqE (b off n c : Nat) (zs : List Value) (w : World) (hl : zs.length = n * 5) (hbig : n * 64 ≤ 140737488355328) (hml : n ≤ maxLen) (hsc : ∀ u ∈ zs, u.oneCell' = true) (hc : ∀ (j : Nat) z, zs[j]? = some z → w.cell? ⟨b, off + j, none⟩ = some z) :
    Calls Tryz.prog 77 #[.slice (some ⟨b, off, none⟩) n c] w fun e w' => ∃ v', e = .returned v' ∧ w'.ownsRow w.heap.size 68 5 v' n zs ∧ Below w.heap.size w w' := by
  have mixed : Tryz.prog.follows .mixedOrders = true := by kernel_rfl
  have t0 := Tryz.underlying68; have a0 := Tryz.isAgg68; have z0 := Tryz.sizeOf68; have v0 := Tryz.zeroValue68; have t1 := Tryz.underlying35; have a1 := Tryz.isAgg35; have z1 := Tryz.sizeOf35; have v1 := Tryz.zeroValue35; have t2 := Tryz.underlying4; have a2 := Tryz.isAgg4; have z2 := Tryz.sizeOf4; have v2 := Tryz.zeroValue4
  have q22 : ∀ (w : World) (a : Option Addr) (n c n' c' : Nat), (binOp .eql 35 (.slice a n c) (.slice none n' c')).run Tryz.prog w = .ok (.bool a.isNone) w := fun w a n c n' c' => Lib.run_eql_slice_nil w _ _ a n c n' c' t1
  have hinfo : (Tryz.prog.info? 68).map (fun i => (i.zero, i.size, i.bytes)) = some (some (.agg #[.int .i64 0, .int .i64 0, .int .i64 0, .string ByteArray.empty, .slice none 0 0]), 5, 64) := by kernel_rfl
  obtain ⟨i0, hi, hz0, hz1, hz2⟩ := info_parts hinfo
  have u22 : ∀ w, Sem.run Tryz.prog (underlying 35) w = .ok (TypeDesc.slice 68) w := run_underlying t1
  have A : Aside (∀ (j : Nat) z, zs[j]? = some z → w.cell? ⟨b, off + j, none⟩ = some z) := hc
  clear hc
  go_enter Tryz.func77, Tryz.ntmps77
  go_wp2_with (at_builtin; refine wpList_append_own _ rfl _ _ 35 rfl w.heap.size 68 i0 (.agg #[.int .i64 0, .int .i64 0, .int .i64 0, .string ByteArray.empty, .slice none 0 0]) 5 64 t1 hi hz0 hz1 hz2 rfl (by decide) _ _ _ rfl (World.ownsRow_made w #[] 0 (Nat.le_refl _) (Nat.zero_le _) rfl) ⟨b, off, none⟩ n c zs rfl ?qc1 ?qc2 ?qc3 ?qc4 ?qc5 ?qc6 ?_)
  case qc1 => exact hl
  case qc2 =>
    intro j u hj
    rw [Addr.add_lit]
    exact Lib.cell?_alloc_some _ (A.out j u hj)
  case qc3 => intro u hu; exact hsc u hu
  case qc4 => omega
  case qc5 => omega
  case qc6 => simp
  intro v' w1 hown hgrow hnil
  go_wp2
  go_ret
  refine ⟨v', rfl, by simpa using hown, ?_⟩
  exact ((Below.refl _ w).alloc (Nat.le_refl _) _).grown hgrow (by simp) (by intro k hk; simp [Value.ownBlock] at hk; omega)

set_option maxHeartbeats 2000000 in
set_option maxRecDepth 100000 in
theorem QqF (n c : Nat) (w : World) : Calls Tryz.prog 80 #[.slice none n c] w fun e w' => e = .returned (.slice none 0 0) ∧ w' = w := by
  have mixed : Tryz.prog.follows .mixedOrders = true := by kernel_rfl
  have t0 := Tryz.underlying37; have a0 := Tryz.isAgg37; have z0 := Tryz.sizeOf37; have v0 := Tryz.zeroValue37; have t1 := Tryz.underlying52; have a1 := Tryz.isAgg52; have z1 := Tryz.sizeOf52; have v1 := Tryz.zeroValue52; have t2 := Tryz.underlying4; have a2 := Tryz.isAgg4; have z2 := Tryz.sizeOf4; have v2 := Tryz.zeroValue4
  have q22 : ∀ (w : World) (a : Option Addr) (n c n' c' : Nat), (binOp .eql 52 (.slice a n c) (.slice none n' c')).run Tryz.prog w = .ok (.bool a.isNone) w := fun w a n c n' c' => Lib.run_eql_slice_nil w _ _ a n c n' c' t1
  go_enter Tryz.func80, Tryz.ntmps80
  go_wp2
  go_ret
  exact ⟨rfl, rfl⟩
set_option maxHeartbeats 2000000 in
set_option maxRecDepth 100000 in
theorem Qpf (a : Addr) (c : Nat) (w : World) : Calls Tryz.prog 80 #[.slice (some a) 0 c] w fun e w' => ∃ v', e = .returned v' ∧ w'.ownsRow w.heap.size 37 6 v' 0 [] ∧ Below w.heap.size w w' := by
  have mixed : Tryz.prog.follows .mixedOrders = true := by kernel_rfl
  have t0 := Tryz.underlying37; have a0 := Tryz.isAgg37; have z0 := Tryz.sizeOf37; have v0 := Tryz.zeroValue37; have t1 := Tryz.underlying52; have a1 := Tryz.isAgg52; have z1 := Tryz.sizeOf52; have v1 := Tryz.zeroValue52; have t2 := Tryz.underlying4; have a2 := Tryz.isAgg4; have z2 := Tryz.sizeOf4; have v2 := Tryz.zeroValue4
  have q22 : ∀ (w : World) (a : Option Addr) (n c n' c' : Nat), (binOp .eql 52 (.slice a n c) (.slice none n' c')).run Tryz.prog w = .ok (.bool a.isNone) w := fun w a n c n' c' => Lib.run_eql_slice_nil w _ _ a n c n' c' t1
  have hinfo : (Tryz.prog.info? 37).map (fun i => (i.zero, i.size, i.bytes)) = some (some (.agg #[.int .i64 0, .string ByteArray.empty, .int .i64 0, .int .i64 0, .string ByteArray.empty, .slice none 0 0]), 6, 80) := by kernel_rfl
  obtain ⟨i0, hi, hz0, hz1, hz2⟩ := info_parts hinfo
  have u22 : ∀ w, Sem.run Tryz.prog (underlying 52) w = .ok (TypeDesc.slice 37) w := run_underlying t1
  go_enter Tryz.func80, Tryz.ntmps80
  go_wp2_with (at_builtin; refine wpList_append_own _ rfl _ _ 52 rfl w.heap.size 37 i0 (.agg #[.int .i64 0, .string ByteArray.empty, .int .i64 0, .int .i64 0, .string ByteArray.empty, .slice none 0 0]) 6 80 t1 hi hz0 hz1 hz2 rfl (by decide) _ _ _ rfl (World.ownsRow_made w #[] 0 (Nat.le_refl _) (Nat.zero_le _) rfl) a 0 c [] rfl rfl (by intro j u hj; simp at hj) (by intro u hu; cases hu) (by unfold maxLen; omega) (by omega) (by simp) ?_)
  intro v' w1 hown hgrow hnil
  go_wp2
  go_ret
  refine ⟨v', rfl, by simpa using hown, ?_⟩
  exact ((Below.refl _ w).alloc (Nat.le_refl _) _).grown hgrow (by simp) (by intro k hk; simp [Value.ownBlock] at hk; omega)
set_option maxHeartbeats 2000000 in
set_option maxRecDepth 100000 in
theorem Qpg (b off n c : Nat) (zs : List Value) (w : World) (hl : zs.length = n * 6) (hbig : n * 80 ≤ 140737488355328) (hml : n ≤ maxLen) (hsc : ∀ u ∈ zs, u.oneCell' = true) (hc : ∀ (j : Nat) z, zs[j]? = some z → w.cell? ⟨b, off + j, none⟩ = some z) :
    Calls Tryz.prog 80 #[.slice (some ⟨b, off, none⟩) n c] w fun e w' => ∃ v', e = .returned v' ∧ w'.ownsRow w.heap.size 37 6 v' n zs ∧ Below w.heap.size w w' := by
  have mixed : Tryz.prog.follows .mixedOrders = true := by kernel_rfl
  have t0 := Tryz.underlying37; have a0 := Tryz.isAgg37; have z0 := Tryz.sizeOf37; have v0 := Tryz.zeroValue37; have t1 := Tryz.underlying52; have a1 := Tryz.isAgg52; have z1 := Tryz.sizeOf52; have v1 := Tryz.zeroValue52; have t2 := Tryz.underlying4; have a2 := Tryz.isAgg4; have z2 := Tryz.sizeOf4; have v2 := Tryz.zeroValue4
  have q22 : ∀ (w : World) (a : Option Addr) (n c n' c' : Nat), (binOp .eql 52 (.slice a n c) (.slice none n' c')).run Tryz.prog w = .ok (.bool a.isNone) w := fun w a n c n' c' => Lib.run_eql_slice_nil w _ _ a n c n' c' t1
  have hinfo : (Tryz.prog.info? 37).map (fun i => (i.zero, i.size, i.bytes)) = some (some (.agg #[.int .i64 0, .string ByteArray.empty, .int .i64 0, .int .i64 0, .string ByteArray.empty, .slice none 0 0]), 6, 80) := by kernel_rfl
  obtain ⟨i0, hi, hz0, hz1, hz2⟩ := info_parts hinfo
  have u22 : ∀ w, Sem.run Tryz.prog (underlying 52) w = .ok (TypeDesc.slice 37) w := run_underlying t1
  have A : Aside (∀ (j : Nat) z, zs[j]? = some z → w.cell? ⟨b, off + j, none⟩ = some z) := hc
  clear hc
  go_enter Tryz.func80, Tryz.ntmps80
  go_wp2_with (at_builtin; refine wpList_append_own _ rfl _ _ 52 rfl w.heap.size 37 i0 (.agg #[.int .i64 0, .string ByteArray.empty, .int .i64 0, .int .i64 0, .string ByteArray.empty, .slice none 0 0]) 6 80 t1 hi hz0 hz1 hz2 rfl (by decide) _ _ _ rfl (World.ownsRow_made w #[] 0 (Nat.le_refl _) (Nat.zero_le _) rfl) ⟨b, off, none⟩ n c zs rfl ?qc1 ?qc2 ?qc3 ?qc4 ?qc5 ?qc6 ?_)
  case qc1 => exact hl
  case qc2 =>
    intro j u hj
    rw [Addr.add_lit]
    exact Lib.cell?_alloc_some _ (A.out j u hj)
  case qc3 => intro u hu; exact hsc u hu
  case qc4 => omega
  case qc5 => omega
  case qc6 => simp
  intro v' w1 hown hgrow hnil
  go_wp2
  go_ret
  refine ⟨v', rfl, by simpa using hown, ?_⟩
  exact ((Below.refl _ w).alloc (Nat.le_refl _) _).grown hgrow (by simp) (by intro k hk; simp [Value.ownBlock] at hk; omega)

theorem ok_cli : FnOK1 told Tryz.prog 81 (cloneV 8) := Qnf (e_ := 3) QsS Qr2 Qr3
theorem Qn2 : FnOK1 told Tryz.prog 77 (cloneF 5 64) := Qhn (e_ := 68) Qrq QqD QqE
theorem Ql8 : FnOK1 told Tryz.prog 80 (cloneF 6 80) := Qhn (e_ := 37) QqF Qpf Qpg
theorem Qpx : FnOK1 told Tryz.prog 93 itoaX := by
  refine Qp7 fun n Z w h0 h1 hT => ?_
  refine (Tryz.strconv_Itoa n h0 h1 w hT.1.1.2.2.1).mono ?_
  rintro e w' ⟨rfl, k, os, rfl⟩
  exact ⟨rfl, Lib.below_grow _ _ (Nat.le_refl _) _ _⟩
theorem Ql9 : FnOK1 told Tryz.prog 145 fieldsX := Qnd fun s Z w h1 h2 hT => Tryz.strings_Fields_laid s w h1 h2 hT.1.2.2.2.1
theorem Qjo : FnOK1 told Tryz.prog 177 containsX := Qk9 fun s t Z w h1 hT => by
  obtain ⟨_, m, hm⟩ := hT.2
  exact Tryz.strings_Contains s t m w h1 hm
theorem Qpy : FnOK1 told Tryz.prog 69 joinX := Qp9 (fun a c sep w => Tryz.strings_Join_none a c sep w) (fun bk o c xs sep w h1 h2 h3 h4 h5 => Tryz.strings_Join bk o c xs sep w h1 h2 h3 h4 h5)
theorem Qii : FnOK1 told Tryz.prog 70 indexByteX := Qka fun s c w => Tryz.strings_IndexByte s c w
theorem Qn3 : FnOK1 told Tryz.prog 79 splitX := QoD fun s sep Z w h1 h2 hT => by
  obtain ⟨_, m, hm⟩ := hT.2
  exact Tryz.strings_Split s sep m w h1 hm h2
theorem Qpz : FnOK1 told Tryz.prog 74 trimX := Qqb fun s w hs => Any.strings_Trim_laid Tryz.lays160 (by kernel_rfl) s ⟨#[32, 9]⟩ w hs (by decide) (ascii_of_all (by decide))
theorem QpA : FnOK1 told Tryz.prog 241 atoiX := Qqd fun s n w hs hn => by
  refine (Tryz.strconv_Atoi s n hs hn w).mono ?_
  rintro e w' ⟨rfl, t, rfl⟩
  exact ⟨rfl, Go.Joins.below_bytesWorld _ _ _ _ (Nat.le_refl _)⟩
theorem QsT (f : FuncId) (x : List AV → Heap → Option (AV × Heap)) (h : G0.ext f = some x) : FnOK1 told Tryz.prog f x := by
  have h' : Go.Ab.get f extT0 = some x := h
  simp only [extT0, Go.Ab.get] at h'
  repeat' split at h'
  all_goals first
    | cases h'; done
    | (rename_i e; subst e; cases h'; first | exact ok_cli | exact Qn2 | exact Ql8 | exact Qpx | exact Ql9 | exact Qjo | exact Qpy | exact Qii | exact Qn3 | exact Qpz | exact QpA)
theorem Qr4 : FnOK1 told Tryz.prog 23 knownX := QoE (Qk4 (T := told) (by kernel_rfl) QsT 2000) Qqg
theorem ext_ok (f : FuncId) (x : List AV → Heap → Option (AV × Heap)) (h : G.ext f = some x) : FnOK1 told Tryz.prog f x := by
  have h' : Go.Ab.get f extT = some x := h
  simp only [extT, Go.Ab.get] at h'
  repeat' split at h'
  all_goals first
    | cases h'; done
    | (rename_i e; subst e; cases h'; first | exact Qr4 | exact ok_cli | exact Qn2 | exact Ql8 | exact Qpx | exact Ql9 | exact Qjo | exact Qpy | exact Qii | exact Qn3 | exact Qpz | exact QpA)
end Go.Proofs.YtblfhkldljfhiaaGreatDoor
namespace Go.Ab
def ba (l : List UInt8) : ByteArray := ⟨l.toArray⟩
theorem bl_ba (l : List UInt8) : bl (ba l) = l := by simp [bl, ba]
theorem ba_bl (s : ByteArray) : ba (bl s) = s := by cases s; simp [bl, ba]
theorem QF (l : List UInt8) : (ba l).size = l.length := by rw [Qk5, bl_ba]
theorem ba_inj {a b : List UInt8} (h : ba a = ba b) : a = b := by rw [← bl_ba a, ← bl_ba b, h]
theorem UJ (l : List UInt8) (i j : Nat) : (ba l).extract i j = ba ((l.take j).drop i) := by rw [← ba_bl ((ba l).extract i j), Qp6, bl_ba]
theorem Vo (a b : List UInt8) : ba a ++ ba b = ba (a ++ b) := by rw [← ba_bl (ba a ++ ba b), Qq0, bl_ba, bl_ba]
theorem Fg (l : List UInt8) (i : Nat) (d : UInt8) : (ba l).data.getD i d = l.getD i d := by rw [QsM, bl_ba]
theorem eqS_ba (a b : List UInt8) : eqS (ba a) (ba b) = decide (a = b) := by rw [Qp5, bl_ba, bl_ba]
def isD (b : UInt8) : Bool := decide (48 ≤ b.toNat ∧ b.toNat ≤ 57)
def isS (b : UInt8) : Bool := decide (97 ≤ b.toNat ∧ b.toNat ≤ 122 ∨ b.toNat = 95)
def isI (b : UInt8) : Bool := isS b || isD b
def isH (b : UInt8) : Bool := isD b || decide (97 ≤ b.toNat ∧ b.toNat ≤ 102)
theorem UZ {p : UInt8 → Bool} : ∀ (s : List UInt8) (i : Nat) (hi : i ≤ s.length), (s.take i).all p = true → (∀ h : i < s.length, p s[i] = false) → s.takeWhile p = s.take i
  | s, 0, _, _, h => by
    cases s with
    | nil => rfl
    | cons b s => have := h (by simp); simp at this; simp [this]
  | [], i + 1, hi, _, _ => by simp at hi
  | b :: s, i + 1, hi, ha, h => by
    simp only [List.take_succ_cons, List.all_cons, Bool.and_eq_true] at ha
    simp only [List.take_succ_cons, List.takeWhile_cons, ha.1, if_true]
    rw [UZ s i (by simpa using hi) ha.2 (fun hl => h (by simp only [List.length_cons]; omega))]
theorem Z4 {p : UInt8 → Bool} {s : List UInt8} {i : Nat} (h : i < s.length) (ha : (s.take i).all p = true) (hp : p s[i] = true) : (s.take (i + 1)).all p = true := by
  rw [List.take_succ_eq_append_getElem h, List.all_append, ha]; simp [hp]
theorem i32_in {n : Int} (h1 : 0 ≤ n) (h2 : n ≤ 2147483647) : IntKind.i32.wrap n = n := by
  have e : n % 4294967296 = n := Int.emod_eq_of_lt h1 (by omega)
  unfold IntKind.wrap
  simp [IntKind.bits, IntKind.signed, e]
  omega
def wordB (w : List UInt8) : Bool := match w with
  | [] => false
  | c :: t => decide (t.length < 12) && (!isD c && (decide ((c :: t).takeWhile isI = c :: t) && (decide (c ≠ 114) || (decide (t = []) || !decide (t.takeWhile isD = t)))))
theorem Qeq {p : UInt8 → Bool} {a r : List UInt8} (ha : a.all p = true) (hr : ∀ c t, r = c :: t → p c = false) : (a ++ r).takeWhile p = a ∧ (a ++ r).dropWhile p = r := by
  induction a with
  | nil =>
    cases r with
    | nil => exact ⟨rfl, rfl⟩
    | cons c t => have := hr c t rfl; simp [List.takeWhile_cons, List.dropWhile_cons, this]
  | cons c a ih =>
    simp only [List.all_cons, Bool.and_eq_true] at ha
    obtain ⟨h1, h2⟩ := ih ha.2
    simp [List.takeWhile_cons, List.dropWhile_cons, ha.1, h1, h2]
theorem Qiy (c : UInt8) : isI c = (isS c || isD c) := rfl
theorem QpB {c : UInt8} : isS c = (isI c && !isD c) := by
  rw [Qiy]
  cases hd : isD c with
  | false => simp
  | true =>
    have : isS c = false := by
      unfold isD at hd; unfold isS
      have := of_decide_eq_true hd
      exact decide_eq_false (by omega)
    rw [this]; rfl
theorem Qgn {p : UInt8 → Bool} {l : List UInt8} : decide (l.takeWhile p = l) = l.all p := by
  rw [Bool.eq_iff_iff, decide_eq_true_iff]
  constructor
  · intro e; rw [← e]; exact List.all_takeWhile
  · intro h
    have := (Qeq (r := []) h (fun c t e => by cases e)).1
    rwa [List.append_nil] at this
end Go.Ab
namespace Go.Ab
end Go.Ab
namespace Go.Ab
abbrev S0 : ByteArray := s_
inductive X3 where
  | num (n : Int)
  | nm (s : ByteArray)
  | here
  | neg (x : X3)
  | bin (k : Nat) (x y : X3)
namespace X3
def t : X3 → Qd
  | num n => ⟨1, n, S0, []⟩
  | nm s => ⟨2, 0, s, []⟩
  | here => ⟨3, 0, S0, []⟩
  | neg x => ⟨4, 0, S0, [x.t]⟩
  | bin k x y => ⟨k, 0, S0, [x.t, y.t]⟩
def d : X3 → Nat
  | neg x => x.d + 1
  | bin _ x y => max x.d y.d + 1
  | _ => 0
def ok (p : ByteArray → Prop) : X3 → Prop
  | num n => 0 ≤ n ∧ n < 4294967296
  | nm s => p s
  | here => True
  | neg x => x.ok p
  | bin k x y => 5 ≤ k ∧ k ≤ 11 ∧ x.ok p ∧ y.ok p
end X3
theorem eqS_ne {x y : ByteArray} (h : x ≠ y) : eqS x y = false := by rw [Bool.eq_false_iff]; exact fun e => h (Qix.1 e)
end Go.Ab
namespace Go.Ab
end Go.Ab
namespace Go.Ab
theorem QpC (s : ByteArray) (i : Nat) (h : i < s.size) : s.get! i = (bl s)[i]'h := by
  simp only [ByteArray.get!, bl]
  have h' : i < s.data.size := h
  simp [getElem!_def, Array.getElem?_eq_getElem h']
theorem Qer (s : List UInt8) {i : Nat} (h : i < s.length) (hb : s[i].toNat < 128) : Utf8.decode (ba s) i = (s[i].toNat, 1) := by
  have hg : ((ba s).get! (i + 0)).toNat = s[i].toNat := by
    rw [Nat.add_zero, QpC _ _ (by rw [QF]; exact h)]; simp [bl_ba]
  unfold Utf8.decode
  simp only [hg]
  rw [if_pos hb]
theorem Qij (s : List UInt8) {i : Nat} (h : i < s.length) (hb : ¬ s[i].toNat < 128) : 128 ≤ (Utf8.decode (ba s) i).1 := by
  have hg : ((ba s).get! (i + 0)).toNat = s[i].toNat := by
    rw [Nat.add_zero, QpC _ _ (by rw [QF]; exact h)]; simp [bl_ba]
  unfold Utf8.decode
  simp only [hg]
  rw [if_neg hb]
  have he : Utf8.runeError = 65533 := rfl
  repeat' split
  all_goals simp_all
  all_goals omega
theorem FE (n : Nat) : Je n = some (decide (48 ≤ n ∧ n ≤ 57)) := by
  rw [Je.eq]; unfold Qax
  have c1 : decide ((n : Int) ≥ 48) = decide (48 ≤ n) := decide_eq_decide.2 (by omega)
  have c2 : decide ((n : Int) ≤ 57) = decide (n ≤ 57) := decide_eq_decide.2 (by omega)
  rw [c1, c2, Bool.decide_and]
  cases decide (48 ≤ n) <;> rfl
theorem QmQ (n : Nat) : Wk n = some (decide (97 ≤ n ∧ n ≤ 122 ∨ n = 95)) := by
  rw [Wk.eq]; unfold QaB
  have c1 : decide ((n : Int) ≥ 97) = decide (97 ≤ n) := decide_eq_decide.2 (by omega)
  have c2 : decide ((n : Int) ≤ 122) = decide (n ≤ 122) := decide_eq_decide.2 (by omega)
  have c3 : (((n : Nat) : Int) == 95) = decide (n = 95) := by rw [Bool.eq_iff_iff, beq_iff_eq, decide_eq_true_iff]; omega
  rw [c1, c2, c3, Bool.decide_or, Bool.decide_and]
  cases decide (97 ≤ n) <;> cases decide (n ≤ 122) <;> rfl
theorem QgN (n : Nat) : VQ n = some (decide (97 ≤ n ∧ n ≤ 122 ∨ n = 95) || decide (48 ≤ n ∧ n ≤ 57)) := by
  rw [VQ.eq]; unfold GI
  rw [QmQ, FE]
  simp only [Option.bind_some]
  cases decide (97 ≤ n ∧ n ≤ 122 ∨ n = 95) <;> rfl
theorem Qjp (n : Nat) : W4 n = some (decide (48 ≤ n ∧ n ≤ 57) || decide (97 ≤ n ∧ n ≤ 102)) := by
  rw [W4.eq]; unfold Fq
  have c1 : decide ((n : Int) ≥ 97) = decide (97 ≤ n) := decide_eq_decide.2 (by omega)
  have c2 : decide ((n : Int) ≤ 102) = decide (n ≤ 102) := decide_eq_decide.2 (by omega)
  rw [FE, c1, c2]
  simp only [Option.bind_some]
  rw [Bool.decide_and (97 ≤ n)]
  cases decide (48 ≤ n ∧ n ≤ 57) <;> cases decide (97 ≤ n) <;> rfl
theorem QqG (s : List UInt8) : YQ (ba s) = some (ba (s.takeWhile isH)) := by
  obtain ⟨r, h1, h2⟩ := Ez Wj.eq (fun a => ∃ i : Nat, i ≤ s.length ∧ a = ⟨ba s, ba s, i⟩ ∧ (s.take i).all isH = true) (fun _ r => r = .inl (ba (s.takeWhile isH)) ∨ r = .inr (ba (s.takeWhile isH))) (fun a => s.length - a.i0p) (by
    rintro a ⟨i, hi, rfl, ha⟩
    simp only [GH, QF]
    by_cases h : i < s.length
    · have c1 : decide (i < s.length) = true := by simp [h]
      by_cases hb : s[i].toNat < 128
      · rw [Qer s h hb, c1, cond_true]
        simp only [Qjp, Option.bind_some]
        have hp : isH s[i] = (decide (48 ≤ s[i].toNat ∧ s[i].toNat ≤ 57) || decide (97 ≤ s[i].toNat ∧ s[i].toNat ≤ 102)) := by simp [isH, isS, isD, isI]
        rw [← hp]
        cases hq : isH s[i] with
        | true => exact .inl ⟨⟨ba s, ba s, i + 1⟩, rfl, ⟨i + 1, by omega, rfl, Z4 h ha hq⟩, by simp only; omega, fun r hr => hr⟩
        | false =>
          refine .inr ⟨_, ?_, .inl rfl⟩
          rw [UZ s i hi ha (fun _ => hq)]
          have c2 : decide (0 ≤ (0 : Int) ∧ (0 : Int) ≤ ((i : Nat) : Int) ∧ ((i : Nat) : Int) ≤ ((s.length : Nat) : Int)) = true := by simp; omega
          simp only [Bool.not_false, cond_true, c2, Int.toNat_natCast, Int.toNat_zero, UJ, List.drop_zero]
      · have hd := Qij s h hb
        have hq : isH s[i] = false := by simp [isH, isS, isD, isI]; omega
        rw [c1, cond_true]
        simp only [Qjp, Option.bind_some]
        generalize (Utf8.decode (ba s) i).1 = r at hd
        have hp : (decide (48 ≤ r ∧ r ≤ 57) || decide (97 ≤ r ∧ r ≤ 102)) = false := by simp; omega
        rw [hp]
        refine .inr ⟨_, ?_, .inl rfl⟩
        rw [UZ s i hi ha (fun _ => hq)]
        have c2 : decide (0 ≤ (0 : Int) ∧ (0 : Int) ≤ ((i : Nat) : Int) ∧ ((i : Nat) : Int) ≤ ((s.length : Nat) : Int)) = true := by simp; omega
        simp only [Bool.not_false, cond_true, c2, Int.toNat_natCast, Int.toNat_zero, UJ, List.drop_zero]
    · have c1 : decide (i < s.length) = false := by simp; omega
      refine .inr ⟨_, by rw [c1]; rfl, .inr ?_⟩
      rw [UZ s i hi ha (fun h' => absurd h' h), List.take_of_length_le (by omega)]) ⟨ba s, ba s, 0⟩ ⟨0, by omega, rfl, by simp⟩
  rw [YQ.eq]; unfold F9
  rw [h1]
  rcases h2 with rfl | rfl <;> rfl
theorem QdN (s : List UInt8) : Ul (ba s) = some (ba (s.takeWhile isI)) := by
  obtain ⟨r, h1, h2⟩ := Ez Vr.eq (fun a => ∃ i : Nat, i ≤ s.length ∧ a = ⟨ba s, ba s, i⟩ ∧ (s.take i).all isI = true) (fun _ r => r = .inl (ba (s.takeWhile isI)) ∨ r = .inr (ba (s.takeWhile isI))) (fun a => s.length - a.i0p) (by
    rintro a ⟨i, hi, rfl, ha⟩
    simp only [Zi, QF]
    by_cases h : i < s.length
    · have c1 : decide (i < s.length) = true := by simp [h]
      by_cases hb : s[i].toNat < 128
      · rw [Qer s h hb, c1, cond_true]
        simp only [QgN, Option.bind_some]
        have hp : isI s[i] = (decide (97 ≤ s[i].toNat ∧ s[i].toNat ≤ 122 ∨ s[i].toNat = 95) || decide (48 ≤ s[i].toNat ∧ s[i].toNat ≤ 57)) := by simp [isI, isS, isD, isI]
        rw [← hp]
        cases hq : isI s[i] with
        | true => exact .inl ⟨⟨ba s, ba s, i + 1⟩, rfl, ⟨i + 1, by omega, rfl, Z4 h ha hq⟩, by simp only; omega, fun r hr => hr⟩
        | false =>
          refine .inr ⟨_, ?_, .inl rfl⟩
          rw [UZ s i hi ha (fun _ => hq)]
          have c2 : decide (0 ≤ (0 : Int) ∧ (0 : Int) ≤ ((i : Nat) : Int) ∧ ((i : Nat) : Int) ≤ ((s.length : Nat) : Int)) = true := by simp; omega
          simp only [Bool.not_false, cond_true, c2, Int.toNat_natCast, Int.toNat_zero, UJ, List.drop_zero]
      · have hd := Qij s h hb
        have hq : isI s[i] = false := by simp [isI, isS, isD, isI]; omega
        rw [c1, cond_true]
        simp only [QgN, Option.bind_some]
        generalize (Utf8.decode (ba s) i).1 = r at hd
        have hp : (decide (97 ≤ r ∧ r ≤ 122 ∨ r = 95) || decide (48 ≤ r ∧ r ≤ 57)) = false := by simp; omega
        rw [hp]
        refine .inr ⟨_, ?_, .inl rfl⟩
        rw [UZ s i hi ha (fun _ => hq)]
        have c2 : decide (0 ≤ (0 : Int) ∧ (0 : Int) ≤ ((i : Nat) : Int) ∧ ((i : Nat) : Int) ≤ ((s.length : Nat) : Int)) = true := by simp; omega
        simp only [Bool.not_false, cond_true, c2, Int.toNat_natCast, Int.toNat_zero, UJ, List.drop_zero]
    · have c1 : decide (i < s.length) = false := by simp; omega
      refine .inr ⟨_, by rw [c1]; rfl, .inr ?_⟩
      rw [UZ s i hi ha (fun h' => absurd h' h), List.take_of_length_le (by omega)]) ⟨ba s, ba s, 0⟩ ⟨0, by omega, rfl, by simp⟩
  rw [Ul.eq]; unfold EF
  rw [h1]
  rcases h2 with rfl | rfl <;> rfl
theorem Qik (s : List UInt8) : Vn (ba s) = some (ba (s.takeWhile isD)) := by
  obtain ⟨r, h1, h2⟩ := Ez Vs.eq (fun a => ∃ i : Nat, i ≤ s.length ∧ a = ⟨ba s, ba s, i⟩ ∧ (s.take i).all isD = true) (fun _ r => r = .inl (ba (s.takeWhile isD)) ∨ r = .inr (ba (s.takeWhile isD))) (fun a => s.length - a.i0p) (by
    rintro a ⟨i, hi, rfl, ha⟩
    simp only [Zj, QF]
    by_cases h : i < s.length
    · have c1 : decide (i < s.length) = true := by simp [h]
      by_cases hb : s[i].toNat < 128
      · rw [Qer s h hb, c1, cond_true]
        simp only [FE, Option.bind_some]
        have hp : isD s[i] = decide (48 ≤ s[i].toNat ∧ s[i].toNat ≤ 57) := by simp [isD, isS, isD, isI]
        rw [← hp]
        cases hq : isD s[i] with
        | true => exact .inl ⟨⟨ba s, ba s, i + 1⟩, rfl, ⟨i + 1, by omega, rfl, Z4 h ha hq⟩, by simp only; omega, fun r hr => hr⟩
        | false =>
          refine .inr ⟨_, ?_, .inl rfl⟩
          rw [UZ s i hi ha (fun _ => hq)]
          have c2 : decide (0 ≤ (0 : Int) ∧ (0 : Int) ≤ ((i : Nat) : Int) ∧ ((i : Nat) : Int) ≤ ((s.length : Nat) : Int)) = true := by simp; omega
          simp only [Bool.not_false, cond_true, c2, Int.toNat_natCast, Int.toNat_zero, UJ, List.drop_zero]
      · have hd := Qij s h hb
        have hq : isD s[i] = false := by simp [isD, isS, isD, isI]; omega
        rw [c1, cond_true]
        simp only [FE, Option.bind_some]
        generalize (Utf8.decode (ba s) i).1 = r at hd
        have hp : (decide (48 ≤ r ∧ r ≤ 57)) = false := by simp; omega
        rw [hp]
        refine .inr ⟨_, ?_, .inl rfl⟩
        rw [UZ s i hi ha (fun _ => hq)]
        have c2 : decide (0 ≤ (0 : Int) ∧ (0 : Int) ≤ ((i : Nat) : Int) ∧ ((i : Nat) : Int) ≤ ((s.length : Nat) : Int)) = true := by simp; omega
        simp only [Bool.not_false, cond_true, c2, Int.toNat_natCast, Int.toNat_zero, UJ, List.drop_zero]
    · have c1 : decide (i < s.length) = false := by simp; omega
      refine .inr ⟨_, by rw [c1]; rfl, .inr ?_⟩
      rw [UZ s i hi ha (fun h' => absurd h' h), List.take_of_length_le (by omega)]) ⟨ba s, ba s, 0⟩ ⟨0, by omega, rfl, by simp⟩
  rw [Vn.eq]; unfold EH
  rw [h1]
  rcases h2 with rfl | rfl <;> rfl
end Go.Ab
namespace Go.Ab
def dropB (s : List UInt8) : List UInt8 := s.dropWhile (· == 32)
theorem PQ (s : List UInt8) : dropB (dropB s) = dropB s := by
  unfold dropB
  induction s with
  | nil => rfl
  | cons b s ih =>
    by_cases h : b = 32
    · simp [List.dropWhile_cons, h, ih]
    · simp [List.dropWhile_cons, h]
theorem Qn4 (s : List UInt8) : (dropB s).length ≤ s.length := by unfold dropB; exact (List.dropWhile_sublist _).length_le
abbrev PS (s : List UInt8) (d : Int) (b : Bool) : Qa := ⟨ba s, d, b⟩
theorem Qph (s : List UInt8) : Ue (ba s) = some (ba (dropB s)) := by
  have loop : ∀ s : List UInt8, QU ⟨ba s, 32⟩ = some (ba (dropB s)) := by
    intro s
    induction s with
    | nil => rw [QU.eq]; rfl
    | cons b s ih =>
      rw [QU.eq]; unfold Yu
      have c1 : decide (((b :: s).length : Int) > 0) = true := by simp only [List.length_cons, decide_eq_true_eq]; omega
      have c2 : decide (0 ≤ (0 : Int) ∧ (0 : Int) < ((b :: s).length : Int)) = true := by simp only [List.length_cons, decide_eq_true_eq]; omega
      have c4 : decide (0 ≤ (1 : Int) ∧ (1 : Int) ≤ (((b :: s).length : Nat) : Int) ∧ (((b :: s).length : Nat) : Int) ≤ (((b :: s).length : Nat) : Int)) = true := by simp only [List.length_cons, decide_eq_true_eq]; omega
      simp only [QF, c1, c2, cond_true, Fg]
      by_cases h : b = 32
      · have c3 : ((((b :: s).getD (Int.toNat 0) 0).toNat : Int) == 32) = true := by subst h; rfl
        rw [c3, cond_true, c4, cond_true]
        simp only [Option.bind_some, Sum.elim_inl, UJ, Int.toNat_natCast]
        rw [show List.drop (Int.toNat 1) (List.take (b :: s).length (b :: s)) = s from by rw [List.take_length]; rfl, ih]
        simp [dropB, List.dropWhile_cons, h]
      · have c3 : ((((b :: s).getD (Int.toNat 0) 0).toNat : Int) == 32) = false := by
          rw [beq_eq_false_iff_ne]
          intro e
          apply h
          have e : (b.toNat : Int) = 32 := e
          exact UInt8.toNat_inj.1 (by have : (32 : UInt8).toNat = 32 := rfl; omega)
        rw [c3, cond_false]
        simp only [Option.bind_some, Sum.elim_inr]
        simp [dropB, List.dropWhile_cons, h]
  rw [Ue.eq]; unfold Xn
  by_cases h : s = []
  · subst h; have : eqS (ba []) s_ = true := Qix.2 rfl
    rw [this]; rfl
  · have : eqS (ba s) s_ = false := by
      rw [show s_ = ba [] from rfl, eqS_ba]; simp [h]
    rw [this, cond_false, JG.eq]; unfold V5
    rw [loop s]; rfl
theorem Qil (s : List UInt8) (d : Int) (b : Bool) : Q0 (PS s d b) = some (PS (dropB s) d b) := by
  rw [Q0.eq]; unfold WG
  simp only [Qph, Option.bind_some]
def pre (a s : List UInt8) : Bool := decide (s.take a.length = a)
theorem Qim (s a : List UInt8) : JY (ba s) (ba a) = some (pre a s) := by
  rw [JY.eq]; unfold Wg
  rw [QN.eq]; unfold Y2
  simp only [QF, UJ, eqS_ba, Int.toNat_natCast]
  by_cases h : a.length ≤ s.length
  · have c1 : decide ((s.length : Int) ≥ (a.length : Int)) = true := by simp; omega
    have c2 : decide (0 ≤ (0 : Int) ∧ (0 : Int) ≤ (a.length : Int) ∧ (a.length : Int) ≤ (s.length : Int)) = true := by simp; omega
    rw [c1, cond_true, c2, cond_true]; rfl
  · have c1 : decide ((s.length : Int) ≥ (a.length : Int)) = false := by simp; omega
    rw [c1, cond_false]
    simp only [Option.bind_some, pre]
    rw [decide_eq_false]
    intro e
    have := congrArg List.length e
    simp at this; omega
theorem QmR (s : List UInt8) : Jz (ba s) = some (pre [48, 120] s) := by
  rw [Jz.eq]; unfold Ws
  have h := Qim s [48, 120]
  rw [JY.eq] at h; unfold Wg at h
  exact h
theorem Qiz {a s : List UInt8} (h : pre a s = true) : a.length ≤ s.length ∧ s = a ++ s.drop a.length := by
  have e : s.take a.length = a := of_decide_eq_true h
  refine ⟨?_, ?_⟩
  · have := congrArg List.length e; simp at this; omega
  · conv => lhs; rw [← List.take_append_drop a.length s, e]
theorem FH (a s : List UInt8) (d : Int) (b : Bool) : QD (ba a) (PS s d b) = some (bif b then (false, PS (dropB s) d b) else bif pre a (dropB s) then (true, PS ((dropB s).drop a.length) d b) else (false, PS (dropB s) d b)) := by
  rw [QD.eq]; unfold Xp
  simp only [Qil, Option.bind_some]
  cases b with
  | true => rfl
  | false =>
    simp only [cond_false, Qim, Option.bind_some]
    cases h : pre a (dropB s) with
    | false => rfl
    | true =>
      obtain ⟨h1, h2⟩ := Qiz h
      simp only [Bool.not_true, cond_false, QF, UJ, Int.toNat_natCast, cond_true]
      have c2 : decide (0 ≤ (a.length : Int) ∧ (a.length : Int) ≤ ((dropB s).length : Int) ∧ ((dropB s).length : Int) ≤ ((dropB s).length : Int)) = true := by simp; omega
      rw [c2, cond_true, List.take_length]
def sg (k : Nat) : List UInt8 := match k with
  | 5 => [43] | 6 => [45] | 7 => [42] | 8 => [38] | 9 => [124] | 10 => [60, 60] | 11 => [62, 62] | _ => []
theorem Qr5 : VR = some [s_, s_, s_, h_2e, h_2d, ba (sg 5), ba (sg 6), ba (sg 7), ba (sg 8), ba (sg 9), ba (sg 10), ba (sg 11)] := by rw [VR.eq]; rfl
theorem Qr6 {k : Nat} (h : 5 ≤ k ∧ k ≤ 11) : [s_, s_, s_, h_2e, h_2d, ba (sg 5), ba (sg 6), ba (sg 7), ba (sg 8), ba (sg 9), ba (sg 10), ba (sg 11)][k]? = some (ba (sg k)) := by
  have : k = 5 ∨ k = 6 ∨ k = 7 ∨ k = 8 ∨ k = 9 ∨ k = 10 ∨ k = 11 := by omega
  rcases this with rfl | rfl | rfl | rfl | rfl | rfl | rfl <;> rfl
def lv (l : Nat) : List Nat := match l with
  | 0 => [9] | 1 => [8] | 2 => [10, 11] | 3 => [5, 6] | _ => [7]
theorem lv_ok {l k : Nat} (h : k ∈ lv l) : 5 ≤ k ∧ k ≤ 11 := by
  unfold lv at h; split at h <;> simp at h <;> omega
def kindS (ks : List Nat) (t : List UInt8) : Option Nat := ks.find? fun k => pre (sg k) t
theorem QpD (ks : List Nat) (hk : ∀ k ∈ ks, 5 ≤ k ∧ k ≤ 11) (hne : ks ≠ []) (hl : ks.length ≤ 1000) (s : List UInt8) (d : Int) (b : Bool) : QI (ks.map fun k : Nat => (k : Int)) (PS s d b) =
    some (bif b then (0, PS (dropB s) d b) else match kindS ks (dropB s) with | some k => ((k : Int), PS ((dropB s).drop (sg k).length) d b) | none => (0, PS (dropB s) d b)) := by
  obtain ⟨r, h1, h2⟩ := Ez JB.eq
    (fun a => ∃ i : Nat, ∃ s' : List UInt8, i ≤ ks.length ∧ dropB s' = dropB s ∧ (i = ks.length → s' = dropB s) ∧ a = ⟨ks.map fun k : Nat => (k : Int), ks.length, i, PS s' d b⟩ ∧ (b = false → kindS (ks.drop i) (dropB s) = kindS ks (dropB s)))
    (fun _ r => r = bif b then .inr (PS (dropB s) d b) else match kindS ks (dropB s) with | some k => .inl ⟨(k : Int), PS ((dropB s).drop (sg k).length) d b⟩ | none => .inr (PS (dropB s) d b)) (fun a => ks.length - a.x9.toNat) (by
    rintro a ⟨i, s', hi, hs, hend, rfl, hq⟩
    simp only [Wt, Int.toNat_natCast]
    by_cases h : i < ks.length
    · have c1 : decide ((i : Int) < (ks.length : Int)) = true := by simp; omega
      have hd : ks.drop i = ks[i] :: ks.drop (i + 1) := List.drop_eq_getElem_cons h
      have hki := hk ks[i] (List.getElem_mem h)
      rw [c1, cond_true, List.getElem?_map, List.getElem?_eq_getElem h]
      simp only [Int.natCast_nonneg, decide_true, cond_true, Option.map_some, Option.bind_some, Qr5, Int.toNat_natCast, Qr6 hki, FH, hs]
      cases b with
      | true =>
        refine .inl ⟨⟨ks.map fun k : Nat => (k : Int), ks.length, (i + 1 : Nat), PS (dropB s) d true⟩, ?_, ⟨i + 1, dropB s, by omega, PQ s, fun _ => rfl, rfl, fun e => by cases e⟩, by simp only [Int.toNat_natCast]; omega, fun r hr => hr⟩
        simp only [cond_true, cond_false]
        rw [w64_in (n := (i : Int) + 1) (by omega) (by omega)]; rfl
      | false =>
        simp only [cond_false]
        have hq := hq rfl
        cases hp : pre (sg ks[i]) (dropB s) with
        | true =>
          have : kindS ks (dropB s) = some ks[i] := by rw [← hq, hd]; simp only [kindS, List.find?_cons, hp]
          refine .inr ⟨_, rfl, ?_⟩
          rw [this]; rfl
        | false =>
          refine .inl ⟨⟨ks.map fun k : Nat => (k : Int), ks.length, (i + 1 : Nat), PS (dropB s) d false⟩, ?_, ⟨i + 1, dropB s, by omega, PQ s, fun _ => rfl, rfl, fun _ => ?_⟩, by simp only [Int.toNat_natCast]; omega, fun r hr => hr⟩
          · simp only [cond_false]
            rw [w64_in (n := (i : Int) + 1) (by omega) (by omega)]; rfl
          · rw [← hq, hd]; simp only [kindS, List.find?_cons, hp]
    · have c1 : decide ((i : Int) < (ks.length : Int)) = false := by simp; omega
      have he := hend (by omega)
      subst he
      refine .inr ⟨_, by rw [c1]; rfl, ?_⟩
      cases b with
      | true => rfl
      | false =>
        have hq := hq rfl
        rw [List.drop_eq_nil_of_le (by omega)] at hq
        rw [← hq]; rfl)
    ⟨ks.map fun k : Nat => (k : Int), ks.length, 0, PS s d b⟩ ⟨0, s, by omega, rfl, fun e => by cases ks with | nil => exact absurd rfl hne | cons => simp at e, rfl, fun _ => rfl⟩
  rw [QI.eq]; unfold Xr
  rw [List.length_map, h1, h2]
  cases b with
  | true => rfl
  | false =>
    simp only [cond_false]
    cases kindS ks (dropB s) <;> rfl
end Go.Ab
namespace Go.Ab
abbrev E0 : Qd := ⟨0, 0, s_, []⟩
def dg (b : UInt8) : Nat := if 97 ≤ b.toNat then b.toNat - 97 + 10 else b.toNat - 48
def numv (base : Nat) : List UInt8 → Nat → Option Nat
  | [], n => some n
  | b :: l, n => if n * base + dg b ≥ 4294967296 then none else numv base l (n * base + dg b)
theorem dg_lt {b : UInt8} (h : isH b = true) : dg b < 16 := by
  unfold isH isD at h; unfold dg
  simp only [Bool.or_eq_true, decide_eq_true_eq] at h
  split <;> omega
theorem Qbs (s : List UInt8) (d : Int) (b : Bool) : Qk (PS s d b) = some (E0, PS s d true) := by rw [Qk.eq]; rfl
theorem Qrr (ds r : List UInt8) (hds : ds.all isH = true) (base : Nat) (hb : base ≤ 16) (d : Int) (b : Bool) : Jq (ba ds) base (PS (ds ++ r) d b) =
    some (match numv base ds 0 with | some n => (⟨1, n, s_, []⟩, PS r d b) | none => (E0, PS (ds ++ r) d true)) := by
  obtain ⟨x, h1, h2⟩ := Ez Jk.eq
    (fun a => ∃ i n : Nat, i ≤ ds.length ∧ n < 4294967296 ∧ a = ⟨ba ds, base, n, PS (ds ++ r) d b, E0, ba ds, i⟩ ∧ numv base (ds.drop i) n = numv base ds 0)
    (fun _ x => match numv base ds 0 with | some n => x = .inr ⟨ba ds, n, PS (ds ++ r) d b, E0⟩ | none => x = .inl ⟨PS (ds ++ r) d true, E0⟩)
    (fun a => ds.length - a.i2p) (by
    rintro a ⟨i, n, hi, hn, rfl, hq⟩
    simp only [VX, QF]
    by_cases h : i < ds.length
    · have c1 : decide (i < ds.length) = true := decide_eq_true h
      have hH : isH ds[i] = true := List.all_eq_true.1 hds _ (List.getElem_mem h)
      have hH2 := hH
      unfold isH isD at hH2
      simp only [Bool.or_eq_true, decide_eq_true_eq] at hH2
      have hdg := dg_lt hH
      have hd : ds.drop i = ds[i] :: ds.drop (i + 1) := List.drop_eq_getElem_cons h
      rw [hd] at hq
      simp only [numv] at hq
      rw [c1, cond_true, Qer ds h (by omega)]
      simp only [Qbs, Option.bind_some]
      have hmul : n * base ≤ 4294967296 * 16 := Nat.mul_le_mul (by omega) hb
      have em : w64 ((n : Int) * (base : Int)) = ((n * base : Nat) : Int) := by rw [← Int.natCast_mul]; exact w64_in (by omega) (by omega)
      have key : ∀ x : Int, x = (dg ds[i] : Int) → w64 (w64 ((n : Int) * (base : Int)) + w64 x) = ((n * base + dg ds[i] : Nat) : Int) := by
        intro x hx
        rw [em, hx, w64_in (n := (dg ds[i] : Int)) (by omega) (by omega), w64_in (by omega) (by omega)]; omega
      by_cases h97 : 97 ≤ ds[i].toNat
      · have c2 : decide ((ds[i].toNat : Int) ≥ 97) = true := decide_eq_true (by omega)
        have hdv : dg ds[i] = ds[i].toNat - 97 + 10 := by unfold dg; rw [if_pos h97]
        have e1 : w64 (IntKind.i32.wrap ((ds[i].toNat : Int) - 97)) + 10 = (dg ds[i] : Int) := by
          rw [i32_in (by omega) (by omega), w64_in (by omega) (by omega)]; omega
        rw [c2, cond_true, key _ e1]
        by_cases hbig : n * base + dg ds[i] ≥ 4294967296
        · rw [if_pos hbig] at hq
          have c3 : decide (((n * base + dg ds[i] : Nat) : Int) ≥ 4294967296) = true := decide_eq_true (by omega)
          rw [c3, cond_true]
          exact .inr ⟨_, rfl, by rw [← hq]⟩
        · rw [if_neg hbig] at hq
          have c3 : decide (((n * base + dg ds[i] : Nat) : Int) ≥ 4294967296) = false := decide_eq_false (by omega)
          rw [c3, cond_false]
          exact .inl ⟨_, rfl, ⟨i + 1, _, by omega, by omega, rfl, hq⟩, by simp only; omega, fun x hx => hx⟩
      · have c2 : decide ((ds[i].toNat : Int) ≥ 97) = false := decide_eq_false (by omega)
        have hdv : dg ds[i] = ds[i].toNat - 48 := by unfold dg; rw [if_neg h97]
        have e1 : IntKind.i32.wrap ((ds[i].toNat : Int) - 48) = (dg ds[i] : Int) := by
          rw [i32_in (by omega) (by omega)]; omega
        rw [c2, cond_false, key _ e1]
        by_cases hbig : n * base + dg ds[i] ≥ 4294967296
        · rw [if_pos hbig] at hq
          have c3 : decide (((n * base + dg ds[i] : Nat) : Int) ≥ 4294967296) = true := decide_eq_true (by omega)
          rw [c3, cond_true]
          exact .inr ⟨_, rfl, by rw [← hq]⟩
        · rw [if_neg hbig] at hq
          have c3 : decide (((n * base + dg ds[i] : Nat) : Int) ≥ 4294967296) = false := decide_eq_false (by omega)
          rw [c3, cond_false]
          exact .inl ⟨_, rfl, ⟨i + 1, _, by omega, by omega, rfl, hq⟩, by simp only; omega, fun x hx => hx⟩
    · have c1 : decide (i < ds.length) = false := decide_eq_false h
      rw [List.drop_eq_nil_of_le (by omega)] at hq
      refine .inr ⟨_, by rw [c1]; rfl, ?_⟩
      rw [← hq]; rfl) ⟨ba ds, base, 0, PS (ds ++ r) d b, E0, ba ds, 0⟩ ⟨0, 0, by omega, by omega, rfl, rfl⟩
  rw [Jq.eq]; unfold WJ
  rw [h1]
  cases hv : numv base ds 0 with
  | none => rw [hv] at h2; simp only at h2; subst h2; rfl
  | some n =>
    rw [hv] at h2; simp only at h2; subst h2
    simp only [Option.bind_some, Sum.elim_inr, QF, UJ, Int.toNat_natCast, List.length_append]
    have c2 : decide (0 ≤ (ds.length : Int) ∧ (ds.length : Int) ≤ ((ds.length + r.length : Nat) : Int) ∧ ((ds.length + r.length : Nat) : Int) ≤ ((ds.length + r.length : Nat) : Int)) = true := decide_eq_true (by omega)
    rw [c2, cond_true, List.take_of_length_le (by simp), List.drop_left]
theorem Qn5 (x : Qd) (s : List UInt8) (d : Int) (b : Bool) : JA x (PS s d b) = some (if s.takeWhile isI = [] then (x, PS s d b) else (E0, PS s d true)) := by
  rw [JA.eq]; unfold W7
  simp only [QdN, Option.bind_some, Qbs]
  rw [show s_ = ba [] from rfl, eqS_ba]
  by_cases h : s.takeWhile isI = []
  · rw [if_pos h]; simp [h]
  · rw [if_neg h]; simp [h]
theorem QsU (w : List UInt8) : W0 (ba w) = some (wordB w) := by
  rw [W0.eq]; unfold EI
  rw [show s_ = ba [] from rfl, eqS_ba]
  cases w with
  | nil => rfl
  | cons c t =>
    simp only [QF, Fg, QdN, UJ, Qik, Option.bind_some, eqS_ba]
    have c0 : decide (c :: t = []) = false := by simp
    have c2 : decide (0 ≤ (0 : Int) ∧ (0 : Int) < (((c :: t).length : Nat) : Int)) = true := decide_eq_true (by simp only [List.length_cons]; omega)
    have c3 : decide (0 ≤ (1 : Int) ∧ (1 : Int) ≤ (((c :: t).length : Nat) : Int) ∧ (((c :: t).length : Nat) : Int) ≤ (((c :: t).length : Nat) : Int)) = true := decide_eq_true (by simp only [List.length_cons]; omega)
    have c4 : IntKind.i32.wrap (((((c :: t).getD (Int.toNat 0) 0).toNat : Nat) : Int)) = (c.toNat : Int) := by
      show IntKind.i32.wrap (c.toNat : Int) = _
      exact i32_in (by omega) (by have := c.toNat_lt; omega)
    have e1 : ((c :: t).take (Int.toNat (((c :: t).length : Nat) : Int))).drop (Int.toNat 1) = t := by rw [Int.toNat_natCast, List.take_length]; rfl
    rw [c0, cond_false, c2, cond_true, c4, FE, c3, e1]
    simp only [Option.bind_some, eqS_ba, cond_true]
    have c1 : decide ((((c :: t).length : Nat) : Int) > 12) = !decide (t.length < 12) := by
      by_cases h : t.length < 12
      · rw [decide_eq_true h, decide_eq_false (by simp only [List.length_cons]; omega)]; rfl
      · rw [decide_eq_false h, decide_eq_true (by simp only [List.length_cons]; omega)]; rfl
    have c5 : ((((c :: t).getD (Int.toNat 0) 0).toNat : Int) != 114) = decide (c ≠ 114) := by
      show ((c.toNat : Int) != 114) = _
      rw [Bool.eq_iff_iff, bne_iff_ne, decide_eq_true_iff]
      have : (114 : UInt8).toNat = 114 := rfl
      constructor
      · intro h e; subst e; exact h rfl
      · intro h e; exact h (UInt8.toNat_inj.1 (by omega))
    have c6 : ((((c :: t).length : Nat) : Int) == 1) = decide (t = []) := by
      rw [Bool.eq_iff_iff, beq_iff_eq, decide_eq_true_iff]
      cases t <;> simp <;> omega
    rw [c1, c5, c6]
    have hw : wordB (c :: t) = (decide (t.length < 12) && (!isD c && (decide ((c :: t).takeWhile isI = c :: t) && (decide (c ≠ 114) || (decide (t = []) || !decide (t.takeWhile isD = t)))))) := rfl
    rw [hw]
    have c7 : decide (48 ≤ c.toNat ∧ c.toNat ≤ 57) = isD c := rfl
    rw [c7]
    cases decide (t.length < 12) <;> cases isD c <;> cases decide ((c :: t).takeWhile isI = c :: t) <;> cases decide (c ≠ 114) <;> cases decide (t = []) <;> rfl
end Go.Ab
namespace Go.Ab
theorem QsV {p : UInt8 → Bool} (t : List UInt8) : t.drop (t.takeWhile p).length = t.dropWhile p := by
  conv => lhs; rw [← List.takeWhile_append_dropWhile (p := p) (l := t)]
  rw [List.takeWhile_append_dropWhile, ]
  conv => lhs; arg 2; rw [← List.takeWhile_append_dropWhile (p := p) (l := t)]
  exact List.drop_left
def tailA (base : Nat) (h r : List UInt8) : Option (X3 × List UInt8) := match numv base h 0 with
  | some n => if r.takeWhile isI = [] then some (.num n, r) else none
  | none => none
def atomS (t : List UInt8) : Option (X3 × List UInt8) :=
  bif pre [48, 120] t && !decide ((t.drop 2).takeWhile isH = []) then tailA 16 ((t.drop 2).takeWhile isH) ((t.drop 2).dropWhile isH)
  else bif !decide (t.takeWhile isD = []) then tailA 10 (t.takeWhile isD) (t.dropWhile isD)
  else bif wordB (t.takeWhile isI) then some (.nm (ba (t.takeWhile isI)), t.dropWhile isI) else none
def PR (f : Option (Qd × Qa)) (d : Int) (o : Option (X3 × List UInt8)) : Prop := match o with
  | some (x, r) => f = some (x.t, PS r d false)
  | none => ∃ e r, f = some (e, PS r d true)
theorem all_tw {p q : UInt8 → Bool} (hpq : ∀ b, p b = true → q b = true) (t : List UInt8) : (t.takeWhile p).all q = true := by
  rw [List.all_eq_true]; intro b hb; exact hpq b (List.all_eq_true.1 List.all_takeWhile b hb)
theorem QpE (base : Nat) (hb : base ≤ 16) (h r : List UInt8) (hh : h.all isH = true) (d : Int) :
    PR ((Jq (ba h) base (PS (h ++ r) d false)).bind fun q => (JA q.1 q.2).bind fun q => some (q.1, q.2)) d (tailA base h r) := by
  rw [Qrr h r hh base hb]
  unfold tailA
  cases hv : numv base h 0 with
  | none =>
    simp only [Option.bind_some, Qn5]
    split <;> exact ⟨_, _, rfl⟩
  | some n =>
    simp only [Option.bind_some, Qn5]
    split
    · rfl
    · exact ⟨_, _, rfl⟩
theorem QjP {s r : List UInt8} (h : dropB s = 40 :: r) (d : Int) : Qu (PS s d false) = QG (PS r d false) := by
  rw [Qu.eq]; unfold Wl
  simp only [show h_28 = ba [40] from rfl, FH, cond_true, Option.bind_some, cond_false, h]
  rw [show pre [40] (40 :: r) = true from by simp [pre]]
  simp only [cond_true]
  show (QG (PS r d false)).bind (fun r2 => some (r2.1, r2.2)) = _
  cases QG (PS r d false) <;> rfl
theorem Qdf {a : UInt8} {t : List UInt8} (h : ∀ r, t ≠ a :: r) : pre [a] t = false := by
  cases t with
  | nil => simp [pre]
  | cons b t =>
    have : b ≠ a := fun e => h t (by rw [e])
    simp [pre, this]
theorem Qin {s r : List UInt8} (h : dropB s = 45 :: r) (d : Int) : Qu (PS s d false) = Qz (PS r d false) := by
  rw [Qu.eq]; unfold Wl
  simp only [show h_28 = ba [40] from rfl, show h_2d = ba [45] from rfl, FH, cond_true, Option.bind_some, cond_false, h]
  rw [show pre [40] (45 :: r) = false from by simp [pre]]
  simp only [cond_false, FH]
  rw [show dropB (45 :: r) = 45 :: r from by simp [dropB, List.dropWhile_cons], show pre [45] (45 :: r) = true from by simp [pre]]
  simp only [cond_true, Option.bind_some]
  show (Qz (PS r d false)).bind (fun r2 => some (r2.1, r2.2)) = _
  cases Qz (PS r d false) <;> rfl
theorem QpF {s r : List UInt8} (h : dropB s = 46 :: r) (d : Int) : Qu (PS s d false) = some (X3.here.t, PS r d false) := by
  rw [Qu.eq]; unfold Wl
  simp only [show h_28 = ba [40] from rfl, show h_2d = ba [45] from rfl, show h_2e = ba [46] from rfl, FH, cond_true, Option.bind_some, cond_false, h]
  rw [show pre [40] (46 :: r) = false from by simp [pre]]
  simp only [cond_false, FH]
  rw [show dropB (46 :: r) = 46 :: r from by simp [dropB, List.dropWhile_cons], show pre [45] (46 :: r) = false from by simp [pre]]
  simp only [cond_false, Option.bind_some, FH]
  rw [show dropB (46 :: r) = 46 :: r from by simp [dropB, List.dropWhile_cons], show pre [46] (46 :: r) = true from by simp [pre]]
  rfl
theorem QjQ {s t : List UInt8} (h : dropB s = t) (h1 : ∀ r, t ≠ 40 :: r) (h2 : ∀ r, t ≠ 45 :: r) (h3 : ∀ r, t ≠ 46 :: r) (d : Int) : PR (Qu (PS s d false)) d (atomS t) := by
  have ht : dropB t = t := by rw [← h, PQ]
  rw [Qu.eq]; unfold Wl
  simp only [show h_28 = ba [40] from rfl, show h_2d = ba [45] from rfl, show h_2e = ba [46] from rfl, FH, cond_true, Option.bind_some, cond_false, h, ht, Qdf h1, Qdf h2, Qdf h3, QmR, QqG, QdN, Qik, QF, UJ, QsU, Qbs]
  have rest : ∀ (P : Prop), (PR (bif !eqS (ba (t.takeWhile isD)) s_ then (Jq (ba (t.takeWhile isD)) 10 (PS t d false)).bind fun r18 => (JA r18.1 r18.2).bind fun r19 => some (r19.1, r19.2)
      else bif wordB (t.takeWhile isI) then (bif decide (0 ≤ (((t.takeWhile isI).length : Nat) : Int) ∧ (((t.takeWhile isI).length : Nat) : Int) ≤ ((t.length : Nat) : Int) ∧ ((t.length : Nat) : Int) ≤ ((t.length : Nat) : Int)) then
        some ((⟨2, 0, ba (t.takeWhile isI), []⟩ : Qd), (⟨ba ((t.take (Int.toNat ((t.length : Nat) : Int))).drop (Int.toNat (((t.takeWhile isI).length : Nat) : Int))), d, false⟩ : Qa)) else none) else some ((⟨0, 0, s_, []⟩ : Qd), (⟨ba t, d, true⟩ : Qa))) d
      (bif !decide (t.takeWhile isD = []) then tailA 10 (t.takeWhile isD) (t.dropWhile isD) else bif wordB (t.takeWhile isI) then some (.nm (ba (t.takeWhile isI)), t.dropWhile isI) else none) → P) → P := by
    intro P k
    apply k
    rw [show s_ = ba [] from rfl, eqS_ba]
    cases hD : decide (t.takeWhile isD = []) with
    | false =>
      simp only [Bool.not_false, cond_true]
      have := QpE 10 (by decide) (t.takeWhile isD) (t.dropWhile isD) (all_tw (fun b hb => by simp [isH, hb]) t) d
      rw [List.takeWhile_append_dropWhile] at this
      exact this
    | true =>
      simp only [Bool.not_true, cond_false]
      cases hw : wordB (t.takeWhile isI) with
      | false => exact ⟨_, _, rfl⟩
      | true =>
        simp only [cond_true]
        have hl : (t.takeWhile isI).length ≤ t.length := (List.takeWhile_sublist _).length_le
        have c1 : decide (0 ≤ (((t.takeWhile isI).length : Nat) : Int) ∧ (((t.takeWhile isI).length : Nat) : Int) ≤ ((t.length : Nat) : Int) ∧ ((t.length : Nat) : Int) ≤ ((t.length : Nat) : Int)) = true := decide_eq_true (by omega)
        rw [c1, cond_true, Int.toNat_natCast, Int.toNat_natCast, List.take_length, QsV]
        rfl
  unfold atomS
  cases hp : pre [48, 120] t with
  | false =>
    simp only [Bool.false_and, cond_false]
    exact rest _ id
  | true =>
    have hlen := (Qiz hp).1
    have c1 : decide (0 ≤ (2 : Int) ∧ (2 : Int) ≤ ((t.length : Nat) : Int) ∧ ((t.length : Nat) : Int) ≤ ((t.length : Nat) : Int)) = true := decide_eq_true (by simp at hlen; omega)
    have e2 : (t.take (Int.toNat ((t.length : Nat) : Int))).drop (Int.toNat 2) = t.drop 2 := by rw [Int.toNat_natCast, List.take_length]; rfl
    simp only [Bool.true_and, cond_true]
    rw [c1, cond_true, e2]
    cases hH : decide ((t.drop 2).takeWhile isH = []) with
    | true =>
      have : eqS (ba ((t.drop 2).takeWhile isH)) s_ = true := by rw [show s_ = ba [] from rfl, eqS_ba, hH]
      rw [this]
      simp only [Bool.not_true, cond_false]
      exact rest _ id
    | false =>
      have : eqS (ba ((t.drop 2).takeWhile isH)) s_ = false := by rw [show s_ = ba [] from rfl, eqS_ba, hH]
      rw [this]
      simp only [Bool.not_false, cond_true]
      have := QpE 16 (by decide) ((t.drop 2).takeWhile isH) ((t.drop 2).dropWhile isH) (all_tw (fun b hb => hb) _) d
      rw [List.takeWhile_append_dropWhile] at this
      exact this
end Go.Ab
namespace Go.Ab
theorem Qio : JT = some [[9], [8], [10, 11], [5, 6], [7]] := by rw [JT.eq]; rfl
theorem Qma {l : Nat} (h : l < 5) : ([[9], [8], [10, 11], [5, 6], [7]] : List (List Int))[l]? = some ((lv l).map fun k : Nat => (k : Int)) := by
  have : l = 0 ∨ l = 1 ∨ l = 2 ∨ l = 3 ∨ l = 4 := by omega
  rcases this with rfl | rfl | rfl | rfl | rfl <;> rfl
theorem lv_ne (l : Nat) : lv l ≠ [] := by unfold lv; split <;> simp
theorem lv_len (l : Nat) : (lv l).length ≤ 1000 := by unfold lv; split <;> simp
theorem two5 (p : Qa) : Qh 5 p = Qu p := by
  rw [Qh.eq]; unfold XX
  simp only [Qio, Option.bind_some]
  show (Qu p).bind (fun r2 => some (r2.1, r2.2)) = _
  cases Qu p <;> rfl
noncomputable def PL (l : Nat) (p : Qa) (x : Qd) : Option (Qd × Qa) :=
  (QI ((lv l).map fun k : Nat => (k : Int)) p).bind fun r6 => (Q1 ⟨(l : Int), r6.1, r6.2, E0, x⟩).bind fun o => some (o.h2, o.h0)
theorem two_lt {l : Nat} (h : l < 5) (p : Qa) : Qh (l : Int) p = (Qh ((l + 1 : Nat) : Int) p).bind fun r => PL l r.2 r.1 := by
  rw [Qh.eq]; unfold XX
  simp only [Qio, Option.bind_some]
  have c1 : ((l : Int) == (([[9], [8], [10, 11], [5, 6], [7]] : List (List Int)).length : Nat)) = false := by
    rw [beq_eq_false_iff_ne]; simp; omega
  have c2 : decide (0 ≤ (l : Int)) = true := decide_eq_true (by omega)
  rw [c1, cond_false, w64_in (n := (l : Int) + 1) (by omega) (by omega), c2]
  simp only [cond_true, Int.toNat_natCast, Qma h, Option.bind_some]
  rfl
theorem PL_bad {l : Nat} (s : List UInt8) (d : Int) (x : Qd) : PL l (PS s d true) x = some (x, PS (dropB s) d true) := by
  unfold PL
  rw [QpD _ (fun k hk => lv_ok hk) (lv_ne l) (lv_len l)]
  simp only [cond_true, Option.bind_some]
  rw [Q1.eq]; rfl
theorem PL_eq {l : Nat} (h : l < 5) (s : List UInt8) (d : Int) (x : Qd) : PL l (PS s d false) x = match kindS (lv l) (dropB s) with
    | none => some (x, PS (dropB s) d false)
    | some k => (Qh ((l + 1 : Nat) : Int) (PS ((dropB s).drop (sg k).length) d false)).bind fun r => PL l r.2 ⟨k, 0, s_, [x, r.1]⟩ := by
  conv => lhs; unfold PL
  rw [QpD _ (fun k hk => lv_ok hk) (lv_ne l) (lv_len l)]
  simp only [cond_false, Option.bind_some]
  cases hk : kindS (lv l) (dropB s) with
  | none => simp only; rw [Q1.eq]; rfl
  | some k =>
    have h5 := lv_ok (List.mem_of_find?_eq_some hk)
    have c1 : ((k : Int) != 0) = true := by rw [bne_iff_ne]; omega
    have c2 : decide (0 ≤ (l : Int)) = true := decide_eq_true (by omega)
    simp only
    rw [Q1.eq]; unfold WM
    simp only [c1, cond_true, Bool.not_false, c2, Qio, Option.bind_some, Int.toNat_natCast, Qma h]
    rw [w64_in (n := (l : Int) + 1) (by omega) (by omega)]
    show Option.bind (Option.bind (Option.bind (Qh ((l + 1 : Nat) : Int) (PS ((dropB s).drop (sg k).length) d false)) _) _) _ = _
    cases Qh ((l + 1 : Nat) : Int) (PS ((dropB s).drop (sg k).length) d false) with
    | none => rfl
    | some r =>
      simp only [Option.bind_some]
      unfold PL
      cases QI ((lv l).map fun k : Nat => (k : Int)) r.2 <;> rfl
theorem QkL {d : Int} (h : d ≥ 12) (s : List UInt8) : QG (PS s d false) = some (E0, PS s d true) ∧ Qz (PS s d false) = some (E0, PS s d true) := by
  constructor
  · rw [QG.eq]; unfold WL
    simp only [Qbs, decide_eq_true h, cond_true, Option.bind_some]
  · rw [Qz.eq]; unfold V7
    simp only [Qbs, decide_eq_true h, cond_true, Option.bind_some]
theorem Qmb {d : Int} (h0 : 0 ≤ d) (h : d < 12) (s : List UInt8) {o : Option (X3 × List UInt8)} (ho : PR (Qh 0 (PS s (d + 1) false)) (d + 1) o) :
    PR (QG (PS s d false)) d (o.bind fun xr => bif pre [41] (dropB xr.2) then some (xr.1, (dropB xr.2).drop 1) else none) := by
  rw [QG.eq]; unfold WL
  have c1 : decide (d ≥ 12) = false := decide_eq_false (by omega)
  simp only [c1, cond_false]
  rw [w64_in (n := d + 1) (by omega) (by omega), Jm.eq]; unfold X1
  have wd : w64 (d + 1 - 1) = d := by rw [w64_in (by omega) (by omega)]; omega
  cases o with
  | none =>
    obtain ⟨e, r, he⟩ := ho
    have he : Qh 0 ⟨ba s, d + 1, false⟩ = some (e, PS r (d + 1) true) := he
    simp only [he, Option.bind_some, show h_29 = ba [41] from rfl, FH, cond_true, Bool.not_false, Qbs, Option.bind_none, wd]
    exact ⟨_, _, rfl⟩
  | some xr =>
    obtain ⟨x, r⟩ := xr
    have ho : Qh 0 ⟨ba s, d + 1, false⟩ = some (x.t, PS r (d + 1) false) := ho
    simp only [ho, Option.bind_some, show h_29 = ba [41] from rfl, FH, cond_false]
    cases hp : pre [41] (dropB r) with
    | false =>
      simp only [cond_false, Bool.not_false, cond_true, Qbs, Option.bind_some, wd]
      exact ⟨_, _, rfl⟩
    | true =>
      simp only [cond_true, Bool.not_true, cond_false, Option.bind_some, wd]
      rfl
theorem Qn6 {d : Int} (h0 : 0 ≤ d) (h : d < 12) (s : List UInt8) {o : Option (X3 × List UInt8)} (ho : PR (Qu (PS s (d + 1) false)) (d + 1) o) :
    PR (Qz (PS s d false)) d (o.bind fun xr => some (.neg xr.1, xr.2)) := by
  rw [Qz.eq]; unfold V7
  have c1 : decide (d ≥ 12) = false := decide_eq_false (by omega)
  simp only [c1, cond_false]
  rw [w64_in (n := d + 1) (by omega) (by omega), Jn.eq]; unfold X2
  have wd : w64 (d + 1 - 1) = d := by rw [w64_in (by omega) (by omega)]; omega
  cases o with
  | none =>
    obtain ⟨e, r, he⟩ := ho
    have he : Qu ⟨ba s, d + 1, false⟩ = some (e, PS r (d + 1) true) := he
    simp only [he, Option.bind_some, wd, Option.bind_none]
    exact ⟨_, _, rfl⟩
  | some xr =>
    obtain ⟨x, r⟩ := xr
    have ho : Qu ⟨ba s, d + 1, false⟩ = some (x.t, PS r (d + 1) false) := ho
    simp only [ho, Option.bind_some, wd]
    rfl
theorem Qn7 (s : List UInt8) {o : Option (X3 × List UInt8)} (ho : PR (Qh 0 (PS s 0 false)) 0 o) :
    Vg (ba s) = some (match o with | some (x, r) => if dropB r = [] then (x.t, true) else (E0, false) | none => (E0, false)) := by
  rw [Vg.eq]; unfold GJ
  cases o with
  | none =>
    obtain ⟨e, r, he⟩ := ho
    have he : Qh 0 ⟨ba s, 0, false⟩ = some (e, PS r 0 true) := he
    simp only [he, Option.bind_some, Qil, cond_true]
  | some xr =>
    obtain ⟨x, r⟩ := xr
    have ho : Qh 0 ⟨ba s, 0, false⟩ = some (x.t, PS r 0 false) := ho
    simp only [ho, Option.bind_some, Qil, cond_false]
    rw [show s_ = ba [] from rfl, eqS_ba]
    by_cases h : dropB r = []
    · simp [h]
    · simp [h]; rfl
end Go.Ab
namespace Go.Ab
inductive Sp : List (List UInt8) → List UInt8 → Prop
  | nil (b : List UInt8) (hb : ∀ c ∈ b, c = 32) : Sp [] b
  | cons (b t s : List UInt8) (ts : List (List UInt8)) (hb : ∀ c ∈ b, c = 32) (h : Sp ts s) : Sp (t :: ts) (b ++ (t ++ s))
theorem Qa1 {b s : List UInt8} (hb : ∀ c ∈ b, c = 32) : dropB (b ++ s) = dropB s := by
  induction b with
  | nil => rfl
  | cons c b ih =>
    have hc := hb c (by simp)
    subst hc
    rw [List.cons_append]
    show List.dropWhile _ _ = _
    rw [List.dropWhile_cons]
    simp only [beq_self_eq_true, if_true]
    exact ih fun c h => hb c (by simp [h])
theorem PT {c : UInt8} {s : List UInt8} (h : c ≠ 32) : dropB (c :: s) = c :: s := by
  unfold dropB; rw [List.dropWhile_cons]; simp [h]
theorem Sp.nil_drop {s : List UInt8} (h : Sp [] s) : dropB s = [] := by
  cases h with
  | nil b hb =>
    have := Qa1 (s := []) hb
    rw [List.append_nil] at this; rw [this]; rfl
theorem Sp.cons_drop {c : UInt8} {t s : List UInt8} {ts : List (List UInt8)} (h : Sp ((c :: t) :: ts) s) (hc : c ≠ 32) : ∃ s', dropB s = c :: (t ++ s') ∧ Sp ts s' := by
  cases h with
  | cons b t' s' ts' hb h' => exact ⟨s', by rw [Qa1 hb]; exact PT hc, h'⟩
theorem Sp.drop {s : List UInt8} {ts : List (List UInt8)} (h : Sp ts s) : Sp ts (dropB s) ∨ ∃ c t ts', ts = (c :: t) :: ts' ∧ c = 32 ∨ ts = [] :: ts' := by
  cases h with
  | nil b hb =>
    left
    have := Qa1 (s := []) hb
    rw [List.append_nil] at this; rw [this]; exact .nil [] (by simp)
  | cons b t s' ts' hb h' =>
    cases t with
    | nil => exact .inr ⟨0, [], ts', .inr rfl⟩
    | cons c t =>
      by_cases hc : c = 32
      · exact .inr ⟨c, t, ts', .inl ⟨rfl, hc⟩⟩
      · left
        rw [Qa1 hb]
        show Sp _ (dropB (c :: (t ++ s')))
        rw [PT hc]
        exact .cons [] (c :: t) s' ts' (by simp) h'
def front (ts : List (List UInt8)) : Prop := ∀ t ts', ts = t :: ts' → ∃ c u, t = c :: u ∧ isI c = false ∧ c ≠ 32
theorem Sp.drop' {s : List UInt8} {ts : List (List UInt8)} (hf : front ts) (h : Sp ts s) : Sp ts (dropB s) := by
  rcases h.drop with h | ⟨c, t, ts', ⟨rfl, rfl⟩ | rfl⟩
  · exact h
  · obtain ⟨c', u, e, _, h2⟩ := hf _ _ rfl
    cases e; exact absurd rfl h2
  · obtain ⟨c', u, e, _, h2⟩ := hf _ _ rfl
    cases e
theorem Sp.head {s : List UInt8} {ts : List (List UInt8)} (hf : front ts) (h : Sp ts s) : ∀ c t, s = c :: t → isI c = false := by
  intro c t e
  cases h with
  | nil b hb => subst e; have := hb c (by simp); subst this; rfl
  | cons b t' s' ts' hb h' =>
    cases b with
    | cons b0 b =>
      have : b0 = c := by simpa using congrArg List.head? e
      subst this
      have := hb b0 (by simp); subst this; rfl
    | nil =>
      obtain ⟨c', u, e', h1, _⟩ := hf _ _ rfl
      subst e'
      have : c' = c := by simpa using congrArg List.head? e
      subst this; exact h1
def nsp : X3 → Nat
  | .neg x => nsp x + 1
  | .bin _ x y => max (nsp x) (nsp y) + 1
  | _ => 0
def isBin : X3 → Bool
  | .bin _ _ _ => true
  | _ => false
def tk : X3 → List (List UInt8)
  | .num n => [Lib.decDigits n.toNat]
  | .nm s => [bl s]
  | .here => [[46]]
  | .neg x => [45] :: (if isBin x then [40] :: (tk x ++ [[41]]) else tk x)
  | .bin k x y => (if isBin x then [40] :: (tk x ++ [[41]]) else tk x) ++ (sg k :: (if isBin y then [40] :: (tk y ++ [[41]]) else tk y))
def tkp (x : X3) : List (List UInt8) := if isBin x then [40] :: (tk x ++ [[41]]) else tk x
theorem tk_bin (k : Nat) (x y : X3) : tk (.bin k x y) = tkp x ++ (sg k :: tkp y) := rfl
def okW (x : X3) : Prop := x.ok fun s => wordB (bl s) = true
theorem QlG {u : Nat} : (Lib.decDigits u).all isD = true ∧ Lib.decDigits u ≠ [] := by
  induction u using Nat.strongRecOn with
  | _ u ih =>
    rw [Lib.decDigits]
    split
    · refine ⟨?_, by simp⟩
      have : ∀ v : Fin 10, isD (UInt8.ofNat (48 + v.val)) = true := by decide
      simp only [List.all_cons, List.all_nil, Bool.and_true]
      exact this ⟨u, by assumption⟩
    · have := ih (u / 10) (by omega)
      refine ⟨?_, by simp⟩
      rw [List.all_append, this.1]
      have h2 : ∀ v : Fin 10, isD (UInt8.ofNat (48 + v.val)) = true := by decide
      simp only [List.all_cons, List.all_nil, Bool.and_true, Bool.true_and]
      exact h2 ⟨u % 10, by omega⟩
theorem Qjq (base : Nat) (c : UInt8) : ∀ (l : List UInt8) (n : Nat), numv base (l ++ [c]) n = (numv base l n).bind fun m => if m * base + dg c ≥ 4294967296 then none else some (m * base + dg c)
  | [], n => rfl
  | b :: l, n => by
    simp only [List.cons_append, numv]
    split
    · rfl
    · exact Qjq base c l _
theorem Qr7 {u : Nat} (h : u < 4294967296) : numv 10 (Lib.decDigits u) 0 = some u := by
  induction u using Nat.strongRecOn with
  | _ u ih =>
    have dv : ∀ v : Fin 10, dg (UInt8.ofNat (48 + v.val)) = v.val := by decide
    rw [Lib.decDigits]
    split
    · rename_i hu
      have e := dv ⟨u, hu⟩
      simp only [numv, Nat.zero_mul, Nat.zero_add]
      simp only at e
      rw [e, if_neg (by omega)]
    · rw [Qjq, ih (u / 10) (by omega) (by omega)]
      have e := dv ⟨u % 10, by omega⟩
      simp only at e
      simp only [Option.bind_some, e]
      rw [if_neg (by omega)]; congr 1; omega
theorem Qr8 {u : Nat} (h : u < 4294967296) {r : List UInt8} (hr : ∀ c t, r = c :: t → isI c = false) : atomS (Lib.decDigits u ++ r) = some (.num u, r) := by
  obtain ⟨h1, h2⟩ := @QlG u
  have hrD : ∀ c t, r = c :: t → isD c = false := fun c t e => by
    have := hr c t e
    simp only [isI, Bool.or_eq_false_iff] at this; exact this.2
  obtain ⟨e1, e2⟩ := Qeq h1 hrD
  unfold atomS
  have hp : pre [48, 120] (Lib.decDigits u ++ r) = false := by
    unfold pre
    rw [decide_eq_false]
    intro e
    match hd : Lib.decDigits u, h2 with
    | [c], _ =>
      rw [hd] at e
      cases r with
      | nil => simp at e
      | cons b r =>
        simp at e
        have := hr b r rfl
        rw [e.2] at this; cases this
    | c :: b :: l, _ =>
      rw [hd] at e h1
      simp at e
      simp only [List.all_cons, Bool.and_eq_true] at h1
      have := h1.2.1
      rw [e.2] at this; cases this
  rw [hp, e1, e2]
  simp only [Bool.false_and, cond_false, decide_eq_false h2, Bool.not_false, cond_true]
  unfold tailA
  rw [Qr7 h]
  simp only
  have : r.takeWhile isI = [] := by
    cases r with
    | nil => rfl
    | cons b r => simp [List.takeWhile_cons, hr b r rfl]
  rw [if_pos this]
theorem Qgo {w : List UInt8} (h : wordB w = true) : ∃ c t, w = c :: t ∧ isI c = true ∧ isD c = false ∧ w.all isI = true := by
  match w, h with
  | c :: t, h =>
    have hw : wordB (c :: t) = (decide (t.length < 12) && (!isD c && (decide ((c :: t).takeWhile isI = c :: t) && (decide (c ≠ 114) || (decide (t = []) || !decide (t.takeWhile isD = t)))))) := rfl
    rw [hw] at h
    simp only [Bool.and_eq_true, Bool.not_eq_true', decide_eq_true_eq] at h
    have ha : (c :: t).all isI = true := by
      have := List.all_takeWhile (p := isI) (l := c :: t)
      rwa [h.2.2.1] at this
    refine ⟨c, t, rfl, ?_, h.2.1, ha⟩
    simp only [List.all_cons, Bool.and_eq_true] at ha; exact ha.1
theorem Qrs {w : List UInt8} (h : wordB w = true) {r : List UInt8} (hr : ∀ c t, r = c :: t → isI c = false) : atomS (w ++ r) = some (.nm (ba w), r) := by
  obtain ⟨c, t, rfl, hc, hd, ha⟩ := Qgo h
  obtain ⟨e1, e2⟩ := Qeq ha hr
  unfold atomS
  have hp : pre [48, 120] ((c :: t) ++ r) = false := by
    unfold pre
    rw [decide_eq_false]
    intro e
    simp at e
    rw [e.1] at hd; cases hd
  have hD : ((c :: t) ++ r).takeWhile isD = [] := by simp [List.takeWhile_cons, hd]
  rw [hp, hD, e1, e2, h]
  rfl
end Go.Ab
namespace Go.Ab
def lvlOf (k : Nat) : Nat := match k with
  | 9 => 0 | 8 => 1 | 10 => 2 | 11 => 2 | 5 => 3 | 6 => 3 | _ => 4
theorem Qn8 {k l : Nat} (hk : 5 ≤ k ∧ k ≤ 11) (hl : l < 5) (s : List UInt8) : kindS (lv l) (sg k ++ s) = if lvlOf k = l then some k else none := by
  have h1 : k = 5 ∨ k = 6 ∨ k = 7 ∨ k = 8 ∨ k = 9 ∨ k = 10 ∨ k = 11 := by omega
  have h2 : l = 0 ∨ l = 1 ∨ l = 2 ∨ l = 3 ∨ l = 4 := by omega
  rcases h1 with rfl | rfl | rfl | rfl | rfl | rfl | rfl <;> rcases h2 with rfl | rfl | rfl | rfl | rfl <;> simp [kindS, lv, sg, pre, lvlOf]
theorem QeX {l : Nat} (hl : l < 5) (s : List UInt8) : kindS (lv l) (41 :: s) = none ∧ kindS (lv l) [] = none := by
  have h2 : l = 0 ∨ l = 1 ∨ l = 2 ∨ l = 3 ∨ l = 4 := by omega
  rcases h2 with rfl | rfl | rfl | rfl | rfl <;> simp [kindS, lv, sg, pre]
def stop (l : Nat) (ts : List (List UInt8)) : Prop := ∀ s, Sp ts s → ∀ l', l ≤ l' → l' < 5 → kindS (lv l') (dropB s) = none
theorem Qn9 (l : Nat) : stop l [] := fun s h l' _ h5 => by rw [h.nil_drop]; exact (QeX h5 []).2
theorem QqH (l : Nat) (ts : List (List UInt8)) : stop l ([41] :: ts) := fun s h l' _ h5 => by
  obtain ⟨s', e, _⟩ := h.cons_drop (c := 41) (t := []) (by decide)
  rw [e]; exact (QeX h5 _).1
theorem QiA {k : Nat} (hk : 5 ≤ k ∧ k ≤ 11) : ∃ c t, sg k = c :: t ∧ isI c = false ∧ c ≠ 32 := by
  have h1 : k = 5 ∨ k = 6 ∨ k = 7 ∨ k = 8 ∨ k = 9 ∨ k = 10 ∨ k = 11 := by omega
  rcases h1 with rfl | rfl | rfl | rfl | rfl | rfl | rfl <;> exact ⟨_, _, rfl, by decide, by decide⟩
theorem QpG {k : Nat} (hk : 5 ≤ k ∧ k ≤ 11) {ts : List (List UInt8)} {s : List UInt8} (h : Sp (sg k :: ts) s) : ∃ s', dropB s = sg k ++ s' ∧ Sp ts s' := by
  obtain ⟨c, t, e, _, h2⟩ := QiA hk
  rw [e] at h ⊢
  exact h.cons_drop h2
theorem QsW {k l : Nat} (hk : 5 ≤ k ∧ k ≤ 11) (hl : lvlOf k < l) (ts : List (List UInt8)) : stop l (sg k :: ts) := fun s h l' h1 h5 => by
  obtain ⟨s', e, _⟩ := QpG hk h
  rw [e, Qn8 hk h5, if_neg (by omega)]
theorem Qmc : front [] := fun t ts' e => by cases e
theorem Qpi (ts : List (List UInt8)) : front ([41] :: ts) := fun t ts' e => by cases e; exact ⟨41, [], rfl, by decide, by decide⟩
theorem Qr9 {k : Nat} (hk : 5 ≤ k ∧ k ≤ 11) (ts : List (List UInt8)) : front (sg k :: ts) := fun t ts' e => by cases e; exact QiA hk
def ONE (x : X3) : Prop := ∀ (d : Int) (ts : List (List UInt8)) (s : List UInt8), front ts → 0 ≤ d → d + nsp x ≤ 12 → Sp (tkp x ++ ts) s → ∃ s', Sp ts s' ∧ Qu (PS s d false) = some (x.t, PS s' d false)
theorem QfJ {l : Nat} (h : l < 5) {s : List UInt8} (hk : kindS (lv l) (dropB s) = none) (d : Int) (x : Qd) : PL l (PS s d false) x = some (x, PS (dropB s) d false) := by rw [PL_eq h, hk]
theorem QiB {x : X3} (hx : ONE x) : ∀ (g l : Nat), g + l = 5 → ∀ (d : Int) (ts : List (List UInt8)) (s : List UInt8), front ts → stop l ts → 0 ≤ d → d + nsp x ≤ 12 → Sp (tkp x ++ ts) s → ∃ s', Sp ts s' ∧ Qh (l : Int) (PS s d false) = some (x.t, PS s' d false)
  | 0, l, hl, d, ts, s, hf, hs, h0, h12, h => by
    obtain rfl : l = 5 := by omega
    obtain ⟨s', h1, h2⟩ := hx d ts s hf h0 h12 h
    exact ⟨s', h1, (two5 _).trans h2⟩
  | g + 1, l, hl, d, ts, s, hf, hs, h0, h12, h => by
    obtain ⟨s', h1, h2⟩ := QiB hx g (l + 1) (by omega) d ts s hf (fun s h l' h1 h5 => hs s h l' (by omega) h5) h0 h12 h
    refine ⟨dropB s', h1.drop' hf, ?_⟩
    rw [two_lt (by omega), h2]
    simp only [Option.bind_some]
    exact QfJ (by omega) (hs s' h1 l (by omega) (by omega)) d _
theorem bin_at {k : Nat} (hk : 5 ≤ k ∧ k ≤ 11) {x y : X3} (hx : ONE x) (hy : ONE y) : ∀ (g l : Nat), g + l = lvlOf k → ∀ (d : Int) (ts : List (List UInt8)) (s : List UInt8), front ts → stop l ts → 0 ≤ d → d + nsp x ≤ 12 → d + nsp y ≤ 12 →
    Sp (tk (.bin k x y) ++ ts) s → ∃ s', Sp ts s' ∧ Qh (l : Int) (PS s d false) = some ((X3.bin k x y).t, PS s' d false)
  | 0, l, hl, d, ts, s, hf, hs, h0, h1, h2, h => by
    have hl5 : l < 5 := by
      have : lvlOf k ≤ 4 := by unfold lvlOf; split <;> omega
      omega
    rw [tk_bin, List.append_assoc, List.cons_append] at h
    obtain ⟨s1, e1, e2⟩ := QiB hx (5 - (l + 1)) (l + 1) (by omega) d _ s (Qr9 hk _) (QsW hk (by omega) _) h0 h1 h
    obtain ⟨s2, e3, e4⟩ := QpG hk e1
    obtain ⟨s3, e5, e6⟩ := QiB hy (5 - (l + 1)) (l + 1) (by omega) d ts s2 hf (fun s h l' h1 h5 => hs s h l' (by omega) h5) h0 h2 e4
    refine ⟨dropB s3, e5.drop' hf, ?_⟩
    rw [two_lt hl5, e2]
    simp only [Option.bind_some]
    rw [PL_eq hl5, e3, Qn8 hk hl5, if_pos (by omega)]
    simp only [List.drop_left, e6, Option.bind_some]
    exact QfJ hl5 (hs s3 e5 l (by omega) (by omega)) d _
  | g + 1, l, hl, d, ts, s, hf, hs, h0, h1, h2, h => by
    have hl5 : l < 5 := by
      have : lvlOf k ≤ 4 := by unfold lvlOf; split <;> omega
      omega
    obtain ⟨s', e1, e2⟩ := bin_at hk hx hy g (l + 1) (by omega) d ts s hf (fun s h l' h1 h5 => hs s h l' (by omega) h5) h0 h1 h2 h
    refine ⟨dropB s', e1.drop' hf, ?_⟩
    rw [two_lt hl5, e2]
    simp only [Option.bind_some]
    exact QfJ hl5 (hs s' e1 l (by omega) (by omega)) d _
theorem QiC {c : UInt8} {t : List UInt8} {ts : List (List UInt8)} {s : List UInt8} (h : Sp ((c :: t) :: ts) s) (hc : c ≠ 32) : ∃ s', dropB s = c :: (t ++ s') ∧ Sp ts s' := h.cons_drop hc
theorem Qbt : ∀ x : X3, okW x → ONE x
  | .num n, hx, d, ts, s, hf, h0, h12, h => by
    have hx : 0 ≤ n ∧ n < 4294967296 := hx
    obtain ⟨u, rfl⟩ := Int.eq_ofNat_of_zero_le hx.1
    have h : Sp (Lib.decDigits u :: ts) s := h
    obtain ⟨d1, d2⟩ := @QlG u
    match hd : Lib.decDigits u, d2 with
    | c :: t, _ =>
      rw [hd] at h d1
      simp only [List.all_cons, Bool.and_eq_true] at d1
      have hc32 : c ≠ 32 := fun e => by rw [e] at d1; cases d1.1
      obtain ⟨s', e1, e2⟩ := h.cons_drop hc32
      have ea := Qr8 (u := u) (by omega) (r := s') (e2.head hf)
      rw [hd] at ea
      refine ⟨s', e2, ?_⟩
      have := QjQ (s := s) e1 (fun r e => by
          have : c = 40 := by simpa using congrArg List.head? e
          rw [this] at d1; cases d1.1) (fun r e => by
          have : c = 45 := by simpa using congrArg List.head? e
          rw [this] at d1; cases d1.1) (fun r e => by
          have : c = 46 := by simpa using congrArg List.head? e
          rw [this] at d1; cases d1.1) d
      rw [show c :: (t ++ s') = (c :: t) ++ s' from rfl, ea] at this
      exact this
  | .nm w, hx, d, ts, s, hf, h0, h12, h => by
    have hx : wordB (bl w) = true := hx
    have h : Sp (bl w :: ts) s := h
    obtain ⟨c, t, e0, hc, hd, ha⟩ := Qgo hx
    rw [e0] at h
    have hc32 : c ≠ 32 := fun e => by rw [e] at hc; cases hc
    obtain ⟨s', e1, e2⟩ := h.cons_drop hc32
    have ea := Qrs hx (r := s') (e2.head hf)
    rw [e0] at ea
    refine ⟨s', e2, ?_⟩
    have := QjQ (s := s) e1 (fun r e => by
        have : c = 40 := by simpa using congrArg List.head? e
        rw [this] at hc; cases hc) (fun r e => by
        have : c = 45 := by simpa using congrArg List.head? e
        rw [this] at hc; cases hc) (fun r e => by
        have : c = 46 := by simpa using congrArg List.head? e
        rw [this] at hc; cases hc) d
    rw [show c :: (t ++ s') = (c :: t) ++ s' from rfl, ea, ← e0, ba_bl] at this
    exact this
  | .here, hx, d, ts, s, hf, h0, h12, h => by
    obtain ⟨s', e1, e2⟩ := QiC (c := 46) (t := []) h (by decide)
    exact ⟨s', e2, QpF e1 d⟩
  | .neg x, hx, d, ts, s, hf, h0, h12, h => by
    have hx : okW x := hx
    have ih := Qbt x hx
    have h : Sp ([45] :: (tkp x ++ ts)) s := h
    have hn : nsp (.neg x) = nsp x + 1 := rfl
    obtain ⟨s1, e1, e2⟩ := QiC (c := 45) (t := []) h (by decide)
    obtain ⟨s', e3, e4⟩ := ih (d + 1) ts s1 hf (by omega) (by omega) e2
    refine ⟨s', e3, ?_⟩
    have e1 : dropB s = 45 :: s1 := e1
    rw [Qin e1]
    exact Qn6 h0 (by omega) s1 (o := some (x, s')) e4
  | .bin k x y, hx, d, ts, s, hf, h0, h12, h => by
    obtain ⟨hk1, hk2, hx1, hy1⟩ := hx
    have hx1 : okW x := hx1
    have hy1 : okW y := hy1
    have ihx := Qbt x hx1
    have ihy := Qbt y hy1
    have hn : nsp (.bin k x y) = max (nsp x) (nsp y) + 1 := rfl
    have h : Sp (([40] :: (tk (.bin k x y) ++ [[41]])) ++ ts) s := h
    rw [List.cons_append, List.append_assoc] at h
    obtain ⟨s1, e1, e2⟩ := QiC (c := 40) (t := []) h (by decide)
    have e2 : Sp (tk (.bin k x y) ++ ([41] :: ts)) s1 := e2
    have hm1 : nsp x ≤ max (nsp x) (nsp y) := Nat.le_max_left _ _
    have hm2 : nsp y ≤ max (nsp x) (nsp y) := Nat.le_max_right _ _
    obtain ⟨s2, e3, e4⟩ := bin_at ⟨hk1, hk2⟩ ihx ihy (lvlOf k) 0 (by omega) (d + 1) _ s1 (Qpi ts) (QqH 0 ts) (by omega) (by omega) (by omega) e2
    obtain ⟨s3, e5, e6⟩ := QiC (c := 41) (t := []) e3 (by decide)
    have e1 : dropB s = 40 :: s1 := e1
    have e5 : dropB s2 = 41 :: s3 := e5
    refine ⟨s3, e6, ?_⟩
    rw [QjP e1]
    have := Qmb h0 (by omega) s1 (o := some (.bin k x y, s2)) e4
    rw [show (some (X3.bin k x y, s2)).bind (fun xr => bif pre [41] (dropB xr.2) then some (xr.1, (dropB xr.2).drop 1) else none) = some (.bin k x y, s3) from by
      simp only [Option.bind_some, e5]
      rw [show pre [41] (41 :: s3) = true from by simp [pre]]; rfl] at this
    exact this
theorem Qrt {x : X3} (hx : okW x) (hd : nsp x ≤ 12) {s : List UInt8} (h : Sp (tk x) s) : Vg (ba s) = some (x.t, true) := by
  have key : ∃ s', Sp [] s' ∧ Qh 0 (PS s 0 false) = some (x.t, PS s' 0 false) := by
    cases hb : isBin x with
    | false =>
      have h : Sp (tkp x ++ []) s := by rw [List.append_nil]; unfold tkp; rw [hb]; exact h
      exact QiB (Qbt x hx) 5 0 rfl 0 [] s Qmc (Qn9 0) (by omega) (by omega) h
    | true =>
      match x, hb with
      | .bin k y z, _ =>
        obtain ⟨hk1, hk2, hx1, hy1⟩ := hx
        have hn : nsp (.bin k y z) = max (nsp y) (nsp z) + 1 := rfl
        have hm1 : nsp y ≤ max (nsp y) (nsp z) := Nat.le_max_left _ _
        have hm2 : nsp z ≤ max (nsp y) (nsp z) := Nat.le_max_right _ _
        exact bin_at ⟨hk1, hk2⟩ (Qbt y hx1) (Qbt z hy1) (lvlOf k) 0 (by omega) 0 [] s Qmc (Qn9 0) (by omega) (by omega) (by omega) (by rw [List.append_nil]; exact h)
  obtain ⟨s', e1, e2⟩ := key
  rw [Qn7 s (o := some (x, s')) e2]
  simp only [e1.nil_drop, if_true]
end Go.Ab
namespace Go.Ab
theorem nsp_le : ∀ x : X3, nsp x ≤ x.d
  | .num n => Nat.le_refl _
  | .nm s => Nat.le_refl _
  | .here => Nat.le_refl _
  | .neg x => by have := nsp_le x; simp only [nsp, X3.d]; omega
  | .bin k x y => by have := nsp_le x; have := nsp_le y; simp only [nsp, X3.d]; omega
def tx : X3 → List UInt8
  | .num n => Lib.decDigits n.toNat
  | .nm s => bl s
  | .here => [46]
  | .neg x => 45 :: (if isBin x then 40 :: (tx x ++ [41]) else tx x)
  | .bin k x y => (if isBin x then 40 :: (tx x ++ [41]) else tx x) ++ (32 :: (sg k ++ (32 :: (if isBin y then 40 :: (tx y ++ [41]) else tx y))))
def txp (x : X3) : List UInt8 := if isBin x then 40 :: (tx x ++ [41]) else tx x
theorem tx_neg (x : X3) : tx (.neg x) = 45 :: txp x := rfl
theorem tx_bin (k : Nat) (x y : X3) : tx (.bin k x y) = txp x ++ (32 :: (sg k ++ (32 :: txp y))) := rfl
theorem Sp.tok (t : List UInt8) {ts : List (List UInt8)} {s : List UInt8} (h : Sp ts s) : Sp (t :: ts) (t ++ s) := .cons [] t s ts (by simp) h
theorem Sp.btok (t : List UInt8) {ts : List (List UInt8)} {s : List UInt8} (h : Sp ts s) : Sp (t :: ts) (32 :: (t ++ s)) := .cons [32] t s ts (by simp) h
theorem Sp.blank {t : List UInt8} {ts : List (List UInt8)} {s : List UInt8} (h : Sp (t :: ts) s) : Sp (t :: ts) (32 :: s) := by
  cases h with
  | cons b t s' ts' hb h' => exact .cons (32 :: b) t s' ts (by intro c hc; rcases List.mem_cons.1 hc with h | h; exact h; exact hb c h) h'
theorem tk_ne : ∀ x : X3, ∃ t ts, tk x = t :: ts
  | .num n => ⟨_, _, rfl⟩
  | .nm s => ⟨_, _, rfl⟩
  | .here => ⟨_, _, rfl⟩
  | .neg x => ⟨_, _, rfl⟩
  | .bin k x y => by
    obtain ⟨t, ts, h⟩ := tk_ne x
    rw [tk_bin]; unfold tkp
    split
    · exact ⟨_, _, rfl⟩
    · rw [h]; exact ⟨_, _, rfl⟩
theorem tkp_ne (x : X3) : ∃ t ts, tkp x = t :: ts := by
  unfold tkp; split
  · exact ⟨_, _, rfl⟩
  · exact tk_ne x
theorem tx_sp : ∀ (x : X3) {ts : List (List UInt8)} {s : List UInt8}, Sp ts s → Sp (tk x ++ ts) (tx x ++ s) ∧ Sp (tkp x ++ ts) (txp x ++ s) := by
  have part : ∀ (x : X3), (∀ {ts : List (List UInt8)} {s : List UInt8}, Sp ts s → Sp (tk x ++ ts) (tx x ++ s)) → ∀ {ts : List (List UInt8)} {s : List UInt8}, Sp ts s → Sp (tkp x ++ ts) (txp x ++ s) := by
    intro x hx ts s h
    unfold tkp txp
    split
    · have := (hx (h.tok [41])).tok [40]
      simpa using this
    · exact hx h
  intro x
  induction x with
  | num n => intro ts s h; exact ⟨h.tok _, h.tok _⟩
  | nm w => intro ts s h; exact ⟨h.tok _, h.tok _⟩
  | here => intro ts s h; exact ⟨h.tok _, h.tok _⟩
  | neg x ih =>
    intro ts s h
    have := ((ih h).2).tok [45]
    exact ⟨this, this⟩
  | bin k x y ihx ihy =>
    have key : ∀ {ts : List (List UInt8)} {s : List UInt8}, Sp ts s → Sp (tk (.bin k x y) ++ ts) (tx (.bin k x y) ++ s) := by
      intro ts s h
      have h1 := (ihy h).2
      obtain ⟨t, ts', e⟩ := tkp_ne y
      rw [e] at h1
      have h2 := (ihx (h1.blank.btok (sg k))).2
      rw [tk_bin, tx_bin, e]
      simpa using h2
    intro ts s h
    exact ⟨key h, part _ key h⟩
theorem tx_tk (x : X3) : Sp (tk x) (tx x) := by
  have := (tx_sp x (.nil [] (by simp))).1
  simpa using this
theorem SK : ∀ (g u : Nat), u < 10 ^ g → 0 < g → (Lib.decDigits u).length ≤ g
  | 0, u, h, h0 => by omega
  | g + 1, u, h, h0 => by
    rw [Lib.decDigits]
    split
    · simp
    · rename_i hu
      cases g with
      | zero => omega
      | succ g =>
        have := SK (g + 1) (u / 10) (by rw [Nat.pow_succ] at h; omega) (by omega)
        simp; omega
theorem nm_len {s : ByteArray} (h : wordB (bl s) = true) : (bl s).length ≤ 12 := by
  match hb : bl s, h with
  | c :: t, h =>
    have hw : wordB (c :: t) = (decide (t.length < 12) && (!isD c && (decide ((c :: t).takeWhile isI = c :: t) && (decide (c ≠ 114) || (decide (t = []) || !decide (t.takeWhile isD = t)))))) := rfl
    rw [hw] at h
    simp only [Bool.and_eq_true, decide_eq_true_eq] at h
    simp only [List.length_cons]; omega
theorem tx_len : ∀ (x : X3), okW x → (tx x).length + 8 ≤ 20 * 2 ^ x.d ∧ (txp x).length + 6 ≤ 20 * 2 ^ x.d := by
  have part : ∀ x : X3, (tx x).length + 8 ≤ 20 * 2 ^ x.d → (txp x).length + 6 ≤ 20 * 2 ^ x.d := by
    intro x h
    unfold txp; split
    · simp; omega
    · omega
  intro x hx
  induction x with
  | num n =>
    have hx : 0 ≤ n ∧ n < 4294967296 := hx
    have := SK 10 n.toNat (by simp; omega) (by omega)
    have e : (tx (.num n)).length = (Lib.decDigits n.toNat).length := rfl
    have : (tx (.num n)).length + 8 ≤ 20 * 2 ^ (X3.num n).d := by rw [e]; simp only [X3.d, Nat.pow_zero]; omega
    exact ⟨this, part _ this⟩
  | nm s =>
    have := nm_len (s := s) hx
    have e : (tx (.nm s)).length = (bl s).length := rfl
    have : (tx (.nm s)).length + 8 ≤ 20 * 2 ^ (X3.nm s).d := by rw [e]; simp only [X3.d, Nat.pow_zero]; omega
    exact ⟨this, part _ this⟩
  | here => exact ⟨by decide, by decide⟩
  | neg x ih =>
    have ih := ih hx
    have : (tx (.neg x)).length + 8 ≤ 20 * 2 ^ (X3.neg x).d := by
      rw [tx_neg]; simp only [List.length_cons, X3.d, Nat.pow_succ]
      have : 1 ≤ 2 ^ x.d := Nat.one_le_two_pow
      omega
    exact ⟨this, part _ this⟩
  | bin k x y ihx ihy =>
    have h1 := ihx hx.2.2.1
    have h2 := ihy hx.2.2.2
    have hs : (sg k).length ≤ 2 := by unfold sg; split <;> simp
    have : (tx (.bin k x y)).length + 8 ≤ 20 * 2 ^ (X3.bin k x y).d := by
      rw [tx_bin]; simp only [List.length_append, List.length_cons, X3.d, Nat.pow_succ]
      have e1 : 2 ^ x.d ≤ 2 ^ max x.d y.d := Nat.pow_le_pow_right (by decide) (Nat.le_max_left _ _)
      have e2 : 2 ^ y.d ≤ 2 ^ max x.d y.d := Nat.pow_le_pow_right (by decide) (Nat.le_max_right _ _)
      omega
    exact ⟨this, part _ this⟩
theorem QjR {n : Nat} (h : n ≤ 1000000000) : decide (((n : Nat) : Int) ≤ IntKind.i64.max) = true := decide_eq_true (by rw [show IntKind.i64.max = 9223372036854775807 from by decide]; omega)
theorem guardS (a b : List UInt8) (h : a.length + b.length ≤ 1000000000) : decide ((((ba a).size + (ba b).size : Nat) : Int) ≤ IntKind.i64.max) = true := by rw [QF, QF]; exact QjR h
theorem Qgp {k : Nat} (h : 5 ≤ k ∧ k ≤ 11) : ZU (k : Int) = some (ba (sg k), (lvlOf k : Int)) := by
  rw [ZU.eq]; unfold Qef
  have h1 : k = 5 ∨ k = 6 ∨ k = 7 ∨ k = 8 ∨ k = 9 ∨ k = 10 ∨ k = 11 := by omega
  rcases h1 with rfl | rfl | rfl | rfl | rfl | rfl | rfl <;> rfl
theorem u8_in {n : Int} (h1 : 0 ≤ n) (h2 : n ≤ 255) : IntKind.u8.wrap n = n := by
  have e : n % 256 = n := Int.emod_eq_of_lt h1 (by omega)
  unfold IntKind.wrap
  simp [IntKind.bits, IntKind.signed, e]
theorem Qa2 {u : Nat} (h : u < 9223372036854775808) : JK (u : Int) = some (ba (Lib.decDigits u)) := by
  induction u using Nat.strongRecOn with
  | _ u ih =>
    rw [JK.eq]; unfold EO
    have c1 : decide ((u : Int) < 0) = false := decide_eq_false (by omega)
    rw [c1, cond_false, Lib.decDigits]
    by_cases hu : u < 10
    · have c2 : decide ((u : Int) ≥ 10) = false := decide_eq_false (by omega)
      rw [c2, cond_false, dif_pos hu, w64_in (by omega) (by omega), u8_in (by omega) (by omega)]
      simp only [Option.bind_some, listB, List.map_cons, List.map_nil]
      rw [show ((48 : Int) + (u : Int)).toNat = 48 + u from by omega]; rfl
    · have c2 : decide ((u : Int) ≥ 10) = true := decide_eq_true (by omega)
      have e1 : w64 (Int.tdiv (u : Int) 10) = ((u / 10 : Nat) : Int) := by
        rw [show Int.tdiv (u : Int) 10 = ((u / 10 : Nat) : Int) from by rw [show (10 : Int) = ((10 : Nat) : Int) from rfl, ← Int.ofNat_tdiv]]
        exact w64_in (by omega) (by omega)
      have e2 : Int.tmod (u : Int) 10 = ((u % 10 : Nat) : Int) := by rw [show (10 : Int) = ((10 : Nat) : Int) from rfl, ← Int.ofNat_tmod]
      have hl1 := SK 19 (u / 10) (by simp; omega) (by omega)
      have hl2 := SK 19 (u % 10) (by simp; omega) (by omega)
      rw [c2, cond_true, dif_neg hu, e1, e2, ih (u / 10) (by omega) (by omega)]
      have e3 : Lib.decDigits (u % 10) = [UInt8.ofNat (48 + u % 10)] := by rw [Lib.decDigits, dif_pos (by omega)]
      simp only [Option.bind_some]
      rw [ih (u % 10) (by omega) (by omega)]
      simp only [Option.bind_some, Vo, QF]
      rw [QjR (by omega), cond_true, e3]
end Go.Ab
namespace Go.Ab
end Go.Ab
namespace Go.Ab
def vl (base : Nat) : List UInt8 → Nat → Nat
  | [], n => n
  | b :: l, n => vl base l (n * base + dg b)
def hd (v : Nat) : UInt8 := if v < 10 then UInt8.ofNat (48 + v) else UInt8.ofNat (87 + v)
end Go.Ab
namespace Go.Ab
theorem Qjr (w : List UInt8) (f : Bool) (i : Nat) (hi : i < w.length) (hw : w.length ≤ 100) : GG ⟨ba w, f, i⟩ =
    some (bif !isS w[i] && (decide (i = 0) || !isD w[i]) then .inr (.inl false) else .inl ⟨ba w, bif decide (0 < i) && !isD w[i] then false else f, (i + 1 : Nat)⟩) := by
  have hg : (ba w).data.getD (Int.toNat (i : Int)) 0 = w[i] := by rw [Fg, Int.toNat_natCast]; simp [hi]
  have c1 : decide ((i : Int) < (((ba w).size : Nat) : Int)) = true := decide_eq_true (by rw [QF]; omega)
  have c2 : decide (0 ≤ (i : Int) ∧ (i : Int) < (((ba w).size : Nat) : Int)) = true := decide_eq_true (by rw [QF]; omega)
  unfold GG
  simp only
  rw [c1, cond_true, c2, cond_true, hg]
  generalize w[i] = c
  have hS : isS c = (decide ((c.toNat : Int) ≥ 97) && decide ((c.toNat : Int) ≤ 122) || !((c.toNat : Int) != 95)) := by
    have e1 : decide ((c.toNat : Int) ≥ 97) = decide (97 ≤ c.toNat) := decide_eq_decide.2 (by omega)
    have e2 : decide ((c.toNat : Int) ≤ 122) = decide (c.toNat ≤ 122) := decide_eq_decide.2 (by omega)
    have e3 : (!((c.toNat : Int) != 95)) = decide (c.toNat = 95) := by
      rw [Bool.eq_iff_iff]; simp; omega
    unfold isS; rw [e1, e2, e3, Bool.decide_or, Bool.decide_and]
  have hD : isD c = (decide ((c.toNat : Int) ≥ 48) && decide ((c.toNat : Int) ≤ 57)) := by
    have e1 : decide ((c.toNat : Int) ≥ 48) = decide (48 ≤ c.toNat) := decide_eq_decide.2 (by omega)
    have e2 : decide ((c.toNat : Int) ≤ 57) = decide (c.toNat ≤ 57) := decide_eq_decide.2 (by omega)
    unfold isD; rw [e1, e2, Bool.decide_and]
  have h0 : ((i : Int) == 0) = decide (i = 0) := by rw [Bool.eq_iff_iff, beq_iff_eq, decide_eq_true_iff]; omega
  have hp : decide ((i : Int) > 0) = decide (0 < i) := decide_eq_decide.2 (by omega)
  rw [hS, hD, h0, hp, w64_in (n := (i : Int) + 1) (by omega) (by omega)]
  have hip : decide (0 < i) = !decide (i = 0) := by
    by_cases h : i = 0
    · rw [decide_eq_true h, decide_eq_false (by omega)]; rfl
    · rw [decide_eq_false h, decide_eq_true (by omega)]; rfl
  rw [hip]
  cases decide ((c.toNat : Int) ≥ 48) <;> cases decide ((c.toNat : Int) ≥ 97) <;> cases decide ((c.toNat : Int) ≤ 122) <;> cases ((c.toNat : Int) != 95) <;> cases decide (i = 0) <;> cases decide ((c.toNat : Int) ≤ 57) <;> rfl
theorem Qgq (w : List UInt8) (hw : w.length ≤ 100) : ∀ (g i : Nat) (f : Bool), g + i = w.length → 1 ≤ i → VO ⟨ba w, f, i⟩ = some (bif (w.drop i).all isI then .inr (f && (w.drop i).all isD) else .inl false)
  | 0, i, f, hg, h1 => by
    rw [VO.eq]
    have c1 : decide ((i : Int) < (((ba w).size : Nat) : Int)) = false := decide_eq_false (by rw [QF]; omega)
    unfold GG
    simp only
    rw [c1, List.drop_eq_nil_of_le (by omega)]
    simp
  | g + 1, i, f, hg, h1 => by
    have hi : i < w.length := by omega
    rw [VO.eq, Qjr w f i hi hw, List.drop_eq_getElem_cons hi, Option.bind_some]
    have hi0 : decide (i = 0) = false := decide_eq_false (by omega)
    have hip : decide (0 < i) = true := decide_eq_true (by omega)
    rw [hi0, hip]
    simp only [List.all_cons]
    have hsd := @QpB w[i]
    cases hD : isD w[i] with
    | true =>
      have hI : isI w[i] = true := by rw [Qiy, hD, Bool.or_true]
      rw [hD, hI] at hsd
      rw [hsd, hI]
      simp only [Bool.not_true, Bool.and_false, Bool.or_false, Bool.not_false, Bool.true_and, cond_false, Sum.elim_inl, Bool.and_true, Bool.or_true]
      exact Qgq w hw g (i + 1) f (by omega) (by omega)
    | false =>
      rw [hD] at hsd
      simp only [Bool.not_false, Bool.and_true] at hsd
      rw [hsd]
      cases hI : isI w[i] with
      | true =>
        simp only [Bool.not_true, Bool.false_and, cond_false, Bool.not_false, Bool.and_true, cond_true, Sum.elim_inl, Bool.true_and]
        rw [Qgq w hw g (i + 1) false (by omega) (by omega)]
        simp
      | false => simp
theorem QqI (w : List UInt8) (hw : w.length ≤ 1000000000) : G9 (ba w) = some (wordB w) := by
  rw [G9.eq]; unfold F1
  rw [QF]
  cases w with
  | nil => rfl
  | cons c t =>
    have c1 : decide ((((c :: t).length : Nat) : Int) < 1) = false := decide_eq_false (by simp only [List.length_cons]; omega)
    have hwb : wordB (c :: t) = (decide (t.length < 12) && (!isD c && (decide ((c :: t).takeWhile isI = c :: t) && (decide (c ≠ 114) || (decide (t = []) || !decide (t.takeWhile isD = t)))))) := rfl
    rw [c1, cond_false, hwb, Qgn, Qgn]
    by_cases hl : t.length < 12
    · have c2 : decide ((((c :: t).length : Nat) : Int) > 12) = false := decide_eq_false (by simp only [List.length_cons]; omega)
      have c3 : decide (0 ≤ (0 : Int) ∧ (0 : Int) < (((c :: t).length : Nat) : Int)) = true := decide_eq_true (by simp only [List.length_cons]; omega)
      have hg : (ba (c :: t)).data.getD (Int.toNat 0) 0 = c := by rw [Fg]; rfl
      rw [c2, cond_false, c3, cond_true, hg, decide_eq_true hl]
      have h100 : (c :: t).length ≤ 100 := by simp only [List.length_cons]; omega
      have first : ∀ f : Bool, VO ⟨ba (c :: t), f, 0⟩ = some (bif isI c && !isD c then (bif t.all isI then .inr (f && t.all isD) else .inl false) else .inl false) := by
        intro f
        have hr := Qjr (c :: t) f 0 (by simp) h100
        have hr : GG ⟨ba (c :: t), f, 0⟩ = _ := hr
        rw [VO.eq, hr, Option.bind_some]
        simp only [List.getElem_cons_zero, decide_true, Bool.true_or, Bool.and_true, Nat.lt_irrefl, decide_false, Bool.false_and, cond_false]
        rw [QpB]
        cases isI c && !isD c with
        | false => rfl
        | true =>
          simp only [Bool.not_true, cond_false, Sum.elim_inl, cond_true]
          exact Qgq (c :: t) h100 t.length 1 f (by simp) (by omega)
      have c4 : ((c.toNat : Int) == 114) = !decide (c ≠ 114) := by
        by_cases h : c = 114
        · subst h; rfl
        · have : ((c.toNat : Int) == 114) = false := by
            rw [beq_eq_false_iff_ne]; intro e; exact h (UInt8.toNat_inj.1 (by have : (114 : UInt8).toNat = 114 := rfl; omega))
          rw [this, decide_eq_true h]; rfl
      have c5 : decide ((((c :: t).length : Nat) : Int) > 1) = !decide (t = []) := by
        cases t with
        | nil => rfl
        | cons b t =>
          have e1 : decide ((((c :: b :: t).length : Nat) : Int) > 1) = true := decide_eq_true (by simp only [List.length_cons]; omega)
          rw [e1, decide_eq_false (List.cons_ne_nil b t)]; rfl
      rw [first, first, c4, c5, List.all_cons]
      cases isI c <;> cases isD c <;> cases t.all isI <;> cases t.all isD <;> cases decide (c ≠ 114) <;> cases decide (t = []) <;> rfl
    · have c2 : decide ((((c :: t).length : Nat) : Int) > 12) = true := decide_eq_true (by simp only [List.length_cons]; omega)
      rw [c2, decide_eq_false hl]; rfl
end Go.Ab
namespace Go.Ab
abbrev RS (l s : List UInt8) (d : Int) (b : Bool) : Qe := ⟨ba l, ((l.length - s.length : Nat) : Int), d, b⟩
theorem QiD {l s : List UInt8} {c : UInt8} {t : List UInt8} (h : s <:+ l) (e : s = c :: t) : (ba l).data.getD (Int.toNat ((l.length - s.length : Nat) : Int)) 0 = c ∧ l.length - s.length < l.length ∧ l.length - t.length = l.length - s.length + 1 ∧ t <:+ l := by
  obtain ⟨q, rfl⟩ := h
  subst e
  refine ⟨?_, by simp, by simp; omega, ⟨q ++ [c], by simp⟩⟩
  rw [Fg, Int.toNat_natCast]
  simp
theorem QiE {l : List UInt8} (hl : l.length ≤ 1000000000) (d : Int) (b : Bool) : ∀ s, s <:+ l → U6 (RS l s d b) = some (RS l (dropB s) d b) := by
  have loop : ∀ s, s <:+ l → J4 (RS l s d b) = some (RS l (dropB s) d b) := by
    intro s
    induction s with
    | nil =>
      intro hs
      rw [J4.eq]; unfold Y9
      have c1 : decide (((l.length - ([] : List UInt8).length : Nat) : Int) < (((ba l).size : Nat) : Int)) = false := decide_eq_false (by rw [QF]; simp)
      simp only
      rw [c1]; rfl
    | cons c t ih =>
      intro hs
      obtain ⟨h1, h2, h3, h4⟩ := QiD hs rfl
      have c1 : decide (((l.length - (c :: t).length : Nat) : Int) < (((ba l).size : Nat) : Int)) = true := decide_eq_true (by rw [QF]; omega)
      have c2 : decide (0 ≤ ((l.length - (c :: t).length : Nat) : Int) ∧ ((l.length - (c :: t).length : Nat) : Int) < (((ba l).size : Nat) : Int)) = true := decide_eq_true (by rw [QF]; omega)
      rw [J4.eq]; unfold Y9
      simp only
      rw [c1, cond_true, c2, cond_true, h1]
      by_cases hc : c = 32
      · have c3 : ((c.toNat : Int) == 32) = true := by subst hc; rfl
        rw [c3, cond_true, w64_in (by omega) (by omega)]
        simp only [Option.bind_some, Sum.elim_inl]
        have e : (⟨ba l, ((l.length - (c :: t).length : Nat) : Int) + 1, d, b⟩ : Qe) = RS l t d b := by
          rw [show ((l.length - (c :: t).length : Nat) : Int) + 1 = ((l.length - t.length : Nat) : Int) from by rw [h3]; rfl]
        rw [e, ih h4]
        subst hc; rfl
      · have c3 : ((c.toNat : Int) == 32) = false := by
          rw [beq_eq_false_iff_ne]; intro e; exact hc (UInt8.toNat_inj.1 (by have : (32 : UInt8).toNat = 32 := rfl; omega))
        rw [c3, cond_false, PT hc]; rfl
  intro s hs
  rw [U6.eq]; unfold Ye
  rw [loop s hs]; rfl
theorem Gt (s : List UInt8) : dropB s <:+ s := List.dropWhile_suffix _
theorem is_eq {l : List UInt8} (hl : l.length ≤ 1000000000) (a : List UInt8) (ha : a.length ≤ 100) (s : List UInt8) (hs : s <:+ l) (d : Int) (b : Bool) :
    Ub (ba a) (RS l s d b) = some (bif pre a (dropB s) then (true, RS l ((dropB s).drop a.length) d b) else (false, RS l (dropB s) d b)) := by
  rw [Ub.eq]; unfold Zq
  rw [QiE hl d b s hs, Option.bind_some]
  have hs2 : dropB s <:+ l := (Gt s).trans hs
  generalize dropB s = t at hs2
  obtain ⟨q, hq⟩ := hs2
  have hlen : l.length = q.length + t.length := by rw [← hq, List.length_append]
  have hP : l.length - t.length = q.length := by omega
  simp only [QF]
  rw [hP, w64_in (n := (q.length : Int) + (a.length : Int)) (by omega) (by omega)]
  by_cases h : a.length ≤ t.length
  · have c1 : decide ((q.length : Int) + (a.length : Int) > (l.length : Int)) = false := decide_eq_false (by omega)
    have c2 : decide (0 ≤ (q.length : Int) ∧ (q.length : Int) ≤ (q.length : Int) + (a.length : Int) ∧ (q.length : Int) + (a.length : Int) ≤ (l.length : Int)) = true := decide_eq_true (by omega)
    have e1 : (ba l).extract (Int.toNat (q.length : Int)) (Int.toNat ((q.length : Int) + (a.length : Int))) = ba (t.take a.length) := by
      rw [UJ, Int.toNat_natCast, show ((q.length : Int) + (a.length : Int)).toNat = q.length + a.length from by omega, ← hq, List.take_append, List.take_of_length_le (by omega), List.drop_left, show q.length + a.length - q.length = a.length from by omega]
    rw [c1, cond_false, c2, cond_true, e1, eqS_ba]
    cases hp : pre a t with
    | true =>
      have : decide (t.take a.length = a) = true := hp
      rw [this]
      simp only [Bool.not_true, cond_false, cond_true]
      rw [show (q.length : Int) + (a.length : Int) = ((l.length - (t.drop a.length).length : Nat) : Int) from by rw [List.length_drop]; omega]
    | false =>
      have : decide (t.take a.length = a) = false := hp
      rw [this]
      simp only [Bool.not_false, cond_true, cond_false]
  · have c1 : decide ((q.length : Int) + (a.length : Int) > (l.length : Int)) = true := decide_eq_true (by omega)
    have hp : pre a t = false := by
      unfold pre; exact decide_eq_false fun e => by
        have := congrArg List.length e
        simp at this; omega
    rw [c1, hp]
    simp only [cond_true, cond_false]
theorem QeY (c : UInt8) : Vk (c.toNat : Int) 10 = some (if isD c then (dg c : Int) else -1) ∧ Vk (c.toNat : Int) 16 = some (if isH c then (dg c : Int) else -1) := by
  have hc := c.toNat_lt
  have e10 : ((10 : Int) == 16) = false := rfl
  have e16 : ((16 : Int) == 16) = true := rfl
  by_cases h1 : 48 ≤ c.toNat ∧ c.toNat ≤ 57
  · have c1 : decide ((c.toNat : Int) ≥ 48) = true := decide_eq_true (by omega)
    have c2 : decide ((c.toNat : Int) ≤ 57) = true := decide_eq_true (by omega)
    have hD : isD c = true := decide_eq_true h1
    have hH : isH c = true := by simp [isH, hD]
    have hg : dg c = c.toNat - 48 := by unfold dg; rw [if_neg (by omega)]
    have e : w64 (IntKind.u8.wrap ((c.toNat : Int) - 48)) = (dg c : Int) := by rw [u8_in (by omega) (by omega), w64_in (by omega) (by omega)]; omega
    constructor <;> rw [Vk.eq] <;> unfold PO <;> rw [c1, cond_true, c2, cond_true, e]
    · rw [hD]; rfl
    · rw [hH]; rfl
  · have hD : isD c = false := decide_eq_false h1
    have step10 : Vk (c.toNat : Int) 10 = some (-1) := by
      rw [Vk.eq]; unfold PO
      rw [e10]
      cases h : decide ((c.toNat : Int) ≥ 48)
      · rfl
      · have c2 : decide ((c.toNat : Int) ≤ 57) = false := decide_eq_false (by have := of_decide_eq_true h; omega)
        rw [c2]; rfl
    refine ⟨by rw [step10, hD]; rfl, ?_⟩
    have head : Vk (c.toNat : Int) 16 = bif decide ((c.toNat : Int) ≥ 97) then (bif decide ((c.toNat : Int) ≤ 102) then some (w64 (w64 (IntKind.u8.wrap ((c.toNat : Int) - 97)) + 10)) else some (-1)) else some (-1) := by
      rw [Vk.eq]; unfold PO
      rw [e16]
      cases h : decide ((c.toNat : Int) ≥ 48)
      · rfl
      · have c2 : decide ((c.toNat : Int) ≤ 57) = false := decide_eq_false (by have := of_decide_eq_true h; omega)
        rw [c2]; rfl
    rw [head]
    by_cases h2 : 97 ≤ c.toNat ∧ c.toNat ≤ 102
    · have c3 : decide ((c.toNat : Int) ≥ 97) = true := decide_eq_true (by omega)
      have c4 : decide ((c.toNat : Int) ≤ 102) = true := decide_eq_true (by omega)
      have hH : isH c = true := by simp [isH, h2]
      have hg : dg c = c.toNat - 97 + 10 := by unfold dg; rw [if_pos h2.1]
      have e : w64 (w64 (IntKind.u8.wrap ((c.toNat : Int) - 97)) + 10) = (dg c : Int) := by
        rw [u8_in (by omega) (by omega), w64_in (n := (c.toNat : Int) - 97) (by omega) (by omega), w64_in (by omega) (by omega)]; omega
      rw [c3, cond_true, c4, cond_true, e, hH]; rfl
    · have hH : isH c = false := by rw [isH, hD]; simp; omega
      rw [hH]
      cases h : decide ((c.toNat : Int) ≥ 97)
      · rfl
      · have c4 : decide ((c.toNat : Int) ≤ 102) = false := decide_eq_false (by have := of_decide_eq_true h; omega)
        rw [c4]; rfl
def isB (base : Nat) (c : UInt8) : Bool := if base = 16 then isH c else isD c
theorem QqJ {base : Nat} (hb : base = 10 ∨ base = 16) (c : UInt8) : Vk (c.toNat : Int) (base : Int) = some (if isB base c then (dg c : Int) else -1) := by
  rcases hb with rfl | rfl
  · exact (QeY c).1
  · exact (QeY c).2
theorem isB_H {base : Nat} {c : UInt8} (h : isB base c = true) : isH c = true := by
  unfold isB at h
  split at h
  · exact h
  · simp [isH, h]
theorem Qru {l : List UInt8} (hl : l.length ≤ 1000000000) {base : Nat} (hb : base = 10 ∨ base = 16) (at_ : Int) (d : Int) (b : Bool) : ∀ (s : List UInt8) (n : Nat), s <:+ l → n < 4294967296 →
    match numv base (s.takeWhile (isB base)) n with
    | some m => QV ⟨base, n, at_, RS l s d b, E0⟩ = some (.inr ⟨m, at_, RS l (s.dropWhile (isB base)) d b, E0⟩)
    | none => ∃ r, r <:+ l ∧ QV ⟨base, n, at_, RS l s d b, E0⟩ = some (.inl ⟨RS l r d true, E0⟩) := by
  intro s
  induction s with
  | nil =>
    intro n hs hn
    simp only [List.takeWhile_nil, numv]
    rw [QV.eq]; unfold Vi
    have c1 : decide (((l.length - ([] : List UInt8).length : Nat) : Int) < (((ba l).size : Nat) : Int)) = false := decide_eq_false (by rw [QF]; simp)
    simp only
    rw [c1]; rfl
  | cons c t ih =>
    intro n hs hn
    obtain ⟨h1, h2, h3, h4⟩ := QiD hs rfl
    have c1 : decide (((l.length - (c :: t).length : Nat) : Int) < (((ba l).size : Nat) : Int)) = true := decide_eq_true (by rw [QF]; omega)
    have c2 : decide (0 ≤ ((l.length - (c :: t).length : Nat) : Int) ∧ ((l.length - (c :: t).length : Nat) : Int) < (((ba l).size : Nat) : Int)) = true := decide_eq_true (by rw [QF]; omega)
    have step : QV ⟨base, n, at_, RS l (c :: t) d b, E0⟩ = (Vi Vk ⟨base, n, at_, RS l (c :: t) d b, E0⟩).bind (Sum.elim QV some) := QV.eq _
    unfold Vi at step
    simp only at step
    rw [c1, cond_true, c2, cond_true, h1, QqJ hb, Option.bind_some, Option.bind_some] at step
    cases hB : isB base c with
    | false =>
      rw [hB] at step
      have c3 : decide ((if false = true then ((dg c : Nat) : Int) else -1) ≥ 0) = false := rfl
      rw [c3, cond_false] at step
      simp only [List.takeWhile_cons, hB, Bool.false_eq_true, if_false, numv, List.dropWhile_cons]
      rw [step]; rfl
    | true =>
      rw [hB] at step
      have hdg := dg_lt (isB_H hB)
      have c3 : decide ((if true = true then ((dg c : Nat) : Int) else -1) ≥ 0) = true := decide_eq_true (by rw [if_pos rfl]; omega)
      have hmul : n * base ≤ 4294967296 * 16 := Nat.mul_le_mul (by omega) (by omega)
      have em : w64 (w64 ((base : Int) * (n : Int)) + (if true = true then ((dg c : Nat) : Int) else -1)) = ((n * base + dg c : Nat) : Int) := by
        rw [if_pos rfl, ← Int.natCast_mul, Nat.mul_comm base n, w64_in (n := ((n * base : Nat) : Int)) (by omega) (by omega), w64_in (by omega) (by omega)]; omega
      have e3 : (⟨ba l, w64 (((l.length - (c :: t).length : Nat) : Int) + 1), d, b⟩ : Qe) = RS l t d b := by
        rw [w64_in (by omega) (by omega), show ((l.length - (c :: t).length : Nat) : Int) + 1 = ((l.length - t.length : Nat) : Int) from by rw [h3]; rfl]
      have e4 : (⟨ba l, w64 (((l.length - (c :: t).length : Nat) : Int) + 1), d, true⟩ : Qe) = RS l t d true := by
        rw [w64_in (by omega) (by omega), show ((l.length - (c :: t).length : Nat) : Int) + 1 = ((l.length - t.length : Nat) : Int) from by rw [h3]; rfl]
      rw [c3, cond_true, em, e3, e4] at step
      simp only [List.takeWhile_cons, hB, if_true, numv, List.dropWhile_cons]
      by_cases hbig : n * base + dg c ≥ 4294967296
      · have c4 : decide (((n * base + dg c : Nat) : Int) ≥ 4294967296) = true := decide_eq_true (by omega)
        rw [if_pos hbig]
        rw [c4, cond_true] at step
        exact ⟨t, h4, step⟩
      · have c4 : decide (((n * base + dg c : Nat) : Int) ≥ 4294967296) = false := decide_eq_false (by omega)
        rw [if_neg hbig]
        rw [c4, cond_false] at step
        have ih := ih (n * base + dg c) h4 (by omega)
        rw [step]
        exact ih
theorem Qmd {p : UInt8 → Bool} {s : List UInt8} : (s.takeWhile p = [] ↔ s.dropWhile p = s) ∧ (s.dropWhile p).length = s.length - (s.takeWhile p).length := by
  have h := List.takeWhile_append_dropWhile (p := p) (l := s)
  have hl := congrArg List.length h
  rw [List.length_append] at hl
  refine ⟨⟨fun e => by rw [e, List.nil_append] at h; exact h, fun e => by
    have := congrArg List.length e
    exact List.eq_nil_of_length_eq_zero (by omega)⟩, by omega⟩
theorem QkM {l : List UInt8} (hl : l.length ≤ 1000000000) {base : Nat} (hb : base = 10 ∨ base = 16) (s : List UInt8) (hs : s <:+ l) (d : Int) (b : Bool) :
    match numv base (s.takeWhile (isB base)) 0 with
    | some n => Ug base (RS l s d b) = some (⟨1, n, s_, []⟩, RS l (s.dropWhile (isB base)) d (bif decide (s.takeWhile (isB base) = []) then true else b))
    | none => ∃ r, r <:+ l ∧ Ug base (RS l s d b) = some (E0, RS l r d true) := by
  have hL := Qru hl hb ((l.length - s.length : Nat) : Int) d b s 0 hs (by decide)
  have step : Ug base (RS l s d b) = Wz QV base (RS l s d b) := Ug.eq _ _
  unfold Wz at step
  cases hv : numv base (s.takeWhile (isB base)) 0 with
  | none =>
    rw [hv] at hL
    obtain ⟨r, hr, e⟩ := hL
    refine ⟨r, hr, ?_⟩
    have e : QV ⟨base, 0, ((l.length - s.length : Nat) : Int), RS l s d b, E0⟩ = some (.inl ⟨RS l r d true, E0⟩) := e
    simp only at step
    rw [e] at step; exact step
  | some n =>
    rw [hv] at hL
    have e : QV ⟨base, 0, ((l.length - s.length : Nat) : Int), RS l s d b, E0⟩ = some (.inr ⟨n, ((l.length - s.length : Nat) : Int), RS l (s.dropWhile (isB base)) d b, E0⟩) := hL
    simp only at step
    rw [e, Option.bind_some, Sum.elim_inr] at step
    simp only at step ⊢
    obtain ⟨t1, t2⟩ := @Qmd (isB base) s
    have hsl : s.length ≤ l.length := hs.length_le
    have htl : (s.takeWhile (isB base)).length ≤ s.length := (List.takeWhile_sublist _).length_le
    have c1 : (((l.length - s.length : Nat) : Int) == ((l.length - (s.dropWhile (isB base)).length : Nat) : Int)) = decide (s.takeWhile (isB base) = []) := by
      rw [Bool.eq_iff_iff, beq_iff_eq, decide_eq_true_iff]
      constructor
      · intro e; exact List.eq_nil_of_length_eq_zero (by omega)
      · intro e; rw [t1.1 e]
    rw [c1] at step
    rw [step]
    cases decide (s.takeWhile (isB base) = []) <;> rfl
end Go.Ab
namespace Go.Ab
theorem QsX {l : List UInt8} (hl : l.length ≤ 1000000000) (at_ d : Int) (b : Bool) : ∀ s : List UInt8, s <:+ l → JZ ⟨at_, RS l s d b, E0⟩ = some ⟨at_, RS l (s.dropWhile isI) d b, E0⟩ := by
  intro s
  induction s with
  | nil =>
    intro hs
    rw [JZ.eq]; unfold Za
    have c1 : decide (((l.length - ([] : List UInt8).length : Nat) : Int) < (((ba l).size : Nat) : Int)) = false := decide_eq_false (by rw [QF]; simp)
    simp only
    rw [c1]; rfl
  | cons c t ih =>
    intro hs
    obtain ⟨h1, h2, h3, h4⟩ := QiD hs rfl
    have c1 : decide (((l.length - (c :: t).length : Nat) : Int) < (((ba l).size : Nat) : Int)) = true := decide_eq_true (by rw [QF]; omega)
    have c2 : decide (0 ≤ ((l.length - (c :: t).length : Nat) : Int) ∧ ((l.length - (c :: t).length : Nat) : Int) < (((ba l).size : Nat) : Int)) = true := decide_eq_true (by rw [QF]; omega)
    have e3 : (⟨ba l, w64 (((l.length - (c :: t).length : Nat) : Int) + 1), d, b⟩ : Qe) = RS l t d b := by
      rw [w64_in (by omega) (by omega), show ((l.length - (c :: t).length : Nat) : Int) + 1 = ((l.length - t.length : Nat) : Int) from by rw [h3]; rfl]
    rw [JZ.eq]; unfold Za
    simp only
    rw [c1, cond_true, c2, cond_true, h1, e3]
    have e97 : decide ((c.toNat : Int) ≥ 97) = decide (97 ≤ c.toNat) := decide_eq_decide.2 (by omega)
    have e122 : decide ((c.toNat : Int) ≤ 122) = decide (c.toNat ≤ 122) := decide_eq_decide.2 (by omega)
    have e48 : decide ((c.toNat : Int) ≥ 48) = decide (48 ≤ c.toNat) := decide_eq_decide.2 (by omega)
    have e57 : decide ((c.toNat : Int) ≤ 57) = decide (c.toNat ≤ 57) := decide_eq_decide.2 (by omega)
    have e95 : ((c.toNat : Int) == 95) = decide (c.toNat = 95) := by rw [Bool.eq_iff_iff, beq_iff_eq, decide_eq_true_iff]; omega
    have hI : isI c = (decide (97 ≤ c.toNat) && decide (c.toNat ≤ 122) || decide (c.toNat = 95) || decide (48 ≤ c.toNat) && decide (c.toNat ≤ 57)) := by
      unfold isI isS isD; rw [Bool.decide_or, Bool.decide_and, Bool.decide_and]
    rw [e97, e122, e48, e57, e95]
    rw [List.dropWhile_cons, hI]
    have ih := ih h4
    cases decide (97 ≤ c.toNat) <;> cases decide (c.toNat ≤ 122) <;> cases decide (48 ≤ c.toNat) <;> cases decide (c.toNat ≤ 57) <;> cases decide (c.toNat = 95) <;> first | exact ih | rfl
theorem Qsa {l : List UInt8} (hl : l.length ≤ 1000000000) (s : List UInt8) (hs : s <:+ l) (d : Int) (b : Bool) :
    VC (RS l s d b) = some (⟨2, 0, ba (s.takeWhile isI), []⟩, RS l (s.dropWhile isI) d (bif wordB (s.takeWhile isI) then b else true)) := by
  rw [VC.eq]; unfold Yf
  simp only
  have e : JZ ⟨((l.length - s.length : Nat) : Int), RS l s d b, E0⟩ = some ⟨((l.length - s.length : Nat) : Int), RS l (s.dropWhile isI) d b, E0⟩ := QsX hl _ d b s hs
  rw [e, Option.bind_some]
  simp only
  obtain ⟨q, hq⟩ := hs
  have hlen : l.length = q.length + s.length := by rw [← hq, List.length_append]
  obtain ⟨_, t2⟩ := @Qmd isI s
  have htl : (s.takeWhile isI).length ≤ s.length := (List.takeWhile_sublist _).length_le
  have c1 : decide (0 ≤ ((l.length - s.length : Nat) : Int) ∧ ((l.length - s.length : Nat) : Int) ≤ ((l.length - (s.dropWhile isI).length : Nat) : Int) ∧ ((l.length - (s.dropWhile isI).length : Nat) : Int) ≤ (((ba l).size : Nat) : Int)) = true := decide_eq_true (by rw [QF]; omega)
  have e1 : (ba l).extract (Int.toNat ((l.length - s.length : Nat) : Int)) (Int.toNat ((l.length - (s.dropWhile isI).length : Nat) : Int)) = ba (s.takeWhile isI) := by
    rw [UJ, Int.toNat_natCast, Int.toNat_natCast, show l.length - s.length = q.length from by omega, show l.length - (s.dropWhile isI).length = q.length + (s.takeWhile isI).length from by omega, ← hq, List.take_append, List.take_of_length_le (by omega), List.drop_left, show q.length + (s.takeWhile isI).length - q.length = (s.takeWhile isI).length from by omega]
    conv => lhs; arg 1; arg 2; rw [← List.takeWhile_append_dropWhile (p := isI) (l := s)]
    rw [List.take_left']
    rfl
  rw [c1, cond_true, e1, QqI _ (by omega), Option.bind_some]
  cases wordB (s.takeWhile isI) <;> rfl
end Go.Ab
namespace Go.Ab
section
variable {l : List UInt8} (hl : l.length ≤ 1000000000)
include hl
omit hl in
theorem Um {k lev : Nat} (hk : 5 ≤ k ∧ k ≤ 11) (h : lvlOf k ≠ lev) (r : Qe) : QQ ⟨lev, k, r⟩ = QQ ⟨lev, (k + 1 : Nat), r⟩ := by
  rw [QQ.eq ⟨lev, k, r⟩]; unfold VT
  have c1 : decide ((k : Int) ≤ 11) = true := decide_eq_true (by omega)
  have c2 : ((lvlOf k : Int) == (lev : Int)) = false := by rw [beq_eq_false_iff_ne]; omega
  simp only
  rw [c1, cond_true, Qgp hk, Option.bind_some]
  simp only
  rw [c2, cond_false, w64_in (n := (k : Int) + 1) (by omega) (by omega)]
  rfl
theorem SA {k lev : Nat} (hk : 5 ≤ k ∧ k ≤ 11) (h : lvlOf k = lev) (s : List UInt8) (hs : s <:+ l) (d : Int) : QQ ⟨lev, k, RS l s d false⟩ =
    bif pre (sg k) (dropB s) then some (.inl ⟨k, RS l ((dropB s).drop (sg k).length) d false⟩) else QQ ⟨lev, (k + 1 : Nat), RS l (dropB s) d false⟩ := by
  rw [QQ.eq ⟨lev, k, RS l s d false⟩]; unfold VT
  have c1 : decide ((k : Int) ≤ 11) = true := decide_eq_true (by omega)
  have c2 : ((lvlOf k : Int) == (lev : Int)) = true := by rw [beq_iff_eq]; omega
  have hsg : (sg k).length ≤ 100 := by unfold sg; split <;> simp
  simp only
  rw [c1, cond_true, Qgp hk, Option.bind_some]
  simp only
  rw [c2, cond_true, is_eq hl (sg k) hsg s hs d false]
  simp only [Bool.not_false, cond_true, Option.bind_some]
  cases pre (sg k) (dropB s) with
  | true => rfl
  | false =>
    simp only [cond_false]
    rw [w64_in (n := (k : Int) + 1) (by omega) (by omega)]
    rfl
omit hl in
theorem Qbu (lev : Int) (r : Qe) : QQ ⟨lev, ((12 : Nat) : Int), r⟩ = some (.inr r) := by rw [QQ.eq]; rfl
theorem QsY {lev : Nat} (h5 : lev < 5) (s : List UInt8) (hs : s <:+ l) (d : Int) : J9 lev (RS l s d false) =
    some (match kindS (lv lev) (dropB s) with | some k => ((k : Int), RS l ((dropB s).drop (sg k).length) d false) | none => (0, RS l (dropB s) d false)) := by
  have hs2 : dropB s <:+ l := (Gt s).trans hs
  rw [J9.eq]; unfold Xw
  have h2 : lev = 0 ∨ lev = 1 ∨ lev = 2 ∨ lev = 3 ∨ lev = 4 := by omega
  have e5 : QQ ⟨lev, 5, RS l s d false⟩ = QQ ⟨lev, ((5 : Nat) : Int), RS l s d false⟩ := rfl
  rw [e5]
  rcases h2 with rfl | rfl | rfl | rfl | rfl
  · rw [Um (by omega) (by decide), Um (by omega) (by decide), Um (by omega) (by decide), Um (by omega) (by decide), SA hl (by omega) (by decide) s hs d, Um (by omega) (by decide), Um (by omega) (by decide), Qbu]
    simp only [kindS, lv, List.find?_cons]
    cases pre (sg 9) (dropB s) <;> rfl
  · rw [Um (by omega) (by decide), Um (by omega) (by decide), Um (by omega) (by decide), SA hl (by omega) (by decide) s hs d, Um (by omega) (by decide), Um (by omega) (by decide), Um (by omega) (by decide), Qbu]
    simp only [kindS, lv, List.find?_cons]
    cases pre (sg 8) (dropB s) <;> rfl
  · rw [Um (by omega) (by decide), Um (by omega) (by decide), Um (by omega) (by decide), Um (by omega) (by decide), Um (by omega) (by decide), SA hl (by omega) (by decide) s hs d, SA hl (by omega) (by decide) (dropB s) hs2 d, PQ, Qbu]
    simp only [kindS, lv, List.find?_cons]
    cases pre (sg 10) (dropB s) <;> cases pre (sg 11) (dropB s) <;> rfl
  · rw [SA hl (by omega) (by decide) s hs d, SA hl (by omega) (by decide) (dropB s) hs2 d, PQ, Um (by omega) (by decide), Um (by omega) (by decide), Um (by omega) (by decide), Um (by omega) (by decide), Um (by omega) (by decide), Qbu]
    simp only [kindS, lv, List.find?_cons]
    cases pre (sg 5) (dropB s) <;> cases pre (sg 6) (dropB s) <;> rfl
  · rw [Um (by omega) (by decide), Um (by omega) (by decide), SA hl (by omega) (by decide) s hs d, Um (by omega) (by decide), Um (by omega) (by decide), Um (by omega) (by decide), Um (by omega) (by decide), Qbu]
    simp only [kindS, lv, List.find?_cons]
    cases pre (sg 7) (dropB s) <;> rfl
omit hl in
theorem Qsb (lev : Nat) (S : ByteArray) (p d : Int) : J9 lev ⟨S, p, d, true⟩ = some (0, ⟨S, p, d, true⟩) := by
  have loop : ∀ (g k : Nat), g + k = 12 → 5 ≤ k → QQ ⟨lev, k, ⟨S, p, d, true⟩⟩ = some (.inr ⟨S, p, d, true⟩) := by
    intro g
    induction g with
    | zero => intro k hk _; obtain rfl : k = 12 := by omega
              exact Qbu _ _
    | succ g ih =>
      intro k hk h5
      rw [QQ.eq]; unfold VT
      have c1 : decide ((k : Int) ≤ 11) = true := decide_eq_true (by omega)
      simp only
      rw [c1, cond_true, Qgp ⟨h5, by omega⟩, Option.bind_some, w64_in (n := (k : Int) + 1) (by omega) (by omega)]
      have := ih (k + 1) (by omega) (by omega)
      cases ((lvlOf k : Int) == (lev : Int)) <;> exact this
  rw [J9.eq]; unfold Xw
  have e : QQ ⟨lev, 5, ⟨S, p, d, true⟩⟩ = some (.inr ⟨S, p, d, true⟩) := loop 7 5 rfl (by omega)
  rw [e]; rfl
end
noncomputable def RL (lev : Nat) (r : Qe) (x : Qd) : Option (Qd × Qe) := (JI ⟨(lev : Int), r, E0, x⟩).bind fun o => some (o.h1, o.h0)
theorem rtwo5 (r : Qe) : Qs ((5 : Nat) : Int) r = QR r := by
  rw [Qs.eq]; unfold YJ
  have c1 : decide (((5 : Nat) : Int) > 4) = true := rfl
  rw [c1, cond_true]
  cases QR r <;> rfl
theorem QpH {lev : Nat} (h : lev < 5) (r : Qe) : Qs (lev : Int) r = (Qs ((lev + 1 : Nat) : Int) r).bind fun q => RL lev q.2 q.1 := by
  rw [Qs.eq]; unfold YJ
  have c1 : decide ((lev : Int) > 4) = false := decide_eq_false (by omega)
  rw [c1, cond_false, w64_in (n := (lev : Int) + 1) (by omega) (by omega)]
  rfl
theorem RL_bad (lev : Nat) (S : ByteArray) (p d : Int) (x : Qd) : RL lev ⟨S, p, d, true⟩ x = some (x, ⟨S, p, d, true⟩) := by
  unfold RL
  rw [JI.eq]; unfold WA
  simp only
  rw [Qsb]; rfl
theorem RL_eq {l : List UInt8} (hl : l.length ≤ 1000000000) {lev : Nat} (h5 : lev < 5) (s : List UInt8) (hs : s <:+ l) (d : Int) (x : Qd) : RL lev (RS l s d false) x = match kindS (lv lev) (dropB s) with
    | none => some (x, RS l (dropB s) d false)
    | some k => (Qs ((lev + 1 : Nat) : Int) (RS l ((dropB s).drop (sg k).length) d false)).bind fun q => RL lev q.2 ⟨k, 0, s_, [x, q.1]⟩ := by
  conv => lhs; unfold RL
  rw [JI.eq]; unfold WA
  simp only
  rw [QsY hl h5 s hs d, Option.bind_some]
  cases hk : kindS (lv lev) (dropB s) with
  | none => rfl
  | some k =>
    have hk5 := lv_ok (List.mem_of_find?_eq_some hk)
    have c1 : ((k : Int) == 0) = false := by rw [beq_eq_false_iff_ne]; omega
    simp only
    rw [c1, cond_false, w64_in (n := (lev : Int) + 1) (by omega) (by omega)]
    show Option.bind (Option.bind (Option.bind (Qs ((lev + 1 : Nat) : Int) (RS l ((dropB s).drop (sg k).length) d false)) _) _) _ = _
    cases Qs ((lev + 1 : Nat) : Int) (RS l ((dropB s).drop (sg k).length) d false) <;> rfl
def stuck (r : List UInt8) : Prop := ∃ c t, r = c :: t ∧ isI c = true
def RR (l : List UInt8) (f : Option (Qd × Qe)) (d : Int) (o : Option (X3 × List UInt8)) : Prop := match o with
  | some (x, r) => f = some (x.t, RS l r d false)
  | none => ∃ e r b, f = some (e, RS l r d b) ∧ r <:+ l ∧ (b = true ∨ stuck r)
theorem Qgr {r : List UInt8} (h : stuck r) : dropB r = r := by
  obtain ⟨c, t, rfl, hc⟩ := h
  exact PT fun e => by rw [e] at hc; cases hc
theorem QqK {r : List UInt8} (h : stuck r) {lev : Nat} (h5 : lev < 5) : kindS (lv lev) r = none := by
  obtain ⟨c, t, rfl, hc⟩ := h
  unfold kindS
  rw [List.find?_eq_none]
  intro k hk
  obtain ⟨c', t', e, hc', _⟩ := QiA (lv_ok hk)
  rw [e]
  have : c' ≠ c := fun e => by rw [e, hc] at hc'; cases hc'
  simp only [pre, Bool.not_eq_true]
  exact decide_eq_false fun e => this (by simpa using congrArg List.head? e.symm)
theorem QpI {l : List UInt8} (hl : l.length ≤ 1000000000) {lev : Nat} (h5 : lev < 5) {r : List UInt8} (hr : r <:+ l) {d : Int} {b : Bool} (h : b = true ∨ stuck r) (x : Qd) : RL lev (RS l r d b) x = some (x, RS l r d b) := by
  cases b with
  | true => exact RL_bad lev _ _ d x
  | false =>
    have h : stuck r := by rcases h with h | h; cases h; exact h
    rw [RL_eq hl h5 r hr d x, Qgr h, QqK h h5]
theorem dw_suf {p : UInt8 → Bool} (s : List UInt8) : s.dropWhile p <:+ s := List.dropWhile_suffix p
theorem QpJ {l : List UInt8} (hl : l.length ≤ 1000000000) {base : Nat} (hb : base = 10 ∨ base = 16) (s : List UInt8) (hs : s <:+ l) (hne : s.takeWhile (isB base) ≠ []) (d : Int) :
    RR l (Ug base (RS l s d false)) d (tailA base (s.takeWhile (isB base)) (s.dropWhile (isB base))) := by
  have h := QkM hl hb s hs d false
  unfold tailA
  cases hv : numv base (s.takeWhile (isB base)) 0 with
  | none =>
    rw [hv] at h
    obtain ⟨r, hr, e⟩ := h
    exact ⟨_, r, true, e, hr, .inl rfl⟩
  | some n =>
    rw [hv] at h
    simp only at h ⊢
    rw [decide_eq_false hne, cond_false] at h
    by_cases hi : (s.dropWhile (isB base)).takeWhile isI = []
    · rw [if_pos hi]; exact h
    · rw [if_neg hi]
      refine ⟨_, _, false, h, (dw_suf s).trans hs, .inr ?_⟩
      cases hd : s.dropWhile (isB base) with
      | nil => rw [hd] at hi; exact absurd rfl hi
      | cons c t =>
        rw [hd] at hi
        refine ⟨c, t, rfl, ?_⟩
        cases hc : isI c with
        | true => rfl
        | false => exfalso; apply hi; simp [List.takeWhile_cons, hc]
theorem isB10 : isB 10 = isD := by funext c; rfl
theorem isB16 : isB 16 = isH := by funext c; rfl
theorem ratom {l : List UInt8} (hl : l.length ≤ 1000000000) {s t : List UInt8} (hs : s <:+ l) (h : dropB s = t) (h1 : ∀ r, t ≠ 40 :: r) (h2 : ∀ r, t ≠ 45 :: r) (h3 : ∀ r, t ≠ 46 :: r) (d : Int) : RR l (QR (RS l s d false)) d (atomS t) := by
  have ht : dropB t = t := by rw [← h, PQ]
  have hts : t <:+ l := by rw [← h]; exact (Gt s).trans hs
  have fin : ∀ f : Option (Qd × Qe), (f.bind fun r => some (r.1, r.2)) = f := fun f => by cases f <;> rfl
  rw [QR.eq]; unfold Xg
  simp only [cond_false]
  rw [show h_28 = ba [40] from rfl, is_eq hl [40] (by simp) s hs d false, h, Qdf h1]
  simp only [cond_false, Option.bind_some]
  rw [show h_2d = ba [45] from rfl, is_eq hl [45] (by simp) t hts d false, ht, Qdf h2]
  simp only [cond_false, Option.bind_some]
  rw [show h_2e = ba [46] from rfl, is_eq hl [46] (by simp) t hts d false, ht, Qdf h3]
  simp only [cond_false, Option.bind_some]
  rw [show s_0x = ba [48, 120] from rfl, is_eq hl [48, 120] (by simp) t hts d false, ht]
  cases hp : pre [48, 120] t with
  | true =>
    obtain ⟨p1, p2⟩ := Qiz hp
    have h2s : t.drop 2 <:+ l := (List.drop_suffix 2 t).trans hts
    simp only [cond_true, Option.bind_some]
    rw [fin]
    show RR l (Ug ((16 : Nat) : Int) (RS l (t.drop 2) d false)) d (atomS t)
    unfold atomS
    rw [hp]
    by_cases he : (t.drop 2).takeWhile isH = []
    · -- no digit: the document tells so; the program reads 0, and a word begins behind it
      have hn := QkM hl (.inr rfl) (t.drop 2) h2s d false
      rw [isB16, he] at hn
      simp only [numv, decide_true, cond_true] at hn
      rw [decide_eq_true he]
      simp only [Bool.not_true, Bool.and_false, cond_false]
      have e0 : t = 48 :: 120 :: t.drop 2 := p2
      have d48 : isD 48 = true := by decide
      have d120 : isD 120 = false := by decide
      have q1 : t.takeWhile isD = [48] := by rw [e0]; simp [List.takeWhile_cons, d48, d120]
      have q2 : t.dropWhile isD = 120 :: t.drop 2 := by
        conv => lhs; rw [e0]
        rfl
      rw [q1, q2]
      have : tailA 10 [48] (120 :: t.drop 2) = none := by
        unfold tailA
        rw [show numv 10 [48] 0 = some 0 from rfl]
        simp only
        have i120 : isI 120 = true := by decide
        rw [if_neg]
        simp [List.takeWhile_cons, i120]
      simp only [show decide (([48] : List UInt8) = []) = false from rfl, Bool.not_false, cond_true, this]
      exact ⟨_, _, true, hn, (dw_suf _).trans h2s, .inl rfl⟩
    · rw [decide_eq_false he]
      simp only [Bool.not_false, Bool.true_and, cond_true]
      have := QpJ hl (base := 16) (.inr rfl) (t.drop 2) h2s (by rw [isB16]; exact he) d
      rw [isB16] at this; exact this
  | false =>
    simp only [cond_false, Option.bind_some]
    unfold atomS
    rw [hp]
    simp only [Bool.false_and, cond_false]
    have wd : RR l (VC (RS l t d false)) d (bif wordB (t.takeWhile isI) then some (.nm (ba (t.takeWhile isI)), t.dropWhile isI) else none) := by
      rw [Qsa hl t hts d false]
      cases hw : wordB (t.takeWhile isI) with
      | true => rfl
      | false => exact ⟨_, _, true, rfl, (dw_suf _).trans hts, .inl rfl⟩
    match t, hts, wd with
    | [], hts, wd =>
      have c1 : decide (((l.length - ([] : List UInt8).length : Nat) : Int) < (((ba l).size : Nat) : Int)) = false := decide_eq_false (by rw [QF]; simp)
      rw [c1, cond_false, fin]
      exact wd
    | c :: u, hts, wd =>
      obtain ⟨g1, g2, g3, g4⟩ := QiD hts rfl
      have c1 : decide (((l.length - (c :: u).length : Nat) : Int) < (((ba l).size : Nat) : Int)) = true := decide_eq_true (by rw [QF]; omega)
      have c2 : decide (0 ≤ ((l.length - (c :: u).length : Nat) : Int) ∧ ((l.length - (c :: u).length : Nat) : Int) < (((ba l).size : Nat) : Int)) = true := decide_eq_true (by rw [QF]; omega)
      rw [c1, cond_true, c2, cond_true, g1, (QeY c).1, Option.bind_some, fin, fin]
      cases hD : isD c with
      | true =>
        have c3 : decide ((if true = true then ((dg c : Nat) : Int) else -1) ≥ 0) = true := decide_eq_true (by rw [if_pos rfl]; omega)
        have hne : (c :: u).takeWhile isD ≠ [] := by simp [List.takeWhile_cons, hD]
        rw [c3, cond_true, decide_eq_false hne]
        simp only [Bool.not_false, cond_true]
        have := QpJ hl (base := 10) (.inl rfl) (c :: u) hts (by rw [isB10]; exact hne) d
        rw [isB10] at this; exact this
      | false =>
        have c3 : decide ((if false = true then ((dg c : Nat) : Int) else -1) ≥ 0) = false := rfl
        have he : (c :: u).takeWhile isD = [] := by simp [List.takeWhile_cons, hD]
        rw [c3, cond_false, decide_eq_true he]
        exact wd
end Go.Ab
namespace Go.Ab
def sufQ (r s : List UInt8) : Prop := ∃ p, p ++ r = s ∧ 34 ∉ p
theorem sufQ.suf {r s : List UInt8} (h : sufQ r s) : r <:+ s := let ⟨p, e, _⟩ := h; ⟨p, e⟩
theorem sufQ.refl (s : List UInt8) : sufQ s s := ⟨[], rfl, by simp⟩
theorem sufQ.trans {q r s : List UInt8} (h : sufQ q r) (k : sufQ r s) : sufQ q s := by
  obtain ⟨a, rfl, ha⟩ := h
  obtain ⟨b, rfl, hb⟩ := k
  exact ⟨b ++ a, by simp, by simp [ha, hb]⟩
theorem sufQ.of {a r s : List UInt8} (e : s = a ++ r) (h : 34 ∉ a) : sufQ r s := ⟨a, e.symm, h⟩
theorem dw_q {p : UInt8 → Bool} (hp : p 34 = false) (s : List UInt8) : sufQ (s.dropWhile p) s := by
  refine .of (List.takeWhile_append_dropWhile (p := p)).symm fun h => ?_
  have := List.all_eq_true.1 (List.all_takeWhile (p := p) (l := s)) 34 h
  rw [hp] at this; cases this
theorem Qbv (s : List UInt8) : sufQ (dropB s) s := dw_q (by decide) s
theorem pre_q {a s : List UInt8} (h : pre a s = true) (ha : 34 ∉ a) : sufQ (s.drop a.length) s := by
  have h := of_decide_eq_true (show decide (s.take a.length = a) = true from h)
  refine .of (a := a) ?_ ha
  conv => lhs; rw [← List.take_append_drop a.length s]
  rw [h]
theorem sg_34 {k : Nat} (hk : 5 ≤ k ∧ k ≤ 11) : 34 ∉ sg k := by
  have : k = 5 ∨ k = 6 ∨ k = 7 ∨ k = 8 ∨ k = 9 ∨ k = 10 ∨ k = 11 := by omega
  rcases this with rfl | rfl | rfl | rfl | rfl | rfl | rfl <;> decide
def BothO (s : List UInt8) (d : Int) : Prop := ∃ o : Option (X3 × List UInt8), (∀ x r, o = some (x, r) → sufQ r s) ∧ PR (Qu (PS s d false)) d o ∧
  ∀ l : List UInt8, l.length ≤ 1000000000 → s <:+ l → RR l (QR (RS l s d false)) d o
def BothT (lev : Nat) (s : List UInt8) (d : Int) : Prop := ∃ o : Option (X3 × List UInt8), (∀ x r, o = some (x, r) → sufQ r s) ∧ PR (Qh (lev : Int) (PS s d false)) d o ∧
  ∀ l : List UInt8, l.length ≤ 1000000000 → s <:+ l → RR l (Qs (lev : Int) (RS l s d false)) d o
def BothL (lev : Nat) (x : X3) (s : List UInt8) (d : Int) : Prop := ∃ o : Option (X3 × List UInt8), (∀ y r, o = some (y, r) → sufQ r s) ∧ PR (PL lev (PS s d false) x.t) d o ∧
  ∀ l : List UInt8, l.length ≤ 1000000000 → s <:+ l → RR l (RL lev (RS l s d false) x.t) d o
theorem sg_pos {k : Nat} (hk : 5 ≤ k ∧ k ≤ 11) : 1 ≤ (sg k).length := by
  obtain ⟨c, t, e, _⟩ := QiA hk
  rw [e]; simp
theorem bothL {lev : Nat} (h5 : lev < 5) {d : Int} : ∀ (n : Nat) (s : List UInt8), s.length ≤ n → (∀ s' : List UInt8, s'.length < s.length → BothT (lev + 1) s' d) → ∀ x : X3, BothL lev x s d := by
  intro n
  induction n with
  | zero =>
    intro s hs _ x
    have : s = [] := List.eq_nil_of_length_eq_zero (by omega)
    subst this
    have hk : kindS (lv lev) (dropB []) = none := (QeX h5 []).2
    refine ⟨some (x, []), fun y r e => by cases e; exact sufQ.refl _, ?_, fun l hl hs => ?_⟩
    · have := QfJ h5 hk d x.t; exact this
    · have := RL_eq hl h5 [] hs d x.t
      rw [hk] at this; exact this
  | succ n ih =>
    intro s hs hT x
    have hds := Gt s
    have hdl := Qn4 s
    cases hk : kindS (lv lev) (dropB s) with
    | none =>
      refine ⟨some (x, dropB s), fun y r e => by cases e; exact Qbv s, QfJ h5 hk d x.t, fun l hl hs => ?_⟩
      have := RL_eq hl h5 s hs d x.t
      rw [hk] at this; exact this
    | some k =>
      have hk5 := lv_ok (List.mem_of_find?_eq_some hk)
      have hpre : pre (sg k) (dropB s) = true := by simpa using List.find?_some hk
      have hpl := (Qiz hpre).1
      have hsp := sg_pos hk5
      have hlt : ((dropB s).drop (sg k).length).length < s.length := by rw [List.length_drop]; omega
      obtain ⟨o1, a1, a2, a3⟩ := hT _ hlt
      have hsuf : (dropB s).drop (sg k).length <:+ s := (List.drop_suffix _ _).trans hds
      have hsq : sufQ ((dropB s).drop (sg k).length) s := (pre_q hpre (sg_34 hk5)).trans (Qbv s)
      have hP := PL_eq h5 s d x.t
      rw [hk] at hP
      simp only at hP
      cases o1 with
      | none =>
        obtain ⟨e, r, he⟩ := a2
        refine ⟨none, fun y r e => (nomatch e), ?_, fun l hl hs => ?_⟩
        · rw [hP, he]
          simp only [Option.bind_some, PL_bad]
          exact ⟨_, _, rfl⟩
        · obtain ⟨e', r', b, h1, h2, h3⟩ := a3 l hl (hsuf.trans hs)
          have hR := RL_eq hl h5 s hs d x.t
          rw [hk] at hR
          simp only at hR
          rw [hR, h1]
          simp only [Option.bind_some]
          rw [QpI hl h5 h2 h3]
          exact ⟨_, r', b, rfl, h2, h3⟩
      | some yr =>
        obtain ⟨y, r⟩ := yr
        have hrq := a1 y r rfl
        have hr := hrq.suf
        have hrl := hr.length_le
        obtain ⟨o2, b1, b2, b3⟩ := ih r (by omega) (fun s' h => hT s' (by omega)) (.bin k x y)
        refine ⟨o2, fun z r2 e => (b1 z r2 e).trans (hrq.trans hsq), ?_, fun l hl hs => ?_⟩
        · have a2 : Qh ((lev + 1 : Nat) : Int) (PS ((dropB s).drop (sg k).length) d false) = some (y.t, PS r d false) := a2
          rw [hP, a2]
          exact b2
        · have a3 : Qs ((lev + 1 : Nat) : Int) (RS l ((dropB s).drop (sg k).length) d false) = some (y.t, RS l r d false) := a3 l hl (hsuf.trans hs)
          have hR := RL_eq hl h5 s hs d x.t
          rw [hk] at hR
          simp only at hR
          rw [hR, a3]
          exact b3 l hl (hr.trans (hsuf.trans hs))
theorem bothT {s : List UInt8} {d : Int} (hO : BothO s d) (hS : ∀ (lev : Nat), lev ≤ 5 → ∀ s' : List UInt8, s'.length < s.length → BothT lev s' d) : ∀ (g lev : Nat), g + lev = 5 → BothT lev s d
  | 0, lev, hg => by
    obtain rfl : lev = 5 := by omega
    obtain ⟨o, h1, h2, h3⟩ := hO
    refine ⟨o, h1, ?_, fun l hl hs => ?_⟩
    · rw [show ((5 : Nat) : Int) = 5 from rfl, two5]; exact h2
    · rw [rtwo5]; exact h3 l hl hs
  | g + 1, lev, hg => by
    have h5 : lev < 5 := by omega
    obtain ⟨o1, a1, a2, a3⟩ := bothT hO hS g (lev + 1) (by omega)
    cases o1 with
    | none =>
      obtain ⟨e, r, he⟩ := a2
      refine ⟨none, fun y r e => (nomatch e), ?_, fun l hl hs => ?_⟩
      · rw [two_lt h5, he]
        simp only [Option.bind_some, PL_bad]
        exact ⟨_, _, rfl⟩
      · obtain ⟨e', r', b, h1, h2, h3⟩ := a3 l hl hs
        rw [QpH h5, h1]
        simp only [Option.bind_some]
        rw [QpI hl h5 h2 h3]
        exact ⟨_, r', b, rfl, h2, h3⟩
    | some xr =>
      obtain ⟨x, r⟩ := xr
      have hrq := a1 x r rfl
      have hr := hrq.suf
      have hrl := hr.length_le
      obtain ⟨o2, b1, b2, b3⟩ := bothL h5 (d := d) r.length r (Nat.le_refl _) (fun s' h => hS (lev + 1) (by omega) s' (by omega)) x
      refine ⟨o2, fun y r2 e => (b1 y r2 e).trans hrq, ?_, fun l hl hs => ?_⟩
      · have a2 : Qh ((lev + 1 : Nat) : Int) (PS s d false) = some (x.t, PS r d false) := a2
        rw [two_lt h5, a2]
        exact b2
      · have a3 : Qs ((lev + 1 : Nat) : Int) (RS l s d false) = some (x.t, RS l r d false) := a3 l hl hs
        rw [QpH h5, a3]
        exact b3 l hl (hr.trans hs)
theorem QkN {d : Int} (h : d ≥ 12) (b : Bool) (l s : List UInt8) : QS b (RS l s d false) = some (E0, RS l s d true) := by
  rw [QS.eq]; unfold W2
  simp only
  rw [decide_eq_true h]; rfl
theorem Qpj {l : List UInt8} (hl : l.length ≤ 1000000000) {d : Int} (h0 : 0 ≤ d) (h : d < 12) {s : List UInt8} (hs : s <:+ l) {o : Option (X3 × List UInt8)} (hsuf : ∀ x r, o = some (x, r) → r <:+ s) (ho : RR l (Qs 0 (RS l s (d + 1) false)) (d + 1) o) :
    RR l (QS true (RS l s d false)) d (o.bind fun xr => bif pre [41] (dropB xr.2) then some (xr.1, (dropB xr.2).drop 1) else none) := by
  rw [QS.eq]; unfold W2
  have c1 : decide (d ≥ 12) = false := decide_eq_false (by omega)
  have wd : w64 (d + 1 - 1) = d := by rw [w64_in (by omega) (by omega)]; omega
  simp only
  rw [c1, cond_false, cond_true, w64_in (n := d + 1) (by omega) (by omega)]
  cases o with
  | none =>
    obtain ⟨e, r, b, h1, h2, h3⟩ := ho
    have h1 : Qs 0 ⟨ba l, ((l.length - s.length : Nat) : Int), d + 1, false⟩ = some (e, RS l r (d + 1) b) := h1
    rw [h1, Option.bind_some, show h_29 = ba [41] from rfl, is_eq hl [41] (by simp) r h2 (d + 1) b]
    have hdr : dropB r <:+ l := (Gt r).trans h2
    cases hp : pre [41] (dropB r) with
    | true =>
      simp only [cond_true, Option.bind_some, Bool.not_true, cond_false, wd, Option.bind_none]
      refine ⟨_, (dropB r).drop 1, b, rfl, (List.drop_suffix _ _).trans hdr, ?_⟩
      rcases h3 with h3 | h3
      · exact .inl h3
      · exfalso
        obtain ⟨c, t, rfl, hc⟩ := h3
        rw [Qgr ⟨c, t, rfl, hc⟩] at hp
        have : c = 41 := by
          have := of_decide_eq_true (show decide ((c :: t).take 1 = [41]) = true from hp)
          simpa using this
        rw [this] at hc; cases hc
    | false =>
      simp only [cond_false, Option.bind_some, Bool.not_false, cond_true, wd, Option.bind_none]
      exact ⟨_, dropB r, true, rfl, hdr, .inl rfl⟩
  | some xr =>
    obtain ⟨x, r⟩ := xr
    have hr : r <:+ l := (hsuf x r rfl).trans hs
    have hdr : dropB r <:+ l := (Gt r).trans hr
    have h1 : Qs 0 ⟨ba l, ((l.length - s.length : Nat) : Int), d + 1, false⟩ = some (x.t, RS l r (d + 1) false) := ho
    rw [h1, Option.bind_some, show h_29 = ba [41] from rfl, is_eq hl [41] (by simp) r hr (d + 1) false]
    cases hp : pre [41] (dropB r) with
    | true =>
      simp only [cond_true, Option.bind_some, Bool.not_true, cond_false, wd, hp]
      rfl
    | false =>
      simp only [cond_false, Option.bind_some, Bool.not_false, cond_true, wd, hp]
      exact ⟨_, dropB r, true, rfl, hdr, .inl rfl⟩
theorem Qoa {l : List UInt8} {d : Int} (h0 : 0 ≤ d) (h : d < 12) {s : List UInt8} {o : Option (X3 × List UInt8)} (ho : RR l (QR (RS l s (d + 1) false)) (d + 1) o) :
    RR l (QS false (RS l s d false)) d (o.bind fun xr => some (.neg xr.1, xr.2)) := by
  rw [QS.eq]; unfold W2
  have c1 : decide (d ≥ 12) = false := decide_eq_false (by omega)
  have wd : w64 (d + 1 - 1) = d := by rw [w64_in (by omega) (by omega)]; omega
  simp only
  rw [c1, cond_false, cond_false, w64_in (n := d + 1) (by omega) (by omega)]
  cases o with
  | none =>
    obtain ⟨e, r, b, h1, h2, h3⟩ := ho
    have h1 : QR ⟨ba l, ((l.length - s.length : Nat) : Int), d + 1, false⟩ = some (e, RS l r (d + 1) b) := h1
    rw [h1, Option.bind_some]
    simp only [wd, Option.bind_none]
    exact ⟨_, r, b, rfl, h2, h3⟩
  | some xr =>
    obtain ⟨x, r⟩ := xr
    have h1 : QR ⟨ba l, ((l.length - s.length : Nat) : Int), d + 1, false⟩ = some (x.t, RS l r (d + 1) false) := ho
    rw [h1, Option.bind_some]
    simp only [wd, Option.bind_some]
    rfl
theorem Qme {l : List UInt8} (hl : l.length ≤ 1000000000) {s r : List UInt8} (hs : s <:+ l) (h : dropB s = 40 :: r) (d : Int) : QR (RS l s d false) = QS true (RS l r d false) := by
  rw [QR.eq]; unfold Xg
  simp only [cond_false]
  rw [show h_28 = ba [40] from rfl, is_eq hl [40] (by simp) s hs d false, h, show pre [40] (40 :: r) = true from by simp [pre]]
  simp only [cond_true, Option.bind_some]
  show (QS true (RS l r d false)).bind (fun q => some (q.1, q.2)) = _
  cases QS true (RS l r d false) <;> rfl
theorem QkO {l : List UInt8} (hl : l.length ≤ 1000000000) {s r : List UInt8} (hs : s <:+ l) (h : dropB s = 45 :: r) (d : Int) : QR (RS l s d false) = QS false (RS l r d false) := by
  have hs2 : (45 :: r) <:+ l := by rw [← h]; exact (Gt s).trans hs
  have hd : dropB (45 :: r) = 45 :: r := PT (by decide)
  rw [QR.eq]; unfold Xg
  simp only [cond_false]
  rw [show h_28 = ba [40] from rfl, is_eq hl [40] (by simp) s hs d false, h, show pre [40] (45 :: r) = false from by simp [pre]]
  simp only [cond_false, Option.bind_some]
  rw [show h_2d = ba [45] from rfl, is_eq hl [45] (by simp) _ hs2 d false, hd, show pre [45] (45 :: r) = true from by simp [pre]]
  simp only [cond_true, Option.bind_some]
  show (QS false (RS l r d false)).bind (fun q => some (q.1, q.2)) = _
  cases QS false (RS l r d false) <;> rfl
theorem Qsc {l : List UInt8} (hl : l.length ≤ 1000000000) {s r : List UInt8} (hs : s <:+ l) (h : dropB s = 46 :: r) (d : Int) : QR (RS l s d false) = some (X3.here.t, RS l r d false) := by
  have hs2 : (46 :: r) <:+ l := by rw [← h]; exact (Gt s).trans hs
  have hd : dropB (46 :: r) = 46 :: r := PT (by decide)
  rw [QR.eq]; unfold Xg
  simp only [cond_false]
  rw [show h_28 = ba [40] from rfl, is_eq hl [40] (by simp) s hs d false, h, show pre [40] (46 :: r) = false from by simp [pre]]
  simp only [cond_false, Option.bind_some]
  rw [show h_2d = ba [45] from rfl, is_eq hl [45] (by simp) _ hs2 d false, hd, show pre [45] (46 :: r) = false from by simp [pre]]
  simp only [cond_false, Option.bind_some]
  rw [show h_2e = ba [46] from rfl, is_eq hl [46] (by simp) _ hs2 d false, hd, show pre [46] (46 :: r) = true from by simp [pre]]
  rfl
theorem Qmf {base : Nat} {h r : List UInt8} {x : X3} {r' : List UInt8} (e : tailA base h r = some (x, r')) : r' = r := by
  unfold tailA at e
  split at e
  · split at e
    · cases e; rfl
    · cases e
  · cases e
theorem tw_q {p : UInt8 → Bool} (t : List UInt8) (hp : p 34 = false) : sufQ (t.dropWhile p) t := dw_q hp t
theorem QsZ {t : List UInt8} {x : X3} {r : List UInt8} (e : atomS t = some (x, r)) : sufQ r t := by
  unfold atomS at e
  cases h1 : pre [48, 120] t && !decide ((t.drop 2).takeWhile isH = []) with
  | true =>
    rw [h1, cond_true] at e
    rw [Qmf e]
    simp only [Bool.and_eq_true] at h1
    exact (tw_q _ (by decide)).trans (pre_q (a := [48, 120]) h1.1 (by decide))
  | false =>
    rw [h1, cond_false] at e
    cases h2 : !decide (t.takeWhile isD = []) with
    | true =>
      rw [h2, cond_true] at e
      rw [Qmf e]; exact tw_q _ (by decide)
    | false =>
      rw [h2, cond_false] at e
      cases h3 : wordB (t.takeWhile isI) with
      | true => rw [h3, cond_true] at e; cases e; exact tw_q _ (by decide)
      | false => rw [h3, cond_false] at e; cases e
theorem Qsd : ∀ (n : Nat) (s : List UInt8), s.length ≤ n → ∀ d : Int, 0 ≤ d → d ≤ 12 → BothO s d ∧ ∀ lev, lev ≤ 5 → BothT lev s d := by
  intro n
  induction n using Nat.strongRecOn with
  | _ n ih =>
    intro s hs d h0 h12
    have hO : BothO s d := by
      have hds := Gt s
      have hdl := Qn4 s
      by_cases h40 : ∃ r, dropB s = 40 :: r
      · obtain ⟨r, hr⟩ := h40
        have hrl : r.length < s.length := by rw [hr] at hdl; simp at hdl; omega
        have hrs : r <:+ s := by rw [hr] at hds; exact (List.suffix_cons 40 r).trans hds
        have hrq : sufQ r s := (sufQ.of (a := [40]) hr (by decide)).trans (Qbv s)
        by_cases hd : d ≥ 12
        · refine ⟨none, fun x r e => (nomatch e), ?_, fun l hl hsl => ?_⟩
          · rw [QjP hr, (QkL hd r).1]; exact ⟨_, _, rfl⟩
          · rw [Qme hl hsl hr, QkN hd]; exact ⟨_, r, true, rfl, hrs.trans hsl, .inl rfl⟩
        · obtain ⟨o, a1, a2, a3⟩ := (ih r.length (by omega) r (Nat.le_refl _) (d + 1) (by omega) (by omega)).2 0 (by omega)
          refine ⟨o.bind fun xr => bif pre [41] (dropB xr.2) then some (xr.1, (dropB xr.2).drop 1) else none, ?_, ?_, fun l hl hsl => ?_⟩
          · intro x r2 e
            cases o with
            | none => cases e
            | some yr =>
              obtain ⟨y, r3⟩ := yr
              simp only [Option.bind_some] at e
              cases hp : pre [41] (dropB r3) with
              | true =>
                rw [hp, cond_true] at e; cases e
                exact (pre_q (a := [41]) hp (by decide)).trans ((Qbv r3).trans ((a1 _ r3 rfl).trans hrq))
              | false => rw [hp, cond_false] at e; cases e
          · rw [QjP hr]; exact Qmb h0 (by omega) r a2
          · rw [Qme hl hsl hr]; exact Qpj hl h0 (by omega) (hrs.trans hsl) (fun x r e => (a1 x r e).suf) (a3 l hl (hrs.trans hsl))
      · by_cases h45 : ∃ r, dropB s = 45 :: r
        · obtain ⟨r, hr⟩ := h45
          have hrl : r.length < s.length := by rw [hr] at hdl; simp at hdl; omega
          have hrs : r <:+ s := by rw [hr] at hds; exact (List.suffix_cons 45 r).trans hds
          have hrq : sufQ r s := (sufQ.of (a := [45]) hr (by decide)).trans (Qbv s)
          by_cases hd : d ≥ 12
          · refine ⟨none, fun x r e => (nomatch e), ?_, fun l hl hsl => ?_⟩
            · rw [Qin hr, (QkL hd r).2]; exact ⟨_, _, rfl⟩
            · rw [QkO hl hsl hr, QkN hd]; exact ⟨_, r, true, rfl, hrs.trans hsl, .inl rfl⟩
          · obtain ⟨o, a1, a2, a3⟩ := (ih r.length (by omega) r (Nat.le_refl _) (d + 1) (by omega) (by omega)).1
            refine ⟨o.bind fun xr => some (.neg xr.1, xr.2), ?_, ?_, fun l hl hsl => ?_⟩
            · intro x r2 e
              cases o with
              | none => cases e
              | some yr => cases e; exact (a1 _ _ rfl).trans hrq
            · rw [Qin hr]; exact Qn6 h0 (by omega) r a2
            · rw [QkO hl hsl hr]; exact Qoa h0 (by omega) (a3 l hl (hrs.trans hsl))
        · by_cases h46 : ∃ r, dropB s = 46 :: r
          · obtain ⟨r, hr⟩ := h46
            have hrs : r <:+ s := by rw [hr] at hds; exact (List.suffix_cons 46 r).trans hds
            exact ⟨some (.here, r), fun x r2 e => by cases e; exact (sufQ.of (a := [46]) hr (by decide)).trans (Qbv s), QpF hr d, fun l hl hsl => Qsc hl hsl hr d⟩
          · have n1 : ∀ r, dropB s ≠ 40 :: r := fun r e => h40 ⟨r, e⟩
            have n2 : ∀ r, dropB s ≠ 45 :: r := fun r e => h45 ⟨r, e⟩
            have n3 : ∀ r, dropB s ≠ 46 :: r := fun r e => h46 ⟨r, e⟩
            exact ⟨atomS (dropB s), fun x r e => (QsZ e).trans (Qbv s), QjQ rfl n1 n2 n3 d, fun l hl hsl => ratom hl hsl rfl n1 n2 n3 d⟩
    refine ⟨hO, fun lev hlev => bothT hO (fun lev' h' s' hs' => (ih s'.length (by omega) s' (Nat.le_refl _) d h0 h12).2 lev' h') (5 - lev) lev (by omega)⟩
theorem Qpk (s : List UInt8) (hs : s.length ≤ 1000000000) : ∃ e b, Vg (ba s) = some (e, b) ∧ Qbr (ba s) = some (e, b) ∧ ((∃ x : X3, e = x.t) ∨ e = E0) := by
  obtain ⟨o, a1, a2, a3⟩ := (Qsd s.length s (Nat.le_refl _) 0 (by omega) (by omega)).2 0 (by omega)
  have hP := Qn7 s (o := o) a2
  have hR := a3 s hs (List.suffix_refl s)
  have h0 : (RS s s 0 false) = ⟨ba s, 0, 0, false⟩ := by simp
  have step : Qbr (ba s) = Qc9 Qs U6 (ba s) := Qbr.eq _
  unfold Qc9 at step
  cases o with
  | none =>
    obtain ⟨e, r, b, h1, h2, h3⟩ := hR
    have h1 : Qs 0 ⟨ba s, 0, 0, false⟩ = some (e, RS s r 0 b) := by rw [← h0]; exact h1
    refine ⟨E0, false, hP, ?_, .inr rfl⟩
    rw [step, h1, Option.bind_some, QiE hs 0 b r h2, Option.bind_some]
    cases b with
    | true => rfl
    | false =>
      have h3 : stuck r := by rcases h3 with h | h; cases h; exact h
      obtain ⟨c, t, e, hc⟩ := id h3
      have hrl := h2.length_le
      simp only [cond_false]
      rw [Qgr h3]
      have c1 : decide (((s.length - r.length : Nat) : Int) < (((ba s).size : Nat) : Int)) = true := decide_eq_true (by rw [QF]; subst e; simp only [List.length_cons] at hrl ⊢; omega)
      rw [c1]; rfl
  | some xr =>
    obtain ⟨x, r⟩ := xr
    have h2 := (a1 x r rfl).suf
    have h1 : Qs 0 ⟨ba s, 0, 0, false⟩ = some (x.t, RS s r 0 false) := by rw [← h0]; exact hR
    simp only at hP
    have hdl := ((Gt r).trans h2).length_le
    by_cases hd : dropB r = []
    · rw [if_pos hd] at hP
      refine ⟨x.t, true, hP, ?_, .inl ⟨x, rfl⟩⟩
      rw [step, h1, Option.bind_some, QiE hs 0 false r h2, Option.bind_some, hd]
      simp only [cond_false]
      have c1 : decide (((s.length - ([] : List UInt8).length : Nat) : Int) < (((ba s).size : Nat) : Int)) = false := decide_eq_false (by rw [QF]; simp)
      rw [c1]; rfl
    · rw [if_neg hd] at hP
      refine ⟨E0, false, hP, ?_, .inr rfl⟩
      rw [step, h1, Option.bind_some, QiE hs 0 false r h2, Option.bind_some]
      simp only [cond_false]
      have : 0 < (dropB r).length := List.length_pos_iff.2 hd
      have c1 : decide (((s.length - (dropB r).length : Nat) : Int) < (((ba s).size : Nat) : Int)) = true := decide_eq_true (by rw [QF]; omega)
      rw [c1]; rfl
end Go.Ab
namespace Go.Ab
theorem QcE (c : UInt8) : JS (c.toNat : Int) = some (isD c) := by
  rw [JS.eq]; unfold Qag
  have c1 : decide ((c.toNat : Int) ≥ 48) = decide (48 ≤ c.toNat) := decide_eq_decide.2 (by omega)
  have c2 : decide ((c.toNat : Int) ≤ 57) = decide (c.toNat ≤ 57) := decide_eq_decide.2 (by omega)
  unfold isD
  rw [c1, c2, Bool.decide_and]
  cases decide (48 ≤ c.toNat) <;> rfl
theorem QmS (c : UInt8) : VN (c.toNat : Int) = some (isI c) := by
  rw [VN.eq]; unfold GE
  have c1 : decide ((c.toNat : Int) ≥ 97) = decide (97 ≤ c.toNat) := decide_eq_decide.2 (by omega)
  have c2 : decide ((c.toNat : Int) ≤ 122) = decide (c.toNat ≤ 122) := decide_eq_decide.2 (by omega)
  have c3 : ((c.toNat : Int) == 95) = decide (c.toNat = 95) := by rw [Bool.eq_iff_iff, beq_iff_eq, decide_eq_true_iff]; omega
  rw [c1, c2, c3, QcE, Qiy]
  unfold isS
  rw [Bool.decide_or, Bool.decide_and]
  cases decide (97 ≤ c.toNat) <;> cases decide (c.toNat ≤ 122) <;> cases decide (c.toNat = 95) <;> rfl
theorem QgO (s : List UInt8) (hs : s.length ≤ 1000000000) : US (ba s) = some ((s.takeWhile isI).length : Int) := by
  obtain ⟨r, h1, h2⟩ := Ez U7.eq (fun a => ∃ i : Nat, i ≤ s.length ∧ a = ⟨ba s, i⟩ ∧ (s.take i).all isI = true) (fun _ r => r = ((s.takeWhile isI).length : Int)) (fun a => s.length - a.x5.toNat) (by
    rintro a ⟨i, hi, rfl, ha⟩
    simp only [YA, QF]
    by_cases h : i < s.length
    · have c1 : decide ((i : Int) < (s.length : Int)) = true := decide_eq_true (by omega)
      have c2 : decide (0 ≤ (i : Int) ∧ (i : Int) < (s.length : Int)) = true := decide_eq_true (by omega)
      have hg : (ba s).data.getD (Int.toNat (i : Int)) 0 = s[i] := by rw [Fg, Int.toNat_natCast]; simp [h]
      rw [c1, cond_true, c2, cond_true, hg, QmS]
      simp only [Option.bind_some]
      cases hq : isI s[i] with
      | true =>
        rw [cond_true, w64_in (by omega) (by omega)]
        exact .inl ⟨⟨ba s, (i : Int) + 1⟩, rfl, ⟨i + 1, by omega, rfl, Z4 h ha hq⟩, by simp only; omega, fun r hr => hr⟩
      | false =>
        refine .inr ⟨_, by rw [cond_false], ?_⟩
        rw [UZ s i hi ha (fun _ => hq), List.length_take, Nat.min_eq_left hi]
    · have c1 : decide ((i : Int) < (s.length : Int)) = false := decide_eq_false (by omega)
      refine .inr ⟨_, by rw [c1]; rfl, ?_⟩
      rw [UZ s i hi ha (fun h' => absurd h' h), List.length_take, Nat.min_eq_left hi]) ⟨ba s, 0⟩ ⟨0, by omega, rfl, by simp⟩
  rw [US.eq]; unfold GF
  rw [h1, h2]; rfl
theorem Qa3 (s : List UInt8) (hs : s.length ≤ 1000000000) : Ua (ba s) = some ((s.takeWhile isD).length : Int) := by
  obtain ⟨r, h1, h2⟩ := Ez Uq.eq (fun a => ∃ i : Nat, i ≤ s.length ∧ a = ⟨ba s, i⟩ ∧ (s.take i).all isD = true) (fun _ r => r = ((s.takeWhile isD).length : Int)) (fun a => s.length - a.x5.toNat) (by
    rintro a ⟨i, hi, rfl, ha⟩
    simp only [XQ, QF]
    by_cases h : i < s.length
    · have c1 : decide ((i : Int) < (s.length : Int)) = true := decide_eq_true (by omega)
      have c2 : decide (0 ≤ (i : Int) ∧ (i : Int) < (s.length : Int)) = true := decide_eq_true (by omega)
      have hg : (ba s).data.getD (Int.toNat (i : Int)) 0 = s[i] := by rw [Fg, Int.toNat_natCast]; simp [h]
      rw [c1, cond_true, c2, cond_true, hg, QcE]
      simp only [Option.bind_some]
      cases hq : isD s[i] with
      | true =>
        rw [cond_true, w64_in (by omega) (by omega)]
        exact .inl ⟨⟨ba s, (i : Int) + 1⟩, rfl, ⟨i + 1, by omega, rfl, Z4 h ha hq⟩, by simp only; omega, fun r hr => hr⟩
      | false =>
        refine .inr ⟨_, by rw [cond_false], ?_⟩
        rw [UZ s i hi ha (fun _ => hq), List.length_take, Nat.min_eq_left hi]
    · have c1 : decide ((i : Int) < (s.length : Int)) = false := decide_eq_false (by omega)
      refine .inr ⟨_, by rw [c1]; rfl, ?_⟩
      rw [UZ s i hi ha (fun h' => absurd h' h), List.length_take, Nat.min_eq_left hi]) ⟨ba s, 0⟩ ⟨0, by omega, rfl, by simp⟩
  rw [Ua.eq]; unfold Ze
  rw [h1, h2]; rfl
theorem tw_len {p : UInt8 → Bool} (s : List UInt8) : (((s.takeWhile p).length : Int) != (s.length : Int)) = !decide (s.takeWhile p = s) := by
  rw [Bool.eq_iff_iff, bne_iff_ne, Bool.not_eq_true', decide_eq_false_iff_not]
  constructor
  · intro h e; rw [e] at h; exact h rfl
  · intro h e; exact h ((List.takeWhile_prefix p).eq_of_length (by omega))
theorem Qip (w : List UInt8) (hl : w.length ≤ 1000000000) : Vm (ba w) = some (wordB w) := by
  rw [Vm.eq]; unfold EA
  rw [show s_ = ba [] from rfl, eqS_ba]
  cases w with
  | nil => rfl
  | cons c t =>
    have hl' : t.length ≤ 1000000000 := by simp only [List.length_cons] at hl; omega
    have e1 : ((c :: t).take (Int.toNat (((c :: t).length : Nat) : Int))).drop (Int.toNat 1) = t := by rw [Int.toNat_natCast, List.take_length]; rfl
    simp only [QF, Fg, UJ]
    rw [e1]
    have c0 : decide (c :: t = []) = false := by simp
    have c2 : decide (0 ≤ (0 : Int) ∧ (0 : Int) < (((c :: t).length : Nat) : Int)) = true := decide_eq_true (by simp only [List.length_cons]; omega)
    have c3 : decide (0 ≤ (1 : Int) ∧ (1 : Int) ≤ (((c :: t).length : Nat) : Int) ∧ (((c :: t).length : Nat) : Int) ≤ (((c :: t).length : Nat) : Int)) = true := decide_eq_true (by simp only [List.length_cons]; omega)
    have cg : (c :: t).getD (Int.toNat 0) 0 = c := rfl
    rw [c0, cond_false, c2, cond_true, cg, QcE, c3, cond_true, QgO _ hl, Qa3 _ hl']
    simp only [Option.bind_some]
    have c1 : decide ((((c :: t).length : Nat) : Int) > 12) = !decide (t.length < 12) := by
      by_cases h : t.length < 12
      · rw [decide_eq_true h, decide_eq_false (by simp only [List.length_cons]; omega)]; rfl
      · rw [decide_eq_false h, decide_eq_true (by simp only [List.length_cons]; omega)]; rfl
    have c5 : ((c.toNat : Int) != 114) = decide (c ≠ 114) := by
      rw [Bool.eq_iff_iff, bne_iff_ne, decide_eq_true_iff]
      have : (114 : UInt8).toNat = 114 := rfl
      constructor
      · intro h e; subst e; exact h rfl
      · intro h e; exact h (UInt8.toNat_inj.1 (by omega))
    have c6 : ((((c :: t).length : Nat) : Int) == 1) = decide (t = []) := by
      rw [Bool.eq_iff_iff, beq_iff_eq, decide_eq_true_iff]
      cases t <;> simp <;> omega
    have c7 : (((t.takeWhile isD).length : Int) != w64 ((((c :: t).length : Nat) : Int) - 1)) = !decide (t.takeWhile isD = t) := by
      have e : (((c :: t).length : Nat) : Int) - 1 = (t.length : Int) := by simp only [List.length_cons]; omega
      rw [e, w64_in (by omega) (by omega)]
      exact tw_len t
    rw [c1, tw_len, c5, c6, c7]
    have hw : wordB (c :: t) = (decide (t.length < 12) && (!isD c && (decide ((c :: t).takeWhile isI = c :: t) && (decide (c ≠ 114) || (decide (t = []) || !decide (t.takeWhile isD = t)))))) := rfl
    rw [hw]
    cases decide (t.length < 12) <;> cases isD c <;> cases decide ((c :: t).takeWhile isI = c :: t) <;> cases decide (c ≠ 114) <;> cases decide (t = []) <;> rfl
end Go.Ab
namespace Go.Ab
def isW (c : UInt8) : Bool := decide (c.toNat = 32 ∨ c.toNat = 9)
def trimR (s : List UInt8) : List UInt8 := (s.reverse.dropWhile isW).reverse
def trimW (s : List UInt8) : List UInt8 := (trimR s).dropWhile isW
theorem u8_eq {c : UInt8} {n : Nat} (hn : n < 256) : ((c.toNat : Int) == (n : Int)) = decide (c = UInt8.ofNat n) := by
  rw [Bool.eq_iff_iff, beq_iff_eq, decide_eq_true_iff]
  have : (UInt8.ofNat n).toNat = n := by simp; omega
  constructor
  · intro h; exact UInt8.toNat_inj.1 (by omega)
  · rintro rfl; omega
theorem ba_at (s : List UInt8) {i : Nat} (h : i < s.length) : (ba s).data.getD (Int.toNat (i : Int)) 0 = s[i] := by rw [Fg, Int.toNat_natCast]; simp [h]
theorem ba_cut (s : List UInt8) (i j : Nat) : (ba s).extract (Int.toNat (i : Int)) (Int.toNat (j : Int)) = ba ((s.take j).drop i) := by rw [UJ, Int.toNat_natCast, Int.toNat_natCast]
theorem isW_eq (c : UInt8) : isW c = (((c.toNat : Int) == 32) || ((c.toNat : Int) == 9)) := by
  unfold isW
  rw [Bool.decide_or]
  congr 1 <;> (rw [Bool.eq_iff_iff, beq_iff_eq, decide_eq_true_iff]; omega)
theorem isW_c (c : UInt8) : ([32, 9] : List UInt8).contains c = isW c := by
  rw [Bool.eq_iff_iff]
  unfold isW
  rw [decide_eq_true_iff]
  simp only [List.contains_cons, List.contains_nil, Bool.or_false, Bool.or_eq_true, beq_iff_eq]
  constructor
  · rintro (rfl | rfl) <;> decide
  · rintro (h | h)
    · exact .inl (UInt8.toNat_inj.1 h)
    · exact .inr (UInt8.toNat_inj.1 h)
theorem QkP (c : UInt8) (t : List UInt8) : trimR (c :: t) = if trimR t = [] then (if isW c then [] else [c]) else c :: trimR t := by
  unfold trimR
  rw [List.reverse_cons, List.dropWhile_append]
  cases h : t.reverse.dropWhile isW with
  | nil =>
    simp only [List.isEmpty_nil, if_true, List.reverse_nil]
    cases hc : isW c <;> simp [List.dropWhile_cons, hc]
  | cons a l => simp
theorem QkQ (s : List UInt8) : trimR (s.dropWhile isW) = trimW s := by
  unfold trimW
  induction s with
  | nil => rfl
  | cons c t ih =>
    rw [QkP]
    cases hc : isW c with
    | true =>
      rw [List.dropWhile_cons_of_pos hc, ih]
      by_cases h : trimR t = []
      · rw [if_pos h, h]; simp
      · rw [if_neg h, List.dropWhile_cons_of_pos hc]
    | false =>
      rw [List.dropWhile_cons_of_neg (by simp [hc]), QkP, hc]
      by_cases h : trimR t = []
      · rw [if_pos h]; simp [List.dropWhile_cons, hc]
      · rw [if_neg h, List.dropWhile_cons_of_neg (by simp [hc])]
theorem Qrv (s : List UInt8) : (trimR s).length ≤ s.length := by
  unfold trimR
  rw [List.length_reverse]
  have := (List.dropWhile_sublist isW (l := s.reverse)).length_le
  rwa [List.length_reverse] at this
theorem Qes (s : List UInt8) : (trimW s).length ≤ s.length := by
  have h1 := (List.dropWhile_sublist isW (l := trimR s)).length_le
  have h2 := Qrv s
  unfold trimW; omega
theorem QfK (s : List UInt8) (hs : s.length ≤ 1000000000) : QY (ba s) Xe = some (ba (trimW s)) := by
  show trimS2 (ba s) Xe = _
  unfold trimS2
  rw [if_pos ⟨by rw [QF]; omega, rfl⟩]
  have e : (ba s).data.toList = s := by rw [ba]
  rw [e]
  unfold Lib.trimS Lib.trimLeftS Lib.trimRightS trimW trimR
  have e2 : (fun x => ([32, 9] : List UInt8).contains x) = isW := funext isW_c
  rw [e2]; rfl
def bareQ : Bool → List UInt8 → List UInt8
  | _, [] => []
  | q, c :: t => bif decide (c = 35) && !q then [] else c :: bareQ (bif decide (c = 34) then !q else q) t
theorem Qmg : ∀ (q : Bool) (s : List UInt8), (bareQ q s).length ≤ s.length
  | q, [] => Nat.le_refl _
  | q, c :: t => by
    unfold bareQ
    cases decide (c = 35) && !q with
    | true => simp
    | false => simp only [cond_false, List.length_cons]; have := Qmg (bif decide (c = 34) then !q else q) t; omega
theorem Qmh (s : List UInt8) (hs : s.length ≤ 1000000000) : ∀ (g i : Nat) (q : Bool), g + i = s.length → Uu ⟨ba s, q, i⟩ = some (ba (trimW (s.take i ++ bareQ q (s.drop i))))
  | 0, i, q, hg => by
    rw [Uu.eq]; unfold Yj
    have c1 : ((i : Int) == (((ba s).size : Nat) : Int)) = true := by rw [QF, beq_iff_eq]; omega
    have c2 : decide (0 ≤ (0 : Int) ∧ (0 : Int) ≤ (i : Int) ∧ (i : Int) ≤ (((ba s).size : Nat) : Int)) = true := decide_eq_true (by rw [QF]; omega)
    have he : (ba s).extract (Int.toNat 0) (Int.toNat (i : Int)) = ba (s.take i) := by rw [UJ, Int.toNat_natCast]; rfl
    simp only
    rw [c1, cond_true, c2, cond_true, he, QfK _ (by rw [List.length_take]; omega), List.drop_eq_nil_of_le (by omega)]
    simp [bareQ]
  | g + 1, i, q, hg => by
    have hi : i < s.length := by omega
    rw [Uu.eq]; unfold Yj
    have c1 : ((i : Int) == (((ba s).size : Nat) : Int)) = false := by rw [QF, beq_eq_false_iff_ne]; omega
    have c2 : decide (0 ≤ (0 : Int) ∧ (0 : Int) ≤ (i : Int) ∧ (i : Int) ≤ (((ba s).size : Nat) : Int)) = true := decide_eq_true (by rw [QF]; omega)
    have c3 : decide (0 ≤ (i : Int) ∧ (i : Int) < (((ba s).size : Nat) : Int)) = true := decide_eq_true (by rw [QF]; omega)
    have he : (ba s).extract (Int.toNat 0) (Int.toNat (i : Int)) = ba (s.take i) := by rw [UJ, Int.toNat_natCast]; rfl
    have h35 : (((s[i].toNat : Nat) : Int) == 35) = decide (s[i] = 35) := u8_eq (n := 35) (by decide)
    have h34 : (((s[i].toNat : Nat) : Int) == 34) = decide (s[i] = 34) := u8_eq (n := 34) (by decide)
    simp only
    rw [c1, cond_false, c2, cond_true, c3, cond_true, he, ba_at s hi, QfK _ (by rw [List.length_take]; omega), h35, h34, w64_in (by omega) (by omega)]
    have hd : s.drop i = s[i] :: s.drop (i + 1) := List.drop_eq_getElem_cons hi
    have ht : s.take (i + 1) = s.take i ++ [s[i]] := List.take_succ_eq_append_getElem hi
    have rcx := fun q' => Qmh s hs g (i + 1) q' (by omega)
    have step : ∀ q', Uu ⟨ba s, q', (i : Int) + 1⟩ = some (ba (trimW (s.take i ++ s[i] :: bareQ q' (s.drop (i + 1))))) := by
      intro q'
      have := rcx q'
      rw [ht] at this
      rw [← List.append_cons] at this
      exact this
    rw [hd]
    unfold bareQ
    cases h1 : decide (s[i] = 35) with
    | true =>
      have n34 : decide (s[i] = 34) = false := by have := of_decide_eq_true h1; rw [this]; decide
      rw [n34]
      cases q with
      | true => exact step true
      | false => simp
    | false =>
      cases h2 : decide (s[i] = 34) with
      | true => simp only [cond_true, cond_false, Option.bind_some, Sum.elim_inl, Bool.false_and]; exact step (!q)
      | false => simp only [cond_true, cond_false, Option.bind_some, Sum.elim_inl, Bool.false_and]; exact step q
theorem Qs0 (s : List UInt8) (hs : s.length ≤ 1000000000) : WX (ba s) = some (ba (trimW (bareQ false s))) := by
  rw [WX.eq]; unfold EB
  have := Qmh s hs s.length 0 false (by omega)
  have : Uu ⟨ba s, false, 0⟩ = _ := this
  rw [this]; simp
end Go.Ab
