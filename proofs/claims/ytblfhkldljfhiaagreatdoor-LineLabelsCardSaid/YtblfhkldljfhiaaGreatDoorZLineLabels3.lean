/- LineLabels: part 3 of the proof that, whatever the input, the law returns true and the input reads as it did; its conditions are those of the given row. -/
import Derived.Test.YtblfhkldljfhiaaGreatDoorZLineLabels2
import Derived.Shelf.Strings.SlTrimAscii
import Derived.Tactics
import Derived.WalkLawsBesides
import Derived.RowKit3
import Derived.Laws.BitsLemmas
import Derived.Test.YtblfhkldljfhiaaGreatDoorSh
import Derived.Test.YtblfhkldljfhiaaGreatDoorRows
import Derived.LaidMore
import Derived.MakeChecks
import Derived.Lib.AppendIntMem
import Derived.Shelf.Vars
import Derived.WalkKit
import Derived.Deep.LoopGhost
import Derived.Lib.Walk
import Derived.Lib.SliceRun
set_option linter.unusedVariables false
set_option linter.unusedSimpArgs false
namespace Go.Ab
open Go.Proofs
theorem Ur.ok {a : QR} {r : Jj} (h : Ur a = some r) : lw 1 237 (loopAt pp 237 2) (Vn a) = some (Wy r) := by
 refine lpP h QeV fun a => ?_
 exact ⟨rfl, fun q0 => Qi 8 (q0) (⟨rfl, fun q1 => Qi 2 (q0) (⟨rfl, fun q2 => Qi 8 (q2) (⟨q1, ⟨q2, ⟨q0, ⟨q2, ⟨q0, ⟨rfl, fun q3 => Qi 11 (q3) (⟨q0, ⟨q3, ⟨q0, Qi 10 (rfl) (⟨q0, ⟨rfl, ⟨q0, ⟨rfl, rfl⟩⟩⟩⟩)⟩⟩⟩), fun q3 => noN_ok 8 (q3) (⟨q1, noN_ok 2 (q3) (⟨rfl, fun q4 => Qi 8 (q4) (⟨q1, ⟨q4, ⟨q3, ⟨q4, ⟨q0, ⟨q3, ⟨q0, ⟨rfl, fun q5 => Qi 9 (q5) (⟨q0, ⟨q5, ⟨q0, ⟨rfl, rfl⟩⟩⟩⟩), fun q5 => noN_ok 8 (q5) (⟨q1, ⟨q5, ⟨q0, ⟨q5, ⟨q0, ⟨rfl, fun q6 => rfl, fun q6 => rfl⟩⟩⟩⟩⟩⟩)⟩⟩⟩⟩⟩⟩⟩⟩), fun q4 => noN_ok 9 (q4) (⟨q3, ⟨q4, ⟨q0, ⟨q3, ⟨q0, noN_ok 9 (rfl) (⟨q1, ⟨rfl, ⟨q0, ⟨rfl, ⟨q0, ⟨rfl, fun q5 => rfl, fun q5 => rfl⟩⟩⟩⟩⟩⟩)⟩⟩⟩⟩⟩)⟩)⟩)⟩⟩⟩⟩⟩⟩), fun q2 => noN_ok 9 (q2) (⟨q0, ⟨q2, ⟨q0, noN_ok 9 (rfl) (⟨q1, noN_ok 2 (rfl) (⟨rfl, fun q3 => Qi 8 (q3) (⟨q1, ⟨q3, ⟨rfl, ⟨q3, ⟨q0, ⟨rfl, ⟨q0, ⟨rfl, fun q4 => Qi 9 (q4) (⟨q0, ⟨q4, ⟨q0, ⟨rfl, rfl⟩⟩⟩⟩), fun q4 => noN_ok 8 (q4) (⟨q1, ⟨q4, ⟨q0, ⟨q4, ⟨q0, ⟨rfl, fun q5 => rfl, fun q5 => rfl⟩⟩⟩⟩⟩⟩)⟩⟩⟩⟩⟩⟩⟩⟩), fun q3 => noN_ok 9 (q3) (⟨rfl, ⟨q3, ⟨q0, ⟨rfl, ⟨q0, noN_ok 9 (rfl) (⟨q1, ⟨rfl, ⟨q0, ⟨rfl, ⟨q0, ⟨rfl, fun q4 => rfl, fun q4 => rfl⟩⟩⟩⟩⟩⟩)⟩⟩⟩⟩⟩)⟩)⟩)⟩⟩⟩)⟩), fun q1 => trivial⟩), fun q0 => noN_ok 16 (q0) (⟨rfl, rfl⟩)⟩
def EL (C0 : Qh4) (L1 : Sr) (h0 : Qf) : Option (Qa × Qf) := ((L1 (QR.mk h0.P h0 (Qa.mk (0 : Int) (0 : Int) s_ ([] : List Qa)))).bind (fun (o1 : Jj) => (bif (decide (0 ≤ o1.x3 ∧ o1.x3 ≤ o1.h0.P ∧ o1.h0.P ≤ ((o1.h0.S.size : Nat) : Int))) then ((C0 (o1.h0.S.extract (Int.toNat o1.x3) (Int.toNat o1.h0.P))).bind fun r2 => (bif (!r2) then (some ((Qa.mk (2 : Int) (0 : Int) (o1.h0.S.extract (Int.toNat o1.x3) (Int.toNat o1.h0.P)) ([] : List Qa)), (Qf.mk o1.h0.S o1.h0.P o1.h0.Deep true))) else (some ((Qa.mk (2 : Int) (0 : Int) (o1.h0.S.extract (Int.toNat o1.x3) (Int.toNat o1.h0.P)) ([] : List Qa)), o1.h0)))) else none)))
noncomputable def Vv : Gj := EL YA Ur
theorem Vv.eq (h0 : Qf) : Vv h0 = EL YA Ur h0 := rfl
noncomputable def Qig (h0 : Qf) : Tr (Qa × Qf) AH := (QeU (QR.mk h0.P h0 (Qa.mk i0 i0 s_ ([] : List Qa))) (fun o1 => (let u119 := (in2 o1.x3 o1.h0.P (zz o1.h0.S)); .as u119 (QkL (cu o1.h0.S o1.x3 o1.h0.P) fun r2 => (.as (!r2) (.yes u119 (rt QE ((Qa.mk (zi 2) i0 (cu o1.h0.S o1.x3 o1.h0.P) ([] : List Qa)), (Qf.mk o1.h0.S o1.h0.P o1.h0.Deep true)))) (.yes u119 (rt QE ((Qa.mk (zi 2) i0 (cu o1.h0.S o1.x3 o1.h0.P) ([] : List Qa)), o1.h0))))) .fail)))
theorem Vv.ok {h0 : Qf} {r : (Qa × Qf)} (h : Vv h0 = some r) : ww 237 [.ptr 0 0] [(0, .box [] (Je h0))] = some (QE r) := by
 refine fnP (Qig h0) ?_ h
 exact fun o1 h => ⟨Ur.ok h, ⟨rfl, fun q0 => fun r2 h => ⟨YA.ok h, ⟨rfl, fun q1 => ⟨q0, rfl⟩, fun q1 => ⟨q0, rfl⟩⟩⟩, fun q0 => trivial⟩⟩
noncomputable abbrev Qbd {ρ R : Type} (h0 : Qf) (k : (Qa × Qf) → Tr ρ R) : Tr ρ R := .call (ww 237 [.ptr 0 0] [(0, .box [] (Je h0))]) (Vv h0) QE k
def Zh (r : (ByteArray × Int)) : AV × Heap := (.tup [xs r.1, xi r.2], [])
abbrev Qbe := Int → Option (ByteArray × Int)
def QfZ (a0 : Int) : Option (ByteArray × Int) := (bif (a0 == 5) then (some (h_2b, (3 : Int))) else (bif (a0 == 6) then (some (h_2d, (3 : Int))) else (bif (a0 == 7) then (some (h_2a, (4 : Int))) else (bif (a0 == 8) then (some (h_26, (1 : Int))) else (bif (a0 == 9) then (some (h_7c, (0 : Int))) else (bif (a0 == 10) then (some (Qay, (2 : Int))) else (some (Qaz, (2 : Int)))))))))
noncomputable def YF : Qbe := QfZ
theorem YF.eq (a0 : Int) : YF a0 = QfZ a0 := rfl
noncomputable def QqD (a0 : Int) : Tr (ByteArray × Int) AH := (.as (a0 == 5) (rt Zh (h_2b, (zi 3))) (.as (a0 == 6) (rt Zh (h_2d, (zi 3))) (.as (a0 == 7) (rt Zh (h_2a, (zi 4))) (.as (a0 == 8) (rt Zh (h_26, (zi 1))) (.as (a0 == 9) (rt Zh (h_7c, i0)) (.as (a0 == 10) (rt Zh (Qay, (zi 2))) (rt Zh (Qaz, (zi 2)))))))))
theorem YF.ok {a0 : Int} {r : (ByteArray × Int)} (h : YF a0 = some r) : ww 104 [xi a0] [] = some (Zh r) := by
 refine fnP (QqD a0) ?_ h
 exact ⟨rfl, fun q0 => rfl, fun q0 => ⟨rfl, fun q1 => rfl, fun q1 => ⟨rfl, fun q2 => rfl, fun q2 => ⟨rfl, fun q3 => rfl, fun q3 => ⟨rfl, fun q4 => rfl, fun q4 => ⟨rfl, fun q5 => rfl, fun q5 => rfl⟩⟩⟩⟩⟩⟩
noncomputable abbrev QkT {ρ R : Type} (a0 : Int) (k : (ByteArray × Int) → Tr ρ R) : Tr ρ R := .call (ww 104 [xi a0] []) (YF a0) Zh k
def Z2 (r : (Int × Qf)) : AV × Heap := (xi r.1, [(0, .box [] (Je r.2))])
abbrev Gk := Int → Qf → Option (Int × Qf)
structure Jo where
 x1 : Int
 x5 : Int
 h0 : Qf
structure UK where
 x4 : Int
 h0 : Qf
def XK (a : Jo) : St := { n := 33, nx := 1, env := [(0, .ptr 0 0), (1, xi a.x1), (5, xi a.x5)], heap := [(0, .box [] (Je a.h0))] }
def FP (a : UK) : Ex × St := (.ret, { n := 33, nx := 1, env := [(4, xi a.x4)], heap := [(0, .box [] (Je a.h0))] })
def FQ (a : Qf) : Ex × St := (.exit 0, { n := 33, nx := 1, env := [], heap := [(0, .box [] (Je a))] })
def Gh (a : (UK ⊕ Qf)) : Ex × St := Sum.elim FP FQ a
abbrev Ss := Jo → Option (UK ⊕ Qf)
def XL (C0 : Qbe) (C1 : XE) (a : Jo) : Option (Jo ⊕ (UK ⊕ Qf)) := (bif (decide (a.x5 ≤ 11)) then ((C0 a.x5).bind fun r1 => (bif (r1.2 == a.x1) then (bif (!a.h0.Bad) then ((C1 r1.1 a.h0).bind fun r2 => (bif r2.1 then (some (.inr (.inl (UK.mk a.x5 r2.2)))) else (some (.inl (Jo.mk a.x1 (w64 (a.x5 + 1)) r2.2))))) else (some (.inl (Jo.mk a.x1 (w64 (a.x5 + 1)) a.h0)))) else (some (.inl (Jo.mk a.x1 (w64 (a.x5 + 1)) a.h0))))) else (some (.inr (.inr a.h0))))
noncomputable def Q8 : Ss := loopW (XL YF Uj)
theorem Q8.eq (a : Jo) : Q8 a = (XL YF Uj a).bind (Sum.elim Q8 some) := Jk _ _
noncomputable abbrev QeW {ρ R : Type} (a : Jo) (k0 : UK → Tr ρ R) (k1 : Qf → Tr ρ R) : Tr ρ R := .loop2 (loopAt pp 207 2) (XK a) (Q8 a) FP FQ k0 k1
noncomputable def QeX (a : Jo) : Tr (Jo ⊕ (UK ⊕ Qf)) XS := (.as (decide (a.x5 ≤ 11)) (QkT a.x5 fun r1 => (let u121 := (r1.2 == a.x1); .as u121 (yesN 5 u121 (let u120 := (!a.h0.Bad); .as u120 (yesN 2 u120 (YE r1.1 a.h0 fun r2 => (.yes u120 (.as r2.1 (rx Gh (.inl (UK.mk a.x5 r2.2))) (lf XK (Jo.mk a.x1 (w64 (a.x5 + 1)) r2.2)))))) (noN 3 u120 (.no false (lf XK (Jo.mk a.x1 (w64 (a.x5 + 1)) a.h0)))))) (noN 5 u121 (noN 5 false (lf XK (Jo.mk a.x1 (w64 (a.x5 + 1)) a.h0)))))) (rx Gh (.inr a.h0)))
theorem Q8.ok {a : Jo} {r : (UK ⊕ Qf)} (h : Q8 a = some r) : lw 1 207 (loopAt pp 207 2) (XK a) = some (Gh r) := by
 refine lpP h QeX fun a => ?_
 exact ⟨rfl, fun q0 => fun r1 h => ⟨YF.ok h, ⟨rfl, fun q1 => Qi 5 (q1) (⟨rfl, fun q2 => Qi 2 (q2) (fun r2 h => ⟨Uj.ok h, ⟨q2, ⟨rfl, fun q3 => rfl, fun q3 => rfl⟩⟩⟩), fun q2 => noN_ok 3 (q2) (⟨rfl, rfl⟩)⟩), fun q1 => noN_ok 5 (q1) (noN_ok 5 (rfl) (rfl))⟩⟩, fun q0 => rfl⟩
def Z3 (L0 : Ss) (a1 : Int) (h0 : Qf) : Option (Int × Qf) := ((L0 (Jo.mk a1 (5 : Int) h0)).bind fun x => Sum.elim (fun (o1 : UK) => (some (o1.x4, o1.h0))) (fun (o2 : Qf) => (some ((0 : Int), o2))) x)
noncomputable def Vc : Gk := Z3 Q8
theorem Vc.eq (a1 : Int) (h0 : Qf) : Vc a1 h0 = Z3 Q8 a1 h0 := rfl
noncomputable def Qih (a1 : Int) (h0 : Qf) : Tr (Int × Qf) AH := (QeW (Jo.mk a1 (zi 5) h0) (fun o1 => (rt Z2 (o1.x4, o1.h0))) (fun o2 => (rt Z2 (i0, o2))))
theorem Vc.ok {a1 : Int} {h0 : Qf} {r : (Int × Qf)} (h : Vc a1 h0 = some r) : ww 207 [.ptr 0 0, xi a1] [(0, .box [] (Je h0))] = some (Z2 r) := by
 refine fnP (Qih a1 h0) ?_ h
 exact ⟨fun o1 h => ⟨Q8.ok (r := (.inl _)) h, rfl⟩, fun o2 h => ⟨Q8.ok (r := (.inr _)) h, rfl⟩⟩
noncomputable abbrev Qii {ρ R : Type} (a1 : Int) (h0 : Qf) (k : (Int × Qf) → Tr ρ R) : Tr ρ R := .call (ww 207 [.ptr 0 0, xi a1] [(0, .box [] (Je h0))]) (Vc a1 h0) Z2 k
abbrev XU := Bool → Qf → Option (Qa × Qf)
abbrev Qij (c : XU) : Prop := ∀ (a1 : Bool) (h0 : Qf) (r : (Qa × Qf)), c a1 h0 = some r → ww 234 [.ptr 0 0, xo a1] [(0, .box [] (Je h0))] = some (QE r)
abbrev Wt := Qf → Option (Qa × Qf)
abbrev Qkd (c : Wt) : Prop := ∀ (h0 : Qf) (r : (Qa × Qf)), c h0 = some r → ww 206 [.ptr 0 0] [(0, .box [] (Je h0))] = some (QE r)
abbrev Ju := Int → Qf → Option (Qa × Qf)
abbrev Qc6 (c : Ju) : Prop := ∀ (a1 : Int) (h0 : Qf) (r : (Qa × Qf)), c a1 h0 = some r → ww 159 [.ptr 0 0, xi a1] [(0, .box [] (Je h0))] = some (QE r)
noncomputable abbrev SV {ρ R : Type} (c : XU) (a1 : Bool) (h0 : Qf) (k : (Qa × Qf) → Tr ρ R) : Tr ρ R := .call (ww 234 [.ptr 0 0, xo a1] [(0, .box [] (Je h0))]) (c a1 h0) QE k
noncomputable abbrev QbL {ρ R : Type} (c : Wt) (h0 : Qf) (k : (Qa × Qf) → Tr ρ R) : Tr ρ R := .call (ww 206 [.ptr 0 0] [(0, .box [] (Je h0))]) (c h0) QE k
noncomputable abbrev Gl {ρ R : Type} (c : Ju) (a1 : Int) (h0 : Qf) (k : (Qa × Qf) → Tr ρ R) : Tr ρ R := .call (ww 159 [.ptr 0 0, xi a1] [(0, .box [] (Je h0))]) (c a1 h0) QE k
def Ww (C0 : Ju) (C1 : XE) (C2 : Wt) (a1 : Bool) (h0 : Qf) : Option (Qa × Qf) := (bif (decide (h0.Deep ≥ 12)) then (some ((Qa.mk (0 : Int) (0 : Int) s_ ([] : List Qa)), (Qf.mk h0.S h0.P h0.Deep true))) else (bif a1 then ((C0 (0 : Int) (Qf.mk h0.S h0.P (w64 (h0.Deep + 1)) h0.Bad)).bind fun r1 => ((C1 h_29 r1.2).bind fun r2 => (bif (!r2.1) then (some (r1.1, (Qf.mk r2.2.S r2.2.P (w64 (r2.2.Deep - 1)) true))) else (some (r1.1, (Qf.mk r2.2.S r2.2.P (w64 (r2.2.Deep - 1)) r2.2.Bad)))))) else ((C2 (Qf.mk h0.S h0.P (w64 (h0.Deep + 1)) h0.Bad)).bind fun r3 => (some ((Qa.mk (4 : Int) (0 : Int) s_ [r3.1]), (Qf.mk r3.2.S r3.2.P (w64 (r3.2.Deep - 1)) r3.2.Bad))))))
theorem SW {C0 : Nat → Ju} {D0 : Ju} (H0 : Cv2 C0 D0) {C1 : Nat → XE} {D1 : XE} (H1 : Cv2 C1 D1) {C2 : Nat → Wt} {D2 : Wt} (H2 : Cv1 C2 D2) (a1 : Bool) (h0 : Qf) : Cv (fun k => Ww (C0 k) (C1 k) (C2 k) a1 h0) (Ww D0 D1 D2 a1 h0) := by
 unfold Ww
 exact .cond cst (.cond (.bind (H0 _ _) fun r1 => .bind (H1 _ _) fun r2 => by exact .const _) (.bind (H2 _) fun r3 => by exact .const _))
noncomputable def Qg3 (C0 : Ju) (C1 : Wt) (a1 : Bool) (h0 : Qf) : Tr (Qa × Qf) AH := (.as (decide (h0.Deep ≥ 12)) (rt QE ((Qa.mk i0 i0 s_ ([] : List Qa)), (Qf.mk h0.S h0.P h0.Deep true))) (.as a1 (Gl C0 i0 (Qf.mk h0.S h0.P (w64 (h0.Deep + 1)) h0.Bad) fun r1 => (YE h_29 r1.2 fun r2 => (.as (!r2.1) (rt QE (r1.1, (Qf.mk r2.2.S r2.2.P (w64 (r2.2.Deep - 1)) true))) (rt QE (r1.1, (Qf.mk r2.2.S r2.2.P (w64 (r2.2.Deep - 1)) r2.2.Bad)))))) (QbL C1 (Qf.mk h0.S h0.P (w64 (h0.Deep + 1)) h0.Bad) fun r3 => (.rows [[xi r3.1.Kind, xi r3.1.N, xs r3.1.Name, .sl (QN r3.1.L)]] (QN [r3.1]) (rt QE ((Qa.mk (zi 4) i0 s_ [r3.1]), (Qf.mk r3.2.S r3.2.P (w64 (r3.2.Deep - 1)) r3.2.Bad)))))))
def WA (C0 : XE) (C1 : XU) (C2 : Zy) (C3 : So) (C4 : Gj) (h0 : Qf) : Option (Qa × Qf) := (bif h0.Bad then (some ((Qa.mk (0 : Int) (0 : Int) s_ ([] : List Qa)), h0)) else ((C0 h_28 h0).bind fun r1 => (bif r1.1 then ((C1 true r1.2).bind fun r2 => (some (r2.1, r2.2))) else ((C0 h_2d r1.2).bind fun r3 => (bif r3.1 then ((C1 false r3.2).bind fun r4 => (some (r4.1, r4.2))) else ((C0 h_2e r3.2).bind fun r5 => (bif r5.1 then (some ((Qa.mk (3 : Int) (0 : Int) s_ ([] : List Qa)), r5.2)) else ((C0 s_0x r5.2).bind fun r6 => (bif r6.1 then ((C2 (16 : Int) r6.2).bind fun r7 => (some (r7.1, r7.2))) else (bif (decide (r6.2.P < ((r6.2.S.size : Nat) : Int))) then (bif (decide (0 ≤ r6.2.P ∧ r6.2.P < ((r6.2.S.size : Nat) : Int))) then ((C3 ((r6.2.S.data.getD (Int.toNat r6.2.P) 0).toNat : Int) (10 : Int)).bind fun r8 => (bif (decide (r8 ≥ 0)) then ((C2 (10 : Int) r6.2).bind fun r9 => (some (r9.1, r9.2))) else ((C4 r6.2).bind fun r10 => (some (r10.1, r10.2))))) else none) else ((C4 r6.2).bind fun r11 => (some (r11.1, r11.2)))))))))))))
theorem QbM {C0 : Nat → XE} {D0 : XE} (H0 : Cv2 C0 D0) {C1 : Nat → XU} {D1 : XU} (H1 : Cv2 C1 D1) {C2 : Nat → Zy} {D2 : Zy} (H2 : Cv2 C2 D2) {C3 : Nat → So} {D3 : So} (H3 : Cv2 C3 D3) {C4 : Nat → Gj} {D4 : Gj} (H4 : Cv1 C4 D4) (h0 : Qf) : Cv (fun k => WA (C0 k) (C1 k) (C2 k) (C3 k) (C4 k) h0) (WA D0 D1 D2 D3 D4 h0) := by
 unfold WA
 exact .cond cst (.bind (H0 _ _) fun r1 => .cond (.bind (H1 _ _) fun r2 => by exact .const _) (.bind (H0 _ _) fun r3 => .cond (.bind (H1 _ _) fun r4 => by exact .const _) (.bind (H0 _ _) fun r5 => .cond cst (.bind (H0 _ _) fun r6 => .cond (.bind (H2 _ _) fun r7 => by exact .const _) (.cond (.cond (.bind (H3 _ _) fun r8 => .cond (.bind (H2 _ _) fun r9 => by exact .const _) (.bind (H4 _) fun r10 => by exact .const _)) cst) (.bind (H4 _) fun r11 => by exact .const _))))))
noncomputable def Qjl (C0 : XU) (h0 : Qf) : Tr (Qa × Qf) AH := (.as h0.Bad (rt QE ((Qa.mk i0 i0 s_ ([] : List Qa)), h0)) (YE h_28 h0 fun r1 => (.as r1.1 (SV C0 true r1.2 fun r2 => (rt QE (r2.1, r2.2))) (YE h_2d r1.2 fun r3 => (.as r3.1 (SV C0 false r3.2 fun r4 => (rt QE (r4.1, r4.2))) (YE h_2e r3.2 fun r5 => (.as r5.1 (rt QE ((Qa.mk (zi 3) i0 s_ ([] : List Qa)), r5.2)) (YE s_0x r5.2 fun r6 => (.as r6.1 (Sq (zi 16) r6.2 fun r7 => (rt QE (r7.1, r7.2))) (let u122 := (decide (r6.2.P < (zz r6.2.S))); .as u122 (yesN 8 u122 (.as (in1 r6.2.P (zz r6.2.S)) (.yes u122 (QdH (gb r6.2.S r6.2.P) (zi 10) fun r8 => (yesN 2 u122 (.as (decide (r8 ≥ 0)) (Sq (zi 10) r6.2 fun r9 => (rt QE (r9.1, r9.2))) (Qbd r6.2 fun r10 => (rt QE (r10.1, r10.2))))))) .fail)) (noN 11 u122 (.no false (Qbd r6.2 fun r11 => (rt QE (r11.1, r11.2)))))))))))))))
structure JB where
 x1 : Int
 h0 : Qf
 h1 : Qa
 h2 : Qa
structure Vo where
 h0 : Qf
 h1 : Qa
def GI (a : JB) : St := { n := 29, nx := 3, env := [(0, .ptr 0 0), (1, xi a.x1), (4, .ptr 1 0), (5, .ptr 2 0)], heap := [(0, .box [] (Je a.h0)), (1, .box [] (Q3 a.h1)), (2, .box [] (Q3 a.h2))] }
def GJ (a : Vo) : Ex × St := (.ret, { n := 29, nx := 2, env := [(4, .ptr 1 0)], heap := [(0, .box [] (Je a.h0)), (1, .box [] (Q3 a.h1))] })
abbrev Wx := JB → Option Vo
def Wc (C0 : Gk) (C1 : Ju) (a : JB) : Option (JB ⊕ Vo) := ((C0 a.x1 a.h0).bind fun r1 => (bif (r1.1 == 0) then (some (.inr (Vo.mk r1.2 a.h2))) else ((C1 (w64 (a.x1 + 1)) r1.2).bind fun r2 => (some (.inl (JB.mk a.x1 r2.2 a.h1 (Qa.mk r1.1 (0 : Int) s_ [a.h2, r2.1])))))))
theorem Su {C0 : Nat → Gk} {D0 : Gk} (H0 : Cv2 C0 D0) {C1 : Nat → Ju} {D1 : Ju} (H1 : Cv2 C1 D1) (a : JB) : Cv (fun k => Wc (C0 k) (C1 k) a) (Wc D0 D1 a) := by
 unfold Wc
 exact .bind (H0 _ _) fun r1 => .cond cst (.bind (H1 _ _) fun r2 => by exact .const _)
noncomputable abbrev Qf0 {ρ R : Type} (l : Wx) (a : JB) (k0 : Vo → Tr ρ R) : Tr ρ R := .loop (loopAt pp 159 4) (GI a) (l a) GJ k0
noncomputable def Qf1 (C0 : Ju) (a : JB) : Tr (JB ⊕ Vo) XS := (Qii a.x1 a.h0 fun r1 => (.as (r1.1 == 0) (rx GJ (Vo.mk r1.2 a.h2)) (Gl C0 (w64 (a.x1 + 1)) r1.2 fun r2 => (.rows [[xi a.h2.Kind, xi a.h2.N, xs a.h2.Name, .sl (QN a.h2.L)], [xi r2.1.Kind, xi r2.1.N, xs r2.1.Name, .sl (QN r2.1.L)]] (QN [a.h2, r2.1]) (lf GI (JB.mk a.x1 r2.2 a.h1 (Qa.mk r1.1 i0 s_ [a.h2, r2.1])))))))
noncomputable def Jl.s (k : Nat) (C0 : Ju) : Wx := iter (Wc Vc C0) k
theorem QeY (k : Nat) {C0 : Ju} (i_r3_reader_two : Qc6 C0) {a : JB} {r : Vo} (h : Jl.s k C0 a = some r) : lw 1 159 (loopAt pp 159 4) (GI a) = some (GJ r) := by
 refine lpP (itP h) (Qf1 C0) fun a => ?_
 exact fun r1 h => ⟨Vc.ok h, ⟨rfl, fun q0 => rfl, fun q0 => fun r2 h => ⟨i_r3_reader_two _ _ _ h, ⟨(Xh [a.h2, r2.1]), rfl⟩⟩⟩⟩
theorem Jl.m {j k : Nat} (hj : j ≤ k) (C0 : Ju) (D0 : Ju) (H0 : Le2 C0 D0) (a : JB) : Le (Jl.s j C0 a) (Jl.s k D0 a) := Le.iter (fun a => (Su ks2 (tw2 H0) a).1 0) hj a
noncomputable def Jl.w (C0 : Ju) : Wx := loopW (Wc Vc C0)
theorem Jl.cv (C0 : Nat → Ju) (D0 : Ju) (H0 : Cv2 C0 D0) (a : JB) : Cv (fun k => Jl.s k (C0 k) a) (Jl.w D0 a) := Cv.iter (fun a => Su ks2 H0 a) a
def Xw (C0 : Wt) (C1 : Ju) (L2 : Wx) (a1 : Int) (h0 : Qf) : Option (Qa × Qf) := (bif (decide (a1 > 4)) then ((C0 h0).bind fun r1 => (some (r1.1, r1.2))) else ((C1 (w64 (a1 + 1)) h0).bind fun r2 => ((L2 (JB.mk a1 r2.2 (Qa.mk (0 : Int) (0 : Int) s_ ([] : List Qa)) r2.1)).bind (fun (o3 : Vo) => (some (o3.h1, o3.h0))))))
theorem QbN {C0 : Nat → Wt} {D0 : Wt} (H0 : Cv1 C0 D0) {C1 : Nat → Ju} {D1 : Ju} (H1 : Cv2 C1 D1) {L2 : Nat → Wx} {M2 : Wx} (N2 : Cv1 L2 M2) (a1 : Int) (h0 : Qf) : Cv (fun k => Xw (C0 k) (C1 k) (L2 k) a1 h0) (Xw D0 D1 M2 a1 h0) := by
 unfold Xw
 exact .cond (.bind (H0 _) fun r1 => by exact .const _) (.bind (H1 _ _) fun r2 => .bind (N2 _) (fun o3 => by exact .const _))
noncomputable def Qjm (C0 : Wt) (C1 : Ju) (L2 : Wx) (a1 : Int) (h0 : Qf) : Tr (Qa × Qf) AH := (.as (decide (a1 > 4)) (QbL C0 h0 fun r1 => (rt QE (r1.1, r1.2))) (Gl C1 (w64 (a1 + 1)) h0 fun r2 => (Qf0 L2 (JB.mk a1 r2.2 (Qa.mk i0 i0 s_ ([] : List Qa)) r2.1) (fun o3 => (rt QE (o3.h1, o3.h0))))))
mutual
noncomputable def Q4.s : Nat → Bool → Qf → Option (Qa × Qf)
 | 0, _, _ => none
 | k + 1, a1, h0 => Ww (fun a1 h0 => Qw.s k a1 h0) Uj (fun h0 => QZ.s k h0) a1 h0
termination_by structural k => k
noncomputable def QZ.s : Nat → Qf → Option (Qa × Qf)
 | 0, _ => none
 | k + 1, h0 => WA Uj (fun a1 h0 => Q4.s k a1 h0) J4 VL Vv h0
termination_by structural k => k
noncomputable def Qw.s : Nat → Int → Qf → Option (Qa × Qf)
 | 0, _, _ => none
 | k + 1, a1, h0 => Xw (fun h0 => QZ.s k h0) (fun a1 h0 => Qw.s k a1 h0) (Jl.s k (fun a1 h0 => Qw.s k a1 h0)) a1 h0
termination_by structural k => k
end
theorem Pb : ∀ (k : Nat), (Qij (Q4.s k)) ∧ (Qkd (QZ.s k)) ∧ (Qc6 (Qw.s k))
 | 0 => ⟨fun _ _ _ h => (nomatch h), fun _ _ h => (nomatch h), fun _ _ _ h => (nomatch h)⟩
 | k + 1 => by
  obtain ⟨i_r3_reader_inner, i_r3_reader_one, i_r3_reader_two⟩ := Pb k
  exact ⟨fun a1 h0 r h => by
    refine fnP (Qg3 (Qw.s k) (QZ.s k) a1 h0) ?_ h
    exact ⟨rfl, fun q0 => rfl, fun q0 => ⟨rfl, fun q1 => fun r1 h => ⟨i_r3_reader_two _ _ _ h, fun r2 h => ⟨Uj.ok h, ⟨rfl, fun q2 => rfl, fun q2 => rfl⟩⟩⟩, fun q1 => fun r3 h => ⟨i_r3_reader_one _ _ h, ⟨(Xh [r3.1]), rfl⟩⟩⟩⟩,
   fun h0 r h => by
    refine fnP (Qjl (Q4.s k) h0) ?_ h
    exact ⟨rfl, fun q0 => rfl, fun q0 => fun r1 h => ⟨Uj.ok h, ⟨rfl, fun q1 => fun r2 h => ⟨i_r3_reader_inner _ _ _ h, rfl⟩, fun q1 => fun r3 h => ⟨Uj.ok h, ⟨rfl, fun q2 => fun r4 h => ⟨i_r3_reader_inner _ _ _ h, rfl⟩, fun q2 => fun r5 h => ⟨Uj.ok h, ⟨rfl, fun q3 => rfl, fun q3 => fun r6 h => ⟨Uj.ok h, ⟨rfl, fun q4 => fun r7 h => ⟨J4.ok h, rfl⟩, fun q4 => ⟨rfl, fun q5 => Qi 8 (q5) (⟨rfl, fun q6 => ⟨q5, fun r8 h => ⟨VL.ok h, Qi 2 (q5) (⟨rfl, fun q7 => fun r9 h => ⟨J4.ok h, rfl⟩, fun q7 => fun r10 h => ⟨Vv.ok h, rfl⟩⟩)⟩⟩, fun q6 => trivial⟩), fun q5 => noN_ok 11 (q5) (⟨rfl, fun r11 h => ⟨Vv.ok h, rfl⟩⟩)⟩⟩⟩⟩⟩⟩⟩⟩⟩⟩,
   fun a1 h0 r h => by
    refine fnP (Qjm (QZ.s k) (Qw.s k) (Jl.s k (Qw.s k)) a1 h0) ?_ h
    exact ⟨rfl, fun q0 => fun r1 h => ⟨i_r3_reader_one _ _ h, rfl⟩, fun q0 => fun r2 h => ⟨i_r3_reader_two _ _ _ h, fun o3 h => ⟨QeY k i_r3_reader_two h, rfl⟩⟩⟩⟩
theorem Yo : ∀ (k : Nat), (∀ (a1 : Bool) (h0 : Qf), Le (Q4.s k a1 h0) (Q4.s (k + 1) a1 h0)) ∧ (∀ (h0 : Qf), Le (QZ.s k h0) (QZ.s (k + 1) h0)) ∧ (∀ (a1 : Int) (h0 : Qf), Le (Qw.s k a1 h0) (Qw.s (k + 1) a1 h0))
 | 0 => ⟨fun _ _ _ h => (nomatch h), fun _ _ h => (nomatch h), fun _ _ _ h => (nomatch h)⟩
 | k + 1 => by
  obtain ⟨i_r3_reader_inner, i_r3_reader_one, i_r3_reader_two⟩ := Yo k
  exact ⟨fun a1 h0 => (SW (tw2 i_r3_reader_two) ks2 (tw1 i_r3_reader_one) a1 h0).1 0,
   fun h0 => (QbM ks2 (tw2 i_r3_reader_inner) ks2 ks2 ks1 h0).1 0,
   fun a1 h0 => (QbN (tw1 i_r3_reader_one) (tw2 i_r3_reader_two) (tw1 (Jl.m (Nat.le_succ k) (Qw.s k) (Qw.s (k + 1)) i_r3_reader_two)) a1 h0).1 0⟩
noncomputable def Q4 (a1 : Bool) (h0 : Qf) : Option (Qa × Qf) := lim fun k => Q4.s k a1 h0
theorem Q4.cv (a1 : Bool) (h0 : Qf) : Cv (fun k => Q4.s k a1 h0) (Q4 a1 h0) := .lim fun k => (Yo k).1 a1 h0
noncomputable def QZ (h0 : Qf) : Option (Qa × Qf) := lim fun k => QZ.s k h0
theorem QZ.cv (h0 : Qf) : Cv (fun k => QZ.s k h0) (QZ h0) := .lim fun k => (Yo k).2.1 h0
noncomputable def Qw (a1 : Int) (h0 : Qf) : Option (Qa × Qf) := lim fun k => Qw.s k a1 h0
theorem Qw.cv (a1 : Int) (h0 : Qf) : Cv (fun k => Qw.s k a1 h0) (Qw a1 h0) := .lim fun k => (Yo k).2.2 a1 h0
theorem Qw.ok {a1 : Int} {h0 : Qf} {r : (Qa × Qf)} (h : Qw a1 h0 = some r) : ww 159 [.ptr 0 0, xi a1] [(0, .box [] (Je h0))] = some (QE r) := let ⟨k, e⟩ := ((Qw.cv a1 h0).2 r).1 h; (Pb k).2.2 a1 h0 _ e
noncomputable def Jl : Wx := Jl.w Qw
theorem Jl.eq (a : JB) : Jl a = (Wc Vc Qw a).bind (Sum.elim Jl some) := Jk _ _
theorem Q4.eq (a1 : Bool) (h0 : Qf) : Q4 a1 h0 = Ww Qw Uj QZ a1 h0 := Cv.uniq (Q4.cv a1 h0).shift (SW Qw.cv ks2 QZ.cv a1 h0)
theorem QZ.eq (h0 : Qf) : QZ h0 = WA Uj Q4 J4 VL Vv h0 := Cv.uniq (QZ.cv h0).shift (QbM ks2 Q4.cv ks2 ks2 ks1 h0)
theorem Qw.eq (a1 : Int) (h0 : Qf) : Qw a1 h0 = Xw QZ Qw Jl a1 h0 := Cv.uniq (Qw.cv a1 h0).shift (QbN QZ.cv Qw.cv (Jl.cv (fun k => Qw.s k) Qw Qw.cv) a1 h0)
noncomputable abbrev Qjn {ρ R : Type} (a1 : Int) (h0 : Qf) (k : (Qa × Qf) → Tr ρ R) : Tr ρ R := Gl Qw a1 h0 k
abbrev Qf2 := ByteArray → Option (Qa × Bool)
def Qad (C0 : Ju) (C1 : FM) (a0 : ByteArray) : Option (Qa × Bool) := ((C0 (0 : Int) (Qf.mk a0 (0 : Int) (0 : Int) false)).bind fun r1 => ((C1 r1.2).bind fun r2 => (bif r2.Bad then (some ((Qa.mk (0 : Int) (0 : Int) s_ ([] : List Qa)), false)) else (bif (decide (r2.P < ((a0.size : Nat) : Int))) then (some ((Qa.mk (0 : Int) (0 : Int) s_ ([] : List Qa)), false)) else (some (r1.1, true))))))
noncomputable def WG : Qf2 := Qad Qw US
theorem WG.eq (a0 : ByteArray) : WG a0 = Qad Qw US a0 := rfl
noncomputable def QpP (a0 : ByteArray) : Tr (Qa × Bool) AH := (Qjn i0 (Qf.mk a0 i0 i0 false) fun r1 => (Qbc r1.2 fun r2 => (.as r2.Bad (yesN 7 r2.Bad (.yes true (rt W5 ((Qa.mk i0 i0 s_ ([] : List Qa)), false)))) (noN 7 r2.Bad (.as (decide (r2.P < (zz a0))) (rt W5 ((Qa.mk i0 i0 s_ ([] : List Qa)), false)) (rt W5 (r1.1, true)))))))
theorem WG.ok {a0 : ByteArray} {r : (Qa × Bool)} (h : WG a0 = some r) : ww 107 [xs a0] [] = some (W5 r) := by
 refine fnP (QpP a0) ?_ h
 exact fun r1 h => ⟨Qw.ok h, fun r2 h => ⟨US.ok h, ⟨rfl, fun q0 => Qi 7 (q0) (⟨rfl, rfl⟩), fun q0 => noN_ok 7 (q0) (⟨rfl, fun q1 => rfl, fun q1 => rfl⟩)⟩⟩⟩
noncomputable abbrev QdI {ρ R : Type} (a0 : ByteArray) (k : (Qa × Bool) → Tr ρ R) : Tr ρ R := .call (ww 107 [xs a0] []) (WG a0) W5 k
def Xm (r : Qc) : AV × Heap := (.agg (WV r), [])
abbrev Qer := QJ → ByteArray → Int → Option Qc
def GX (C0 : QfX) (C1 : QhA) (C2 : Fs) (C3 : QgG) (C4 : Qac) (C5 : Xv) (C6 : Qf2) (a0 : QJ) (a1 : ByteArray) (a2 : Int) : Option Qc := ((C0 a1).bind fun r1 => (bif r1 then ((C1 a1 a2).bind fun r2 => (some (Qc.mk r2 (Qa.mk (0 : Int) (0 : Int) s_ ([] : List Qa))))) else ((C2 a2 (5 : Int)).bind fun r3 => (bif (r3 == 0) then (bif (decide ((((a0.E.length) : Nat) : Int) > 0)) then ((C3 a0.E).bind fun r4 => (some (Qc.mk (-1 : Int) r4))) else (bif (decide (0 ≤ (0 : Int) ∧ (0 : Int) < ((a1.size : Nat) : Int))) then (bif (((a1.data.getD (Int.toNat 0) 0).toNat : Int) == 84) then ((C4).bind fun r5 => ((C2 a2 (4 : Int)).bind fun r6 => (bif (decide (0 ≤ r6)) then ((r5[(Int.toNat r6)]?).bind fun e7 => (some (Qc.mk (-1 : Int) (Qa.mk (2 : Int) (0 : Int) e7 ([] : List Qa))))) else none))) else ((C1 a1 a2).bind fun r8 => ((C5 r8).bind fun r9 => ((C6 r9).bind fun r10 => (some (Qc.mk (-1 : Int) r10.1)))))) else none)) else (bif (decide (0 ≤ (0 : Int) ∧ (0 : Int) < ((a1.size : Nat) : Int))) then (bif (((a1.data.getD (Int.toNat 0) 0).toNat : Int) == 84) then ((C4).bind fun r11 => ((C2 a2 (4 : Int)).bind fun r12 => (bif (decide (0 ≤ r12)) then ((r11[(Int.toNat r12)]?).bind fun e13 => (some (Qc.mk (-1 : Int) (Qa.mk (2 : Int) (0 : Int) e13 ([] : List Qa))))) else none))) else ((C1 a1 a2).bind fun r14 => ((C5 r14).bind fun r15 => ((C6 r15).bind fun r16 => (some (Qc.mk (-1 : Int) r16.1)))))) else none)))))
noncomputable def VZ : Qer := GX WL Wk QO XJ JA Jn WG
theorem VZ.eq (a0 : QJ) (a1 : ByteArray) (a2 : Int) : VZ a0 a1 a2 = GX WL Wk QO XJ JA Jn WG a0 a1 a2 := rfl
noncomputable def Qke (a0 : QJ) (a1 : ByteArray) (a2 : Int) : Tr Qc AH := (QlJ a1 fun r1 => (.as r1 (Qbb a1 a2 fun r2 => (rt Xm (Qc.mk r2 (Qa.mk i0 i0 s_ ([] : List Qa))))) (Jf a2 (zi 5) fun r3 => (let u123 := (r3 == 0); .as u123 (yesN 2 u123 (.num ((UW a0.E).length) (a0.E.length) (yesN 2 u123 (.as (decide ((((a0.E.length) : Nat) : Int) > 0)) (Qie a0.E fun r4 => (rt Xm (Qc.mk (-1 : Int) r4))) (.as (in1 i0 (zz a1)) (.as ((gb a1 i0) == 84) (Vt fun r5 => (Jf a2 (zi 4) fun r6 => (.as (decide (0 ≤ r6)) (.row ((Qg r5)[(Int.toNat r6)]?) (r5[(Int.toNat r6)]?) Q2 fun (e7 : ByteArray) => (rt Xm (Qc.mk (-1 : Int) (Qa.mk (zi 2) i0 e7 ([] : List Qa))))) .fail))) (Qbb a1 a2 fun r8 => (PV r8 fun r9 => (QdI r9 fun r10 => (rt Xm (Qc.mk (-1 : Int) r10.1)))))) .fail))))) (noN 4 u123 (.no false (.as (in1 i0 (zz a1)) (.as ((gb a1 i0) == 84) (Vt fun r11 => (Jf a2 (zi 4) fun r12 => (.as (decide (0 ≤ r12)) (.row ((Qg r11)[(Int.toNat r12)]?) (r11[(Int.toNat r12)]?) Q2 fun (e13 : ByteArray) => (rt Xm (Qc.mk (-1 : Int) (Qa.mk (zi 2) i0 e13 ([] : List Qa))))) .fail))) (Qbb a1 a2 fun r14 => (PV r14 fun r15 => (QdI r15 fun r16 => (rt Xm (Qc.mk (-1 : Int) r16.1)))))) .fail)))))))
theorem VZ.ok {a0 : QJ} {a1 : ByteArray} {a2 : Int} {r : Qc} (h : VZ a0 a1 a2 = some r) : ww 62 [.agg (Wd a0), xs a1, xi a2] [] = some (Xm r) := by
 refine fnP (Qke a0 a1 a2) ?_ h
 exact fun r1 h => ⟨WL.ok h, ⟨rfl, fun q0 => fun r2 h => ⟨Wk.ok h, rfl⟩, fun q0 => fun r3 h => ⟨QO.ok h, ⟨rfl, fun q1 => Qi 2 (q1) (⟨(Gn _), Qi 2 (q1) (⟨rfl, fun q2 => fun r4 h => ⟨XJ.ok h, rfl⟩, fun q2 => ⟨rfl, fun q3 => ⟨rfl, fun q4 => fun r5 h => ⟨JA.ok h, fun r6 h => ⟨QO.ok h, ⟨rfl, fun q5 => fun e7 h => ⟨QT h, rfl⟩, fun q5 => trivial⟩⟩⟩, fun q4 => fun r8 h => ⟨Wk.ok h, fun r9 h => ⟨Jn.ok h, fun r10 h => ⟨WG.ok h, rfl⟩⟩⟩⟩, fun q3 => trivial⟩⟩)⟩), fun q1 => noN_ok 4 (q1) (⟨rfl, ⟨rfl, fun q2 => ⟨rfl, fun q3 => fun r11 h => ⟨JA.ok h, fun r12 h => ⟨QO.ok h, ⟨rfl, fun q4 => fun e13 h => ⟨QT h, rfl⟩, fun q4 => trivial⟩⟩⟩, fun q3 => fun r14 h => ⟨Wk.ok h, fun r15 h => ⟨Jn.ok h, fun r16 h => ⟨WG.ok h, rfl⟩⟩⟩⟩, fun q2 => trivial⟩⟩)⟩⟩⟩⟩
noncomputable abbrev Qkf {ρ R : Type} (a0 : QJ) (a1 : ByteArray) (a2 : Int) (k : Qc → Tr ρ R) : Tr ρ R := .call (ww 62 [.agg (Wd a0), xs a1, xi a2] []) (VZ a0 a1 a2) Xm k
def Jr (r : Qb) : AV × Heap := (.agg (WN r), [])
abbrev Qes := QJ → Int → Option Qb
structure Q1 where
 x6 : Int
 h0 : QJ
 h1 : Qb
 h2 : Qb
structure Uu where
 h0 : Qb
 h1 : Qb
def WU (a : Q1) : St := { n := 59, nx := 5, env := [(2, .ptr 0 0), (4, .ptr 1 0), (5, .ptr 2 0), (6, xi a.x6)], heap := [(0, .box [] (Wd a.h0)), (1, .box [0, 0, 0, 0, 0, 5] [xi a.h1.Line, xs a.h1.Label, xi a.h1.Kind, xi a.h1.Op, xs a.h1.Text, .arr 3]), (2, .box [0, 0, 0, 0, 0, 5] [xi a.h2.Line, xs a.h2.Label, xi a.h2.Kind, xi a.h2.Op, xs a.h2.Text, .arr 4]), (3, .arr true 5 (Qj a.h1.Args)), (4, .arr true 5 (Qj a.h2.Args))] }
def Ee (a : Uu) : Ex × St := (.exit 0, { n := 59, nx := 4, env := [(4, .ptr 0 0), (5, .ptr 1 0)], heap := [(0, .box [0, 0, 0, 0, 0, 5] [xi a.h0.Line, xs a.h0.Label, xi a.h0.Kind, xi a.h0.Op, xs a.h0.Text, .arr 2]), (1, .box [0, 0, 0, 0, 0, 5] [xi a.h1.Line, xs a.h1.Label, xi a.h1.Kind, xi a.h1.Op, xs a.h1.Text, .arr 3]), (2, .arr true 5 (Qj a.h0.Args)), (3, .arr true 5 (Qj a.h1.Args))] })
abbrev Qbf := Q1 → Option Uu
def Yg (C0 : Fs) (C1 : Pt) (C2 : QgG) (C3 : Qac) (a : Q1) : Option (Q1 ⊕ Uu) := ((C0 a.h0.B (4 : Int)).bind fun r1 => (bif (decide (a.x6 ≤ r1)) then ((C1 a.h0 a.x6).bind fun r2 => ((C0 r2 (6 : Int)).bind fun r3 => (bif (r3 == 0) then (bif (decide ((((a.h0.E.length) : Nat) : Int) > 0)) then ((C2 a.h0.E).bind fun r4 => (bif (decide ((a.h2.Args.length + [(Qc.mk (-1 : Int) r4)].length) * 64 ≤ most)) then (some (.inl (Q1.mk (w64 (a.x6 + 1)) a.h0 a.h1 (Qb.mk a.h2.Line a.h2.Label a.h2.Kind a.h2.Op a.h2.Text (a.h2.Args ++ [(Qc.mk (-1 : Int) r4)]))))) else none)) else ((C0 r2 (6 : Int)).bind fun r5 => (bif (r5 == 1) then ((C3).bind fun r6 => ((C0 (w64 (Int.tdiv r2 (6 : Int))) (4 : Int)).bind fun r7 => (bif (decide (0 ≤ r7)) then ((r6[(Int.toNat r7)]?).bind fun e8 => (bif (decide ((a.h2.Args.length + [(Qc.mk (-1 : Int) (Qa.mk (2 : Int) (0 : Int) e8 ([] : List Qa)))].length) * 64 ≤ most)) then (some (.inl (Q1.mk (w64 (a.x6 + 1)) a.h0 a.h1 (Qb.mk a.h2.Line a.h2.Label a.h2.Kind a.h2.Op a.h2.Text (a.h2.Args ++ [(Qc.mk (-1 : Int) (Qa.mk (2 : Int) (0 : Int) e8 ([] : List Qa)))]))))) else none)) else none))) else ((C0 r2 (256 : Int)).bind fun r9 => (bif (decide ((a.h2.Args.length + [(Qc.mk (-1 : Int) (Qa.mk (1 : Int) r9 s_ ([] : List Qa)))].length) * 64 ≤ most)) then (some (.inl (Q1.mk (w64 (a.x6 + 1)) a.h0 a.h1 (Qb.mk a.h2.Line a.h2.Label a.h2.Kind a.h2.Op a.h2.Text (a.h2.Args ++ [(Qc.mk (-1 : Int) (Qa.mk (1 : Int) r9 s_ ([] : List Qa)))]))))) else none))))) else ((C0 r2 (6 : Int)).bind fun r10 => (bif (r10 == 1) then ((C3).bind fun r11 => ((C0 (w64 (Int.tdiv r2 (6 : Int))) (4 : Int)).bind fun r12 => (bif (decide (0 ≤ r12)) then ((r11[(Int.toNat r12)]?).bind fun e13 => (bif (decide ((a.h2.Args.length + [(Qc.mk (-1 : Int) (Qa.mk (2 : Int) (0 : Int) e13 ([] : List Qa)))].length) * 64 ≤ most)) then (some (.inl (Q1.mk (w64 (a.x6 + 1)) a.h0 a.h1 (Qb.mk a.h2.Line a.h2.Label a.h2.Kind a.h2.Op a.h2.Text (a.h2.Args ++ [(Qc.mk (-1 : Int) (Qa.mk (2 : Int) (0 : Int) e13 ([] : List Qa)))]))))) else none)) else none))) else ((C0 r2 (256 : Int)).bind fun r14 => (bif (decide ((a.h2.Args.length + [(Qc.mk (-1 : Int) (Qa.mk (1 : Int) r14 s_ ([] : List Qa)))].length) * 64 ≤ most)) then (some (.inl (Q1.mk (w64 (a.x6 + 1)) a.h0 a.h1 (Qb.mk a.h2.Line a.h2.Label a.h2.Kind a.h2.Op a.h2.Text (a.h2.Args ++ [(Qc.mk (-1 : Int) (Qa.mk (1 : Int) r14 s_ ([] : List Qa)))]))))) else none))))))) else (some (.inr (Uu.mk a.h1 a.h2)))))
noncomputable def Ve : Qbf := loopW (Yg QO UX XJ JA)
theorem Ve.eq (a : Q1) : Ve a = (Yg QO UX XJ JA a).bind (Sum.elim Ve some) := Jk _ _
noncomputable abbrev Qg4 {ρ R : Type} (a : Q1) (k0 : Uu → Tr ρ R) : Tr ρ R := .loop (loopAt pp 65 3) (WU a) (Ve a) Ee k0
noncomputable def Qg5 (a : Q1) : Tr (Q1 ⊕ Uu) XS := (Jf a.h0.B (zi 4) fun r1 => (.as (decide (a.x6 ≤ r1)) (QbI a.h0 a.x6 fun r2 => (Jf r2 (zi 6) fun r3 => (let u124 := (r3 == 0); .as u124 (yesN 2 u124 (.num ((UW a.h0.E).length) (a.h0.E.length) (yesN 2 u124 (.as (decide ((((a.h0.E.length) : Nat) : Int) > 0)) (Qie a.h0.E fun r4 => (.rows [[xi (-1 : Int), xi r4.Kind, xi r4.N, xs r4.Name, .sl (QN r4.L)]] (Qj [(Qc.mk (-1 : Int) r4)]) (.yes (decide ((Qj [(Qc.mk (-1 : Int) r4)]).all (fun r => r.length == 5) = true)) (.ask (decide (((Qj a.h2.Args).length + (Qj [(Qc.mk (-1 : Int) r4)]).length) * 64 ≤ most)) (decide ((a.h2.Args.length + [(Qc.mk (-1 : Int) r4)].length) * 64 ≤ most)) (.rows ((Qj a.h2.Args) ++ (Qj [(Qc.mk (-1 : Int) r4)])) (Qj (a.h2.Args ++ [(Qc.mk (-1 : Int) r4)])) (lf WU (Q1.mk (w64 (a.x6 + 1)) a.h0 a.h1 (Qb.mk a.h2.Line a.h2.Label a.h2.Kind a.h2.Op a.h2.Text (a.h2.Args ++ [(Qc.mk (-1 : Int) r4)]))))) .fail)))) (Jf r2 (zi 6) fun r5 => (.as (r5 == 1) (Vt fun r6 => (.yes (decide ((zi 6) ≠ 0)) (Jf (w64 (Int.tdiv r2 (zi 6))) (zi 4) fun r7 => (.as (decide (0 ≤ r7)) (.row ((Qg r6)[(Int.toNat r7)]?) (r6[(Int.toNat r7)]?) Q2 fun (e8 : ByteArray) => (.rows [[xi (-1 : Int), xi (zi 2), xi i0, xs e8, .sl (QN ([] : List Qa))]] (Qj [(Qc.mk (-1 : Int) (Qa.mk (zi 2) i0 e8 ([] : List Qa)))]) (.yes (decide ((Qj [(Qc.mk (-1 : Int) (Qa.mk (zi 2) i0 e8 ([] : List Qa)))]).all (fun r => r.length == 5) = true)) (.ask (decide (((Qj a.h2.Args).length + (Qj [(Qc.mk (-1 : Int) (Qa.mk (zi 2) i0 e8 ([] : List Qa)))]).length) * 64 ≤ most)) (decide ((a.h2.Args.length + [(Qc.mk (-1 : Int) (Qa.mk (zi 2) i0 e8 ([] : List Qa)))].length) * 64 ≤ most)) (.rows ((Qj a.h2.Args) ++ (Qj [(Qc.mk (-1 : Int) (Qa.mk (zi 2) i0 e8 ([] : List Qa)))])) (Qj (a.h2.Args ++ [(Qc.mk (-1 : Int) (Qa.mk (zi 2) i0 e8 ([] : List Qa)))])) (lf WU (Q1.mk (w64 (a.x6 + 1)) a.h0 a.h1 (Qb.mk a.h2.Line a.h2.Label a.h2.Kind a.h2.Op a.h2.Text (a.h2.Args ++ [(Qc.mk (-1 : Int) (Qa.mk (zi 2) i0 e8 ([] : List Qa)))]))))) .fail)))) .fail)))) (Jf r2 (zi 256) fun r9 => (.rows [[xi (-1 : Int), xi (zi 1), xi r9, xs s_, .sl (QN ([] : List Qa))]] (Qj [(Qc.mk (-1 : Int) (Qa.mk (zi 1) r9 s_ ([] : List Qa)))]) (.yes (decide ((Qj [(Qc.mk (-1 : Int) (Qa.mk (zi 1) r9 s_ ([] : List Qa)))]).all (fun r => r.length == 5) = true)) (.ask (decide (((Qj a.h2.Args).length + (Qj [(Qc.mk (-1 : Int) (Qa.mk (zi 1) r9 s_ ([] : List Qa)))]).length) * 64 ≤ most)) (decide ((a.h2.Args.length + [(Qc.mk (-1 : Int) (Qa.mk (zi 1) r9 s_ ([] : List Qa)))].length) * 64 ≤ most)) (.rows ((Qj a.h2.Args) ++ (Qj [(Qc.mk (-1 : Int) (Qa.mk (zi 1) r9 s_ ([] : List Qa)))])) (Qj (a.h2.Args ++ [(Qc.mk (-1 : Int) (Qa.mk (zi 1) r9 s_ ([] : List Qa)))])) (lf WU (Q1.mk (w64 (a.x6 + 1)) a.h0 a.h1 (Qb.mk a.h2.Line a.h2.Label a.h2.Kind a.h2.Op a.h2.Text (a.h2.Args ++ [(Qc.mk (-1 : Int) (Qa.mk (zi 1) r9 s_ ([] : List Qa)))]))))) .fail)))))))))) (noN 4 u124 (.no false (Jf r2 (zi 6) fun r10 => (.as (r10 == 1) (Vt fun r11 => (.yes (decide ((zi 6) ≠ 0)) (Jf (w64 (Int.tdiv r2 (zi 6))) (zi 4) fun r12 => (.as (decide (0 ≤ r12)) (.row ((Qg r11)[(Int.toNat r12)]?) (r11[(Int.toNat r12)]?) Q2 fun (e13 : ByteArray) => (.rows [[xi (-1 : Int), xi (zi 2), xi i0, xs e13, .sl (QN ([] : List Qa))]] (Qj [(Qc.mk (-1 : Int) (Qa.mk (zi 2) i0 e13 ([] : List Qa)))]) (.yes (decide ((Qj [(Qc.mk (-1 : Int) (Qa.mk (zi 2) i0 e13 ([] : List Qa)))]).all (fun r => r.length == 5) = true)) (.ask (decide (((Qj a.h2.Args).length + (Qj [(Qc.mk (-1 : Int) (Qa.mk (zi 2) i0 e13 ([] : List Qa)))]).length) * 64 ≤ most)) (decide ((a.h2.Args.length + [(Qc.mk (-1 : Int) (Qa.mk (zi 2) i0 e13 ([] : List Qa)))].length) * 64 ≤ most)) (.rows ((Qj a.h2.Args) ++ (Qj [(Qc.mk (-1 : Int) (Qa.mk (zi 2) i0 e13 ([] : List Qa)))])) (Qj (a.h2.Args ++ [(Qc.mk (-1 : Int) (Qa.mk (zi 2) i0 e13 ([] : List Qa)))])) (lf WU (Q1.mk (w64 (a.x6 + 1)) a.h0 a.h1 (Qb.mk a.h2.Line a.h2.Label a.h2.Kind a.h2.Op a.h2.Text (a.h2.Args ++ [(Qc.mk (-1 : Int) (Qa.mk (zi 2) i0 e13 ([] : List Qa)))]))))) .fail)))) .fail)))) (Jf r2 (zi 256) fun r14 => (.rows [[xi (-1 : Int), xi (zi 1), xi r14, xs s_, .sl (QN ([] : List Qa))]] (Qj [(Qc.mk (-1 : Int) (Qa.mk (zi 1) r14 s_ ([] : List Qa)))]) (.yes (decide ((Qj [(Qc.mk (-1 : Int) (Qa.mk (zi 1) r14 s_ ([] : List Qa)))]).all (fun r => r.length == 5) = true)) (.ask (decide (((Qj a.h2.Args).length + (Qj [(Qc.mk (-1 : Int) (Qa.mk (zi 1) r14 s_ ([] : List Qa)))]).length) * 64 ≤ most)) (decide ((a.h2.Args.length + [(Qc.mk (-1 : Int) (Qa.mk (zi 1) r14 s_ ([] : List Qa)))].length) * 64 ≤ most)) (.rows ((Qj a.h2.Args) ++ (Qj [(Qc.mk (-1 : Int) (Qa.mk (zi 1) r14 s_ ([] : List Qa)))])) (Qj (a.h2.Args ++ [(Qc.mk (-1 : Int) (Qa.mk (zi 1) r14 s_ ([] : List Qa)))])) (lf WU (Q1.mk (w64 (a.x6 + 1)) a.h0 a.h1 (Qb.mk a.h2.Line a.h2.Label a.h2.Kind a.h2.Op a.h2.Text (a.h2.Args ++ [(Qc.mk (-1 : Int) (Qa.mk (zi 1) r14 s_ ([] : List Qa)))]))))) .fail))))))))))) (rx Ee (Uu.mk a.h1 a.h2))))
theorem Ve.ok {a : Q1} {r : Uu} (h : Ve a = some r) : lw 0 65 (loopAt pp 65 3) (WU a) = some (Ee r) := by
 refine lpP h Qg5 fun a => ?_
 exact fun r1 h => ⟨QO.ok h, ⟨rfl, fun q0 => fun r2 h => ⟨UX.ok h, fun r3 h => ⟨QO.ok h, ⟨rfl, fun q1 => Qi 2 (q1) (⟨(Gn _), Qi 2 (q1) (⟨rfl, fun q2 => fun r4 h => ⟨XJ.ok h, ⟨(JE [(Qc.mk (-1 : Int) r4)]), ⟨(decide_eq_true (VS _)), ⟨(by rw [Jb, Jb]), fun q3 => ⟨(UV _ _), rfl⟩, fun q3 => trivial⟩⟩⟩⟩, fun q2 => fun r5 h => ⟨QO.ok h, ⟨rfl, fun q3 => fun r6 h => ⟨JA.ok h, ⟨rfl, fun r7 h => ⟨QO.ok h, ⟨rfl, fun q4 => fun e8 h => ⟨QT h, ⟨(JE [(Qc.mk (-1 : Int) (Qa.mk (2 : Int) (0 : Int) e8 ([] : List Qa)))]), ⟨(decide_eq_true (VS _)), ⟨(by rw [Jb, Jb]), fun q5 => ⟨(UV _ _), rfl⟩, fun q5 => trivial⟩⟩⟩⟩, fun q4 => trivial⟩⟩⟩⟩, fun q3 => fun r9 h => ⟨QO.ok h, ⟨(JE [(Qc.mk (-1 : Int) (Qa.mk (1 : Int) r9 s_ ([] : List Qa)))]), ⟨(decide_eq_true (VS _)), ⟨(by rw [Jb, Jb]), fun q4 => ⟨(UV _ _), rfl⟩, fun q4 => trivial⟩⟩⟩⟩⟩⟩⟩)⟩), fun q1 => noN_ok 4 (q1) (⟨rfl, fun r10 h => ⟨QO.ok h, ⟨rfl, fun q2 => fun r11 h => ⟨JA.ok h, ⟨rfl, fun r12 h => ⟨QO.ok h, ⟨rfl, fun q3 => fun e13 h => ⟨QT h, ⟨(JE [(Qc.mk (-1 : Int) (Qa.mk (2 : Int) (0 : Int) e13 ([] : List Qa)))]), ⟨(decide_eq_true (VS _)), ⟨(by rw [Jb, Jb]), fun q4 => ⟨(UV _ _), rfl⟩, fun q4 => trivial⟩⟩⟩⟩, fun q3 => trivial⟩⟩⟩⟩, fun q2 => fun r14 h => ⟨QO.ok h, ⟨(JE [(Qc.mk (-1 : Int) (Qa.mk (1 : Int) r14 s_ ([] : List Qa)))]), ⟨(decide_eq_true (VS _)), ⟨(by rw [Jb, Jb]), fun q3 => ⟨(UV _ _), rfl⟩, fun q3 => trivial⟩⟩⟩⟩⟩⟩⟩)⟩⟩⟩, fun q0 => rfl⟩⟩
def Pv (L0 : Qbf) (a0 : QJ) (a1 : Int) : Option Qb := ((L0 (Q1.mk (0 : Int) a0 (Qb.mk (0 : Int) s_ (0 : Int) (0 : Int) s_ ([] : List Qc)) (Qb.mk (1 : Int) s_ a1 (0 : Int) s_ ([] : List Qc)))).bind (fun (o1 : Uu) => (some o1.h1)))
noncomputable def W8 : Qes := Pv Ve
theorem W8.eq (a0 : QJ) (a1 : Int) : W8 a0 a1 = Pv Ve a0 a1 := rfl
noncomputable def Qkg (a0 : QJ) (a1 : Int) : Tr Qb AH := (Qg4 (Q1.mk i0 a0 (Qb.mk i0 s_ i0 i0 s_ ([] : List Qc)) (Qb.mk (zi 1) s_ a1 i0 s_ ([] : List Qc))) (fun o1 => (rt Jr o1.h1)))
theorem W8.ok {a0 : QJ} {a1 : Int} {r : Qb} (h : W8 a0 a1 = some r) : ww 65 [.agg (Wd a0), xi a1] [] = some (Jr r) := by
 refine fnP (Qkg a0 a1) ?_ h
 exact fun o1 h => ⟨Ve.ok h, rfl⟩
noncomputable abbrev Qkh {ρ R : Type} (a0 : QJ) (a1 : Int) (k : Qb → Tr ρ R) : Tr ρ R := .call (ww 65 [.agg (Wd a0), xi a1] []) (W8 a0 a1) Jr k
abbrev Qf3 := QJ → Option Qb
structure Uk where
 x5 : (List ByteArray)
 x6 : Int
 h0 : QJ
 h1 : Qb
 h2 : Qb
structure Vu where
 h0 : QJ
 h1 : Qb
 h2 : Qb
def EM (a : Uk) : St := { n := 156, nx := 5, env := [(1, .ptr 0 0), (2, .ptr 1 0), (3, .ptr 2 0), (5, .sl (Qg a.x5)), (6, xi a.x6)], heap := [(0, .box [] (Wd a.h0)), (1, .box [0, 0, 0, 0, 0, 5] [xi a.h1.Line, xs a.h1.Label, xi a.h1.Kind, xi a.h1.Op, xs a.h1.Text, .arr 3]), (2, .box [0, 0, 0, 0, 0, 5] [xi a.h2.Line, xs a.h2.Label, xi a.h2.Kind, xi a.h2.Op, xs a.h2.Text, .arr 4]), (3, .arr true 5 (Qj a.h1.Args)), (4, .arr true 5 (Qj a.h2.Args))] }
def EN (a : Vu) : Ex × St := (.exit 1, { n := 156, nx := 5, env := [(1, .ptr 0 0), (2, .ptr 1 0), (3, .ptr 2 0)], heap := [(0, .box [] (Wd a.h0)), (1, .box [0, 0, 0, 0, 0, 5] [xi a.h1.Line, xs a.h1.Label, xi a.h1.Kind, xi a.h1.Op, xs a.h1.Text, .arr 3]), (2, .box [0, 0, 0, 0, 0, 5] [xi a.h2.Line, xs a.h2.Label, xi a.h2.Kind, xi a.h2.Op, xs a.h2.Text, .arr 4]), (3, .arr true 5 (Qj a.h1.Args)), (4, .arr true 5 (Qj a.h2.Args))] })
abbrev QbO := Uk → Option Vu
def YQ (C0 : Pt) (C1 : Qer) (a : Uk) : Option (Uk ⊕ Vu) := (bif (decide (a.x6 < (((a.x5.length) : Nat) : Int))) then (bif (decide (0 ≤ a.x6)) then ((a.x5[(Int.toNat a.x6)]?).bind fun e1 => ((C0 a.h0 a.x6).bind fun r2 => ((C1 a.h0 e1 r2).bind fun r3 => (bif (decide ((a.h2.Args.length + [r3].length) * 64 ≤ most)) then (some (.inl (Uk.mk a.x5 (w64 (a.x6 + 1)) a.h0 a.h1 (Qb.mk a.h2.Line a.h2.Label a.h2.Kind a.h2.Op a.h2.Text (a.h2.Args ++ [r3]))))) else none)))) else none) else (some (.inr (Vu.mk a.h0 a.h1 a.h2))))
noncomputable def Vw : QbO := loopW (YQ UX VZ)
theorem Vw.eq (a : Uk) : Vw a = (YQ UX VZ a).bind (Sum.elim Vw some) := Jk _ _
noncomputable abbrev Qik {ρ R : Type} (a : Uk) (k0 : Vu → Tr ρ R) : Tr ρ R := .loop (loopAt pp 25 8) (EM a) (Vw a) EN k0
noncomputable def Qil (a : Uk) : Tr (Uk ⊕ Vu) XS := (.num ((Qg a.x5).length) (a.x5.length) (.as (decide (a.x6 < (((a.x5.length) : Nat) : Int))) (.as (decide (0 ≤ a.x6)) (.row ((Qg a.x5)[(Int.toNat a.x6)]?) (a.x5[(Int.toNat a.x6)]?) Q2 fun (e1 : ByteArray) => (QbI a.h0 a.x6 fun r2 => (Qkf a.h0 e1 r2 fun r3 => (.rows [[xi r3.Reg, xi r3.E.Kind, xi r3.E.N, xs r3.E.Name, .sl (QN r3.E.L)]] (Qj [r3]) (.yes (decide ((Qj [r3]).all (fun r => r.length == 5) = true)) (.ask (decide (((Qj a.h2.Args).length + (Qj [r3]).length) * 64 ≤ most)) (decide ((a.h2.Args.length + [r3].length) * 64 ≤ most)) (.rows ((Qj a.h2.Args) ++ (Qj [r3])) (Qj (a.h2.Args ++ [r3])) (lf EM (Uk.mk a.x5 (w64 (a.x6 + 1)) a.h0 a.h1 (Qb.mk a.h2.Line a.h2.Label a.h2.Kind a.h2.Op a.h2.Text (a.h2.Args ++ [r3]))))) .fail)))))) .fail) (rx EN (Vu.mk a.h0 a.h1 a.h2))))
theorem Vw.ok {a : Uk} {r : Vu} (h : Vw a = some r) : lw 0 25 (loopAt pp 25 8) (EM a) = some (EN r) := by
 refine lpP h Qil fun a => ?_
 exact ⟨(Qo _), ⟨rfl, fun q0 => ⟨rfl, fun q1 => fun e1 h => ⟨QT h, fun r2 h => ⟨UX.ok h, fun r3 h => ⟨VZ.ok h, ⟨(JE [r3]), ⟨(decide_eq_true (VS _)), ⟨(by rw [Jb, Jb]), fun q2 => ⟨(UV _ _), rfl⟩, fun q2 => trivial⟩⟩⟩⟩⟩⟩, fun q1 => trivial⟩, fun q0 => rfl⟩⟩
def SG (C0 : Fs) (C1 : QfV) (C2 : QfW) (C3 : Qac) (C4 : Qes) (C5 : QgG) (L6 : QbO) (a0 : QJ) : Option Qb := ((C0 a0.K (16 : Int)).bind fun r1 => (bif (decide (r1 < 6)) then ((C0 a0.A (66 : Int)).bind fun r2 => ((C1 r2).bind fun r3 => ((C2 r3).bind fun r4 => ((L6 (Uk.mk r4 (0 : Int) a0 (Qb.mk (0 : Int) s_ (0 : Int) (0 : Int) s_ ([] : List Qc)) (Qb.mk (1 : Int) s_ (1 : Int) r2 s_ ([] : List Qc)))).bind (fun (o5 : Vu) => (bif o5.h0.Label then ((C3).bind fun r6 => ((C0 o5.h0.B (4 : Int)).bind fun r7 => (bif (decide (0 ≤ r7)) then ((r6[(Int.toNat r7)]?).bind fun e8 => (some (Qb.mk o5.h2.Line e8 o5.h2.Kind o5.h2.Op o5.h2.Text o5.h2.Args))) else none))) else (bif (o5.h2.Kind == 0) then ((C3).bind fun r9 => ((C0 o5.h0.B (4 : Int)).bind fun r10 => (bif (decide (0 ≤ r10)) then ((r9[(Int.toNat r10)]?).bind fun e11 => (some (Qb.mk o5.h2.Line e11 o5.h2.Kind o5.h2.Op o5.h2.Text o5.h2.Args))) else none))) else (some o5.h2)))))))) else (bif (decide (r1 < 9)) then ((C0 a0.A (3 : Int)).bind fun r12 => (bif (r12 == 2) then ((C0 a0.B (2 : Int)).bind fun r13 => ((C0 (w64 (Int.tdiv a0.B (2 : Int))) (4 : Int)).bind fun r14 => ((C3).bind fun r15 => ((C0 a0.B (4 : Int)).bind fun r16 => (bif (decide (0 ≤ r16)) then ((r15[(Int.toNat r16)]?).bind fun e17 => (bif (decide (([(Qc.mk (-1 : Int) (Qa.mk (1 : Int) r13 s_ ([] : List Qa))), (Qc.mk (-1 : Int) (Qa.mk (1 : Int) r14 s_ ([] : List Qa)))].length + [(Qc.mk (-1 : Int) (Qa.mk (2 : Int) (0 : Int) e17 ([] : List Qa)))].length) * 64 ≤ most)) then (bif a0.Label then ((C3).bind fun r18 => ((C0 a0.B (4 : Int)).bind fun r19 => (bif (decide (0 ≤ r19)) then ((r18[(Int.toNat r19)]?).bind fun e20 => (some (Qb.mk (1 : Int) e20 (2 : Int) r12 s_ ([(Qc.mk (-1 : Int) (Qa.mk (1 : Int) r13 s_ ([] : List Qa))), (Qc.mk (-1 : Int) (Qa.mk (1 : Int) r14 s_ ([] : List Qa)))] ++ [(Qc.mk (-1 : Int) (Qa.mk (2 : Int) (0 : Int) e17 ([] : List Qa)))])))) else none))) else (some (Qb.mk (1 : Int) s_ (2 : Int) r12 s_ ([(Qc.mk (-1 : Int) (Qa.mk (1 : Int) r13 s_ ([] : List Qa))), (Qc.mk (-1 : Int) (Qa.mk (1 : Int) r14 s_ ([] : List Qa)))] ++ [(Qc.mk (-1 : Int) (Qa.mk (2 : Int) (0 : Int) e17 ([] : List Qa)))])))) else none)) else none))))) else ((C3).bind fun r21 => ((C0 a0.B (4 : Int)).bind fun r22 => (bif (decide (0 ≤ r22)) then ((r21[(Int.toNat r22)]?).bind fun e23 => (bif (decide ((([] : List Qc).length + [(Qc.mk (-1 : Int) (Qa.mk (2 : Int) (0 : Int) e23 ([] : List Qa)))].length) * 64 ≤ most)) then (bif a0.Label then ((C3).bind fun r24 => ((C0 a0.B (4 : Int)).bind fun r25 => (bif (decide (0 ≤ r25)) then ((r24[(Int.toNat r25)]?).bind fun e26 => (some (Qb.mk (1 : Int) e26 (2 : Int) r12 s_ (([] : List Qc) ++ [(Qc.mk (-1 : Int) (Qa.mk (2 : Int) (0 : Int) e23 ([] : List Qa)))])))) else none))) else (some (Qb.mk (1 : Int) s_ (2 : Int) r12 s_ (([] : List Qc) ++ [(Qc.mk (-1 : Int) (Qa.mk (2 : Int) (0 : Int) e23 ([] : List Qa)))])))) else none)) else none))))) else (bif (decide (r1 < 12)) then ((C4 a0 (w64 ((w64 ((3 : Int) + r1)) - 9))).bind fun r27 => (bif a0.Label then ((C3).bind fun r28 => ((C0 a0.B (4 : Int)).bind fun r29 => (bif (decide (0 ≤ r29)) then ((r28[(Int.toNat r29)]?).bind fun e30 => (some (Qb.mk r27.Line e30 r27.Kind r27.Op r27.Text r27.Args))) else none))) else (bif (r27.Kind == 0) then ((C3).bind fun r31 => ((C0 a0.B (4 : Int)).bind fun r32 => (bif (decide (0 ≤ r32)) then ((r31[(Int.toNat r32)]?).bind fun e33 => (some (Qb.mk r27.Line e33 r27.Kind r27.Op r27.Text r27.Args))) else none))) else (some r27)))) else (bif (r1 == 12) then ((C0 a0.A (5 : Int)).bind fun r34 => (bif (decide (0 ≤ r34 ∧ r34 < (([s_, s_hi, UM, WD, Fr].length : Nat) : Int))) then (([s_, s_hi, UM, WD, Fr][(Int.toNat r34)]?).bind fun e35 => (bif a0.Label then ((C3).bind fun r36 => ((C0 a0.B (4 : Int)).bind fun r37 => (bif (decide (0 ≤ r37)) then ((r36[(Int.toNat r37)]?).bind fun e38 => (some (Qb.mk (1 : Int) e38 (6 : Int) (0 : Int) e35 ([] : List Qc)))) else none))) else (some (Qb.mk (1 : Int) s_ (6 : Int) (0 : Int) e35 ([] : List Qc))))) else none)) else (bif (r1 == 13) then ((C0 a0.A (6 : Int)).bind fun r39 => (bif (decide (0 ≤ r39 ∧ r39 < (([(1 : Int), (2 : Int), (4 : Int), (8 : Int), (16 : Int), (3 : Int)].length : Nat) : Int))) then (([(1 : Int), (2 : Int), (4 : Int), (8 : Int), (16 : Int), (3 : Int)][(Int.toNat r39)]?).bind fun e40 => (bif a0.Label then ((C3).bind fun r41 => ((C0 a0.B (4 : Int)).bind fun r42 => (bif (decide (0 ≤ r42)) then ((r41[(Int.toNat r42)]?).bind fun e43 => (some (Qb.mk (1 : Int) e43 (7 : Int) (0 : Int) s_ [(Qc.mk (-1 : Int) (Qa.mk (1 : Int) e40 s_ ([] : List Qa)))]))) else none))) else (some (Qb.mk (1 : Int) s_ (7 : Int) (0 : Int) s_ [(Qc.mk (-1 : Int) (Qa.mk (1 : Int) e40 s_ ([] : List Qa)))])))) else none)) else (bif (r1 == 14) then ((C0 a0.A (8 : Int)).bind fun r44 => (bif (decide (0 ≤ r44 ∧ r44 < (([(0 : Int), (2 : Int), (100 : Int), (250 : Int), (252 : Int), (254 : Int), (256 : Int), (7 : Int)].length : Nat) : Int))) then (([(0 : Int), (2 : Int), (100 : Int), (250 : Int), (252 : Int), (254 : Int), (256 : Int), (7 : Int)][(Int.toNat r44)]?).bind fun e45 => (bif a0.Label then ((C3).bind fun r46 => ((C0 a0.B (4 : Int)).bind fun r47 => (bif (decide (0 ≤ r47)) then ((r46[(Int.toNat r47)]?).bind fun e48 => (some (Qb.mk (1 : Int) e48 (8 : Int) (0 : Int) s_ [(Qc.mk (-1 : Int) (Qa.mk (1 : Int) e45 s_ ([] : List Qa)))]))) else none))) else (some (Qb.mk (1 : Int) s_ (8 : Int) (0 : Int) s_ [(Qc.mk (-1 : Int) (Qa.mk (1 : Int) e45 s_ ([] : List Qa)))])))) else none)) else ((C0 a0.A (3 : Int)).bind fun r49 => (bif (decide (0 ≤ r49 ∧ r49 < (([s_k, Gs, s_x].length : Nat) : Int))) then (([s_k, Gs, s_x][(Int.toNat r49)]?).bind fun e50 => ((C5 a0.E).bind fun r51 => (bif a0.Label then ((C3).bind fun r52 => ((C0 a0.B (4 : Int)).bind fun r53 => (bif (decide (0 ≤ r53)) then ((r52[(Int.toNat r53)]?).bind fun e54 => (some (Qb.mk (1 : Int) e54 (9 : Int) (0 : Int) e50 [(Qc.mk (-1 : Int) r51)]))) else none))) else (some (Qb.mk (1 : Int) s_ (9 : Int) (0 : Int) e50 [(Qc.mk (-1 : Int) r51)]))))) else none)))))))))
noncomputable def W9 : Qf3 := SG QO Xg VX JA W8 XJ Vw
theorem W9.eq (a0 : QJ) : W9 a0 = SG QO Xg VX JA W8 XJ Vw a0 := rfl
noncomputable def QlN (a0 : QJ) : Tr Qb AH := (Jf a0.K (zi 16) fun r1 => (.as (decide (r1 < 6)) (Jf a0.A (zi 66) fun r2 => (Qjf r2 fun r3 => (Qjg r3 fun r4 => (Qik (Uk.mk r4 i0 a0 (Qb.mk i0 s_ i0 i0 s_ ([] : List Qc)) (Qb.mk (zi 1) s_ (zi 1) r2 s_ ([] : List Qc))) (fun o5 => (let u125 := o5.h0.Label; .as u125 (yesN 3 u125 (.yes true (Vt fun r6 => (Jf o5.h0.B (zi 4) fun r7 => (.as (decide (0 ≤ r7)) (.row ((Qg r6)[(Int.toNat r7)]?) (r6[(Int.toNat r7)]?) Q2 fun (e8 : ByteArray) => (rt Jr (Qb.mk o5.h2.Line e8 o5.h2.Kind o5.h2.Op o5.h2.Text o5.h2.Args))) .fail))))) (noN 3 u125 (.as (o5.h2.Kind == 0) (Vt fun r9 => (Jf o5.h0.B (zi 4) fun r10 => (.as (decide (0 ≤ r10)) (.row ((Qg r9)[(Int.toNat r10)]?) (r9[(Int.toNat r10)]?) Q2 fun (e11 : ByteArray) => (rt Jr (Qb.mk o5.h2.Line e11 o5.h2.Kind o5.h2.Op o5.h2.Text o5.h2.Args))) .fail))) (rt Jr o5.h2))))))))) (.as (decide (r1 < 9)) (Jf a0.A (zi 3) fun r12 => (.as (r12 == 2) (Jf a0.B (zi 2) fun r13 => (.yes (decide ((zi 2) ≠ 0)) (Jf (w64 (Int.tdiv a0.B (zi 2))) (zi 4) fun r14 => (.rows [[xi (-1 : Int), xi (zi 1), xi r13, xs s_, .sl (QN ([] : List Qa))], [xi (-1 : Int), xi (zi 1), xi r14, xs s_, .sl (QN ([] : List Qa))]] (Qj [(Qc.mk (-1 : Int) (Qa.mk (zi 1) r13 s_ ([] : List Qa))), (Qc.mk (-1 : Int) (Qa.mk (zi 1) r14 s_ ([] : List Qa)))]) (Vt fun r15 => (Jf a0.B (zi 4) fun r16 => (.as (decide (0 ≤ r16)) (.row ((Qg r15)[(Int.toNat r16)]?) (r15[(Int.toNat r16)]?) Q2 fun (e17 : ByteArray) => (.rows [[xi (-1 : Int), xi (zi 2), xi i0, xs e17, .sl (QN ([] : List Qa))]] (Qj [(Qc.mk (-1 : Int) (Qa.mk (zi 2) i0 e17 ([] : List Qa)))]) (.yes (decide ((Qj [(Qc.mk (-1 : Int) (Qa.mk (zi 2) i0 e17 ([] : List Qa)))]).all (fun r => r.length == 5) = true)) (.ask (decide (((Qj [(Qc.mk (-1 : Int) (Qa.mk (zi 1) r13 s_ ([] : List Qa))), (Qc.mk (-1 : Int) (Qa.mk (zi 1) r14 s_ ([] : List Qa)))]).length + (Qj [(Qc.mk (-1 : Int) (Qa.mk (zi 2) i0 e17 ([] : List Qa)))]).length) * 64 ≤ most)) (decide (([(Qc.mk (-1 : Int) (Qa.mk (zi 1) r13 s_ ([] : List Qa))), (Qc.mk (-1 : Int) (Qa.mk (zi 1) r14 s_ ([] : List Qa)))].length + [(Qc.mk (-1 : Int) (Qa.mk (zi 2) i0 e17 ([] : List Qa)))].length) * 64 ≤ most)) (.rows ((Qj [(Qc.mk (-1 : Int) (Qa.mk (zi 1) r13 s_ ([] : List Qa))), (Qc.mk (-1 : Int) (Qa.mk (zi 1) r14 s_ ([] : List Qa)))]) ++ (Qj [(Qc.mk (-1 : Int) (Qa.mk (zi 2) i0 e17 ([] : List Qa)))])) (Qj ([(Qc.mk (-1 : Int) (Qa.mk (zi 1) r13 s_ ([] : List Qa))), (Qc.mk (-1 : Int) (Qa.mk (zi 1) r14 s_ ([] : List Qa)))] ++ [(Qc.mk (-1 : Int) (Qa.mk (zi 2) i0 e17 ([] : List Qa)))])) (.as a0.Label (yesN 3 a0.Label (.yes true (Vt fun r18 => (Jf a0.B (zi 4) fun r19 => (.as (decide (0 ≤ r19)) (.row ((Qg r18)[(Int.toNat r19)]?) (r18[(Int.toNat r19)]?) Q2 fun (e20 : ByteArray) => (rt Jr (Qb.mk (zi 1) e20 (zi 2) r12 s_ ([(Qc.mk (-1 : Int) (Qa.mk (zi 1) r13 s_ ([] : List Qa))), (Qc.mk (-1 : Int) (Qa.mk (zi 1) r14 s_ ([] : List Qa)))] ++ [(Qc.mk (-1 : Int) (Qa.mk (zi 2) i0 e17 ([] : List Qa)))])))) .fail))))) (noN 3 a0.Label (.no false (rt Jr (Qb.mk (zi 1) s_ (zi 2) r12 s_ ([(Qc.mk (-1 : Int) (Qa.mk (zi 1) r13 s_ ([] : List Qa))), (Qc.mk (-1 : Int) (Qa.mk (zi 1) r14 s_ ([] : List Qa)))] ++ [(Qc.mk (-1 : Int) (Qa.mk (zi 2) i0 e17 ([] : List Qa)))]))))))) .fail)))) .fail))))))) (Vt fun r21 => (Jf a0.B (zi 4) fun r22 => (.as (decide (0 ≤ r22)) (.row ((Qg r21)[(Int.toNat r22)]?) (r21[(Int.toNat r22)]?) Q2 fun (e23 : ByteArray) => (.rows [[xi (-1 : Int), xi (zi 2), xi i0, xs e23, .sl (QN ([] : List Qa))]] (Qj [(Qc.mk (-1 : Int) (Qa.mk (zi 2) i0 e23 ([] : List Qa)))]) (.yes (decide ((Qj [(Qc.mk (-1 : Int) (Qa.mk (zi 2) i0 e23 ([] : List Qa)))]).all (fun r => r.length == 5) = true)) (.ask (decide (((Qj ([] : List Qc)).length + (Qj [(Qc.mk (-1 : Int) (Qa.mk (zi 2) i0 e23 ([] : List Qa)))]).length) * 64 ≤ most)) (decide ((([] : List Qc).length + [(Qc.mk (-1 : Int) (Qa.mk (zi 2) i0 e23 ([] : List Qa)))].length) * 64 ≤ most)) (.rows ((Qj ([] : List Qc)) ++ (Qj [(Qc.mk (-1 : Int) (Qa.mk (zi 2) i0 e23 ([] : List Qa)))])) (Qj (([] : List Qc) ++ [(Qc.mk (-1 : Int) (Qa.mk (zi 2) i0 e23 ([] : List Qa)))])) (.as a0.Label (yesN 3 a0.Label (.yes true (Vt fun r24 => (Jf a0.B (zi 4) fun r25 => (.as (decide (0 ≤ r25)) (.row ((Qg r24)[(Int.toNat r25)]?) (r24[(Int.toNat r25)]?) Q2 fun (e26 : ByteArray) => (rt Jr (Qb.mk (zi 1) e26 (zi 2) r12 s_ (([] : List Qc) ++ [(Qc.mk (-1 : Int) (Qa.mk (zi 2) i0 e23 ([] : List Qa)))])))) .fail))))) (noN 3 a0.Label (.no false (rt Jr (Qb.mk (zi 1) s_ (zi 2) r12 s_ (([] : List Qc) ++ [(Qc.mk (-1 : Int) (Qa.mk (zi 2) i0 e23 ([] : List Qa)))]))))))) .fail)))) .fail))))) (.as (decide (r1 < 12)) (Qkh a0 (w64 ((w64 ((zi 3) + r1)) - 9)) fun r27 => (.as a0.Label (yesN 3 a0.Label (.yes true (Vt fun r28 => (Jf a0.B (zi 4) fun r29 => (.as (decide (0 ≤ r29)) (.row ((Qg r28)[(Int.toNat r29)]?) (r28[(Int.toNat r29)]?) Q2 fun (e30 : ByteArray) => (rt Jr (Qb.mk r27.Line e30 r27.Kind r27.Op r27.Text r27.Args))) .fail))))) (noN 3 a0.Label (.as (r27.Kind == 0) (Vt fun r31 => (Jf a0.B (zi 4) fun r32 => (.as (decide (0 ≤ r32)) (.row ((Qg r31)[(Int.toNat r32)]?) (r31[(Int.toNat r32)]?) Q2 fun (e33 : ByteArray) => (rt Jr (Qb.mk r27.Line e33 r27.Kind r27.Op r27.Text r27.Args))) .fail))) (rt Jr r27))))) (.as (r1 == 12) (.rows [[xs s_], [xs s_hi], [xs UM], [xs WD], [xs Fr]] (Qg [s_, s_hi, UM, WD, Fr]) (Jf a0.A (zi 5) fun r34 => (.ask (in1 r34 (((Qg [s_, s_hi, UM, WD, Fr]).length : Nat) : Int)) (in1 r34 (([s_, s_hi, UM, WD, Fr].length : Nat) : Int)) (.row ((Qg [s_, s_hi, UM, WD, Fr])[(Int.toNat r34)]?) ([s_, s_hi, UM, WD, Fr][(Int.toNat r34)]?) Q2 fun (e35 : ByteArray) => (.as a0.Label (yesN 3 a0.Label (.yes true (Vt fun r36 => (Jf a0.B (zi 4) fun r37 => (.as (decide (0 ≤ r37)) (.row ((Qg r36)[(Int.toNat r37)]?) (r36[(Int.toNat r37)]?) Q2 fun (e38 : ByteArray) => (rt Jr (Qb.mk (zi 1) e38 (zi 6) i0 e35 ([] : List Qc)))) .fail))))) (noN 3 a0.Label (.no false (rt Jr (Qb.mk (zi 1) s_ (zi 6) i0 e35 ([] : List Qc))))))) .fail))) (.as (r1 == 13) (.rows [[xi (zi 1)], [xi (zi 2)], [xi (zi 4)], [xi (zi 8)], [xi (zi 16)], [xi (zi 3)]] (Jc [(zi 1), (zi 2), (zi 4), (zi 8), (zi 16), (zi 3)]) (Jf a0.A (zi 6) fun r39 => (.ask (in1 r39 (((Jc [(zi 1), (zi 2), (zi 4), (zi 8), (zi 16), (zi 3)]).length : Nat) : Int)) (in1 r39 (([(zi 1), (zi 2), (zi 4), (zi 8), (zi 16), (zi 3)].length : Nat) : Int)) (.row ((Jc [(zi 1), (zi 2), (zi 4), (zi 8), (zi 16), (zi 3)])[(Int.toNat r39)]?) ([(zi 1), (zi 2), (zi 4), (zi 8), (zi 16), (zi 3)][(Int.toNat r39)]?) Xq fun (e40 : Int) => (.rows [[xi (-1 : Int), xi (zi 1), xi e40, xs s_, .sl (QN ([] : List Qa))]] (Qj [(Qc.mk (-1 : Int) (Qa.mk (zi 1) e40 s_ ([] : List Qa)))]) (.as a0.Label (yesN 3 a0.Label (.yes true (Vt fun r41 => (Jf a0.B (zi 4) fun r42 => (.as (decide (0 ≤ r42)) (.row ((Qg r41)[(Int.toNat r42)]?) (r41[(Int.toNat r42)]?) Q2 fun (e43 : ByteArray) => (rt Jr (Qb.mk (zi 1) e43 (zi 7) i0 s_ [(Qc.mk (-1 : Int) (Qa.mk (zi 1) e40 s_ ([] : List Qa)))]))) .fail))))) (noN 3 a0.Label (.no false (rt Jr (Qb.mk (zi 1) s_ (zi 7) i0 s_ [(Qc.mk (-1 : Int) (Qa.mk (zi 1) e40 s_ ([] : List Qa)))]))))))) .fail))) (.as (r1 == 14) (.rows [[xi i0], [xi (zi 2)], [xi (zi 100)], [xi (zi 250)], [xi (zi 252)], [xi (zi 254)], [xi (zi 256)], [xi (zi 7)]] (Jc [i0, (zi 2), (zi 100), (zi 250), (zi 252), (zi 254), (zi 256), (zi 7)]) (Jf a0.A (zi 8) fun r44 => (.ask (in1 r44 (((Jc [i0, (zi 2), (zi 100), (zi 250), (zi 252), (zi 254), (zi 256), (zi 7)]).length : Nat) : Int)) (in1 r44 (([i0, (zi 2), (zi 100), (zi 250), (zi 252), (zi 254), (zi 256), (zi 7)].length : Nat) : Int)) (.row ((Jc [i0, (zi 2), (zi 100), (zi 250), (zi 252), (zi 254), (zi 256), (zi 7)])[(Int.toNat r44)]?) ([i0, (zi 2), (zi 100), (zi 250), (zi 252), (zi 254), (zi 256), (zi 7)][(Int.toNat r44)]?) Xq fun (e45 : Int) => (.rows [[xi (-1 : Int), xi (zi 1), xi e45, xs s_, .sl (QN ([] : List Qa))]] (Qj [(Qc.mk (-1 : Int) (Qa.mk (zi 1) e45 s_ ([] : List Qa)))]) (.as a0.Label (yesN 3 a0.Label (.yes true (Vt fun r46 => (Jf a0.B (zi 4) fun r47 => (.as (decide (0 ≤ r47)) (.row ((Qg r46)[(Int.toNat r47)]?) (r46[(Int.toNat r47)]?) Q2 fun (e48 : ByteArray) => (rt Jr (Qb.mk (zi 1) e48 (zi 8) i0 s_ [(Qc.mk (-1 : Int) (Qa.mk (zi 1) e45 s_ ([] : List Qa)))]))) .fail))))) (noN 3 a0.Label (.no false (rt Jr (Qb.mk (zi 1) s_ (zi 8) i0 s_ [(Qc.mk (-1 : Int) (Qa.mk (zi 1) e45 s_ ([] : List Qa)))]))))))) .fail))) (.rows [[xs s_k], [xs Gs], [xs s_x]] (Qg [s_k, Gs, s_x]) (Jf a0.A (zi 3) fun r49 => (.ask (in1 r49 (((Qg [s_k, Gs, s_x]).length : Nat) : Int)) (in1 r49 (([s_k, Gs, s_x].length : Nat) : Int)) (.row ((Qg [s_k, Gs, s_x])[(Int.toNat r49)]?) ([s_k, Gs, s_x][(Int.toNat r49)]?) Q2 fun (e50 : ByteArray) => (Qie a0.E fun r51 => (.rows [[xi (-1 : Int), xi r51.Kind, xi r51.N, xs r51.Name, .sl (QN r51.L)]] (Qj [(Qc.mk (-1 : Int) r51)]) (.as a0.Label (yesN 3 a0.Label (.yes true (Vt fun r52 => (Jf a0.B (zi 4) fun r53 => (.as (decide (0 ≤ r53)) (.row ((Qg r52)[(Int.toNat r53)]?) (r52[(Int.toNat r53)]?) Q2 fun (e54 : ByteArray) => (rt Jr (Qb.mk (zi 1) e54 (zi 9) i0 e50 [(Qc.mk (-1 : Int) r51)]))) .fail))))) (noN 3 a0.Label (.no false (rt Jr (Qb.mk (zi 1) s_ (zi 9) i0 e50 [(Qc.mk (-1 : Int) r51)])))))))) .fail))))))))))
theorem W9.ok {a0 : QJ} {r : Qb} (h : W9 a0 = some r) : ww 25 [.agg (Wd a0)] [] = some (Jr r) := by
 refine fnP (QlN a0) ?_ h
 exact fun r1 h => ⟨QO.ok h, ⟨rfl, fun q0 => fun r2 h => ⟨QO.ok h, fun r3 h => ⟨Xg.ok h, fun r4 h => ⟨VX.ok h, fun o5 h => ⟨Vw.ok h, ⟨rfl, fun q1 => Qi 3 (q1) (⟨rfl, fun r6 h => ⟨JA.ok h, fun r7 h => ⟨QO.ok h, ⟨rfl, fun q2 => fun e8 h => ⟨QT h, rfl⟩, fun q2 => trivial⟩⟩⟩⟩), fun q1 => noN_ok 3 (q1) (⟨rfl, fun q2 => fun r9 h => ⟨JA.ok h, fun r10 h => ⟨QO.ok h, ⟨rfl, fun q3 => fun e11 h => ⟨QT h, rfl⟩, fun q3 => trivial⟩⟩⟩, fun q2 => rfl⟩)⟩⟩⟩⟩⟩, fun q0 => ⟨rfl, fun q1 => fun r12 h => ⟨QO.ok h, ⟨rfl, fun q2 => fun r13 h => ⟨QO.ok h, ⟨rfl, fun r14 h => ⟨QO.ok h, ⟨(JE [(Qc.mk (-1 : Int) (Qa.mk (1 : Int) r13 s_ ([] : List Qa))), (Qc.mk (-1 : Int) (Qa.mk (1 : Int) r14 s_ ([] : List Qa)))]), fun r15 h => ⟨JA.ok h, fun r16 h => ⟨QO.ok h, ⟨rfl, fun q3 => fun e17 h => ⟨QT h, ⟨(JE [(Qc.mk (-1 : Int) (Qa.mk (2 : Int) (0 : Int) e17 ([] : List Qa)))]), ⟨(decide_eq_true (VS _)), ⟨(by rw [Jb, Jb]), fun q4 => ⟨(UV _ _), ⟨rfl, fun q5 => Qi 3 (q5) (⟨rfl, fun r18 h => ⟨JA.ok h, fun r19 h => ⟨QO.ok h, ⟨rfl, fun q6 => fun e20 h => ⟨QT h, rfl⟩, fun q6 => trivial⟩⟩⟩⟩), fun q5 => noN_ok 3 (q5) (⟨rfl, rfl⟩)⟩⟩, fun q4 => trivial⟩⟩⟩⟩, fun q3 => trivial⟩⟩⟩⟩⟩⟩⟩, fun q2 => fun r21 h => ⟨JA.ok h, fun r22 h => ⟨QO.ok h, ⟨rfl, fun q3 => fun e23 h => ⟨QT h, ⟨(JE [(Qc.mk (-1 : Int) (Qa.mk (2 : Int) (0 : Int) e23 ([] : List Qa)))]), ⟨(decide_eq_true (VS _)), ⟨(by rw [Jb, Jb]), fun q4 => ⟨(UV _ _), ⟨rfl, fun q5 => Qi 3 (q5) (⟨rfl, fun r24 h => ⟨JA.ok h, fun r25 h => ⟨QO.ok h, ⟨rfl, fun q6 => fun e26 h => ⟨QT h, rfl⟩, fun q6 => trivial⟩⟩⟩⟩), fun q5 => noN_ok 3 (q5) (⟨rfl, rfl⟩)⟩⟩, fun q4 => trivial⟩⟩⟩⟩, fun q3 => trivial⟩⟩⟩⟩⟩, fun q1 => ⟨rfl, fun q2 => fun r27 h => ⟨W8.ok h, ⟨rfl, fun q3 => Qi 3 (q3) (⟨rfl, fun r28 h => ⟨JA.ok h, fun r29 h => ⟨QO.ok h, ⟨rfl, fun q4 => fun e30 h => ⟨QT h, rfl⟩, fun q4 => trivial⟩⟩⟩⟩), fun q3 => noN_ok 3 (q3) (⟨rfl, fun q4 => fun r31 h => ⟨JA.ok h, fun r32 h => ⟨QO.ok h, ⟨rfl, fun q5 => fun e33 h => ⟨QT h, rfl⟩, fun q5 => trivial⟩⟩⟩, fun q4 => rfl⟩)⟩⟩, fun q2 => ⟨rfl, fun q3 => ⟨(QS [s_, s_hi, UM, WD, Fr]), fun r34 h => ⟨QO.ok h, ⟨(by rw [Qo]), fun q4 => fun e35 h => ⟨QT h, ⟨rfl, fun q5 => Qi 3 (q5) (⟨rfl, fun r36 h => ⟨JA.ok h, fun r37 h => ⟨QO.ok h, ⟨rfl, fun q6 => fun e38 h => ⟨QT h, rfl⟩, fun q6 => trivial⟩⟩⟩⟩), fun q5 => noN_ok 3 (q5) (⟨rfl, rfl⟩)⟩⟩, fun q4 => trivial⟩⟩⟩, fun q3 => ⟨rfl, fun q4 => ⟨(Us [(1 : Int), (2 : Int), (4 : Int), (8 : Int), (16 : Int), (3 : Int)]), fun r39 h => ⟨QO.ok h, ⟨(by rw [Vp]), fun q5 => fun e40 h => ⟨Vy h, ⟨(JE [(Qc.mk (-1 : Int) (Qa.mk (1 : Int) e40 s_ ([] : List Qa)))]), ⟨rfl, fun q6 => Qi 3 (q6) (⟨rfl, fun r41 h => ⟨JA.ok h, fun r42 h => ⟨QO.ok h, ⟨rfl, fun q7 => fun e43 h => ⟨QT h, rfl⟩, fun q7 => trivial⟩⟩⟩⟩), fun q6 => noN_ok 3 (q6) (⟨rfl, rfl⟩)⟩⟩⟩, fun q5 => trivial⟩⟩⟩, fun q4 => ⟨rfl, fun q5 => ⟨(Us [(0 : Int), (2 : Int), (100 : Int), (250 : Int), (252 : Int), (254 : Int), (256 : Int), (7 : Int)]), fun r44 h => ⟨QO.ok h, ⟨(by rw [Vp]), fun q6 => fun e45 h => ⟨Vy h, ⟨(JE [(Qc.mk (-1 : Int) (Qa.mk (1 : Int) e45 s_ ([] : List Qa)))]), ⟨rfl, fun q7 => Qi 3 (q7) (⟨rfl, fun r46 h => ⟨JA.ok h, fun r47 h => ⟨QO.ok h, ⟨rfl, fun q8 => fun e48 h => ⟨QT h, rfl⟩, fun q8 => trivial⟩⟩⟩⟩), fun q7 => noN_ok 3 (q7) (⟨rfl, rfl⟩)⟩⟩⟩, fun q6 => trivial⟩⟩⟩, fun q5 => ⟨(QS [s_k, Gs, s_x]), fun r49 h => ⟨QO.ok h, ⟨(by rw [Qo]), fun q6 => fun e50 h => ⟨QT h, fun r51 h => ⟨XJ.ok h, ⟨(JE [(Qc.mk (-1 : Int) r51)]), ⟨rfl, fun q7 => Qi 3 (q7) (⟨rfl, fun r52 h => ⟨JA.ok h, fun r53 h => ⟨QO.ok h, ⟨rfl, fun q8 => fun e54 h => ⟨QT h, rfl⟩, fun q8 => trivial⟩⟩⟩⟩), fun q7 => noN_ok 3 (q7) (⟨rfl, rfl⟩)⟩⟩⟩⟩, fun q6 => trivial⟩⟩⟩⟩⟩⟩⟩⟩⟩⟩
noncomputable abbrev QlO {ρ R : Type} (a0 : QJ) (k : Qb → Tr ρ R) : Tr ρ R := .call (ww 25 [.agg (Wd a0)] []) (W9 a0) Jr k
abbrev QmT := Int → Option ByteArray
def Qf4 (C0 : QdF) (a0 : Int) : Option ByteArray := ((C0 a0 h_20).bind fun r1 => (some r1.1.Name))
noncomputable def ZO : QmT := Qf4 XB
theorem ZO.eq (a0 : Int) : ZO a0 = Qf4 XB a0 := rfl
noncomputable def QqE (a0 : Int) : Tr ByteArray AH := (QfU a0 h_20 fun r1 => (rt Qk r1.1.Name))
theorem ZO.ok {a0 : Int} {r : ByteArray} (h : ZO a0 = some r) : ww 38 [xi a0] [] = some (Qk r) := by
 refine fnP (QqE a0) ?_ h
 exact fun r1 h => ⟨XB.ok h, rfl⟩
noncomputable abbrev QqF {ρ R : Type} (a0 : Int) (k : ByteArray → Tr ρ R) : Tr ρ R := .call (ww 38 [xi a0] []) (ZO a0) Qk k
abbrev QmU := Qb → Option ByteArray
def Qf5 (C0 : QmT) (a0 : Qb) : Option ByteArray := (bif (a0.Kind == 1) then ((C0 a0.Op).bind fun r1 => (some r1)) else (bif (a0.Kind == 2) then (bif (decide (0 ≤ a0.Op ∧ a0.Op < (([s_b, s_bl, s_bc].length : Nat) : Int))) then (([s_b, s_bl, s_bc][(Int.toNat a0.Op)]?).bind fun e2 => (some e2)) else none) else (bif (a0.Kind == 3) then (some QF) else (bif (a0.Kind == 4) then (some QG) else (bif (a0.Kind == 5) then (some QH) else (bif (a0.Kind == 6) then (some Q0) else (bif (a0.Kind == 7) then (some QA) else (bif (a0.Kind == 8) then (some QB) else (some Jx)))))))))
noncomputable def Y4 : QmU := Qf5 ZO
theorem Y4.eq (a0 : Qb) : Y4 a0 = Qf5 ZO a0 := rfl
noncomputable def QqG (a0 : Qb) : Tr ByteArray AH := (.as (a0.Kind == 1) (QqF a0.Op fun r1 => (rt Qk r1)) (.as (a0.Kind == 2) (.rows [[xs s_b], [xs s_bl], [xs s_bc]] (Qg [s_b, s_bl, s_bc]) (.ask (in1 a0.Op (((Qg [s_b, s_bl, s_bc]).length : Nat) : Int)) (in1 a0.Op (([s_b, s_bl, s_bc].length : Nat) : Int)) (.row ((Qg [s_b, s_bl, s_bc])[(Int.toNat a0.Op)]?) ([s_b, s_bl, s_bc][(Int.toNat a0.Op)]?) Q2 fun (e2 : ByteArray) => (rt Qk e2)) .fail)) (.as (a0.Kind == 3) (rt Qk QF) (.as (a0.Kind == 4) (rt Qk QG) (.as (a0.Kind == 5) (rt Qk QH) (.as (a0.Kind == 6) (rt Qk Q0) (.as (a0.Kind == 7) (rt Qk QA) (.as (a0.Kind == 8) (rt Qk QB) (rt Qk Jx)))))))))
theorem Y4.ok {a0 : Qb} {r : ByteArray} (h : Y4 a0 = some r) : ww 59 [.agg (WN a0)] [] = some (Qk r) := by
 refine fnP (QqG a0) ?_ h
 exact ⟨rfl, fun q0 => fun r1 h => ⟨ZO.ok h, rfl⟩, fun q0 => ⟨rfl, fun q1 => ⟨(QS [s_b, s_bl, s_bc]), ⟨(by rw [Qo]), fun q2 => fun e2 h => ⟨QT h, rfl⟩, fun q2 => trivial⟩⟩, fun q1 => ⟨rfl, fun q2 => rfl, fun q2 => ⟨rfl, fun q3 => rfl, fun q3 => ⟨rfl, fun q4 => rfl, fun q4 => ⟨rfl, fun q5 => rfl, fun q5 => ⟨rfl, fun q6 => rfl, fun q6 => ⟨rfl, fun q7 => rfl, fun q7 => rfl⟩⟩⟩⟩⟩⟩⟩⟩
noncomputable abbrev Qf6 {ρ R : Type} (a0 : Qb) (k : ByteArray → Tr ρ R) : Tr ρ R := .call (ww 59 [.agg (WN a0)] []) (Y4 a0) Qk k
abbrev Y5 := Qa → Option ByteArray
abbrev QlP (c : Y5) : Prop := ∀ (a0 : Qa) (r : ByteArray), c a0 = some r → ww 103 [.agg (Q3 a0)] [] = some (Qk r)
abbrev EO := Qa → Option ByteArray
abbrev QrO (c : EO) : Prop := ∀ (a0 : Qa) (r : ByteArray), c a0 = some r → ww 60 [.agg (Q3 a0)] [] = some (Qk r)
noncomputable abbrev Pw {ρ R : Type} (c : Y5) (a0 : Qa) (k : ByteArray → Tr ρ R) : Tr ρ R := .call (ww 103 [.agg (Q3 a0)] []) (c a0) Qk k
noncomputable abbrev Qf7 {ρ R : Type} (c : EO) (a0 : Qa) (k : ByteArray → Tr ρ R) : Tr ρ R := .call (ww 60 [.agg (Q3 a0)] []) (c a0) Qk k
def YG (C0 : EO) (a0 : Qa) : Option ByteArray := (bif ((((a0.L.length) : Nat) : Int) == 2) then ((C0 a0).bind fun r1 => (bif (decide (((h_28.size + r1.size : Nat) : Int) ≤ IntKind.i64.max)) then (bif (decide ((((h_28 ++ r1).size + h_29.size : Nat) : Int) ≤ IntKind.i64.max)) then (some ((h_28 ++ r1) ++ h_29)) else none) else none)) else ((C0 a0).bind fun r2 => (some r2)))
theorem Qc7 {C0 : Nat → EO} {D0 : EO} (H0 : Cv1 C0 D0) (a0 : Qa) : Cv (fun k => YG (C0 k) a0) (YG D0 a0) := by
 unfold YG
 exact .cond (.bind (H0 _) fun r1 => by exact .const _) (.bind (H0 _) fun r2 => by exact .const _)
noncomputable def Qki (C0 : EO) (a0 : Qa) : Tr ByteArray AH := (.num ((QN a0.L).length) (a0.L.length) (.as ((((a0.L.length) : Nat) : Int) == 2) (Qf7 C0 a0 fun r1 => (.as (decide (((h_28.size + r1.size : Nat) : Int) ≤ IntKind.i64.max)) (.as (decide ((((h_28 ++ r1).size + h_29.size : Nat) : Int) ≤ IntKind.i64.max)) (rt Qk ((h_28 ++ r1) ++ h_29)) .fail) .fail)) (Qf7 C0 a0 fun r2 => (rt Qk r2))))
def Zi (C0 : Xv) (C1 : Y5) (C2 : Qbe) (a0 : Qa) : Option ByteArray := (bif (a0.Kind == 1) then ((C0 a0.N).bind fun r1 => (some r1)) else (bif (a0.Kind == 2) then (some a0.Name) else (bif (a0.Kind == 3) then (some h_2e) else (bif (a0.Kind == 4) then ((a0.L[(Int.toNat 0)]?).bind fun e2 => ((C1 e2).bind fun r3 => (bif (decide (((h_2d.size + r3.size : Nat) : Int) ≤ IntKind.i64.max)) then (some (h_2d ++ r3)) else none))) else ((C2 a0.Kind).bind fun r4 => ((a0.L[(Int.toNat 0)]?).bind fun e5 => ((C1 e5).bind fun r6 => (bif (decide (((r6.size + h_20.size : Nat) : Int) ≤ IntKind.i64.max)) then (bif (decide ((((r6 ++ h_20).size + r4.1.size : Nat) : Int) ≤ IntKind.i64.max)) then (bif (decide (((((r6 ++ h_20) ++ r4.1).size + h_20.size : Nat) : Int) ≤ IntKind.i64.max)) then ((a0.L[(Int.toNat 1)]?).bind fun e7 => ((C1 e7).bind fun r8 => (bif (decide ((((((r6 ++ h_20) ++ r4.1) ++ h_20).size + r8.size : Nat) : Int) ≤ IntKind.i64.max)) then (some ((((r6 ++ h_20) ++ r4.1) ++ h_20) ++ r8)) else none))) else none) else none) else none))))))))
theorem QkU {C0 : Nat → Xv} {D0 : Xv} (H0 : Cv1 C0 D0) {C1 : Nat → Y5} {D1 : Y5} (H1 : Cv1 C1 D1) {C2 : Nat → Qbe} {D2 : Qbe} (H2 : Cv1 C2 D2) (a0 : Qa) : Cv (fun k => Zi (C0 k) (C1 k) (C2 k) a0) (Zi D0 D1 D2 a0) := by
 unfold Zi
 exact .cond (.bind (H0 _) fun r1 => by exact .const _) (.cond cst (.cond cst (.cond (.bind (.const _) fun e2 => .bind (H1 _) fun r3 => by exact .const _) (.bind (H2 _) fun r4 => .bind (.const _) fun e5 => .bind (H1 _) fun r6 => .cond (.cond (.cond (.bind (.const _) fun e7 => .bind (H1 _) fun r8 => by exact .const _) cst) cst) cst))))
noncomputable def QqH (C0 : Y5) (a0 : Qa) : Tr ByteArray AH := (.as (a0.Kind == 1) (PV a0.N fun r1 => (rt Qk r1)) (.as (a0.Kind == 2) (rt Qk a0.Name) (.as (a0.Kind == 3) (rt Qk h_2e) (.as (a0.Kind == 4) (.yes (decide (0 ≤ i0)) (.row ((QN a0.L)[(Int.toNat 0)]?) (a0.L[(Int.toNat 0)]?) Q3 fun (e2 : Qa) => (Pw C0 e2 fun r3 => (.as (decide (((h_2d.size + r3.size : Nat) : Int) ≤ IntKind.i64.max)) (rt Qk (h_2d ++ r3)) .fail)))) (QkT a0.Kind fun r4 => (.yes (decide (0 ≤ i0)) (.row ((QN a0.L)[(Int.toNat 0)]?) (a0.L[(Int.toNat 0)]?) Q3 fun (e5 : Qa) => (Pw C0 e5 fun r6 => (.as (decide (((r6.size + h_20.size : Nat) : Int) ≤ IntKind.i64.max)) (.as (decide ((((r6 ++ h_20).size + r4.1.size : Nat) : Int) ≤ IntKind.i64.max)) (.as (decide (((((r6 ++ h_20) ++ r4.1).size + h_20.size : Nat) : Int) ≤ IntKind.i64.max)) (.yes (decide (0 ≤ (zi 1))) (.row ((QN a0.L)[(Int.toNat 1)]?) (a0.L[(Int.toNat 1)]?) Q3 fun (e7 : Qa) => (Pw C0 e7 fun r8 => (.as (decide ((((((r6 ++ h_20) ++ r4.1) ++ h_20).size + r8.size : Nat) : Int) ≤ IntKind.i64.max)) (rt Qk ((((r6 ++ h_20) ++ r4.1) ++ h_20) ++ r8)) .fail)))) .fail) .fail) .fail)))))))))
mutual
noncomputable def UA.s : Nat → Qa → Option ByteArray
 | 0, _ => none
 | k + 1, a0 => YG (fun a0 => Uf.s k a0) a0
termination_by structural k => k
noncomputable def Uf.s : Nat → Qa → Option ByteArray
 | 0, _ => none
 | k + 1, a0 => Zi Jn (fun a0 => UA.s k a0) YF a0
termination_by structural k => k
end
theorem Qbg : ∀ (k : Nat), (QlP (UA.s k)) ∧ (QrO (Uf.s k))
 | 0 => ⟨fun _ _ h => (nomatch h), fun _ _ h => (nomatch h)⟩
 | k + 1 => by
  obtain ⟨i_r3_bracketed, i_r3_Text⟩ := Qbg k
  exact ⟨fun a0 r h => by
    refine fnP (Qki (Uf.s k) a0) ?_ h
    exact ⟨(GR _), ⟨rfl, fun q0 => fun r1 h => ⟨i_r3_Text _ _ h, ⟨rfl, fun q1 => ⟨rfl, fun q2 => rfl, fun q2 => trivial⟩, fun q1 => trivial⟩⟩, fun q0 => fun r2 h => ⟨i_r3_Text _ _ h, rfl⟩⟩⟩,
   fun a0 r h => by
    refine fnP (QqH (UA.s k) a0) ?_ h
    exact ⟨rfl, fun q0 => fun r1 h => ⟨Jn.ok h, rfl⟩, fun q0 => ⟨rfl, fun q1 => rfl, fun q1 => ⟨rfl, fun q2 => rfl, fun q2 => ⟨rfl, fun q3 => ⟨rfl, fun e2 h => ⟨Zz h, fun r3 h => ⟨i_r3_bracketed _ _ h, ⟨rfl, fun q4 => rfl, fun q4 => trivial⟩⟩⟩⟩, fun q3 => fun r4 h => ⟨YF.ok h, ⟨rfl, fun e5 h => ⟨Zz h, fun r6 h => ⟨i_r3_bracketed _ _ h, ⟨rfl, fun q4 => ⟨rfl, fun q5 => ⟨rfl, fun q6 => ⟨rfl, fun e7 h => ⟨Zz h, fun r8 h => ⟨i_r3_bracketed _ _ h, ⟨rfl, fun q7 => rfl, fun q7 => trivial⟩⟩⟩⟩, fun q6 => trivial⟩, fun q5 => trivial⟩, fun q4 => trivial⟩⟩⟩⟩⟩⟩⟩⟩⟩⟩
theorem Ef : ∀ (k : Nat), (∀ (a0 : Qa), Le (UA.s k a0) (UA.s (k + 1) a0)) ∧ (∀ (a0 : Qa), Le (Uf.s k a0) (Uf.s (k + 1) a0))
 | 0 => ⟨fun _ _ h => (nomatch h), fun _ _ h => (nomatch h)⟩
 | k + 1 => by
  obtain ⟨i_r3_bracketed, i_r3_Text⟩ := Ef k
  exact ⟨fun a0 => (Qc7 (tw1 i_r3_Text) a0).1 0,
   fun a0 => (QkU ks1 (tw1 i_r3_bracketed) ks1 a0).1 0⟩
noncomputable def UA (a0 : Qa) : Option ByteArray := lim fun k => UA.s k a0
theorem UA.cv (a0 : Qa) : Cv (fun k => UA.s k a0) (UA a0) := .lim fun k => (Ef k).1 a0
noncomputable def Uf (a0 : Qa) : Option ByteArray := lim fun k => Uf.s k a0
theorem Uf.cv (a0 : Qa) : Cv (fun k => Uf.s k a0) (Uf a0) := .lim fun k => (Ef k).2 a0
theorem Uf.ok {a0 : Qa} {r : ByteArray} (h : Uf a0 = some r) : ww 60 [.agg (Q3 a0)] [] = some (Qk r) := let ⟨k, e⟩ := ((Uf.cv a0).2 r).1 h; (Qbg k).2 a0 _ e
theorem UA.eq (a0 : Qa) : UA a0 = YG Uf a0 := Cv.uniq (UA.cv a0).shift (Qc7 Uf.cv a0)
theorem Uf.eq (a0 : Qa) : Uf a0 = Zi Jn UA YF a0 := Cv.uniq (Uf.cv a0).shift (QkU ks1 UA.cv ks1 a0)
noncomputable abbrev QqI {ρ R : Type} (a0 : Qa) (k : ByteArray → Tr ρ R) : Tr ρ R := Qf7 Uf a0 k
abbrev QmV := Qb → Option ByteArray
structure QL where
 x3 : ByteArray
 x5 : Int
 h0 : Qb
 r1 : (List ByteArray)
structure Jq where
 x3 : ByteArray
 r0 : (List ByteArray)
def FR (a : QL) : St := { n := 101, nx := 2, env := [(1, .ptr 0 0), (3, xs a.x3), (4, .arr 1), (5, xi a.x5)], heap := [(0, .box [0, 0, 0, 0, 0, 5] (WN a.h0)), (1, .arr true 1 (Qg a.r1))] }
def Qbh (a : Jq) : Ex × St := (.exit 0, { n := 101, nx := 1, env := [(3, xs a.x3), (4, .arr 0)], heap := [(0, .arr true 1 (Qg a.r0))] })
abbrev QhE := QL → Option Jq
def FS (C0 : Xv) (C1 : EO) (a : QL) : Option (QL ⊕ Jq) := (bif (decide (a.x5 < (((a.h0.Args.length) : Nat) : Int))) then (bif (decide (0 ≤ a.x5)) then ((a.h0.Args[(Int.toNat a.x5)]?).bind fun e1 => (bif (decide (e1.Reg ≥ 0)) then ((a.h0.Args[(Int.toNat a.x5)]?).bind fun e2 => ((C0 e2.Reg).bind fun r3 => (bif (decide (((s_r.size + r3.size : Nat) : Int) ≤ IntKind.i64.max)) then (bif (decide ((a.r1.length + [(s_r ++ r3)].length) * 16 ≤ most)) then (some (.inl (QL.mk a.x3 (w64 (a.x5 + 1)) a.h0 (a.r1 ++ [(s_r ++ r3)])))) else none) else none))) else ((a.h0.Args[(Int.toNat a.x5)]?).bind fun e4 => ((C1 e4.E).bind fun r5 => (bif (decide ((a.r1.length + [r5].length) * 16 ≤ most)) then (some (.inl (QL.mk a.x3 (w64 (a.x5 + 1)) a.h0 (a.r1 ++ [r5])))) else none))))) else none) else (some (.inr (Jq.mk a.x3 a.r1))))
noncomputable def Jz : QhE := loopW (FS Jn Uf)
theorem Jz.eq (a : QL) : Jz a = (FS Jn Uf a).bind (Sum.elim Jz some) := Jk _ _
noncomputable abbrev Wm {ρ R : Type} (a : QL) (k0 : Jq → Tr ρ R) : Tr ρ R := .loop (loopAt pp 22 15) (FR a) (Jz a) Qbh k0
noncomputable def QmW (a : QL) : Tr (QL ⊕ Jq) XS := (.num ((Qj a.h0.Args).length) (a.h0.Args.length) (.as (decide (a.x5 < (((a.h0.Args.length) : Nat) : Int))) (let u126 := (decide (0 ≤ a.x5)); .as u126 (.row ((Qj a.h0.Args)[(Int.toNat a.x5)]?) (a.h0.Args[(Int.toNat a.x5)]?) WV fun (e1 : Qc) => (.as (decide (e1.Reg ≥ 0)) (.yes u126 (.row ((Qj a.h0.Args)[(Int.toNat a.x5)]?) (a.h0.Args[(Int.toNat a.x5)]?) WV fun (e2 : Qc) => (PV e2.Reg fun r3 => (.as (decide (((s_r.size + r3.size : Nat) : Int) ≤ IntKind.i64.max)) (.rows [[xs (s_r ++ r3)]] (Qg [(s_r ++ r3)]) (.yes (decide ((Qg [(s_r ++ r3)]).all (fun r => r.length == 1) = true)) (.ask (decide (((Qg a.r1).length + (Qg [(s_r ++ r3)]).length) * 16 ≤ most)) (decide ((a.r1.length + [(s_r ++ r3)].length) * 16 ≤ most)) (.rows ((Qg a.r1) ++ (Qg [(s_r ++ r3)])) (Qg (a.r1 ++ [(s_r ++ r3)])) (lf FR (QL.mk a.x3 (w64 (a.x5 + 1)) a.h0 (a.r1 ++ [(s_r ++ r3)])))) .fail))) .fail)))) (.yes u126 (.row ((Qj a.h0.Args)[(Int.toNat a.x5)]?) (a.h0.Args[(Int.toNat a.x5)]?) WV fun (e4 : Qc) => (QqI e4.E fun r5 => (.rows [[xs r5]] (Qg [r5]) (.yes (decide ((Qg [r5]).all (fun r => r.length == 1) = true)) (.ask (decide (((Qg a.r1).length + (Qg [r5]).length) * 16 ≤ most)) (decide ((a.r1.length + [r5].length) * 16 ≤ most)) (.rows ((Qg a.r1) ++ (Qg [r5])) (Qg (a.r1 ++ [r5])) (lf FR (QL.mk a.x3 (w64 (a.x5 + 1)) a.h0 (a.r1 ++ [r5])))) .fail)))))))) .fail) (rx Qbh (Jq.mk a.x3 a.r1))))
theorem Jz.ok {a : QL} {r : Jq} (h : Jz a = some r) : lw 0 22 (loopAt pp 22 15) (FR a) = some (Qbh r) := by
 refine lpP h QmW fun a => ?_
 exact ⟨(Jb _), ⟨rfl, fun q0 => ⟨rfl, fun q1 => fun e1 h => ⟨Yc h, ⟨rfl, fun q2 => ⟨q1, fun e2 h => ⟨Yc h, fun r3 h => ⟨Jn.ok h, ⟨rfl, fun q3 => ⟨(QS [(s_r ++ r3)]), ⟨(decide_eq_true (J7 _)), ⟨(by rw [Qo, Qo]), fun q4 => ⟨(UQ _ _), rfl⟩, fun q4 => trivial⟩⟩⟩, fun q3 => trivial⟩⟩⟩⟩, fun q2 => ⟨q1, fun e4 h => ⟨Yc h, fun r5 h => ⟨Uf.ok h, ⟨(QS [r5]), ⟨(decide_eq_true (J7 _)), ⟨(by rw [Qo, Qo]), fun q3 => ⟨(UQ _ _), rfl⟩, fun q3 => trivial⟩⟩⟩⟩⟩⟩⟩⟩, fun q1 => trivial⟩, fun q0 => rfl⟩⟩
structure QM where
 x3 : ByteArray
 x6 : Int
 r0 : (List ByteArray)
def FT (a : QM) : St := { n := 101, nx := 1, env := [(3, xs a.x3), (4, .arr 0), (6, xi a.x6)], heap := [(0, .arr true 1 (Qg a.r0))] }
def Qbi (a : ByteArray) : Ex × St := (.exit 2, { n := 101, nx := 0, env := [(3, xs a)], heap := [] })
abbrev QhF := QM → Option ByteArray
def GK (a : QM) : Option (QM ⊕ ByteArray) := (bif (decide (a.x6 < (((a.r0.length) : Nat) : Int))) then (bif (a.x6 == 0) then (bif (decide (((a.x3.size + h_20.size : Nat) : Int) ≤ IntKind.i64.max)) then (bif (decide (0 ≤ a.x6 ∧ a.x6 < ((a.r0.length : Nat) : Int))) then ((a.r0[(Int.toNat a.x6)]?).bind fun e1 => (bif (decide ((((a.x3 ++ h_20).size + e1.size : Nat) : Int) ≤ IntKind.i64.max)) then (some (.inl (QM.mk ((a.x3 ++ h_20) ++ e1) (w64 (a.x6 + 1)) a.r0))) else none)) else none) else none) else (bif (decide (((a.x3.size + Qax.size : Nat) : Int) ≤ IntKind.i64.max)) then (bif (decide (0 ≤ a.x6 ∧ a.x6 < ((a.r0.length : Nat) : Int))) then ((a.r0[(Int.toNat a.x6)]?).bind fun e2 => (bif (decide ((((a.x3 ++ Qax).size + e2.size : Nat) : Int) ≤ IntKind.i64.max)) then (some (.inl (QM.mk ((a.x3 ++ Qax) ++ e2) (w64 (a.x6 + 1)) a.r0))) else none)) else none) else none)) else (some (.inr a.x3)))
noncomputable def Js : QhF := loopW (GK )
theorem Js.eq (a : QM) : Js a = (GK a).bind (Sum.elim Js some) := Jk _ _
noncomputable abbrev Wn {ρ R : Type} (a : QM) (k0 : ByteArray → Tr ρ R) : Tr ρ R := .loop (loopAt pp 22 21) (FT a) (Js a) Qbi k0
noncomputable def QmX (a : QM) : Tr (QM ⊕ ByteArray) XS := (.num ((Qg a.r0).length) (a.r0.length) (.as (decide (a.x6 < (((a.r0.length) : Nat) : Int))) (.as (a.x6 == 0) (.as (decide (((a.x3.size + h_20.size : Nat) : Int) ≤ IntKind.i64.max)) (.ask (in1 a.x6 (((Qg a.r0).length : Nat) : Int)) (in1 a.x6 ((a.r0.length : Nat) : Int)) (.row ((Qg a.r0)[(Int.toNat a.x6)]?) (a.r0[(Int.toNat a.x6)]?) Q2 fun (e1 : ByteArray) => (.as (decide ((((a.x3 ++ h_20).size + e1.size : Nat) : Int) ≤ IntKind.i64.max)) (lf FT (QM.mk ((a.x3 ++ h_20) ++ e1) (w64 (a.x6 + 1)) a.r0)) .fail)) .fail) .fail) (.as (decide (((a.x3.size + Qax.size : Nat) : Int) ≤ IntKind.i64.max)) (.ask (in1 a.x6 (((Qg a.r0).length : Nat) : Int)) (in1 a.x6 ((a.r0.length : Nat) : Int)) (.row ((Qg a.r0)[(Int.toNat a.x6)]?) (a.r0[(Int.toNat a.x6)]?) Q2 fun (e2 : ByteArray) => (.as (decide ((((a.x3 ++ Qax).size + e2.size : Nat) : Int) ≤ IntKind.i64.max)) (lf FT (QM.mk ((a.x3 ++ Qax) ++ e2) (w64 (a.x6 + 1)) a.r0)) .fail)) .fail) .fail)) (rx Qbi a.x3)))
theorem Js.ok {a : QM} {r : ByteArray} (h : Js a = some r) : lw 0 22 (loopAt pp 22 21) (FT a) = some (Qbi r) := by
 refine lpP h QmX fun a => ?_
 exact ⟨(Qo _), ⟨rfl, fun q0 => ⟨rfl, fun q1 => ⟨rfl, fun q2 => ⟨(by rw [Qo]), fun q3 => fun e1 h => ⟨QT h, ⟨rfl, fun q4 => rfl, fun q4 => trivial⟩⟩, fun q3 => trivial⟩, fun q2 => trivial⟩, fun q1 => ⟨rfl, fun q2 => ⟨(by rw [Qo]), fun q3 => fun e2 h => ⟨QT h, ⟨rfl, fun q4 => rfl, fun q4 => trivial⟩⟩, fun q3 => trivial⟩, fun q2 => trivial⟩⟩, fun q0 => rfl⟩⟩
def Qf8 (C0 : QmU) (L1 : QhE) (L2 : QhF) (a0 : Qb) : Option ByteArray := (bif (!(eqS a0.Label s_)) then (bif (decide (((a0.Label.size + h_3a.size : Nat) : Int) ≤ IntKind.i64.max)) then (bif (a0.Kind == 0) then (some (a0.Label ++ h_3a)) else (bif (!(eqS (a0.Label ++ h_3a) s_)) then (bif (decide ((((a0.Label ++ h_3a).size + h_20.size : Nat) : Int) ≤ IntKind.i64.max)) then ((C0 a0).bind fun r1 => (bif (decide (((((a0.Label ++ h_3a) ++ h_20).size + r1.size : Nat) : Int) ≤ IntKind.i64.max)) then (bif (a0.Kind == 6) then (bif (decide (((h_22.size + a0.Text.size : Nat) : Int) ≤ IntKind.i64.max)) then (bif (decide ((((h_22 ++ a0.Text).size + h_22.size : Nat) : Int) ≤ IntKind.i64.max)) then (bif (decide ([((h_22 ++ a0.Text) ++ h_22)].length * 16 ≤ most)) then (bif (a0.Kind == 9) then (bif (decide (([((h_22 ++ a0.Text) ++ h_22)].length + [a0.Text].length) * 16 ≤ most)) then ((L1 (QL.mk (((a0.Label ++ h_3a) ++ h_20) ++ r1) (0 : Int) a0 ([((h_22 ++ a0.Text) ++ h_22)] ++ [a0.Text]))).bind (fun (o2 : Jq) => ((L2 (QM.mk o2.x3 (0 : Int) o2.r0)).bind (fun (o3 : ByteArray) => (some o3))))) else none) else ((L1 (QL.mk (((a0.Label ++ h_3a) ++ h_20) ++ r1) (0 : Int) a0 [((h_22 ++ a0.Text) ++ h_22)])).bind (fun (o4 : Jq) => ((L2 (QM.mk o4.x3 (0 : Int) o4.r0)).bind (fun (o5 : ByteArray) => (some o5)))))) else none) else none) else none) else (bif (a0.Kind == 9) then (bif (decide ([a0.Text].length * 16 ≤ most)) then ((L1 (QL.mk (((a0.Label ++ h_3a) ++ h_20) ++ r1) (0 : Int) a0 [a0.Text])).bind (fun (o6 : Jq) => ((L2 (QM.mk o6.x3 (0 : Int) o6.r0)).bind (fun (o7 : ByteArray) => (some o7))))) else none) else ((L1 (QL.mk (((a0.Label ++ h_3a) ++ h_20) ++ r1) (0 : Int) a0 ([] : List ByteArray))).bind (fun (o8 : Jq) => ((L2 (QM.mk o8.x3 (0 : Int) o8.r0)).bind (fun (o9 : ByteArray) => (some o9))))))) else none)) else none) else ((C0 a0).bind fun r10 => (bif (decide ((((a0.Label ++ h_3a).size + r10.size : Nat) : Int) ≤ IntKind.i64.max)) then (bif (a0.Kind == 6) then (bif (decide (((h_22.size + a0.Text.size : Nat) : Int) ≤ IntKind.i64.max)) then (bif (decide ((((h_22 ++ a0.Text).size + h_22.size : Nat) : Int) ≤ IntKind.i64.max)) then (bif (decide ([((h_22 ++ a0.Text) ++ h_22)].length * 16 ≤ most)) then (bif (a0.Kind == 9) then (bif (decide (([((h_22 ++ a0.Text) ++ h_22)].length + [a0.Text].length) * 16 ≤ most)) then ((L1 (QL.mk ((a0.Label ++ h_3a) ++ r10) (0 : Int) a0 ([((h_22 ++ a0.Text) ++ h_22)] ++ [a0.Text]))).bind (fun (o11 : Jq) => ((L2 (QM.mk o11.x3 (0 : Int) o11.r0)).bind (fun (o12 : ByteArray) => (some o12))))) else none) else ((L1 (QL.mk ((a0.Label ++ h_3a) ++ r10) (0 : Int) a0 [((h_22 ++ a0.Text) ++ h_22)])).bind (fun (o13 : Jq) => ((L2 (QM.mk o13.x3 (0 : Int) o13.r0)).bind (fun (o14 : ByteArray) => (some o14)))))) else none) else none) else none) else (bif (a0.Kind == 9) then (bif (decide ([a0.Text].length * 16 ≤ most)) then ((L1 (QL.mk ((a0.Label ++ h_3a) ++ r10) (0 : Int) a0 [a0.Text])).bind (fun (o15 : Jq) => ((L2 (QM.mk o15.x3 (0 : Int) o15.r0)).bind (fun (o16 : ByteArray) => (some o16))))) else none) else ((L1 (QL.mk ((a0.Label ++ h_3a) ++ r10) (0 : Int) a0 ([] : List ByteArray))).bind (fun (o17 : Jq) => ((L2 (QM.mk o17.x3 (0 : Int) o17.r0)).bind (fun (o18 : ByteArray) => (some o18))))))) else none)))) else none) else (bif (a0.Kind == 0) then (some s_) else ((C0 a0).bind fun r19 => (bif (decide (((s_.size + r19.size : Nat) : Int) ≤ IntKind.i64.max)) then (bif (a0.Kind == 6) then (bif (decide (((h_22.size + a0.Text.size : Nat) : Int) ≤ IntKind.i64.max)) then (bif (decide ((((h_22 ++ a0.Text).size + h_22.size : Nat) : Int) ≤ IntKind.i64.max)) then (bif (decide ([((h_22 ++ a0.Text) ++ h_22)].length * 16 ≤ most)) then (bif (a0.Kind == 9) then (bif (decide (([((h_22 ++ a0.Text) ++ h_22)].length + [a0.Text].length) * 16 ≤ most)) then ((L1 (QL.mk (s_ ++ r19) (0 : Int) a0 ([((h_22 ++ a0.Text) ++ h_22)] ++ [a0.Text]))).bind (fun (o20 : Jq) => ((L2 (QM.mk o20.x3 (0 : Int) o20.r0)).bind (fun (o21 : ByteArray) => (some o21))))) else none) else ((L1 (QL.mk (s_ ++ r19) (0 : Int) a0 [((h_22 ++ a0.Text) ++ h_22)])).bind (fun (o22 : Jq) => ((L2 (QM.mk o22.x3 (0 : Int) o22.r0)).bind (fun (o23 : ByteArray) => (some o23)))))) else none) else none) else none) else (bif (a0.Kind == 9) then (bif (decide ([a0.Text].length * 16 ≤ most)) then ((L1 (QL.mk (s_ ++ r19) (0 : Int) a0 [a0.Text])).bind (fun (o24 : Jq) => ((L2 (QM.mk o24.x3 (0 : Int) o24.r0)).bind (fun (o25 : ByteArray) => (some o25))))) else none) else ((L1 (QL.mk (s_ ++ r19) (0 : Int) a0 ([] : List ByteArray))).bind (fun (o26 : Jq) => ((L2 (QM.mk o26.x3 (0 : Int) o26.r0)).bind (fun (o27 : ByteArray) => (some o27))))))) else none))))
noncomputable def Y6 : QmV := Qf8 Y4 Jz Js
theorem Y6.eq (a0 : Qb) : Y6 a0 = Qf8 Y4 Jz Js a0 := rfl
noncomputable def QqJ (a0 : Qb) : Tr ByteArray AH := (.as (!(eqS a0.Label s_)) (.as (decide (((a0.Label.size + h_3a.size : Nat) : Int) ≤ IntKind.i64.max)) (.as (a0.Kind == 0) (rt Qk (a0.Label ++ h_3a)) (.as (!(eqS (a0.Label ++ h_3a) s_)) (.as (decide ((((a0.Label ++ h_3a).size + h_20.size : Nat) : Int) ≤ IntKind.i64.max)) (Qf6 a0 fun r1 => (.as (decide (((((a0.Label ++ h_3a) ++ h_20).size + r1.size : Nat) : Int) ≤ IntKind.i64.max)) (.as (a0.Kind == 6) (.as (decide (((h_22.size + a0.Text.size : Nat) : Int) ≤ IntKind.i64.max)) (.as (decide ((((h_22 ++ a0.Text).size + h_22.size : Nat) : Int) ≤ IntKind.i64.max)) (.rows [[xs ((h_22 ++ a0.Text) ++ h_22)]] (Qg [((h_22 ++ a0.Text) ++ h_22)]) (.yes (decide ((Qg [((h_22 ++ a0.Text) ++ h_22)]).all (fun r => r.length == 1) = true)) (.ask (decide ((Qg [((h_22 ++ a0.Text) ++ h_22)]).length * 16 ≤ most)) (decide ([((h_22 ++ a0.Text) ++ h_22)].length * 16 ≤ most)) (.rows (Qg [((h_22 ++ a0.Text) ++ h_22)]) (Qg [((h_22 ++ a0.Text) ++ h_22)]) (.as (a0.Kind == 9) (.rows [[xs a0.Text]] (Qg [a0.Text]) (.yes (decide ((Qg [a0.Text]).all (fun r => r.length == 1) = true)) (.ask (decide (((Qg [((h_22 ++ a0.Text) ++ h_22)]).length + (Qg [a0.Text]).length) * 16 ≤ most)) (decide (([((h_22 ++ a0.Text) ++ h_22)].length + [a0.Text].length) * 16 ≤ most)) (.rows ((Qg [((h_22 ++ a0.Text) ++ h_22)]) ++ (Qg [a0.Text])) (Qg ([((h_22 ++ a0.Text) ++ h_22)] ++ [a0.Text])) (Wm (QL.mk (((a0.Label ++ h_3a) ++ h_20) ++ r1) i0 a0 ([((h_22 ++ a0.Text) ++ h_22)] ++ [a0.Text])) (fun o2 => (Wn (QM.mk o2.x3 i0 o2.r0) (fun o3 => (rt Qk o3)))))) .fail))) (Wm (QL.mk (((a0.Label ++ h_3a) ++ h_20) ++ r1) i0 a0 [((h_22 ++ a0.Text) ++ h_22)]) (fun o4 => (Wn (QM.mk o4.x3 i0 o4.r0) (fun o5 => (rt Qk o5))))))) .fail))) .fail) .fail) (.as (a0.Kind == 9) (.rows [[xs a0.Text]] (Qg [a0.Text]) (.yes (decide ((Qg [a0.Text]).all (fun r => r.length == 1) = true)) (.ask (decide ((Qg [a0.Text]).length * 16 ≤ most)) (decide ([a0.Text].length * 16 ≤ most)) (.rows (Qg [a0.Text]) (Qg [a0.Text]) (Wm (QL.mk (((a0.Label ++ h_3a) ++ h_20) ++ r1) i0 a0 [a0.Text]) (fun o6 => (Wn (QM.mk o6.x3 i0 o6.r0) (fun o7 => (rt Qk o7)))))) .fail))) (Wm (QL.mk (((a0.Label ++ h_3a) ++ h_20) ++ r1) i0 a0 ([] : List ByteArray)) (fun o8 => (Wn (QM.mk o8.x3 i0 o8.r0) (fun o9 => (rt Qk o9))))))) .fail)) .fail) (Qf6 a0 fun r10 => (.as (decide ((((a0.Label ++ h_3a).size + r10.size : Nat) : Int) ≤ IntKind.i64.max)) (.as (a0.Kind == 6) (.as (decide (((h_22.size + a0.Text.size : Nat) : Int) ≤ IntKind.i64.max)) (.as (decide ((((h_22 ++ a0.Text).size + h_22.size : Nat) : Int) ≤ IntKind.i64.max)) (.rows [[xs ((h_22 ++ a0.Text) ++ h_22)]] (Qg [((h_22 ++ a0.Text) ++ h_22)]) (.yes (decide ((Qg [((h_22 ++ a0.Text) ++ h_22)]).all (fun r => r.length == 1) = true)) (.ask (decide ((Qg [((h_22 ++ a0.Text) ++ h_22)]).length * 16 ≤ most)) (decide ([((h_22 ++ a0.Text) ++ h_22)].length * 16 ≤ most)) (.rows (Qg [((h_22 ++ a0.Text) ++ h_22)]) (Qg [((h_22 ++ a0.Text) ++ h_22)]) (.as (a0.Kind == 9) (.rows [[xs a0.Text]] (Qg [a0.Text]) (.yes (decide ((Qg [a0.Text]).all (fun r => r.length == 1) = true)) (.ask (decide (((Qg [((h_22 ++ a0.Text) ++ h_22)]).length + (Qg [a0.Text]).length) * 16 ≤ most)) (decide (([((h_22 ++ a0.Text) ++ h_22)].length + [a0.Text].length) * 16 ≤ most)) (.rows ((Qg [((h_22 ++ a0.Text) ++ h_22)]) ++ (Qg [a0.Text])) (Qg ([((h_22 ++ a0.Text) ++ h_22)] ++ [a0.Text])) (Wm (QL.mk ((a0.Label ++ h_3a) ++ r10) i0 a0 ([((h_22 ++ a0.Text) ++ h_22)] ++ [a0.Text])) (fun o11 => (Wn (QM.mk o11.x3 i0 o11.r0) (fun o12 => (rt Qk o12)))))) .fail))) (Wm (QL.mk ((a0.Label ++ h_3a) ++ r10) i0 a0 [((h_22 ++ a0.Text) ++ h_22)]) (fun o13 => (Wn (QM.mk o13.x3 i0 o13.r0) (fun o14 => (rt Qk o14))))))) .fail))) .fail) .fail) (.as (a0.Kind == 9) (.rows [[xs a0.Text]] (Qg [a0.Text]) (.yes (decide ((Qg [a0.Text]).all (fun r => r.length == 1) = true)) (.ask (decide ((Qg [a0.Text]).length * 16 ≤ most)) (decide ([a0.Text].length * 16 ≤ most)) (.rows (Qg [a0.Text]) (Qg [a0.Text]) (Wm (QL.mk ((a0.Label ++ h_3a) ++ r10) i0 a0 [a0.Text]) (fun o15 => (Wn (QM.mk o15.x3 i0 o15.r0) (fun o16 => (rt Qk o16)))))) .fail))) (Wm (QL.mk ((a0.Label ++ h_3a) ++ r10) i0 a0 ([] : List ByteArray)) (fun o17 => (Wn (QM.mk o17.x3 i0 o17.r0) (fun o18 => (rt Qk o18))))))) .fail)))) .fail) (.as (a0.Kind == 0) (rt Qk s_) (.no false (Qf6 a0 fun r19 => (.as (decide (((s_.size + r19.size : Nat) : Int) ≤ IntKind.i64.max)) (.as (a0.Kind == 6) (.as (decide (((h_22.size + a0.Text.size : Nat) : Int) ≤ IntKind.i64.max)) (.as (decide ((((h_22 ++ a0.Text).size + h_22.size : Nat) : Int) ≤ IntKind.i64.max)) (.rows [[xs ((h_22 ++ a0.Text) ++ h_22)]] (Qg [((h_22 ++ a0.Text) ++ h_22)]) (.yes (decide ((Qg [((h_22 ++ a0.Text) ++ h_22)]).all (fun r => r.length == 1) = true)) (.ask (decide ((Qg [((h_22 ++ a0.Text) ++ h_22)]).length * 16 ≤ most)) (decide ([((h_22 ++ a0.Text) ++ h_22)].length * 16 ≤ most)) (.rows (Qg [((h_22 ++ a0.Text) ++ h_22)]) (Qg [((h_22 ++ a0.Text) ++ h_22)]) (.as (a0.Kind == 9) (.rows [[xs a0.Text]] (Qg [a0.Text]) (.yes (decide ((Qg [a0.Text]).all (fun r => r.length == 1) = true)) (.ask (decide (((Qg [((h_22 ++ a0.Text) ++ h_22)]).length + (Qg [a0.Text]).length) * 16 ≤ most)) (decide (([((h_22 ++ a0.Text) ++ h_22)].length + [a0.Text].length) * 16 ≤ most)) (.rows ((Qg [((h_22 ++ a0.Text) ++ h_22)]) ++ (Qg [a0.Text])) (Qg ([((h_22 ++ a0.Text) ++ h_22)] ++ [a0.Text])) (Wm (QL.mk (s_ ++ r19) i0 a0 ([((h_22 ++ a0.Text) ++ h_22)] ++ [a0.Text])) (fun o20 => (Wn (QM.mk o20.x3 i0 o20.r0) (fun o21 => (rt Qk o21)))))) .fail))) (Wm (QL.mk (s_ ++ r19) i0 a0 [((h_22 ++ a0.Text) ++ h_22)]) (fun o22 => (Wn (QM.mk o22.x3 i0 o22.r0) (fun o23 => (rt Qk o23))))))) .fail))) .fail) .fail) (.as (a0.Kind == 9) (.rows [[xs a0.Text]] (Qg [a0.Text]) (.yes (decide ((Qg [a0.Text]).all (fun r => r.length == 1) = true)) (.ask (decide ((Qg [a0.Text]).length * 16 ≤ most)) (decide ([a0.Text].length * 16 ≤ most)) (.rows (Qg [a0.Text]) (Qg [a0.Text]) (Wm (QL.mk (s_ ++ r19) i0 a0 [a0.Text]) (fun o24 => (Wn (QM.mk o24.x3 i0 o24.r0) (fun o25 => (rt Qk o25)))))) .fail))) (Wm (QL.mk (s_ ++ r19) i0 a0 ([] : List ByteArray)) (fun o26 => (Wn (QM.mk o26.x3 i0 o26.r0) (fun o27 => (rt Qk o27))))))) .fail)))))
theorem Y6.ok {a0 : Qb} {r : ByteArray} (h : Y6 a0 = some r) : ww 22 [.agg (WN a0)] [] = some (Qk r) := by
 refine fnP (QqJ a0) ?_ h
 exact ⟨rfl, fun q0 => ⟨rfl, fun q1 => ⟨rfl, fun q2 => rfl, fun q2 => ⟨rfl, fun q3 => ⟨rfl, fun q4 => fun r1 h => ⟨Y4.ok h, ⟨rfl, fun q5 => ⟨rfl, fun q6 => ⟨rfl, fun q7 => ⟨rfl, fun q8 => ⟨(QS [((h_22 ++ a0.Text) ++ h_22)]), ⟨(decide_eq_true (J7 _)), ⟨(by rw [Qo]), fun q9 => ⟨rfl, ⟨rfl, fun q10 => ⟨(QS [a0.Text]), ⟨(decide_eq_true (J7 _)), ⟨(by rw [Qo, Qo]), fun q11 => ⟨(UQ _ _), fun o2 h => ⟨Jz.ok h, fun o3 h => ⟨Js.ok h, rfl⟩⟩⟩, fun q11 => trivial⟩⟩⟩, fun q10 => fun o4 h => ⟨Jz.ok h, fun o5 h => ⟨Js.ok h, rfl⟩⟩⟩⟩, fun q9 => trivial⟩⟩⟩, fun q8 => trivial⟩, fun q7 => trivial⟩, fun q6 => ⟨rfl, fun q7 => ⟨(QS [a0.Text]), ⟨(decide_eq_true (J7 _)), ⟨(by rw [Qo]), fun q8 => ⟨rfl, fun o6 h => ⟨Jz.ok h, fun o7 h => ⟨Js.ok h, rfl⟩⟩⟩, fun q8 => trivial⟩⟩⟩, fun q7 => fun o8 h => ⟨Jz.ok h, fun o9 h => ⟨Js.ok h, rfl⟩⟩⟩⟩, fun q5 => trivial⟩⟩, fun q4 => trivial⟩, fun q3 => fun r10 h => ⟨Y4.ok h, ⟨rfl, fun q4 => ⟨rfl, fun q5 => ⟨rfl, fun q6 => ⟨rfl, fun q7 => ⟨(QS [((h_22 ++ a0.Text) ++ h_22)]), ⟨(decide_eq_true (J7 _)), ⟨(by rw [Qo]), fun q8 => ⟨rfl, ⟨rfl, fun q9 => ⟨(QS [a0.Text]), ⟨(decide_eq_true (J7 _)), ⟨(by rw [Qo, Qo]), fun q10 => ⟨(UQ _ _), fun o11 h => ⟨Jz.ok h, fun o12 h => ⟨Js.ok h, rfl⟩⟩⟩, fun q10 => trivial⟩⟩⟩, fun q9 => fun o13 h => ⟨Jz.ok h, fun o14 h => ⟨Js.ok h, rfl⟩⟩⟩⟩, fun q8 => trivial⟩⟩⟩, fun q7 => trivial⟩, fun q6 => trivial⟩, fun q5 => ⟨rfl, fun q6 => ⟨(QS [a0.Text]), ⟨(decide_eq_true (J7 _)), ⟨(by rw [Qo]), fun q7 => ⟨rfl, fun o15 h => ⟨Jz.ok h, fun o16 h => ⟨Js.ok h, rfl⟩⟩⟩, fun q7 => trivial⟩⟩⟩, fun q6 => fun o17 h => ⟨Jz.ok h, fun o18 h => ⟨Js.ok h, rfl⟩⟩⟩⟩, fun q4 => trivial⟩⟩⟩⟩, fun q1 => trivial⟩, fun q0 => ⟨rfl, fun q1 => rfl, fun q1 => ⟨rfl, fun r19 h => ⟨Y4.ok h, ⟨rfl, fun q2 => ⟨rfl, fun q3 => ⟨rfl, fun q4 => ⟨rfl, fun q5 => ⟨(QS [((h_22 ++ a0.Text) ++ h_22)]), ⟨(decide_eq_true (J7 _)), ⟨(by rw [Qo]), fun q6 => ⟨rfl, ⟨rfl, fun q7 => ⟨(QS [a0.Text]), ⟨(decide_eq_true (J7 _)), ⟨(by rw [Qo, Qo]), fun q8 => ⟨(UQ _ _), fun o20 h => ⟨Jz.ok h, fun o21 h => ⟨Js.ok h, rfl⟩⟩⟩, fun q8 => trivial⟩⟩⟩, fun q7 => fun o22 h => ⟨Jz.ok h, fun o23 h => ⟨Js.ok h, rfl⟩⟩⟩⟩, fun q6 => trivial⟩⟩⟩, fun q5 => trivial⟩, fun q4 => trivial⟩, fun q3 => ⟨rfl, fun q4 => ⟨(QS [a0.Text]), ⟨(decide_eq_true (J7 _)), ⟨(by rw [Qo]), fun q5 => ⟨rfl, fun o24 h => ⟨Jz.ok h, fun o25 h => ⟨Js.ok h, rfl⟩⟩⟩, fun q5 => trivial⟩⟩⟩, fun q4 => fun o26 h => ⟨Jz.ok h, fun o27 h => ⟨Js.ok h, rfl⟩⟩⟩⟩, fun q2 => trivial⟩⟩⟩⟩⟩
noncomputable abbrev QqK {ρ R : Type} (a0 : Qb) (k : ByteArray → Tr ρ R) : Tr ρ R := .call (ww 22 [.agg (WN a0)] []) (Y6 a0) Qk k
abbrev QmY := ByteArray → Option ByteArray
structure Ul where
 x0 : ByteArray
 x3 : Bool
 x4 : Int
def ZP (a : Ul) : St := { n := 29, nx := 0, env := [(0, xs a.x0), (3, xo a.x3), (4, xi a.x4)], heap := [] }
def Qet (a : ByteArray) : Ex × St := (.ret, { n := 29, nx := 0, env := [(2, xs a)], heap := [] })
def Qeu (a : ByteArray) : Ex × St := (.exit 0, { n := 29, nx := 0, env := [(0, xs a)], heap := [] })
def FU (a : (ByteArray ⊕ ByteArray)) : Ex × St := Sum.elim Qet Qeu a
abbrev QhG := Ul → Option (ByteArray ⊕ ByteArray)
def FV (a : Ul) : Option (Ul ⊕ (ByteArray ⊕ ByteArray)) := (bif (decide (a.x4 < ((a.x0.size : Nat) : Int))) then (bif (decide (0 ≤ a.x4 ∧ a.x4 < ((a.x0.size : Nat) : Int))) then (bif (((a.x0.data.getD (Int.toNat a.x4) 0).toNat : Int) == 34) then (bif (((a.x0.data.getD (Int.toNat a.x4) 0).toNat : Int) == 35) then (bif (!(!a.x3)) then (bif (decide (0 ≤ (0 : Int) ∧ (0 : Int) ≤ a.x4 ∧ a.x4 ≤ ((a.x0.size : Nat) : Int))) then (some (.inr (.inl (a.x0.extract (Int.toNat 0) (Int.toNat a.x4))))) else none) else (some (.inl (Ul.mk a.x0 (!a.x3) (w64 (a.x4 + 1)))))) else (some (.inl (Ul.mk a.x0 (!a.x3) (w64 (a.x4 + 1)))))) else (bif (((a.x0.data.getD (Int.toNat a.x4) 0).toNat : Int) == 35) then (bif (!a.x3) then (bif (decide (0 ≤ (0 : Int) ∧ (0 : Int) ≤ a.x4 ∧ a.x4 ≤ ((a.x0.size : Nat) : Int))) then (some (.inr (.inl (a.x0.extract (Int.toNat 0) (Int.toNat a.x4))))) else none) else (some (.inl (Ul.mk a.x0 a.x3 (w64 (a.x4 + 1)))))) else (some (.inl (Ul.mk a.x0 a.x3 (w64 (a.x4 + 1))))))) else none) else (some (.inr (.inr a.x0))))
noncomputable def Wl : QhG := loopW (FV )
theorem Wl.eq (a : Ul) : Wl a = (FV a).bind (Sum.elim Wl some) := Jk _ _
noncomputable abbrev QmZ {ρ R : Type} (a : Ul) (k0 : ByteArray → Tr ρ R) (k1 : ByteArray → Tr ρ R) : Tr ρ R := .loop2 (loopAt pp 54 3) (ZP a) (Wl a) Qet Qeu k0 k1
noncomputable def Qm0 (a : Ul) : Tr (Ul ⊕ (ByteArray ⊕ ByteArray)) XS := (.as (decide (a.x4 < (zz a.x0))) (let u129 := (in1 a.x4 (zz a.x0)); .as u129 (.as ((gb a.x0 a.x4) == 34) (.yes u129 (let u127 := ((gb a.x0 a.x4) == 35); .as u127 (yesN 2 u127 (.as (!(!a.x3)) (.as (in2 i0 a.x4 (zz a.x0)) (rx FU (.inl (cu a.x0 i0 a.x4))) .fail) (lf ZP (Ul.mk a.x0 (!a.x3) (w64 (a.x4 + 1)))))) (noN 2 u127 (.no false (lf ZP (Ul.mk a.x0 (!a.x3) (w64 (a.x4 + 1)))))))) (.yes u129 (let u128 := ((gb a.x0 a.x4) == 35); .as u128 (yesN 2 u128 (.as (!a.x3) (.as (in2 i0 a.x4 (zz a.x0)) (rx FU (.inl (cu a.x0 i0 a.x4))) .fail) (lf ZP (Ul.mk a.x0 a.x3 (w64 (a.x4 + 1)))))) (noN 2 u128 (.no false (lf ZP (Ul.mk a.x0 a.x3 (w64 (a.x4 + 1))))))))) .fail) (rx FU (.inr a.x0)))
theorem Wl.ok {a : Ul} {r : (ByteArray ⊕ ByteArray)} (h : Wl a = some r) : lw 0 54 (loopAt pp 54 3) (ZP a) = some (FU r) := by
 refine lpP h Qm0 fun a => ?_
 exact ⟨rfl, fun q0 => ⟨rfl, fun q1 => ⟨rfl, fun q2 => ⟨q1, ⟨rfl, fun q3 => Qi 2 (q3) (⟨rfl, fun q4 => ⟨rfl, fun q5 => rfl, fun q5 => trivial⟩, fun q4 => rfl⟩), fun q3 => noN_ok 2 (q3) (⟨rfl, rfl⟩)⟩⟩, fun q2 => ⟨q1, ⟨rfl, fun q3 => Qi 2 (q3) (⟨rfl, fun q4 => ⟨rfl, fun q5 => rfl, fun q5 => trivial⟩, fun q4 => rfl⟩), fun q3 => noN_ok 2 (q3) (⟨rfl, rfl⟩)⟩⟩⟩, fun q1 => trivial⟩, fun q0 => rfl⟩
def Qf9 (L0 : QhG) (a0 : ByteArray) : Option ByteArray := ((L0 (Ul.mk a0 false (0 : Int))).bind fun x => Sum.elim (fun (o1 : ByteArray) => (some o1)) (fun (o2 : ByteArray) => (some o2)) x)
noncomputable def Z9 : QmY := Qf9 Wl
theorem Z9.eq (a0 : ByteArray) : Z9 a0 = Qf9 Wl a0 := rfl
noncomputable def QqL (a0 : ByteArray) : Tr ByteArray AH := (QmZ (Ul.mk a0 false i0) (fun o1 => (rt Qk o1)) (fun o2 => (rt Qk o2)))
theorem Z9.ok {a0 : ByteArray} {r : ByteArray} (h : Z9 a0 = some r) : ww 54 [xs a0] [] = some (Qk r) := by
 refine fnP (QqL a0) ?_ h
 exact ⟨fun o1 h => ⟨Wl.ok (r := (.inl _)) h, rfl⟩, fun o2 h => ⟨Wl.ok (r := (.inr _)) h, rfl⟩⟩
noncomputable abbrev QqM {ρ R : Type} (a0 : ByteArray) (k : ByteArray → Tr ρ R) : Tr ρ R := .call (ww 54 [xs a0] []) (Z9 a0) Qk k
abbrev QdJ := ByteArray → Option ByteArray
def FW (a : ByteArray) : St := { n := 43, nx := 0, env := [(0, xs a)], heap := [] }
def FX (a : ByteArray) : Ex × St := (.exit 0, { n := 43, nx := 0, env := [(0, xs a)], heap := [] })
abbrev QhH := ByteArray → Option ByteArray
def Qbj (a : ByteArray) : Option (ByteArray ⊕ ByteArray) := (bif (decide (((a.size : Nat) : Int) > 0)) then (bif (decide (0 ≤ (0 : Int) ∧ (0 : Int) < ((a.size : Nat) : Int))) then (bif (((a.data.getD (Int.toNat 0) 0).toNat : Int) == 32) then (bif (decide (0 ≤ (1 : Int) ∧ (1 : Int) ≤ ((a.size : Nat) : Int) ∧ ((a.size : Nat) : Int) ≤ ((a.size : Nat) : Int))) then (some (.inl (a.extract (Int.toNat 1) (Int.toNat ((a.size : Nat) : Int))))) else none) else (bif (((a.data.getD (Int.toNat 0) 0).toNat : Int) == 9) then (bif (decide (0 ≤ (1 : Int) ∧ (1 : Int) ≤ ((a.size : Nat) : Int) ∧ ((a.size : Nat) : Int) ≤ ((a.size : Nat) : Int))) then (some (.inl (a.extract (Int.toNat 1) (Int.toNat ((a.size : Nat) : Int))))) else none) else (some (.inr a)))) else none) else (some (.inr a)))
noncomputable def Xd : QhH := loopW (Qbj )
theorem Xd.eq (a : ByteArray) : Xd a = (Qbj a).bind (Sum.elim Xd some) := Jk _ _
noncomputable abbrev Qm1 {ρ R : Type} (a : ByteArray) (k0 : ByteArray → Tr ρ R) : Tr ρ R := .loop (loopAt pp 53 1) (FW a) (Xd a) FX k0
noncomputable def Qm2 (a : ByteArray) : Tr (ByteArray ⊕ ByteArray) XS := (let u132 := (decide ((zz a) > 0)); .as u132 (.yes u132 (let u131 := (in1 i0 (zz a)); .as u131 (yesN 2 u132 (let u130 := ((gb a i0) == 32); .as u130 (yesN 2 u130 (.yes u132 (.yes u130 (.yes u132 (.yes true (.as (in2 (zi 1) (zz a) (zz a)) (lf FW (cu a (zi 1) (zz a))) .fail)))))) (.no u130 (.yes u131 (.no u130 (.yes u132 (.no u130 (.yes u132 (.as ((gb a i0) == 9) (.as (in2 (zi 1) (zz a) (zz a)) (lf FW (cu a (zi 1) (zz a))) .fail) (rx FX a)))))))))) .fail)) (noN 5 u132 (.no false (rx FX a))))
theorem Xd.ok {a : ByteArray} {r : ByteArray} (h : Xd a = some r) : lw 0 53 (loopAt pp 53 1) (FW a) = some (FX r) := by
 refine lpP h Qm2 fun a => ?_
 exact ⟨rfl, fun q0 => ⟨q0, ⟨rfl, fun q1 => Qi 2 (q0) (⟨rfl, fun q2 => Qi 2 (q2) (⟨q0, ⟨q2, ⟨q0, ⟨rfl, ⟨rfl, fun q3 => rfl, fun q3 => trivial⟩⟩⟩⟩⟩), fun q2 => ⟨q2, ⟨q1, ⟨q2, ⟨q0, ⟨q2, ⟨q0, ⟨rfl, fun q3 => ⟨rfl, fun q4 => rfl, fun q4 => trivial⟩, fun q3 => rfl⟩⟩⟩⟩⟩⟩⟩⟩), fun q1 => trivial⟩⟩, fun q0 => noN_ok 5 (q0) (⟨rfl, rfl⟩)⟩
def FY (a : ByteArray) : St := { n := 43, nx := 0, env := [(0, xs a)], heap := [] }
def FZ (a : ByteArray) : Ex × St := (.exit 2, { n := 43, nx := 0, env := [(0, xs a)], heap := [] })
abbrev QhI := ByteArray → Option ByteArray
def Qbk (a : ByteArray) : Option (ByteArray ⊕ ByteArray) := (bif (decide (((a.size : Nat) : Int) > 0)) then (bif (decide (0 ≤ (w64 (((a.size : Nat) : Int) - 1)) ∧ (w64 (((a.size : Nat) : Int) - 1)) < ((a.size : Nat) : Int))) then (bif (((a.data.getD (Int.toNat (w64 (((a.size : Nat) : Int) - 1))) 0).toNat : Int) == 32) then (bif (decide (0 ≤ (0 : Int) ∧ (0 : Int) ≤ (w64 (((a.size : Nat) : Int) - 1)) ∧ (w64 (((a.size : Nat) : Int) - 1)) ≤ ((a.size : Nat) : Int))) then (some (.inl (a.extract (Int.toNat 0) (Int.toNat (w64 (((a.size : Nat) : Int) - 1)))))) else none) else (bif (((a.data.getD (Int.toNat (w64 (((a.size : Nat) : Int) - 1))) 0).toNat : Int) == 9) then (bif (decide (0 ≤ (0 : Int) ∧ (0 : Int) ≤ (w64 (((a.size : Nat) : Int) - 1)) ∧ (w64 (((a.size : Nat) : Int) - 1)) ≤ ((a.size : Nat) : Int))) then (some (.inl (a.extract (Int.toNat 0) (Int.toNat (w64 (((a.size : Nat) : Int) - 1)))))) else none) else (some (.inr a)))) else none) else (some (.inr a)))
noncomputable def Xe : QhI := loopW (Qbk )
theorem Xe.eq (a : ByteArray) : Xe a = (Qbk a).bind (Sum.elim Xe some) := Jk _ _
noncomputable abbrev Qm3 {ρ R : Type} (a : ByteArray) (k0 : ByteArray → Tr ρ R) : Tr ρ R := .loop (loopAt pp 53 3) (FY a) (Xe a) FZ k0
noncomputable def Qm4 (a : ByteArray) : Tr (ByteArray ⊕ ByteArray) XS := (let u135 := (decide ((zz a) > 0)); .as u135 (yesN 4 u135 (let u134 := (in1 (w64 ((zz a) - 1)) (zz a)); .as u134 (yesN 2 u135 (let u133 := ((gb a (w64 ((zz a) - 1))) == 32); .as u133 (yesN 5 u133 (.yes u135 (.yes u133 (.yes u135 (.yes true (.as (in2 i0 (w64 ((zz a) - 1)) (zz a)) (lf FY (cu a i0 (w64 ((zz a) - 1)))) .fail)))))) (noN 4 u133 (.yes u134 (.no u133 (.yes u135 (.no u133 (.yes u135 (.as ((gb a (w64 ((zz a) - 1))) == 9) (.as (in2 i0 (w64 ((zz a) - 1)) (zz a)) (lf FY (cu a i0 (w64 ((zz a) - 1)))) .fail) (rx FZ a)))))))))) .fail)) (noN 8 u135 (.no false (rx FZ a))))
theorem Xe.ok {a : ByteArray} {r : ByteArray} (h : Xe a = some r) : lw 0 53 (loopAt pp 53 3) (FY a) = some (FZ r) := by
 refine lpP h Qm4 fun a => ?_
 exact ⟨rfl, fun q0 => Qi 4 (q0) (⟨rfl, fun q1 => Qi 2 (q0) (⟨rfl, fun q2 => Qi 5 (q2) (⟨q0, ⟨q2, ⟨q0, ⟨rfl, ⟨rfl, fun q3 => rfl, fun q3 => trivial⟩⟩⟩⟩⟩), fun q2 => noN_ok 4 (q2) (⟨q1, ⟨q2, ⟨q0, ⟨q2, ⟨q0, ⟨rfl, fun q3 => ⟨rfl, fun q4 => rfl, fun q4 => trivial⟩, fun q3 => rfl⟩⟩⟩⟩⟩⟩)⟩), fun q1 => trivial⟩), fun q0 => noN_ok 8 (q0) (⟨rfl, rfl⟩)⟩
def Qga (L0 : QhH) (L1 : QhI) (a0 : ByteArray) : Option ByteArray := ((L0 a0).bind (fun (o1 : ByteArray) => ((L1 o1).bind (fun (o2 : ByteArray) => (some o2)))))
noncomputable def V0 : QdJ := Qga Xd Xe
theorem V0.eq (a0 : ByteArray) : V0 a0 = Qga Xd Xe a0 := rfl
noncomputable def QqN (a0 : ByteArray) : Tr ByteArray AH := (Qm1 a0 (fun o1 => (Qm3 o1 (fun o2 => (rt Qk o2)))))
theorem V0.ok {a0 : ByteArray} {r : ByteArray} (h : V0 a0 = some r) : ww 53 [xs a0] [] = some (Qk r) := by
 refine fnP (QqN a0) ?_ h
 exact fun o1 h => ⟨Xd.ok h, fun o2 h => ⟨Xe.ok h, rfl⟩⟩
noncomputable abbrev Zj {ρ R : Type} (a0 : ByteArray) (k : ByteArray → Tr ρ R) : Tr ρ R := .call (ww 53 [xs a0] []) (V0 a0) Qk k
def Qae (r : (ByteArray × ByteArray)) : AV × Heap := (.tup [xs r.1, xs r.2], [])
abbrev QkV := ByteArray → Option (ByteArray × ByteArray)
structure UY where
 x0 : ByteArray
 x4 : Int
structure V1 where
 x2 : ByteArray
 x3 : ByteArray
def EC (a : UY) : St := { n := 30, nx := 0, env := [(0, xs a.x0), (4, xi a.x4)], heap := [] }
def Qc8 (a : V1) : Ex × St := (.ret, { n := 30, nx := 0, env := [(2, xs a.x2), (3, xs a.x3)], heap := [] })
def Qc9 (a : ByteArray) : Ex × St := (.exit 0, { n := 30, nx := 0, env := [(0, xs a)], heap := [] })
def SH (a : (V1 ⊕ ByteArray)) : Ex × St := Sum.elim Qc8 Qc9 a
abbrev Qgb := UY → Option (V1 ⊕ ByteArray)
def ED (C0 : Qh5) (C1 : QdJ) (a : UY) : Option (UY ⊕ (V1 ⊕ ByteArray)) := (bif (decide (a.x4 < ((a.x0.size : Nat) : Int))) then (bif (decide (0 ≤ a.x4 ∧ a.x4 < ((a.x0.size : Nat) : Int))) then (bif (((a.x0.data.getD (Int.toNat a.x4) 0).toNat : Int) == 58) then (bif (decide (0 ≤ (0 : Int) ∧ (0 : Int) ≤ a.x4 ∧ a.x4 ≤ ((a.x0.size : Nat) : Int))) then ((C0 (a.x0.extract (Int.toNat 0) (Int.toNat a.x4))).bind fun r1 => (bif r1 then (bif (decide (0 ≤ (w64 (a.x4 + 1)) ∧ (w64 (a.x4 + 1)) ≤ ((a.x0.size : Nat) : Int) ∧ ((a.x0.size : Nat) : Int) ≤ ((a.x0.size : Nat) : Int))) then ((C1 (a.x0.extract (Int.toNat (w64 (a.x4 + 1))) (Int.toNat ((a.x0.size : Nat) : Int)))).bind fun r2 => (some (.inr (.inl (V1.mk (a.x0.extract (Int.toNat 0) (Int.toNat a.x4)) r2))))) else none) else (some (.inl (UY.mk a.x0 (w64 (a.x4 + 1))))))) else none) else (some (.inl (UY.mk a.x0 (w64 (a.x4 + 1)))))) else none) else (some (.inr (.inr a.x0))))
noncomputable def VM : Qgb := loopW (ED YB V0)
theorem VM.eq (a : UY) : VM a = (ED YB V0 a).bind (Sum.elim VM some) := Jk _ _
noncomputable abbrev QlQ {ρ R : Type} (a : UY) (k0 : V1 → Tr ρ R) (k1 : ByteArray → Tr ρ R) : Tr ρ R := .loop2 (loopAt pp 52 2) (EC a) (VM a) Qc8 Qc9 k0 k1
noncomputable def QlR (a : UY) : Tr (UY ⊕ (V1 ⊕ ByteArray)) XS := (.as (decide (a.x4 < (zz a.x0))) (.as (in1 a.x4 (zz a.x0)) (let u137 := ((gb a.x0 a.x4) == 58); .as u137 (yesN 2 u137 (let u136 := (in2 i0 a.x4 (zz a.x0)); .as u136 (.yes u137 (QkM (cu a.x0 i0 a.x4) fun r1 => (.yes u137 (.as r1 (.yes u136 (.as (in2 (w64 (a.x4 + 1)) (zz a.x0) (zz a.x0)) (Zj (cu a.x0 (w64 (a.x4 + 1)) (zz a.x0)) fun r2 => (rx SH (.inl (V1.mk (cu a.x0 i0 a.x4) r2)))) .fail)) (lf EC (UY.mk a.x0 (w64 (a.x4 + 1)))))))) .fail)) (noN 4 u137 (.no false (lf EC (UY.mk a.x0 (w64 (a.x4 + 1))))))) .fail) (rx SH (.inr a.x0)))
theorem VM.ok {a : UY} {r : (V1 ⊕ ByteArray)} (h : VM a = some r) : lw 0 52 (loopAt pp 52 2) (EC a) = some (SH r) := by
 refine lpP h QlR fun a => ?_
 exact ⟨rfl, fun q0 => ⟨rfl, fun q1 => ⟨rfl, fun q2 => Qi 2 (q2) (⟨rfl, fun q3 => ⟨q2, fun r1 h => ⟨YB.ok h, ⟨q2, ⟨rfl, fun q4 => ⟨q3, ⟨rfl, fun q5 => fun r2 h => ⟨V0.ok h, rfl⟩, fun q5 => trivial⟩⟩, fun q4 => rfl⟩⟩⟩⟩, fun q3 => trivial⟩), fun q2 => noN_ok 4 (q2) (⟨rfl, rfl⟩)⟩, fun q1 => trivial⟩, fun q0 => rfl⟩
def QdK (L0 : Qgb) (a0 : ByteArray) : Option (ByteArray × ByteArray) := ((L0 (UY.mk a0 (0 : Int))).bind fun x => Sum.elim (fun (o1 : V1) => (some (o1.x2, o1.x3))) (fun (o2 : ByteArray) => (some (s_, o2))) x)
noncomputable def Zr : QkV := QdK VM
theorem Zr.eq (a0 : ByteArray) : Zr a0 = QdK VM a0 := rfl
noncomputable def QpQ (a0 : ByteArray) : Tr (ByteArray × ByteArray) AH := (QlQ (UY.mk a0 i0) (fun o1 => (rt Qae (o1.x2, o1.x3))) (fun o2 => (rt Qae (s_, o2))))
theorem Zr.ok {a0 : ByteArray} {r : (ByteArray × ByteArray)} (h : Zr a0 = some r) : ww 52 [xs a0] [] = some (Qae r) := by
 refine fnP (QpQ a0) ?_ h
 exact ⟨fun o1 h => ⟨VM.ok (r := (.inl _)) h, rfl⟩, fun o2 h => ⟨VM.ok (r := (.inr _)) h, rfl⟩⟩
noncomputable abbrev QpR {ρ R : Type} (a0 : ByteArray) (k : (ByteArray × ByteArray) → Tr ρ R) : Tr ρ R := .call (ww 52 [xs a0] []) (Zr a0) Qae k
abbrev QkW := ByteArray → Option (List ByteArray)
structure QU where
 x0 : ByteArray
 x4 : Bool
 x5 : Int
 x6 : Int
 r0 : (List ByteArray)
def Vf (a : QU) : St := { n := 50, nx := 1, env := [(0, xs a.x0), (3, .arr 0), (4, xo a.x4), (5, xi a.x5), (6, xi a.x6)], heap := [(0, .arr true 1 (Qg a.r0))] }
def SI (a : (List ByteArray)) : Ex × St := (.exit 0, { n := 50, nx := 1, env := [(3, .arr 0)], heap := [(0, .arr true 1 (Qg a))] })
abbrev Qgc := QU → Option (List ByteArray)
def Z6 (C0 : QdJ) (a : QU) : Option (QU ⊕ (List ByteArray)) := (bif (decide (a.x6 ≤ ((a.x0.size : Nat) : Int))) then (bif (decide (a.x6 < ((a.x0.size : Nat) : Int))) then (bif (decide (0 ≤ a.x6 ∧ a.x6 < ((a.x0.size : Nat) : Int))) then (bif (((a.x0.data.getD (Int.toNat a.x6) 0).toNat : Int) == 34) then (bif (a.x6 == ((a.x0.size : Nat) : Int)) then (bif (decide (0 ≤ a.x5 ∧ a.x5 ≤ a.x6 ∧ a.x6 ≤ ((a.x0.size : Nat) : Int))) then ((C0 (a.x0.extract (Int.toNat a.x5) (Int.toNat a.x6))).bind fun r1 => (bif (decide ((a.r0.length + [r1].length) * 16 ≤ most)) then (some (.inl (QU.mk a.x0 (!a.x4) (w64 (a.x6 + 1)) (w64 (a.x6 + 1)) (a.r0 ++ [r1])))) else none)) else none) else (bif (((a.x0.data.getD (Int.toNat a.x6) 0).toNat : Int) == 44) then (bif (!(!a.x4)) then (bif (decide (0 ≤ a.x5 ∧ a.x5 ≤ a.x6 ∧ a.x6 ≤ ((a.x0.size : Nat) : Int))) then ((C0 (a.x0.extract (Int.toNat a.x5) (Int.toNat a.x6))).bind fun r2 => (bif (decide ((a.r0.length + [r2].length) * 16 ≤ most)) then (some (.inl (QU.mk a.x0 (!a.x4) (w64 (a.x6 + 1)) (w64 (a.x6 + 1)) (a.r0 ++ [r2])))) else none)) else none) else (some (.inl (QU.mk a.x0 (!a.x4) a.x5 (w64 (a.x6 + 1)) a.r0)))) else (some (.inl (QU.mk a.x0 (!a.x4) a.x5 (w64 (a.x6 + 1)) a.r0))))) else (bif (a.x6 == ((a.x0.size : Nat) : Int)) then (bif (decide (0 ≤ a.x5 ∧ a.x5 ≤ a.x6 ∧ a.x6 ≤ ((a.x0.size : Nat) : Int))) then ((C0 (a.x0.extract (Int.toNat a.x5) (Int.toNat a.x6))).bind fun r3 => (bif (decide ((a.r0.length + [r3].length) * 16 ≤ most)) then (some (.inl (QU.mk a.x0 a.x4 (w64 (a.x6 + 1)) (w64 (a.x6 + 1)) (a.r0 ++ [r3])))) else none)) else none) else (bif (((a.x0.data.getD (Int.toNat a.x6) 0).toNat : Int) == 44) then (bif (!a.x4) then (bif (decide (0 ≤ a.x5 ∧ a.x5 ≤ a.x6 ∧ a.x6 ≤ ((a.x0.size : Nat) : Int))) then ((C0 (a.x0.extract (Int.toNat a.x5) (Int.toNat a.x6))).bind fun r4 => (bif (decide ((a.r0.length + [r4].length) * 16 ≤ most)) then (some (.inl (QU.mk a.x0 a.x4 (w64 (a.x6 + 1)) (w64 (a.x6 + 1)) (a.r0 ++ [r4])))) else none)) else none) else (some (.inl (QU.mk a.x0 a.x4 a.x5 (w64 (a.x6 + 1)) a.r0)))) else (some (.inl (QU.mk a.x0 a.x4 a.x5 (w64 (a.x6 + 1)) a.r0)))))) else none) else (bif (a.x6 == ((a.x0.size : Nat) : Int)) then (bif (decide (0 ≤ a.x5 ∧ a.x5 ≤ a.x6 ∧ a.x6 ≤ ((a.x0.size : Nat) : Int))) then ((C0 (a.x0.extract (Int.toNat a.x5) (Int.toNat a.x6))).bind fun r5 => (bif (decide ((a.r0.length + [r5].length) * 16 ≤ most)) then (some (.inl (QU.mk a.x0 a.x4 (w64 (a.x6 + 1)) (w64 (a.x6 + 1)) (a.r0 ++ [r5])))) else none)) else none) else (bif (decide (0 ≤ a.x6 ∧ a.x6 < ((a.x0.size : Nat) : Int))) then (bif (((a.x0.data.getD (Int.toNat a.x6) 0).toNat : Int) == 44) then (bif (!a.x4) then (bif (decide (0 ≤ a.x5 ∧ a.x5 ≤ a.x6 ∧ a.x6 ≤ ((a.x0.size : Nat) : Int))) then ((C0 (a.x0.extract (Int.toNat a.x5) (Int.toNat a.x6))).bind fun r6 => (bif (decide ((a.r0.length + [r6].length) * 16 ≤ most)) then (some (.inl (QU.mk a.x0 a.x4 (w64 (a.x6 + 1)) (w64 (a.x6 + 1)) (a.r0 ++ [r6])))) else none)) else none) else (some (.inl (QU.mk a.x0 a.x4 a.x5 (w64 (a.x6 + 1)) a.r0)))) else (some (.inl (QU.mk a.x0 a.x4 a.x5 (w64 (a.x6 + 1)) a.r0)))) else none))) else (some (.inr a.r0)))
noncomputable def U8 : Qgc := loopW (Z6 V0)
theorem U8.eq (a : QU) : U8 a = (Z6 V0 a).bind (Sum.elim U8 some) := Jk _ _
noncomputable abbrev QlS {ρ R : Type} (a : QU) (k0 : (List ByteArray) → Tr ρ R) : Tr ρ R := .loop (loopAt pp 55 4) (Vf a) (U8 a) SI k0
noncomputable def QlT (a : QU) : Tr (QU ⊕ (List ByteArray)) XS := (.as (decide (a.x6 ≤ (zz a.x0))) (let u145 := (decide (a.x6 < (zz a.x0))); .as u145 (yesN 2 u145 (let u142 := (in1 a.x6 (zz a.x0)); .as u142 (yesN 2 u145 (.as ((gb a.x0 a.x6) == 34) (let u139 := (a.x6 == (zz a.x0)); .as u139 (yesN 6 u139 (.yes true (.as (in2 a.x5 a.x6 (zz a.x0)) (Zj (cu a.x0 a.x5 a.x6) fun r1 => (.rows [[xs r1]] (Qg [r1]) (.yes (decide ((Qg [r1]).all (fun r => r.length == 1) = true)) (.ask (decide (((Qg a.r0).length + (Qg [r1]).length) * 16 ≤ most)) (decide ((a.r0.length + [r1].length) * 16 ≤ most)) (.rows ((Qg a.r0) ++ (Qg [r1])) (Qg (a.r0 ++ [r1])) (lf Vf (QU.mk a.x0 (!a.x4) (w64 (a.x6 + 1)) (w64 (a.x6 + 1)) (a.r0 ++ [r1])))) .fail)))) .fail))) (noN 2 u139 (.yes u142 (noN 2 u139 (let u138 := ((gb a.x0 a.x6) == 44); .as u138 (.yes u138 (.no u139 (.yes u138 (.no u139 (.as (!(!a.x4)) (.as (in2 a.x5 a.x6 (zz a.x0)) (Zj (cu a.x0 a.x5 a.x6) fun r2 => (.rows [[xs r2]] (Qg [r2]) (.yes (decide ((Qg [r2]).all (fun r => r.length == 1) = true)) (.ask (decide (((Qg a.r0).length + (Qg [r2]).length) * 16 ≤ most)) (decide ((a.r0.length + [r2].length) * 16 ≤ most)) (.rows ((Qg a.r0) ++ (Qg [r2])) (Qg (a.r0 ++ [r2])) (lf Vf (QU.mk a.x0 (!a.x4) (w64 (a.x6 + 1)) (w64 (a.x6 + 1)) (a.r0 ++ [r2])))) .fail)))) .fail) (lf Vf (QU.mk a.x0 (!a.x4) a.x5 (w64 (a.x6 + 1)) a.r0))))))) (.no u138 (.no u139 (.no u138 (.no u139 (.no false (lf Vf (QU.mk a.x0 (!a.x4) a.x5 (w64 (a.x6 + 1)) a.r0)))))))))))) (let u141 := (a.x6 == (zz a.x0)); .as u141 (yesN 6 u141 (.yes true (.as (in2 a.x5 a.x6 (zz a.x0)) (Zj (cu a.x0 a.x5 a.x6) fun r3 => (.rows [[xs r3]] (Qg [r3]) (.yes (decide ((Qg [r3]).all (fun r => r.length == 1) = true)) (.ask (decide (((Qg a.r0).length + (Qg [r3]).length) * 16 ≤ most)) (decide ((a.r0.length + [r3].length) * 16 ≤ most)) (.rows ((Qg a.r0) ++ (Qg [r3])) (Qg (a.r0 ++ [r3])) (lf Vf (QU.mk a.x0 a.x4 (w64 (a.x6 + 1)) (w64 (a.x6 + 1)) (a.r0 ++ [r3])))) .fail)))) .fail))) (noN 2 u141 (.yes u142 (noN 2 u141 (let u140 := ((gb a.x0 a.x6) == 44); .as u140 (.yes u140 (.no u141 (.yes u140 (.no u141 (.as (!a.x4) (.as (in2 a.x5 a.x6 (zz a.x0)) (Zj (cu a.x0 a.x5 a.x6) fun r4 => (.rows [[xs r4]] (Qg [r4]) (.yes (decide ((Qg [r4]).all (fun r => r.length == 1) = true)) (.ask (decide (((Qg a.r0).length + (Qg [r4]).length) * 16 ≤ most)) (decide ((a.r0.length + [r4].length) * 16 ≤ most)) (.rows ((Qg a.r0) ++ (Qg [r4])) (Qg (a.r0 ++ [r4])) (lf Vf (QU.mk a.x0 a.x4 (w64 (a.x6 + 1)) (w64 (a.x6 + 1)) (a.r0 ++ [r4])))) .fail)))) .fail) (lf Vf (QU.mk a.x0 a.x4 a.x5 (w64 (a.x6 + 1)) a.r0))))))) (.no u140 (.no u141 (.no u140 (.no u141 (.no false (lf Vf (QU.mk a.x0 a.x4 a.x5 (w64 (a.x6 + 1)) a.r0)))))))))))))) .fail)) (noN 4 u145 (.no false (let u144 := (a.x6 == (zz a.x0)); .as u144 (yesN 6 u144 (.yes true (.as (in2 a.x5 a.x6 (zz a.x0)) (Zj (cu a.x0 a.x5 a.x6) fun r5 => (.rows [[xs r5]] (Qg [r5]) (.yes (decide ((Qg [r5]).all (fun r => r.length == 1) = true)) (.ask (decide (((Qg a.r0).length + (Qg [r5]).length) * 16 ≤ most)) (decide ((a.r0.length + [r5].length) * 16 ≤ most)) (.rows ((Qg a.r0) ++ (Qg [r5])) (Qg (a.r0 ++ [r5])) (lf Vf (QU.mk a.x0 a.x4 (w64 (a.x6 + 1)) (w64 (a.x6 + 1)) (a.r0 ++ [r5])))) .fail)))) .fail))) (noN 2 u144 (.as (in1 a.x6 (zz a.x0)) (noN 2 u144 (let u143 := ((gb a.x0 a.x6) == 44); .as u143 (.yes u143 (.no u144 (.yes u143 (.no u144 (.as (!a.x4) (.as (in2 a.x5 a.x6 (zz a.x0)) (Zj (cu a.x0 a.x5 a.x6) fun r6 => (.rows [[xs r6]] (Qg [r6]) (.yes (decide ((Qg [r6]).all (fun r => r.length == 1) = true)) (.ask (decide (((Qg a.r0).length + (Qg [r6]).length) * 16 ≤ most)) (decide ((a.r0.length + [r6].length) * 16 ≤ most)) (.rows ((Qg a.r0) ++ (Qg [r6])) (Qg (a.r0 ++ [r6])) (lf Vf (QU.mk a.x0 a.x4 (w64 (a.x6 + 1)) (w64 (a.x6 + 1)) (a.r0 ++ [r6])))) .fail)))) .fail) (lf Vf (QU.mk a.x0 a.x4 a.x5 (w64 (a.x6 + 1)) a.r0))))))) (.no u143 (.no u144 (.no u143 (.no u144 (.no false (lf Vf (QU.mk a.x0 a.x4 a.x5 (w64 (a.x6 + 1)) a.r0))))))))) .fail)))))) (rx SI a.r0))
theorem U8.ok {a : QU} {r : (List ByteArray)} (h : U8 a = some r) : lw 0 55 (loopAt pp 55 4) (Vf a) = some (SI r) := by
 refine lpP h QlT fun a => ?_
 exact ⟨rfl, fun q0 => ⟨rfl, fun q1 => Qi 2 (q1) (⟨rfl, fun q2 => Qi 2 (q1) (⟨rfl, fun q3 => ⟨rfl, fun q4 => Qi 6 (q4) (⟨rfl, ⟨rfl, fun q5 => fun r1 h => ⟨V0.ok h, ⟨(QS [r1]), ⟨(decide_eq_true (J7 _)), ⟨(by rw [Qo, Qo]), fun q6 => ⟨(UQ _ _), rfl⟩, fun q6 => trivial⟩⟩⟩⟩, fun q5 => trivial⟩⟩), fun q4 => noN_ok 2 (q4) (⟨q2, noN_ok 2 (q4) (⟨rfl, fun q5 => ⟨q5, ⟨q4, ⟨q5, ⟨q4, ⟨rfl, fun q6 => ⟨rfl, fun q7 => fun r2 h => ⟨V0.ok h, ⟨(QS [r2]), ⟨(decide_eq_true (J7 _)), ⟨(by rw [Qo, Qo]), fun q8 => ⟨(UQ _ _), rfl⟩, fun q8 => trivial⟩⟩⟩⟩, fun q7 => trivial⟩, fun q6 => rfl⟩⟩⟩⟩⟩, fun q5 => ⟨q5, ⟨q4, ⟨q5, ⟨q4, ⟨rfl, rfl⟩⟩⟩⟩⟩⟩)⟩)⟩, fun q3 => ⟨rfl, fun q4 => Qi 6 (q4) (⟨rfl, ⟨rfl, fun q5 => fun r3 h => ⟨V0.ok h, ⟨(QS [r3]), ⟨(decide_eq_true (J7 _)), ⟨(by rw [Qo, Qo]), fun q6 => ⟨(UQ _ _), rfl⟩, fun q6 => trivial⟩⟩⟩⟩, fun q5 => trivial⟩⟩), fun q4 => noN_ok 2 (q4) (⟨q2, noN_ok 2 (q4) (⟨rfl, fun q5 => ⟨q5, ⟨q4, ⟨q5, ⟨q4, ⟨rfl, fun q6 => ⟨rfl, fun q7 => fun r4 h => ⟨V0.ok h, ⟨(QS [r4]), ⟨(decide_eq_true (J7 _)), ⟨(by rw [Qo, Qo]), fun q8 => ⟨(UQ _ _), rfl⟩, fun q8 => trivial⟩⟩⟩⟩, fun q7 => trivial⟩, fun q6 => rfl⟩⟩⟩⟩⟩, fun q5 => ⟨q5, ⟨q4, ⟨q5, ⟨q4, ⟨rfl, rfl⟩⟩⟩⟩⟩⟩)⟩)⟩⟩), fun q2 => trivial⟩), fun q1 => noN_ok 4 (q1) (⟨rfl, ⟨rfl, fun q2 => Qi 6 (q2) (⟨rfl, ⟨rfl, fun q3 => fun r5 h => ⟨V0.ok h, ⟨(QS [r5]), ⟨(decide_eq_true (J7 _)), ⟨(by rw [Qo, Qo]), fun q4 => ⟨(UQ _ _), rfl⟩, fun q4 => trivial⟩⟩⟩⟩, fun q3 => trivial⟩⟩), fun q2 => noN_ok 2 (q2) (⟨rfl, fun q3 => noN_ok 2 (q2) (⟨rfl, fun q4 => ⟨q4, ⟨q2, ⟨q4, ⟨q2, ⟨rfl, fun q5 => ⟨rfl, fun q6 => fun r6 h => ⟨V0.ok h, ⟨(QS [r6]), ⟨(decide_eq_true (J7 _)), ⟨(by rw [Qo, Qo]), fun q7 => ⟨(UQ _ _), rfl⟩, fun q7 => trivial⟩⟩⟩⟩, fun q6 => trivial⟩, fun q5 => rfl⟩⟩⟩⟩⟩, fun q4 => ⟨q4, ⟨q2, ⟨q4, ⟨q2, ⟨rfl, rfl⟩⟩⟩⟩⟩⟩), fun q3 => trivial⟩)⟩⟩)⟩, fun q0 => rfl⟩
def QdL (L0 : Qgc) (a0 : ByteArray) : Option (List ByteArray) := ((L0 (QU.mk a0 false (0 : Int) (0 : Int) ([] : List ByteArray))).bind (fun (o1 : (List ByteArray)) => (some o1)))
noncomputable def YR : QkW := QdL U8
theorem YR.eq (a0 : ByteArray) : YR a0 = QdL U8 a0 := rfl
noncomputable def QpS (a0 : ByteArray) : Tr (List ByteArray) AH := (QlS (QU.mk a0 false i0 i0 ([] : List ByteArray)) (fun o1 => (rt Jd o1)))
theorem YR.ok {a0 : ByteArray} {r : (List ByteArray)} (h : YR a0 = some r) : ww 55 [xs a0] [] = some (Jd r) := by
 refine fnP (QpS a0) ?_ h
 exact fun o1 h => ⟨U8.ok h, rfl⟩
noncomputable abbrev QpT {ρ R : Type} (a0 : ByteArray) (k : (List ByteArray) → Tr ρ R) : Tr ρ R := .call (ww 55 [xs a0] []) (YR a0) Jd k
abbrev QoH := ByteArray → Option Int
structure VN where
 x0 : ByteArray
 x3 : Int
 x4 : Int
def Qci (a : VN) : St := { n := 55, nx := 0, env := [(0, xs a.x0), (3, xi a.x3), (4, xi a.x4)], heap := [] }
def Qgd (a : Int) : Ex × St := (.ret, { n := 55, nx := 0, env := [(2, xi a)], heap := [] })
def Qge (a : Int) : Ex × St := (.exit 0, { n := 55, nx := 0, env := [(3, xi a)], heap := [] })
def PW (a : (Int ⊕ Int)) : Ex × St := Sum.elim Qgd Qge a
abbrev Qjo := VN → Option (Int ⊕ Int)
def PX (a : VN) : Option (VN ⊕ (Int ⊕ Int)) := (bif (decide (a.x4 < ((a.x0.size : Nat) : Int))) then (bif (decide (0 ≤ a.x4 ∧ a.x4 < ((a.x0.size : Nat) : Int))) then (bif (decide (((a.x0.data.getD (Int.toNat a.x4) 0).toNat : Int) < 48)) then (some (.inr (.inl (-1 : Int)))) else (bif (decide (((a.x0.data.getD (Int.toNat a.x4) 0).toNat : Int) > 57)) then (some (.inr (.inl (-1 : Int)))) else (some (.inl (VN.mk a.x0 (w64 ((w64 ((10 : Int) * a.x3)) + (w64 (IntKind.u8.wrap (((a.x0.data.getD (Int.toNat a.x4) 0).toNat : Int) - 48))))) (w64 (a.x4 + 1))))))) else none) else (some (.inr (.inr a.x3))))
noncomputable def UO : Qjo := loopW (PX )
theorem UO.eq (a : VN) : UO a = (PX a).bind (Sum.elim UO some) := Jk _ _
noncomputable abbrev QhJ {ρ R : Type} (a : VN) (k0 : Int → Tr ρ R) (k1 : Int → Tr ρ R) : Tr ρ R := .loop2 (loopAt pp 205 5) (Qci a) (UO a) Qgd Qge k0 k1
noncomputable def Qog (a : VN) : Tr (VN ⊕ (Int ⊕ Int)) XS := (.as (decide (a.x4 < (zz a.x0))) (let u147 := (in1 a.x4 (zz a.x0)); .as u147 (let u146 := (decide ((gb a.x0 a.x4) < 48)); .as u146 (yesN 4 u146 (.yes true (rx PW (.inl (-1 : Int))))) (noN 2 u146 (.yes u147 (noN 2 u146 (.as (decide ((gb a.x0 a.x4) > 57)) (rx PW (.inl (-1 : Int))) (.yes u147 (lf Qci (VN.mk a.x0 (w64 ((w64 ((zi 10) * a.x3)) + (w64 (IntKind.u8.wrap ((gb a.x0 a.x4) - 48))))) (w64 (a.x4 + 1)))))))))) .fail) (rx PW (.inr a.x3)))
theorem UO.ok {a : VN} {r : (Int ⊕ Int)} (h : UO a = some r) : lw 0 205 (loopAt pp 205 5) (Qci a) = some (PW r) := by
 refine lpP h Qog fun a => ?_
 exact ⟨rfl, fun q0 => ⟨rfl, fun q1 => ⟨rfl, fun q2 => Qi 4 (q2) (⟨rfl, rfl⟩), fun q2 => noN_ok 2 (q2) (⟨q1, noN_ok 2 (q2) (⟨rfl, fun q3 => rfl, fun q3 => ⟨q1, rfl⟩⟩)⟩)⟩, fun q1 => trivial⟩, fun q0 => rfl⟩
def Qim (L0 : Qjo) (a0 : ByteArray) : Option Int := (bif (decide (((a0.size : Nat) : Int) < 2)) then (some (-1 : Int)) else (bif (decide (((a0.size : Nat) : Int) > 3)) then (some (-1 : Int)) else (bif (decide (0 ≤ (0 : Int) ∧ (0 : Int) < ((a0.size : Nat) : Int))) then (bif (((a0.data.getD (Int.toNat 0) 0).toNat : Int) != 114) then (some (-1 : Int)) else (bif (decide (0 ≤ (1 : Int) ∧ (1 : Int) < ((a0.size : Nat) : Int))) then (bif (((a0.data.getD (Int.toNat 1) 0).toNat : Int) == 48) then (bif (decide (((a0.size : Nat) : Int) > 2)) then (some (-1 : Int)) else ((L0 (VN.mk a0 (0 : Int) (1 : Int))).bind fun x => Sum.elim (fun (o1 : Int) => (some o1)) (fun (o2 : Int) => (bif (decide (o2 > 31)) then (some (-1 : Int)) else (some o2))) x)) else ((L0 (VN.mk a0 (0 : Int) (1 : Int))).bind fun x => Sum.elim (fun (o3 : Int) => (some o3)) (fun (o4 : Int) => (bif (decide (o4 > 31)) then (some (-1 : Int)) else (some o4))) x)) else none)) else none)))
noncomputable def Eu : QoH := Qim UO
theorem Eu.eq (a0 : ByteArray) : Eu a0 = Qim UO a0 := rfl
noncomputable def QrP (a0 : ByteArray) : Tr Int AH := (let u151 := (decide ((zz a0) < 2)); .as u151 (yesN 3 u151 (yesN 11 true (rt Qm (-1 : Int)))) (noN 3 u151 (let u150 := (decide ((zz a0) > 3)); .as u150 (yesN 3 u150 (yesN 7 true (rt Qm (-1 : Int)))) (.no u150 (.as (in1 i0 (zz a0)) (noN 2 u150 (let u149 := ((gb a0 i0) != 114); .as u149 (yesN 5 u149 (.yes true (rt Qm (-1 : Int)))) (.no u149 (.as (in1 (zi 1) (zz a0)) (noN 2 u149 (let u148 := ((gb a0 (zi 1)) == 48); .as u148 (yesN 2 u148 (.no u149 (.yes u148 (.no u149 (.as (decide ((zz a0) > 2)) (rt Qm (-1 : Int)) (QhJ (VN.mk a0 i0 (zi 1)) (fun o1 => (rt Qm o1)) (fun o2 => (.as (decide (o2 > 31)) (rt Qm (-1 : Int)) (rt Qm o2))))))))) (noN 2 u148 (.no u149 (.no u148 (.no u149 (.no false (QhJ (VN.mk a0 i0 (zi 1)) (fun o3 => (rt Qm o3)) (fun o4 => (.as (decide (o4 > 31)) (rt Qm (-1 : Int)) (rt Qm o4))))))))))) .fail)))) .fail)))))
theorem Eu.ok {a0 : ByteArray} {r : Int} (h : Eu a0 = some r) : ww 205 [xs a0] [] = some (Qm r) := by
 refine fnP (QrP a0) ?_ h
 exact ⟨rfl, fun q0 => Qi 3 (q0) (Qi 11 (rfl) (rfl)), fun q0 => noN_ok 3 (q0) (⟨rfl, fun q1 => Qi 3 (q1) (Qi 7 (rfl) (rfl)), fun q1 => ⟨q1, ⟨rfl, fun q2 => noN_ok 2 (q1) (⟨rfl, fun q3 => Qi 5 (q3) (⟨rfl, rfl⟩), fun q3 => ⟨q3, ⟨rfl, fun q4 => noN_ok 2 (q3) (⟨rfl, fun q5 => Qi 2 (q5) (⟨q3, ⟨q5, ⟨q3, ⟨rfl, fun q6 => rfl, fun q6 => ⟨fun o1 h => ⟨UO.ok (r := (.inl _)) h, rfl⟩, fun o2 h => ⟨UO.ok (r := (.inr _)) h, ⟨rfl, fun q7 => rfl, fun q7 => rfl⟩⟩⟩⟩⟩⟩⟩), fun q5 => noN_ok 2 (q5) (⟨q3, ⟨q5, ⟨q3, ⟨rfl, ⟨fun o3 h => ⟨UO.ok (r := (.inl _)) h, rfl⟩, fun o4 h => ⟨UO.ok (r := (.inr _)) h, ⟨rfl, fun q6 => rfl, fun q6 => rfl⟩⟩⟩⟩⟩⟩⟩)⟩), fun q4 => trivial⟩⟩⟩), fun q2 => trivial⟩⟩⟩)⟩
noncomputable abbrev QrQ {ρ R : Type} (a0 : ByteArray) (k : Int → Tr ρ R) : Tr ρ R := .call (ww 205 [xs a0] []) (Eu a0) Qm k
def QdM (r : (Qc × Bool)) : AV × Heap := (.tup [.agg (WV r.1), xo r.2], [])
abbrev QoI := ByteArray → Bool → Option (Qc × Bool)
def Qin (C0 : QoH) (C1 : Qf2) (a0 : ByteArray) (a1 : Bool) : Option (Qc × Bool) := (bif a1 then ((C0 a0).bind fun r1 => (some ((Qc.mk (if (0 : Int) > r1 then (0 : Int) else r1) (Qa.mk (0 : Int) (0 : Int) s_ ([] : List Qa))), (decide (r1 ≥ 0))))) else ((C1 a0).bind fun r2 => (some ((Qc.mk (-1 : Int) r2.1), r2.2))))
noncomputable def GL : QoI := Qin Eu WG
theorem GL.eq (a0 : ByteArray) (a1 : Bool) : GL a0 a1 = Qin Eu WG a0 a1 := rfl
noncomputable def QrR (a0 : ByteArray) (a1 : Bool) : Tr (Qc × Bool) AH := (.as a1 (QrQ a0 fun r1 => (rt QdM ((Qc.mk (if i0 > r1 then i0 else r1) (Qa.mk i0 i0 s_ ([] : List Qa))), (decide (r1 ≥ 0))))) (QdI a0 fun r2 => (rt QdM ((Qc.mk (-1 : Int) r2.1), r2.2))))
theorem GL.ok {a0 : ByteArray} {a1 : Bool} {r : (Qc × Bool)} (h : GL a0 a1 = some r) : ww 158 [xs a0, xo a1] [] = some (QdM r) := by
 refine fnP (QrR a0 a1) ?_ h
 exact ⟨rfl, fun q0 => fun r1 h => ⟨Eu.ok h, rfl⟩, fun q0 => fun r2 h => ⟨WG.ok h, rfl⟩⟩
noncomputable abbrev Qm5 {ρ R : Type} (a0 : ByteArray) (a1 : Bool) (k : (Qc × Bool) → Tr ρ R) : Tr ρ R := .call (ww 158 [xs a0, xo a1] []) (GL a0 a1) QdM k
def QbP (r : ((List Qc) × Bool)) : AV × Heap := (.tup [.sl (Qj r.1), xo r.2], [])
abbrev Qio := (List ByteArray) → (List ByteArray) → Option ((List Qc) × Bool)
structure UP where
 x0 : (List ByteArray)
 x1 : (List ByteArray)
 x7 : Int
 r0 : (List Qc)
structure Vg where
 x4 : (List Qc)
 x5 : Bool
def F0 (a : UP) : St := { n := 42, nx := 1, env := [(0, .sl (Qg a.x0)), (1, .sl (Qg a.x1)), (6, .arr 0), (7, xi a.x7)], heap := [(0, .arr true 5 (Qj a.r0))] }
def Qev (a : Vg) : Ex × St := (.ret, { n := 42, nx := 0, env := [(4, .sl (Qj a.x4)), (5, xo a.x5)], heap := [] })
def Qew (a : (List Qc)) : Ex × St := (.exit 0, { n := 42, nx := 1, env := [(6, .arr 0)], heap := [(0, .arr true 5 (Qj a))] })
def F1 (a : (Vg ⊕ (List Qc))) : Ex × St := Sum.elim Qev Qew a
abbrev QhK := UP → Option (Vg ⊕ (List Qc))
def F2 (C0 : Qba) (C1 : QoI) (a : UP) : Option (UP ⊕ (Vg ⊕ (List Qc))) := (bif (decide (a.x7 < (((a.x0.length) : Nat) : Int))) then (bif (decide (a.x7 < (((a.x1.length) : Nat) : Int))) then (bif (decide (0 ≤ a.x7)) then ((a.x1[(Int.toNat a.x7)]?).bind fun e1 => ((C0 e1).bind fun r2 => ((a.x0[(Int.toNat a.x7)]?).bind fun e3 => ((C1 e3 r2).bind fun r4 => (bif (!r4.2) then (some (.inr (.inl (Vg.mk ([] : List Qc) false)))) else (bif (decide ((a.r0.length + [r4.1].length) * 64 ≤ most)) then (some (.inl (UP.mk a.x0 a.x1 (w64 (a.x7 + 1)) (a.r0 ++ [r4.1])))) else none)))))) else none) else (bif (decide (0 ≤ a.x7)) then ((a.x0[(Int.toNat a.x7)]?).bind fun e5 => ((C1 e5 false).bind fun r6 => (bif (!r6.2) then (some (.inr (.inl (Vg.mk ([] : List Qc) false)))) else (bif (decide ((a.r0.length + [r6.1].length) * 64 ≤ most)) then (some (.inl (UP.mk a.x0 a.x1 (w64 (a.x7 + 1)) (a.r0 ++ [r6.1])))) else none)))) else none)) else (some (.inr (.inr a.r0))))
noncomputable def VR : QhK := loopW (F2 JG GL)
theorem VR.eq (a : UP) : VR a = (F2 JG GL a).bind (Sum.elim VR some) := Jk _ _
noncomputable abbrev Qm6 {ρ R : Type} (a : UP) (k0 : Vg → Tr ρ R) (k1 : (List Qc) → Tr ρ R) : Tr ρ R := .loop2 (loopAt pp 101 3) (F0 a) (VR a) Qev Qew k0 k1
noncomputable def Qm7 (a : UP) : Tr (UP ⊕ (Vg ⊕ (List Qc))) XS := (.num ((Qg a.x0).length) (a.x0.length) (.as (decide (a.x7 < (((a.x0.length) : Nat) : Int))) (.num ((Qg a.x1).length) (a.x1.length) (.as (decide (a.x7 < (((a.x1.length) : Nat) : Int))) (let u152 := (decide (0 ≤ a.x7)); .as u152 (.row ((Qg a.x1)[(Int.toNat a.x7)]?) (a.x1[(Int.toNat a.x7)]?) Q2 fun (e1 : ByteArray) => (Qem e1 fun r2 => (.yes u152 (.row ((Qg a.x0)[(Int.toNat a.x7)]?) (a.x0[(Int.toNat a.x7)]?) Q2 fun (e3 : ByteArray) => (Qm5 e3 r2 fun r4 => (.as (!r4.2) (rx F1 (.inl (Vg.mk ([] : List Qc) false))) (.rows [[xi r4.1.Reg, xi r4.1.E.Kind, xi r4.1.E.N, xs r4.1.E.Name, .sl (QN r4.1.E.L)]] (Qj [r4.1]) (.yes (decide ((Qj [r4.1]).all (fun r => r.length == 5) = true)) (.ask (decide (((Qj a.r0).length + (Qj [r4.1]).length) * 64 ≤ most)) (decide ((a.r0.length + [r4.1].length) * 64 ≤ most)) (.rows ((Qj a.r0) ++ (Qj [r4.1])) (Qj (a.r0 ++ [r4.1])) (lf F0 (UP.mk a.x0 a.x1 (w64 (a.x7 + 1)) (a.r0 ++ [r4.1])))) .fail))))))))) .fail) (.as (decide (0 ≤ a.x7)) (.row ((Qg a.x0)[(Int.toNat a.x7)]?) (a.x0[(Int.toNat a.x7)]?) Q2 fun (e5 : ByteArray) => (Qm5 e5 false fun r6 => (.as (!r6.2) (rx F1 (.inl (Vg.mk ([] : List Qc) false))) (.rows [[xi r6.1.Reg, xi r6.1.E.Kind, xi r6.1.E.N, xs r6.1.E.Name, .sl (QN r6.1.E.L)]] (Qj [r6.1]) (.yes (decide ((Qj [r6.1]).all (fun r => r.length == 5) = true)) (.ask (decide (((Qj a.r0).length + (Qj [r6.1]).length) * 64 ≤ most)) (decide ((a.r0.length + [r6.1].length) * 64 ≤ most)) (.rows ((Qj a.r0) ++ (Qj [r6.1])) (Qj (a.r0 ++ [r6.1])) (lf F0 (UP.mk a.x0 a.x1 (w64 (a.x7 + 1)) (a.r0 ++ [r6.1])))) .fail)))))) .fail))) (rx F1 (.inr a.r0))))
theorem VR.ok {a : UP} {r : (Vg ⊕ (List Qc))} (h : VR a = some r) : lw 0 101 (loopAt pp 101 3) (F0 a) = some (F1 r) := by
 refine lpP h Qm7 fun a => ?_
 exact ⟨(Qo _), ⟨rfl, fun q0 => ⟨(Qo _), ⟨rfl, fun q1 => ⟨rfl, fun q2 => fun e1 h => ⟨QT h, fun r2 h => ⟨JG.ok h, ⟨q2, fun e3 h => ⟨QT h, fun r4 h => ⟨GL.ok h, ⟨rfl, fun q3 => rfl, fun q3 => ⟨(JE [r4.1]), ⟨(decide_eq_true (VS _)), ⟨(by rw [Jb, Jb]), fun q4 => ⟨(UV _ _), rfl⟩, fun q4 => trivial⟩⟩⟩⟩⟩⟩⟩⟩⟩, fun q2 => trivial⟩, fun q1 => ⟨rfl, fun q2 => fun e5 h => ⟨QT h, fun r6 h => ⟨GL.ok h, ⟨rfl, fun q3 => rfl, fun q3 => ⟨(JE [r6.1]), ⟨(decide_eq_true (VS _)), ⟨(by rw [Jb, Jb]), fun q4 => ⟨(UV _ _), rfl⟩, fun q4 => trivial⟩⟩⟩⟩⟩⟩, fun q2 => trivial⟩⟩⟩, fun q0 => rfl⟩⟩
def Qgf (L0 : QhK) (a0 : (List ByteArray)) (a1 : (List ByteArray)) : Option ((List Qc) × Bool) := ((L0 (UP.mk a0 a1 (0 : Int) ([] : List Qc))).bind fun x => Sum.elim (fun (o1 : Vg) => (some (o1.x4, o1.x5))) (fun (o2 : (List Qc)) => (some (o2, true))) x)
noncomputable def Vx : Qio := Qgf VR
theorem Vx.eq (a0 : (List ByteArray)) (a1 : (List ByteArray)) : Vx a0 a1 = Qgf VR a0 a1 := rfl
noncomputable def QqO (a0 : (List ByteArray)) (a1 : (List ByteArray)) : Tr ((List Qc) × Bool) AH := (Qm6 (UP.mk a0 a1 i0 ([] : List Qc)) (fun o1 => (rt QbP (o1.x4, o1.x5))) (fun o2 => (rt QbP (o2, true))))
theorem Vx.ok {a0 : (List ByteArray)} {a1 : (List ByteArray)} {r : ((List Qc) × Bool)} (h : Vx a0 a1 = some r) : ww 101 [.sl (Qg a0), .sl (Qg a1)] [] = some (QbP r) := by
 refine fnP (QqO a0 a1) ?_ h
 exact ⟨fun o1 h => ⟨VR.ok (r := (.inl _)) h, rfl⟩, fun o2 h => ⟨VR.ok (r := (.inr _)) h, rfl⟩⟩
noncomputable abbrev Yw {ρ R : Type} (a0 : (List ByteArray)) (a1 : (List ByteArray)) (k : ((List Qc) × Bool) → Tr ρ R) : Tr ρ R := .call (ww 101 [.sl (Qg a0), .sl (Qg a1)] []) (Vx a0 a1) QbP k
def Yx (r : (ByteArray × Bool)) : AV × Heap := (.tup [xs r.1, xo r.2], [])
abbrev Qjp := ByteArray → Option (ByteArray × Bool)
structure Vd where
 x0 : ByteArray
 x4 : Int
structure UB where
 x2 : ByteArray
 x3 : Bool
def Px (a : Vd) : St := { n := 54, nx := 0, env := [(0, xs a.x0), (4, xi a.x4)], heap := [] }
def QbQ (a : UB) : Ex × St := (.ret, { n := 54, nx := 0, env := [(2, xs a.x2), (3, xo a.x3)], heap := [] })
def QbR (a : ByteArray) : Ex × St := (.exit 0, { n := 54, nx := 0, env := [(0, xs a)], heap := [] })
def ZQ (a : (UB ⊕ ByteArray)) : Ex × St := Sum.elim QbQ QbR a
abbrev Qex := Vd → Option (UB ⊕ ByteArray)
def GY (a : Vd) : Option (Vd ⊕ (UB ⊕ ByteArray)) := (bif (decide (a.x4 < (w64 (((a.x0.size : Nat) : Int) - 1)))) then (bif (decide (0 ≤ a.x4 ∧ a.x4 < ((a.x0.size : Nat) : Int))) then (bif (decide (((a.x0.data.getD (Int.toNat a.x4) 0).toNat : Int) < 32)) then (some (.inr (.inl (UB.mk s_ false)))) else (bif (decide (((a.x0.data.getD (Int.toNat a.x4) 0).toNat : Int) > 126)) then (some (.inr (.inl (UB.mk s_ false)))) else (bif (((a.x0.data.getD (Int.toNat a.x4) 0).toNat : Int) == 34) then (some (.inr (.inl (UB.mk s_ false)))) else (some (.inl (Vd.mk a.x0 (w64 (a.x4 + 1)))))))) else none) else (some (.inr (.inr a.x0))))
noncomputable def Vm : Qex := loopW (GY )
theorem Vm.eq (a : Vd) : Vm a = (GY a).bind (Sum.elim Vm some) := Jk _ _
noncomputable abbrev Qkj {ρ R : Type} (a : Vd) (k0 : UB → Tr ρ R) (k1 : ByteArray → Tr ρ R) : Tr ρ R := .loop2 (loopAt pp 100 4) (Px a) (Vm a) QbQ QbR k0 k1
noncomputable def Qkk (a : Vd) : Tr (Vd ⊕ (UB ⊕ ByteArray)) XS := (.as (decide (a.x4 < (w64 ((zz a.x0) - 1)))) (let u155 := (in1 a.x4 (zz a.x0)); .as u155 (let u154 := (decide ((gb a.x0 a.x4) < 32)); .as u154 (yesN 4 u154 (yesN 6 true (rx ZQ (.inl (UB.mk s_ false))))) (noN 2 u154 (.yes u155 (noN 2 u154 (let u153 := (decide ((gb a.x0 a.x4) > 126)); .as u153 (yesN 4 u153 (.yes true (rx ZQ (.inl (UB.mk s_ false))))) (noN 2 u153 (.yes u155 (noN 2 u153 (.as ((gb a.x0 a.x4) == 34) (rx ZQ (.inl (UB.mk s_ false))) (lf Px (Vd.mk a.x0 (w64 (a.x4 + 1))))))))))))) .fail) (rx ZQ (.inr a.x0)))
theorem Vm.ok {a : Vd} {r : (UB ⊕ ByteArray)} (h : Vm a = some r) : lw 0 100 (loopAt pp 100 4) (Px a) = some (ZQ r) := by
 refine lpP h Qkk fun a => ?_
 exact ⟨rfl, fun q0 => ⟨rfl, fun q1 => ⟨rfl, fun q2 => Qi 4 (q2) (Qi 6 (rfl) (rfl)), fun q2 => noN_ok 2 (q2) (⟨q1, noN_ok 2 (q2) (⟨rfl, fun q3 => Qi 4 (q3) (⟨rfl, rfl⟩), fun q3 => noN_ok 2 (q3) (⟨q1, noN_ok 2 (q3) (⟨rfl, fun q4 => rfl, fun q4 => rfl⟩)⟩)⟩)⟩)⟩, fun q1 => trivial⟩, fun q0 => rfl⟩
def Qcj (L0 : Qex) (a0 : ByteArray) : Option (ByteArray × Bool) := (bif (decide (((a0.size : Nat) : Int) < 2)) then (some (s_, false)) else (bif (decide (0 ≤ (0 : Int) ∧ (0 : Int) < ((a0.size : Nat) : Int))) then (bif (((a0.data.getD (Int.toNat 0) 0).toNat : Int) != 34) then (some (s_, false)) else (bif (decide (0 ≤ (w64 (((a0.size : Nat) : Int) - 1)) ∧ (w64 (((a0.size : Nat) : Int) - 1)) < ((a0.size : Nat) : Int))) then (bif (((a0.data.getD (Int.toNat (w64 (((a0.size : Nat) : Int) - 1))) 0).toNat : Int) != 34) then (some (s_, false)) else (bif (decide (((a0.size : Nat) : Int) > 62)) then (some (s_, false)) else ((L0 (Vd.mk a0 (1 : Int))).bind fun x => Sum.elim (fun (o1 : UB) => (some (o1.x2, o1.x3))) (fun (o2 : ByteArray) => (bif (decide (0 ≤ (1 : Int) ∧ (1 : Int) ≤ (w64 (((o2.size : Nat) : Int) - 1)) ∧ (w64 (((o2.size : Nat) : Int) - 1)) ≤ ((o2.size : Nat) : Int))) then (some ((o2.extract (Int.toNat 1) (Int.toNat (w64 (((o2.size : Nat) : Int) - 1)))), true)) else none)) x))) else none)) else none))
noncomputable def X7 : Qjp := Qcj Vm
theorem X7.eq (a0 : ByteArray) : X7 a0 = Qcj Vm a0 := rfl
noncomputable def Qoh (a0 : ByteArray) : Tr (ByteArray × Bool) AH := (let u158 := (decide ((zz a0) < 2)); .as u158 (yesN 3 u158 (yesN 12 true (rt Yx (s_, false)))) (.no u158 (.as (in1 i0 (zz a0)) (noN 2 u158 (let u157 := ((gb a0 i0) != 34); .as u157 (yesN 6 u157 (yesN 5 true (rt Yx (s_, false)))) (noN 4 u157 (.as (in1 (w64 ((zz a0) - 1)) (zz a0)) (noN 2 u157 (let u156 := ((gb a0 (w64 ((zz a0) - 1))) != 34); .as u156 (yesN 3 u156 (.yes true (rt Yx (s_, false)))) (noN 3 u156 (.as (decide ((zz a0) > 62)) (rt Yx (s_, false)) (Qkj (Vd.mk a0 (zi 1)) (fun o1 => (rt Yx (o1.x2, o1.x3))) (fun o2 => (.as (in2 (zi 1) (w64 ((zz o2) - 1)) (zz o2)) (rt Yx ((cu o2 (zi 1) (w64 ((zz o2) - 1))), true)) .fail))))))) .fail)))) .fail)))
theorem X7.ok {a0 : ByteArray} {r : (ByteArray × Bool)} (h : X7 a0 = some r) : ww 100 [xs a0] [] = some (Yx r) := by
 refine fnP (Qoh a0) ?_ h
 exact ⟨rfl, fun q0 => Qi 3 (q0) (Qi 12 (rfl) (rfl)), fun q0 => ⟨q0, ⟨rfl, fun q1 => noN_ok 2 (q0) (⟨rfl, fun q2 => Qi 6 (q2) (Qi 5 (rfl) (rfl)), fun q2 => noN_ok 4 (q2) (⟨rfl, fun q3 => noN_ok 2 (q2) (⟨rfl, fun q4 => Qi 3 (q4) (⟨rfl, rfl⟩), fun q4 => noN_ok 3 (q4) (⟨rfl, fun q5 => rfl, fun q5 => ⟨fun o1 h => ⟨Vm.ok (r := (.inl _)) h, rfl⟩, fun o2 h => ⟨Vm.ok (r := (.inr _)) h, ⟨rfl, fun q6 => rfl, fun q6 => trivial⟩⟩⟩⟩)⟩), fun q3 => trivial⟩)⟩), fun q1 => trivial⟩⟩⟩
noncomputable abbrev Qoi {ρ R : Type} (a0 : ByteArray) (k : (ByteArray × Bool) → Tr ρ R) : Tr ρ R := .call (ww 100 [xs a0] []) (X7 a0) Yx k
abbrev QkX := ByteArray → (List ByteArray) → Option (Qb × Bool)
def QdN (C0 : Qio) (C1 : Qjp) (C2 : Qh5) (a0 : ByteArray) (a1 : (List ByteArray)) : Option (Qb × Bool) := (bif (eqS a0 QF) then (bif (decide ((((a1.length) : Nat) : Int) < 1)) then (some ((Qb.mk (0 : Int) s_ (3 : Int) (0 : Int) s_ ([] : List Qc)), false)) else (bif (decide ((((a1.length) : Nat) : Int) > 16)) then (some ((Qb.mk (0 : Int) s_ (3 : Int) (0 : Int) s_ ([] : List Qc)), false)) else ((C0 a1 ([] : List ByteArray)).bind fun r1 => (some ((Qb.mk (0 : Int) s_ (3 : Int) (0 : Int) s_ r1.1), r1.2))))) else (bif (eqS a0 QG) then (bif (decide ((((a1.length) : Nat) : Int) < 1)) then (some ((Qb.mk (0 : Int) s_ (4 : Int) (0 : Int) s_ ([] : List Qc)), false)) else (bif (decide ((((a1.length) : Nat) : Int) > 16)) then (some ((Qb.mk (0 : Int) s_ (4 : Int) (0 : Int) s_ ([] : List Qc)), false)) else ((C0 a1 ([] : List ByteArray)).bind fun r2 => (some ((Qb.mk (0 : Int) s_ (4 : Int) (0 : Int) s_ r2.1), r2.2))))) else (bif (eqS a0 QH) then (bif (decide ((((a1.length) : Nat) : Int) < 1)) then (some ((Qb.mk (0 : Int) s_ (5 : Int) (0 : Int) s_ ([] : List Qc)), false)) else (bif (decide ((((a1.length) : Nat) : Int) > 16)) then (some ((Qb.mk (0 : Int) s_ (5 : Int) (0 : Int) s_ ([] : List Qc)), false)) else ((C0 a1 ([] : List ByteArray)).bind fun r3 => (some ((Qb.mk (0 : Int) s_ (5 : Int) (0 : Int) s_ r3.1), r3.2))))) else (bif (eqS a0 QA) then (bif (decide ((((a1.length) : Nat) : Int) < 1)) then (some ((Qb.mk (0 : Int) s_ (7 : Int) (0 : Int) s_ ([] : List Qc)), false)) else (bif (decide ((((a1.length) : Nat) : Int) > 1)) then (some ((Qb.mk (0 : Int) s_ (7 : Int) (0 : Int) s_ ([] : List Qc)), false)) else ((C0 a1 ([] : List ByteArray)).bind fun r4 => (some ((Qb.mk (0 : Int) s_ (7 : Int) (0 : Int) s_ r4.1), r4.2))))) else (bif (eqS a0 QB) then (bif (decide ((((a1.length) : Nat) : Int) < 1)) then (some ((Qb.mk (0 : Int) s_ (8 : Int) (0 : Int) s_ ([] : List Qc)), false)) else (bif (decide ((((a1.length) : Nat) : Int) > 1)) then (some ((Qb.mk (0 : Int) s_ (8 : Int) (0 : Int) s_ ([] : List Qc)), false)) else ((C0 a1 ([] : List ByteArray)).bind fun r5 => (some ((Qb.mk (0 : Int) s_ (8 : Int) (0 : Int) s_ r5.1), r5.2))))) else (bif (eqS a0 Q0) then (bif ((((a1.length) : Nat) : Int) != 1) then (some ((Qb.mk (0 : Int) s_ (0 : Int) (0 : Int) s_ ([] : List Qc)), false)) else ((a1[(Int.toNat 0)]?).bind fun e6 => ((C1 e6).bind fun r7 => (some ((Qb.mk (0 : Int) s_ (6 : Int) (0 : Int) r7.1 ([] : List Qc)), r7.2))))) else (bif (eqS a0 Jx) then (bif ((((a1.length) : Nat) : Int) != 2) then (some ((Qb.mk (0 : Int) s_ (0 : Int) (0 : Int) s_ ([] : List Qc)), false)) else ((a1[(Int.toNat 0)]?).bind fun e8 => ((C2 e8).bind fun r9 => (bif (!r9) then (some ((Qb.mk (0 : Int) s_ (0 : Int) (0 : Int) s_ ([] : List Qc)), false)) else (bif (decide (0 ≤ (1 : Int) ∧ (1 : Int) ≤ ((a1.length : Nat) : Int) ∧ ((a1.length : Nat) : Int) ≤ ((a1.length : Nat) : Int))) then ((C0 ((a1.drop (Int.toNat 1)).take (Int.toNat (((a1.length : Nat) : Int) - 1))) ([] : List ByteArray)).bind fun r10 => ((a1[(Int.toNat 0)]?).bind fun e11 => (some ((Qb.mk (0 : Int) s_ (9 : Int) (0 : Int) e11 r10.1), r10.2)))) else none))))) else (some ((Qb.mk (0 : Int) s_ (0 : Int) (0 : Int) s_ ([] : List Qc)), false)))))))))
noncomputable def Xx : QkX := QdN Vx X7 YB
theorem Xx.eq (a0 : ByteArray) (a1 : (List ByteArray)) : Xx a0 a1 = QdN Vx X7 YB a0 a1 := rfl
noncomputable def QpU (a0 : ByteArray) (a1 : (List ByteArray)) : Tr (Qb × Bool) AH := (.as (eqS a0 QF) (.num ((Qg a1).length) (a1.length) (let u159 := (decide ((((a1.length) : Nat) : Int) < 1)); .as u159 (yesN 4 u159 (.yes true (rt Qz ((Qb.mk i0 s_ (zi 3) i0 s_ ([] : List Qc)), false)))) (.no u159 (.num ((Qg a1).length) (a1.length) (noN 3 u159 (.as (decide ((((a1.length) : Nat) : Int) > 16)) (rt Qz ((Qb.mk i0 s_ (zi 3) i0 s_ ([] : List Qc)), false)) (Yw a1 ([] : List ByteArray) fun r1 => (rt Qz ((Qb.mk i0 s_ (zi 3) i0 s_ r1.1), r1.2))))))))) (.as (eqS a0 QG) (.num ((Qg a1).length) (a1.length) (let u160 := (decide ((((a1.length) : Nat) : Int) < 1)); .as u160 (yesN 4 u160 (.yes true (rt Qz ((Qb.mk i0 s_ (zi 4) i0 s_ ([] : List Qc)), false)))) (.no u160 (.num ((Qg a1).length) (a1.length) (noN 3 u160 (.as (decide ((((a1.length) : Nat) : Int) > 16)) (rt Qz ((Qb.mk i0 s_ (zi 4) i0 s_ ([] : List Qc)), false)) (Yw a1 ([] : List ByteArray) fun r2 => (rt Qz ((Qb.mk i0 s_ (zi 4) i0 s_ r2.1), r2.2))))))))) (.as (eqS a0 QH) (.num ((Qg a1).length) (a1.length) (let u161 := (decide ((((a1.length) : Nat) : Int) < 1)); .as u161 (yesN 4 u161 (.yes true (rt Qz ((Qb.mk i0 s_ (zi 5) i0 s_ ([] : List Qc)), false)))) (.no u161 (.num ((Qg a1).length) (a1.length) (noN 3 u161 (.as (decide ((((a1.length) : Nat) : Int) > 16)) (rt Qz ((Qb.mk i0 s_ (zi 5) i0 s_ ([] : List Qc)), false)) (Yw a1 ([] : List ByteArray) fun r3 => (rt Qz ((Qb.mk i0 s_ (zi 5) i0 s_ r3.1), r3.2))))))))) (.as (eqS a0 QA) (.num ((Qg a1).length) (a1.length) (let u162 := (decide ((((a1.length) : Nat) : Int) < 1)); .as u162 (yesN 4 u162 (.yes true (rt Qz ((Qb.mk i0 s_ (zi 7) i0 s_ ([] : List Qc)), false)))) (.no u162 (.num ((Qg a1).length) (a1.length) (noN 3 u162 (.as (decide ((((a1.length) : Nat) : Int) > 1)) (rt Qz ((Qb.mk i0 s_ (zi 7) i0 s_ ([] : List Qc)), false)) (Yw a1 ([] : List ByteArray) fun r4 => (rt Qz ((Qb.mk i0 s_ (zi 7) i0 s_ r4.1), r4.2))))))))) (.as (eqS a0 QB) (.num ((Qg a1).length) (a1.length) (let u163 := (decide ((((a1.length) : Nat) : Int) < 1)); .as u163 (yesN 4 u163 (.yes true (rt Qz ((Qb.mk i0 s_ (zi 8) i0 s_ ([] : List Qc)), false)))) (.no u163 (.num ((Qg a1).length) (a1.length) (noN 3 u163 (.as (decide ((((a1.length) : Nat) : Int) > 1)) (rt Qz ((Qb.mk i0 s_ (zi 8) i0 s_ ([] : List Qc)), false)) (Yw a1 ([] : List ByteArray) fun r5 => (rt Qz ((Qb.mk i0 s_ (zi 8) i0 s_ r5.1), r5.2))))))))) (.as (eqS a0 Q0) (.num ((Qg a1).length) (a1.length) (.as ((((a1.length) : Nat) : Int) != 1) (rt Qz ((Qb.mk i0 s_ i0 i0 s_ ([] : List Qc)), false)) (.yes (decide (0 ≤ i0)) (.row ((Qg a1)[(Int.toNat 0)]?) (a1[(Int.toNat 0)]?) Q2 fun (e6 : ByteArray) => (Qoi e6 fun r7 => (rt Qz ((Qb.mk i0 s_ (zi 6) i0 r7.1 ([] : List Qc)), r7.2))))))) (.as (eqS a0 Jx) (.num ((Qg a1).length) (a1.length) (let u164 := ((((a1.length) : Nat) : Int) != 2); .as u164 (yesN 5 u164 (.yes true (rt Qz ((Qb.mk i0 s_ i0 i0 s_ ([] : List Qc)), false)))) (.no u164 (.yes (decide (0 ≤ i0)) (.row ((Qg a1)[(Int.toNat 0)]?) (a1[(Int.toNat 0)]?) Q2 fun (e8 : ByteArray) => (noN 2 u164 (QkM e8 fun r9 => (noN 2 u164 (.as (!r9) (rt Qz ((Qb.mk i0 s_ i0 i0 s_ ([] : List Qc)), false)) (.yes (decide ((Qg a1).all (fun r => r.length == 1) = true)) (.ask (in2 (zi 1) (((Qg a1).length : Nat) : Int) (((Qg a1).length : Nat) : Int)) (in2 (zi 1) ((a1.length : Nat) : Int) ((a1.length : Nat) : Int)) (.rows (((Qg a1).drop (Int.toNat 1)).take (Int.toNat ((((Qg a1).length : Nat) : Int) - 1))) (Qg ((a1.drop (Int.toNat 1)).take (Int.toNat (((a1.length : Nat) : Int) - 1)))) (Yw ((a1.drop (Int.toNat 1)).take (Int.toNat (((a1.length : Nat) : Int) - 1))) ([] : List ByteArray) fun r10 => (.yes (decide (0 ≤ i0)) (.row ((Qg a1)[(Int.toNat 0)]?) (a1[(Int.toNat 0)]?) Q2 fun (e11 : ByteArray) => (rt Qz ((Qb.mk i0 s_ (zi 9) i0 e11 r10.1), r10.2)))))) .fail))))))))))) (rt Qz ((Qb.mk i0 s_ i0 i0 s_ ([] : List Qc)), false)))))))))
theorem Xx.ok {a0 : ByteArray} {a1 : (List ByteArray)} {r : (Qb × Bool)} (h : Xx a0 a1 = some r) : ww 56 [xs a0, .sl (Qg a1)] [] = some (Qz r) := by
 refine fnP (QpU a0 a1) ?_ h
 exact ⟨rfl, fun q0 => ⟨(Qo _), ⟨rfl, fun q1 => Qi 4 (q1) (⟨rfl, rfl⟩), fun q1 => ⟨q1, ⟨(Qo _), noN_ok 3 (q1) (⟨rfl, fun q2 => rfl, fun q2 => fun r1 h => ⟨Vx.ok h, rfl⟩⟩)⟩⟩⟩⟩, fun q0 => ⟨rfl, fun q1 => ⟨(Qo _), ⟨rfl, fun q2 => Qi 4 (q2) (⟨rfl, rfl⟩), fun q2 => ⟨q2, ⟨(Qo _), noN_ok 3 (q2) (⟨rfl, fun q3 => rfl, fun q3 => fun r2 h => ⟨Vx.ok h, rfl⟩⟩)⟩⟩⟩⟩, fun q1 => ⟨rfl, fun q2 => ⟨(Qo _), ⟨rfl, fun q3 => Qi 4 (q3) (⟨rfl, rfl⟩), fun q3 => ⟨q3, ⟨(Qo _), noN_ok 3 (q3) (⟨rfl, fun q4 => rfl, fun q4 => fun r3 h => ⟨Vx.ok h, rfl⟩⟩)⟩⟩⟩⟩, fun q2 => ⟨rfl, fun q3 => ⟨(Qo _), ⟨rfl, fun q4 => Qi 4 (q4) (⟨rfl, rfl⟩), fun q4 => ⟨q4, ⟨(Qo _), noN_ok 3 (q4) (⟨rfl, fun q5 => rfl, fun q5 => fun r4 h => ⟨Vx.ok h, rfl⟩⟩)⟩⟩⟩⟩, fun q3 => ⟨rfl, fun q4 => ⟨(Qo _), ⟨rfl, fun q5 => Qi 4 (q5) (⟨rfl, rfl⟩), fun q5 => ⟨q5, ⟨(Qo _), noN_ok 3 (q5) (⟨rfl, fun q6 => rfl, fun q6 => fun r5 h => ⟨Vx.ok h, rfl⟩⟩)⟩⟩⟩⟩, fun q4 => ⟨rfl, fun q5 => ⟨(Qo _), ⟨rfl, fun q6 => rfl, fun q6 => ⟨rfl, fun e6 h => ⟨QT h, fun r7 h => ⟨X7.ok h, rfl⟩⟩⟩⟩⟩, fun q5 => ⟨rfl, fun q6 => ⟨(Qo _), ⟨rfl, fun q7 => Qi 5 (q7) (⟨rfl, rfl⟩), fun q7 => ⟨q7, ⟨rfl, fun e8 h => ⟨QT h, noN_ok 2 (q7) (fun r9 h => ⟨YB.ok h, noN_ok 2 (q7) (⟨rfl, fun q8 => rfl, fun q8 => ⟨(decide_eq_true (J7 _)), ⟨(by rw [Qo]), fun q9 => ⟨(by rw [QjX, Qo]), fun r10 h => ⟨Vx.ok h, ⟨rfl, fun e11 h => ⟨QT h, rfl⟩⟩⟩⟩, fun q9 => trivial⟩⟩⟩)⟩)⟩⟩⟩⟩⟩, fun q6 => rfl⟩⟩⟩⟩⟩⟩⟩
noncomputable abbrev Qjq {ρ R : Type} (a0 : ByteArray) (a1 : (List ByteArray)) (k : (Qb × Bool) → Tr ρ R) : Tr ρ R := .call (ww 56 [xs a0, .sl (Qg a1)] []) (Xx a0 a1) Qz k
abbrev Qm8 := ByteArray → Option (Int × Bool)
def Qgg (C0 : QdF) (a0 : ByteArray) : Option (Int × Bool) := ((C0 (-1 : Int) a0).bind fun r1 => (some (r1.2.1, r1.2.2)))
noncomputable def ZR : Qm8 := Qgg XB
theorem ZR.eq (a0 : ByteArray) : ZR a0 = Qgg XB a0 := rfl
noncomputable def QqP (a0 : ByteArray) : Tr (Int × Bool) AH := (QfU (-1 : Int) a0 fun r1 => (rt Wg (r1.2.1, r1.2.2)))
theorem ZR.ok {a0 : ByteArray} {r : (Int × Bool)} (h : ZR a0 = some r) : ww 102 [xs a0] [] = some (Wg r) := by
 refine fnP (QqP a0) ?_ h
 exact fun r1 h => ⟨XB.ok h, rfl⟩
noncomputable abbrev QqQ {ρ R : Type} (a0 : ByteArray) (k : (Int × Bool) → Tr ρ R) : Tr ρ R := .call (ww 102 [xs a0] []) (ZR a0) Wg k
abbrev Qm9 := ByteArray → (List ByteArray) → Option (Qb × Bool)
def Qgh (C0 : Qio) (C1 : Qm8) (C2 : QfV) (C3 : QfW) (a0 : ByteArray) (a1 : (List ByteArray)) : Option (Qb × Bool) := (bif (eqS a0 s_b) then (bif ((((a1.length) : Nat) : Int) != 1) then (some ((Qb.mk (0 : Int) s_ (2 : Int) (0 : Int) s_ ([] : List Qc)), false)) else ((C0 a1 ([] : List ByteArray)).bind fun r1 => (some ((Qb.mk (0 : Int) s_ (2 : Int) (0 : Int) s_ r1.1), r1.2)))) else (bif (eqS a0 s_bl) then (bif ((((a1.length) : Nat) : Int) != 1) then (some ((Qb.mk (0 : Int) s_ (2 : Int) (1 : Int) s_ ([] : List Qc)), false)) else ((C0 a1 ([] : List ByteArray)).bind fun r2 => (some ((Qb.mk (0 : Int) s_ (2 : Int) (1 : Int) s_ r2.1), r2.2)))) else (bif (eqS a0 s_bc) then (bif ((((a1.length) : Nat) : Int) != 3) then (some ((Qb.mk (0 : Int) s_ (2 : Int) (2 : Int) s_ ([] : List Qc)), false)) else ((C0 a1 ([] : List ByteArray)).bind fun r3 => (some ((Qb.mk (0 : Int) s_ (2 : Int) (2 : Int) s_ r3.1), r3.2)))) else ((C1 a0).bind fun r4 => (bif (!r4.2) then (some ((Qb.mk (0 : Int) s_ (2 : Int) (0 : Int) s_ ([] : List Qc)), false)) else ((C2 r4.1).bind fun r5 => ((C3 r5).bind fun r6 => (bif ((((a1.length) : Nat) : Int) != (((r6.length) : Nat) : Int)) then (some ((Qb.mk (0 : Int) s_ (1 : Int) r4.1 s_ ([] : List Qc)), false)) else ((C0 a1 r6).bind fun r7 => (some ((Qb.mk (0 : Int) s_ (1 : Int) r4.1 s_ r7.1), r7.2)))))))))))
noncomputable def Ya : Qm9 := Qgh Vx ZR Xg VX
theorem Ya.eq (a0 : ByteArray) (a1 : (List ByteArray)) : Ya a0 a1 = Qgh Vx ZR Xg VX a0 a1 := rfl
noncomputable def QqR (a0 : ByteArray) (a1 : (List ByteArray)) : Tr (Qb × Bool) AH := (.as (eqS a0 s_b) (.num ((Qg a1).length) (a1.length) (.as ((((a1.length) : Nat) : Int) != 1) (rt Qz ((Qb.mk i0 s_ (zi 2) i0 s_ ([] : List Qc)), false)) (Yw a1 ([] : List ByteArray) fun r1 => (rt Qz ((Qb.mk i0 s_ (zi 2) i0 s_ r1.1), r1.2))))) (.as (eqS a0 s_bl) (.num ((Qg a1).length) (a1.length) (.as ((((a1.length) : Nat) : Int) != 1) (rt Qz ((Qb.mk i0 s_ (zi 2) (zi 1) s_ ([] : List Qc)), false)) (Yw a1 ([] : List ByteArray) fun r2 => (rt Qz ((Qb.mk i0 s_ (zi 2) (zi 1) s_ r2.1), r2.2))))) (.as (eqS a0 s_bc) (.num ((Qg a1).length) (a1.length) (.as ((((a1.length) : Nat) : Int) != 3) (rt Qz ((Qb.mk i0 s_ (zi 2) (zi 2) s_ ([] : List Qc)), false)) (Yw a1 ([] : List ByteArray) fun r3 => (rt Qz ((Qb.mk i0 s_ (zi 2) (zi 2) s_ r3.1), r3.2))))) (QqQ a0 fun r4 => (.as (!r4.2) (rt Qz ((Qb.mk i0 s_ (zi 2) i0 s_ ([] : List Qc)), false)) (Qjf r4.1 fun r5 => (Qjg r5 fun r6 => (.num ((Qg r6).length) (r6.length) (.num ((Qg a1).length) (a1.length) (.as ((((a1.length) : Nat) : Int) != (((r6.length) : Nat) : Int)) (rt Qz ((Qb.mk i0 s_ (zi 1) r4.1 s_ ([] : List Qc)), false)) (Yw a1 r6 fun r7 => (rt Qz ((Qb.mk i0 s_ (zi 1) r4.1 s_ r7.1), r7.2)))))))))))))
theorem Ya.ok {a0 : ByteArray} {a1 : (List ByteArray)} {r : (Qb × Bool)} (h : Ya a0 a1 = some r) : ww 57 [xs a0, .sl (Qg a1)] [] = some (Qz r) := by
 refine fnP (QqR a0 a1) ?_ h
 exact ⟨rfl, fun q0 => ⟨(Qo _), ⟨rfl, fun q1 => rfl, fun q1 => fun r1 h => ⟨Vx.ok h, rfl⟩⟩⟩, fun q0 => ⟨rfl, fun q1 => ⟨(Qo _), ⟨rfl, fun q2 => rfl, fun q2 => fun r2 h => ⟨Vx.ok h, rfl⟩⟩⟩, fun q1 => ⟨rfl, fun q2 => ⟨(Qo _), ⟨rfl, fun q3 => rfl, fun q3 => fun r3 h => ⟨Vx.ok h, rfl⟩⟩⟩, fun q2 => fun r4 h => ⟨ZR.ok h, ⟨rfl, fun q3 => rfl, fun q3 => fun r5 h => ⟨Xg.ok h, fun r6 h => ⟨VX.ok h, ⟨(Qo _), ⟨(Qo _), ⟨rfl, fun q4 => rfl, fun q4 => fun r7 h => ⟨Vx.ok h, rfl⟩⟩⟩⟩⟩⟩⟩⟩⟩⟩⟩
noncomputable abbrev QkY {ρ R : Type} (a0 : ByteArray) (a1 : (List ByteArray)) (k : (Qb × Bool) → Tr ρ R) : Tr ρ R := .call (ww 57 [xs a0, .sl (Qg a1)] []) (Ya a0 a1) Qz k
abbrev QoJ := ByteArray → Option (Qb × Bool)
structure Wu where
 x0 : ByteArray
 x4 : Int
 h0 : Qb
structure Xa where
 x3 : Bool
 h0 : Qb
structure Xb where
 x0 : ByteArray
 h0 : Qb
def Qck (a : Wu) : St := { n := 89, nx := 2, env := [(0, xs a.x0), (2, .ptr 0 0), (4, xi a.x4)], heap := [(0, .box [0, 0, 0, 0, 0, 5] [xi a.h0.Line, xs a.h0.Label, xi a.h0.Kind, xi a.h0.Op, xs a.h0.Text, .arr 1]), (1, .arr true 5 (Qj a.h0.Args))] }
def Qgi (a : Xa) : Ex × St := (.ret, { n := 89, nx := 2, env := [(2, .ptr 0 0), (3, xo a.x3)], heap := [(0, .box [0, 0, 0, 0, 0, 5] [xi a.h0.Line, xs a.h0.Label, xi a.h0.Kind, xi a.h0.Op, xs a.h0.Text, .arr 1]), (1, .arr true 5 (Qj a.h0.Args))] })
def Qgj (a : Xb) : Ex × St := (.exit 0, { n := 89, nx := 2, env := [(0, xs a.x0), (2, .ptr 0 0)], heap := [(0, .box [0, 0, 0, 0, 0, 5] [xi a.h0.Line, xs a.h0.Label, xi a.h0.Kind, xi a.h0.Op, xs a.h0.Text, .arr 1]), (1, .arr true 5 (Qj a.h0.Args))] })
def Qcl (a : (Xa ⊕ Xb)) : Ex × St := Sum.elim Qgi Qgj a
abbrev Qjr := Wu → Option (Xa ⊕ Xb)
def PY (a : Wu) : Option (Wu ⊕ (Xa ⊕ Xb)) := (bif (decide (a.x4 < ((a.x0.size : Nat) : Int))) then (bif (decide (0 ≤ a.x4 ∧ a.x4 < ((a.x0.size : Nat) : Int))) then (bif (((a.x0.data.getD (Int.toNat a.x4) 0).toNat : Int) == 10) then (some (.inr (.inl (Xa.mk false (Qb.mk (0 : Int) s_ (0 : Int) (0 : Int) s_ ([] : List Qc)))))) else (some (.inl (Wu.mk a.x0 (w64 (a.x4 + 1)) a.h0)))) else none) else (some (.inr (.inr (Xb.mk a.x0 a.h0)))))
noncomputable def WH : Qjr := loopW (PY )
theorem WH.eq (a : Wu) : WH a = (PY a).bind (Sum.elim WH some) := Jk _ _
noncomputable abbrev Qoj {ρ R : Type} (a : Wu) (k0 : Xa → Tr ρ R) (k1 : Xb → Tr ρ R) : Tr ρ R := .loop2 (loopAt pp 20 2) (Qck a) (WH a) Qgi Qgj k0 k1
noncomputable def Qok (a : Wu) : Tr (Wu ⊕ (Xa ⊕ Xb)) XS := (.as (decide (a.x4 < (zz a.x0))) (.as (in1 a.x4 (zz a.x0)) (.as ((gb a.x0 a.x4) == 10) (rx Qcl (.inl (Xa.mk false (Qb.mk i0 s_ i0 i0 s_ ([] : List Qc))))) (lf Qck (Wu.mk a.x0 (w64 (a.x4 + 1)) a.h0))) .fail) (rx Qcl (.inr (Xb.mk a.x0 a.h0))))
theorem WH.ok {a : Wu} {r : (Xa ⊕ Xb)} (h : WH a = some r) : lw 0 20 (loopAt pp 20 2) (Qck a) = some (Qcl r) := by
 refine lpP h Qok fun a => ?_
 exact ⟨rfl, fun q0 => ⟨rfl, fun q1 => ⟨rfl, fun q2 => rfl, fun q2 => rfl⟩, fun q1 => trivial⟩, fun q0 => rfl⟩
structure V6 where
 x5 : ByteArray
 x6 : ByteArray
 x7 : Int
 h0 : Qb
structure VE where
 x5 : ByteArray
 x6 : ByteArray
 x7 : Int
 h0 : Qb
def Qcm (a : V6) : St := { n := 89, nx := 2, env := [(2, .ptr 0 0), (5, xs a.x5), (6, xs a.x6), (7, xi a.x7)], heap := [(0, .box [0, 0, 0, 0, 0, 5] [xi a.h0.Line, xs a.h0.Label, xi a.h0.Kind, xi a.h0.Op, xs a.h0.Text, .arr 1]), (1, .arr true 5 (Qj a.h0.Args))] }
def Ev (a : VE) : Ex × St := (.exit 2, { n := 89, nx := 2, env := [(2, .ptr 0 0), (5, xs a.x5), (6, xs a.x6), (7, xi a.x7)], heap := [(0, .box [0, 0, 0, 0, 0, 5] [xi a.h0.Line, xs a.h0.Label, xi a.h0.Kind, xi a.h0.Op, xs a.h0.Text, .arr 1]), (1, .arr true 5 (Qj a.h0.Args))] })
abbrev Qjs := V6 → Option VE
def PZ (a : V6) : Option (V6 ⊕ VE) := (bif (decide (a.x7 < ((a.x6.size : Nat) : Int))) then (bif (decide (0 ≤ a.x7 ∧ a.x7 < ((a.x6.size : Nat) : Int))) then (bif (((a.x6.data.getD (Int.toNat a.x7) 0).toNat : Int) != 32) then (bif (((a.x6.data.getD (Int.toNat a.x7) 0).toNat : Int) != 9) then (some (.inl (V6.mk a.x5 a.x6 (w64 (a.x7 + 1)) a.h0))) else (some (.inr (VE.mk a.x5 a.x6 a.x7 a.h0)))) else (some (.inr (VE.mk a.x5 a.x6 a.x7 a.h0)))) else none) else (some (.inr (VE.mk a.x5 a.x6 a.x7 a.h0))))
noncomputable def WZ : Qjs := loopW (PZ )
theorem WZ.eq (a : V6) : WZ a = (PZ a).bind (Sum.elim WZ some) := Jk _ _
noncomputable abbrev Qol {ρ R : Type} (a : V6) (k0 : VE → Tr ρ R) : Tr ρ R := .loop (loopAt pp 20 12) (Qcm a) (WZ a) Ev k0
noncomputable def Qom (a : V6) : Tr (V6 ⊕ VE) XS := (let u167 := (decide (a.x7 < (zz a.x6))); .as u167 (yesN 2 u167 (let u166 := (in1 a.x7 (zz a.x6)); .as u166 (yesN 2 u167 (let u165 := ((gb a.x6 a.x7) != 32); .as u165 (yesN 2 u165 (.yes u166 (yesN 2 u165 (.as ((gb a.x6 a.x7) != 9) (lf Qcm (V6.mk a.x5 a.x6 (w64 (a.x7 + 1)) a.h0)) (rx Ev (VE.mk a.x5 a.x6 a.x7 a.h0)))))) (noN 4 u165 (.no false (rx Ev (VE.mk a.x5 a.x6 a.x7 a.h0)))))) .fail)) (noN 4 u167 (noN 6 false (rx Ev (VE.mk a.x5 a.x6 a.x7 a.h0)))))
theorem WZ.ok {a : V6} {r : VE} (h : WZ a = some r) : lw 0 20 (loopAt pp 20 12) (Qcm a) = some (Ev r) := by
 refine lpP h Qom fun a => ?_
 exact ⟨rfl, fun q0 => Qi 2 (q0) (⟨rfl, fun q1 => Qi 2 (q0) (⟨rfl, fun q2 => Qi 2 (q2) (⟨q1, Qi 2 (q2) (⟨rfl, fun q3 => rfl, fun q3 => rfl⟩)⟩), fun q2 => noN_ok 4 (q2) (⟨rfl, rfl⟩)⟩), fun q1 => trivial⟩), fun q0 => noN_ok 4 (q0) (noN_ok 6 (rfl) (rfl))⟩
def Qip (C0 : QmY) (C1 : QdJ) (C2 : QkV) (C3 : QkW) (C4 : QkX) (C5 : Qm9) (L6 : Qjr) (L7 : Qjs) (a0 : ByteArray) : Option (Qb × Bool) := ((L6 (Wu.mk a0 (0 : Int) (Qb.mk (0 : Int) s_ (0 : Int) (0 : Int) s_ ([] : List Qc)))).bind fun x => Sum.elim (fun (o1 : Xa) => (some (o1.h0, o1.x3))) (fun (o2 : Xb) => ((C0 o2.x0).bind fun r3 => ((C1 r3).bind fun r4 => ((C2 r4).bind fun r5 => (bif (eqS r5.2 s_) then (bif (eqS r5.1 s_) then (some ((Qb.mk (0 : Int) s_ (0 : Int) (0 : Int) s_ ([] : List Qc)), true)) else (some ((Qb.mk (1 : Int) r5.1 (0 : Int) (0 : Int) s_ ([] : List Qc)), true))) else ((L7 (V6.mk r5.1 r5.2 (0 : Int) o2.h0)).bind (fun (o6 : VE) => (bif (decide (0 ≤ (0 : Int) ∧ (0 : Int) ≤ o6.x7 ∧ o6.x7 ≤ ((o6.x6.size : Nat) : Int))) then (bif (decide (0 ≤ o6.x7 ∧ o6.x7 ≤ ((o6.x6.size : Nat) : Int) ∧ ((o6.x6.size : Nat) : Int) ≤ ((o6.x6.size : Nat) : Int))) then ((C1 (o6.x6.extract (Int.toNat o6.x7) (Int.toNat ((o6.x6.size : Nat) : Int)))).bind fun r7 => (bif (!(eqS r7 s_)) then ((C3 (o6.x6.extract (Int.toNat o6.x7) (Int.toNat ((o6.x6.size : Nat) : Int)))).bind fun r8 => (bif (decide (0 ≤ (0 : Int) ∧ (0 : Int) < (((o6.x6.extract (Int.toNat 0) (Int.toNat o6.x7)).size : Nat) : Int))) then (bif ((((o6.x6.extract (Int.toNat 0) (Int.toNat o6.x7)).data.getD (Int.toNat 0) 0).toNat : Int) == 46) then ((C4 (o6.x6.extract (Int.toNat 0) (Int.toNat o6.x7)) r8).bind fun r9 => (bif (!r9.2) then (some ((Qb.mk (0 : Int) s_ (0 : Int) (0 : Int) s_ ([] : List Qc)), false)) else (some ((Qb.mk (1 : Int) o6.x5 r9.1.Kind r9.1.Op r9.1.Text r9.1.Args), true)))) else ((C5 (o6.x6.extract (Int.toNat 0) (Int.toNat o6.x7)) r8).bind fun r10 => (bif (!r10.2) then (some ((Qb.mk (0 : Int) s_ (0 : Int) (0 : Int) s_ ([] : List Qc)), false)) else (some ((Qb.mk (1 : Int) o6.x5 r10.1.Kind r10.1.Op r10.1.Text r10.1.Args), true))))) else none)) else (bif (decide (0 ≤ (0 : Int) ∧ (0 : Int) < (((o6.x6.extract (Int.toNat 0) (Int.toNat o6.x7)).size : Nat) : Int))) then (bif ((((o6.x6.extract (Int.toNat 0) (Int.toNat o6.x7)).data.getD (Int.toNat 0) 0).toNat : Int) == 46) then ((C4 (o6.x6.extract (Int.toNat 0) (Int.toNat o6.x7)) ([] : List ByteArray)).bind fun r11 => (bif (!r11.2) then (some ((Qb.mk (0 : Int) s_ (0 : Int) (0 : Int) s_ ([] : List Qc)), false)) else (some ((Qb.mk (1 : Int) o6.x5 r11.1.Kind r11.1.Op r11.1.Text r11.1.Args), true)))) else ((C5 (o6.x6.extract (Int.toNat 0) (Int.toNat o6.x7)) ([] : List ByteArray)).bind fun r12 => (bif (!r12.2) then (some ((Qb.mk (0 : Int) s_ (0 : Int) (0 : Int) s_ ([] : List Qc)), false)) else (some ((Qb.mk (1 : Int) o6.x5 r12.1.Kind r12.1.Op r12.1.Text r12.1.Args), true))))) else none))) else none) else none)))))))) x)
noncomputable def GM : QoJ := Qip Z9 V0 Zr YR Xx Ya WH WZ
theorem GM.eq (a0 : ByteArray) : GM a0 = Qip Z9 V0 Zr YR Xx Ya WH WZ a0 := rfl
noncomputable def QrS (a0 : ByteArray) : Tr (Qb × Bool) AH := (Qoj (Wu.mk a0 i0 (Qb.mk i0 s_ i0 i0 s_ ([] : List Qc))) (fun o1 => (rt Qz (o1.h0, o1.x3))) (fun o2 => (QqM o2.x0 fun r3 => (Zj r3 fun r4 => (QpR r4 fun r5 => (.as (eqS r5.2 s_) (.as (eqS r5.1 s_) (rt Qz ((Qb.mk i0 s_ i0 i0 s_ ([] : List Qc)), true)) (rt Qz ((Qb.mk (zi 1) r5.1 i0 i0 s_ ([] : List Qc)), true))) (Qol (V6.mk r5.1 r5.2 i0 o2.h0) (fun o6 => (.as (in2 i0 o6.x7 (zz o6.x6)) (let u168 := (in2 o6.x7 (zz o6.x6) (zz o6.x6)); .as u168 (Zj (cu o6.x6 o6.x7 (zz o6.x6)) fun r7 => (.as (!(eqS r7 s_)) (.yes u168 (QpT (cu o6.x6 o6.x7 (zz o6.x6)) fun r8 => (.as (in1 i0 (zz (cu o6.x6 i0 o6.x7))) (.as ((gb (cu o6.x6 i0 o6.x7) i0) == 46) (Qjq (cu o6.x6 i0 o6.x7) r8 fun r9 => (.as (!r9.2) (rt Qz ((Qb.mk i0 s_ i0 i0 s_ ([] : List Qc)), false)) (rt Qz ((Qb.mk (zi 1) o6.x5 r9.1.Kind r9.1.Op r9.1.Text r9.1.Args), true)))) (QkY (cu o6.x6 i0 o6.x7) r8 fun r10 => (.as (!r10.2) (rt Qz ((Qb.mk i0 s_ i0 i0 s_ ([] : List Qc)), false)) (rt Qz ((Qb.mk (zi 1) o6.x5 r10.1.Kind r10.1.Op r10.1.Text r10.1.Args), true))))) .fail))) (.as (in1 i0 (zz (cu o6.x6 i0 o6.x7))) (.as ((gb (cu o6.x6 i0 o6.x7) i0) == 46) (Qjq (cu o6.x6 i0 o6.x7) ([] : List ByteArray) fun r11 => (.as (!r11.2) (rt Qz ((Qb.mk i0 s_ i0 i0 s_ ([] : List Qc)), false)) (rt Qz ((Qb.mk (zi 1) o6.x5 r11.1.Kind r11.1.Op r11.1.Text r11.1.Args), true)))) (QkY (cu o6.x6 i0 o6.x7) ([] : List ByteArray) fun r12 => (.as (!r12.2) (rt Qz ((Qb.mk i0 s_ i0 i0 s_ ([] : List Qc)), false)) (rt Qz ((Qb.mk (zi 1) o6.x5 r12.1.Kind r12.1.Op r12.1.Text r12.1.Args), true))))) .fail))) .fail) .fail)))))))))
theorem GM.ok {a0 : ByteArray} {r : (Qb × Bool)} (h : GM a0 = some r) : ww 20 [xs a0] [] = some (Qz r) := by
 refine fnP (QrS a0) ?_ h
 exact ⟨fun o1 h => ⟨WH.ok (r := (.inl _)) h, rfl⟩, fun o2 h => ⟨WH.ok (r := (.inr _)) h, fun r3 h => ⟨Z9.ok h, fun r4 h => ⟨V0.ok h, fun r5 h => ⟨Zr.ok h, ⟨rfl, fun q0 => ⟨rfl, fun q1 => rfl, fun q1 => rfl⟩, fun q0 => fun o6 h => ⟨WZ.ok h, ⟨rfl, fun q1 => ⟨rfl, fun q2 => fun r7 h => ⟨V0.ok h, ⟨rfl, fun q3 => ⟨q2, fun r8 h => ⟨YR.ok h, ⟨rfl, fun q4 => ⟨rfl, fun q5 => fun r9 h => ⟨Xx.ok h, ⟨rfl, fun q6 => rfl, fun q6 => rfl⟩⟩, fun q5 => fun r10 h => ⟨Ya.ok h, ⟨rfl, fun q6 => rfl, fun q6 => rfl⟩⟩⟩, fun q4 => trivial⟩⟩⟩, fun q3 => ⟨rfl, fun q4 => ⟨rfl, fun q5 => fun r11 h => ⟨Xx.ok h, ⟨rfl, fun q6 => rfl, fun q6 => rfl⟩⟩, fun q5 => fun r12 h => ⟨Ya.ok h, ⟨rfl, fun q6 => rfl, fun q6 => rfl⟩⟩⟩, fun q4 => trivial⟩⟩⟩, fun q2 => trivial⟩, fun q1 => trivial⟩⟩⟩⟩⟩⟩⟩⟩
noncomputable abbrev QrT {ρ R : Type} (a0 : ByteArray) (k : (Qb × Bool) → Tr ρ R) : Tr ρ R := .call (ww 20 [xs a0] []) (GM a0) Qz k
abbrev Xy := Qa → Qa → Option Bool
abbrev Qiq (c : Xy) : Prop := ∀ (a0 : Qa) (a1 : Qa) (r : Bool), c a0 a1 = some r → ww 78 [.agg (Q3 a0), .agg (Q3 a1)] [] = some (Ql r)
noncomputable abbrev QkZ {ρ R : Type} (c : Xy) (a0 : Qa) (a1 : Qa) (k : Bool → Tr ρ R) : Tr ρ R := .call (ww 78 [.agg (Q3 a0), .agg (Q3 a1)] []) (c a0 a1) Ql k
structure U1 where
 x5 : Int
 h0 : Qa
 h1 : Qa
def Qbl (a : U1) : St := { n := 53, nx := 2, env := [(2, .ptr 0 0), (3, .ptr 1 0), (5, xi a.x5)], heap := [(0, .box [] (Q3 a.h0)), (1, .box [] (Q3 a.h1))] }
def Qey (a : Bool) : Ex × St := (.ret, { n := 53, nx := 0, env := [(4, xo a)], heap := [] })
def Qez (a : Unit) : Ex × St := (.exit 0, { n := 53, nx := 0, env := [], heap := [] })
def Qbm (a : (Bool ⊕ Unit)) : Ex × St := Sum.elim Qey Qez a
abbrev Yy := U1 → Option (Bool ⊕ Unit)
def Xz (C0 : Xy) (a : U1) : Option (U1 ⊕ (Bool ⊕ Unit)) := (bif (decide (a.x5 < (((a.h0.L.length) : Nat) : Int))) then (bif (decide (0 ≤ a.x5)) then ((a.h0.L[(Int.toNat a.x5)]?).bind fun e1 => ((a.h1.L[(Int.toNat a.x5)]?).bind fun e2 => ((C0 e1 e2).bind fun r3 => (bif (!r3) then (some (.inr (.inl false))) else (some (.inl (U1.mk (w64 (a.x5 + 1)) a.h0 a.h1))))))) else none) else (some (.inr (.inr ()))))
theorem Qgk {C0 : Nat → Xy} {D0 : Xy} (H0 : Cv2 C0 D0) (a : U1) : Cv (fun k => Xz (C0 k) a) (Xz D0 a) := by
 unfold Xz
 exact .cond (.cond (.bind (.const _) fun e1 => .bind (.const _) fun e2 => .bind (H0 _ _) fun r3 => by exact .const _) cst) cst
noncomputable abbrev Qna {ρ R : Type} (l : Yy) (a : U1) (k0 : Bool → Tr ρ R) (k1 : Unit → Tr ρ R) : Tr ρ R := .loop2 (loopAt pp 78 4) (Qbl a) (l a) Qey Qez k0 k1
noncomputable def Qnb (C0 : Xy) (a : U1) : Tr (U1 ⊕ (Bool ⊕ Unit)) XS := (.num ((QN a.h0.L).length) (a.h0.L.length) (.as (decide (a.x5 < (((a.h0.L.length) : Nat) : Int))) (let u169 := (decide (0 ≤ a.x5)); .as u169 (.row ((QN a.h0.L)[(Int.toNat a.x5)]?) (a.h0.L[(Int.toNat a.x5)]?) Q3 fun (e1 : Qa) => (.yes u169 (.row ((QN a.h1.L)[(Int.toNat a.x5)]?) (a.h1.L[(Int.toNat a.x5)]?) Q3 fun (e2 : Qa) => (QkZ C0 e1 e2 fun r3 => (.as (!r3) (rx Qbm (.inl false)) (lf Qbl (U1.mk (w64 (a.x5 + 1)) a.h0 a.h1))))))) .fail) (rx Qbm (.inr ()))))
noncomputable def Jt.s (k : Nat) (C0 : Xy) : Yy := iter (Xz C0) k
theorem QeA (k : Nat) {C0 : Xy} (i_r3_Same : Qiq C0) {a : U1} {r : (Bool ⊕ Unit)} (h : Jt.s k C0 a = some r) : lw 0 78 (loopAt pp 78 4) (Qbl a) = some (Qbm r) := by
 refine lpP (itP h) (Qnb C0) fun a => ?_
 exact ⟨(GR _), ⟨rfl, fun q0 => ⟨rfl, fun q1 => fun e1 h => ⟨Zz h, ⟨q1, fun e2 h => ⟨Zz h, fun r3 h => ⟨i_r3_Same _ _ _ h, ⟨rfl, fun q2 => rfl, fun q2 => rfl⟩⟩⟩⟩⟩, fun q1 => trivial⟩, fun q0 => rfl⟩⟩
theorem Jt.m {j k : Nat} (hj : j ≤ k) (C0 : Xy) (D0 : Xy) (H0 : Le2 C0 D0) (a : U1) : Le (Jt.s j C0 a) (Jt.s k D0 a) := Le.iter (fun a => (Qgk (tw2 H0) a).1 0) hj a
noncomputable def Jt.w (C0 : Xy) : Yy := loopW (Xz C0)
theorem Jt.cv (C0 : Nat → Xy) (D0 : Xy) (H0 : Cv2 C0 D0) (a : U1) : Cv (fun k => Jt.s k (C0 k) a) (Jt.w D0 a) := Cv.iter (fun a => Qgk H0 a) a
def GN (L0 : Yy) (a0 : Qa) (a1 : Qa) : Option Bool := (bif (a0.Kind != a1.Kind) then (some false) else (bif (a0.N != a1.N) then (some false) else (bif (!(eqS a0.Name a1.Name)) then (some false) else (bif ((((a0.L.length) : Nat) : Int) != (((a1.L.length) : Nat) : Int)) then (some false) else ((L0 (U1.mk (0 : Int) a0 a1)).bind fun x => Sum.elim (fun (o1 : Bool) => (some o1)) (fun (o2 : Unit) => (some true)) x)))))
theorem Qk0 {L0 : Nat → Yy} {M0 : Yy} (N0 : Cv1 L0 M0) (a0 : Qa) (a1 : Qa) : Cv (fun k => GN (L0 k) a0 a1) (GN M0 a0 a1) := by
 unfold GN
 exact .cond cst (.cond cst (.cond cst (.cond cst (.bind (N0 _) fun x => .sum (fun o1 => by exact .const _) (fun o2 => by exact .const _) x))))
noncomputable def QqS (L0 : Yy) (a0 : Qa) (a1 : Qa) : Tr Bool AH := (let u172 := (a0.Kind != a1.Kind); .as u172 (yesN 5 u172 (yesN 15 true (rt Ql false))) (noN 5 u172 (let u171 := (a0.N != a1.N); .as u171 (yesN 5 u171 (yesN 9 true (rt Ql false))) (noN 5 u171 (let u170 := (!(eqS a0.Name a1.Name)); .as u170 (yesN 7 u170 (.yes true (rt Ql false))) (noN 2 u170 (.num ((QN a0.L).length) (a0.L.length) (noN 3 u170 (.num ((QN a1.L).length) (a1.L.length) (noN 2 u170 (.as ((((a0.L.length) : Nat) : Int) != (((a1.L.length) : Nat) : Int)) (rt Ql false) (Qna L0 (U1.mk i0 a0 a1) (fun o1 => (rt Ql o1)) (fun o2 => (rt Ql true))))))))))))))
noncomputable def J3.s : Nat → Qa → Qa → Option Bool
 | 0, _, _ => none
 | k + 1, a0, a1 => GN (Jt.s k (fun a0 a1 => J3.s k a0 a1)) a0 a1
termination_by structural k => k
theorem QhL : ∀ (k : Nat), (Qiq (J3.s k))
 | 0 => fun _ _ _ h => (nomatch h)
 | k + 1 => by
  have i_r3_Same : Qiq (J3.s k) := QhL k
  exact fun a0 a1 r h => by
    refine fnP (QqS (Jt.s k (J3.s k)) a0 a1) ?_ h
    exact ⟨rfl, fun q0 => Qi 5 (q0) (Qi 15 (rfl) (rfl)), fun q0 => noN_ok 5 (q0) (⟨rfl, fun q1 => Qi 5 (q1) (Qi 9 (rfl) (rfl)), fun q1 => noN_ok 5 (q1) (⟨rfl, fun q2 => Qi 7 (q2) (⟨rfl, rfl⟩), fun q2 => noN_ok 2 (q2) (⟨(GR _), noN_ok 3 (q2) (⟨(GR _), noN_ok 2 (q2) (⟨rfl, fun q3 => rfl, fun q3 => ⟨fun o1 h => ⟨QeA k i_r3_Same (r := (.inl _)) h, rfl⟩, fun o2 h => ⟨QeA k i_r3_Same (r := (.inr _)) h, rfl⟩⟩⟩)⟩)⟩)⟩)⟩)⟩
theorem Qgl : ∀ (k : Nat), (∀ (a0 : Qa) (a1 : Qa), Le (J3.s k a0 a1) (J3.s (k + 1) a0 a1))
 | 0 => fun _ _ _ h => (nomatch h)
 | k + 1 => by
  have i_r3_Same : ∀ (a0 : Qa) (a1 : Qa), Le (J3.s k a0 a1) (J3.s (k + 1) a0 a1) := Qgl k
  exact fun a0 a1 => (Qk0 (tw1 (Jt.m (Nat.le_succ k) (J3.s k) (J3.s (k + 1)) i_r3_Same)) a0 a1).1 0
noncomputable def J3 (a0 : Qa) (a1 : Qa) : Option Bool := lim fun k => J3.s k a0 a1
theorem J3.cv (a0 : Qa) (a1 : Qa) : Cv (fun k => J3.s k a0 a1) (J3 a0 a1) := .lim fun k => (Qgl k) a0 a1
theorem J3.ok {a0 : Qa} {a1 : Qa} {r : Bool} (h : J3 a0 a1 = some r) : ww 78 [.agg (Q3 a0), .agg (Q3 a1)] [] = some (Ql r) := let ⟨k, e⟩ := ((J3.cv a0 a1).2 r).1 h; (QhL k) a0 a1 _ e
noncomputable def Jt : Yy := Jt.w J3
theorem Jt.eq (a : U1) : Jt a = (Xz J3 a).bind (Sum.elim Jt some) := Jk _ _
theorem J3.eq (a0 : Qa) (a1 : Qa) : J3 a0 a1 = GN Jt a0 a1 := Cv.uniq (J3.cv a0 a1).shift (Qk0 (Jt.cv (fun k => J3.s k) J3 J3.cv) a0 a1)
noncomputable abbrev QqT {ρ R : Type} (a0 : Qa) (a1 : Qa) (k : Bool → Tr ρ R) : Tr ρ R := QkZ J3 a0 a1 k
abbrev Qnc := Qb → Qb → Option Bool
structure V2 where
 x5 : Int
 h0 : Qb
 h1 : Qb
def Qbn (a : V2) : St := { n := 84, nx := 2, env := [(2, .ptr 0 0), (3, .ptr 1 0), (5, xi a.x5)], heap := [(0, .box [0, 0, 0, 0, 0, 5] (WN a.h0)), (1, .box [0, 0, 0, 0, 0, 5] (WN a.h1))] }
def QeB (a : Bool) : Ex × St := (.ret, { n := 84, nx := 0, env := [(4, xo a)], heap := [] })
def QeC (a : Unit) : Ex × St := (.exit 0, { n := 84, nx := 0, env := [], heap := [] })
def F3 (a : (Bool ⊕ Unit)) : Ex × St := Sum.elim QeB QeC a
abbrev QhM := V2 → Option (Bool ⊕ Unit)
def F4 (C0 : Xy) (a : V2) : Option (V2 ⊕ (Bool ⊕ Unit)) := (bif (decide (a.x5 < (((a.h0.Args.length) : Nat) : Int))) then (bif (decide (0 ≤ a.x5)) then ((a.h0.Args[(Int.toNat a.x5)]?).bind fun e1 => ((a.h1.Args[(Int.toNat a.x5)]?).bind fun e2 => (bif (e1.Reg != e2.Reg) then (some (.inr (.inl false))) else ((a.h0.Args[(Int.toNat a.x5)]?).bind fun e3 => ((a.h1.Args[(Int.toNat a.x5)]?).bind fun e4 => ((C0 e3.E e4.E).bind fun r5 => (bif (!r5) then (some (.inr (.inl false))) else (some (.inl (V2.mk (w64 (a.x5 + 1)) a.h0 a.h1)))))))))) else none) else (some (.inr (.inr ()))))
noncomputable def WB : QhM := loopW (F4 J3)
theorem WB.eq (a : V2) : WB a = (F4 J3 a).bind (Sum.elim WB some) := Jk _ _
noncomputable abbrev Qnd {ρ R : Type} (a : V2) (k0 : Bool → Tr ρ R) (k1 : Unit → Tr ρ R) : Tr ρ R := .loop2 (loopAt pp 28 4) (Qbn a) (WB a) QeB QeC k0 k1
noncomputable def Qne (a : V2) : Tr (V2 ⊕ (Bool ⊕ Unit)) XS := (.num ((Qj a.h0.Args).length) (a.h0.Args.length) (.as (decide (a.x5 < (((a.h0.Args.length) : Nat) : Int))) (let u174 := (decide (0 ≤ a.x5)); .as u174 (.row ((Qj a.h0.Args)[(Int.toNat a.x5)]?) (a.h0.Args[(Int.toNat a.x5)]?) WV fun (e1 : Qc) => (.yes u174 (.row ((Qj a.h1.Args)[(Int.toNat a.x5)]?) (a.h1.Args[(Int.toNat a.x5)]?) WV fun (e2 : Qc) => (let u173 := (e1.Reg != e2.Reg); .as u173 (yesN 14 u173 (.yes true (rx F3 (.inl false)))) (noN 3 u173 (.yes u174 (.row ((Qj a.h0.Args)[(Int.toNat a.x5)]?) (a.h0.Args[(Int.toNat a.x5)]?) WV fun (e3 : Qc) => (noN 6 u173 (.yes u174 (.row ((Qj a.h1.Args)[(Int.toNat a.x5)]?) (a.h1.Args[(Int.toNat a.x5)]?) WV fun (e4 : Qc) => (noN 3 u173 (QqT e3.E e4.E fun r5 => (noN 2 u173 (.as (!r5) (rx F3 (.inl false)) (lf Qbn (V2.mk (w64 (a.x5 + 1)) a.h0 a.h1)))))))))))))))) .fail) (rx F3 (.inr ()))))
theorem WB.ok {a : V2} {r : (Bool ⊕ Unit)} (h : WB a = some r) : lw 0 28 (loopAt pp 28 4) (Qbn a) = some (F3 r) := by
 refine lpP h Qne fun a => ?_
 exact ⟨(Jb _), ⟨rfl, fun q0 => ⟨rfl, fun q1 => fun e1 h => ⟨Yc h, ⟨q1, fun e2 h => ⟨Yc h, ⟨rfl, fun q2 => Qi 14 (q2) (⟨rfl, rfl⟩), fun q2 => noN_ok 3 (q2) (⟨q1, fun e3 h => ⟨Yc h, noN_ok 6 (q2) (⟨q1, fun e4 h => ⟨Yc h, noN_ok 3 (q2) (fun r5 h => ⟨J3.ok h, noN_ok 2 (q2) (⟨rfl, fun q3 => rfl, fun q3 => rfl⟩)⟩)⟩⟩)⟩⟩)⟩⟩⟩⟩, fun q1 => trivial⟩, fun q0 => rfl⟩⟩
def Qgm (L0 : QhM) (a0 : Qb) (a1 : Qb) : Option Bool := (bif (a0.Line != a1.Line) then (some false) else (bif (!(eqS a0.Label a1.Label)) then (some false) else (bif (a0.Kind != a1.Kind) then (some false) else (bif (a0.Op != a1.Op) then (some false) else (bif (!(eqS a0.Text a1.Text)) then (some false) else (bif ((((a0.Args.length) : Nat) : Int) != (((a1.Args.length) : Nat) : Int)) then (some false) else ((L0 (V2.mk (0 : Int) a0 a1)).bind fun x => Sum.elim (fun (o1 : Bool) => (some o1)) (fun (o2 : Unit) => (some true)) x)))))))
noncomputable def Yb : Qnc := Qgm WB
theorem Yb.eq (a0 : Qb) (a1 : Qb) : Yb a0 a1 = Qgm WB a0 a1 := rfl
noncomputable def QqU (a0 : Qb) (a1 : Qb) : Tr Bool AH := (let u179 := (a0.Line != a1.Line); .as u179 (yesN 5 u179 (yesN 27 true (rt Ql false))) (noN 5 u179 (let u178 := (!(eqS a0.Label a1.Label)); .as u178 (yesN 5 u178 (yesN 21 true (rt Ql false))) (noN 5 u178 (let u177 := (a0.Kind != a1.Kind); .as u177 (yesN 5 u177 (yesN 15 true (rt Ql false))) (noN 5 u177 (let u176 := (a0.Op != a1.Op); .as u176 (yesN 5 u176 (yesN 9 true (rt Ql false))) (noN 5 u176 (let u175 := (!(eqS a0.Text a1.Text)); .as u175 (yesN 7 u175 (.yes true (rt Ql false))) (noN 2 u175 (.num ((Qj a0.Args).length) (a0.Args.length) (noN 3 u175 (.num ((Qj a1.Args).length) (a1.Args.length) (noN 2 u175 (.as ((((a0.Args.length) : Nat) : Int) != (((a1.Args.length) : Nat) : Int)) (rt Ql false) (Qnd (V2.mk i0 a0 a1) (fun o1 => (rt Ql o1)) (fun o2 => (rt Ql true))))))))))))))))))
theorem Yb.ok {a0 : Qb} {a1 : Qb} {r : Bool} (h : Yb a0 a1 = some r) : ww 28 [.agg (WN a0), .agg (WN a1)] [] = some (Ql r) := by
 refine fnP (QqU a0 a1) ?_ h
 exact ⟨rfl, fun q0 => Qi 5 (q0) (Qi 27 (rfl) (rfl)), fun q0 => noN_ok 5 (q0) (⟨rfl, fun q1 => Qi 5 (q1) (Qi 21 (rfl) (rfl)), fun q1 => noN_ok 5 (q1) (⟨rfl, fun q2 => Qi 5 (q2) (Qi 15 (rfl) (rfl)), fun q2 => noN_ok 5 (q2) (⟨rfl, fun q3 => Qi 5 (q3) (Qi 9 (rfl) (rfl)), fun q3 => noN_ok 5 (q3) (⟨rfl, fun q4 => Qi 7 (q4) (⟨rfl, rfl⟩), fun q4 => noN_ok 2 (q4) (⟨(Jb _), noN_ok 3 (q4) (⟨(Jb _), noN_ok 2 (q4) (⟨rfl, fun q5 => rfl, fun q5 => ⟨fun o1 h => ⟨WB.ok (r := (.inl _)) h, rfl⟩, fun o2 h => ⟨WB.ok (r := (.inr _)) h, rfl⟩⟩⟩)⟩)⟩)⟩)⟩)⟩)⟩)⟩
noncomputable abbrev Qk1 {ρ R : Type} (a0 : Qb) (a1 : Qb) (k : Bool → Tr ρ R) : Tr ρ R := .call (ww 28 [.agg (WN a0), .agg (WN a1)] []) (Yb a0 a1) Ql k
abbrev Qkl := (List QJ) → ByteArray → Int → Option Bool
def F5 (C0 : Qqw) (C1 : QoG) (C2 : Qf3) (C3 : QmV) (C4 : Fs) (C5 : QkQ) (C6 : QoJ) (C7 : Qnc) (a0 : (List QJ)) (a1 : ByteArray) (a2 : Int) : Option Bool := ((C0).bind fun r1 => (bif (!r1) then (some false) else ((C1 a0).bind fun r2 => (bif (!r2) then (some true) else (bif ((((a0.length) : Nat) : Int) == 0) then (some true) else (bif (decide (((a1.size : Nat) : Int) > 30)) then (some true) else ((a0[(Int.toNat 0)]?).bind fun e3 => ((C2 e3).bind fun r4 => (bif (r4.Kind == 0) then (some true) else ((C3 (Qb.mk r4.Line s_ r4.Kind r4.Op r4.Text r4.Args)).bind fun r5 => ((C4 a2 (4 : Int)).bind fun r6 => (bif (decide (0 ≤ r6 ∧ r6 < (([s_, h_20, Gp, YL].length : Nat) : Int))) then (([s_, h_20, Gp, YL][(Int.toNat r6)]?).bind fun e7 => (bif (decide (((e7.size + Xr.size : Nat) : Int) ≤ IntKind.i64.max)) then (bif (decide ((((e7 ++ Xr).size + e7.size : Nat) : Int) ≤ IntKind.i64.max)) then (bif (decide (((((e7 ++ Xr) ++ e7).size + r5.size : Nat) : Int) ≤ IntKind.i64.max)) then ((C5 (((e7 ++ Xr) ++ e7) ++ r5)).bind fun r8 => (bif (decide (((a1.size + h_3a.size : Nat) : Int) ≤ IntKind.i64.max)) then (bif (decide ((((a1 ++ h_3a).size + e7.size : Nat) : Int) ≤ IntKind.i64.max)) then (bif (decide (((((a1 ++ h_3a) ++ e7).size + r5.size : Nat) : Int) ≤ IntKind.i64.max)) then ((C5 (((a1 ++ h_3a) ++ e7) ++ r5)).bind fun r9 => ((C6 (((a1 ++ h_3a) ++ e7) ++ r5)).bind fun r10 => (bif r8.2 then ((C7 r8.1 (Qb.mk r4.Line Qi0 r4.Kind r4.Op r4.Text r4.Args)).bind fun r11 => (bif r11 then (bif (r9.2 == r10.2) then ((C7 r9.1 r10.1).bind fun r12 => (some r12)) else (some false)) else (some false))) else (some false)))) else none) else none) else none)) else none) else none) else none)) else none))))))))))))
noncomputable def WM : Qkl := F5 EF Er W9 Y6 QO Ye GM Yb
theorem WM.eq (a0 : (List QJ)) (a1 : ByteArray) (a2 : Int) : WM a0 a1 a2 = F5 EF Er W9 Y6 QO Ye GM Yb a0 a1 a2 := rfl
noncomputable def Qjt (a0 : (List QJ)) (a1 : ByteArray) (a2 : Int) : Tr Bool AH := (QpC fun r1 => (.as (!r1) (rt Ql false) (QrM a0 fun r2 => (.as (!r2) (yesN 3 (!r2) (yesN 5 true (rt Ql true))) (.no (!r2) (.num ((XO a0).length) (a0.length) (noN 2 (!r2) (let u184 := ((((a0.length) : Nat) : Int) == 0); .as u184 (yesN 3 u184 (.yes true (rt Ql true))) (noN 3 u184 (.as (decide ((zz a1) > 30)) (rt Ql true) (.yes (decide (0 ≤ i0)) (.row ((XO a0)[(Int.toNat 0)]?) (a0[(Int.toNat 0)]?) Wd fun (e3 : QJ) => (QlO e3 fun r4 => (.as (r4.Kind == 0) (rt Ql true) (QqK (Qb.mk r4.Line s_ r4.Kind r4.Op r4.Text r4.Args) fun r5 => (.rows [[xs s_], [xs h_20], [xs Gp], [xs YL]] (Qg [s_, h_20, Gp, YL]) (Jf a2 (zi 4) fun r6 => (.ask (in1 r6 (((Qg [s_, h_20, Gp, YL]).length : Nat) : Int)) (in1 r6 (([s_, h_20, Gp, YL].length : Nat) : Int)) (.row ((Qg [s_, h_20, Gp, YL])[(Int.toNat r6)]?) ([s_, h_20, Gp, YL][(Int.toNat r6)]?) Q2 fun (e7 : ByteArray) => (.as (decide (((e7.size + Xr.size : Nat) : Int) ≤ IntKind.i64.max)) (.as (decide ((((e7 ++ Xr).size + e7.size : Nat) : Int) ≤ IntKind.i64.max)) (.as (decide (((((e7 ++ Xr) ++ e7).size + r5.size : Nat) : Int) ≤ IntKind.i64.max)) (Qjd (((e7 ++ Xr) ++ e7) ++ r5) fun r8 => (let u183 := (decide (((a1.size + h_3a.size : Nat) : Int) ≤ IntKind.i64.max)); .as u183 (let u182 := (decide ((((a1 ++ h_3a).size + e7.size : Nat) : Int) ≤ IntKind.i64.max)); .as u182 (let u181 := (decide (((((a1 ++ h_3a) ++ e7).size + r5.size : Nat) : Int) ≤ IntKind.i64.max)); .as u181 (Qjd (((a1 ++ h_3a) ++ e7) ++ r5) fun r9 => (.yes u183 (.yes u182 (.yes u181 (QrT (((a1 ++ h_3a) ++ e7) ++ r5) fun r10 => (.as r8.2 (yesN 2 r8.2 (Qk1 r8.1 (Qb.mk r4.Line Qi0 r4.Kind r4.Op r4.Text r4.Args) fun r11 => (.yes r8.2 (.as r11 (yesN 3 r11 (let u180 := (r9.2 == r10.2); .as u180 (yesN 2 u180 (Qk1 r9.1 r10.1 fun r12 => (.yes u180 (rt Ql r12)))) (noN 3 u180 (rt Ql false)))) (noN 3 r11 (noN 4 false (rt Ql false))))))) (noN 3 r8.2 (noN 8 false (rt Ql false))))))))) .fail) .fail) .fail)) .fail) .fail) .fail)) .fail))))))))))))))))))
theorem WM.ok {a0 : (List QJ)} {a1 : ByteArray} {a2 : Int} {r : Bool} (h : WM a0 a1 a2 = some r) : ww 11 [.sl (XO a0), xs a1, xi a2] [] = some (Ql r) := by
 refine fnP (Qjt a0 a1 a2) ?_ h
 exact fun r1 h => ⟨EF.ok h, ⟨rfl, fun q0 => rfl, fun q0 => fun r2 h => ⟨Er.ok h, ⟨rfl, fun q1 => Qi 3 (q1) (Qi 5 (rfl) (rfl)), fun q1 => ⟨q1, ⟨(Qfj _), noN_ok 2 (q1) (⟨rfl, fun q2 => Qi 3 (q2) (⟨rfl, rfl⟩), fun q2 => noN_ok 3 (q2) (⟨rfl, fun q3 => rfl, fun q3 => ⟨rfl, fun e3 h => ⟨Qaw h, fun r4 h => ⟨W9.ok h, ⟨rfl, fun q4 => rfl, fun q4 => fun r5 h => ⟨Y6.ok h, ⟨(QS [s_, h_20, Gp, YL]), fun r6 h => ⟨QO.ok h, ⟨(by rw [Qo]), fun q5 => fun e7 h => ⟨QT h, ⟨rfl, fun q6 => ⟨rfl, fun q7 => ⟨rfl, fun q8 => fun r8 h => ⟨Ye.ok h, ⟨rfl, fun q9 => ⟨rfl, fun q10 => ⟨rfl, fun q11 => fun r9 h => ⟨Ye.ok h, ⟨q9, ⟨q10, ⟨q11, fun r10 h => ⟨GM.ok h, ⟨rfl, fun q12 => Qi 2 (q12) (fun r11 h => ⟨Yb.ok h, ⟨q12, ⟨rfl, fun q13 => Qi 3 (q13) (⟨rfl, fun q14 => Qi 2 (q14) (fun r12 h => ⟨Yb.ok h, ⟨q14, rfl⟩⟩), fun q14 => noN_ok 3 (q14) (rfl)⟩), fun q13 => noN_ok 3 (q13) (noN_ok 4 (rfl) (rfl))⟩⟩⟩), fun q12 => noN_ok 3 (q12) (noN_ok 8 (rfl) (rfl))⟩⟩⟩⟩⟩⟩, fun q11 => trivial⟩, fun q10 => trivial⟩, fun q9 => trivial⟩⟩, fun q8 => trivial⟩, fun q7 => trivial⟩, fun q6 => trivial⟩⟩, fun q5 => trivial⟩⟩⟩⟩⟩⟩⟩⟩⟩)⟩)⟩⟩⟩⟩⟩⟩
theorem WM.run (a0 : (List QJ)) (a1 : ByteArray) (a2 : Int) {r : Bool} (h : WM a0 a1 a2 = some r) : ∃ k, evalFn Tryz.prog G k 11 [.sl (XO a0), .sc (.string a1), .sc (.int .i64 a2)] [] = some (Ql r) := runP (WM.ok h)

end Go.Ab
namespace Go.Proofs.YtblfhkldljfhiaaGreatDoor
open Go Go.Ab Go.RowKit Go.Shelf
theorem gPow : Tryz.prog.globalNamed "internal/strconv.uint64pow10" = some 5 := by kernel_rfl
theorem tPow : (Tryz.prog.globals[5]?).map (·.type) = some 287 := by kernel_rfl
theorem QqV : Tryz.prog.cellsOf 255 = 1 := by kernel_rfl
theorem QqW : Tryz.prog.cellsOf 287 = 20 := by kernel_rfl
theorem datumP {H : Type} : (Rows.laid_internal_strconv_uint64pow10 : DataW H) = Lib.tabData .u64 Lib.pow10Tab := by kernel_rfl
theorem gSp : Tryz.prog.globalNamed "strings.asciiSpace" = some 0 := by kernel_rfl
theorem tSp : (Tryz.prog.globals[0]?).map (·.type) = some 234 := by kernel_rfl
theorem QrU : Tryz.prog.cellsOf 5 = 1 := by kernel_rfl
theorem QrV : Tryz.prog.cellsOf 234 = 256 := by kernel_rfl
theorem datumS {H : Type} : (Rows.laid_strings_asciiSpace : DataW H) = Lib.tabData .u8 Lib.asciiSpaceTab := by kernel_rfl
def told : Ab.Told := ((told1 Tryz.prog "internal/strconv.uint64pow10" 5 (Lib.pow10Tab.map fun z => Value.int .u64 z).toArray).both (told1 Tryz.prog "strings.asciiSpace" 0 (Lib.asciiSpaceTab.map fun z => Value.int .u8 z).toArray)).both (cellT 1)
theorem QsS {W : World} (h : laidMetH Tryz.prog [("math/bits.deBruijn32tab", Rows.laid_math_bits_deBruijn32tab), ("math/bits.deBruijn64tab", Rows.laid_math_bits_deBruijn64tab), ("internal/strconv.uint64pow10", Rows.laid_internal_strconv_uint64pow10), ("unicode/utf8.acceptRanges", Rows.laid_unicode_utf8_acceptRanges), ("strconv.ErrRange", Rows.laid_strconv_ErrRange), ("strconv.ErrSyntax", Rows.laid_strconv_ErrSyntax), ("unicode.White_Space", Rows.laid_unicode_White_Space), ("strings.asciiSpace", Rows.laid_strings_asciiSpace), ("unicode/utf8.first", Rows.laid_unicode_utf8_first)] W ∧ W.ShapedOpen Tryz.prog) : told.T (oldCtx W).Z W := by
 obtain ⟨h, hs⟩ := h
 rw [MakeChecks.laidMetH_plain _ _ _ (by kernel_rfl)] at h
 obtain ⟨ps, ⟨g0, t0, cs0, f0, p0, q0, hg0, ht0, hv0, hd0, ⟨g1, t1, cs1, f1, p1, q1, hg1, ht1, hv1, hd1, ⟨g2, t2, cs2, f2, p2, q2, hg2, ht2, hv2, hd2, ⟨g3, t3, cs3, f3, p3, q3, hg3, ht3, hv3, hd3, ⟨g4, t4, cs4, f4, p4, q4, hg4, ht4, hv4, hd4, ⟨g5, t5, cs5, f5, p5, q5, hg5, ht5, hv5, hd5, ⟨g6, t6, cs6, f6, p6, q6, hg6, ht6, hv6, hd6, ⟨g7, t7, cs7, f7, p7, q7, hg7, ht7, hv7, hd7, ⟨g8, t8, cs8, f8, p8, q8, hg8, ht8, hv8, hd8, _⟩, _⟩, _⟩, _⟩, _⟩, _⟩, _⟩, _⟩, _⟩, _⟩ := h
 refine ⟨⟨?_, ?_⟩, ?_⟩
 ·obtain rfl := Option.some.inj (gPow.symm.trans hg2)
  obtain rfl := Option.some.inj (tPow.symm.trans ht2)
  rw [datumP] at hd2
  refine Qmi gPow (hv2.trans ?_) (by decide)
  have := Lib.cells_of_tab Tryz.underlying287 Tryz.underlying255 QqV QqW hd2
  rw [← this]
 ·obtain rfl := Option.some.inj (gSp.symm.trans hg7)
  obtain rfl := Option.some.inj (tSp.symm.trans ht7)
  rw [datumS] at hd7
  refine Qmi gSp (hv7.trans ?_) (of_decide_eq_true (by kernel_rfl))
  have := Lib.cells_of_tab Tryz.underlying234 Tryz.underlying5 QrU QrV hd7
  rw [← this]
 ·exact Qqr (cell_of_shapedOpen_int (P := Tryz.prog) (t := 3) (zero := #[.int .i64 0]) hs (by decide +kernel) (by kernel_rfl) rfl (by kernel_rfl) (by kernel_rfl) Tryz.underlying3)
set_option maxHeartbeats 2000000 in
set_option maxRecDepth 100000 in
theorem QsT (n c : Nat) (w : World) : Calls Tryz.prog 81 #[.slice none n c] w fun e w' => e = .returned (.slice none 0 0) ∧ w' = w := by
 have mixed : Tryz.prog.follows .mixedOrders = true := by kernel_rfl
 have t0 := Tryz.underlying3; have a0 := Tryz.isAgg3; have z0 := Tryz.sizeOf3; have v0 := Tryz.zeroValue3; have t1 := Tryz.underlying22; have a1 := Tryz.isAgg22; have z1 := Tryz.sizeOf22; have v1 := Tryz.zeroValue22; have t2 := Tryz.underlying4; have a2 := Tryz.isAgg4; have z2 := Tryz.sizeOf4; have v2 := Tryz.zeroValue4
 have q22 : ∀ (w : World) (a : Option Addr) (n c n' c' : Nat), (binOp .eql 22 (.slice a n c) (.slice none n' c')).run Tryz.prog w = .ok (.bool a.isNone) w := fun w a n c n' c' => Lib.run_eql_slice_nil w _ _ a n c n' c' t1
 go_enter Tryz.func81, Tryz.ntmps81
 go_wp2
 go_ret
 exact ⟨rfl, rfl⟩
set_option maxHeartbeats 2000000 in
set_option maxRecDepth 100000 in
theorem QrW (a : Addr) (c : Nat) (w : World) : Calls Tryz.prog 81 #[.slice (some a) 0 c] w fun e w' => ∃ v', e = .returned v' ∧ w'.ownsRow w.heap.size 3 1 v' 0 [] ∧ Below w.heap.size w w' := by
 have mixed : Tryz.prog.follows .mixedOrders = true := by kernel_rfl
 have t0 := Tryz.underlying3; have a0 := Tryz.isAgg3; have z0 := Tryz.sizeOf3; have v0 := Tryz.zeroValue3; have t1 := Tryz.underlying22; have a1 := Tryz.isAgg22; have z1 := Tryz.sizeOf22; have v1 := Tryz.zeroValue22; have t2 := Tryz.underlying4; have a2 := Tryz.isAgg4; have z2 := Tryz.sizeOf4; have v2 := Tryz.zeroValue4
 have q22 : ∀ (w : World) (a : Option Addr) (n c n' c' : Nat), (binOp .eql 22 (.slice a n c) (.slice none n' c')).run Tryz.prog w = .ok (.bool a.isNone) w := fun w a n c n' c' => Lib.run_eql_slice_nil w _ _ a n c n' c' t1
 have hinfo : (Tryz.prog.info? 3).map (fun i => (i.zero, i.size, i.bytes)) = some (some (.int .i64 0), 1, 8) := by kernel_rfl
 obtain ⟨i0, hi, hz0, hz1, hz2⟩ := info_parts hinfo
 have u22 : ∀ w, Sem.run Tryz.prog (underlying 22) w = .ok (TypeDesc.slice 3) w := run_underlying t1
 go_enter Tryz.func81, Tryz.ntmps81
 go_wp2_with (at_builtin; refine wpList_append_own _ rfl _ _ 22 rfl w.heap.size 3 i0 (.int .i64 0) 1 8 t1 hi hz0 hz1 hz2 rfl (by decide) _ _ _ rfl (World.ownsRow_made w #[] 0 (Nat.le_refl _) (Nat.zero_le _) rfl) a 0 c [] rfl rfl (by intro j u hj; simp at hj) (by intro u hu; cases hu) (by unfold maxLen; omega) (by omega) (by simp) ?_)
 intro v' w1 hown hgrow hnil
 go_wp2
 go_ret
 refine ⟨v', rfl, by simpa using hown, ?_⟩
 exact ((Below.refl _ w).alloc (Nat.le_refl _) _).grown hgrow (by simp) (by intro k hk; simp [Value.ownBlock] at hk; omega)
set_option maxHeartbeats 2000000 in
set_option maxRecDepth 100000 in
theorem QrX (b off c : Nat) (zs : List Value) (w : World) (hbig : zs.length * 8 ≤ 140737488355328) (hsc : zs.all scal = true) (hc : ∀ (j : Nat) z, zs[j]? = some z → w.cell? ⟨b, off + j, none⟩ = some z) :
  Calls Tryz.prog 81 #[.slice (some ⟨b, off, none⟩) zs.length c] w fun e w' => ∃ v', e = .returned v' ∧ w'.ownsRow w.heap.size 3 1 v' zs.length zs ∧ Below w.heap.size w w' := by
 have mixed : Tryz.prog.follows .mixedOrders = true := by kernel_rfl
 have t0 := Tryz.underlying3; have a0 := Tryz.isAgg3; have z0 := Tryz.sizeOf3; have v0 := Tryz.zeroValue3; have t1 := Tryz.underlying22; have a1 := Tryz.isAgg22; have z1 := Tryz.sizeOf22; have v1 := Tryz.zeroValue22; have t2 := Tryz.underlying4; have a2 := Tryz.isAgg4; have z2 := Tryz.sizeOf4; have v2 := Tryz.zeroValue4
 have q22 : ∀ (w : World) (a : Option Addr) (n c n' c' : Nat), (binOp .eql 22 (.slice a n c) (.slice none n' c')).run Tryz.prog w = .ok (.bool a.isNone) w := fun w a n c n' c' => Lib.run_eql_slice_nil w _ _ a n c n' c' t1
 have hinfo : (Tryz.prog.info? 3).map (fun i => (i.zero, i.size, i.bytes)) = some (some (.int .i64 0), 1, 8) := by kernel_rfl
 obtain ⟨i0, hi, hz0, hz1, hz2⟩ := info_parts hinfo
 have u22 : ∀ w, Sem.run Tryz.prog (underlying 22) w = .ok (TypeDesc.slice 3) w := run_underlying t1
 have A : Aside (∀ (j : Nat) z, zs[j]? = some z → w.cell? ⟨b, off + j, none⟩ = some z) := hc
 clear hc
 go_enter Tryz.func81, Tryz.ntmps81
 go_wp2_with (at_builtin; refine wpList_append_own _ rfl _ _ 22 rfl w.heap.size 3 i0 (.int .i64 0) 1 8 t1 hi hz0 hz1 hz2 rfl (by decide) _ _ _ rfl (World.ownsRow_made w #[] 0 (Nat.le_refl _) (Nat.zero_le _) rfl) ⟨b, off, none⟩ zs.length c zs rfl ?qc1 ?qc2 ?qc3 ?qc4 ?qc5 ?qc6 ?_)
 case qc1 => simp
 case qc2 =>
  intro j u hj
  rw [Addr.add_lit]
  exact Lib.cell?_alloc_some _ (A.out j u hj)
 case qc3 => intro u hu; exact YH (c := oldCtx w) (w := w) (.sc u (List.all_eq_true.1 hsc u hu)) rfl
 case qc4 => unfold maxLen; omega
 case qc5 => omega
 case qc6 => simp
 intro v' w1 hown hgrow hnil
 go_wp2
 go_ret
 refine ⟨v', rfl, by simpa using hown, ?_⟩
 exact ((Below.refl _ w).alloc (Nat.le_refl _) _).grown hgrow (by simp) (by intro k hk; simp [Value.ownBlock] at hk; omega)

set_option maxHeartbeats 2000000 in
set_option maxRecDepth 100000 in
theorem QqX (n c : Nat) (w : World) : Calls Tryz.prog 77 #[.slice none n c] w fun e w' => e = .returned (.slice none 0 0) ∧ w' = w := by
 have mixed : Tryz.prog.follows .mixedOrders = true := by kernel_rfl
 have t0 := Tryz.underlying68; have a0 := Tryz.isAgg68; have z0 := Tryz.sizeOf68; have v0 := Tryz.zeroValue68; have t1 := Tryz.underlying35; have a1 := Tryz.isAgg35; have z1 := Tryz.sizeOf35; have v1 := Tryz.zeroValue35; have t2 := Tryz.underlying4; have a2 := Tryz.isAgg4; have z2 := Tryz.sizeOf4; have v2 := Tryz.zeroValue4
 have q22 : ∀ (w : World) (a : Option Addr) (n c n' c' : Nat), (binOp .eql 35 (.slice a n c) (.slice none n' c')).run Tryz.prog w = .ok (.bool a.isNone) w := fun w a n c n' c' => Lib.run_eql_slice_nil w _ _ a n c n' c' t1
 go_enter Tryz.func77, Tryz.ntmps77
 go_wp2
 go_ret
 exact ⟨rfl, rfl⟩
set_option maxHeartbeats 2000000 in
set_option maxRecDepth 100000 in
theorem QpV (a : Addr) (c : Nat) (w : World) : Calls Tryz.prog 77 #[.slice (some a) 0 c] w fun e w' => ∃ v', e = .returned v' ∧ w'.ownsRow w.heap.size 68 5 v' 0 [] ∧ Below w.heap.size w w' := by
 have mixed : Tryz.prog.follows .mixedOrders = true := by kernel_rfl
 have t0 := Tryz.underlying68; have a0 := Tryz.isAgg68; have z0 := Tryz.sizeOf68; have v0 := Tryz.zeroValue68; have t1 := Tryz.underlying35; have a1 := Tryz.isAgg35; have z1 := Tryz.sizeOf35; have v1 := Tryz.zeroValue35; have t2 := Tryz.underlying4; have a2 := Tryz.isAgg4; have z2 := Tryz.sizeOf4; have v2 := Tryz.zeroValue4
 have q22 : ∀ (w : World) (a : Option Addr) (n c n' c' : Nat), (binOp .eql 35 (.slice a n c) (.slice none n' c')).run Tryz.prog w = .ok (.bool a.isNone) w := fun w a n c n' c' => Lib.run_eql_slice_nil w _ _ a n c n' c' t1
 have hinfo : (Tryz.prog.info? 68).map (fun i => (i.zero, i.size, i.bytes)) = some (some (.agg #[.int .i64 0, .int .i64 0, .int .i64 0, .string ByteArray.empty, .slice none 0 0]), 5, 64) := by kernel_rfl
 obtain ⟨i0, hi, hz0, hz1, hz2⟩ := info_parts hinfo
 have u22 : ∀ w, Sem.run Tryz.prog (underlying 35) w = .ok (TypeDesc.slice 68) w := run_underlying t1
 go_enter Tryz.func77, Tryz.ntmps77
 go_wp2_with (at_builtin; refine wpList_append_own _ rfl _ _ 35 rfl w.heap.size 68 i0 (.agg #[.int .i64 0, .int .i64 0, .int .i64 0, .string ByteArray.empty, .slice none 0 0]) 5 64 t1 hi hz0 hz1 hz2 rfl (by decide) _ _ _ rfl (World.ownsRow_made w #[] 0 (Nat.le_refl _) (Nat.zero_le _) rfl) a 0 c [] rfl rfl (by intro j u hj; simp at hj) (by intro u hu; cases hu) (by unfold maxLen; omega) (by omega) (by simp) ?_)
 intro v' w1 hown hgrow hnil
 go_wp2
 go_ret
 refine ⟨v', rfl, by simpa using hown, ?_⟩
 exact ((Below.refl _ w).alloc (Nat.le_refl _) _).grown hgrow (by simp) (by intro k hk; simp [Value.ownBlock] at hk; omega)
set_option maxHeartbeats 2000000 in
set_option maxRecDepth 100000 in
theorem QpW (b off n c : Nat) (zs : List Value) (w : World) (hl : zs.length = n * 5) (hbig : n * 64 ≤ 140737488355328) (hml : n ≤ maxLen) (hsc : ∀ u ∈ zs, u.oneCell' = true) (hc : ∀ (j : Nat) z, zs[j]? = some z → w.cell? ⟨b, off + j, none⟩ = some z) :
  Calls Tryz.prog 77 #[.slice (some ⟨b, off, none⟩) n c] w fun e w' => ∃ v', e = .returned v' ∧ w'.ownsRow w.heap.size 68 5 v' n zs ∧ Below w.heap.size w w' := by
 have mixed : Tryz.prog.follows .mixedOrders = true := by kernel_rfl
 have t0 := Tryz.underlying68; have a0 := Tryz.isAgg68; have z0 := Tryz.sizeOf68; have v0 := Tryz.zeroValue68; have t1 := Tryz.underlying35; have a1 := Tryz.isAgg35; have z1 := Tryz.sizeOf35; have v1 := Tryz.zeroValue35; have t2 := Tryz.underlying4; have a2 := Tryz.isAgg4; have z2 := Tryz.sizeOf4; have v2 := Tryz.zeroValue4
 have q22 : ∀ (w : World) (a : Option Addr) (n c n' c' : Nat), (binOp .eql 35 (.slice a n c) (.slice none n' c')).run Tryz.prog w = .ok (.bool a.isNone) w := fun w a n c n' c' => Lib.run_eql_slice_nil w _ _ a n c n' c' t1
 have hinfo : (Tryz.prog.info? 68).map (fun i => (i.zero, i.size, i.bytes)) = some (some (.agg #[.int .i64 0, .int .i64 0, .int .i64 0, .string ByteArray.empty, .slice none 0 0]), 5, 64) := by kernel_rfl
 obtain ⟨i0, hi, hz0, hz1, hz2⟩ := info_parts hinfo
 have u22 : ∀ w, Sem.run Tryz.prog (underlying 35) w = .ok (TypeDesc.slice 68) w := run_underlying t1
 have A : Aside (∀ (j : Nat) z, zs[j]? = some z → w.cell? ⟨b, off + j, none⟩ = some z) := hc
 clear hc
 go_enter Tryz.func77, Tryz.ntmps77
 go_wp2_with (at_builtin; refine wpList_append_own _ rfl _ _ 35 rfl w.heap.size 68 i0 (.agg #[.int .i64 0, .int .i64 0, .int .i64 0, .string ByteArray.empty, .slice none 0 0]) 5 64 t1 hi hz0 hz1 hz2 rfl (by decide) _ _ _ rfl (World.ownsRow_made w #[] 0 (Nat.le_refl _) (Nat.zero_le _) rfl) ⟨b, off, none⟩ n c zs rfl ?qc1 ?qc2 ?qc3 ?qc4 ?qc5 ?qc6 ?_)
 case qc1 => exact hl
 case qc2 =>
  intro j u hj
  rw [Addr.add_lit]
  exact Lib.cell?_alloc_some _ (A.out j u hj)
 case qc3 => intro u hu; exact hsc u hu
 case qc4 => omega
 case qc5 => omega
 case qc6 => simp
 intro v' w1 hown hgrow hnil
 go_wp2
 go_ret
 refine ⟨v', rfl, by simpa using hown, ?_⟩
 exact ((Below.refl _ w).alloc (Nat.le_refl _) _).grown hgrow (by simp) (by intro k hk; simp [Value.ownBlock] at hk; omega)

set_option maxHeartbeats 2000000 in
set_option maxRecDepth 100000 in
theorem QpX (n c : Nat) (w : World) : Calls Tryz.prog 80 #[.slice none n c] w fun e w' => e = .returned (.slice none 0 0) ∧ w' = w := by
 have mixed : Tryz.prog.follows .mixedOrders = true := by kernel_rfl
 have t0 := Tryz.underlying37; have a0 := Tryz.isAgg37; have z0 := Tryz.sizeOf37; have v0 := Tryz.zeroValue37; have t1 := Tryz.underlying52; have a1 := Tryz.isAgg52; have z1 := Tryz.sizeOf52; have v1 := Tryz.zeroValue52; have t2 := Tryz.underlying4; have a2 := Tryz.isAgg4; have z2 := Tryz.sizeOf4; have v2 := Tryz.zeroValue4
 have q22 : ∀ (w : World) (a : Option Addr) (n c n' c' : Nat), (binOp .eql 52 (.slice a n c) (.slice none n' c')).run Tryz.prog w = .ok (.bool a.isNone) w := fun w a n c n' c' => Lib.run_eql_slice_nil w _ _ a n c n' c' t1
 go_enter Tryz.func80, Tryz.ntmps80
 go_wp2
 go_ret
 exact ⟨rfl, rfl⟩
set_option maxHeartbeats 2000000 in
set_option maxRecDepth 100000 in
theorem Qon (a : Addr) (c : Nat) (w : World) : Calls Tryz.prog 80 #[.slice (some a) 0 c] w fun e w' => ∃ v', e = .returned v' ∧ w'.ownsRow w.heap.size 37 6 v' 0 [] ∧ Below w.heap.size w w' := by
 have mixed : Tryz.prog.follows .mixedOrders = true := by kernel_rfl
 have t0 := Tryz.underlying37; have a0 := Tryz.isAgg37; have z0 := Tryz.sizeOf37; have v0 := Tryz.zeroValue37; have t1 := Tryz.underlying52; have a1 := Tryz.isAgg52; have z1 := Tryz.sizeOf52; have v1 := Tryz.zeroValue52; have t2 := Tryz.underlying4; have a2 := Tryz.isAgg4; have z2 := Tryz.sizeOf4; have v2 := Tryz.zeroValue4
 have q22 : ∀ (w : World) (a : Option Addr) (n c n' c' : Nat), (binOp .eql 52 (.slice a n c) (.slice none n' c')).run Tryz.prog w = .ok (.bool a.isNone) w := fun w a n c n' c' => Lib.run_eql_slice_nil w _ _ a n c n' c' t1
 have hinfo : (Tryz.prog.info? 37).map (fun i => (i.zero, i.size, i.bytes)) = some (some (.agg #[.int .i64 0, .string ByteArray.empty, .int .i64 0, .int .i64 0, .string ByteArray.empty, .slice none 0 0]), 6, 80) := by kernel_rfl
 obtain ⟨i0, hi, hz0, hz1, hz2⟩ := info_parts hinfo
 have u22 : ∀ w, Sem.run Tryz.prog (underlying 52) w = .ok (TypeDesc.slice 37) w := run_underlying t1
 go_enter Tryz.func80, Tryz.ntmps80
 go_wp2_with (at_builtin; refine wpList_append_own _ rfl _ _ 52 rfl w.heap.size 37 i0 (.agg #[.int .i64 0, .string ByteArray.empty, .int .i64 0, .int .i64 0, .string ByteArray.empty, .slice none 0 0]) 6 80 t1 hi hz0 hz1 hz2 rfl (by decide) _ _ _ rfl (World.ownsRow_made w #[] 0 (Nat.le_refl _) (Nat.zero_le _) rfl) a 0 c [] rfl rfl (by intro j u hj; simp at hj) (by intro u hu; cases hu) (by unfold maxLen; omega) (by omega) (by simp) ?_)
 intro v' w1 hown hgrow hnil
 go_wp2
 go_ret
 refine ⟨v', rfl, by simpa using hown, ?_⟩
 exact ((Below.refl _ w).alloc (Nat.le_refl _) _).grown hgrow (by simp) (by intro k hk; simp [Value.ownBlock] at hk; omega)
set_option maxHeartbeats 2000000 in
set_option maxRecDepth 100000 in
theorem Qoo (b off n c : Nat) (zs : List Value) (w : World) (hl : zs.length = n * 6) (hbig : n * 80 ≤ 140737488355328) (hml : n ≤ maxLen) (hsc : ∀ u ∈ zs, u.oneCell' = true) (hc : ∀ (j : Nat) z, zs[j]? = some z → w.cell? ⟨b, off + j, none⟩ = some z) :
  Calls Tryz.prog 80 #[.slice (some ⟨b, off, none⟩) n c] w fun e w' => ∃ v', e = .returned v' ∧ w'.ownsRow w.heap.size 37 6 v' n zs ∧ Below w.heap.size w w' := by
 have mixed : Tryz.prog.follows .mixedOrders = true := by kernel_rfl
 have t0 := Tryz.underlying37; have a0 := Tryz.isAgg37; have z0 := Tryz.sizeOf37; have v0 := Tryz.zeroValue37; have t1 := Tryz.underlying52; have a1 := Tryz.isAgg52; have z1 := Tryz.sizeOf52; have v1 := Tryz.zeroValue52; have t2 := Tryz.underlying4; have a2 := Tryz.isAgg4; have z2 := Tryz.sizeOf4; have v2 := Tryz.zeroValue4
 have q22 : ∀ (w : World) (a : Option Addr) (n c n' c' : Nat), (binOp .eql 52 (.slice a n c) (.slice none n' c')).run Tryz.prog w = .ok (.bool a.isNone) w := fun w a n c n' c' => Lib.run_eql_slice_nil w _ _ a n c n' c' t1
 have hinfo : (Tryz.prog.info? 37).map (fun i => (i.zero, i.size, i.bytes)) = some (some (.agg #[.int .i64 0, .string ByteArray.empty, .int .i64 0, .int .i64 0, .string ByteArray.empty, .slice none 0 0]), 6, 80) := by kernel_rfl
 obtain ⟨i0, hi, hz0, hz1, hz2⟩ := info_parts hinfo
 have u22 : ∀ w, Sem.run Tryz.prog (underlying 52) w = .ok (TypeDesc.slice 37) w := run_underlying t1
 have A : Aside (∀ (j : Nat) z, zs[j]? = some z → w.cell? ⟨b, off + j, none⟩ = some z) := hc
 clear hc
 go_enter Tryz.func80, Tryz.ntmps80
 go_wp2_with (at_builtin; refine wpList_append_own _ rfl _ _ 52 rfl w.heap.size 37 i0 (.agg #[.int .i64 0, .string ByteArray.empty, .int .i64 0, .int .i64 0, .string ByteArray.empty, .slice none 0 0]) 6 80 t1 hi hz0 hz1 hz2 rfl (by decide) _ _ _ rfl (World.ownsRow_made w #[] 0 (Nat.le_refl _) (Nat.zero_le _) rfl) ⟨b, off, none⟩ n c zs rfl ?qc1 ?qc2 ?qc3 ?qc4 ?qc5 ?qc6 ?_)
 case qc1 => exact hl
 case qc2 =>
  intro j u hj
  rw [Addr.add_lit]
  exact Lib.cell?_alloc_some _ (A.out j u hj)
 case qc3 => intro u hu; exact hsc u hu
 case qc4 => omega
 case qc5 => omega
 case qc6 => simp
 intro v' w1 hown hgrow hnil
 go_wp2
 go_ret
 refine ⟨v', rfl, by simpa using hown, ?_⟩
 exact ((Below.refl _ w).alloc (Nat.le_refl _) _).grown hgrow (by simp) (by intro k hk; simp [Value.ownBlock] at hk; omega)

theorem ok_cli : FnOK1 told Tryz.prog 81 (cloneV 8) := Qml (e_ := 3) QsT QrW QrX
theorem Qnf : FnOK1 told Tryz.prog 77 (cloneF 5 64) := Qfg (e_ := 68) QqX QpV QpW
theorem Qk2 : FnOK1 told Tryz.prog 80 (cloneF 6 80) := Qfg (e_ := 37) QpX Qon Qoo
theorem QoK : FnOK1 told Tryz.prog 93 itoaX := by
 refine Qps fun n Z w h0 h1 hT => ?_
 refine (Tryz.strconv_Itoa n h0 h1 w hT.1.1.2.2.1).mono ?_
 rintro e w' ⟨rfl, k, os, rfl⟩
 exact ⟨rfl, Lib.below_grow _ _ (Nat.le_refl _) _ _⟩
theorem Qk3 : FnOK1 told Tryz.prog 145 fieldsX := Qmj fun s Z w h1 h2 hT => Tryz.strings_Fields_laid s w h1 h2 hT.1.2.2.2.1
theorem QhN : FnOK1 told Tryz.prog 177 containsX := QjV fun s t Z w h1 hT => by
 obtain ⟨_, m, hm⟩ := hT.2
 exact Tryz.strings_Contains s t m w h1 hm
theorem QoL : FnOK1 told Tryz.prog 69 joinX := Qpu (fun a c sep w => Tryz.strings_Join_none a c sep w) (fun bk o c xs sep w h1 h2 h3 h4 h5 => Tryz.strings_Join bk o c xs sep w h1 h2 h3 h4 h5)
theorem Qgn : FnOK1 told Tryz.prog 70 indexByteX := QiS fun s c w => Tryz.strings_IndexByte s c w
theorem Qng : FnOK1 told Tryz.prog 79 splitX := QnW fun s sep Z w h1 h2 hT => by
 obtain ⟨_, m, hm⟩ := hT.2
 exact Tryz.strings_Split s sep m w h1 hm h2
theorem QoM : FnOK1 told Tryz.prog 74 trimX := Qpw fun s w hs => Any.strings_Trim_laid Tryz.lays160 (by kernel_rfl) s ⟨#[32, 9]⟩ w hs (by decide) (ascii_of_all (by decide))
theorem QoN : FnOK1 told Tryz.prog 241 atoiX := Qpy fun s n w hs hn => by
 refine (Tryz.strconv_Atoi s n hs hn w).mono ?_
 rintro e w' ⟨rfl, t, rfl⟩
 exact ⟨rfl, Go.Joins.below_bytesWorld _ _ _ _ (Nat.le_refl _)⟩
theorem QsU (f : FuncId) (x : List AV → Heap → Option (AV × Heap)) (h : G0.ext f = some x) : FnOK1 told Tryz.prog f x := by
 have h' : Go.Ab.get f extT0 = some x := h
 simp only [extT0, Go.Ab.get] at h'
 repeat' split at h'
 all_goals first
  | cases h'; done
  | (rename_i e; subst e; cases h'; first | exact ok_cli | exact Qnf | exact Qk2 | exact QoK | exact Qk3 | exact QhN | exact QoL | exact Qgn | exact Qng | exact QoM | exact QoN)
theorem QrY : FnOK1 told Tryz.prog 23 knownX := QnX (QjR (T := told) (by kernel_rfl) QsU 2000) QpB
theorem ext_ok (f : FuncId) (x : List AV → Heap → Option (AV × Heap)) (h : G.ext f = some x) : FnOK1 told Tryz.prog f x := by
 have h' : Go.Ab.get f extT = some x := h
 simp only [extT, Go.Ab.get] at h'
 repeat' split at h'
 all_goals first
  | cases h'; done
  | (rename_i e; subst e; cases h'; first | exact QrY | exact ok_cli | exact Qnf | exact Qk2 | exact QoK | exact Qk3 | exact QhN | exact QoL | exact Qgn | exact Qng | exact QoM | exact QoN)
end Go.Proofs.YtblfhkldljfhiaaGreatDoor
namespace Go.Ab
def ba (l : List UInt8) : ByteArray := ⟨l.toArray⟩
theorem bl_ba (l : List UInt8) : bl (ba l) = l := by simp [bl, ba]
theorem ba_bl (s : ByteArray) : ba (bl s) = s := by cases s; simp [bl, ba]
theorem Qt (l : List UInt8) : (ba l).size = l.length := by rw [GQ, bl_ba]
theorem ba_inj {a b : List UInt8} (h : ba a = ba b) : a = b := by rw [← bl_ba a, ← bl_ba b, h]
theorem JD (l : List UInt8) (i j : Nat) : (ba l).extract i j = ba ((l.take j).drop i) := by rw [← ba_bl ((ba l).extract i j), Qpq, bl_ba]
theorem Uv (a b : List UInt8) : ba a ++ ba b = ba (a ++ b) := by rw [← ba_bl (ba a ++ ba b), Qqk, bl_ba, bl_ba]
theorem Xn (l : List UInt8) (i : Nat) (d : UInt8) : (ba l).data.getD i d = l.getD i d := by rw [QsM, bl_ba]
theorem eqS_ba (a b : List UInt8) : eqS (ba a) (ba b) = decide (a = b) := by rw [Qpp, bl_ba, bl_ba]
def isD (b : UInt8) : Bool := decide (48 ≤ b.toNat ∧ b.toNat ≤ 57)
def isS (b : UInt8) : Bool := decide (97 ≤ b.toNat ∧ b.toNat ≤ 122 ∨ b.toNat = 95)
def isI (b : UInt8) : Bool := isS b || isD b
def isH (b : UInt8) : Bool := isD b || decide (97 ≤ b.toNat ∧ b.toNat ≤ 102)
theorem J1 {p : UInt8 → Bool} : ∀ (s : List UInt8) (i : Nat) (hi : i ≤ s.length), (s.take i).all p = true → (∀ h : i < s.length, p s[i] = false) → s.takeWhile p = s.take i
 | s, 0, _, _, h => by
  cases s with
  | nil => rfl
  | cons b s => have := h (by simp); simp at this; simp [this]
 | [], i + 1, hi, _, _ => by simp at hi
 | b :: s, i + 1, hi, ha, h => by
  simp only [List.take_succ_cons, List.all_cons, Bool.and_eq_true] at ha
  simp only [List.take_succ_cons, List.takeWhile_cons, ha.1, if_true]
  rw [J1 s i (by simpa using hi) ha.2 (fun hl => h (by simp only [List.length_cons]; omega))]
theorem XF {p : UInt8 → Bool} {s : List UInt8} {i : Nat} (h : i < s.length) (ha : (s.take i).all p = true) (hp : p s[i] = true) : (s.take (i + 1)).all p = true := by
 rw [List.take_succ_eq_append_getElem h, List.all_append, ha]; simp [hp]
theorem i32_in {n : Int} (h1 : 0 ≤ n) (h2 : n ≤ 2147483647) : IntKind.i32.wrap n = n := by
 have e : n % 4294967296 = n := Int.emod_eq_of_lt h1 (by omega)
 unfold IntKind.wrap
 simp [IntKind.bits, IntKind.signed, e]
 omega
def wordB (w : List UInt8) : Bool := match w with
 | [] => false
 | c :: t => decide (t.length < 12) && (!isD c && (decide ((c :: t).takeWhile isI = c :: t) && (decide (c ≠ 114) || (decide (t = []) || !decide (t.takeWhile isD = t)))))
theorem GO {p : UInt8 → Bool} {a r : List UInt8} (ha : a.all p = true) (hr : ∀ c t, r = c :: t → p c = false) : (a ++ r).takeWhile p = a ∧ (a ++ r).dropWhile p = r := by
 induction a with
 | nil =>
  cases r with
  | nil => exact ⟨rfl, rfl⟩
  | cons c t => have := hr c t rfl; simp [List.takeWhile_cons, List.dropWhile_cons, this]
 | cons c a ih =>
  simp only [List.all_cons, Bool.and_eq_true] at ha
  obtain ⟨h1, h2⟩ := ih ha.2
  simp [List.takeWhile_cons, List.dropWhile_cons, ha.1, h1, h2]
theorem QgH (c : UInt8) : isI c = (isS c || isD c) := rfl
theorem QoO {c : UInt8} : isS c = (isI c && !isD c) := by
 rw [QgH]
 cases hd : isD c with
 | false => simp
 | true =>
  have : isS c = false := by
   unfold isD at hd; unfold isS
   have := of_decide_eq_true hd
   exact decide_eq_false (by omega)
  rw [this]; rfl
theorem QdO {p : UInt8 → Bool} {l : List UInt8} : decide (l.takeWhile p = l) = l.all p := by
 rw [Bool.eq_iff_iff, decide_eq_true_iff]
 constructor
 ·intro e; rw [← e]; exact List.all_takeWhile
 ·intro h
  have := (GO (r := []) h (fun c t e => by cases e)).1
  rwa [List.append_nil] at this
end Go.Ab
namespace Go.Ab
theorem Qnh (a n : Int) (hn : 0 < n) (hn2 : n ≤ 4611686018427387904) : Vq a n = some (a % n) := by
 rw [Vq.eq]; exact SZ a n hn hn2
end Go.Ab
namespace Go.Ab
abbrev S0 : ByteArray := s_
inductive X3 where
 | num (n : Int)
 | nm (s : ByteArray)
 | here
 | neg (x : X3)
 | bin (k : Nat) (x y : X3)
namespace X3
def t : X3 → Qa
 | num n => ⟨1, n, S0, []⟩
 | nm s => ⟨2, 0, s, []⟩
 | here => ⟨3, 0, S0, []⟩
 | neg x => ⟨4, 0, S0, [x.t]⟩
 | bin k x y => ⟨k, 0, S0, [x.t, y.t]⟩
def d : X3 → Nat
 | neg x => x.d + 1
 | bin _ x y => max x.d y.d + 1
 | _ => 0
def ok (p : ByteArray → Prop) : X3 → Prop
 | num n => 0 ≤ n ∧ n < 4294967296
 | nm s => p s
 | here => True
 | neg x => x.ok p
 | bin k x y => 5 ≤ k ∧ k ≤ 11 ∧ x.ok p ∧ y.ok p
end X3
theorem eqS_ne {x y : ByteArray} (h : x ≠ y) : eqS x y = false := by rw [Bool.eq_false_iff]; exact fun e => h (U2.1 e)
end Go.Ab
namespace Go.Ab
theorem QdP : ∀ (g d : Nat), g + d = 8 → ∀ l : List QC, l.length ≤ maxLen → (∀ r ∈ l, Ys r) → ∃ n : Int, JU l d = some n ∧ 0 ≤ n ∧ n ≤ 1000 + 20 * g ∧
  (n ≤ 16 → d ≤ 7 ∧ ∀ r ∈ l, ∃ m, JU r.L (d + 1 : Nat) = some m ∧ m ≤ 16)
 | 0, d, hd, l, hl, hw => by
  obtain rfl : d = 8 := by omega
  refine ⟨1000, ?_, by omega, by omega, by omega⟩
  rw [JU.eq]; simp [GF]
 | g + 1, d, hd, l, hl, hw => by
  rw [Qqp] at hl
  obtain ⟨r, h1, h2⟩ := YK U6.eq
   (fun a => ∃ i : Nat, ∃ n : Int, i ≤ l.length ∧ a = ⟨l, d, n, i⟩ ∧ 0 ≤ n ∧ n ≤ 1000 + 20 * (g + 1 : Nat) ∧ (n ≤ 16 → ∀ r ∈ l.take i, ∃ m, JU r.L (d + 1 : Nat) = some m ∧ m ≤ 16))
   (fun a n => 0 ≤ n ∧ n ≤ 1000 + 20 * (g + 1 : Nat) ∧ (n ≤ 16 → ∀ r ∈ l, ∃ m, JU r.L (d + 1 : Nat) = some m ∧ m ≤ 16))
   (fun a => l.length - a.x6.toNat) (by
    rintro a ⟨i, n, hi, rfl, h0, hn, hall⟩
    simp only [YO, Int.toNat_natCast]
    by_cases h : i < l.length
    ·have e2 : (i : Int) < (l.length : Int) := by omega
     by_cases h16 : n ≤ 16
     ·have hwi := hw l[i] (List.getElem_mem h)
      obtain ⟨_, _, _, hL, hLw⟩ := hwi
      obtain ⟨m, hm, hm0, hm1, _⟩ := QdP g (d + 1) (by omega) l[i].L hL hLw
      refine .inl ⟨⟨l, d, n + 1 + m, (i + 1 : Nat)⟩, ?_, ⟨i + 1, n + 1 + m, by omega, rfl, by omega, by omega, ?_⟩, ?_, fun r hr => hr⟩
      ·have ed : w64 ((d : Int) + 1) = ((d + 1 : Nat) : Int) := by rw [w64_in (by omega) (by omega)]; rfl
       rw [List.getElem?_eq_getElem h]
       simp only [e2, h16, decide_true, cond_true, Option.bind_some, Int.natCast_nonneg, ed, hm]
       rw [w64_in (n := n + 1) (by omega) (by omega), w64_in (n := n + 1 + m) (by omega) (by omega), w64_in (n := (i : Int) + 1) (by omega) (by omega)]
       rfl
      ·intro hle r hr
       rw [List.take_succ_eq_append_getElem h, List.mem_append] at hr
       rcases hr with hr | hr
       ·exact hall h16 r hr
       ·simp only [List.mem_singleton] at hr; subst hr
        exact ⟨m, hm, by omega⟩
      ·simp only [Int.toNat_natCast]; omega
     ·exact .inr ⟨n, by simp [h, h16], h0, hn, fun h => absurd h h16⟩
    ·refine .inr ⟨n, by simp [h], h0, hn, fun hle => ?_⟩
     have := hall hle
     rwa [List.take_of_length_le (by omega)] at this) ⟨l, d, 0, 0⟩ ⟨0, 0, by omega, rfl, by omega, by omega, by simp⟩
  refine ⟨r, ?_, h2.1, h2.2.1, fun h => ⟨by omega, h2.2.2 h⟩⟩
  rw [JU.eq]; unfold GF
  have : decide ((d : Int) > 7) = false := by simp; omega
  rw [this, cond_false, h1]; rfl
def isNm (s : ByteArray) : Prop := s = P2 ∨ s = s_x ∨ s = EU ∨ s = s_r
theorem names4 {i : Nat} (h : i < 4) : ∃ s, [P2, s_x, EU, s_r][i]? = some s ∧ isNm s := by
 have : i = 0 ∨ i = 1 ∨ i = 2 ∨ i = 3 := by omega
 rcases this with rfl | rfl | rfl | rfl <;> exact ⟨_, rfl, by simp [isNm]⟩
theorem Qop : Zp = some [P2, s_x, EU, s_r] := by rw [Zp.eq]; rfl
theorem Qaf (a : Int) (n : Nat) (hn : 0 < n) (hn2 : n ≤ 4611686018427387904) : ∃ i : Nat, i < n ∧ Vq a n = some (i : Int) := by
 have h1 := Int.emod_nonneg a (by omega : (n : Int) ≠ 0)
 have h2 := Int.emod_lt_of_pos a (by omega : (0 : Int) < n)
 exact ⟨(a % n).toNat, by omega, by rw [Qnh a n (by omega) (by omega), Int.toNat_of_nonneg h1]⟩
theorem QsV {P : Int → Prop} (l : List Int) (h : ∀ x ∈ l, P x) {i : Nat} (hi : i < l.length) : ∃ v, l[i]? = some v ∧ P v := ⟨l[i], List.getElem?_eq_getElem hi, h _ (List.getElem_mem hi)⟩
theorem Qk4 : ∀ (g d : Nat), g + d = 7 → ∀ r : QC, Ys r → (∃ m, JU r.L (d + 1 : Nat) = some m ∧ m ≤ 16) → ∃ x : X3, JS r = some x.t ∧ x.ok isNm ∧ x.d ≤ g
 | 0, d, hd, r, hw, ⟨m, hm, hm2⟩ => by
  obtain rfl : d = 7 := by omega
  obtain ⟨_, _, _, hL, hLw⟩ := hw
  obtain ⟨n, h1, _, _, h2⟩ := QdP 0 8 rfl r.L hL hLw
  rw [h1] at hm; cases hm
  exact absurd (h2 hm2).1 (by omega)
 | g + 1, d, hd, r, hw, ⟨m, hm, hm2⟩ => by
  obtain ⟨hK, hN, _, hL, hLw⟩ := hw
  obtain ⟨n, h1, _, _, h2⟩ := QdP (g + 1) (d + 1) (by omega) r.L hL hLw
  rw [h1] at hm; cases hm
  obtain ⟨_, h3⟩ := h2 hm2
  have part : ∀ i : Nat, i < 2 → ∃ x : X3, UJ r i = some x.t ∧ x.ok isNm ∧ x.d ≤ g := by
   intro i hi
   rw [UJ.eq]; unfold Y2
   by_cases h : i < r.L.length
   ·obtain ⟨x, e1, e2, e3⟩ := Qk4 g (d + 1) (by omega) r.L[i] (hLw _ (List.getElem_mem h)) (h3 _ (List.getElem_mem h))
    refine ⟨x, ?_, e2, e3⟩
    have e2 : (i : Int) < (r.L.length : Int) := by omega
    rw [QsO _ h]
    simp only [e2, decide_true, cond_true, Option.bind_some, Int.natCast_nonneg, e1]
   ·obtain ⟨j, hj, e⟩ := Qaf (w64 (r.N + i)) 5 (by decide) (by decide)
    have hj2 : (0 : Int) ≤ (j : Int) ∧ (j : Int) < 4294967296 := by omega
    refine ⟨.num j, ?_, hj2, by simp [X3.d]⟩
    have e2 : ¬ (i : Int) < (r.L.length : Int) := by omega
    have e' : Vq (w64 (r.N + i)) 5 = some (j : Int) := e
    simp only [e2, decide_false, cond_false, e', Option.bind_some]; rfl
  obtain ⟨x0, p0, q0, r0⟩ := part 0 (by omega)
  obtain ⟨x1, p1, q1, r1⟩ := part 1 (by omega)
  have p0 : UJ r 0 = some x0.t := p0
  have p1 : UJ r 1 = some x1.t := p1
  obtain ⟨k, hk, ek⟩ := Qaf r.K 18 (by decide) (by decide)
  have ek : Vq r.K 18 = some (k : Int) := ek
  rw [JS.eq]; unfold Y3
  rw [ek]
  simp only [Option.bind_some]
  by_cases k4 : k < 4
  ·obtain ⟨j, hj, ej⟩ := Qaf r.N 8 (by decide) (by decide)
   have ej : Vq r.N 8 = some (j : Int) := ej
   obtain ⟨v, hv, hv2⟩ := QsV (P := fun x => 0 ≤ x ∧ x < 4294967296) [0, 1, 2, 255, 65536, 4294967295, 40, 7] (by decide) (i := j) (by simpa using hj)
   refine ⟨.num v, ?_, hv2, by simp [X3.d]⟩
   have e1 : decide ((k : Int) < 4) = true := by simp; omega
   have e3 : decide (0 ≤ (j : Int) ∧ (j : Int) < (([(0 : Int), (1 : Int), (2 : Int), (255 : Int), (65536 : Int), (4294967295 : Int), (40 : Int), (7 : Int)].length : Nat) : Int)) = true := by simp; omega
   simp only [e1, cond_true, ej, Option.bind_some, e3, Int.toNat_natCast, hv]; rfl
  ·have e1 : decide ((k : Int) < 4) = false := by simp; omega
   by_cases k8 : k < 8
   ·obtain ⟨j, hj, ej⟩ := Qaf r.N 4 (by decide) (by decide)
    have ej : Vq r.N 4 = some (j : Int) := ej
    obtain ⟨s, hs, hs2⟩ := names4 hj
    refine ⟨.nm s, ?_, hs2, by simp [X3.d]⟩
    have e2 : decide ((k : Int) < 8) = true := by simp; omega
    simp only [e1, cond_false, e2, cond_true, Qop, Option.bind_some, ej, Int.natCast_nonneg, decide_true, Int.toNat_natCast, hs]; rfl
   ·have e2 : decide ((k : Int) < 8) = false := by simp; omega
    by_cases kh : k = 8
    ·subst kh
     exact ⟨.here, rfl, trivial, by simp [X3.d]⟩
    ·have e3 : ((k : Int) == 8) = false := by simp; omega
     by_cases k11 : k < 11
     ·have e4 : decide ((k : Int) < 11) = true := by simp; omega
      refine ⟨.neg x0, ?_, q0, by simp only [X3.d]; omega⟩
      simp only [e1, e2, e3, e4, cond_false, cond_true, p0, Option.bind_some]; rfl
     ·have e4 : decide ((k : Int) < 11) = false := by simp; omega
      refine ⟨.bin (k - 6) x0 x1, ?_, ⟨by omega, by omega, q0, q1⟩, by simp only [X3.d]; omega⟩
      simp only [e1, e2, e3, e4, cond_false, p0, p1, Option.bind_some]
      rw [w64_in (n := 5 + (k : Int)) (by omega) (by omega), w64_in (n := 5 + (k : Int) - 11) (by omega) (by omega)]
      simp only [X3.t]
      rw [show (5 : Int) + k - 11 = ((k - 6 : Nat) : Int) from by omega]
theorem QsW (l : List QC) (hl : l.length ≤ maxLen) (hw : ∀ r ∈ l, Ys r) : ∃ b, Eq l = some b ∧ (b = true → ∃ x : X3, XJ l = some x.t ∧ x.ok isNm ∧ x.d ≤ 7) := by
 obtain ⟨n, h1, _, _, h2⟩ := QdP 8 0 rfl l hl hw
 have h1 : JU l 0 = some n := h1
 refine ⟨decide (n ≤ 16), by rw [Eq.eq]; simp [Qh9, h1], fun h => ?_⟩
 have h := of_decide_eq_true h
 obtain ⟨_, h3⟩ := h2 h
 rw [XJ.eq]; unfold Qid
 cases l with
 | nil => exact ⟨.num 1, rfl, by simp [X3.ok], by simp [X3.d]⟩
 | cons r l =>
  obtain ⟨x, e1, e2, e3⟩ := Qk4 7 0 rfl r (hw r (by simp)) (h3 r (by simp))
  refine ⟨x, ?_, e2, e3⟩
  have : ((((r :: l).length : Nat) : Int) == 0) = false := by simp; omega
  rw [this, cond_false]
  simp [e1]
end Go.Ab
namespace Go.Ab
theorem QoP (s : ByteArray) (i : Nat) (h : i < s.size) : s.get! i = (bl s)[i]'h := by
 simp only [ByteArray.get!, bl]
 have h' : i < s.data.size := h
 simp [getElem!_def, Array.getElem?_eq_getElem h']
theorem QbS (s : List UInt8) {i : Nat} (h : i < s.length) (hb : s[i].toNat < 128) : Utf8.decode (ba s) i = (s[i].toNat, 1) := by
 have hg : ((ba s).get! (i + 0)).toNat = s[i].toNat := by
  rw [Nat.add_zero, QoP _ _ (by rw [Qt]; exact h)]; simp [bl_ba]
 unfold Utf8.decode
 simp only [hg]
 rw [if_pos hb]
theorem Qgo (s : List UInt8) {i : Nat} (h : i < s.length) (hb : ¬ s[i].toNat < 128) : 128 ≤ (Utf8.decode (ba s) i).1 := by
 have hg : ((ba s).get! (i + 0)).toNat = s[i].toNat := by
  rw [Nat.add_zero, QoP _ _ (by rw [Qt]; exact h)]; simp [bl_ba]
 unfold Utf8.decode
 simp only [hg]
 rw [if_neg hb]
 have he : Utf8.runeError = 65533 := rfl
 repeat' split
 all_goals simp_all
 all_goals omega
theorem Z7 (n : Nat) : U4 n = some (decide (48 ≤ n ∧ n ≤ 57)) := by
 rw [U4.eq]; unfold QaZ
 have c1 : decide ((n : Int) ≥ 48) = decide (48 ≤ n) := decide_eq_decide.2 (by omega)
 have c2 : decide ((n : Int) ≤ 57) = decide (n ≤ 57) := decide_eq_decide.2 (by omega)
 rw [c1, c2, Bool.decide_and]
 cases decide (48 ≤ n) <;> rfl
theorem QlU (n : Nat) : XX n = some (decide (97 ≤ n ∧ n ≤ 122 ∨ n = 95)) := by
 rw [XX.eq]; unfold Qa3
 have c1 : decide ((n : Int) ≥ 97) = decide (97 ≤ n) := decide_eq_decide.2 (by omega)
 have c2 : decide ((n : Int) ≤ 122) = decide (n ≤ 122) := decide_eq_decide.2 (by omega)
 have c3 : (((n : Nat) : Int) == 95) = decide (n = 95) := by rw [Bool.eq_iff_iff, beq_iff_eq, decide_eq_true_iff]; omega
 rw [c1, c2, c3, Bool.decide_or, Bool.decide_and]
 cases decide (97 ≤ n) <;> cases decide (n ≤ 122) <;> rfl
theorem QeD (n : Nat) : XY n = some (decide (97 ≤ n ∧ n ≤ 122 ∨ n = 95) || decide (48 ≤ n ∧ n ≤ 57)) := by
 rw [XY.eq]; unfold Qa4
 rw [QlU, Z7]
 simp only [Option.bind_some]
 cases decide (97 ≤ n ∧ n ≤ 122 ∨ n = 95) <;> rfl
theorem QhO (n : Nat) : Zm n = some (decide (48 ≤ n ∧ n ≤ 57) || decide (97 ≤ n ∧ n ≤ 102)) := by
 rw [Zm.eq]; unfold Qdw
 have c1 : decide ((n : Int) ≥ 97) = decide (97 ≤ n) := decide_eq_decide.2 (by omega)
 have c2 : decide ((n : Int) ≤ 102) = decide (n ≤ 102) := decide_eq_decide.2 (by omega)
 rw [Z7, c1, c2]
 simp only [Option.bind_some]
 rw [Bool.decide_and (97 ≤ n)]
 cases decide (48 ≤ n ∧ n ≤ 57) <;> cases decide (97 ≤ n) <;> rfl
theorem QpY (s : List UInt8) : ZG (ba s) = some (ba (s.takeWhile isH)) := by
 obtain ⟨r, h1, h2⟩ := YK Xs.eq (fun a => ∃ i : Nat, i ≤ s.length ∧ a = ⟨ba s, ba s, i⟩ ∧ (s.take i).all isH = true) (fun _ r => r = .inl (ba (s.takeWhile isH)) ∨ r = .inr (ba (s.takeWhile isH))) (fun a => s.length - a.i0p) (by
  rintro a ⟨i, hi, rfl, ha⟩
  simp only [Qa2, Qt]
  by_cases h : i < s.length
  ·have c1 : decide (i < s.length) = true := by simp [h]
   by_cases hb : s[i].toNat < 128
   ·rw [QbS s h hb, c1, cond_true]
    simp only [QhO, Option.bind_some]
    have hp : isH s[i] = (decide (48 ≤ s[i].toNat ∧ s[i].toNat ≤ 57) || decide (97 ≤ s[i].toNat ∧ s[i].toNat ≤ 102)) := by simp [isH, isS, isD, isI]
    rw [← hp]
    cases hq : isH s[i] with
    | true => exact .inl ⟨⟨ba s, ba s, i + 1⟩, rfl, ⟨i + 1, by omega, rfl, XF h ha hq⟩, by simp only; omega, fun r hr => hr⟩
    | false =>
     refine .inr ⟨_, ?_, .inl rfl⟩
     rw [J1 s i hi ha (fun _ => hq)]
     have c2 : decide (0 ≤ (0 : Int) ∧ (0 : Int) ≤ ((i : Nat) : Int) ∧ ((i : Nat) : Int) ≤ ((s.length : Nat) : Int)) = true := by simp; omega
     simp only [Bool.not_false, cond_true, c2, Int.toNat_natCast, Int.toNat_zero, JD, List.drop_zero]
   ·have hd := Qgo s h hb
    have hq : isH s[i] = false := by simp [isH, isS, isD, isI]; omega
    rw [c1, cond_true]
    simp only [QhO, Option.bind_some]
    generalize (Utf8.decode (ba s) i).1 = r at hd
    have hp : (decide (48 ≤ r ∧ r ≤ 57) || decide (97 ≤ r ∧ r ≤ 102)) = false := by simp; omega
    rw [hp]
    refine .inr ⟨_, ?_, .inl rfl⟩
    rw [J1 s i hi ha (fun _ => hq)]
    have c2 : decide (0 ≤ (0 : Int) ∧ (0 : Int) ≤ ((i : Nat) : Int) ∧ ((i : Nat) : Int) ≤ ((s.length : Nat) : Int)) = true := by simp; omega
    simp only [Bool.not_false, cond_true, c2, Int.toNat_natCast, Int.toNat_zero, JD, List.drop_zero]
  ·have c1 : decide (i < s.length) = false := by simp; omega
   refine .inr ⟨_, by rw [c1]; rfl, .inr ?_⟩
   rw [J1 s i hi ha (fun h' => absurd h' h), List.take_of_length_le (by omega)]) ⟨ba s, ba s, 0⟩ ⟨0, by omega, rfl, by simp⟩
 rw [ZG.eq]; unfold QfF
 rw [h1]
 rcases h2 with rfl | rfl <;> rfl
theorem Qbo (s : List UInt8) : V9 (ba s) = some (ba (s.takeWhile isI)) := by
 obtain ⟨r, h1, h2⟩ := YK WE.eq (fun a => ∃ i : Nat, i ≤ s.length ∧ a = ⟨ba s, ba s, i⟩ ∧ (s.take i).all isI = true) (fun _ r => r = .inl (ba (s.takeWhile isI)) ∨ r = .inr (ba (s.takeWhile isI))) (fun a => s.length - a.i0p) (by
  rintro a ⟨i, hi, rfl, ha⟩
  simp only [Pj, Qt]
  by_cases h : i < s.length
  ·have c1 : decide (i < s.length) = true := by simp [h]
   by_cases hb : s[i].toNat < 128
   ·rw [QbS s h hb, c1, cond_true]
    simp only [QeD, Option.bind_some]
    have hp : isI s[i] = (decide (97 ≤ s[i].toNat ∧ s[i].toNat ≤ 122 ∨ s[i].toNat = 95) || decide (48 ≤ s[i].toNat ∧ s[i].toNat ≤ 57)) := by simp [isI, isS, isD, isI]
    rw [← hp]
    cases hq : isI s[i] with
    | true => exact .inl ⟨⟨ba s, ba s, i + 1⟩, rfl, ⟨i + 1, by omega, rfl, XF h ha hq⟩, by simp only; omega, fun r hr => hr⟩
    | false =>
     refine .inr ⟨_, ?_, .inl rfl⟩
     rw [J1 s i hi ha (fun _ => hq)]
     have c2 : decide (0 ≤ (0 : Int) ∧ (0 : Int) ≤ ((i : Nat) : Int) ∧ ((i : Nat) : Int) ≤ ((s.length : Nat) : Int)) = true := by simp; omega
     simp only [Bool.not_false, cond_true, c2, Int.toNat_natCast, Int.toNat_zero, JD, List.drop_zero]
   ·have hd := Qgo s h hb
    have hq : isI s[i] = false := by simp [isI, isS, isD, isI]; omega
    rw [c1, cond_true]
    simp only [QeD, Option.bind_some]
    generalize (Utf8.decode (ba s) i).1 = r at hd
    have hp : (decide (97 ≤ r ∧ r ≤ 122 ∨ r = 95) || decide (48 ≤ r ∧ r ≤ 57)) = false := by simp; omega
    rw [hp]
    refine .inr ⟨_, ?_, .inl rfl⟩
    rw [J1 s i hi ha (fun _ => hq)]
    have c2 : decide (0 ≤ (0 : Int) ∧ (0 : Int) ≤ ((i : Nat) : Int) ∧ ((i : Nat) : Int) ≤ ((s.length : Nat) : Int)) = true := by simp; omega
    simp only [Bool.not_false, cond_true, c2, Int.toNat_natCast, Int.toNat_zero, JD, List.drop_zero]
  ·have c1 : decide (i < s.length) = false := by simp; omega
   refine .inr ⟨_, by rw [c1]; rfl, .inr ?_⟩
   rw [J1 s i hi ha (fun h' => absurd h' h), List.take_of_length_le (by omega)]) ⟨ba s, ba s, 0⟩ ⟨0, by omega, rfl, by simp⟩
 rw [V9.eq]; unfold Qb7
 rw [h1]
 rcases h2 with rfl | rfl <;> rfl
theorem Qgp (s : List UInt8) : WX (ba s) = some (ba (s.takeWhile isD)) := by
 obtain ⟨r, h1, h2⟩ := YK WF.eq (fun a => ∃ i : Nat, i ≤ s.length ∧ a = ⟨ba s, ba s, i⟩ ∧ (s.take i).all isD = true) (fun _ r => r = .inl (ba (s.takeWhile isD)) ∨ r = .inr (ba (s.takeWhile isD))) (fun a => s.length - a.i0p) (by
  rintro a ⟨i, hi, rfl, ha⟩
  simp only [Pm, Qt]
  by_cases h : i < s.length
  ·have c1 : decide (i < s.length) = true := by simp [h]
   by_cases hb : s[i].toNat < 128
   ·rw [QbS s h hb, c1, cond_true]
    simp only [Z7, Option.bind_some]
    have hp : isD s[i] = decide (48 ≤ s[i].toNat ∧ s[i].toNat ≤ 57) := by simp [isD, isS, isD, isI]
    rw [← hp]
    cases hq : isD s[i] with
    | true => exact .inl ⟨⟨ba s, ba s, i + 1⟩, rfl, ⟨i + 1, by omega, rfl, XF h ha hq⟩, by simp only; omega, fun r hr => hr⟩
    | false =>
     refine .inr ⟨_, ?_, .inl rfl⟩
     rw [J1 s i hi ha (fun _ => hq)]
     have c2 : decide (0 ≤ (0 : Int) ∧ (0 : Int) ≤ ((i : Nat) : Int) ∧ ((i : Nat) : Int) ≤ ((s.length : Nat) : Int)) = true := by simp; omega
     simp only [Bool.not_false, cond_true, c2, Int.toNat_natCast, Int.toNat_zero, JD, List.drop_zero]
   ·have hd := Qgo s h hb
    have hq : isD s[i] = false := by simp [isD, isS, isD, isI]; omega
    rw [c1, cond_true]
    simp only [Z7, Option.bind_some]
    generalize (Utf8.decode (ba s) i).1 = r at hd
    have hp : (decide (48 ≤ r ∧ r ≤ 57)) = false := by simp; omega
    rw [hp]
    refine .inr ⟨_, ?_, .inl rfl⟩
    rw [J1 s i hi ha (fun _ => hq)]
    have c2 : decide (0 ≤ (0 : Int) ∧ (0 : Int) ≤ ((i : Nat) : Int) ∧ ((i : Nat) : Int) ≤ ((s.length : Nat) : Int)) = true := by simp; omega
    simp only [Bool.not_false, cond_true, c2, Int.toNat_natCast, Int.toNat_zero, JD, List.drop_zero]
  ·have c1 : decide (i < s.length) = false := by simp; omega
   refine .inr ⟨_, by rw [c1]; rfl, .inr ?_⟩
   rw [J1 s i hi ha (fun h' => absurd h' h), List.take_of_length_le (by omega)]) ⟨ba s, ba s, 0⟩ ⟨0, by omega, rfl, by simp⟩
 rw [WX.eq]; unfold Qb8
 rw [h1]
 rcases h2 with rfl | rfl <;> rfl
end Go.Ab
namespace Go.Ab
def dropB (s : List UInt8) : List UInt8 := s.dropWhile (· == 32)
theorem GZ (s : List UInt8) : dropB (dropB s) = dropB s := by
 unfold dropB
 induction s with
 | nil => rfl
 | cons b s ih =>
  by_cases h : b = 32
  ·simp [List.dropWhile_cons, h, ih]
  ·simp [List.dropWhile_cons, h]
theorem Qni (s : List UInt8) : (dropB s).length ≤ s.length := by unfold dropB; exact (List.dropWhile_sublist _).length_le
abbrev PS (s : List UInt8) (d : Int) (b : Bool) : Qd := ⟨ba s, d, b⟩
theorem Qoq (s : List UInt8) : VG (ba s) = some (ba (dropB s)) := by
 have loop : ∀ s : List UInt8, JF ⟨ba s, 32⟩ = some (ba (dropB s)) := by
  intro s
  induction s with
  | nil => rw [JF.eq]; rfl
  | cons b s ih =>
   rw [JF.eq]; unfold Yk
   have c1 : decide (((b :: s).length : Int) > 0) = true := by simp only [List.length_cons, decide_eq_true_eq]; omega
   have c2 : decide (0 ≤ (0 : Int) ∧ (0 : Int) < ((b :: s).length : Int)) = true := by simp only [List.length_cons, decide_eq_true_eq]; omega
   have c4 : decide (0 ≤ (1 : Int) ∧ (1 : Int) ≤ (((b :: s).length : Nat) : Int) ∧ (((b :: s).length : Nat) : Int) ≤ (((b :: s).length : Nat) : Int)) = true := by simp only [List.length_cons, decide_eq_true_eq]; omega
   simp only [Qt, c1, c2, cond_true, Xn]
   by_cases h : b = 32
   ·have c3 : ((((b :: s).getD (Int.toNat 0) 0).toNat : Int) == 32) = true := by subst h; rfl
    rw [c3, cond_true, c4, cond_true]
    simp only [Option.bind_some, Sum.elim_inl, JD, Int.toNat_natCast]
    rw [show List.drop (Int.toNat 1) (List.take (b :: s).length (b :: s)) = s from by rw [List.take_length]; rfl, ih]
    simp [dropB, List.dropWhile_cons, h]
   ·have c3 : ((((b :: s).getD (Int.toNat 0) 0).toNat : Int) == 32) = false := by
     rw [beq_eq_false_iff_ne]
     intro e
     apply h
     have e : (b.toNat : Int) = 32 := e
     exact UInt8.toNat_inj.1 (by have : (32 : UInt8).toNat = 32 := rfl; omega)
    rw [c3, cond_false]
    simp only [Option.bind_some, Sum.elim_inr]
    simp [dropB, List.dropWhile_cons, h]
 rw [VG.eq]; unfold Gy
 by_cases h : s = []
 ·subst h; have : eqS (ba []) s_ = true := U2.2 rfl
  rw [this]; rfl
 ·have : eqS (ba s) s_ = false := by
   rw [show s_ = ba [] from rfl, eqS_ba]; simp [h]
  rw [this, cond_false, U3.eq]; unfold Zk
  rw [loop s]; rfl
theorem Qgq (s : List UInt8) (d : Int) (b : Bool) : Ua (PS s d b) = some (PS (dropB s) d b) := by
 rw [Ua.eq]; unfold ZW
 simp only [Qoq, Option.bind_some]
def pre (a s : List UInt8) : Bool := decide (s.take a.length = a)
theorem Qgr (s a : List UInt8) : UZ (ba s) (ba a) = some (pre a s) := by
 rw [UZ.eq]; unfold YS
 rw [JT.eq]; unfold YX
 simp only [Qt, JD, eqS_ba, Int.toNat_natCast]
 by_cases h : a.length ≤ s.length
 ·have c1 : decide ((s.length : Int) ≥ (a.length : Int)) = true := by simp; omega
  have c2 : decide (0 ≤ (0 : Int) ∧ (0 : Int) ≤ (a.length : Int) ∧ (a.length : Int) ≤ (s.length : Int)) = true := by simp; omega
  rw [c1, cond_true, c2, cond_true]; rfl
 ·have c1 : decide ((s.length : Int) ≥ (a.length : Int)) = false := by simp; omega
  rw [c1, cond_false]
  simp only [Option.bind_some, pre]
  rw [decide_eq_false]
  intro e
  have := congrArg List.length e
  simp at this; omega
theorem QlV (s : List UInt8) : UT (ba s) = some (pre [48, 120] s) := by
 rw [UT.eq]; unfold ZF
 have h := Qgr s [48, 120]
 rw [UZ.eq] at h; unfold YS at h
 exact h
theorem QgI {a s : List UInt8} (h : pre a s = true) : a.length ≤ s.length ∧ s = a ++ s.drop a.length := by
 have e : s.take a.length = a := of_decide_eq_true h
 refine ⟨?_, ?_⟩
 ·have := congrArg List.length e; simp at this; omega
 ·conv => lhs; rw [← List.take_append_drop a.length s, e]
theorem Ga (a s : List UInt8) (d : Int) (b : Bool) : JC (ba a) (PS s d b) = some (bif b then (false, PS (dropB s) d b) else bif pre a (dropB s) then (true, PS ((dropB s).drop a.length) d b) else (false, PS (dropB s) d b)) := by
 rw [JC.eq]; unfold Gz
 simp only [Qgq, Option.bind_some]
 cases b with
 | true => rfl
 | false =>
  simp only [cond_false, Qgr, Option.bind_some]
  cases h : pre a (dropB s) with
  | false => rfl
  | true =>
   obtain ⟨h1, h2⟩ := QgI h
   simp only [Bool.not_true, cond_false, Qt, JD, Int.toNat_natCast, cond_true]
   have c2 : decide (0 ≤ (a.length : Int) ∧ (a.length : Int) ≤ ((dropB s).length : Int) ∧ ((dropB s).length : Int) ≤ ((dropB s).length : Int)) = true := by simp; omega
   rw [c2, cond_true, List.take_length]
def sg (k : Nat) : List UInt8 := match k with
 | 5 => [43] | 6 => [45] | 7 => [42] | 8 => [38] | 9 => [124] | 10 => [60, 60] | 11 => [62, 62] | _ => []
theorem QrZ : XZ = some [s_, s_, s_, h_2e, h_2d, ba (sg 5), ba (sg 6), ba (sg 7), ba (sg 8), ba (sg 9), ba (sg 10), ba (sg 11)] := by rw [XZ.eq]; rfl
theorem Qr0 {k : Nat} (h : 5 ≤ k ∧ k ≤ 11) : [s_, s_, s_, h_2e, h_2d, ba (sg 5), ba (sg 6), ba (sg 7), ba (sg 8), ba (sg 9), ba (sg 10), ba (sg 11)][k]? = some (ba (sg k)) := by
 have : k = 5 ∨ k = 6 ∨ k = 7 ∨ k = 8 ∨ k = 9 ∨ k = 10 ∨ k = 11 := by omega
 rcases this with rfl | rfl | rfl | rfl | rfl | rfl | rfl <;> rfl
def lv (l : Nat) : List Nat := match l with
 | 0 => [9] | 1 => [8] | 2 => [10, 11] | 3 => [5, 6] | _ => [7]
theorem lv_ok {l k : Nat} (h : k ∈ lv l) : 5 ≤ k ∧ k ≤ 11 := by
 unfold lv at h; split at h <;> simp at h <;> omega
def kindS (ks : List Nat) (t : List UInt8) : Option Nat := ks.find? fun k => pre (sg k) t
theorem QoQ (ks : List Nat) (hk : ∀ k ∈ ks, 5 ≤ k ∧ k ≤ 11) (hne : ks ≠ []) (hl : ks.length ≤ 1000) (s : List UInt8) (d : Int) (b : Bool) : JW (ks.map fun k : Nat => (k : Int)) (PS s d b) =
  some (bif b then (0, PS (dropB s) d b) else match kindS ks (dropB s) with | some k => ((k : Int), PS ((dropB s).drop (sg k).length) d b) | none => (0, PS (dropB s) d b)) := by
 obtain ⟨r, h1, h2⟩ := YK Uz.eq
  (fun a => ∃ i : Nat, ∃ s' : List UInt8, i ≤ ks.length ∧ dropB s' = dropB s ∧ (i = ks.length → s' = dropB s) ∧ a = ⟨ks.map fun k : Nat => (k : Int), ks.length, i, PS s' d b⟩ ∧ (b = false → kindS (ks.drop i) (dropB s) = kindS ks (dropB s)))
  (fun _ r => r = bif b then .inr (PS (dropB s) d b) else match kindS ks (dropB s) with | some k => .inl ⟨(k : Int), PS ((dropB s).drop (sg k).length) d b⟩ | none => .inr (PS (dropB s) d b)) (fun a => ks.length - a.x9.toNat) (by
  rintro a ⟨i, s', hi, hs, hend, rfl, hq⟩
  simp only [ZJ, Int.toNat_natCast]
  by_cases h : i < ks.length
  ·have c1 : decide ((i : Int) < (ks.length : Int)) = true := by simp; omega
   have hd : ks.drop i = ks[i] :: ks.drop (i + 1) := List.drop_eq_getElem_cons h
   have hki := hk ks[i] (List.getElem_mem h)
   rw [c1, cond_true, List.getElem?_map, List.getElem?_eq_getElem h]
   simp only [Int.natCast_nonneg, decide_true, cond_true, Option.map_some, Option.bind_some, QrZ, Int.toNat_natCast, Qr0 hki, Ga, hs]
   cases b with
   | true =>
    refine .inl ⟨⟨ks.map fun k : Nat => (k : Int), ks.length, (i + 1 : Nat), PS (dropB s) d true⟩, ?_, ⟨i + 1, dropB s, by omega, GZ s, fun _ => rfl, rfl, fun e => by cases e⟩, by simp only [Int.toNat_natCast]; omega, fun r hr => hr⟩
    simp only [cond_true, cond_false]
    rw [w64_in (n := (i : Int) + 1) (by omega) (by omega)]; rfl
   | false =>
    simp only [cond_false]
    have hq := hq rfl
    cases hp : pre (sg ks[i]) (dropB s) with
    | true =>
     have : kindS ks (dropB s) = some ks[i] := by rw [← hq, hd]; simp only [kindS, List.find?_cons, hp]
     refine .inr ⟨_, rfl, ?_⟩
     rw [this]; rfl
    | false =>
     refine .inl ⟨⟨ks.map fun k : Nat => (k : Int), ks.length, (i + 1 : Nat), PS (dropB s) d false⟩, ?_, ⟨i + 1, dropB s, by omega, GZ s, fun _ => rfl, rfl, fun _ => ?_⟩, by simp only [Int.toNat_natCast]; omega, fun r hr => hr⟩
     ·simp only [cond_false]
      rw [w64_in (n := (i : Int) + 1) (by omega) (by omega)]; rfl
     ·rw [← hq, hd]; simp only [kindS, List.find?_cons, hp]
  ·have c1 : decide ((i : Int) < (ks.length : Int)) = false := by simp; omega
   have he := hend (by omega)
   subst he
   refine .inr ⟨_, by rw [c1]; rfl, ?_⟩
   cases b with
   | true => rfl
   | false =>
    have hq := hq rfl
    rw [List.drop_eq_nil_of_le (by omega)] at hq
    rw [← hq]; rfl)
  ⟨ks.map fun k : Nat => (k : Int), ks.length, 0, PS s d b⟩ ⟨0, s, by omega, rfl, fun e => by cases ks with | nil => exact absurd rfl hne | cons => simp at e, rfl, fun _ => rfl⟩
 rw [JW.eq]; unfold GC
 rw [List.length_map, h1, h2]
 cases b with
 | true => rfl
 | false =>
  simp only [cond_false]
  cases kindS ks (dropB s) <;> rfl
end Go.Ab
namespace Go.Ab
abbrev E0 : Qa := ⟨0, 0, s_, []⟩
def dg (b : UInt8) : Nat := if 97 ≤ b.toNat then b.toNat - 97 + 10 else b.toNat - 48
def numv (base : Nat) : List UInt8 → Nat → Option Nat
 | [], n => some n
 | b :: l, n => if n * base + dg b ≥ 4294967296 then none else numv base l (n * base + dg b)
theorem dg_lt {b : UInt8} (h : isH b = true) : dg b < 16 := by
 unfold isH isD at h; unfold dg
 simp only [Bool.or_eq_true, decide_eq_true_eq] at h
 split <;> omega
theorem Py (s : List UInt8) (d : Int) (b : Bool) : QW (PS s d b) = some (E0, PS s d true) := by rw [QW.eq]; rfl
theorem QqY (ds r : List UInt8) (hds : ds.all isH = true) (base : Nat) (hb : base ≤ 16) (d : Int) (b : Bool) : JX (ba ds) base (PS (ds ++ r) d b) =
  some (match numv base ds 0 with | some n => (⟨1, n, s_, []⟩, PS r d b) | none => (E0, PS (ds ++ r) d true)) := by
 obtain ⟨x, h1, h2⟩ := YK Ub.eq
  (fun a => ∃ i n : Nat, i ≤ ds.length ∧ n < 4294967296 ∧ a = ⟨ba ds, base, n, PS (ds ++ r) d b, E0, ba ds, i⟩ ∧ numv base (ds.drop i) n = numv base ds 0)
  (fun _ x => match numv base ds 0 with | some n => x = .inr ⟨ba ds, n, PS (ds ++ r) d b, E0⟩ | none => x = .inl ⟨PS (ds ++ r) d true, E0⟩)
  (fun a => ds.length - a.i2p) (by
  rintro a ⟨i, n, hi, hn, rfl, hq⟩
  simp only [YY, Qt]
  by_cases h : i < ds.length
  ·have c1 : decide (i < ds.length) = true := decide_eq_true h
   have hH : isH ds[i] = true := List.all_eq_true.1 hds _ (List.getElem_mem h)
   have hH2 := hH
   unfold isH isD at hH2
   simp only [Bool.or_eq_true, decide_eq_true_eq] at hH2
   have hdg := dg_lt hH
   have hd : ds.drop i = ds[i] :: ds.drop (i + 1) := List.drop_eq_getElem_cons h
   rw [hd] at hq
   simp only [numv] at hq
   rw [c1, cond_true, QbS ds h (by omega)]
   simp only [Py, Option.bind_some]
   have hmul : n * base ≤ 4294967296 * 16 := Nat.mul_le_mul (by omega) hb
   have em : w64 ((n : Int) * (base : Int)) = ((n * base : Nat) : Int) := by rw [← Int.natCast_mul]; exact w64_in (by omega) (by omega)
   have key : ∀ x : Int, x = (dg ds[i] : Int) → w64 (w64 ((n : Int) * (base : Int)) + w64 x) = ((n * base + dg ds[i] : Nat) : Int) := by
    intro x hx
    rw [em, hx, w64_in (n := (dg ds[i] : Int)) (by omega) (by omega), w64_in (by omega) (by omega)]; omega
   by_cases h97 : 97 ≤ ds[i].toNat
   ·have c2 : decide ((ds[i].toNat : Int) ≥ 97) = true := decide_eq_true (by omega)
    have hdv : dg ds[i] = ds[i].toNat - 97 + 10 := by unfold dg; rw [if_pos h97]
    have e1 : w64 (IntKind.i32.wrap ((ds[i].toNat : Int) - 97)) + 10 = (dg ds[i] : Int) := by
     rw [i32_in (by omega) (by omega), w64_in (by omega) (by omega)]; omega
    rw [c2, cond_true, key _ e1]
    by_cases hbig : n * base + dg ds[i] ≥ 4294967296
    ·rw [if_pos hbig] at hq
     have c3 : decide (((n * base + dg ds[i] : Nat) : Int) ≥ 4294967296) = true := decide_eq_true (by omega)
     rw [c3, cond_true]
     exact .inr ⟨_, rfl, by rw [← hq]⟩
    ·rw [if_neg hbig] at hq
     have c3 : decide (((n * base + dg ds[i] : Nat) : Int) ≥ 4294967296) = false := decide_eq_false (by omega)
     rw [c3, cond_false]
     exact .inl ⟨_, rfl, ⟨i + 1, _, by omega, by omega, rfl, hq⟩, by simp only; omega, fun x hx => hx⟩
   ·have c2 : decide ((ds[i].toNat : Int) ≥ 97) = false := decide_eq_false (by omega)
    have hdv : dg ds[i] = ds[i].toNat - 48 := by unfold dg; rw [if_neg h97]
    have e1 : IntKind.i32.wrap ((ds[i].toNat : Int) - 48) = (dg ds[i] : Int) := by
     rw [i32_in (by omega) (by omega)]; omega
    rw [c2, cond_false, key _ e1]
    by_cases hbig : n * base + dg ds[i] ≥ 4294967296
    ·rw [if_pos hbig] at hq
     have c3 : decide (((n * base + dg ds[i] : Nat) : Int) ≥ 4294967296) = true := decide_eq_true (by omega)
     rw [c3, cond_true]
     exact .inr ⟨_, rfl, by rw [← hq]⟩
    ·rw [if_neg hbig] at hq
     have c3 : decide (((n * base + dg ds[i] : Nat) : Int) ≥ 4294967296) = false := decide_eq_false (by omega)
     rw [c3, cond_false]
     exact .inl ⟨_, rfl, ⟨i + 1, _, by omega, by omega, rfl, hq⟩, by simp only; omega, fun x hx => hx⟩
  ·have c1 : decide (i < ds.length) = false := decide_eq_false h
   rw [List.drop_eq_nil_of_le (by omega)] at hq
   refine .inr ⟨_, by rw [c1]; rfl, ?_⟩
   rw [← hq]; rfl) ⟨ba ds, base, 0, PS (ds ++ r) d b, E0, ba ds, 0⟩ ⟨0, 0, by omega, by omega, rfl, rfl⟩
 rw [JX.eq]; unfold ZX
 rw [h1]
 cases hv : numv base ds 0 with
 | none => rw [hv] at h2; simp only at h2; subst h2; rfl
 | some n =>
  rw [hv] at h2; simp only at h2; subst h2
  simp only [Option.bind_some, Sum.elim_inr, Qt, JD, Int.toNat_natCast, List.length_append]
  have c2 : decide (0 ≤ (ds.length : Int) ∧ (ds.length : Int) ≤ ((ds.length + r.length : Nat) : Int) ∧ ((ds.length + r.length : Nat) : Int) ≤ ((ds.length + r.length : Nat) : Int)) = true := decide_eq_true (by omega)
  rw [c2, cond_true, List.take_of_length_le (by simp), List.drop_left]
theorem Qnj (x : Qa) (s : List UInt8) (d : Int) (b : Bool) : J5 x (PS s d b) = some (if s.takeWhile isI = [] then (x, PS s d b) else (E0, PS s d true)) := by
 rw [J5.eq]; unfold Gc
 simp only [Qbo, Option.bind_some, Py]
 rw [show s_ = ba [] from rfl, eqS_ba]
 by_cases h : s.takeWhile isI = []
 ·rw [if_pos h]; simp [h]
 ·rw [if_neg h]; simp [h]
theorem QsX (w : List UInt8) : X6 (ba w) = some (wordB w) := by
 rw [X6.eq]; unfold Qca
 rw [show s_ = ba [] from rfl, eqS_ba]
 cases w with
 | nil => rfl
 | cons c t =>
  simp only [Qt, Xn, Qbo, JD, Qgp, Option.bind_some, eqS_ba]
  have c0 : decide (c :: t = []) = false := by simp
  have c2 : decide (0 ≤ (0 : Int) ∧ (0 : Int) < (((c :: t).length : Nat) : Int)) = true := decide_eq_true (by simp only [List.length_cons]; omega)
  have c3 : decide (0 ≤ (1 : Int) ∧ (1 : Int) ≤ (((c :: t).length : Nat) : Int) ∧ (((c :: t).length : Nat) : Int) ≤ (((c :: t).length : Nat) : Int)) = true := decide_eq_true (by simp only [List.length_cons]; omega)
  have c4 : IntKind.i32.wrap (((((c :: t).getD (Int.toNat 0) 0).toNat : Nat) : Int)) = (c.toNat : Int) := by
   show IntKind.i32.wrap (c.toNat : Int) = _
   exact i32_in (by omega) (by have := c.toNat_lt; omega)
  have e1 : ((c :: t).take (Int.toNat (((c :: t).length : Nat) : Int))).drop (Int.toNat 1) = t := by rw [Int.toNat_natCast, List.take_length]; rfl
  rw [c0, cond_false, c2, cond_true, c4, Z7, c3, e1]
  simp only [Option.bind_some, eqS_ba, cond_true]
  have c1 : decide ((((c :: t).length : Nat) : Int) > 12) = !decide (t.length < 12) := by
   by_cases h : t.length < 12
   ·rw [decide_eq_true h, decide_eq_false (by simp only [List.length_cons]; omega)]; rfl
   ·rw [decide_eq_false h, decide_eq_true (by simp only [List.length_cons]; omega)]; rfl
  have c5 : ((((c :: t).getD (Int.toNat 0) 0).toNat : Int) != 114) = decide (c ≠ 114) := by
   show ((c.toNat : Int) != 114) = _
   rw [Bool.eq_iff_iff, bne_iff_ne, decide_eq_true_iff]
   have : (114 : UInt8).toNat = 114 := rfl
   constructor
   ·intro h e; subst e; exact h rfl
   ·intro h e; exact h (UInt8.toNat_inj.1 (by omega))
  have c6 : ((((c :: t).length : Nat) : Int) == 1) = decide (t = []) := by
   rw [Bool.eq_iff_iff, beq_iff_eq, decide_eq_true_iff]
   cases t <;> simp <;> omega
  rw [c1, c5, c6]
  have hw : wordB (c :: t) = (decide (t.length < 12) && (!isD c && (decide ((c :: t).takeWhile isI = c :: t) && (decide (c ≠ 114) || (decide (t = []) || !decide (t.takeWhile isD = t)))))) := rfl
  rw [hw]
  have c7 : decide (48 ≤ c.toNat ∧ c.toNat ≤ 57) = isD c := rfl
  rw [c7]
  cases decide (t.length < 12) <;> cases isD c <;> cases decide ((c :: t).takeWhile isI = c :: t) <;> cases decide (c ≠ 114) <;> cases decide (t = []) <;> rfl
end Go.Ab
namespace Go.Ab
theorem QsY {p : UInt8 → Bool} (t : List UInt8) : t.drop (t.takeWhile p).length = t.dropWhile p := by
 conv => lhs; rw [← List.takeWhile_append_dropWhile (p := p) (l := t)]
 rw [List.takeWhile_append_dropWhile, ]
 conv => lhs; arg 2; rw [← List.takeWhile_append_dropWhile (p := p) (l := t)]
 exact List.drop_left
def tailA (base : Nat) (h r : List UInt8) : Option (X3 × List UInt8) := match numv base h 0 with
 | some n => if r.takeWhile isI = [] then some (.num n, r) else none
 | none => none
def atomS (t : List UInt8) : Option (X3 × List UInt8) :=
 bif pre [48, 120] t && !decide ((t.drop 2).takeWhile isH = []) then tailA 16 ((t.drop 2).takeWhile isH) ((t.drop 2).dropWhile isH)
 else bif !decide (t.takeWhile isD = []) then tailA 10 (t.takeWhile isD) (t.dropWhile isD)
 else bif wordB (t.takeWhile isI) then some (.nm (ba (t.takeWhile isI)), t.dropWhile isI) else none
def PR (f : Option (Qa × Qd)) (d : Int) (o : Option (X3 × List UInt8)) : Prop := match o with
 | some (x, r) => f = some (x.t, PS r d false)
 | none => ∃ e r, f = some (e, PS r d true)
theorem all_tw {p q : UInt8 → Bool} (hpq : ∀ b, p b = true → q b = true) (t : List UInt8) : (t.takeWhile p).all q = true := by
 rw [List.all_eq_true]; intro b hb; exact hpq b (List.all_eq_true.1 List.all_takeWhile b hb)
theorem QoR (base : Nat) (hb : base ≤ 16) (h r : List UInt8) (hh : h.all isH = true) (d : Int) :
  PR ((JX (ba h) base (PS (h ++ r) d false)).bind fun q => (J5 q.1 q.2).bind fun q => some (q.1, q.2)) d (tailA base h r) := by
 rw [QqY h r hh base hb]
 unfold tailA
 cases hv : numv base h 0 with
 | none =>
  simp only [Option.bind_some, Qnj]
  split <;> exact ⟨_, _, rfl⟩
 | some n =>
  simp only [Option.bind_some, Qnj]
  split
  ·rfl
  ·exact ⟨_, _, rfl⟩
theorem Qir {s r : List UInt8} (h : dropB s = 40 :: r) (d : Int) : QI (PS s d false) = Q7 (PS r d false) := by
 rw [QI.eq]; unfold VQ
 simp only [show h_28 = ba [40] from rfl, Ga, cond_true, Option.bind_some, cond_false, h]
 rw [show pre [40] (40 :: r) = true from by simp [pre]]
 simp only [cond_true]
 show (Q7 (PS r d false)).bind (fun r2 => some (r2.1, r2.2)) = _
 cases Q7 (PS r d false) <;> rfl
theorem Qan {a : UInt8} {t : List UInt8} (h : ∀ r, t ≠ a :: r) : pre [a] t = false := by
 cases t with
 | nil => simp [pre]
 | cons b t =>
  have : b ≠ a := fun e => h t (by rw [e])
  simp [pre, this]
theorem Qgs {s r : List UInt8} (h : dropB s = 45 :: r) (d : Int) : QI (PS s d false) = QV (PS r d false) := by
 rw [QI.eq]; unfold VQ
 simp only [show h_28 = ba [40] from rfl, show h_2d = ba [45] from rfl, Ga, cond_true, Option.bind_some, cond_false, h]
 rw [show pre [40] (45 :: r) = false from by simp [pre]]
 simp only [cond_false, Ga]
 rw [show dropB (45 :: r) = 45 :: r from by simp [dropB, List.dropWhile_cons], show pre [45] (45 :: r) = true from by simp [pre]]
 simp only [cond_true, Option.bind_some]
 show (QV (PS r d false)).bind (fun r2 => some (r2.1, r2.2)) = _
 cases QV (PS r d false) <;> rfl
theorem QoS {s r : List UInt8} (h : dropB s = 46 :: r) (d : Int) : QI (PS s d false) = some (X3.here.t, PS r d false) := by
 rw [QI.eq]; unfold VQ
 simp only [show h_28 = ba [40] from rfl, show h_2d = ba [45] from rfl, show h_2e = ba [46] from rfl, Ga, cond_true, Option.bind_some, cond_false, h]
 rw [show pre [40] (46 :: r) = false from by simp [pre]]
 simp only [cond_false, Ga]
 rw [show dropB (46 :: r) = 46 :: r from by simp [dropB, List.dropWhile_cons], show pre [45] (46 :: r) = false from by simp [pre]]
 simp only [cond_false, Option.bind_some, Ga]
 rw [show dropB (46 :: r) = 46 :: r from by simp [dropB, List.dropWhile_cons], show pre [46] (46 :: r) = true from by simp [pre]]
 rfl
theorem Qis {s t : List UInt8} (h : dropB s = t) (h1 : ∀ r, t ≠ 40 :: r) (h2 : ∀ r, t ≠ 45 :: r) (h3 : ∀ r, t ≠ 46 :: r) (d : Int) : PR (QI (PS s d false)) d (atomS t) := by
 have ht : dropB t = t := by rw [← h, GZ]
 rw [QI.eq]; unfold VQ
 simp only [show h_28 = ba [40] from rfl, show h_2d = ba [45] from rfl, show h_2e = ba [46] from rfl, Ga, cond_true, Option.bind_some, cond_false, h, ht, Qan h1, Qan h2, Qan h3, QlV, QpY, Qbo, Qgp, Qt, JD, QsX, Py]
 have rest : ∀ (P : Prop), (PR (bif !eqS (ba (t.takeWhile isD)) s_ then (JX (ba (t.takeWhile isD)) 10 (PS t d false)).bind fun r18 => (J5 r18.1 r18.2).bind fun r19 => some (r19.1, r19.2)
   else bif wordB (t.takeWhile isI) then (bif decide (0 ≤ (((t.takeWhile isI).length : Nat) : Int) ∧ (((t.takeWhile isI).length : Nat) : Int) ≤ ((t.length : Nat) : Int) ∧ ((t.length : Nat) : Int) ≤ ((t.length : Nat) : Int)) then
    some ((⟨2, 0, ba (t.takeWhile isI), []⟩ : Qa), (⟨ba ((t.take (Int.toNat ((t.length : Nat) : Int))).drop (Int.toNat (((t.takeWhile isI).length : Nat) : Int))), d, false⟩ : Qd)) else none) else some ((⟨0, 0, s_, []⟩ : Qa), (⟨ba t, d, true⟩ : Qd))) d
   (bif !decide (t.takeWhile isD = []) then tailA 10 (t.takeWhile isD) (t.dropWhile isD) else bif wordB (t.takeWhile isI) then some (.nm (ba (t.takeWhile isI)), t.dropWhile isI) else none) → P) → P := by
  intro P k
  apply k
  rw [show s_ = ba [] from rfl, eqS_ba]
  cases hD : decide (t.takeWhile isD = []) with
  | false =>
   simp only [Bool.not_false, cond_true]
   have := QoR 10 (by decide) (t.takeWhile isD) (t.dropWhile isD) (all_tw (fun b hb => by simp [isH, hb]) t) d
   rw [List.takeWhile_append_dropWhile] at this
   exact this
  | true =>
   simp only [Bool.not_true, cond_false]
   cases hw : wordB (t.takeWhile isI) with
   | false => exact ⟨_, _, rfl⟩
   | true =>
    simp only [cond_true]
    have hl : (t.takeWhile isI).length ≤ t.length := (List.takeWhile_sublist _).length_le
    have c1 : decide (0 ≤ (((t.takeWhile isI).length : Nat) : Int) ∧ (((t.takeWhile isI).length : Nat) : Int) ≤ ((t.length : Nat) : Int) ∧ ((t.length : Nat) : Int) ≤ ((t.length : Nat) : Int)) = true := decide_eq_true (by omega)
    rw [c1, cond_true, Int.toNat_natCast, Int.toNat_natCast, List.take_length, QsY]
    rfl
 unfold atomS
 cases hp : pre [48, 120] t with
 | false =>
  simp only [Bool.false_and, cond_false]
  exact rest _ id
 | true =>
  have hlen := (QgI hp).1
  have c1 : decide (0 ≤ (2 : Int) ∧ (2 : Int) ≤ ((t.length : Nat) : Int) ∧ ((t.length : Nat) : Int) ≤ ((t.length : Nat) : Int)) = true := decide_eq_true (by simp at hlen; omega)
  have e2 : (t.take (Int.toNat ((t.length : Nat) : Int))).drop (Int.toNat 2) = t.drop 2 := by rw [Int.toNat_natCast, List.take_length]; rfl
  simp only [Bool.true_and, cond_true]
  rw [c1, cond_true, e2]
  cases hH : decide ((t.drop 2).takeWhile isH = []) with
  | true =>
   have : eqS (ba ((t.drop 2).takeWhile isH)) s_ = true := by rw [show s_ = ba [] from rfl, eqS_ba, hH]
   rw [this]
   simp only [Bool.not_true, cond_false]
   exact rest _ id
  | false =>
   have : eqS (ba ((t.drop 2).takeWhile isH)) s_ = false := by rw [show s_ = ba [] from rfl, eqS_ba, hH]
   rw [this]
   simp only [Bool.not_false, cond_true]
   have := QoR 16 (by decide) ((t.drop 2).takeWhile isH) ((t.drop 2).dropWhile isH) (all_tw (fun b hb => hb) _) d
   rw [List.takeWhile_append_dropWhile] at this
   exact this
end Go.Ab
namespace Go.Ab
theorem Qgt : VF = some [[9], [8], [10, 11], [5, 6], [7]] := by rw [VF.eq]; rfl
theorem Qk5 {l : Nat} (h : l < 5) : ([[9], [8], [10, 11], [5, 6], [7]] : List (List Int))[l]? = some ((lv l).map fun k : Nat => (k : Int)) := by
 have : l = 0 ∨ l = 1 ∨ l = 2 ∨ l = 3 ∨ l = 4 := by omega
 rcases this with rfl | rfl | rfl | rfl | rfl <;> rfl
theorem lv_ne (l : Nat) : lv l ≠ [] := by unfold lv; split <;> simp
theorem lv_len (l : Nat) : (lv l).length ≤ 1000 := by unfold lv; split <;> simp
theorem two5 (p : Qd) : Qp 5 p = QI p := by
 rw [Qp.eq]; unfold WT
 simp only [Qgt, Option.bind_some]
 show (QI p).bind (fun r2 => some (r2.1, r2.2)) = _
 cases QI p <;> rfl
noncomputable def PL (l : Nat) (p : Qd) (x : Qa) : Option (Qa × Qd) :=
 (JW ((lv l).map fun k : Nat => (k : Int)) p).bind fun r6 => (Q6 ⟨(l : Int), r6.1, r6.2, E0, x⟩).bind fun o => some (o.h2, o.h0)
theorem two_lt {l : Nat} (h : l < 5) (p : Qd) : Qp (l : Int) p = (Qp ((l + 1 : Nat) : Int) p).bind fun r => PL l r.2 r.1 := by
 rw [Qp.eq]; unfold WT
 simp only [Qgt, Option.bind_some]
 have c1 : ((l : Int) == (([[9], [8], [10, 11], [5, 6], [7]] : List (List Int)).length : Nat)) = false := by
  rw [beq_eq_false_iff_ne]; simp; omega
 have c2 : decide (0 ≤ (l : Int)) = true := decide_eq_true (by omega)
 rw [c1, cond_false, w64_in (n := (l : Int) + 1) (by omega) (by omega), c2]
 simp only [cond_true, Int.toNat_natCast, Qk5 h, Option.bind_some]
 rfl
theorem PL_bad {l : Nat} (s : List UInt8) (d : Int) (x : Qa) : PL l (PS s d true) x = some (x, PS (dropB s) d true) := by
 unfold PL
 rw [QoQ _ (fun k hk => lv_ok hk) (lv_ne l) (lv_len l)]
 simp only [cond_true, Option.bind_some]
 rw [Q6.eq]; rfl
theorem PL_eq {l : Nat} (h : l < 5) (s : List UInt8) (d : Int) (x : Qa) : PL l (PS s d false) x = match kindS (lv l) (dropB s) with
  | none => some (x, PS (dropB s) d false)
  | some k => (Qp ((l + 1 : Nat) : Int) (PS ((dropB s).drop (sg k).length) d false)).bind fun r => PL l r.2 ⟨k, 0, s_, [x, r.1]⟩ := by
 conv => lhs; unfold PL
 rw [QoQ _ (fun k hk => lv_ok hk) (lv_ne l) (lv_len l)]
 simp only [cond_false, Option.bind_some]
 cases hk : kindS (lv l) (dropB s) with
 | none => simp only; rw [Q6.eq]; rfl
 | some k =>
  have h5 := lv_ok (List.mem_of_find?_eq_some hk)
  have c1 : ((k : Int) != 0) = true := by rw [bne_iff_ne]; omega
  have c2 : decide (0 ≤ (l : Int)) = true := decide_eq_true (by omega)
  simp only
  rw [Q6.eq]; unfold Wi
  simp only [c1, cond_true, Bool.not_false, c2, Qgt, Option.bind_some, Int.toNat_natCast, Qk5 h]
  rw [w64_in (n := (l : Int) + 1) (by omega) (by omega)]
  show Option.bind (Option.bind (Option.bind (Qp ((l + 1 : Nat) : Int) (PS ((dropB s).drop (sg k).length) d false)) _) _) _ = _
  cases Qp ((l + 1 : Nat) : Int) (PS ((dropB s).drop (sg k).length) d false) with
  | none => rfl
  | some r =>
   simp only [Option.bind_some]
   unfold PL
   cases JW ((lv l).map fun k : Nat => (k : Int)) r.2 <;> rfl
theorem Qju {d : Int} (h : d ≥ 12) (s : List UInt8) : Q7 (PS s d false) = some (E0, PS s d true) ∧ QV (PS s d false) = some (E0, PS s d true) := by
 constructor
 ·rw [Q7.eq]; unfold Wh
  simp only [Py, decide_eq_true h, cond_true, Option.bind_some]
 ·rw [QV.eq]; unfold VI
  simp only [Py, decide_eq_true h, cond_true, Option.bind_some]
theorem Qk6 {d : Int} (h0 : 0 ≤ d) (h : d < 12) (s : List UInt8) {o : Option (X3 × List UInt8)} (ho : PR (Qp 0 (PS s (d + 1) false)) (d + 1) o) :
  PR (Q7 (PS s d false)) d (o.bind fun xr => bif pre [41] (dropB xr.2) then some (xr.1, (dropB xr.2).drop 1) else none) := by
 rw [Q7.eq]; unfold Wh
 have c1 : decide (d ≥ 12) = false := decide_eq_false (by omega)
 simp only [c1, cond_false]
 rw [w64_in (n := d + 1) (by omega) (by omega), JN.eq]; unfold W1
 have wd : w64 (d + 1 - 1) = d := by rw [w64_in (by omega) (by omega)]; omega
 cases o with
 | none =>
  obtain ⟨e, r, he⟩ := ho
  have he : Qp 0 ⟨ba s, d + 1, false⟩ = some (e, PS r (d + 1) true) := he
  simp only [he, Option.bind_some, show h_29 = ba [41] from rfl, Ga, cond_true, Bool.not_false, Py, Option.bind_none, wd]
  exact ⟨_, _, rfl⟩
 | some xr =>
  obtain ⟨x, r⟩ := xr
  have ho : Qp 0 ⟨ba s, d + 1, false⟩ = some (x.t, PS r (d + 1) false) := ho
  simp only [ho, Option.bind_some, show h_29 = ba [41] from rfl, Ga, cond_false]
  cases hp : pre [41] (dropB r) with
  | false =>
   simp only [cond_false, Bool.not_false, cond_true, Py, Option.bind_some, wd]
   exact ⟨_, _, rfl⟩
  | true =>
   simp only [cond_true, Bool.not_true, cond_false, Option.bind_some, wd]
   rfl
theorem Qnk {d : Int} (h0 : 0 ≤ d) (h : d < 12) (s : List UInt8) {o : Option (X3 × List UInt8)} (ho : PR (QI (PS s (d + 1) false)) (d + 1) o) :
  PR (QV (PS s d false)) d (o.bind fun xr => some (.neg xr.1, xr.2)) := by
 rw [QV.eq]; unfold VI
 have c1 : decide (d ≥ 12) = false := decide_eq_false (by omega)
 simp only [c1, cond_false]
 rw [w64_in (n := d + 1) (by omega) (by omega), JO.eq]; unfold W2
 have wd : w64 (d + 1 - 1) = d := by rw [w64_in (by omega) (by omega)]; omega
 cases o with
 | none =>
  obtain ⟨e, r, he⟩ := ho
  have he : QI ⟨ba s, d + 1, false⟩ = some (e, PS r (d + 1) true) := he
  simp only [he, Option.bind_some, wd, Option.bind_none]
  exact ⟨_, _, rfl⟩
 | some xr =>
  obtain ⟨x, r⟩ := xr
  have ho : QI ⟨ba s, d + 1, false⟩ = some (x.t, PS r (d + 1) false) := ho
  simp only [ho, Option.bind_some, wd]
  rfl
theorem Qit (s : List UInt8) {o : Option (X3 × List UInt8)} (ho : PR (Qp 0 (PS s 0 false)) 0 o) :
  Wj (ba s) = some (match o with | some (x, r) => if dropB r = [] then (x.t, true) else (E0, false) | none => (E0, false)) := by
 rw [Wj.eq]; unfold Qa6
 cases o with
 | none =>
  obtain ⟨e, r, he⟩ := ho
  have he : Qp 0 ⟨ba s, 0, false⟩ = some (e, PS r 0 true) := he
  simp only [he, Option.bind_some, Qgq, cond_true]
 | some xr =>
  obtain ⟨x, r⟩ := xr
  have ho : Qp 0 ⟨ba s, 0, false⟩ = some (x.t, PS r 0 false) := ho
  simp only [ho, Option.bind_some, Qgq, cond_false]
  rw [show s_ = ba [] from rfl, eqS_ba]
  by_cases h : dropB r = []
  ·simp [h]
  ·simp [h]; rfl
end Go.Ab
namespace Go.Ab
inductive Sp : List (List UInt8) → List UInt8 → Prop
 | nil (b : List UInt8) (hb : ∀ c ∈ b, c = 32) : Sp [] b
 | cons (b t s : List UInt8) (ts : List (List UInt8)) (hb : ∀ c ∈ b, c = 32) (h : Sp ts s) : Sp (t :: ts) (b ++ (t ++ s))
theorem F6 {b s : List UInt8} (hb : ∀ c ∈ b, c = 32) : dropB (b ++ s) = dropB s := by
 induction b with
 | nil => rfl
 | cons c b ih =>
  have hc := hb c (by simp)
  subst hc
  rw [List.cons_append]
  show List.dropWhile _ _ = _
  rw [List.dropWhile_cons]
  simp only [beq_self_eq_true, if_true]
  exact ih fun c h => hb c (by simp [h])
theorem G2 {c : UInt8} {s : List UInt8} (h : c ≠ 32) : dropB (c :: s) = c :: s := by
 unfold dropB; rw [List.dropWhile_cons]; simp [h]
theorem Sp.nil_drop {s : List UInt8} (h : Sp [] s) : dropB s = [] := by
 cases h with
 | nil b hb =>
  have := F6 (s := []) hb
  rw [List.append_nil] at this; rw [this]; rfl
theorem Sp.cons_drop {c : UInt8} {t s : List UInt8} {ts : List (List UInt8)} (h : Sp ((c :: t) :: ts) s) (hc : c ≠ 32) : ∃ s', dropB s = c :: (t ++ s') ∧ Sp ts s' := by
 cases h with
 | cons b t' s' ts' hb h' => exact ⟨s', by rw [F6 hb]; exact G2 hc, h'⟩
theorem Sp.drop {s : List UInt8} {ts : List (List UInt8)} (h : Sp ts s) : Sp ts (dropB s) ∨ ∃ c t ts', ts = (c :: t) :: ts' ∧ c = 32 ∨ ts = [] :: ts' := by
 cases h with
 | nil b hb =>
  left
  have := F6 (s := []) hb
  rw [List.append_nil] at this; rw [this]; exact .nil [] (by simp)
 | cons b t s' ts' hb h' =>
  cases t with
  | nil => exact .inr ⟨0, [], ts', .inr rfl⟩
  | cons c t =>
   by_cases hc : c = 32
   ·exact .inr ⟨c, t, ts', .inl ⟨rfl, hc⟩⟩
   ·left
    rw [F6 hb]
    show Sp _ (dropB (c :: (t ++ s')))
    rw [G2 hc]
    exact .cons [] (c :: t) s' ts' (by simp) h'
def front (ts : List (List UInt8)) : Prop := ∀ t ts', ts = t :: ts' → ∃ c u, t = c :: u ∧ isI c = false ∧ c ≠ 32
theorem Sp.drop' {s : List UInt8} {ts : List (List UInt8)} (hf : front ts) (h : Sp ts s) : Sp ts (dropB s) := by
 rcases h.drop with h | ⟨c, t, ts', ⟨rfl, rfl⟩ | rfl⟩
 ·exact h
 ·obtain ⟨c', u, e, _, h2⟩ := hf _ _ rfl
  cases e; exact absurd rfl h2
 ·obtain ⟨c', u, e, _, h2⟩ := hf _ _ rfl
  cases e
theorem Sp.head {s : List UInt8} {ts : List (List UInt8)} (hf : front ts) (h : Sp ts s) : ∀ c t, s = c :: t → isI c = false := by
 intro c t e
 cases h with
 | nil b hb => subst e; have := hb c (by simp); subst this; rfl
 | cons b t' s' ts' hb h' =>
  cases b with
  | cons b0 b =>
   have : b0 = c := by simpa using congrArg List.head? e
   subst this
   have := hb b0 (by simp); subst this; rfl
  | nil =>
   obtain ⟨c', u, e', h1, _⟩ := hf _ _ rfl
   subst e'
   have : c' = c := by simpa using congrArg List.head? e
   subst this; exact h1
def nsp : X3 → Nat
 | .neg x => nsp x + 1
 | .bin _ x y => max (nsp x) (nsp y) + 1
 | _ => 0
def isBin : X3 → Bool
 | .bin _ _ _ => true
 | _ => false
def tk : X3 → List (List UInt8)
 | .num n => [Lib.decDigits n.toNat]
 | .nm s => [bl s]
 | .here => [[46]]
 | .neg x => [45] :: (if isBin x then [40] :: (tk x ++ [[41]]) else tk x)
 | .bin k x y => (if isBin x then [40] :: (tk x ++ [[41]]) else tk x) ++ (sg k :: (if isBin y then [40] :: (tk y ++ [[41]]) else tk y))
def tkp (x : X3) : List (List UInt8) := if isBin x then [40] :: (tk x ++ [[41]]) else tk x
theorem tk_bin (k : Nat) (x y : X3) : tk (.bin k x y) = tkp x ++ (sg k :: tkp y) := rfl
def okW (x : X3) : Prop := x.ok fun s => wordB (bl s) = true
theorem Qkm {u : Nat} : (Lib.decDigits u).all isD = true ∧ Lib.decDigits u ≠ [] := by
 induction u using Nat.strongRecOn with
 | _ u ih =>
  rw [Lib.decDigits]
  split
  ·refine ⟨?_, by simp⟩
   have : ∀ v : Fin 10, isD (UInt8.ofNat (48 + v.val)) = true := by decide
   simp only [List.all_cons, List.all_nil, Bool.and_true]
   exact this ⟨u, by assumption⟩
  ·have := ih (u / 10) (by omega)
   refine ⟨?_, by simp⟩
   rw [List.all_append, this.1]
   have h2 : ∀ v : Fin 10, isD (UInt8.ofNat (48 + v.val)) = true := by decide
   simp only [List.all_cons, List.all_nil, Bool.and_true, Bool.true_and]
   exact h2 ⟨u % 10, by omega⟩
theorem QhP (base : Nat) (c : UInt8) : ∀ (l : List UInt8) (n : Nat), numv base (l ++ [c]) n = (numv base l n).bind fun m => if m * base + dg c ≥ 4294967296 then none else some (m * base + dg c)
 | [], n => rfl
 | b :: l, n => by
  simp only [List.cons_append, numv]
  split
  ·rfl
  ·exact QhP base c l _
theorem Qr1 {u : Nat} (h : u < 4294967296) : numv 10 (Lib.decDigits u) 0 = some u := by
 induction u using Nat.strongRecOn with
 | _ u ih =>
  have dv : ∀ v : Fin 10, dg (UInt8.ofNat (48 + v.val)) = v.val := by decide
  rw [Lib.decDigits]
  split
  ·rename_i hu
   have e := dv ⟨u, hu⟩
   simp only [numv, Nat.zero_mul, Nat.zero_add]
   simp only at e
   rw [e, if_neg (by omega)]
  ·rw [QhP, ih (u / 10) (by omega) (by omega)]
   have e := dv ⟨u % 10, by omega⟩
   simp only at e
   simp only [Option.bind_some, e]
   rw [if_neg (by omega)]; congr 1; omega
theorem Qr2 {u : Nat} (h : u < 4294967296) {r : List UInt8} (hr : ∀ c t, r = c :: t → isI c = false) : atomS (Lib.decDigits u ++ r) = some (.num u, r) := by
 obtain ⟨h1, h2⟩ := @Qkm u
 have hrD : ∀ c t, r = c :: t → isD c = false := fun c t e => by
  have := hr c t e
  simp only [isI, Bool.or_eq_false_iff] at this; exact this.2
 obtain ⟨e1, e2⟩ := GO h1 hrD
 unfold atomS
 have hp : pre [48, 120] (Lib.decDigits u ++ r) = false := by
  unfold pre
  rw [decide_eq_false]
  intro e
  match hd : Lib.decDigits u, h2 with
  | [c], _ =>
   rw [hd] at e
   cases r with
   | nil => simp at e
   | cons b r =>
    simp at e
    have := hr b r rfl
    rw [e.2] at this; cases this
  | c :: b :: l, _ =>
   rw [hd] at e h1
   simp at e
   simp only [List.all_cons, Bool.and_eq_true] at h1
   have := h1.2.1
   rw [e.2] at this; cases this
 rw [hp, e1, e2]
 simp only [Bool.false_and, cond_false, decide_eq_false h2, Bool.not_false, cond_true]
 unfold tailA
 rw [Qr1 h]
 simp only
 have : r.takeWhile isI = [] := by
  cases r with
  | nil => rfl
  | cons b r => simp [List.takeWhile_cons, hr b r rfl]
 rw [if_pos this]
theorem G3 {w : List UInt8} (h : wordB w = true) : ∃ c t, w = c :: t ∧ isI c = true ∧ isD c = false ∧ w.all isI = true := by
 match w, h with
 | c :: t, h =>
  have hw : wordB (c :: t) = (decide (t.length < 12) && (!isD c && (decide ((c :: t).takeWhile isI = c :: t) && (decide (c ≠ 114) || (decide (t = []) || !decide (t.takeWhile isD = t)))))) := rfl
  rw [hw] at h
  simp only [Bool.and_eq_true, Bool.not_eq_true', decide_eq_true_eq] at h
  have ha : (c :: t).all isI = true := by
   have := List.all_takeWhile (p := isI) (l := c :: t)
   rwa [h.2.2.1] at this
  refine ⟨c, t, rfl, ?_, h.2.1, ha⟩
  simp only [List.all_cons, Bool.and_eq_true] at ha; exact ha.1
theorem QqZ {w : List UInt8} (h : wordB w = true) {r : List UInt8} (hr : ∀ c t, r = c :: t → isI c = false) : atomS (w ++ r) = some (.nm (ba w), r) := by
 obtain ⟨c, t, rfl, hc, hd, ha⟩ := G3 h
 obtain ⟨e1, e2⟩ := GO ha hr
 unfold atomS
 have hp : pre [48, 120] ((c :: t) ++ r) = false := by
  unfold pre
  rw [decide_eq_false]
  intro e
  simp at e
  rw [e.1] at hd; cases hd
 have hD : ((c :: t) ++ r).takeWhile isD = [] := by simp [List.takeWhile_cons, hd]
 rw [hp, hD, e1, e2, h]
 rfl
end Go.Ab
namespace Go.Ab
def lvlOf (k : Nat) : Nat := match k with
 | 9 => 0 | 8 => 1 | 10 => 2 | 11 => 2 | 5 => 3 | 6 => 3 | _ => 4
theorem Qnl {k l : Nat} (hk : 5 ≤ k ∧ k ≤ 11) (hl : l < 5) (s : List UInt8) : kindS (lv l) (sg k ++ s) = if lvlOf k = l then some k else none := by
 have h1 : k = 5 ∨ k = 6 ∨ k = 7 ∨ k = 8 ∨ k = 9 ∨ k = 10 ∨ k = 11 := by omega
 have h2 : l = 0 ∨ l = 1 ∨ l = 2 ∨ l = 3 ∨ l = 4 := by omega
 rcases h1 with rfl | rfl | rfl | rfl | rfl | rfl | rfl <;> rcases h2 with rfl | rfl | rfl | rfl | rfl <;> simp [kindS, lv, sg, pre, lvlOf]
theorem Qcn {l : Nat} (hl : l < 5) (s : List UInt8) : kindS (lv l) (41 :: s) = none ∧ kindS (lv l) [] = none := by
 have h2 : l = 0 ∨ l = 1 ∨ l = 2 ∨ l = 3 ∨ l = 4 := by omega
 rcases h2 with rfl | rfl | rfl | rfl | rfl <;> simp [kindS, lv, sg, pre]
def stop (l : Nat) (ts : List (List UInt8)) : Prop := ∀ s, Sp ts s → ∀ l', l ≤ l' → l' < 5 → kindS (lv l') (dropB s) = none
theorem Qnm (l : Nat) : stop l [] := fun s h l' _ h5 => by rw [h.nil_drop]; exact (Qcn h5 []).2
theorem QpZ (l : Nat) (ts : List (List UInt8)) : stop l ([41] :: ts) := fun s h l' _ h5 => by
 obtain ⟨s', e, _⟩ := h.cons_drop (c := 41) (t := []) (by decide)
 rw [e]; exact (Qcn h5 _).1
theorem QgJ {k : Nat} (hk : 5 ≤ k ∧ k ≤ 11) : ∃ c t, sg k = c :: t ∧ isI c = false ∧ c ≠ 32 := by
 have h1 : k = 5 ∨ k = 6 ∨ k = 7 ∨ k = 8 ∨ k = 9 ∨ k = 10 ∨ k = 11 := by omega
 rcases h1 with rfl | rfl | rfl | rfl | rfl | rfl | rfl <;> exact ⟨_, _, rfl, by decide, by decide⟩
theorem QoT {k : Nat} (hk : 5 ≤ k ∧ k ≤ 11) {ts : List (List UInt8)} {s : List UInt8} (h : Sp (sg k :: ts) s) : ∃ s', dropB s = sg k ++ s' ∧ Sp ts s' := by
 obtain ⟨c, t, e, _, h2⟩ := QgJ hk
 rw [e] at h ⊢
 exact h.cons_drop h2
theorem QsZ {k l : Nat} (hk : 5 ≤ k ∧ k ≤ 11) (hl : lvlOf k < l) (ts : List (List UInt8)) : stop l (sg k :: ts) := fun s h l' h1 h5 => by
 obtain ⟨s', e, _⟩ := QoT hk h
 rw [e, Qnl hk h5, if_neg (by omega)]
theorem Qk7 : front [] := fun t ts' e => by cases e
theorem Qor (ts : List (List UInt8)) : front ([41] :: ts) := fun t ts' e => by cases e; exact ⟨41, [], rfl, by decide, by decide⟩
theorem Qr3 {k : Nat} (hk : 5 ≤ k ∧ k ≤ 11) (ts : List (List UInt8)) : front (sg k :: ts) := fun t ts' e => by cases e; exact QgJ hk
def ONE (x : X3) : Prop := ∀ (d : Int) (ts : List (List UInt8)) (s : List UInt8), front ts → 0 ≤ d → d + nsp x ≤ 12 → Sp (tkp x ++ ts) s → ∃ s', Sp ts s' ∧ QI (PS s d false) = some (x.t, PS s' d false)
theorem Qda {l : Nat} (h : l < 5) {s : List UInt8} (hk : kindS (lv l) (dropB s) = none) (d : Int) (x : Qa) : PL l (PS s d false) x = some (x, PS (dropB s) d false) := by rw [PL_eq h, hk]
theorem QgK {x : X3} (hx : ONE x) : ∀ (g l : Nat), g + l = 5 → ∀ (d : Int) (ts : List (List UInt8)) (s : List UInt8), front ts → stop l ts → 0 ≤ d → d + nsp x ≤ 12 → Sp (tkp x ++ ts) s → ∃ s', Sp ts s' ∧ Qp (l : Int) (PS s d false) = some (x.t, PS s' d false)
 | 0, l, hl, d, ts, s, hf, hs, h0, h12, h => by
  obtain rfl : l = 5 := by omega
  obtain ⟨s', h1, h2⟩ := hx d ts s hf h0 h12 h
  exact ⟨s', h1, (two5 _).trans h2⟩
 | g + 1, l, hl, d, ts, s, hf, hs, h0, h12, h => by
  obtain ⟨s', h1, h2⟩ := QgK hx g (l + 1) (by omega) d ts s hf (fun s h l' h1 h5 => hs s h l' (by omega) h5) h0 h12 h
  refine ⟨dropB s', h1.drop' hf, ?_⟩
  rw [two_lt (by omega), h2]
  simp only [Option.bind_some]
  exact Qda (by omega) (hs s' h1 l (by omega) (by omega)) d _
theorem bin_at {k : Nat} (hk : 5 ≤ k ∧ k ≤ 11) {x y : X3} (hx : ONE x) (hy : ONE y) : ∀ (g l : Nat), g + l = lvlOf k → ∀ (d : Int) (ts : List (List UInt8)) (s : List UInt8), front ts → stop l ts → 0 ≤ d → d + nsp x ≤ 12 → d + nsp y ≤ 12 →
  Sp (tk (.bin k x y) ++ ts) s → ∃ s', Sp ts s' ∧ Qp (l : Int) (PS s d false) = some ((X3.bin k x y).t, PS s' d false)
 | 0, l, hl, d, ts, s, hf, hs, h0, h1, h2, h => by
  have hl5 : l < 5 := by
   have : lvlOf k ≤ 4 := by unfold lvlOf; split <;> omega
   omega
  rw [tk_bin, List.append_assoc, List.cons_append] at h
  obtain ⟨s1, e1, e2⟩ := QgK hx (5 - (l + 1)) (l + 1) (by omega) d _ s (Qr3 hk _) (QsZ hk (by omega) _) h0 h1 h
  obtain ⟨s2, e3, e4⟩ := QoT hk e1
  obtain ⟨s3, e5, e6⟩ := QgK hy (5 - (l + 1)) (l + 1) (by omega) d ts s2 hf (fun s h l' h1 h5 => hs s h l' (by omega) h5) h0 h2 e4
  refine ⟨dropB s3, e5.drop' hf, ?_⟩
  rw [two_lt hl5, e2]
  simp only [Option.bind_some]
  rw [PL_eq hl5, e3, Qnl hk hl5, if_pos (by omega)]
  simp only [List.drop_left, e6, Option.bind_some]
  exact Qda hl5 (hs s3 e5 l (by omega) (by omega)) d _
 | g + 1, l, hl, d, ts, s, hf, hs, h0, h1, h2, h => by
  have hl5 : l < 5 := by
   have : lvlOf k ≤ 4 := by unfold lvlOf; split <;> omega
   omega
  obtain ⟨s', e1, e2⟩ := bin_at hk hx hy g (l + 1) (by omega) d ts s hf (fun s h l' h1 h5 => hs s h l' (by omega) h5) h0 h1 h2 h
  refine ⟨dropB s', e1.drop' hf, ?_⟩
  rw [two_lt hl5, e2]
  simp only [Option.bind_some]
  exact Qda hl5 (hs s' e1 l (by omega) (by omega)) d _
theorem QgL {c : UInt8} {t : List UInt8} {ts : List (List UInt8)} {s : List UInt8} (h : Sp ((c :: t) :: ts) s) (hc : c ≠ 32) : ∃ s', dropB s = c :: (t ++ s') ∧ Sp ts s' := h.cons_drop hc
theorem Pz : ∀ x : X3, okW x → ONE x
 | .num n, hx, d, ts, s, hf, h0, h12, h => by
  have hx : 0 ≤ n ∧ n < 4294967296 := hx
  obtain ⟨u, rfl⟩ := Int.eq_ofNat_of_zero_le hx.1
  have h : Sp (Lib.decDigits u :: ts) s := h
  obtain ⟨d1, d2⟩ := @Qkm u
  match hd : Lib.decDigits u, d2 with
  | c :: t, _ =>
   rw [hd] at h d1
   simp only [List.all_cons, Bool.and_eq_true] at d1
   have hc32 : c ≠ 32 := fun e => by rw [e] at d1; cases d1.1
   obtain ⟨s', e1, e2⟩ := h.cons_drop hc32
   have ea := Qr2 (u := u) (by omega) (r := s') (e2.head hf)
   rw [hd] at ea
   refine ⟨s', e2, ?_⟩
   have := Qis (s := s) e1 (fun r e => by
     have : c = 40 := by simpa using congrArg List.head? e
     rw [this] at d1; cases d1.1) (fun r e => by
     have : c = 45 := by simpa using congrArg List.head? e
     rw [this] at d1; cases d1.1) (fun r e => by
     have : c = 46 := by simpa using congrArg List.head? e
     rw [this] at d1; cases d1.1) d
   rw [show c :: (t ++ s') = (c :: t) ++ s' from rfl, ea] at this
   exact this
 | .nm w, hx, d, ts, s, hf, h0, h12, h => by
  have hx : wordB (bl w) = true := hx
  have h : Sp (bl w :: ts) s := h
  obtain ⟨c, t, e0, hc, hd, ha⟩ := G3 hx
  rw [e0] at h
  have hc32 : c ≠ 32 := fun e => by rw [e] at hc; cases hc
  obtain ⟨s', e1, e2⟩ := h.cons_drop hc32
  have ea := QqZ hx (r := s') (e2.head hf)
  rw [e0] at ea
  refine ⟨s', e2, ?_⟩
  have := Qis (s := s) e1 (fun r e => by
    have : c = 40 := by simpa using congrArg List.head? e
    rw [this] at hc; cases hc) (fun r e => by
    have : c = 45 := by simpa using congrArg List.head? e
    rw [this] at hc; cases hc) (fun r e => by
    have : c = 46 := by simpa using congrArg List.head? e
    rw [this] at hc; cases hc) d
  rw [show c :: (t ++ s') = (c :: t) ++ s' from rfl, ea, ← e0, ba_bl] at this
  exact this
 | .here, hx, d, ts, s, hf, h0, h12, h => by
  obtain ⟨s', e1, e2⟩ := QgL (c := 46) (t := []) h (by decide)
  exact ⟨s', e2, QoS e1 d⟩
 | .neg x, hx, d, ts, s, hf, h0, h12, h => by
  have hx : okW x := hx
  have ih := Pz x hx
  have h : Sp ([45] :: (tkp x ++ ts)) s := h
  have hn : nsp (.neg x) = nsp x + 1 := rfl
  obtain ⟨s1, e1, e2⟩ := QgL (c := 45) (t := []) h (by decide)
  obtain ⟨s', e3, e4⟩ := ih (d + 1) ts s1 hf (by omega) (by omega) e2
  refine ⟨s', e3, ?_⟩
  have e1 : dropB s = 45 :: s1 := e1
  rw [Qgs e1]
  exact Qnk h0 (by omega) s1 (o := some (x, s')) e4
 | .bin k x y, hx, d, ts, s, hf, h0, h12, h => by
  obtain ⟨hk1, hk2, hx1, hy1⟩ := hx
  have hx1 : okW x := hx1
  have hy1 : okW y := hy1
  have ihx := Pz x hx1
  have ihy := Pz y hy1
  have hn : nsp (.bin k x y) = max (nsp x) (nsp y) + 1 := rfl
  have h : Sp (([40] :: (tk (.bin k x y) ++ [[41]])) ++ ts) s := h
  rw [List.cons_append, List.append_assoc] at h
  obtain ⟨s1, e1, e2⟩ := QgL (c := 40) (t := []) h (by decide)
  have e2 : Sp (tk (.bin k x y) ++ ([41] :: ts)) s1 := e2
  have hm1 : nsp x ≤ max (nsp x) (nsp y) := Nat.le_max_left _ _
  have hm2 : nsp y ≤ max (nsp x) (nsp y) := Nat.le_max_right _ _
  obtain ⟨s2, e3, e4⟩ := bin_at ⟨hk1, hk2⟩ ihx ihy (lvlOf k) 0 (by omega) (d + 1) _ s1 (Qor ts) (QpZ 0 ts) (by omega) (by omega) (by omega) e2
  obtain ⟨s3, e5, e6⟩ := QgL (c := 41) (t := []) e3 (by decide)
  have e1 : dropB s = 40 :: s1 := e1
  have e5 : dropB s2 = 41 :: s3 := e5
  refine ⟨s3, e6, ?_⟩
  rw [Qir e1]
  have := Qk6 h0 (by omega) s1 (o := some (.bin k x y, s2)) e4
  rw [show (some (X3.bin k x y, s2)).bind (fun xr => bif pre [41] (dropB xr.2) then some (xr.1, (dropB xr.2).drop 1) else none) = some (.bin k x y, s3) from by
   simp only [Option.bind_some, e5]
   rw [show pre [41] (41 :: s3) = true from by simp [pre]]; rfl] at this
  exact this
theorem Qq0 {x : X3} (hx : okW x) (hd : nsp x ≤ 12) {s : List UInt8} (h : Sp (tk x) s) : Wj (ba s) = some (x.t, true) := by
 have key : ∃ s', Sp [] s' ∧ Qp 0 (PS s 0 false) = some (x.t, PS s' 0 false) := by
  cases hb : isBin x with
  | false =>
   have h : Sp (tkp x ++ []) s := by rw [List.append_nil]; unfold tkp; rw [hb]; exact h
   exact QgK (Pz x hx) 5 0 rfl 0 [] s Qk7 (Qnm 0) (by omega) (by omega) h
  | true =>
   match x, hb with
   | .bin k y z, _ =>
    obtain ⟨hk1, hk2, hx1, hy1⟩ := hx
    have hn : nsp (.bin k y z) = max (nsp y) (nsp z) + 1 := rfl
    have hm1 : nsp y ≤ max (nsp y) (nsp z) := Nat.le_max_left _ _
    have hm2 : nsp z ≤ max (nsp y) (nsp z) := Nat.le_max_right _ _
    exact bin_at ⟨hk1, hk2⟩ (Pz y hx1) (Pz z hy1) (lvlOf k) 0 (by omega) 0 [] s Qk7 (Qnm 0) (by omega) (by omega) (by omega) (by rw [List.append_nil]; exact h)
 obtain ⟨s', e1, e2⟩ := key
 rw [Qit s (o := some (x, s')) e2]
 simp only [e1.nil_drop, if_true]
end Go.Ab
namespace Go.Ab
theorem Qq1 {s : ByteArray} (h : isNm s) : wordB (bl s) = true := by
 rcases h with rfl | rfl | rfl | rfl <;> decide
theorem ok_okW : ∀ {x : X3}, x.ok isNm → okW x
 | .num n, h => h
 | .nm s, h => Qq1 h
 | .here, h => trivial
 | .neg x, h => ok_okW (x := x) h
 | .bin k x y, h => ⟨h.1, h.2.1, ok_okW h.2.2.1, ok_okW h.2.2.2⟩
theorem nsp_le : ∀ x : X3, nsp x ≤ x.d
 | .num n => Nat.le_refl _
 | .nm s => Nat.le_refl _
 | .here => Nat.le_refl _
 | .neg x => by have := nsp_le x; simp only [nsp, X3.d]; omega
 | .bin k x y => by have := nsp_le x; have := nsp_le y; simp only [nsp, X3.d]; omega
def tx : X3 → List UInt8
 | .num n => Lib.decDigits n.toNat
 | .nm s => bl s
 | .here => [46]
 | .neg x => 45 :: (if isBin x then 40 :: (tx x ++ [41]) else tx x)
 | .bin k x y => (if isBin x then 40 :: (tx x ++ [41]) else tx x) ++ (32 :: (sg k ++ (32 :: (if isBin y then 40 :: (tx y ++ [41]) else tx y))))
def txp (x : X3) : List UInt8 := if isBin x then 40 :: (tx x ++ [41]) else tx x
theorem tx_neg (x : X3) : tx (.neg x) = 45 :: txp x := rfl
theorem tx_bin (k : Nat) (x y : X3) : tx (.bin k x y) = txp x ++ (32 :: (sg k ++ (32 :: txp y))) := rfl
theorem Sp.tok (t : List UInt8) {ts : List (List UInt8)} {s : List UInt8} (h : Sp ts s) : Sp (t :: ts) (t ++ s) := .cons [] t s ts (by simp) h
theorem Sp.btok (t : List UInt8) {ts : List (List UInt8)} {s : List UInt8} (h : Sp ts s) : Sp (t :: ts) (32 :: (t ++ s)) := .cons [32] t s ts (by simp) h
theorem Sp.blank {t : List UInt8} {ts : List (List UInt8)} {s : List UInt8} (h : Sp (t :: ts) s) : Sp (t :: ts) (32 :: s) := by
 cases h with
 | cons b t s' ts' hb h' => exact .cons (32 :: b) t s' ts (by intro c hc; rcases List.mem_cons.1 hc with h | h; exact h; exact hb c h) h'
theorem tk_ne : ∀ x : X3, ∃ t ts, tk x = t :: ts
 | .num n => ⟨_, _, rfl⟩
 | .nm s => ⟨_, _, rfl⟩
 | .here => ⟨_, _, rfl⟩
 | .neg x => ⟨_, _, rfl⟩
 | .bin k x y => by
  obtain ⟨t, ts, h⟩ := tk_ne x
  rw [tk_bin]; unfold tkp
  split
  ·exact ⟨_, _, rfl⟩
  ·rw [h]; exact ⟨_, _, rfl⟩
theorem tkp_ne (x : X3) : ∃ t ts, tkp x = t :: ts := by
 unfold tkp; split
 ·exact ⟨_, _, rfl⟩
 ·exact tk_ne x
theorem tx_sp : ∀ (x : X3) {ts : List (List UInt8)} {s : List UInt8}, Sp ts s → Sp (tk x ++ ts) (tx x ++ s) ∧ Sp (tkp x ++ ts) (txp x ++ s) := by
 have part : ∀ (x : X3), (∀ {ts : List (List UInt8)} {s : List UInt8}, Sp ts s → Sp (tk x ++ ts) (tx x ++ s)) → ∀ {ts : List (List UInt8)} {s : List UInt8}, Sp ts s → Sp (tkp x ++ ts) (txp x ++ s) := by
  intro x hx ts s h
  unfold tkp txp
  split
  ·have := (hx (h.tok [41])).tok [40]
   simpa using this
  ·exact hx h
 intro x
 induction x with
 | num n => intro ts s h; exact ⟨h.tok _, h.tok _⟩
 | nm w => intro ts s h; exact ⟨h.tok _, h.tok _⟩
 | here => intro ts s h; exact ⟨h.tok _, h.tok _⟩
 | neg x ih =>
  intro ts s h
  have := ((ih h).2).tok [45]
  exact ⟨this, this⟩
 | bin k x y ihx ihy =>
  have key : ∀ {ts : List (List UInt8)} {s : List UInt8}, Sp ts s → Sp (tk (.bin k x y) ++ ts) (tx (.bin k x y) ++ s) := by
   intro ts s h
   have h1 := (ihy h).2
   obtain ⟨t, ts', e⟩ := tkp_ne y
   rw [e] at h1
   have h2 := (ihx (h1.blank.btok (sg k))).2
   rw [tk_bin, tx_bin, e]
   simpa using h2
  intro ts s h
  exact ⟨key h, part _ key h⟩
theorem tx_tk (x : X3) : Sp (tk x) (tx x) := by
 have := (tx_sp x (.nil [] (by simp))).1
 simpa using this
theorem PB : ∀ (g u : Nat), u < 10 ^ g → 0 < g → (Lib.decDigits u).length ≤ g
 | 0, u, h, h0 => by omega
 | g + 1, u, h, h0 => by
  rw [Lib.decDigits]
  split
  ·simp
  ·rename_i hu
   cases g with
   | zero => omega
   | succ g =>
    have := PB (g + 1) (u / 10) (by rw [Nat.pow_succ] at h; omega) (by omega)
    simp; omega
theorem nm_len {s : ByteArray} (h : wordB (bl s) = true) : (bl s).length ≤ 12 := by
 match hb : bl s, h with
 | c :: t, h =>
  have hw : wordB (c :: t) = (decide (t.length < 12) && (!isD c && (decide ((c :: t).takeWhile isI = c :: t) && (decide (c ≠ 114) || (decide (t = []) || !decide (t.takeWhile isD = t)))))) := rfl
  rw [hw] at h
  simp only [Bool.and_eq_true, decide_eq_true_eq] at h
  simp only [List.length_cons]; omega
theorem tx_len : ∀ (x : X3), okW x → (tx x).length + 8 ≤ 20 * 2 ^ x.d ∧ (txp x).length + 6 ≤ 20 * 2 ^ x.d := by
 have part : ∀ x : X3, (tx x).length + 8 ≤ 20 * 2 ^ x.d → (txp x).length + 6 ≤ 20 * 2 ^ x.d := by
  intro x h
  unfold txp; split
  ·simp; omega
  ·omega
 intro x hx
 induction x with
 | num n =>
  have hx : 0 ≤ n ∧ n < 4294967296 := hx
  have := PB 10 n.toNat (by simp; omega) (by omega)
  have e : (tx (.num n)).length = (Lib.decDigits n.toNat).length := rfl
  have : (tx (.num n)).length + 8 ≤ 20 * 2 ^ (X3.num n).d := by rw [e]; simp only [X3.d, Nat.pow_zero]; omega
  exact ⟨this, part _ this⟩
 | nm s =>
  have := nm_len (s := s) hx
  have e : (tx (.nm s)).length = (bl s).length := rfl
  have : (tx (.nm s)).length + 8 ≤ 20 * 2 ^ (X3.nm s).d := by rw [e]; simp only [X3.d, Nat.pow_zero]; omega
  exact ⟨this, part _ this⟩
 | here => exact ⟨by decide, by decide⟩
 | neg x ih =>
  have ih := ih hx
  have : (tx (.neg x)).length + 8 ≤ 20 * 2 ^ (X3.neg x).d := by
   rw [tx_neg]; simp only [List.length_cons, X3.d, Nat.pow_succ]
   have : 1 ≤ 2 ^ x.d := Nat.one_le_two_pow
   omega
  exact ⟨this, part _ this⟩
 | bin k x y ihx ihy =>
  have h1 := ihx hx.2.2.1
  have h2 := ihy hx.2.2.2
  have hs : (sg k).length ≤ 2 := by unfold sg; split <;> simp
  have : (tx (.bin k x y)).length + 8 ≤ 20 * 2 ^ (X3.bin k x y).d := by
   rw [tx_bin]; simp only [List.length_append, List.length_cons, X3.d, Nat.pow_succ]
   have e1 : 2 ^ x.d ≤ 2 ^ max x.d y.d := Nat.pow_le_pow_right (by decide) (Nat.le_max_left _ _)
   have e2 : 2 ^ y.d ≤ 2 ^ max x.d y.d := Nat.pow_le_pow_right (by decide) (Nat.le_max_right _ _)
   omega
  exact ⟨this, part _ this⟩
theorem PC {n : Nat} (h : n ≤ 1000000000) : decide (((n : Nat) : Int) ≤ IntKind.i64.max) = true := decide_eq_true (by rw [show IntKind.i64.max = 9223372036854775807 from by decide]; omega)
theorem guardS (a b : List UInt8) (h : a.length + b.length ≤ 1000000000) : decide ((((ba a).size + (ba b).size : Nat) : Int) ≤ IntKind.i64.max) = true := by rw [Qt, Qt]; exact PC h
theorem Qag {k : Nat} (h : 5 ≤ k ∧ k ≤ 11) : YF (k : Int) = some (ba (sg k), (lvlOf k : Int)) := by
 rw [YF.eq]; unfold QfZ
 have h1 : k = 5 ∨ k = 6 ∨ k = 7 ∨ k = 8 ∨ k = 9 ∨ k = 10 ∨ k = 11 := by omega
 rcases h1 with rfl | rfl | rfl | rfl | rfl | rfl | rfl <;> rfl
theorem u8_in {n : Int} (h1 : 0 ≤ n) (h2 : n ≤ 255) : IntKind.u8.wrap n = n := by
 have e : n % 256 = n := Int.emod_eq_of_lt h1 (by omega)
 unfold IntKind.wrap
 simp [IntKind.bits, IntKind.signed, e]
theorem F7 {u : Nat} (h : u < 9223372036854775808) : Jn (u : Int) = some (ba (Lib.decDigits u)) := by
 induction u using Nat.strongRecOn with
 | _ u ih =>
  rw [Jn.eq]; unfold Zq
  have c1 : decide ((u : Int) < 0) = false := decide_eq_false (by omega)
  rw [c1, cond_false, Lib.decDigits]
  by_cases hu : u < 10
  ·have c2 : decide ((u : Int) ≥ 10) = false := decide_eq_false (by omega)
   rw [c2, cond_false, dif_pos hu, w64_in (by omega) (by omega), u8_in (by omega) (by omega)]
   simp only [Option.bind_some, listB, List.map_cons, List.map_nil]
   rw [show ((48 : Int) + (u : Int)).toNat = 48 + u from by omega]; rfl
  ·have c2 : decide ((u : Int) ≥ 10) = true := decide_eq_true (by omega)
   have e1 : w64 (Int.tdiv (u : Int) 10) = ((u / 10 : Nat) : Int) := by
    rw [show Int.tdiv (u : Int) 10 = ((u / 10 : Nat) : Int) from by rw [show (10 : Int) = ((10 : Nat) : Int) from rfl, ← Int.ofNat_tdiv]]
    exact w64_in (by omega) (by omega)
   have e2 : Int.tmod (u : Int) 10 = ((u % 10 : Nat) : Int) := by rw [show (10 : Int) = ((10 : Nat) : Int) from rfl, ← Int.ofNat_tmod]
   have hl1 := PB 19 (u / 10) (by simp; omega) (by omega)
   have hl2 := PB 19 (u % 10) (by simp; omega) (by omega)
   rw [c2, cond_true, dif_neg hu, e1, e2, ih (u / 10) (by omega) (by omega)]
   have e3 : Lib.decDigits (u % 10) = [UInt8.ofNat (48 + u % 10)] := by rw [Lib.decDigits, dif_pos (by omega)]
   simp only [Option.bind_some]
   rw [ih (u % 10) (by omega) (by omega)]
   simp only [Option.bind_some, Uv, Qt]
   rw [PC (by omega), cond_true, e3]
theorem Qp0 : ∀ (x : X3), okW x → x.d ≤ 12 → Uf x.t = some (ba (tx x)) ∧ UA x.t = some (ba (txp x)) := by
 have part : ∀ x : X3, okW x → x.d ≤ 12 → Uf x.t = some (ba (tx x)) → UA x.t = some (ba (txp x)) := by
  intro x hx hd h
  rw [UA.eq]; unfold YG
  have hl := (tx_len x hx).1
  have hp : 2 ^ x.d ≤ 2 ^ 12 := Nat.pow_le_pow_right (by decide) hd
  have hp2 : (2 : Nat) ^ 12 = 4096 := rfl
  simp only [h, Option.bind_some]
  cases x with
  | bin k y z =>
   have c1 : ((((X3.bin k y z).t.L.length : Nat) : Int) == 2) = true := rfl
   rw [c1, cond_true, show h_28 = ba [40] from rfl, show h_29 = ba [41] from rfl]
   simp only [Uv, Qt]
   rw [PC (by simp; omega), cond_true, PC (by simp; omega), cond_true]; rfl
  | _ => simp [X3.t, txp, isBin]
 intro x
 induction x with
 | num n =>
  intro hx hd
  have hx : 0 ≤ n ∧ n < 4294967296 := hx
  have : Uf (X3.num n).t = some (ba (tx (.num n))) := by
   obtain ⟨u, rfl⟩ := Int.eq_ofNat_of_zero_le hx.1
   have hL : (X3.num (u : Int)).t = ⟨1, (u : Int), s_, []⟩ := rfl
   have hT : tx (.num (u : Int)) = Lib.decDigits (u : Int).toNat := rfl
   have c3 : ((1 : Int) == 1) = true := rfl
   rw [Uf.eq]; unfold Zi
   rw [hL, hT]
   simp only [c3, cond_true, F7 (u := u) (by omega), Option.bind_some, Int.toNat_natCast]
  exact ⟨this, part _ hx hd this⟩
 | nm s =>
  intro hx hd
  have : Uf (X3.nm s).t = some (ba (tx (.nm s))) := by
   rw [Uf.eq]; unfold Zi
   show some s = some (ba (bl s)); rw [ba_bl]
  exact ⟨this, part _ hx hd this⟩
 | here =>
  intro hx hd
  have : Uf X3.here.t = some (ba (tx .here)) := by rw [Uf.eq]; rfl
  exact ⟨this, part _ hx hd this⟩
 | neg x ih =>
  intro hx hd
  have hx' : okW x := hx
  have hd' : x.d + 1 ≤ 12 := hd
  have ih := ih hx' (by omega)
  have hl := (tx_len x hx').2
  have hp : 2 ^ x.d ≤ 2 ^ 12 := Nat.pow_le_pow_right (by decide) (by omega)
  have hp2 : (2 : Nat) ^ 12 = 4096 := rfl
  have : Uf (X3.neg x).t = some (ba (tx (.neg x))) := by
   rw [Uf.eq]; unfold Zi
   have hL : (X3.neg x).t = ⟨4, 0, s_, [x.t]⟩ := rfl
   have g0 : ([x.t] : List Qa)[Int.toNat 0]? = some x.t := rfl
   have k1 : ((4 : Int) == 1) = false := rfl
   have k2 : ((4 : Int) == 2) = false := rfl
   have k3 : ((4 : Int) == 3) = false := rfl
   have k4 : ((4 : Int) == 4) = true := rfl
   rw [hL, k1, cond_false, k2, cond_false, k3, cond_false, k4, cond_true, g0]
   simp only [Option.bind_some, ih.2, show h_2d = ba [45] from rfl, Uv, Qt]
   rw [PC (by simp; omega)]; rfl
  exact ⟨this, part _ hx hd this⟩
 | bin k x y ihx ihy =>
  intro hx hd
  obtain ⟨hk1, hk2, hx', hy'⟩ := id hx
  have hd' : max x.d y.d + 1 ≤ 12 := hd
  have e1 : x.d ≤ max x.d y.d := Nat.le_max_left _ _
  have e2 : y.d ≤ max x.d y.d := Nat.le_max_right _ _
  have ihx := ihx hx' (by omega)
  have ihy := ihy hy' (by omega)
  have hl := (tx_len x hx').2
  have hl2 := (tx_len y hy').2
  have hp : 2 ^ x.d ≤ 2 ^ 12 := Nat.pow_le_pow_right (by decide) (by omega)
  have hp' : 2 ^ y.d ≤ 2 ^ 12 := Nat.pow_le_pow_right (by decide) (by omega)
  have hp2 : (2 : Nat) ^ 12 = 4096 := rfl
  have hs : (sg k).length ≤ 2 := by unfold sg; split <;> simp
  have : Uf (X3.bin k x y).t = some (ba (tx (.bin k x y))) := by
   rw [Uf.eq]; unfold Zi
   have hL : (X3.bin k x y).t = ⟨k, 0, s_, [x.t, y.t]⟩ := rfl
   have k1 : ((k : Int) == 1) = false := by rw [beq_eq_false_iff_ne]; omega
   have k2 : ((k : Int) == 2) = false := by rw [beq_eq_false_iff_ne]; omega
   have k3 : ((k : Int) == 3) = false := by rw [beq_eq_false_iff_ne]; omega
   have k4 : ((k : Int) == 4) = false := by rw [beq_eq_false_iff_ne]; omega
   have g0 : ([x.t, y.t] : List Qa)[Int.toNat 0]? = some x.t := rfl
   have g1 : ([x.t, y.t] : List Qa)[Int.toNat 1]? = some y.t := rfl
   rw [hL, k1, cond_false, k2, cond_false, k3, cond_false, k4, cond_false, Qag ⟨hk1, hk2⟩, g0, g1, Option.bind_some, Option.bind_some, ihx.2, Option.bind_some, show h_20 = ba [32] from rfl]
   rw [guardS (txp x) [32] (by simp; omega), cond_true, Uv (txp x) [32], guardS (txp x ++ [32]) (sg k) (by simp; omega), cond_true, Uv (txp x ++ [32]) (sg k)]
   rw [guardS (txp x ++ [32] ++ sg k) [32] (by simp; omega), cond_true, Option.bind_some, ihy.2, Option.bind_some, Uv (txp x ++ [32] ++ sg k) [32]]
   rw [guardS (txp x ++ [32] ++ sg k ++ [32]) (txp y) (by simp; omega), cond_true, Uv, tx_bin]
   simp only [List.append_assoc, List.singleton_append, List.cons_append, List.nil_append]
  exact ⟨this, part _ hx hd this⟩
end Go.Ab
namespace Go.Ab
theorem Qq2 : ∀ x : X3, J3 x.t x.t = some true := by
 have head : ∀ e : Qa, Jt ⟨0, e, e⟩ = some (.inr ()) → J3 e e = some true := by
  intro e h
  rw [J3.eq]; unfold GN
  have h1 : (e.Kind != e.Kind) = false := by simp
  have h2 : (e.N != e.N) = false := by simp
  have h3 : eqS e.Name e.Name = true := U2.2 rfl
  have h4 : ((((e.L.length) : Nat) : Int) != (((e.L.length) : Nat) : Int)) = false := by simp
  rw [h1, h2, h3, h4, h]; rfl
 intro x
 induction x with
 | num n => apply head; rw [Jt.eq]; rfl
 | nm s => apply head; rw [Jt.eq]; rfl
 | here => apply head; rw [Jt.eq]; rfl
 | neg x ih =>
  apply head
  have g0 : (X3.neg x).t.L[Int.toNat 0]? = some x.t := rfl
  have e1 : Jt ⟨1, (X3.neg x).t, (X3.neg x).t⟩ = some (.inr ()) := by rw [Jt.eq]; rfl
  rw [Jt.eq]; unfold Xz
  have c1 : decide ((0 : Int) < (((X3.neg x).t.L.length : Nat) : Int)) = true := rfl
  have c2 : decide ((0 : Int) ≤ 0) = true := rfl
  have c3 : w64 (0 + 1) = 1 := by decide
  rw [c1, cond_true, c2, cond_true, g0, Option.bind_some, Option.bind_some, ih, Option.bind_some, c3]
  exact e1
 | bin k x y ihx ihy =>
  apply head
  have g0 : (X3.bin k x y).t.L[Int.toNat 0]? = some x.t := rfl
  have g1 : (X3.bin k x y).t.L[Int.toNat 1]? = some y.t := rfl
  have e2 : Jt ⟨2, (X3.bin k x y).t, (X3.bin k x y).t⟩ = some (.inr ()) := by rw [Jt.eq]; rfl
  have e1 : Jt ⟨1, (X3.bin k x y).t, (X3.bin k x y).t⟩ = some (.inr ()) := by
   rw [Jt.eq]; unfold Xz
   have c1 : decide ((1 : Int) < (((X3.bin k x y).t.L.length : Nat) : Int)) = true := rfl
   have c2 : decide ((0 : Int) ≤ 1) = true := rfl
   have c3 : w64 (1 + 1) = 2 := by decide
   rw [c1, cond_true, c2, cond_true, g1, Option.bind_some, Option.bind_some, ihy, Option.bind_some, c3]
   exact e2
  rw [Jt.eq]; unfold Xz
  have c1 : decide ((0 : Int) < (((X3.bin k x y).t.L.length : Nat) : Int)) = true := rfl
  have c2 : decide ((0 : Int) ≤ 0) = true := rfl
  have c3 : w64 (0 + 1) = 1 := by decide
  rw [c1, cond_true, c2, cond_true, g0, Option.bind_some, Option.bind_some, ihx, Option.bind_some, c3]
  exact e1
end Go.Ab
namespace Go.Ab
def vl (base : Nat) : List UInt8 → Nat → Nat
 | [], n => n
 | b :: l, n => vl base l (n * base + dg b)
def hd (v : Nat) : UInt8 := if v < 10 then UInt8.ofNat (48 + v) else UInt8.ofNat (87 + v)
end Go.Ab
