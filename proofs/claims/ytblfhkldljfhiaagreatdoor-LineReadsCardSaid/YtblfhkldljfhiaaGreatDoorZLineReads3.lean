/- LineReads: part 3 of the proof that, whatever the input, the law returns true and the input reads as it did; its conditions are those of the given row. -/
import Derived.Test.YtblfhkldljfhiaaGreatDoorZLineReads2
import Derived.Shelf.Strings.SlTrimAscii
import Derived.Tactics
import Derived.WalkLawsBesides
import Derived.RowKit3
import Derived.Laws.BitsLemmas
import Derived.Test.YtblfhkldljfhiaaGreatDoorSh
import Derived.Test.YtblfhkldljfhiaaGreatDoorRows
import Derived.LaidMore
import Derived.MakeChecks
import Derived.Lib.AppendIntMem
import Derived.Shelf.Vars
import Derived.WalkKit
import Derived.Deep.LoopGhost
import Derived.Lib.Walk
import Derived.Lib.SliceRun
set_option linter.unusedVariables false
set_option linter.unusedSimpArgs false
namespace Go.Ab
open Go.Proofs
theorem Us.ok {a : QN} {r : Jj} (h : Us a = some r) : lw 1 237 (loopAt pp 237 2) (Vs a) = some (WD r) := by
 refine lpP h Qe6 fun a => ?_
 exact ⟨rfl, fun q0 => Qj 8 (q0) (⟨rfl, fun q1 => Qj 2 (q0) (⟨rfl, fun q2 => Qj 8 (q2) (⟨q1, ⟨q2, ⟨q0, ⟨q2, ⟨q0, ⟨rfl, fun q3 => Qj 11 (q3) (⟨q0, ⟨q3, ⟨q0, Qj 10 (rfl) (⟨q0, ⟨rfl, ⟨q0, ⟨rfl, rfl⟩⟩⟩⟩)⟩⟩⟩), fun q3 => noN_ok 8 (q3) (⟨q1, noN_ok 2 (q3) (⟨rfl, fun q4 => Qj 8 (q4) (⟨q1, ⟨q4, ⟨q3, ⟨q4, ⟨q0, ⟨q3, ⟨q0, ⟨rfl, fun q5 => Qj 9 (q5) (⟨q0, ⟨q5, ⟨q0, ⟨rfl, rfl⟩⟩⟩⟩), fun q5 => noN_ok 8 (q5) (⟨q1, ⟨q5, ⟨q0, ⟨q5, ⟨q0, ⟨rfl, fun q6 => rfl, fun q6 => rfl⟩⟩⟩⟩⟩⟩)⟩⟩⟩⟩⟩⟩⟩⟩), fun q4 => noN_ok 9 (q4) (⟨q3, ⟨q4, ⟨q0, ⟨q3, ⟨q0, noN_ok 9 (rfl) (⟨q1, ⟨rfl, ⟨q0, ⟨rfl, ⟨q0, ⟨rfl, fun q5 => rfl, fun q5 => rfl⟩⟩⟩⟩⟩⟩)⟩⟩⟩⟩⟩)⟩)⟩)⟩⟩⟩⟩⟩⟩), fun q2 => noN_ok 9 (q2) (⟨q0, ⟨q2, ⟨q0, noN_ok 9 (rfl) (⟨q1, noN_ok 2 (rfl) (⟨rfl, fun q3 => Qj 8 (q3) (⟨q1, ⟨q3, ⟨rfl, ⟨q3, ⟨q0, ⟨rfl, ⟨q0, ⟨rfl, fun q4 => Qj 9 (q4) (⟨q0, ⟨q4, ⟨q0, ⟨rfl, rfl⟩⟩⟩⟩), fun q4 => noN_ok 8 (q4) (⟨q1, ⟨q4, ⟨q0, ⟨q4, ⟨q0, ⟨rfl, fun q5 => rfl, fun q5 => rfl⟩⟩⟩⟩⟩⟩)⟩⟩⟩⟩⟩⟩⟩⟩), fun q3 => noN_ok 9 (q3) (⟨rfl, ⟨q3, ⟨q0, ⟨rfl, ⟨q0, noN_ok 9 (rfl) (⟨q1, ⟨rfl, ⟨q0, ⟨rfl, ⟨q0, ⟨rfl, fun q4 => rfl, fun q4 => rfl⟩⟩⟩⟩⟩⟩)⟩⟩⟩⟩⟩)⟩)⟩)⟩⟩⟩)⟩), fun q1 => trivial⟩), fun q0 => noN_ok 16 (q0) (⟨rfl, rfl⟩)⟩
def EX (C0 : Qif) (L1 : SB) (h0 : Qf) : Option (Qa × Qf) := ((L1 (QN.mk h0.P h0 (Qa.mk (0 : Int) (0 : Int) s_ ([] : List Qa)))).bind (fun (o1 : Jj) => (bif (decide (0 ≤ o1.x3 ∧ o1.x3 ≤ o1.h0.P ∧ o1.h0.P ≤ ((o1.h0.S.size : Nat) : Int))) then ((C0 (o1.h0.S.extract (Int.toNat o1.x3) (Int.toNat o1.h0.P))).bind fun r2 => (bif (!r2) then (some ((Qa.mk (2 : Int) (0 : Int) (o1.h0.S.extract (Int.toNat o1.x3) (Int.toNat o1.h0.P)) ([] : List Qa)), (Qf.mk o1.h0.S o1.h0.P o1.h0.Deep true))) else (some ((Qa.mk (2 : Int) (0 : Int) (o1.h0.S.extract (Int.toNat o1.x3) (Int.toNat o1.h0.P)) ([] : List Qa)), o1.h0)))) else none)))
noncomputable def VA : Gv := EX YD Us
theorem VA.eq (h0 : Qf) : VA h0 = EX YD Us h0 := rfl
noncomputable def Qir (h0 : Qf) : Tr (Qa × Qf) AH := (Qe5 (QN.mk h0.P h0 (Qa.mk i0 i0 s_ ([] : List Qa))) (fun o1 => (let u119 := (in2 o1.x3 o1.h0.P (zz o1.h0.S)); .as u119 (QkP (cu o1.h0.S o1.x3 o1.h0.P) fun r2 => (.as (!r2) (.yes u119 (rt QC ((Qa.mk (zi 2) i0 (cu o1.h0.S o1.x3 o1.h0.P) ([] : List Qa)), (Qf.mk o1.h0.S o1.h0.P o1.h0.Deep true)))) (.yes u119 (rt QC ((Qa.mk (zi 2) i0 (cu o1.h0.S o1.x3 o1.h0.P) ([] : List Qa)), o1.h0))))) .fail)))
theorem VA.ok {h0 : Qf} {r : (Qa × Qf)} (h : VA h0 = some r) : ww 237 [.ptr 0 0] [(0, .box [] (Je h0))] = some (QC r) := by
 refine fnP (Qir h0) ?_ h
 exact fun o1 h => ⟨Us.ok h, ⟨rfl, fun q0 => fun r2 h => ⟨YD.ok h, ⟨rfl, fun q1 => ⟨q0, rfl⟩, fun q1 => ⟨q0, rfl⟩⟩⟩, fun q0 => trivial⟩⟩
noncomputable abbrev Qbo {ρ R : Type} (h0 : Qf) (k : (Qa × Qf) → Tr ρ R) : Tr ρ R := .call (ww 237 [.ptr 0 0] [(0, .box [] (Je h0))]) (VA h0) QC k
def Zk (r : (ByteArray × Int)) : AV × Heap := (.tup [xs r.1, xi r.2], [])
abbrev Qbp := Int → Option (ByteArray × Int)
def Qga (a0 : Int) : Option (ByteArray × Int) := (bif (a0 == 5) then (some (h_2b, (3 : Int))) else (bif (a0 == 6) then (some (h_2d, (3 : Int))) else (bif (a0 == 7) then (some (h_2a, (4 : Int))) else (bif (a0 == 8) then (some (h_26, (1 : Int))) else (bif (a0 == 9) then (some (h_7c, (0 : Int))) else (bif (a0 == 10) then (some (QaJ, (2 : Int))) else (some (QaK, (2 : Int)))))))))
noncomputable def YI : Qbp := Qga
theorem YI.eq (a0 : Int) : YI a0 = Qga a0 := rfl
noncomputable def QqA (a0 : Int) : Tr (ByteArray × Int) AH := (.as (a0 == 5) (rt Zk (h_2b, (zi 3))) (.as (a0 == 6) (rt Zk (h_2d, (zi 3))) (.as (a0 == 7) (rt Zk (h_2a, (zi 4))) (.as (a0 == 8) (rt Zk (h_26, (zi 1))) (.as (a0 == 9) (rt Zk (h_7c, i0)) (.as (a0 == 10) (rt Zk (QaJ, (zi 2))) (rt Zk (QaK, (zi 2)))))))))
theorem YI.ok {a0 : Int} {r : (ByteArray × Int)} (h : YI a0 = some r) : ww 104 [xi a0] [] = some (Zk r) := by
 refine fnP (QqA a0) ?_ h
 exact ⟨rfl, fun q0 => rfl, fun q0 => ⟨rfl, fun q1 => rfl, fun q1 => ⟨rfl, fun q2 => rfl, fun q2 => ⟨rfl, fun q3 => rfl, fun q3 => ⟨rfl, fun q4 => rfl, fun q4 => ⟨rfl, fun q5 => rfl, fun q5 => rfl⟩⟩⟩⟩⟩⟩
noncomputable abbrev QkX {ρ R : Type} (a0 : Int) (k : (ByteArray × Int) → Tr ρ R) : Tr ρ R := .call (ww 104 [xi a0] []) (YI a0) Zk k
def Gc (r : (Int × Qf)) : AV × Heap := (xi r.1, [(0, .box [] (Je r.2))])
abbrev Gw := Int → Qf → Option (Int × Qf)
structure Jn where
 x1 : Int
 x5 : Int
 h0 : Qf
structure UM where
 x4 : Int
 h0 : Qf
def XQ (a : Jn) : St := { n := 33, nx := 1, env := [(0, .ptr 0 0), (1, xi a.x1), (5, xi a.x5)], heap := [(0, .box [] (Je a.h0))] }
def FZ (a : UM) : Ex × St := (.ret, { n := 33, nx := 1, env := [(4, xi a.x4)], heap := [(0, .box [] (Je a.h0))] })
def F0 (a : Qf) : Ex × St := (.exit 0, { n := 33, nx := 1, env := [], heap := [(0, .box [] (Je a))] })
def Gt (a : (UM ⊕ Qf)) : Ex × St := Sum.elim FZ F0 a
abbrev SC := Jn → Option (UM ⊕ Qf)
def XR (C0 : Qbp) (C1 : XK) (a : Jn) : Option (Jn ⊕ (UM ⊕ Qf)) := (bif (decide (a.x5 ≤ 11)) then ((C0 a.x5).bind fun r1 => (bif (r1.2 == a.x1) then (bif (!a.h0.Bad) then ((C1 r1.1 a.h0).bind fun r2 => (bif r2.1 then (some (.inr (.inl (UM.mk a.x5 r2.2)))) else (some (.inl (Jn.mk a.x1 (w64 (a.x5 + 1)) r2.2))))) else (some (.inl (Jn.mk a.x1 (w64 (a.x5 + 1)) a.h0)))) else (some (.inl (Jn.mk a.x1 (w64 (a.x5 + 1)) a.h0))))) else (some (.inr (.inr a.h0))))
noncomputable def Q7 : SC := loopW (XR YI Uj)
theorem Q7.eq (a : Jn) : Q7 a = (XR YI Uj a).bind (Sum.elim Q7 some) := Jf _ _
noncomputable abbrev Qe7 {ρ R : Type} (a : Jn) (k0 : UM → Tr ρ R) (k1 : Qf → Tr ρ R) : Tr ρ R := .loop2 (loopAt pp 207 2) (XQ a) (Q7 a) FZ F0 k0 k1
noncomputable def Qe8 (a : Jn) : Tr (Jn ⊕ (UM ⊕ Qf)) XS := (.as (decide (a.x5 ≤ 11)) (QkX a.x5 fun r1 => (let u121 := (r1.2 == a.x1); .as u121 (yesN 5 u121 (let u120 := (!a.h0.Bad); .as u120 (yesN 2 u120 (YH r1.1 a.h0 fun r2 => (.yes u120 (.as r2.1 (rx Gt (.inl (UM.mk a.x5 r2.2))) (lf XQ (Jn.mk a.x1 (w64 (a.x5 + 1)) r2.2)))))) (noN 3 u120 (.no false (lf XQ (Jn.mk a.x1 (w64 (a.x5 + 1)) a.h0)))))) (noN 5 u121 (noN 5 false (lf XQ (Jn.mk a.x1 (w64 (a.x5 + 1)) a.h0)))))) (rx Gt (.inr a.h0)))
theorem Q7.ok {a : Jn} {r : (UM ⊕ Qf)} (h : Q7 a = some r) : lw 1 207 (loopAt pp 207 2) (XQ a) = some (Gt r) := by
 refine lpP h Qe8 fun a => ?_
 exact ⟨rfl, fun q0 => fun r1 h => ⟨YI.ok h, ⟨rfl, fun q1 => Qj 5 (q1) (⟨rfl, fun q2 => Qj 2 (q2) (fun r2 h => ⟨Uj.ok h, ⟨q2, ⟨rfl, fun q3 => rfl, fun q3 => rfl⟩⟩⟩), fun q2 => noN_ok 3 (q2) (⟨rfl, rfl⟩)⟩), fun q1 => noN_ok 5 (q1) (noN_ok 5 (rfl) (rfl))⟩⟩, fun q0 => rfl⟩
def Gd (L0 : SC) (a1 : Int) (h0 : Qf) : Option (Int × Qf) := ((L0 (Jn.mk a1 (5 : Int) h0)).bind fun x => Sum.elim (fun (o1 : UM) => (some (o1.x4, o1.h0))) (fun (o2 : Qf) => (some ((0 : Int), o2))) x)
noncomputable def Vf : Gw := Gd Q7
theorem Vf.eq (a1 : Int) (h0 : Qf) : Vf a1 h0 = Gd Q7 a1 h0 := rfl
noncomputable def Qis (a1 : Int) (h0 : Qf) : Tr (Int × Qf) AH := (Qe7 (Jn.mk a1 (zi 5) h0) (fun o1 => (rt Gc (o1.x4, o1.h0))) (fun o2 => (rt Gc (i0, o2))))
theorem Vf.ok {a1 : Int} {h0 : Qf} {r : (Int × Qf)} (h : Vf a1 h0 = some r) : ww 207 [.ptr 0 0, xi a1] [(0, .box [] (Je h0))] = some (Gc r) := by
 refine fnP (Qis a1 h0) ?_ h
 exact ⟨fun o1 h => ⟨Q7.ok (r := (.inl _)) h, rfl⟩, fun o2 h => ⟨Q7.ok (r := (.inr _)) h, rfl⟩⟩
noncomputable abbrev Qit {ρ R : Type} (a1 : Int) (h0 : Qf) (k : (Int × Qf) → Tr ρ R) : Tr ρ R := .call (ww 207 [.ptr 0 0, xi a1] [(0, .box [] (Je h0))]) (Vf a1 h0) Gc k
abbrev X0 := Bool → Qf → Option (Qa × Qf)
abbrev Qiu (c : X0) : Prop := ∀ (a1 : Bool) (h0 : Qf) (r : (Qa × Qf)), c a1 h0 = some r → ww 234 [.ptr 0 0, xo a1] [(0, .box [] (Je h0))] = some (QC r)
abbrev Wy := Qf → Option (Qa × Qf)
abbrev Qki (c : Wy) : Prop := ∀ (h0 : Qf) (r : (Qa × Qf)), c h0 = some r → ww 206 [.ptr 0 0] [(0, .box [] (Je h0))] = some (QC r)
abbrev Jt := Int → Qf → Option (Qa × Qf)
abbrev Qdi (c : Jt) : Prop := ∀ (a1 : Int) (h0 : Qf) (r : (Qa × Qf)), c a1 h0 = some r → ww 159 [.ptr 0 0, xi a1] [(0, .box [] (Je h0))] = some (QC r)
noncomputable abbrev Qad {ρ R : Type} (c : X0) (a1 : Bool) (h0 : Qf) (k : (Qa × Qf) → Tr ρ R) : Tr ρ R := .call (ww 234 [.ptr 0 0, xo a1] [(0, .box [] (Je h0))]) (c a1 h0) QC k
noncomputable abbrev QbX {ρ R : Type} (c : Wy) (h0 : Qf) (k : (Qa × Qf) → Tr ρ R) : Tr ρ R := .call (ww 206 [.ptr 0 0] [(0, .box [] (Je h0))]) (c h0) QC k
noncomputable abbrev Gx {ρ R : Type} (c : Jt) (a1 : Int) (h0 : Qf) (k : (Qa × Qf) → Tr ρ R) : Tr ρ R := .call (ww 159 [.ptr 0 0, xi a1] [(0, .box [] (Je h0))]) (c a1 h0) QC k
def WB (C0 : Jt) (C1 : XK) (C2 : Wy) (a1 : Bool) (h0 : Qf) : Option (Qa × Qf) := (bif (decide (h0.Deep ≥ 12)) then (some ((Qa.mk (0 : Int) (0 : Int) s_ ([] : List Qa)), (Qf.mk h0.S h0.P h0.Deep true))) else (bif a1 then ((C0 (0 : Int) (Qf.mk h0.S h0.P (w64 (h0.Deep + 1)) h0.Bad)).bind fun r1 => ((C1 h_29 r1.2).bind fun r2 => (bif (!r2.1) then (some (r1.1, (Qf.mk r2.2.S r2.2.P (w64 (r2.2.Deep - 1)) true))) else (some (r1.1, (Qf.mk r2.2.S r2.2.P (w64 (r2.2.Deep - 1)) r2.2.Bad)))))) else ((C2 (Qf.mk h0.S h0.P (w64 (h0.Deep + 1)) h0.Bad)).bind fun r3 => (some ((Qa.mk (4 : Int) (0 : Int) s_ [r3.1]), (Qf.mk r3.2.S r3.2.P (w64 (r3.2.Deep - 1)) r3.2.Bad))))))
theorem Qae {C0 : Nat → Jt} {D0 : Jt} (H0 : Cv2 C0 D0) {C1 : Nat → XK} {D1 : XK} (H1 : Cv2 C1 D1) {C2 : Nat → Wy} {D2 : Wy} (H2 : Cv1 C2 D2) (a1 : Bool) (h0 : Qf) : Cv (fun k => WB (C0 k) (C1 k) (C2 k) a1 h0) (WB D0 D1 D2 a1 h0) := by
 unfold WB
 exact .cond cst (.cond (.bind (H0 _ _) fun r1 => .bind (H1 _ _) fun r2 => by exact .const _) (.bind (H2 _) fun r3 => by exact .const _))
noncomputable def Qg9 (C0 : Jt) (C1 : Wy) (a1 : Bool) (h0 : Qf) : Tr (Qa × Qf) AH := (.as (decide (h0.Deep ≥ 12)) (rt QC ((Qa.mk i0 i0 s_ ([] : List Qa)), (Qf.mk h0.S h0.P h0.Deep true))) (.as a1 (Gx C0 i0 (Qf.mk h0.S h0.P (w64 (h0.Deep + 1)) h0.Bad) fun r1 => (YH h_29 r1.2 fun r2 => (.as (!r2.1) (rt QC (r1.1, (Qf.mk r2.2.S r2.2.P (w64 (r2.2.Deep - 1)) true))) (rt QC (r1.1, (Qf.mk r2.2.S r2.2.P (w64 (r2.2.Deep - 1)) r2.2.Bad)))))) (QbX C1 (Qf.mk h0.S h0.P (w64 (h0.Deep + 1)) h0.Bad) fun r3 => (.rows [[xi r3.1.Kind, xi r3.1.N, xs r3.1.Name, .sl (QK r3.1.L)]] (QK [r3.1]) (rt QC ((Qa.mk (zi 4) i0 s_ [r3.1]), (Qf.mk r3.2.S r3.2.P (w64 (r3.2.Deep - 1)) r3.2.Bad)))))))
def WF (C0 : XK) (C1 : X0) (C2 : ZD) (C3 : Sz) (C4 : Gv) (h0 : Qf) : Option (Qa × Qf) := (bif h0.Bad then (some ((Qa.mk (0 : Int) (0 : Int) s_ ([] : List Qa)), h0)) else ((C0 h_28 h0).bind fun r1 => (bif r1.1 then ((C1 true r1.2).bind fun r2 => (some (r2.1, r2.2))) else ((C0 h_2d r1.2).bind fun r3 => (bif r3.1 then ((C1 false r3.2).bind fun r4 => (some (r4.1, r4.2))) else ((C0 h_2e r3.2).bind fun r5 => (bif r5.1 then (some ((Qa.mk (3 : Int) (0 : Int) s_ ([] : List Qa)), r5.2)) else ((C0 s_0x r5.2).bind fun r6 => (bif r6.1 then ((C2 (16 : Int) r6.2).bind fun r7 => (some (r7.1, r7.2))) else (bif (decide (r6.2.P < ((r6.2.S.size : Nat) : Int))) then (bif (decide (0 ≤ r6.2.P ∧ r6.2.P < ((r6.2.S.size : Nat) : Int))) then ((C3 ((r6.2.S.data.getD (Int.toNat r6.2.P) 0).toNat : Int) (10 : Int)).bind fun r8 => (bif (decide (r8 ≥ 0)) then ((C2 (10 : Int) r6.2).bind fun r9 => (some (r9.1, r9.2))) else ((C4 r6.2).bind fun r10 => (some (r10.1, r10.2))))) else none) else ((C4 r6.2).bind fun r11 => (some (r11.1, r11.2)))))))))))))
theorem QbY {C0 : Nat → XK} {D0 : XK} (H0 : Cv2 C0 D0) {C1 : Nat → X0} {D1 : X0} (H1 : Cv2 C1 D1) {C2 : Nat → ZD} {D2 : ZD} (H2 : Cv2 C2 D2) {C3 : Nat → Sz} {D3 : Sz} (H3 : Cv2 C3 D3) {C4 : Nat → Gv} {D4 : Gv} (H4 : Cv1 C4 D4) (h0 : Qf) : Cv (fun k => WF (C0 k) (C1 k) (C2 k) (C3 k) (C4 k) h0) (WF D0 D1 D2 D3 D4 h0) := by
 unfold WF
 exact .cond cst (.bind (H0 _ _) fun r1 => .cond (.bind (H1 _ _) fun r2 => by exact .const _) (.bind (H0 _ _) fun r3 => .cond (.bind (H1 _ _) fun r4 => by exact .const _) (.bind (H0 _ _) fun r5 => .cond cst (.bind (H0 _ _) fun r6 => .cond (.bind (H2 _ _) fun r7 => by exact .const _) (.cond (.cond (.bind (H3 _ _) fun r8 => .cond (.bind (H2 _ _) fun r9 => by exact .const _) (.bind (H4 _) fun r10 => by exact .const _)) cst) (.bind (H4 _) fun r11 => by exact .const _))))))
noncomputable def Qjs (C0 : X0) (h0 : Qf) : Tr (Qa × Qf) AH := (.as h0.Bad (rt QC ((Qa.mk i0 i0 s_ ([] : List Qa)), h0)) (YH h_28 h0 fun r1 => (.as r1.1 (Qad C0 true r1.2 fun r2 => (rt QC (r2.1, r2.2))) (YH h_2d r1.2 fun r3 => (.as r3.1 (Qad C0 false r3.2 fun r4 => (rt QC (r4.1, r4.2))) (YH h_2e r3.2 fun r5 => (.as r5.1 (rt QC ((Qa.mk (zi 3) i0 s_ ([] : List Qa)), r5.2)) (YH s_0x r5.2 fun r6 => (.as r6.1 (SA (zi 16) r6.2 fun r7 => (rt QC (r7.1, r7.2))) (let u122 := (decide (r6.2.P < (zz r6.2.S))); .as u122 (yesN 8 u122 (.as (in1 r6.2.P (zz r6.2.S)) (.yes u122 (QdT (gb r6.2.S r6.2.P) (zi 10) fun r8 => (yesN 2 u122 (.as (decide (r8 ≥ 0)) (SA (zi 10) r6.2 fun r9 => (rt QC (r9.1, r9.2))) (Qbo r6.2 fun r10 => (rt QC (r10.1, r10.2))))))) .fail)) (noN 11 u122 (.no false (Qbo r6.2 fun r11 => (rt QC (r11.1, r11.2)))))))))))))))
structure Jz where
 x1 : Int
 h0 : Qf
 h1 : Qa
 h2 : Qa
structure Vt where
 h0 : Qf
 h1 : Qa
def GS (a : Jz) : St := { n := 29, nx := 3, env := [(0, .ptr 0 0), (1, xi a.x1), (4, .ptr 1 0), (5, .ptr 2 0)], heap := [(0, .box [] (Je a.h0)), (1, .box [] (QY a.h1)), (2, .box [] (QY a.h2))] }
def GT (a : Vt) : Ex × St := (.ret, { n := 29, nx := 2, env := [(4, .ptr 1 0)], heap := [(0, .box [] (Je a.h0)), (1, .box [] (QY a.h1))] })
abbrev WC := Jz → Option Vt
def Wh (C0 : Gw) (C1 : Jt) (a : Jz) : Option (Jz ⊕ Vt) := ((C0 a.x1 a.h0).bind fun r1 => (bif (r1.1 == 0) then (some (.inr (Vt.mk r1.2 a.h2))) else ((C1 (w64 (a.x1 + 1)) r1.2).bind fun r2 => (some (.inl (Jz.mk a.x1 r2.2 a.h1 (Qa.mk r1.1 (0 : Int) s_ [a.h2, r2.1])))))))
theorem SD {C0 : Nat → Gw} {D0 : Gw} (H0 : Cv2 C0 D0) {C1 : Nat → Jt} {D1 : Jt} (H1 : Cv2 C1 D1) (a : Jz) : Cv (fun k => Wh (C0 k) (C1 k) a) (Wh D0 D1 a) := by
 unfold Wh
 exact .bind (H0 _ _) fun r1 => .cond cst (.bind (H1 _ _) fun r2 => by exact .const _)
noncomputable abbrev Qgb {ρ R : Type} (l : WC) (a : Jz) (k0 : Vt → Tr ρ R) : Tr ρ R := .loop (loopAt pp 159 4) (GS a) (l a) GT k0
noncomputable def Qgc (C0 : Jt) (a : Jz) : Tr (Jz ⊕ Vt) XS := (Qit a.x1 a.h0 fun r1 => (.as (r1.1 == 0) (rx GT (Vt.mk r1.2 a.h2)) (Gx C0 (w64 (a.x1 + 1)) r1.2 fun r2 => (.rows [[xi a.h2.Kind, xi a.h2.N, xs a.h2.Name, .sl (QK a.h2.L)], [xi r2.1.Kind, xi r2.1.N, xs r2.1.Name, .sl (QK r2.1.L)]] (QK [a.h2, r2.1]) (lf GS (Jz.mk a.x1 r2.2 a.h1 (Qa.mk r1.1 i0 s_ [a.h2, r2.1])))))))
noncomputable def Jk.s (k : Nat) (C0 : Jt) : WC := iter (Wh Vf C0) k
theorem Qe9 (k : Nat) {C0 : Jt} (i_r3_reader_two : Qdi C0) {a : Jz} {r : Vt} (h : Jk.s k C0 a = some r) : lw 1 159 (loopAt pp 159 4) (GS a) = some (GT r) := by
 refine lpP (itP h) (Qgc C0) fun a => ?_
 exact fun r1 h => ⟨Vf.ok h, ⟨rfl, fun q0 => rfl, fun q0 => fun r2 h => ⟨i_r3_reader_two _ _ _ h, ⟨(Xn [a.h2, r2.1]), rfl⟩⟩⟩⟩
theorem Jk.m {j k : Nat} (hj : j ≤ k) (C0 : Jt) (D0 : Jt) (H0 : Le2 C0 D0) (a : Jz) : Le (Jk.s j C0 a) (Jk.s k D0 a) := Le.iter (fun a => (SD ks2 (tw2 H0) a).1 0) hj a
noncomputable def Jk.w (C0 : Jt) : WC := loopW (Wh Vf C0)
theorem Jk.cv (C0 : Nat → Jt) (D0 : Jt) (H0 : Cv2 C0 D0) (a : Jz) : Cv (fun k => Jk.s k (C0 k) a) (Jk.w D0 a) := Cv.iter (fun a => SD ks2 H0 a) a
def XB (C0 : Wy) (C1 : Jt) (L2 : WC) (a1 : Int) (h0 : Qf) : Option (Qa × Qf) := (bif (decide (a1 > 4)) then ((C0 h0).bind fun r1 => (some (r1.1, r1.2))) else ((C1 (w64 (a1 + 1)) h0).bind fun r2 => ((L2 (Jz.mk a1 r2.2 (Qa.mk (0 : Int) (0 : Int) s_ ([] : List Qa)) r2.1)).bind (fun (o3 : Vt) => (some (o3.h1, o3.h0))))))
theorem QbZ {C0 : Nat → Wy} {D0 : Wy} (H0 : Cv1 C0 D0) {C1 : Nat → Jt} {D1 : Jt} (H1 : Cv2 C1 D1) {L2 : Nat → WC} {M2 : WC} (N2 : Cv1 L2 M2) (a1 : Int) (h0 : Qf) : Cv (fun k => XB (C0 k) (C1 k) (L2 k) a1 h0) (XB D0 D1 M2 a1 h0) := by
 unfold XB
 exact .cond (.bind (H0 _) fun r1 => by exact .const _) (.bind (H1 _ _) fun r2 => .bind (N2 _) (fun o3 => by exact .const _))
noncomputable def Qjt (C0 : Wy) (C1 : Jt) (L2 : WC) (a1 : Int) (h0 : Qf) : Tr (Qa × Qf) AH := (.as (decide (a1 > 4)) (QbX C0 h0 fun r1 => (rt QC (r1.1, r1.2))) (Gx C1 (w64 (a1 + 1)) h0 fun r2 => (Qgb L2 (Jz.mk a1 r2.2 (Qa.mk i0 i0 s_ ([] : List Qa)) r2.1) (fun o3 => (rt QC (o3.h1, o3.h0))))))
mutual
noncomputable def Q1.s : Nat → Bool → Qf → Option (Qa × Qf)
 | 0, _, _ => none
 | k + 1, a1, h0 => WB (fun a1 h0 => Qw.s k a1 h0) Uj (fun h0 => QV.s k h0) a1 h0
termination_by structural k => k
noncomputable def QV.s : Nat → Qf → Option (Qa × Qf)
 | 0, _ => none
 | k + 1, h0 => WF Uj (fun a1 h0 => Q1.s k a1 h0) J3 VQ VA h0
termination_by structural k => k
noncomputable def Qw.s : Nat → Int → Qf → Option (Qa × Qf)
 | 0, _, _ => none
 | k + 1, a1, h0 => XB (fun h0 => QV.s k h0) (fun a1 h0 => Qw.s k a1 h0) (Jk.s k (fun a1 h0 => Qw.s k a1 h0)) a1 h0
termination_by structural k => k
end
theorem Pk : ∀ (k : Nat), (Qiu (Q1.s k)) ∧ (Qki (QV.s k)) ∧ (Qdi (Qw.s k))
 | 0 => ⟨fun _ _ _ h => (nomatch h), fun _ _ h => (nomatch h), fun _ _ _ h => (nomatch h)⟩
 | k + 1 => by
  obtain ⟨i_r3_reader_inner, i_r3_reader_one, i_r3_reader_two⟩ := Pk k
  exact ⟨fun a1 h0 r h => by
    refine fnP (Qg9 (Qw.s k) (QV.s k) a1 h0) ?_ h
    exact ⟨rfl, fun q0 => rfl, fun q0 => ⟨rfl, fun q1 => fun r1 h => ⟨i_r3_reader_two _ _ _ h, fun r2 h => ⟨Uj.ok h, ⟨rfl, fun q2 => rfl, fun q2 => rfl⟩⟩⟩, fun q1 => fun r3 h => ⟨i_r3_reader_one _ _ h, ⟨(Xn [r3.1]), rfl⟩⟩⟩⟩,
   fun h0 r h => by
    refine fnP (Qjs (Q1.s k) h0) ?_ h
    exact ⟨rfl, fun q0 => rfl, fun q0 => fun r1 h => ⟨Uj.ok h, ⟨rfl, fun q1 => fun r2 h => ⟨i_r3_reader_inner _ _ _ h, rfl⟩, fun q1 => fun r3 h => ⟨Uj.ok h, ⟨rfl, fun q2 => fun r4 h => ⟨i_r3_reader_inner _ _ _ h, rfl⟩, fun q2 => fun r5 h => ⟨Uj.ok h, ⟨rfl, fun q3 => rfl, fun q3 => fun r6 h => ⟨Uj.ok h, ⟨rfl, fun q4 => fun r7 h => ⟨J3.ok h, rfl⟩, fun q4 => ⟨rfl, fun q5 => Qj 8 (q5) (⟨rfl, fun q6 => ⟨q5, fun r8 h => ⟨VQ.ok h, Qj 2 (q5) (⟨rfl, fun q7 => fun r9 h => ⟨J3.ok h, rfl⟩, fun q7 => fun r10 h => ⟨VA.ok h, rfl⟩⟩)⟩⟩, fun q6 => trivial⟩), fun q5 => noN_ok 11 (q5) (⟨rfl, fun r11 h => ⟨VA.ok h, rfl⟩⟩)⟩⟩⟩⟩⟩⟩⟩⟩⟩⟩,
   fun a1 h0 r h => by
    refine fnP (Qjt (QV.s k) (Qw.s k) (Jk.s k (Qw.s k)) a1 h0) ?_ h
    exact ⟨rfl, fun q0 => fun r1 h => ⟨i_r3_reader_one _ _ h, rfl⟩, fun q0 => fun r2 h => ⟨i_r3_reader_two _ _ _ h, fun o3 h => ⟨Qe9 k i_r3_reader_two h, rfl⟩⟩⟩⟩
theorem Yr : ∀ (k : Nat), (∀ (a1 : Bool) (h0 : Qf), Le (Q1.s k a1 h0) (Q1.s (k + 1) a1 h0)) ∧ (∀ (h0 : Qf), Le (QV.s k h0) (QV.s (k + 1) h0)) ∧ (∀ (a1 : Int) (h0 : Qf), Le (Qw.s k a1 h0) (Qw.s (k + 1) a1 h0))
 | 0 => ⟨fun _ _ _ h => (nomatch h), fun _ _ h => (nomatch h), fun _ _ _ h => (nomatch h)⟩
 | k + 1 => by
  obtain ⟨i_r3_reader_inner, i_r3_reader_one, i_r3_reader_two⟩ := Yr k
  exact ⟨fun a1 h0 => (Qae (tw2 i_r3_reader_two) ks2 (tw1 i_r3_reader_one) a1 h0).1 0,
   fun h0 => (QbY ks2 (tw2 i_r3_reader_inner) ks2 ks2 ks1 h0).1 0,
   fun a1 h0 => (QbZ (tw1 i_r3_reader_one) (tw2 i_r3_reader_two) (tw1 (Jk.m (Nat.le_succ k) (Qw.s k) (Qw.s (k + 1)) i_r3_reader_two)) a1 h0).1 0⟩
noncomputable def Q1 (a1 : Bool) (h0 : Qf) : Option (Qa × Qf) := lim fun k => Q1.s k a1 h0
theorem Q1.cv (a1 : Bool) (h0 : Qf) : Cv (fun k => Q1.s k a1 h0) (Q1 a1 h0) := .lim fun k => (Yr k).1 a1 h0
noncomputable def QV (h0 : Qf) : Option (Qa × Qf) := lim fun k => QV.s k h0
theorem QV.cv (h0 : Qf) : Cv (fun k => QV.s k h0) (QV h0) := .lim fun k => (Yr k).2.1 h0
noncomputable def Qw (a1 : Int) (h0 : Qf) : Option (Qa × Qf) := lim fun k => Qw.s k a1 h0
theorem Qw.cv (a1 : Int) (h0 : Qf) : Cv (fun k => Qw.s k a1 h0) (Qw a1 h0) := .lim fun k => (Yr k).2.2 a1 h0
theorem Qw.ok {a1 : Int} {h0 : Qf} {r : (Qa × Qf)} (h : Qw a1 h0 = some r) : ww 159 [.ptr 0 0, xi a1] [(0, .box [] (Je h0))] = some (QC r) := let ⟨k, e⟩ := ((Qw.cv a1 h0).2 r).1 h; (Pk k).2.2 a1 h0 _ e
noncomputable def Jk : WC := Jk.w Qw
theorem Jk.eq (a : Jz) : Jk a = (Wh Vf Qw a).bind (Sum.elim Jk some) := Jf _ _
theorem Q1.eq (a1 : Bool) (h0 : Qf) : Q1 a1 h0 = WB Qw Uj QV a1 h0 := Cv.uniq (Q1.cv a1 h0).shift (Qae Qw.cv ks2 QV.cv a1 h0)
theorem QV.eq (h0 : Qf) : QV h0 = WF Uj Q1 J3 VQ VA h0 := Cv.uniq (QV.cv h0).shift (QbY ks2 Q1.cv ks2 ks2 ks1 h0)
theorem Qw.eq (a1 : Int) (h0 : Qf) : Qw a1 h0 = XB QV Qw Jk a1 h0 := Cv.uniq (Qw.cv a1 h0).shift (QbZ QV.cv Qw.cv (Jk.cv (fun k => Qw.s k) Qw Qw.cv) a1 h0)
noncomputable abbrev Qju {ρ R : Type} (a1 : Int) (h0 : Qf) (k : (Qa × Qf) → Tr ρ R) : Tr ρ R := Gx Qw a1 h0 k
abbrev Qgd := ByteArray → Option (Qa × Bool)
def Qap (C0 : Jt) (C1 : FW) (a0 : ByteArray) : Option (Qa × Bool) := ((C0 (0 : Int) (Qf.mk a0 (0 : Int) (0 : Int) false)).bind fun r1 => ((C1 r1.2).bind fun r2 => (bif r2.Bad then (some ((Qa.mk (0 : Int) (0 : Int) s_ ([] : List Qa)), false)) else (bif (decide (r2.P < ((a0.size : Nat) : Int))) then (some ((Qa.mk (0 : Int) (0 : Int) s_ ([] : List Qa)), false)) else (some (r1.1, true))))))
noncomputable def WL : Qgd := Qap Qw UV
theorem WL.eq (a0 : ByteArray) : WL a0 = Qap Qw UV a0 := rfl
noncomputable def QpM (a0 : ByteArray) : Tr (Qa × Bool) AH := (Qju i0 (Qf.mk a0 i0 i0 false) fun r1 => (Qbn r1.2 fun r2 => (.as r2.Bad (yesN 7 r2.Bad (.yes true (rt Xa ((Qa.mk i0 i0 s_ ([] : List Qa)), false)))) (noN 7 r2.Bad (.as (decide (r2.P < (zz a0))) (rt Xa ((Qa.mk i0 i0 s_ ([] : List Qa)), false)) (rt Xa (r1.1, true)))))))
theorem WL.ok {a0 : ByteArray} {r : (Qa × Bool)} (h : WL a0 = some r) : ww 107 [xs a0] [] = some (Xa r) := by
 refine fnP (QpM a0) ?_ h
 exact fun r1 h => ⟨Qw.ok h, fun r2 h => ⟨UV.ok h, ⟨rfl, fun q0 => Qj 7 (q0) (⟨rfl, rfl⟩), fun q0 => noN_ok 7 (q0) (⟨rfl, fun q1 => rfl, fun q1 => rfl⟩)⟩⟩⟩
noncomputable abbrev QdU {ρ R : Type} (a0 : ByteArray) (k : (Qa × Bool) → Tr ρ R) : Tr ρ R := .call (ww 107 [xs a0] []) (WL a0) Xa k
def Xt (r : Qc) : AV × Heap := (.agg (WZ r), [])
abbrev QeC := QG → ByteArray → Int → Option Qc
def G8 (C0 : Qf8) (C1 : QhL) (C2 : G2) (C3 : QgN) (C4 : Qao) (C5 : XA) (C6 : Qgd) (a0 : QG) (a1 : ByteArray) (a2 : Int) : Option Qc := ((C0 a1).bind fun r1 => (bif r1 then ((C1 a1 a2).bind fun r2 => (some (Qc.mk r2 (Qa.mk (0 : Int) (0 : Int) s_ ([] : List Qa))))) else ((C2 a2 (5 : Int)).bind fun r3 => (bif (r3 == 0) then (bif (decide ((((a0.E.length) : Nat) : Int) > 0)) then ((C3 a0.E).bind fun r4 => (some (Qc.mk (-1 : Int) r4))) else (bif (decide (0 ≤ (0 : Int) ∧ (0 : Int) < ((a1.size : Nat) : Int))) then (bif (((a1.data.getD (Int.toNat 0) 0).toNat : Int) == 84) then ((C4).bind fun r5 => ((C2 a2 (4 : Int)).bind fun r6 => (bif (decide (0 ≤ r6)) then ((r5[(Int.toNat r6)]?).bind fun e7 => (some (Qc.mk (-1 : Int) (Qa.mk (2 : Int) (0 : Int) e7 ([] : List Qa))))) else none))) else ((C1 a1 a2).bind fun r8 => ((C5 r8).bind fun r9 => ((C6 r9).bind fun r10 => (some (Qc.mk (-1 : Int) r10.1)))))) else none)) else (bif (decide (0 ≤ (0 : Int) ∧ (0 : Int) < ((a1.size : Nat) : Int))) then (bif (((a1.data.getD (Int.toNat 0) 0).toNat : Int) == 84) then ((C4).bind fun r11 => ((C2 a2 (4 : Int)).bind fun r12 => (bif (decide (0 ≤ r12)) then ((r11[(Int.toNat r12)]?).bind fun e13 => (some (Qc.mk (-1 : Int) (Qa.mk (2 : Int) (0 : Int) e13 ([] : List Qa))))) else none))) else ((C1 a1 a2).bind fun r14 => ((C5 r14).bind fun r15 => ((C6 r15).bind fun r16 => (some (Qc.mk (-1 : Int) r16.1)))))) else none)))))
noncomputable def V4 : QeC := G8 WQ Wp QE XP Jy Jm WL
theorem V4.eq (a0 : QG) (a1 : ByteArray) (a2 : Int) : V4 a0 a1 a2 = G8 WQ Wp QE XP Jy Jm WL a0 a1 a2 := rfl
noncomputable def Qkj (a0 : QG) (a1 : ByteArray) (a2 : Int) : Tr Qc AH := (QlJ a1 fun r1 => (.as r1 (Qbm a1 a2 fun r2 => (rt Xt (Qc.mk r2 (Qa.mk i0 i0 s_ ([] : List Qa))))) (Q9 a2 (zi 5) fun r3 => (let u123 := (r3 == 0); .as u123 (yesN 2 u123 (.num ((UZ a0.E).length) (a0.E.length) (yesN 2 u123 (.as (decide ((((a0.E.length) : Nat) : Int) > 0)) (Qip a0.E fun r4 => (rt Xt (Qc.mk (-1 : Int) r4))) (.as (in1 i0 (zz a1)) (.as ((gb a1 i0) == 84) (Vy fun r5 => (Q9 a2 (zi 4) fun r6 => (.as (decide (0 ≤ r6)) (.row ((Qg r5)[(Int.toNat r6)]?) (r5[(Int.toNat r6)]?) QW fun (e7 : ByteArray) => (rt Xt (Qc.mk (-1 : Int) (Qa.mk (zi 2) i0 e7 ([] : List Qa))))) .fail))) (Qbm a1 a2 fun r8 => (P6 r8 fun r9 => (QdU r9 fun r10 => (rt Xt (Qc.mk (-1 : Int) r10.1)))))) .fail))))) (noN 4 u123 (.no false (.as (in1 i0 (zz a1)) (.as ((gb a1 i0) == 84) (Vy fun r11 => (Q9 a2 (zi 4) fun r12 => (.as (decide (0 ≤ r12)) (.row ((Qg r11)[(Int.toNat r12)]?) (r11[(Int.toNat r12)]?) QW fun (e13 : ByteArray) => (rt Xt (Qc.mk (-1 : Int) (Qa.mk (zi 2) i0 e13 ([] : List Qa))))) .fail))) (Qbm a1 a2 fun r14 => (P6 r14 fun r15 => (QdU r15 fun r16 => (rt Xt (Qc.mk (-1 : Int) r16.1)))))) .fail)))))))
theorem V4.ok {a0 : QG} {a1 : ByteArray} {a2 : Int} {r : Qc} (h : V4 a0 a1 a2 = some r) : ww 62 [.agg (Wi a0), xs a1, xi a2] [] = some (Xt r) := by
 refine fnP (Qkj a0 a1 a2) ?_ h
 exact fun r1 h => ⟨WQ.ok h, ⟨rfl, fun q0 => fun r2 h => ⟨Wp.ok h, rfl⟩, fun q0 => fun r3 h => ⟨QE.ok h, ⟨rfl, fun q1 => Qj 2 (q1) (⟨(Gz _), Qj 2 (q1) (⟨rfl, fun q2 => fun r4 h => ⟨XP.ok h, rfl⟩, fun q2 => ⟨rfl, fun q3 => ⟨rfl, fun q4 => fun r5 h => ⟨Jy.ok h, fun r6 h => ⟨QE.ok h, ⟨rfl, fun q5 => fun e7 h => ⟨QO h, rfl⟩, fun q5 => trivial⟩⟩⟩, fun q4 => fun r8 h => ⟨Wp.ok h, fun r9 h => ⟨Jm.ok h, fun r10 h => ⟨WL.ok h, rfl⟩⟩⟩⟩, fun q3 => trivial⟩⟩)⟩), fun q1 => noN_ok 4 (q1) (⟨rfl, ⟨rfl, fun q2 => ⟨rfl, fun q3 => fun r11 h => ⟨Jy.ok h, fun r12 h => ⟨QE.ok h, ⟨rfl, fun q4 => fun e13 h => ⟨QO h, rfl⟩, fun q4 => trivial⟩⟩⟩, fun q3 => fun r14 h => ⟨Wp.ok h, fun r15 h => ⟨Jm.ok h, fun r16 h => ⟨WL.ok h, rfl⟩⟩⟩⟩, fun q2 => trivial⟩⟩)⟩⟩⟩⟩
noncomputable abbrev Qkk {ρ R : Type} (a0 : QG) (a1 : ByteArray) (a2 : Int) (k : Qc → Tr ρ R) : Tr ρ R := .call (ww 62 [.agg (Wi a0), xs a1, xi a2] []) (V4 a0 a1 a2) Xt k
def Jq (r : Qb) : AV × Heap := (.agg (WR r), [])
abbrev QeD := QG → Int → Option Qb
structure QX where
 x6 : Int
 h0 : QG
 h1 : Qb
 h2 : Qb
structure Uw where
 h0 : Qb
 h1 : Qb
def WY (a : QX) : St := { n := 59, nx := 5, env := [(2, .ptr 0 0), (4, .ptr 1 0), (5, .ptr 2 0), (6, xi a.x6)], heap := [(0, .box [] (Wi a.h0)), (1, .box [0, 0, 0, 0, 0, 5] [xi a.h1.Line, xs a.h1.Label, xi a.h1.Kind, xi a.h1.Op, xs a.h1.Text, .arr 3]), (2, .box [0, 0, 0, 0, 0, 5] [xi a.h2.Line, xs a.h2.Label, xi a.h2.Kind, xi a.h2.Op, xs a.h2.Text, .arr 4]), (3, .arr true 5 (Qi a.h1.Args)), (4, .arr true 5 (Qi a.h2.Args))] }
def El (a : Uw) : Ex × St := (.exit 0, { n := 59, nx := 4, env := [(4, .ptr 0 0), (5, .ptr 1 0)], heap := [(0, .box [0, 0, 0, 0, 0, 5] [xi a.h0.Line, xs a.h0.Label, xi a.h0.Kind, xi a.h0.Op, xs a.h0.Text, .arr 2]), (1, .box [0, 0, 0, 0, 0, 5] [xi a.h1.Line, xs a.h1.Label, xi a.h1.Kind, xi a.h1.Op, xs a.h1.Text, .arr 3]), (2, .arr true 5 (Qi a.h0.Args)), (3, .arr true 5 (Qi a.h1.Args))] })
abbrev Qbq := QX → Option Uw
def Yj (C0 : G2) (C1 : PE) (C2 : QgN) (C3 : Qao) (a : QX) : Option (QX ⊕ Uw) := ((C0 a.h0.B (4 : Int)).bind fun r1 => (bif (decide (a.x6 ≤ r1)) then ((C1 a.h0 a.x6).bind fun r2 => ((C0 r2 (6 : Int)).bind fun r3 => (bif (r3 == 0) then (bif (decide ((((a.h0.E.length) : Nat) : Int) > 0)) then ((C2 a.h0.E).bind fun r4 => (bif (decide ((a.h2.Args.length + [(Qc.mk (-1 : Int) r4)].length) * 64 ≤ most)) then (some (.inl (QX.mk (w64 (a.x6 + 1)) a.h0 a.h1 (Qb.mk a.h2.Line a.h2.Label a.h2.Kind a.h2.Op a.h2.Text (a.h2.Args ++ [(Qc.mk (-1 : Int) r4)]))))) else none)) else ((C0 r2 (6 : Int)).bind fun r5 => (bif (r5 == 1) then ((C3).bind fun r6 => ((C0 (w64 (Int.tdiv r2 (6 : Int))) (4 : Int)).bind fun r7 => (bif (decide (0 ≤ r7)) then ((r6[(Int.toNat r7)]?).bind fun e8 => (bif (decide ((a.h2.Args.length + [(Qc.mk (-1 : Int) (Qa.mk (2 : Int) (0 : Int) e8 ([] : List Qa)))].length) * 64 ≤ most)) then (some (.inl (QX.mk (w64 (a.x6 + 1)) a.h0 a.h1 (Qb.mk a.h2.Line a.h2.Label a.h2.Kind a.h2.Op a.h2.Text (a.h2.Args ++ [(Qc.mk (-1 : Int) (Qa.mk (2 : Int) (0 : Int) e8 ([] : List Qa)))]))))) else none)) else none))) else ((C0 r2 (256 : Int)).bind fun r9 => (bif (decide ((a.h2.Args.length + [(Qc.mk (-1 : Int) (Qa.mk (1 : Int) r9 s_ ([] : List Qa)))].length) * 64 ≤ most)) then (some (.inl (QX.mk (w64 (a.x6 + 1)) a.h0 a.h1 (Qb.mk a.h2.Line a.h2.Label a.h2.Kind a.h2.Op a.h2.Text (a.h2.Args ++ [(Qc.mk (-1 : Int) (Qa.mk (1 : Int) r9 s_ ([] : List Qa)))]))))) else none))))) else ((C0 r2 (6 : Int)).bind fun r10 => (bif (r10 == 1) then ((C3).bind fun r11 => ((C0 (w64 (Int.tdiv r2 (6 : Int))) (4 : Int)).bind fun r12 => (bif (decide (0 ≤ r12)) then ((r11[(Int.toNat r12)]?).bind fun e13 => (bif (decide ((a.h2.Args.length + [(Qc.mk (-1 : Int) (Qa.mk (2 : Int) (0 : Int) e13 ([] : List Qa)))].length) * 64 ≤ most)) then (some (.inl (QX.mk (w64 (a.x6 + 1)) a.h0 a.h1 (Qb.mk a.h2.Line a.h2.Label a.h2.Kind a.h2.Op a.h2.Text (a.h2.Args ++ [(Qc.mk (-1 : Int) (Qa.mk (2 : Int) (0 : Int) e13 ([] : List Qa)))]))))) else none)) else none))) else ((C0 r2 (256 : Int)).bind fun r14 => (bif (decide ((a.h2.Args.length + [(Qc.mk (-1 : Int) (Qa.mk (1 : Int) r14 s_ ([] : List Qa)))].length) * 64 ≤ most)) then (some (.inl (QX.mk (w64 (a.x6 + 1)) a.h0 a.h1 (Qb.mk a.h2.Line a.h2.Label a.h2.Kind a.h2.Op a.h2.Text (a.h2.Args ++ [(Qc.mk (-1 : Int) (Qa.mk (1 : Int) r14 s_ ([] : List Qa)))]))))) else none))))))) else (some (.inr (Uw.mk a.h1 a.h2)))))
noncomputable def Vh : Qbq := loopW (Yj QE U0 XP Jy)
theorem Vh.eq (a : QX) : Vh a = (Yj QE U0 XP Jy a).bind (Sum.elim Vh some) := Jf _ _
noncomputable abbrev Qha {ρ R : Type} (a : QX) (k0 : Uw → Tr ρ R) : Tr ρ R := .loop (loopAt pp 65 3) (WY a) (Vh a) El k0
noncomputable def Qhb (a : QX) : Tr (QX ⊕ Uw) XS := (Q9 a.h0.B (zi 4) fun r1 => (.as (decide (a.x6 ≤ r1)) (QbU a.h0 a.x6 fun r2 => (Q9 r2 (zi 6) fun r3 => (let u124 := (r3 == 0); .as u124 (yesN 2 u124 (.num ((UZ a.h0.E).length) (a.h0.E.length) (yesN 2 u124 (.as (decide ((((a.h0.E.length) : Nat) : Int) > 0)) (Qip a.h0.E fun r4 => (.rows [[xi (-1 : Int), xi r4.Kind, xi r4.N, xs r4.Name, .sl (QK r4.L)]] (Qi [(Qc.mk (-1 : Int) r4)]) (.yes (decide ((Qi [(Qc.mk (-1 : Int) r4)]).all (fun r => r.length == 5) = true)) (.ask (decide (((Qi a.h2.Args).length + (Qi [(Qc.mk (-1 : Int) r4)]).length) * 64 ≤ most)) (decide ((a.h2.Args.length + [(Qc.mk (-1 : Int) r4)].length) * 64 ≤ most)) (.rows ((Qi a.h2.Args) ++ (Qi [(Qc.mk (-1 : Int) r4)])) (Qi (a.h2.Args ++ [(Qc.mk (-1 : Int) r4)])) (lf WY (QX.mk (w64 (a.x6 + 1)) a.h0 a.h1 (Qb.mk a.h2.Line a.h2.Label a.h2.Kind a.h2.Op a.h2.Text (a.h2.Args ++ [(Qc.mk (-1 : Int) r4)]))))) .fail)))) (Q9 r2 (zi 6) fun r5 => (.as (r5 == 1) (Vy fun r6 => (.yes (decide ((zi 6) ≠ 0)) (Q9 (w64 (Int.tdiv r2 (zi 6))) (zi 4) fun r7 => (.as (decide (0 ≤ r7)) (.row ((Qg r6)[(Int.toNat r7)]?) (r6[(Int.toNat r7)]?) QW fun (e8 : ByteArray) => (.rows [[xi (-1 : Int), xi (zi 2), xi i0, xs e8, .sl (QK ([] : List Qa))]] (Qi [(Qc.mk (-1 : Int) (Qa.mk (zi 2) i0 e8 ([] : List Qa)))]) (.yes (decide ((Qi [(Qc.mk (-1 : Int) (Qa.mk (zi 2) i0 e8 ([] : List Qa)))]).all (fun r => r.length == 5) = true)) (.ask (decide (((Qi a.h2.Args).length + (Qi [(Qc.mk (-1 : Int) (Qa.mk (zi 2) i0 e8 ([] : List Qa)))]).length) * 64 ≤ most)) (decide ((a.h2.Args.length + [(Qc.mk (-1 : Int) (Qa.mk (zi 2) i0 e8 ([] : List Qa)))].length) * 64 ≤ most)) (.rows ((Qi a.h2.Args) ++ (Qi [(Qc.mk (-1 : Int) (Qa.mk (zi 2) i0 e8 ([] : List Qa)))])) (Qi (a.h2.Args ++ [(Qc.mk (-1 : Int) (Qa.mk (zi 2) i0 e8 ([] : List Qa)))])) (lf WY (QX.mk (w64 (a.x6 + 1)) a.h0 a.h1 (Qb.mk a.h2.Line a.h2.Label a.h2.Kind a.h2.Op a.h2.Text (a.h2.Args ++ [(Qc.mk (-1 : Int) (Qa.mk (zi 2) i0 e8 ([] : List Qa)))]))))) .fail)))) .fail)))) (Q9 r2 (zi 256) fun r9 => (.rows [[xi (-1 : Int), xi (zi 1), xi r9, xs s_, .sl (QK ([] : List Qa))]] (Qi [(Qc.mk (-1 : Int) (Qa.mk (zi 1) r9 s_ ([] : List Qa)))]) (.yes (decide ((Qi [(Qc.mk (-1 : Int) (Qa.mk (zi 1) r9 s_ ([] : List Qa)))]).all (fun r => r.length == 5) = true)) (.ask (decide (((Qi a.h2.Args).length + (Qi [(Qc.mk (-1 : Int) (Qa.mk (zi 1) r9 s_ ([] : List Qa)))]).length) * 64 ≤ most)) (decide ((a.h2.Args.length + [(Qc.mk (-1 : Int) (Qa.mk (zi 1) r9 s_ ([] : List Qa)))].length) * 64 ≤ most)) (.rows ((Qi a.h2.Args) ++ (Qi [(Qc.mk (-1 : Int) (Qa.mk (zi 1) r9 s_ ([] : List Qa)))])) (Qi (a.h2.Args ++ [(Qc.mk (-1 : Int) (Qa.mk (zi 1) r9 s_ ([] : List Qa)))])) (lf WY (QX.mk (w64 (a.x6 + 1)) a.h0 a.h1 (Qb.mk a.h2.Line a.h2.Label a.h2.Kind a.h2.Op a.h2.Text (a.h2.Args ++ [(Qc.mk (-1 : Int) (Qa.mk (zi 1) r9 s_ ([] : List Qa)))]))))) .fail)))))))))) (noN 4 u124 (.no false (Q9 r2 (zi 6) fun r10 => (.as (r10 == 1) (Vy fun r11 => (.yes (decide ((zi 6) ≠ 0)) (Q9 (w64 (Int.tdiv r2 (zi 6))) (zi 4) fun r12 => (.as (decide (0 ≤ r12)) (.row ((Qg r11)[(Int.toNat r12)]?) (r11[(Int.toNat r12)]?) QW fun (e13 : ByteArray) => (.rows [[xi (-1 : Int), xi (zi 2), xi i0, xs e13, .sl (QK ([] : List Qa))]] (Qi [(Qc.mk (-1 : Int) (Qa.mk (zi 2) i0 e13 ([] : List Qa)))]) (.yes (decide ((Qi [(Qc.mk (-1 : Int) (Qa.mk (zi 2) i0 e13 ([] : List Qa)))]).all (fun r => r.length == 5) = true)) (.ask (decide (((Qi a.h2.Args).length + (Qi [(Qc.mk (-1 : Int) (Qa.mk (zi 2) i0 e13 ([] : List Qa)))]).length) * 64 ≤ most)) (decide ((a.h2.Args.length + [(Qc.mk (-1 : Int) (Qa.mk (zi 2) i0 e13 ([] : List Qa)))].length) * 64 ≤ most)) (.rows ((Qi a.h2.Args) ++ (Qi [(Qc.mk (-1 : Int) (Qa.mk (zi 2) i0 e13 ([] : List Qa)))])) (Qi (a.h2.Args ++ [(Qc.mk (-1 : Int) (Qa.mk (zi 2) i0 e13 ([] : List Qa)))])) (lf WY (QX.mk (w64 (a.x6 + 1)) a.h0 a.h1 (Qb.mk a.h2.Line a.h2.Label a.h2.Kind a.h2.Op a.h2.Text (a.h2.Args ++ [(Qc.mk (-1 : Int) (Qa.mk (zi 2) i0 e13 ([] : List Qa)))]))))) .fail)))) .fail)))) (Q9 r2 (zi 256) fun r14 => (.rows [[xi (-1 : Int), xi (zi 1), xi r14, xs s_, .sl (QK ([] : List Qa))]] (Qi [(Qc.mk (-1 : Int) (Qa.mk (zi 1) r14 s_ ([] : List Qa)))]) (.yes (decide ((Qi [(Qc.mk (-1 : Int) (Qa.mk (zi 1) r14 s_ ([] : List Qa)))]).all (fun r => r.length == 5) = true)) (.ask (decide (((Qi a.h2.Args).length + (Qi [(Qc.mk (-1 : Int) (Qa.mk (zi 1) r14 s_ ([] : List Qa)))]).length) * 64 ≤ most)) (decide ((a.h2.Args.length + [(Qc.mk (-1 : Int) (Qa.mk (zi 1) r14 s_ ([] : List Qa)))].length) * 64 ≤ most)) (.rows ((Qi a.h2.Args) ++ (Qi [(Qc.mk (-1 : Int) (Qa.mk (zi 1) r14 s_ ([] : List Qa)))])) (Qi (a.h2.Args ++ [(Qc.mk (-1 : Int) (Qa.mk (zi 1) r14 s_ ([] : List Qa)))])) (lf WY (QX.mk (w64 (a.x6 + 1)) a.h0 a.h1 (Qb.mk a.h2.Line a.h2.Label a.h2.Kind a.h2.Op a.h2.Text (a.h2.Args ++ [(Qc.mk (-1 : Int) (Qa.mk (zi 1) r14 s_ ([] : List Qa)))]))))) .fail))))))))))) (rx El (Uw.mk a.h1 a.h2))))
theorem Vh.ok {a : QX} {r : Uw} (h : Vh a = some r) : lw 0 65 (loopAt pp 65 3) (WY a) = some (El r) := by
 refine lpP h Qhb fun a => ?_
 exact fun r1 h => ⟨QE.ok h, ⟨rfl, fun q0 => fun r2 h => ⟨U0.ok h, fun r3 h => ⟨QE.ok h, ⟨rfl, fun q1 => Qj 2 (q1) (⟨(Gz _), Qj 2 (q1) (⟨rfl, fun q2 => fun r4 h => ⟨XP.ok h, ⟨(JC [(Qc.mk (-1 : Int) r4)]), ⟨(decide_eq_true (VX _)), ⟨(by rw [Jc, Jc]), fun q3 => ⟨(UY _ _), rfl⟩, fun q3 => trivial⟩⟩⟩⟩, fun q2 => fun r5 h => ⟨QE.ok h, ⟨rfl, fun q3 => fun r6 h => ⟨Jy.ok h, ⟨rfl, fun r7 h => ⟨QE.ok h, ⟨rfl, fun q4 => fun e8 h => ⟨QO h, ⟨(JC [(Qc.mk (-1 : Int) (Qa.mk (2 : Int) (0 : Int) e8 ([] : List Qa)))]), ⟨(decide_eq_true (VX _)), ⟨(by rw [Jc, Jc]), fun q5 => ⟨(UY _ _), rfl⟩, fun q5 => trivial⟩⟩⟩⟩, fun q4 => trivial⟩⟩⟩⟩, fun q3 => fun r9 h => ⟨QE.ok h, ⟨(JC [(Qc.mk (-1 : Int) (Qa.mk (1 : Int) r9 s_ ([] : List Qa)))]), ⟨(decide_eq_true (VX _)), ⟨(by rw [Jc, Jc]), fun q4 => ⟨(UY _ _), rfl⟩, fun q4 => trivial⟩⟩⟩⟩⟩⟩⟩)⟩), fun q1 => noN_ok 4 (q1) (⟨rfl, fun r10 h => ⟨QE.ok h, ⟨rfl, fun q2 => fun r11 h => ⟨Jy.ok h, ⟨rfl, fun r12 h => ⟨QE.ok h, ⟨rfl, fun q3 => fun e13 h => ⟨QO h, ⟨(JC [(Qc.mk (-1 : Int) (Qa.mk (2 : Int) (0 : Int) e13 ([] : List Qa)))]), ⟨(decide_eq_true (VX _)), ⟨(by rw [Jc, Jc]), fun q4 => ⟨(UY _ _), rfl⟩, fun q4 => trivial⟩⟩⟩⟩, fun q3 => trivial⟩⟩⟩⟩, fun q2 => fun r14 h => ⟨QE.ok h, ⟨(JC [(Qc.mk (-1 : Int) (Qa.mk (1 : Int) r14 s_ ([] : List Qa)))]), ⟨(decide_eq_true (VX _)), ⟨(by rw [Jc, Jc]), fun q3 => ⟨(UY _ _), rfl⟩, fun q3 => trivial⟩⟩⟩⟩⟩⟩⟩)⟩⟩⟩, fun q0 => rfl⟩⟩
def PG (L0 : Qbq) (a0 : QG) (a1 : Int) : Option Qb := ((L0 (QX.mk (0 : Int) a0 (Qb.mk (0 : Int) s_ (0 : Int) (0 : Int) s_ ([] : List Qc)) (Qb.mk (1 : Int) s_ a1 (0 : Int) s_ ([] : List Qc)))).bind (fun (o1 : Uw) => (some o1.h1)))
noncomputable def Xd : QeD := PG Vh
theorem Xd.eq (a0 : QG) (a1 : Int) : Xd a0 a1 = PG Vh a0 a1 := rfl
noncomputable def Qkl (a0 : QG) (a1 : Int) : Tr Qb AH := (Qha (QX.mk i0 a0 (Qb.mk i0 s_ i0 i0 s_ ([] : List Qc)) (Qb.mk (zi 1) s_ a1 i0 s_ ([] : List Qc))) (fun o1 => (rt Jq o1.h1)))
theorem Xd.ok {a0 : QG} {a1 : Int} {r : Qb} (h : Xd a0 a1 = some r) : ww 65 [.agg (Wi a0), xi a1] [] = some (Jq r) := by
 refine fnP (Qkl a0 a1) ?_ h
 exact fun o1 h => ⟨Vh.ok h, rfl⟩
noncomputable abbrev Qkm {ρ R : Type} (a0 : QG) (a1 : Int) (k : Qb → Tr ρ R) : Tr ρ R := .call (ww 65 [.agg (Wi a0), xi a1] []) (Xd a0 a1) Jq k
abbrev Qge := QG → Option Qb
structure Uk where
 x5 : (List ByteArray)
 x6 : Int
 h0 : QG
 h1 : Qb
 h2 : Qb
structure Vz where
 h0 : QG
 h1 : Qb
 h2 : Qb
def EY (a : Uk) : St := { n := 156, nx := 5, env := [(1, .ptr 0 0), (2, .ptr 1 0), (3, .ptr 2 0), (5, .sl (Qg a.x5)), (6, xi a.x6)], heap := [(0, .box [] (Wi a.h0)), (1, .box [0, 0, 0, 0, 0, 5] [xi a.h1.Line, xs a.h1.Label, xi a.h1.Kind, xi a.h1.Op, xs a.h1.Text, .arr 3]), (2, .box [0, 0, 0, 0, 0, 5] [xi a.h2.Line, xs a.h2.Label, xi a.h2.Kind, xi a.h2.Op, xs a.h2.Text, .arr 4]), (3, .arr true 5 (Qi a.h1.Args)), (4, .arr true 5 (Qi a.h2.Args))] }
def EZ (a : Vz) : Ex × St := (.exit 1, { n := 156, nx := 5, env := [(1, .ptr 0 0), (2, .ptr 1 0), (3, .ptr 2 0)], heap := [(0, .box [] (Wi a.h0)), (1, .box [0, 0, 0, 0, 0, 5] [xi a.h1.Line, xs a.h1.Label, xi a.h1.Kind, xi a.h1.Op, xs a.h1.Text, .arr 3]), (2, .box [0, 0, 0, 0, 0, 5] [xi a.h2.Line, xs a.h2.Label, xi a.h2.Kind, xi a.h2.Op, xs a.h2.Text, .arr 4]), (3, .arr true 5 (Qi a.h1.Args)), (4, .arr true 5 (Qi a.h2.Args))] })
abbrev Qb0 := Uk → Option Vz
def YT (C0 : PE) (C1 : QeC) (a : Uk) : Option (Uk ⊕ Vz) := (bif (decide (a.x6 < (((a.x5.length) : Nat) : Int))) then (bif (decide (0 ≤ a.x6)) then ((a.x5[(Int.toNat a.x6)]?).bind fun e1 => ((C0 a.h0 a.x6).bind fun r2 => ((C1 a.h0 e1 r2).bind fun r3 => (bif (decide ((a.h2.Args.length + [r3].length) * 64 ≤ most)) then (some (.inl (Uk.mk a.x5 (w64 (a.x6 + 1)) a.h0 a.h1 (Qb.mk a.h2.Line a.h2.Label a.h2.Kind a.h2.Op a.h2.Text (a.h2.Args ++ [r3]))))) else none)))) else none) else (some (.inr (Vz.mk a.h0 a.h1 a.h2))))
noncomputable def VB : Qb0 := loopW (YT U0 V4)
theorem VB.eq (a : Uk) : VB a = (YT U0 V4 a).bind (Sum.elim VB some) := Jf _ _
noncomputable abbrev Qiv {ρ R : Type} (a : Uk) (k0 : Vz → Tr ρ R) : Tr ρ R := .loop (loopAt pp 25 8) (EY a) (VB a) EZ k0
noncomputable def Qiw (a : Uk) : Tr (Uk ⊕ Vz) XS := (.num ((Qg a.x5).length) (a.x5.length) (.as (decide (a.x6 < (((a.x5.length) : Nat) : Int))) (.as (decide (0 ≤ a.x6)) (.row ((Qg a.x5)[(Int.toNat a.x6)]?) (a.x5[(Int.toNat a.x6)]?) QW fun (e1 : ByteArray) => (QbU a.h0 a.x6 fun r2 => (Qkk a.h0 e1 r2 fun r3 => (.rows [[xi r3.Reg, xi r3.E.Kind, xi r3.E.N, xs r3.E.Name, .sl (QK r3.E.L)]] (Qi [r3]) (.yes (decide ((Qi [r3]).all (fun r => r.length == 5) = true)) (.ask (decide (((Qi a.h2.Args).length + (Qi [r3]).length) * 64 ≤ most)) (decide ((a.h2.Args.length + [r3].length) * 64 ≤ most)) (.rows ((Qi a.h2.Args) ++ (Qi [r3])) (Qi (a.h2.Args ++ [r3])) (lf EY (Uk.mk a.x5 (w64 (a.x6 + 1)) a.h0 a.h1 (Qb.mk a.h2.Line a.h2.Label a.h2.Kind a.h2.Op a.h2.Text (a.h2.Args ++ [r3]))))) .fail)))))) .fail) (rx EZ (Vz.mk a.h0 a.h1 a.h2))))
theorem VB.ok {a : Uk} {r : Vz} (h : VB a = some r) : lw 0 25 (loopAt pp 25 8) (EY a) = some (EZ r) := by
 refine lpP h Qiw fun a => ?_
 exact ⟨(Qo _), ⟨rfl, fun q0 => ⟨rfl, fun q1 => fun e1 h => ⟨QO h, fun r2 h => ⟨U0.ok h, fun r3 h => ⟨V4.ok h, ⟨(JC [r3]), ⟨(decide_eq_true (VX _)), ⟨(by rw [Jc, Jc]), fun q2 => ⟨(UY _ _), rfl⟩, fun q2 => trivial⟩⟩⟩⟩⟩⟩, fun q1 => trivial⟩, fun q0 => rfl⟩⟩
def SU (C0 : G2) (C1 : Qf6) (C2 : Qf7) (C3 : Qao) (C4 : QeD) (C5 : QgN) (L6 : Qb0) (a0 : QG) : Option Qb := ((C0 a0.K (16 : Int)).bind fun r1 => (bif (decide (r1 < 6)) then ((C0 a0.A (66 : Int)).bind fun r2 => ((C1 r2).bind fun r3 => ((C2 r3).bind fun r4 => ((L6 (Uk.mk r4 (0 : Int) a0 (Qb.mk (0 : Int) s_ (0 : Int) (0 : Int) s_ ([] : List Qc)) (Qb.mk (1 : Int) s_ (1 : Int) r2 s_ ([] : List Qc)))).bind (fun (o5 : Vz) => (bif o5.h0.Label then ((C3).bind fun r6 => ((C0 o5.h0.B (4 : Int)).bind fun r7 => (bif (decide (0 ≤ r7)) then ((r6[(Int.toNat r7)]?).bind fun e8 => (some (Qb.mk o5.h2.Line e8 o5.h2.Kind o5.h2.Op o5.h2.Text o5.h2.Args))) else none))) else (bif (o5.h2.Kind == 0) then ((C3).bind fun r9 => ((C0 o5.h0.B (4 : Int)).bind fun r10 => (bif (decide (0 ≤ r10)) then ((r9[(Int.toNat r10)]?).bind fun e11 => (some (Qb.mk o5.h2.Line e11 o5.h2.Kind o5.h2.Op o5.h2.Text o5.h2.Args))) else none))) else (some o5.h2)))))))) else (bif (decide (r1 < 9)) then ((C0 a0.A (3 : Int)).bind fun r12 => (bif (r12 == 2) then ((C0 a0.B (2 : Int)).bind fun r13 => ((C0 (w64 (Int.tdiv a0.B (2 : Int))) (4 : Int)).bind fun r14 => ((C3).bind fun r15 => ((C0 a0.B (4 : Int)).bind fun r16 => (bif (decide (0 ≤ r16)) then ((r15[(Int.toNat r16)]?).bind fun e17 => (bif (decide (([(Qc.mk (-1 : Int) (Qa.mk (1 : Int) r13 s_ ([] : List Qa))), (Qc.mk (-1 : Int) (Qa.mk (1 : Int) r14 s_ ([] : List Qa)))].length + [(Qc.mk (-1 : Int) (Qa.mk (2 : Int) (0 : Int) e17 ([] : List Qa)))].length) * 64 ≤ most)) then (bif a0.Label then ((C3).bind fun r18 => ((C0 a0.B (4 : Int)).bind fun r19 => (bif (decide (0 ≤ r19)) then ((r18[(Int.toNat r19)]?).bind fun e20 => (some (Qb.mk (1 : Int) e20 (2 : Int) r12 s_ ([(Qc.mk (-1 : Int) (Qa.mk (1 : Int) r13 s_ ([] : List Qa))), (Qc.mk (-1 : Int) (Qa.mk (1 : Int) r14 s_ ([] : List Qa)))] ++ [(Qc.mk (-1 : Int) (Qa.mk (2 : Int) (0 : Int) e17 ([] : List Qa)))])))) else none))) else (some (Qb.mk (1 : Int) s_ (2 : Int) r12 s_ ([(Qc.mk (-1 : Int) (Qa.mk (1 : Int) r13 s_ ([] : List Qa))), (Qc.mk (-1 : Int) (Qa.mk (1 : Int) r14 s_ ([] : List Qa)))] ++ [(Qc.mk (-1 : Int) (Qa.mk (2 : Int) (0 : Int) e17 ([] : List Qa)))])))) else none)) else none))))) else ((C3).bind fun r21 => ((C0 a0.B (4 : Int)).bind fun r22 => (bif (decide (0 ≤ r22)) then ((r21[(Int.toNat r22)]?).bind fun e23 => (bif (decide ((([] : List Qc).length + [(Qc.mk (-1 : Int) (Qa.mk (2 : Int) (0 : Int) e23 ([] : List Qa)))].length) * 64 ≤ most)) then (bif a0.Label then ((C3).bind fun r24 => ((C0 a0.B (4 : Int)).bind fun r25 => (bif (decide (0 ≤ r25)) then ((r24[(Int.toNat r25)]?).bind fun e26 => (some (Qb.mk (1 : Int) e26 (2 : Int) r12 s_ (([] : List Qc) ++ [(Qc.mk (-1 : Int) (Qa.mk (2 : Int) (0 : Int) e23 ([] : List Qa)))])))) else none))) else (some (Qb.mk (1 : Int) s_ (2 : Int) r12 s_ (([] : List Qc) ++ [(Qc.mk (-1 : Int) (Qa.mk (2 : Int) (0 : Int) e23 ([] : List Qa)))])))) else none)) else none))))) else (bif (decide (r1 < 12)) then ((C4 a0 (w64 ((w64 ((3 : Int) + r1)) - 9))).bind fun r27 => (bif a0.Label then ((C3).bind fun r28 => ((C0 a0.B (4 : Int)).bind fun r29 => (bif (decide (0 ≤ r29)) then ((r28[(Int.toNat r29)]?).bind fun e30 => (some (Qb.mk r27.Line e30 r27.Kind r27.Op r27.Text r27.Args))) else none))) else (bif (r27.Kind == 0) then ((C3).bind fun r31 => ((C0 a0.B (4 : Int)).bind fun r32 => (bif (decide (0 ≤ r32)) then ((r31[(Int.toNat r32)]?).bind fun e33 => (some (Qb.mk r27.Line e33 r27.Kind r27.Op r27.Text r27.Args))) else none))) else (some r27)))) else (bif (r1 == 12) then ((C0 a0.A (5 : Int)).bind fun r34 => (bif (decide (0 ≤ r34 ∧ r34 < (([s_, s_hi, UO, WI, FC].length : Nat) : Int))) then (([s_, s_hi, UO, WI, FC][(Int.toNat r34)]?).bind fun e35 => (bif a0.Label then ((C3).bind fun r36 => ((C0 a0.B (4 : Int)).bind fun r37 => (bif (decide (0 ≤ r37)) then ((r36[(Int.toNat r37)]?).bind fun e38 => (some (Qb.mk (1 : Int) e38 (6 : Int) (0 : Int) e35 ([] : List Qc)))) else none))) else (some (Qb.mk (1 : Int) s_ (6 : Int) (0 : Int) e35 ([] : List Qc))))) else none)) else (bif (r1 == 13) then ((C0 a0.A (6 : Int)).bind fun r39 => (bif (decide (0 ≤ r39 ∧ r39 < (([(1 : Int), (2 : Int), (4 : Int), (8 : Int), (16 : Int), (3 : Int)].length : Nat) : Int))) then (([(1 : Int), (2 : Int), (4 : Int), (8 : Int), (16 : Int), (3 : Int)][(Int.toNat r39)]?).bind fun e40 => (bif a0.Label then ((C3).bind fun r41 => ((C0 a0.B (4 : Int)).bind fun r42 => (bif (decide (0 ≤ r42)) then ((r41[(Int.toNat r42)]?).bind fun e43 => (some (Qb.mk (1 : Int) e43 (7 : Int) (0 : Int) s_ [(Qc.mk (-1 : Int) (Qa.mk (1 : Int) e40 s_ ([] : List Qa)))]))) else none))) else (some (Qb.mk (1 : Int) s_ (7 : Int) (0 : Int) s_ [(Qc.mk (-1 : Int) (Qa.mk (1 : Int) e40 s_ ([] : List Qa)))])))) else none)) else (bif (r1 == 14) then ((C0 a0.A (8 : Int)).bind fun r44 => (bif (decide (0 ≤ r44 ∧ r44 < (([(0 : Int), (2 : Int), (100 : Int), (250 : Int), (252 : Int), (254 : Int), (256 : Int), (7 : Int)].length : Nat) : Int))) then (([(0 : Int), (2 : Int), (100 : Int), (250 : Int), (252 : Int), (254 : Int), (256 : Int), (7 : Int)][(Int.toNat r44)]?).bind fun e45 => (bif a0.Label then ((C3).bind fun r46 => ((C0 a0.B (4 : Int)).bind fun r47 => (bif (decide (0 ≤ r47)) then ((r46[(Int.toNat r47)]?).bind fun e48 => (some (Qb.mk (1 : Int) e48 (8 : Int) (0 : Int) s_ [(Qc.mk (-1 : Int) (Qa.mk (1 : Int) e45 s_ ([] : List Qa)))]))) else none))) else (some (Qb.mk (1 : Int) s_ (8 : Int) (0 : Int) s_ [(Qc.mk (-1 : Int) (Qa.mk (1 : Int) e45 s_ ([] : List Qa)))])))) else none)) else ((C0 a0.A (3 : Int)).bind fun r49 => (bif (decide (0 ≤ r49 ∧ r49 < (([s_k, GC, s_x].length : Nat) : Int))) then (([s_k, GC, s_x][(Int.toNat r49)]?).bind fun e50 => ((C5 a0.E).bind fun r51 => (bif a0.Label then ((C3).bind fun r52 => ((C0 a0.B (4 : Int)).bind fun r53 => (bif (decide (0 ≤ r53)) then ((r52[(Int.toNat r53)]?).bind fun e54 => (some (Qb.mk (1 : Int) e54 (9 : Int) (0 : Int) e50 [(Qc.mk (-1 : Int) r51)]))) else none))) else (some (Qb.mk (1 : Int) s_ (9 : Int) (0 : Int) e50 [(Qc.mk (-1 : Int) r51)]))))) else none)))))))))
noncomputable def Xe : Qge := SU QE Xm V2 Jy Xd XP VB
theorem Xe.eq (a0 : QG) : Xe a0 = SU QE Xm V2 Jy Xd XP VB a0 := rfl
noncomputable def QlN (a0 : QG) : Tr Qb AH := (Q9 a0.K (zi 16) fun r1 => (.as (decide (r1 < 6)) (Q9 a0.A (zi 66) fun r2 => (Qjm r2 fun r3 => (Qjn r3 fun r4 => (Qiv (Uk.mk r4 i0 a0 (Qb.mk i0 s_ i0 i0 s_ ([] : List Qc)) (Qb.mk (zi 1) s_ (zi 1) r2 s_ ([] : List Qc))) (fun o5 => (let u125 := o5.h0.Label; .as u125 (yesN 3 u125 (.yes true (Vy fun r6 => (Q9 o5.h0.B (zi 4) fun r7 => (.as (decide (0 ≤ r7)) (.row ((Qg r6)[(Int.toNat r7)]?) (r6[(Int.toNat r7)]?) QW fun (e8 : ByteArray) => (rt Jq (Qb.mk o5.h2.Line e8 o5.h2.Kind o5.h2.Op o5.h2.Text o5.h2.Args))) .fail))))) (noN 3 u125 (.as (o5.h2.Kind == 0) (Vy fun r9 => (Q9 o5.h0.B (zi 4) fun r10 => (.as (decide (0 ≤ r10)) (.row ((Qg r9)[(Int.toNat r10)]?) (r9[(Int.toNat r10)]?) QW fun (e11 : ByteArray) => (rt Jq (Qb.mk o5.h2.Line e11 o5.h2.Kind o5.h2.Op o5.h2.Text o5.h2.Args))) .fail))) (rt Jq o5.h2))))))))) (.as (decide (r1 < 9)) (Q9 a0.A (zi 3) fun r12 => (.as (r12 == 2) (Q9 a0.B (zi 2) fun r13 => (.yes (decide ((zi 2) ≠ 0)) (Q9 (w64 (Int.tdiv a0.B (zi 2))) (zi 4) fun r14 => (.rows [[xi (-1 : Int), xi (zi 1), xi r13, xs s_, .sl (QK ([] : List Qa))], [xi (-1 : Int), xi (zi 1), xi r14, xs s_, .sl (QK ([] : List Qa))]] (Qi [(Qc.mk (-1 : Int) (Qa.mk (zi 1) r13 s_ ([] : List Qa))), (Qc.mk (-1 : Int) (Qa.mk (zi 1) r14 s_ ([] : List Qa)))]) (Vy fun r15 => (Q9 a0.B (zi 4) fun r16 => (.as (decide (0 ≤ r16)) (.row ((Qg r15)[(Int.toNat r16)]?) (r15[(Int.toNat r16)]?) QW fun (e17 : ByteArray) => (.rows [[xi (-1 : Int), xi (zi 2), xi i0, xs e17, .sl (QK ([] : List Qa))]] (Qi [(Qc.mk (-1 : Int) (Qa.mk (zi 2) i0 e17 ([] : List Qa)))]) (.yes (decide ((Qi [(Qc.mk (-1 : Int) (Qa.mk (zi 2) i0 e17 ([] : List Qa)))]).all (fun r => r.length == 5) = true)) (.ask (decide (((Qi [(Qc.mk (-1 : Int) (Qa.mk (zi 1) r13 s_ ([] : List Qa))), (Qc.mk (-1 : Int) (Qa.mk (zi 1) r14 s_ ([] : List Qa)))]).length + (Qi [(Qc.mk (-1 : Int) (Qa.mk (zi 2) i0 e17 ([] : List Qa)))]).length) * 64 ≤ most)) (decide (([(Qc.mk (-1 : Int) (Qa.mk (zi 1) r13 s_ ([] : List Qa))), (Qc.mk (-1 : Int) (Qa.mk (zi 1) r14 s_ ([] : List Qa)))].length + [(Qc.mk (-1 : Int) (Qa.mk (zi 2) i0 e17 ([] : List Qa)))].length) * 64 ≤ most)) (.rows ((Qi [(Qc.mk (-1 : Int) (Qa.mk (zi 1) r13 s_ ([] : List Qa))), (Qc.mk (-1 : Int) (Qa.mk (zi 1) r14 s_ ([] : List Qa)))]) ++ (Qi [(Qc.mk (-1 : Int) (Qa.mk (zi 2) i0 e17 ([] : List Qa)))])) (Qi ([(Qc.mk (-1 : Int) (Qa.mk (zi 1) r13 s_ ([] : List Qa))), (Qc.mk (-1 : Int) (Qa.mk (zi 1) r14 s_ ([] : List Qa)))] ++ [(Qc.mk (-1 : Int) (Qa.mk (zi 2) i0 e17 ([] : List Qa)))])) (.as a0.Label (yesN 3 a0.Label (.yes true (Vy fun r18 => (Q9 a0.B (zi 4) fun r19 => (.as (decide (0 ≤ r19)) (.row ((Qg r18)[(Int.toNat r19)]?) (r18[(Int.toNat r19)]?) QW fun (e20 : ByteArray) => (rt Jq (Qb.mk (zi 1) e20 (zi 2) r12 s_ ([(Qc.mk (-1 : Int) (Qa.mk (zi 1) r13 s_ ([] : List Qa))), (Qc.mk (-1 : Int) (Qa.mk (zi 1) r14 s_ ([] : List Qa)))] ++ [(Qc.mk (-1 : Int) (Qa.mk (zi 2) i0 e17 ([] : List Qa)))])))) .fail))))) (noN 3 a0.Label (.no false (rt Jq (Qb.mk (zi 1) s_ (zi 2) r12 s_ ([(Qc.mk (-1 : Int) (Qa.mk (zi 1) r13 s_ ([] : List Qa))), (Qc.mk (-1 : Int) (Qa.mk (zi 1) r14 s_ ([] : List Qa)))] ++ [(Qc.mk (-1 : Int) (Qa.mk (zi 2) i0 e17 ([] : List Qa)))]))))))) .fail)))) .fail))))))) (Vy fun r21 => (Q9 a0.B (zi 4) fun r22 => (.as (decide (0 ≤ r22)) (.row ((Qg r21)[(Int.toNat r22)]?) (r21[(Int.toNat r22)]?) QW fun (e23 : ByteArray) => (.rows [[xi (-1 : Int), xi (zi 2), xi i0, xs e23, .sl (QK ([] : List Qa))]] (Qi [(Qc.mk (-1 : Int) (Qa.mk (zi 2) i0 e23 ([] : List Qa)))]) (.yes (decide ((Qi [(Qc.mk (-1 : Int) (Qa.mk (zi 2) i0 e23 ([] : List Qa)))]).all (fun r => r.length == 5) = true)) (.ask (decide (((Qi ([] : List Qc)).length + (Qi [(Qc.mk (-1 : Int) (Qa.mk (zi 2) i0 e23 ([] : List Qa)))]).length) * 64 ≤ most)) (decide ((([] : List Qc).length + [(Qc.mk (-1 : Int) (Qa.mk (zi 2) i0 e23 ([] : List Qa)))].length) * 64 ≤ most)) (.rows ((Qi ([] : List Qc)) ++ (Qi [(Qc.mk (-1 : Int) (Qa.mk (zi 2) i0 e23 ([] : List Qa)))])) (Qi (([] : List Qc) ++ [(Qc.mk (-1 : Int) (Qa.mk (zi 2) i0 e23 ([] : List Qa)))])) (.as a0.Label (yesN 3 a0.Label (.yes true (Vy fun r24 => (Q9 a0.B (zi 4) fun r25 => (.as (decide (0 ≤ r25)) (.row ((Qg r24)[(Int.toNat r25)]?) (r24[(Int.toNat r25)]?) QW fun (e26 : ByteArray) => (rt Jq (Qb.mk (zi 1) e26 (zi 2) r12 s_ (([] : List Qc) ++ [(Qc.mk (-1 : Int) (Qa.mk (zi 2) i0 e23 ([] : List Qa)))])))) .fail))))) (noN 3 a0.Label (.no false (rt Jq (Qb.mk (zi 1) s_ (zi 2) r12 s_ (([] : List Qc) ++ [(Qc.mk (-1 : Int) (Qa.mk (zi 2) i0 e23 ([] : List Qa)))]))))))) .fail)))) .fail))))) (.as (decide (r1 < 12)) (Qkm a0 (w64 ((w64 ((zi 3) + r1)) - 9)) fun r27 => (.as a0.Label (yesN 3 a0.Label (.yes true (Vy fun r28 => (Q9 a0.B (zi 4) fun r29 => (.as (decide (0 ≤ r29)) (.row ((Qg r28)[(Int.toNat r29)]?) (r28[(Int.toNat r29)]?) QW fun (e30 : ByteArray) => (rt Jq (Qb.mk r27.Line e30 r27.Kind r27.Op r27.Text r27.Args))) .fail))))) (noN 3 a0.Label (.as (r27.Kind == 0) (Vy fun r31 => (Q9 a0.B (zi 4) fun r32 => (.as (decide (0 ≤ r32)) (.row ((Qg r31)[(Int.toNat r32)]?) (r31[(Int.toNat r32)]?) QW fun (e33 : ByteArray) => (rt Jq (Qb.mk r27.Line e33 r27.Kind r27.Op r27.Text r27.Args))) .fail))) (rt Jq r27))))) (.as (r1 == 12) (.rows [[xs s_], [xs s_hi], [xs UO], [xs WI], [xs FC]] (Qg [s_, s_hi, UO, WI, FC]) (Q9 a0.A (zi 5) fun r34 => (.ask (in1 r34 (((Qg [s_, s_hi, UO, WI, FC]).length : Nat) : Int)) (in1 r34 (([s_, s_hi, UO, WI, FC].length : Nat) : Int)) (.row ((Qg [s_, s_hi, UO, WI, FC])[(Int.toNat r34)]?) ([s_, s_hi, UO, WI, FC][(Int.toNat r34)]?) QW fun (e35 : ByteArray) => (.as a0.Label (yesN 3 a0.Label (.yes true (Vy fun r36 => (Q9 a0.B (zi 4) fun r37 => (.as (decide (0 ≤ r37)) (.row ((Qg r36)[(Int.toNat r37)]?) (r36[(Int.toNat r37)]?) QW fun (e38 : ByteArray) => (rt Jq (Qb.mk (zi 1) e38 (zi 6) i0 e35 ([] : List Qc)))) .fail))))) (noN 3 a0.Label (.no false (rt Jq (Qb.mk (zi 1) s_ (zi 6) i0 e35 ([] : List Qc))))))) .fail))) (.as (r1 == 13) (.rows [[xi (zi 1)], [xi (zi 2)], [xi (zi 4)], [xi (zi 8)], [xi (zi 16)], [xi (zi 3)]] (Q8 [(zi 1), (zi 2), (zi 4), (zi 8), (zi 16), (zi 3)]) (Q9 a0.A (zi 6) fun r39 => (.ask (in1 r39 (((Q8 [(zi 1), (zi 2), (zi 4), (zi 8), (zi 16), (zi 3)]).length : Nat) : Int)) (in1 r39 (([(zi 1), (zi 2), (zi 4), (zi 8), (zi 16), (zi 3)].length : Nat) : Int)) (.row ((Q8 [(zi 1), (zi 2), (zi 4), (zi 8), (zi 16), (zi 3)])[(Int.toNat r39)]?) ([(zi 1), (zi 2), (zi 4), (zi 8), (zi 16), (zi 3)][(Int.toNat r39)]?) Xi fun (e40 : Int) => (.rows [[xi (-1 : Int), xi (zi 1), xi e40, xs s_, .sl (QK ([] : List Qa))]] (Qi [(Qc.mk (-1 : Int) (Qa.mk (zi 1) e40 s_ ([] : List Qa)))]) (.as a0.Label (yesN 3 a0.Label (.yes true (Vy fun r41 => (Q9 a0.B (zi 4) fun r42 => (.as (decide (0 ≤ r42)) (.row ((Qg r41)[(Int.toNat r42)]?) (r41[(Int.toNat r42)]?) QW fun (e43 : ByteArray) => (rt Jq (Qb.mk (zi 1) e43 (zi 7) i0 s_ [(Qc.mk (-1 : Int) (Qa.mk (zi 1) e40 s_ ([] : List Qa)))]))) .fail))))) (noN 3 a0.Label (.no false (rt Jq (Qb.mk (zi 1) s_ (zi 7) i0 s_ [(Qc.mk (-1 : Int) (Qa.mk (zi 1) e40 s_ ([] : List Qa)))]))))))) .fail))) (.as (r1 == 14) (.rows [[xi i0], [xi (zi 2)], [xi (zi 100)], [xi (zi 250)], [xi (zi 252)], [xi (zi 254)], [xi (zi 256)], [xi (zi 7)]] (Q8 [i0, (zi 2), (zi 100), (zi 250), (zi 252), (zi 254), (zi 256), (zi 7)]) (Q9 a0.A (zi 8) fun r44 => (.ask (in1 r44 (((Q8 [i0, (zi 2), (zi 100), (zi 250), (zi 252), (zi 254), (zi 256), (zi 7)]).length : Nat) : Int)) (in1 r44 (([i0, (zi 2), (zi 100), (zi 250), (zi 252), (zi 254), (zi 256), (zi 7)].length : Nat) : Int)) (.row ((Q8 [i0, (zi 2), (zi 100), (zi 250), (zi 252), (zi 254), (zi 256), (zi 7)])[(Int.toNat r44)]?) ([i0, (zi 2), (zi 100), (zi 250), (zi 252), (zi 254), (zi 256), (zi 7)][(Int.toNat r44)]?) Xi fun (e45 : Int) => (.rows [[xi (-1 : Int), xi (zi 1), xi e45, xs s_, .sl (QK ([] : List Qa))]] (Qi [(Qc.mk (-1 : Int) (Qa.mk (zi 1) e45 s_ ([] : List Qa)))]) (.as a0.Label (yesN 3 a0.Label (.yes true (Vy fun r46 => (Q9 a0.B (zi 4) fun r47 => (.as (decide (0 ≤ r47)) (.row ((Qg r46)[(Int.toNat r47)]?) (r46[(Int.toNat r47)]?) QW fun (e48 : ByteArray) => (rt Jq (Qb.mk (zi 1) e48 (zi 8) i0 s_ [(Qc.mk (-1 : Int) (Qa.mk (zi 1) e45 s_ ([] : List Qa)))]))) .fail))))) (noN 3 a0.Label (.no false (rt Jq (Qb.mk (zi 1) s_ (zi 8) i0 s_ [(Qc.mk (-1 : Int) (Qa.mk (zi 1) e45 s_ ([] : List Qa)))]))))))) .fail))) (.rows [[xs s_k], [xs GC], [xs s_x]] (Qg [s_k, GC, s_x]) (Q9 a0.A (zi 3) fun r49 => (.ask (in1 r49 (((Qg [s_k, GC, s_x]).length : Nat) : Int)) (in1 r49 (([s_k, GC, s_x].length : Nat) : Int)) (.row ((Qg [s_k, GC, s_x])[(Int.toNat r49)]?) ([s_k, GC, s_x][(Int.toNat r49)]?) QW fun (e50 : ByteArray) => (Qip a0.E fun r51 => (.rows [[xi (-1 : Int), xi r51.Kind, xi r51.N, xs r51.Name, .sl (QK r51.L)]] (Qi [(Qc.mk (-1 : Int) r51)]) (.as a0.Label (yesN 3 a0.Label (.yes true (Vy fun r52 => (Q9 a0.B (zi 4) fun r53 => (.as (decide (0 ≤ r53)) (.row ((Qg r52)[(Int.toNat r53)]?) (r52[(Int.toNat r53)]?) QW fun (e54 : ByteArray) => (rt Jq (Qb.mk (zi 1) e54 (zi 9) i0 e50 [(Qc.mk (-1 : Int) r51)]))) .fail))))) (noN 3 a0.Label (.no false (rt Jq (Qb.mk (zi 1) s_ (zi 9) i0 e50 [(Qc.mk (-1 : Int) r51)])))))))) .fail))))))))))
theorem Xe.ok {a0 : QG} {r : Qb} (h : Xe a0 = some r) : ww 25 [.agg (Wi a0)] [] = some (Jq r) := by
 refine fnP (QlN a0) ?_ h
 exact fun r1 h => ⟨QE.ok h, ⟨rfl, fun q0 => fun r2 h => ⟨QE.ok h, fun r3 h => ⟨Xm.ok h, fun r4 h => ⟨V2.ok h, fun o5 h => ⟨VB.ok h, ⟨rfl, fun q1 => Qj 3 (q1) (⟨rfl, fun r6 h => ⟨Jy.ok h, fun r7 h => ⟨QE.ok h, ⟨rfl, fun q2 => fun e8 h => ⟨QO h, rfl⟩, fun q2 => trivial⟩⟩⟩⟩), fun q1 => noN_ok 3 (q1) (⟨rfl, fun q2 => fun r9 h => ⟨Jy.ok h, fun r10 h => ⟨QE.ok h, ⟨rfl, fun q3 => fun e11 h => ⟨QO h, rfl⟩, fun q3 => trivial⟩⟩⟩, fun q2 => rfl⟩)⟩⟩⟩⟩⟩, fun q0 => ⟨rfl, fun q1 => fun r12 h => ⟨QE.ok h, ⟨rfl, fun q2 => fun r13 h => ⟨QE.ok h, ⟨rfl, fun r14 h => ⟨QE.ok h, ⟨(JC [(Qc.mk (-1 : Int) (Qa.mk (1 : Int) r13 s_ ([] : List Qa))), (Qc.mk (-1 : Int) (Qa.mk (1 : Int) r14 s_ ([] : List Qa)))]), fun r15 h => ⟨Jy.ok h, fun r16 h => ⟨QE.ok h, ⟨rfl, fun q3 => fun e17 h => ⟨QO h, ⟨(JC [(Qc.mk (-1 : Int) (Qa.mk (2 : Int) (0 : Int) e17 ([] : List Qa)))]), ⟨(decide_eq_true (VX _)), ⟨(by rw [Jc, Jc]), fun q4 => ⟨(UY _ _), ⟨rfl, fun q5 => Qj 3 (q5) (⟨rfl, fun r18 h => ⟨Jy.ok h, fun r19 h => ⟨QE.ok h, ⟨rfl, fun q6 => fun e20 h => ⟨QO h, rfl⟩, fun q6 => trivial⟩⟩⟩⟩), fun q5 => noN_ok 3 (q5) (⟨rfl, rfl⟩)⟩⟩, fun q4 => trivial⟩⟩⟩⟩, fun q3 => trivial⟩⟩⟩⟩⟩⟩⟩, fun q2 => fun r21 h => ⟨Jy.ok h, fun r22 h => ⟨QE.ok h, ⟨rfl, fun q3 => fun e23 h => ⟨QO h, ⟨(JC [(Qc.mk (-1 : Int) (Qa.mk (2 : Int) (0 : Int) e23 ([] : List Qa)))]), ⟨(decide_eq_true (VX _)), ⟨(by rw [Jc, Jc]), fun q4 => ⟨(UY _ _), ⟨rfl, fun q5 => Qj 3 (q5) (⟨rfl, fun r24 h => ⟨Jy.ok h, fun r25 h => ⟨QE.ok h, ⟨rfl, fun q6 => fun e26 h => ⟨QO h, rfl⟩, fun q6 => trivial⟩⟩⟩⟩), fun q5 => noN_ok 3 (q5) (⟨rfl, rfl⟩)⟩⟩, fun q4 => trivial⟩⟩⟩⟩, fun q3 => trivial⟩⟩⟩⟩⟩, fun q1 => ⟨rfl, fun q2 => fun r27 h => ⟨Xd.ok h, ⟨rfl, fun q3 => Qj 3 (q3) (⟨rfl, fun r28 h => ⟨Jy.ok h, fun r29 h => ⟨QE.ok h, ⟨rfl, fun q4 => fun e30 h => ⟨QO h, rfl⟩, fun q4 => trivial⟩⟩⟩⟩), fun q3 => noN_ok 3 (q3) (⟨rfl, fun q4 => fun r31 h => ⟨Jy.ok h, fun r32 h => ⟨QE.ok h, ⟨rfl, fun q5 => fun e33 h => ⟨QO h, rfl⟩, fun q5 => trivial⟩⟩⟩, fun q4 => rfl⟩)⟩⟩, fun q2 => ⟨rfl, fun q3 => ⟨(QP [s_, s_hi, UO, WI, FC]), fun r34 h => ⟨QE.ok h, ⟨(by rw [Qo]), fun q4 => fun e35 h => ⟨QO h, ⟨rfl, fun q5 => Qj 3 (q5) (⟨rfl, fun r36 h => ⟨Jy.ok h, fun r37 h => ⟨QE.ok h, ⟨rfl, fun q6 => fun e38 h => ⟨QO h, rfl⟩, fun q6 => trivial⟩⟩⟩⟩), fun q5 => noN_ok 3 (q5) (⟨rfl, rfl⟩)⟩⟩, fun q4 => trivial⟩⟩⟩, fun q3 => ⟨rfl, fun q4 => ⟨(Uf [(1 : Int), (2 : Int), (4 : Int), (8 : Int), (16 : Int), (3 : Int)]), fun r39 h => ⟨QE.ok h, ⟨(by rw [Va]), fun q5 => fun e40 h => ⟨Vu h, ⟨(JC [(Qc.mk (-1 : Int) (Qa.mk (1 : Int) e40 s_ ([] : List Qa)))]), ⟨rfl, fun q6 => Qj 3 (q6) (⟨rfl, fun r41 h => ⟨Jy.ok h, fun r42 h => ⟨QE.ok h, ⟨rfl, fun q7 => fun e43 h => ⟨QO h, rfl⟩, fun q7 => trivial⟩⟩⟩⟩), fun q6 => noN_ok 3 (q6) (⟨rfl, rfl⟩)⟩⟩⟩, fun q5 => trivial⟩⟩⟩, fun q4 => ⟨rfl, fun q5 => ⟨(Uf [(0 : Int), (2 : Int), (100 : Int), (250 : Int), (252 : Int), (254 : Int), (256 : Int), (7 : Int)]), fun r44 h => ⟨QE.ok h, ⟨(by rw [Va]), fun q6 => fun e45 h => ⟨Vu h, ⟨(JC [(Qc.mk (-1 : Int) (Qa.mk (1 : Int) e45 s_ ([] : List Qa)))]), ⟨rfl, fun q7 => Qj 3 (q7) (⟨rfl, fun r46 h => ⟨Jy.ok h, fun r47 h => ⟨QE.ok h, ⟨rfl, fun q8 => fun e48 h => ⟨QO h, rfl⟩, fun q8 => trivial⟩⟩⟩⟩), fun q7 => noN_ok 3 (q7) (⟨rfl, rfl⟩)⟩⟩⟩, fun q6 => trivial⟩⟩⟩, fun q5 => ⟨(QP [s_k, GC, s_x]), fun r49 h => ⟨QE.ok h, ⟨(by rw [Qo]), fun q6 => fun e50 h => ⟨QO h, fun r51 h => ⟨XP.ok h, ⟨(JC [(Qc.mk (-1 : Int) r51)]), ⟨rfl, fun q7 => Qj 3 (q7) (⟨rfl, fun r52 h => ⟨Jy.ok h, fun r53 h => ⟨QE.ok h, ⟨rfl, fun q8 => fun e54 h => ⟨QO h, rfl⟩, fun q8 => trivial⟩⟩⟩⟩), fun q7 => noN_ok 3 (q7) (⟨rfl, rfl⟩)⟩⟩⟩⟩, fun q6 => trivial⟩⟩⟩⟩⟩⟩⟩⟩⟩⟩
noncomputable abbrev QlO {ρ R : Type} (a0 : QG) (k : Qb → Tr ρ R) : Tr ρ R := .call (ww 25 [.agg (Wi a0)] []) (Xe a0) Jq k
abbrev QmV := Int → Option ByteArray
def Qgf (C0 : QdR) (a0 : Int) : Option ByteArray := ((C0 a0 h_20).bind fun r1 => (some r1.1.Name))
noncomputable def ZW : QmV := Qgf XG
theorem ZW.eq (a0 : Int) : ZW a0 = Qgf XG a0 := rfl
noncomputable def QqB (a0 : Int) : Tr ByteArray AH := (Qf5 a0 h_20 fun r1 => (rt Qk r1.1.Name))
theorem ZW.ok {a0 : Int} {r : ByteArray} (h : ZW a0 = some r) : ww 38 [xi a0] [] = some (Qk r) := by
 refine fnP (QqB a0) ?_ h
 exact fun r1 h => ⟨XG.ok h, rfl⟩
noncomputable abbrev QqC {ρ R : Type} (a0 : Int) (k : ByteArray → Tr ρ R) : Tr ρ R := .call (ww 38 [xi a0] []) (ZW a0) Qk k
abbrev QmW := Qb → Option ByteArray
def Qgg (C0 : QmV) (a0 : Qb) : Option ByteArray := (bif (a0.Kind == 1) then ((C0 a0.Op).bind fun r1 => (some r1)) else (bif (a0.Kind == 2) then (bif (decide (0 ≤ a0.Op ∧ a0.Op < (([s_b, s_bl, s_bc].length : Nat) : Int))) then (([s_b, s_bl, s_bc][(Int.toNat a0.Op)]?).bind fun e2 => (some e2)) else none) else (bif (a0.Kind == 3) then (some QD) else (bif (a0.Kind == 4) then (some Q5) else (bif (a0.Kind == 5) then (some Q6) else (bif (a0.Kind == 6) then (some JW) else (bif (a0.Kind == 7) then (some QZ) else (bif (a0.Kind == 8) then (some Q0) else (some Vr)))))))))
noncomputable def Y8 : QmW := Qgg ZW
theorem Y8.eq (a0 : Qb) : Y8 a0 = Qgg ZW a0 := rfl
noncomputable def QqD (a0 : Qb) : Tr ByteArray AH := (.as (a0.Kind == 1) (QqC a0.Op fun r1 => (rt Qk r1)) (.as (a0.Kind == 2) (.rows [[xs s_b], [xs s_bl], [xs s_bc]] (Qg [s_b, s_bl, s_bc]) (.ask (in1 a0.Op (((Qg [s_b, s_bl, s_bc]).length : Nat) : Int)) (in1 a0.Op (([s_b, s_bl, s_bc].length : Nat) : Int)) (.row ((Qg [s_b, s_bl, s_bc])[(Int.toNat a0.Op)]?) ([s_b, s_bl, s_bc][(Int.toNat a0.Op)]?) QW fun (e2 : ByteArray) => (rt Qk e2)) .fail)) (.as (a0.Kind == 3) (rt Qk QD) (.as (a0.Kind == 4) (rt Qk Q5) (.as (a0.Kind == 5) (rt Qk Q6) (.as (a0.Kind == 6) (rt Qk JW) (.as (a0.Kind == 7) (rt Qk QZ) (.as (a0.Kind == 8) (rt Qk Q0) (rt Qk Vr)))))))))
theorem Y8.ok {a0 : Qb} {r : ByteArray} (h : Y8 a0 = some r) : ww 59 [.agg (WR a0)] [] = some (Qk r) := by
 refine fnP (QqD a0) ?_ h
 exact ⟨rfl, fun q0 => fun r1 h => ⟨ZW.ok h, rfl⟩, fun q0 => ⟨rfl, fun q1 => ⟨(QP [s_b, s_bl, s_bc]), ⟨(by rw [Qo]), fun q2 => fun e2 h => ⟨QO h, rfl⟩, fun q2 => trivial⟩⟩, fun q1 => ⟨rfl, fun q2 => rfl, fun q2 => ⟨rfl, fun q3 => rfl, fun q3 => ⟨rfl, fun q4 => rfl, fun q4 => ⟨rfl, fun q5 => rfl, fun q5 => ⟨rfl, fun q6 => rfl, fun q6 => ⟨rfl, fun q7 => rfl, fun q7 => rfl⟩⟩⟩⟩⟩⟩⟩⟩
noncomputable abbrev Qgh {ρ R : Type} (a0 : Qb) (k : ByteArray → Tr ρ R) : Tr ρ R := .call (ww 59 [.agg (WR a0)] []) (Y8 a0) Qk k
abbrev Y9 := Qa → Option ByteArray
abbrev QlP (c : Y9) : Prop := ∀ (a0 : Qa) (r : ByteArray), c a0 = some r → ww 103 [.agg (QY a0)] [] = some (Qk r)
abbrev E1 := Qa → Option ByteArray
abbrev QrH (c : E1) : Prop := ∀ (a0 : Qa) (r : ByteArray), c a0 = some r → ww 60 [.agg (QY a0)] [] = some (Qk r)
noncomputable abbrev PH {ρ R : Type} (c : Y9) (a0 : Qa) (k : ByteArray → Tr ρ R) : Tr ρ R := .call (ww 103 [.agg (QY a0)] []) (c a0) Qk k
noncomputable abbrev Qgi {ρ R : Type} (c : E1) (a0 : Qa) (k : ByteArray → Tr ρ R) : Tr ρ R := .call (ww 60 [.agg (QY a0)] []) (c a0) Qk k
def YJ (C0 : E1) (a0 : Qa) : Option ByteArray := (bif ((((a0.L.length) : Nat) : Int) == 2) then ((C0 a0).bind fun r1 => (bif (decide (((h_28.size + r1.size : Nat) : Int) ≤ IntKind.i64.max)) then (bif (decide ((((h_28 ++ r1).size + h_29.size : Nat) : Int) ≤ IntKind.i64.max)) then (some ((h_28 ++ r1) ++ h_29)) else none) else none)) else ((C0 a0).bind fun r2 => (some r2)))
theorem Qdj {C0 : Nat → E1} {D0 : E1} (H0 : Cv1 C0 D0) (a0 : Qa) : Cv (fun k => YJ (C0 k) a0) (YJ D0 a0) := by
 unfold YJ
 exact .cond (.bind (H0 _) fun r1 => by exact .const _) (.bind (H0 _) fun r2 => by exact .const _)
noncomputable def Qkn (C0 : E1) (a0 : Qa) : Tr ByteArray AH := (.num ((QK a0.L).length) (a0.L.length) (.as ((((a0.L.length) : Nat) : Int) == 2) (Qgi C0 a0 fun r1 => (.as (decide (((h_28.size + r1.size : Nat) : Int) ≤ IntKind.i64.max)) (.as (decide ((((h_28 ++ r1).size + h_29.size : Nat) : Int) ≤ IntKind.i64.max)) (rt Qk ((h_28 ++ r1) ++ h_29)) .fail) .fail)) (Qgi C0 a0 fun r2 => (rt Qk r2))))
def Zl (C0 : XA) (C1 : Y9) (C2 : Qbp) (a0 : Qa) : Option ByteArray := (bif (a0.Kind == 1) then ((C0 a0.N).bind fun r1 => (some r1)) else (bif (a0.Kind == 2) then (some a0.Name) else (bif (a0.Kind == 3) then (some h_2e) else (bif (a0.Kind == 4) then ((a0.L[(Int.toNat 0)]?).bind fun e2 => ((C1 e2).bind fun r3 => (bif (decide (((h_2d.size + r3.size : Nat) : Int) ≤ IntKind.i64.max)) then (some (h_2d ++ r3)) else none))) else ((C2 a0.Kind).bind fun r4 => ((a0.L[(Int.toNat 0)]?).bind fun e5 => ((C1 e5).bind fun r6 => (bif (decide (((r6.size + h_20.size : Nat) : Int) ≤ IntKind.i64.max)) then (bif (decide ((((r6 ++ h_20).size + r4.1.size : Nat) : Int) ≤ IntKind.i64.max)) then (bif (decide (((((r6 ++ h_20) ++ r4.1).size + h_20.size : Nat) : Int) ≤ IntKind.i64.max)) then ((a0.L[(Int.toNat 1)]?).bind fun e7 => ((C1 e7).bind fun r8 => (bif (decide ((((((r6 ++ h_20) ++ r4.1) ++ h_20).size + r8.size : Nat) : Int) ≤ IntKind.i64.max)) then (some ((((r6 ++ h_20) ++ r4.1) ++ h_20) ++ r8)) else none))) else none) else none) else none))))))))
theorem QkY {C0 : Nat → XA} {D0 : XA} (H0 : Cv1 C0 D0) {C1 : Nat → Y9} {D1 : Y9} (H1 : Cv1 C1 D1) {C2 : Nat → Qbp} {D2 : Qbp} (H2 : Cv1 C2 D2) (a0 : Qa) : Cv (fun k => Zl (C0 k) (C1 k) (C2 k) a0) (Zl D0 D1 D2 a0) := by
 unfold Zl
 exact .cond (.bind (H0 _) fun r1 => by exact .const _) (.cond cst (.cond cst (.cond (.bind (.const _) fun e2 => .bind (H1 _) fun r3 => by exact .const _) (.bind (H2 _) fun r4 => .bind (.const _) fun e5 => .bind (H1 _) fun r6 => .cond (.cond (.cond (.bind (.const _) fun e7 => .bind (H1 _) fun r8 => by exact .const _) cst) cst) cst))))
noncomputable def QqE (C0 : Y9) (a0 : Qa) : Tr ByteArray AH := (.as (a0.Kind == 1) (P6 a0.N fun r1 => (rt Qk r1)) (.as (a0.Kind == 2) (rt Qk a0.Name) (.as (a0.Kind == 3) (rt Qk h_2e) (.as (a0.Kind == 4) (.yes (decide (0 ≤ i0)) (.row ((QK a0.L)[(Int.toNat 0)]?) (a0.L[(Int.toNat 0)]?) QY fun (e2 : Qa) => (PH C0 e2 fun r3 => (.as (decide (((h_2d.size + r3.size : Nat) : Int) ≤ IntKind.i64.max)) (rt Qk (h_2d ++ r3)) .fail)))) (QkX a0.Kind fun r4 => (.yes (decide (0 ≤ i0)) (.row ((QK a0.L)[(Int.toNat 0)]?) (a0.L[(Int.toNat 0)]?) QY fun (e5 : Qa) => (PH C0 e5 fun r6 => (.as (decide (((r6.size + h_20.size : Nat) : Int) ≤ IntKind.i64.max)) (.as (decide ((((r6 ++ h_20).size + r4.1.size : Nat) : Int) ≤ IntKind.i64.max)) (.as (decide (((((r6 ++ h_20) ++ r4.1).size + h_20.size : Nat) : Int) ≤ IntKind.i64.max)) (.yes (decide (0 ≤ (zi 1))) (.row ((QK a0.L)[(Int.toNat 1)]?) (a0.L[(Int.toNat 1)]?) QY fun (e7 : Qa) => (PH C0 e7 fun r8 => (.as (decide ((((((r6 ++ h_20) ++ r4.1) ++ h_20).size + r8.size : Nat) : Int) ≤ IntKind.i64.max)) (rt Qk ((((r6 ++ h_20) ++ r4.1) ++ h_20) ++ r8)) .fail)))) .fail) .fail) .fail)))))))))
mutual
noncomputable def UB.s : Nat → Qa → Option ByteArray
 | 0, _ => none
 | k + 1, a0 => YJ (fun a0 => Ue.s k a0) a0
termination_by structural k => k
noncomputable def Ue.s : Nat → Qa → Option ByteArray
 | 0, _ => none
 | k + 1, a0 => Zl Jm (fun a0 => UB.s k a0) YI a0
termination_by structural k => k
end
theorem Qbr : ∀ (k : Nat), (QlP (UB.s k)) ∧ (QrH (Ue.s k))
 | 0 => ⟨fun _ _ h => (nomatch h), fun _ _ h => (nomatch h)⟩
 | k + 1 => by
  obtain ⟨i_r3_bracketed, i_r3_Text⟩ := Qbr k
  exact ⟨fun a0 r h => by
    refine fnP (Qkn (Ue.s k) a0) ?_ h
    exact ⟨(GZ _), ⟨rfl, fun q0 => fun r1 h => ⟨i_r3_Text _ _ h, ⟨rfl, fun q1 => ⟨rfl, fun q2 => rfl, fun q2 => trivial⟩, fun q1 => trivial⟩⟩, fun q0 => fun r2 h => ⟨i_r3_Text _ _ h, rfl⟩⟩⟩,
   fun a0 r h => by
    refine fnP (QqE (UB.s k) a0) ?_ h
    exact ⟨rfl, fun q0 => fun r1 h => ⟨Jm.ok h, rfl⟩, fun q0 => ⟨rfl, fun q1 => rfl, fun q1 => ⟨rfl, fun q2 => rfl, fun q2 => ⟨rfl, fun q3 => ⟨rfl, fun e2 h => ⟨ZH h, fun r3 h => ⟨i_r3_bracketed _ _ h, ⟨rfl, fun q4 => rfl, fun q4 => trivial⟩⟩⟩⟩, fun q3 => fun r4 h => ⟨YI.ok h, ⟨rfl, fun e5 h => ⟨ZH h, fun r6 h => ⟨i_r3_bracketed _ _ h, ⟨rfl, fun q4 => ⟨rfl, fun q5 => ⟨rfl, fun q6 => ⟨rfl, fun e7 h => ⟨ZH h, fun r8 h => ⟨i_r3_bracketed _ _ h, ⟨rfl, fun q7 => rfl, fun q7 => trivial⟩⟩⟩⟩, fun q6 => trivial⟩, fun q5 => trivial⟩, fun q4 => trivial⟩⟩⟩⟩⟩⟩⟩⟩⟩⟩
theorem Em : ∀ (k : Nat), (∀ (a0 : Qa), Le (UB.s k a0) (UB.s (k + 1) a0)) ∧ (∀ (a0 : Qa), Le (Ue.s k a0) (Ue.s (k + 1) a0))
 | 0 => ⟨fun _ _ h => (nomatch h), fun _ _ h => (nomatch h)⟩
 | k + 1 => by
  obtain ⟨i_r3_bracketed, i_r3_Text⟩ := Em k
  exact ⟨fun a0 => (Qdj (tw1 i_r3_Text) a0).1 0,
   fun a0 => (QkY ks1 (tw1 i_r3_bracketed) ks1 a0).1 0⟩
noncomputable def UB (a0 : Qa) : Option ByteArray := lim fun k => UB.s k a0
theorem UB.cv (a0 : Qa) : Cv (fun k => UB.s k a0) (UB a0) := .lim fun k => (Em k).1 a0
noncomputable def Ue (a0 : Qa) : Option ByteArray := lim fun k => Ue.s k a0
theorem Ue.cv (a0 : Qa) : Cv (fun k => Ue.s k a0) (Ue a0) := .lim fun k => (Em k).2 a0
theorem Ue.ok {a0 : Qa} {r : ByteArray} (h : Ue a0 = some r) : ww 60 [.agg (QY a0)] [] = some (Qk r) := let ⟨k, e⟩ := ((Ue.cv a0).2 r).1 h; (Qbr k).2 a0 _ e
theorem UB.eq (a0 : Qa) : UB a0 = YJ Ue a0 := Cv.uniq (UB.cv a0).shift (Qdj Ue.cv a0)
theorem Ue.eq (a0 : Qa) : Ue a0 = Zl Jm UB YI a0 := Cv.uniq (Ue.cv a0).shift (QkY ks1 UB.cv ks1 a0)
noncomputable abbrev QqF {ρ R : Type} (a0 : Qa) (k : ByteArray → Tr ρ R) : Tr ρ R := Qgi Ue a0 k
abbrev QmX := Qb → Option ByteArray
structure QI where
 x3 : ByteArray
 x5 : Int
 h0 : Qb
 r1 : (List ByteArray)
structure Jp where
 x3 : ByteArray
 r0 : (List ByteArray)
def F1 (a : QI) : St := { n := 101, nx := 2, env := [(1, .ptr 0 0), (3, xs a.x3), (4, .arr 1), (5, xi a.x5)], heap := [(0, .box [0, 0, 0, 0, 0, 5] (WR a.h0)), (1, .arr true 1 (Qg a.r1))] }
def Qbs (a : Jp) : Ex × St := (.exit 0, { n := 101, nx := 1, env := [(3, xs a.x3), (4, .arr 0)], heap := [(0, .arr true 1 (Qg a.r0))] })
abbrev QhP := QI → Option Jp
def F2 (C0 : XA) (C1 : E1) (a : QI) : Option (QI ⊕ Jp) := (bif (decide (a.x5 < (((a.h0.Args.length) : Nat) : Int))) then (bif (decide (0 ≤ a.x5)) then ((a.h0.Args[(Int.toNat a.x5)]?).bind fun e1 => (bif (decide (e1.Reg ≥ 0)) then ((a.h0.Args[(Int.toNat a.x5)]?).bind fun e2 => ((C0 e2.Reg).bind fun r3 => (bif (decide (((s_r.size + r3.size : Nat) : Int) ≤ IntKind.i64.max)) then (bif (decide ((a.r1.length + [(s_r ++ r3)].length) * 16 ≤ most)) then (some (.inl (QI.mk a.x3 (w64 (a.x5 + 1)) a.h0 (a.r1 ++ [(s_r ++ r3)])))) else none) else none))) else ((a.h0.Args[(Int.toNat a.x5)]?).bind fun e4 => ((C1 e4.E).bind fun r5 => (bif (decide ((a.r1.length + [r5].length) * 16 ≤ most)) then (some (.inl (QI.mk a.x3 (w64 (a.x5 + 1)) a.h0 (a.r1 ++ [r5])))) else none))))) else none) else (some (.inr (Jp.mk a.x3 a.r1))))
noncomputable def Jx : QhP := loopW (F2 Jm Ue)
theorem Jx.eq (a : QI) : Jx a = (F2 Jm Ue a).bind (Sum.elim Jx some) := Jf _ _
noncomputable abbrev Wr {ρ R : Type} (a : QI) (k0 : Jp → Tr ρ R) : Tr ρ R := .loop (loopAt pp 22 15) (F1 a) (Jx a) Qbs k0
noncomputable def QmY (a : QI) : Tr (QI ⊕ Jp) XS := (.num ((Qi a.h0.Args).length) (a.h0.Args.length) (.as (decide (a.x5 < (((a.h0.Args.length) : Nat) : Int))) (let u126 := (decide (0 ≤ a.x5)); .as u126 (.row ((Qi a.h0.Args)[(Int.toNat a.x5)]?) (a.h0.Args[(Int.toNat a.x5)]?) WZ fun (e1 : Qc) => (.as (decide (e1.Reg ≥ 0)) (.yes u126 (.row ((Qi a.h0.Args)[(Int.toNat a.x5)]?) (a.h0.Args[(Int.toNat a.x5)]?) WZ fun (e2 : Qc) => (P6 e2.Reg fun r3 => (.as (decide (((s_r.size + r3.size : Nat) : Int) ≤ IntKind.i64.max)) (.rows [[xs (s_r ++ r3)]] (Qg [(s_r ++ r3)]) (.yes (decide ((Qg [(s_r ++ r3)]).all (fun r => r.length == 1) = true)) (.ask (decide (((Qg a.r1).length + (Qg [(s_r ++ r3)]).length) * 16 ≤ most)) (decide ((a.r1.length + [(s_r ++ r3)].length) * 16 ≤ most)) (.rows ((Qg a.r1) ++ (Qg [(s_r ++ r3)])) (Qg (a.r1 ++ [(s_r ++ r3)])) (lf F1 (QI.mk a.x3 (w64 (a.x5 + 1)) a.h0 (a.r1 ++ [(s_r ++ r3)])))) .fail))) .fail)))) (.yes u126 (.row ((Qi a.h0.Args)[(Int.toNat a.x5)]?) (a.h0.Args[(Int.toNat a.x5)]?) WZ fun (e4 : Qc) => (QqF e4.E fun r5 => (.rows [[xs r5]] (Qg [r5]) (.yes (decide ((Qg [r5]).all (fun r => r.length == 1) = true)) (.ask (decide (((Qg a.r1).length + (Qg [r5]).length) * 16 ≤ most)) (decide ((a.r1.length + [r5].length) * 16 ≤ most)) (.rows ((Qg a.r1) ++ (Qg [r5])) (Qg (a.r1 ++ [r5])) (lf F1 (QI.mk a.x3 (w64 (a.x5 + 1)) a.h0 (a.r1 ++ [r5])))) .fail)))))))) .fail) (rx Qbs (Jp.mk a.x3 a.r1))))
theorem Jx.ok {a : QI} {r : Jp} (h : Jx a = some r) : lw 0 22 (loopAt pp 22 15) (F1 a) = some (Qbs r) := by
 refine lpP h QmY fun a => ?_
 exact ⟨(Jc _), ⟨rfl, fun q0 => ⟨rfl, fun q1 => fun e1 h => ⟨Yg h, ⟨rfl, fun q2 => ⟨q1, fun e2 h => ⟨Yg h, fun r3 h => ⟨Jm.ok h, ⟨rfl, fun q3 => ⟨(QP [(s_r ++ r3)]), ⟨(decide_eq_true (J6 _)), ⟨(by rw [Qo, Qo]), fun q4 => ⟨(UT _ _), rfl⟩, fun q4 => trivial⟩⟩⟩, fun q3 => trivial⟩⟩⟩⟩, fun q2 => ⟨q1, fun e4 h => ⟨Yg h, fun r5 h => ⟨Ue.ok h, ⟨(QP [r5]), ⟨(decide_eq_true (J6 _)), ⟨(by rw [Qo, Qo]), fun q3 => ⟨(UT _ _), rfl⟩, fun q3 => trivial⟩⟩⟩⟩⟩⟩⟩⟩, fun q1 => trivial⟩, fun q0 => rfl⟩⟩
structure QJ where
 x3 : ByteArray
 x6 : Int
 r0 : (List ByteArray)
def F3 (a : QJ) : St := { n := 101, nx := 1, env := [(3, xs a.x3), (4, .arr 0), (6, xi a.x6)], heap := [(0, .arr true 1 (Qg a.r0))] }
def Qbt (a : ByteArray) : Ex × St := (.exit 2, { n := 101, nx := 0, env := [(3, xs a)], heap := [] })
abbrev QhQ := QJ → Option ByteArray
def GU (a : QJ) : Option (QJ ⊕ ByteArray) := (bif (decide (a.x6 < (((a.r0.length) : Nat) : Int))) then (bif (a.x6 == 0) then (bif (decide (((a.x3.size + h_20.size : Nat) : Int) ≤ IntKind.i64.max)) then (bif (decide (0 ≤ a.x6 ∧ a.x6 < ((a.r0.length : Nat) : Int))) then ((a.r0[(Int.toNat a.x6)]?).bind fun e1 => (bif (decide ((((a.x3 ++ h_20).size + e1.size : Nat) : Int) ≤ IntKind.i64.max)) then (some (.inl (QJ.mk ((a.x3 ++ h_20) ++ e1) (w64 (a.x6 + 1)) a.r0))) else none)) else none) else none) else (bif (decide (((a.x3.size + QaI.size : Nat) : Int) ≤ IntKind.i64.max)) then (bif (decide (0 ≤ a.x6 ∧ a.x6 < ((a.r0.length : Nat) : Int))) then ((a.r0[(Int.toNat a.x6)]?).bind fun e2 => (bif (decide ((((a.x3 ++ QaI).size + e2.size : Nat) : Int) ≤ IntKind.i64.max)) then (some (.inl (QJ.mk ((a.x3 ++ QaI) ++ e2) (w64 (a.x6 + 1)) a.r0))) else none)) else none) else none)) else (some (.inr a.x3)))
noncomputable def Jr : QhQ := loopW (GU )
theorem Jr.eq (a : QJ) : Jr a = (GU a).bind (Sum.elim Jr some) := Jf _ _
noncomputable abbrev Ws {ρ R : Type} (a : QJ) (k0 : ByteArray → Tr ρ R) : Tr ρ R := .loop (loopAt pp 22 21) (F3 a) (Jr a) Qbt k0
noncomputable def QmZ (a : QJ) : Tr (QJ ⊕ ByteArray) XS := (.num ((Qg a.r0).length) (a.r0.length) (.as (decide (a.x6 < (((a.r0.length) : Nat) : Int))) (.as (a.x6 == 0) (.as (decide (((a.x3.size + h_20.size : Nat) : Int) ≤ IntKind.i64.max)) (.ask (in1 a.x6 (((Qg a.r0).length : Nat) : Int)) (in1 a.x6 ((a.r0.length : Nat) : Int)) (.row ((Qg a.r0)[(Int.toNat a.x6)]?) (a.r0[(Int.toNat a.x6)]?) QW fun (e1 : ByteArray) => (.as (decide ((((a.x3 ++ h_20).size + e1.size : Nat) : Int) ≤ IntKind.i64.max)) (lf F3 (QJ.mk ((a.x3 ++ h_20) ++ e1) (w64 (a.x6 + 1)) a.r0)) .fail)) .fail) .fail) (.as (decide (((a.x3.size + QaI.size : Nat) : Int) ≤ IntKind.i64.max)) (.ask (in1 a.x6 (((Qg a.r0).length : Nat) : Int)) (in1 a.x6 ((a.r0.length : Nat) : Int)) (.row ((Qg a.r0)[(Int.toNat a.x6)]?) (a.r0[(Int.toNat a.x6)]?) QW fun (e2 : ByteArray) => (.as (decide ((((a.x3 ++ QaI).size + e2.size : Nat) : Int) ≤ IntKind.i64.max)) (lf F3 (QJ.mk ((a.x3 ++ QaI) ++ e2) (w64 (a.x6 + 1)) a.r0)) .fail)) .fail) .fail)) (rx Qbt a.x3)))
theorem Jr.ok {a : QJ} {r : ByteArray} (h : Jr a = some r) : lw 0 22 (loopAt pp 22 21) (F3 a) = some (Qbt r) := by
 refine lpP h QmZ fun a => ?_
 exact ⟨(Qo _), ⟨rfl, fun q0 => ⟨rfl, fun q1 => ⟨rfl, fun q2 => ⟨(by rw [Qo]), fun q3 => fun e1 h => ⟨QO h, ⟨rfl, fun q4 => rfl, fun q4 => trivial⟩⟩, fun q3 => trivial⟩, fun q2 => trivial⟩, fun q1 => ⟨rfl, fun q2 => ⟨(by rw [Qo]), fun q3 => fun e2 h => ⟨QO h, ⟨rfl, fun q4 => rfl, fun q4 => trivial⟩⟩, fun q3 => trivial⟩, fun q2 => trivial⟩⟩, fun q0 => rfl⟩⟩
def Qgj (C0 : QmW) (L1 : QhP) (L2 : QhQ) (a0 : Qb) : Option ByteArray := (bif (!(eqS a0.Label s_)) then (bif (decide (((a0.Label.size + h_3a.size : Nat) : Int) ≤ IntKind.i64.max)) then (bif (a0.Kind == 0) then (some (a0.Label ++ h_3a)) else (bif (!(eqS (a0.Label ++ h_3a) s_)) then (bif (decide ((((a0.Label ++ h_3a).size + h_20.size : Nat) : Int) ≤ IntKind.i64.max)) then ((C0 a0).bind fun r1 => (bif (decide (((((a0.Label ++ h_3a) ++ h_20).size + r1.size : Nat) : Int) ≤ IntKind.i64.max)) then (bif (a0.Kind == 6) then (bif (decide (((h_22.size + a0.Text.size : Nat) : Int) ≤ IntKind.i64.max)) then (bif (decide ((((h_22 ++ a0.Text).size + h_22.size : Nat) : Int) ≤ IntKind.i64.max)) then (bif (decide ([((h_22 ++ a0.Text) ++ h_22)].length * 16 ≤ most)) then (bif (a0.Kind == 9) then (bif (decide (([((h_22 ++ a0.Text) ++ h_22)].length + [a0.Text].length) * 16 ≤ most)) then ((L1 (QI.mk (((a0.Label ++ h_3a) ++ h_20) ++ r1) (0 : Int) a0 ([((h_22 ++ a0.Text) ++ h_22)] ++ [a0.Text]))).bind (fun (o2 : Jp) => ((L2 (QJ.mk o2.x3 (0 : Int) o2.r0)).bind (fun (o3 : ByteArray) => (some o3))))) else none) else ((L1 (QI.mk (((a0.Label ++ h_3a) ++ h_20) ++ r1) (0 : Int) a0 [((h_22 ++ a0.Text) ++ h_22)])).bind (fun (o4 : Jp) => ((L2 (QJ.mk o4.x3 (0 : Int) o4.r0)).bind (fun (o5 : ByteArray) => (some o5)))))) else none) else none) else none) else (bif (a0.Kind == 9) then (bif (decide ([a0.Text].length * 16 ≤ most)) then ((L1 (QI.mk (((a0.Label ++ h_3a) ++ h_20) ++ r1) (0 : Int) a0 [a0.Text])).bind (fun (o6 : Jp) => ((L2 (QJ.mk o6.x3 (0 : Int) o6.r0)).bind (fun (o7 : ByteArray) => (some o7))))) else none) else ((L1 (QI.mk (((a0.Label ++ h_3a) ++ h_20) ++ r1) (0 : Int) a0 ([] : List ByteArray))).bind (fun (o8 : Jp) => ((L2 (QJ.mk o8.x3 (0 : Int) o8.r0)).bind (fun (o9 : ByteArray) => (some o9))))))) else none)) else none) else ((C0 a0).bind fun r10 => (bif (decide ((((a0.Label ++ h_3a).size + r10.size : Nat) : Int) ≤ IntKind.i64.max)) then (bif (a0.Kind == 6) then (bif (decide (((h_22.size + a0.Text.size : Nat) : Int) ≤ IntKind.i64.max)) then (bif (decide ((((h_22 ++ a0.Text).size + h_22.size : Nat) : Int) ≤ IntKind.i64.max)) then (bif (decide ([((h_22 ++ a0.Text) ++ h_22)].length * 16 ≤ most)) then (bif (a0.Kind == 9) then (bif (decide (([((h_22 ++ a0.Text) ++ h_22)].length + [a0.Text].length) * 16 ≤ most)) then ((L1 (QI.mk ((a0.Label ++ h_3a) ++ r10) (0 : Int) a0 ([((h_22 ++ a0.Text) ++ h_22)] ++ [a0.Text]))).bind (fun (o11 : Jp) => ((L2 (QJ.mk o11.x3 (0 : Int) o11.r0)).bind (fun (o12 : ByteArray) => (some o12))))) else none) else ((L1 (QI.mk ((a0.Label ++ h_3a) ++ r10) (0 : Int) a0 [((h_22 ++ a0.Text) ++ h_22)])).bind (fun (o13 : Jp) => ((L2 (QJ.mk o13.x3 (0 : Int) o13.r0)).bind (fun (o14 : ByteArray) => (some o14)))))) else none) else none) else none) else (bif (a0.Kind == 9) then (bif (decide ([a0.Text].length * 16 ≤ most)) then ((L1 (QI.mk ((a0.Label ++ h_3a) ++ r10) (0 : Int) a0 [a0.Text])).bind (fun (o15 : Jp) => ((L2 (QJ.mk o15.x3 (0 : Int) o15.r0)).bind (fun (o16 : ByteArray) => (some o16))))) else none) else ((L1 (QI.mk ((a0.Label ++ h_3a) ++ r10) (0 : Int) a0 ([] : List ByteArray))).bind (fun (o17 : Jp) => ((L2 (QJ.mk o17.x3 (0 : Int) o17.r0)).bind (fun (o18 : ByteArray) => (some o18))))))) else none)))) else none) else (bif (a0.Kind == 0) then (some s_) else ((C0 a0).bind fun r19 => (bif (decide (((s_.size + r19.size : Nat) : Int) ≤ IntKind.i64.max)) then (bif (a0.Kind == 6) then (bif (decide (((h_22.size + a0.Text.size : Nat) : Int) ≤ IntKind.i64.max)) then (bif (decide ((((h_22 ++ a0.Text).size + h_22.size : Nat) : Int) ≤ IntKind.i64.max)) then (bif (decide ([((h_22 ++ a0.Text) ++ h_22)].length * 16 ≤ most)) then (bif (a0.Kind == 9) then (bif (decide (([((h_22 ++ a0.Text) ++ h_22)].length + [a0.Text].length) * 16 ≤ most)) then ((L1 (QI.mk (s_ ++ r19) (0 : Int) a0 ([((h_22 ++ a0.Text) ++ h_22)] ++ [a0.Text]))).bind (fun (o20 : Jp) => ((L2 (QJ.mk o20.x3 (0 : Int) o20.r0)).bind (fun (o21 : ByteArray) => (some o21))))) else none) else ((L1 (QI.mk (s_ ++ r19) (0 : Int) a0 [((h_22 ++ a0.Text) ++ h_22)])).bind (fun (o22 : Jp) => ((L2 (QJ.mk o22.x3 (0 : Int) o22.r0)).bind (fun (o23 : ByteArray) => (some o23)))))) else none) else none) else none) else (bif (a0.Kind == 9) then (bif (decide ([a0.Text].length * 16 ≤ most)) then ((L1 (QI.mk (s_ ++ r19) (0 : Int) a0 [a0.Text])).bind (fun (o24 : Jp) => ((L2 (QJ.mk o24.x3 (0 : Int) o24.r0)).bind (fun (o25 : ByteArray) => (some o25))))) else none) else ((L1 (QI.mk (s_ ++ r19) (0 : Int) a0 ([] : List ByteArray))).bind (fun (o26 : Jp) => ((L2 (QJ.mk o26.x3 (0 : Int) o26.r0)).bind (fun (o27 : ByteArray) => (some o27))))))) else none))))
noncomputable def ZX : QmX := Qgj Y8 Jx Jr
theorem ZX.eq (a0 : Qb) : ZX a0 = Qgj Y8 Jx Jr a0 := rfl
noncomputable def QqG (a0 : Qb) : Tr ByteArray AH := (.as (!(eqS a0.Label s_)) (.as (decide (((a0.Label.size + h_3a.size : Nat) : Int) ≤ IntKind.i64.max)) (.as (a0.Kind == 0) (rt Qk (a0.Label ++ h_3a)) (.as (!(eqS (a0.Label ++ h_3a) s_)) (.as (decide ((((a0.Label ++ h_3a).size + h_20.size : Nat) : Int) ≤ IntKind.i64.max)) (Qgh a0 fun r1 => (.as (decide (((((a0.Label ++ h_3a) ++ h_20).size + r1.size : Nat) : Int) ≤ IntKind.i64.max)) (.as (a0.Kind == 6) (.as (decide (((h_22.size + a0.Text.size : Nat) : Int) ≤ IntKind.i64.max)) (.as (decide ((((h_22 ++ a0.Text).size + h_22.size : Nat) : Int) ≤ IntKind.i64.max)) (.rows [[xs ((h_22 ++ a0.Text) ++ h_22)]] (Qg [((h_22 ++ a0.Text) ++ h_22)]) (.yes (decide ((Qg [((h_22 ++ a0.Text) ++ h_22)]).all (fun r => r.length == 1) = true)) (.ask (decide ((Qg [((h_22 ++ a0.Text) ++ h_22)]).length * 16 ≤ most)) (decide ([((h_22 ++ a0.Text) ++ h_22)].length * 16 ≤ most)) (.rows (Qg [((h_22 ++ a0.Text) ++ h_22)]) (Qg [((h_22 ++ a0.Text) ++ h_22)]) (.as (a0.Kind == 9) (.rows [[xs a0.Text]] (Qg [a0.Text]) (.yes (decide ((Qg [a0.Text]).all (fun r => r.length == 1) = true)) (.ask (decide (((Qg [((h_22 ++ a0.Text) ++ h_22)]).length + (Qg [a0.Text]).length) * 16 ≤ most)) (decide (([((h_22 ++ a0.Text) ++ h_22)].length + [a0.Text].length) * 16 ≤ most)) (.rows ((Qg [((h_22 ++ a0.Text) ++ h_22)]) ++ (Qg [a0.Text])) (Qg ([((h_22 ++ a0.Text) ++ h_22)] ++ [a0.Text])) (Wr (QI.mk (((a0.Label ++ h_3a) ++ h_20) ++ r1) i0 a0 ([((h_22 ++ a0.Text) ++ h_22)] ++ [a0.Text])) (fun o2 => (Ws (QJ.mk o2.x3 i0 o2.r0) (fun o3 => (rt Qk o3)))))) .fail))) (Wr (QI.mk (((a0.Label ++ h_3a) ++ h_20) ++ r1) i0 a0 [((h_22 ++ a0.Text) ++ h_22)]) (fun o4 => (Ws (QJ.mk o4.x3 i0 o4.r0) (fun o5 => (rt Qk o5))))))) .fail))) .fail) .fail) (.as (a0.Kind == 9) (.rows [[xs a0.Text]] (Qg [a0.Text]) (.yes (decide ((Qg [a0.Text]).all (fun r => r.length == 1) = true)) (.ask (decide ((Qg [a0.Text]).length * 16 ≤ most)) (decide ([a0.Text].length * 16 ≤ most)) (.rows (Qg [a0.Text]) (Qg [a0.Text]) (Wr (QI.mk (((a0.Label ++ h_3a) ++ h_20) ++ r1) i0 a0 [a0.Text]) (fun o6 => (Ws (QJ.mk o6.x3 i0 o6.r0) (fun o7 => (rt Qk o7)))))) .fail))) (Wr (QI.mk (((a0.Label ++ h_3a) ++ h_20) ++ r1) i0 a0 ([] : List ByteArray)) (fun o8 => (Ws (QJ.mk o8.x3 i0 o8.r0) (fun o9 => (rt Qk o9))))))) .fail)) .fail) (Qgh a0 fun r10 => (.as (decide ((((a0.Label ++ h_3a).size + r10.size : Nat) : Int) ≤ IntKind.i64.max)) (.as (a0.Kind == 6) (.as (decide (((h_22.size + a0.Text.size : Nat) : Int) ≤ IntKind.i64.max)) (.as (decide ((((h_22 ++ a0.Text).size + h_22.size : Nat) : Int) ≤ IntKind.i64.max)) (.rows [[xs ((h_22 ++ a0.Text) ++ h_22)]] (Qg [((h_22 ++ a0.Text) ++ h_22)]) (.yes (decide ((Qg [((h_22 ++ a0.Text) ++ h_22)]).all (fun r => r.length == 1) = true)) (.ask (decide ((Qg [((h_22 ++ a0.Text) ++ h_22)]).length * 16 ≤ most)) (decide ([((h_22 ++ a0.Text) ++ h_22)].length * 16 ≤ most)) (.rows (Qg [((h_22 ++ a0.Text) ++ h_22)]) (Qg [((h_22 ++ a0.Text) ++ h_22)]) (.as (a0.Kind == 9) (.rows [[xs a0.Text]] (Qg [a0.Text]) (.yes (decide ((Qg [a0.Text]).all (fun r => r.length == 1) = true)) (.ask (decide (((Qg [((h_22 ++ a0.Text) ++ h_22)]).length + (Qg [a0.Text]).length) * 16 ≤ most)) (decide (([((h_22 ++ a0.Text) ++ h_22)].length + [a0.Text].length) * 16 ≤ most)) (.rows ((Qg [((h_22 ++ a0.Text) ++ h_22)]) ++ (Qg [a0.Text])) (Qg ([((h_22 ++ a0.Text) ++ h_22)] ++ [a0.Text])) (Wr (QI.mk ((a0.Label ++ h_3a) ++ r10) i0 a0 ([((h_22 ++ a0.Text) ++ h_22)] ++ [a0.Text])) (fun o11 => (Ws (QJ.mk o11.x3 i0 o11.r0) (fun o12 => (rt Qk o12)))))) .fail))) (Wr (QI.mk ((a0.Label ++ h_3a) ++ r10) i0 a0 [((h_22 ++ a0.Text) ++ h_22)]) (fun o13 => (Ws (QJ.mk o13.x3 i0 o13.r0) (fun o14 => (rt Qk o14))))))) .fail))) .fail) .fail) (.as (a0.Kind == 9) (.rows [[xs a0.Text]] (Qg [a0.Text]) (.yes (decide ((Qg [a0.Text]).all (fun r => r.length == 1) = true)) (.ask (decide ((Qg [a0.Text]).length * 16 ≤ most)) (decide ([a0.Text].length * 16 ≤ most)) (.rows (Qg [a0.Text]) (Qg [a0.Text]) (Wr (QI.mk ((a0.Label ++ h_3a) ++ r10) i0 a0 [a0.Text]) (fun o15 => (Ws (QJ.mk o15.x3 i0 o15.r0) (fun o16 => (rt Qk o16)))))) .fail))) (Wr (QI.mk ((a0.Label ++ h_3a) ++ r10) i0 a0 ([] : List ByteArray)) (fun o17 => (Ws (QJ.mk o17.x3 i0 o17.r0) (fun o18 => (rt Qk o18))))))) .fail)))) .fail) (.as (a0.Kind == 0) (rt Qk s_) (.no false (Qgh a0 fun r19 => (.as (decide (((s_.size + r19.size : Nat) : Int) ≤ IntKind.i64.max)) (.as (a0.Kind == 6) (.as (decide (((h_22.size + a0.Text.size : Nat) : Int) ≤ IntKind.i64.max)) (.as (decide ((((h_22 ++ a0.Text).size + h_22.size : Nat) : Int) ≤ IntKind.i64.max)) (.rows [[xs ((h_22 ++ a0.Text) ++ h_22)]] (Qg [((h_22 ++ a0.Text) ++ h_22)]) (.yes (decide ((Qg [((h_22 ++ a0.Text) ++ h_22)]).all (fun r => r.length == 1) = true)) (.ask (decide ((Qg [((h_22 ++ a0.Text) ++ h_22)]).length * 16 ≤ most)) (decide ([((h_22 ++ a0.Text) ++ h_22)].length * 16 ≤ most)) (.rows (Qg [((h_22 ++ a0.Text) ++ h_22)]) (Qg [((h_22 ++ a0.Text) ++ h_22)]) (.as (a0.Kind == 9) (.rows [[xs a0.Text]] (Qg [a0.Text]) (.yes (decide ((Qg [a0.Text]).all (fun r => r.length == 1) = true)) (.ask (decide (((Qg [((h_22 ++ a0.Text) ++ h_22)]).length + (Qg [a0.Text]).length) * 16 ≤ most)) (decide (([((h_22 ++ a0.Text) ++ h_22)].length + [a0.Text].length) * 16 ≤ most)) (.rows ((Qg [((h_22 ++ a0.Text) ++ h_22)]) ++ (Qg [a0.Text])) (Qg ([((h_22 ++ a0.Text) ++ h_22)] ++ [a0.Text])) (Wr (QI.mk (s_ ++ r19) i0 a0 ([((h_22 ++ a0.Text) ++ h_22)] ++ [a0.Text])) (fun o20 => (Ws (QJ.mk o20.x3 i0 o20.r0) (fun o21 => (rt Qk o21)))))) .fail))) (Wr (QI.mk (s_ ++ r19) i0 a0 [((h_22 ++ a0.Text) ++ h_22)]) (fun o22 => (Ws (QJ.mk o22.x3 i0 o22.r0) (fun o23 => (rt Qk o23))))))) .fail))) .fail) .fail) (.as (a0.Kind == 9) (.rows [[xs a0.Text]] (Qg [a0.Text]) (.yes (decide ((Qg [a0.Text]).all (fun r => r.length == 1) = true)) (.ask (decide ((Qg [a0.Text]).length * 16 ≤ most)) (decide ([a0.Text].length * 16 ≤ most)) (.rows (Qg [a0.Text]) (Qg [a0.Text]) (Wr (QI.mk (s_ ++ r19) i0 a0 [a0.Text]) (fun o24 => (Ws (QJ.mk o24.x3 i0 o24.r0) (fun o25 => (rt Qk o25)))))) .fail))) (Wr (QI.mk (s_ ++ r19) i0 a0 ([] : List ByteArray)) (fun o26 => (Ws (QJ.mk o26.x3 i0 o26.r0) (fun o27 => (rt Qk o27))))))) .fail)))))
theorem ZX.ok {a0 : Qb} {r : ByteArray} (h : ZX a0 = some r) : ww 22 [.agg (WR a0)] [] = some (Qk r) := by
 refine fnP (QqG a0) ?_ h
 exact ⟨rfl, fun q0 => ⟨rfl, fun q1 => ⟨rfl, fun q2 => rfl, fun q2 => ⟨rfl, fun q3 => ⟨rfl, fun q4 => fun r1 h => ⟨Y8.ok h, ⟨rfl, fun q5 => ⟨rfl, fun q6 => ⟨rfl, fun q7 => ⟨rfl, fun q8 => ⟨(QP [((h_22 ++ a0.Text) ++ h_22)]), ⟨(decide_eq_true (J6 _)), ⟨(by rw [Qo]), fun q9 => ⟨rfl, ⟨rfl, fun q10 => ⟨(QP [a0.Text]), ⟨(decide_eq_true (J6 _)), ⟨(by rw [Qo, Qo]), fun q11 => ⟨(UT _ _), fun o2 h => ⟨Jx.ok h, fun o3 h => ⟨Jr.ok h, rfl⟩⟩⟩, fun q11 => trivial⟩⟩⟩, fun q10 => fun o4 h => ⟨Jx.ok h, fun o5 h => ⟨Jr.ok h, rfl⟩⟩⟩⟩, fun q9 => trivial⟩⟩⟩, fun q8 => trivial⟩, fun q7 => trivial⟩, fun q6 => ⟨rfl, fun q7 => ⟨(QP [a0.Text]), ⟨(decide_eq_true (J6 _)), ⟨(by rw [Qo]), fun q8 => ⟨rfl, fun o6 h => ⟨Jx.ok h, fun o7 h => ⟨Jr.ok h, rfl⟩⟩⟩, fun q8 => trivial⟩⟩⟩, fun q7 => fun o8 h => ⟨Jx.ok h, fun o9 h => ⟨Jr.ok h, rfl⟩⟩⟩⟩, fun q5 => trivial⟩⟩, fun q4 => trivial⟩, fun q3 => fun r10 h => ⟨Y8.ok h, ⟨rfl, fun q4 => ⟨rfl, fun q5 => ⟨rfl, fun q6 => ⟨rfl, fun q7 => ⟨(QP [((h_22 ++ a0.Text) ++ h_22)]), ⟨(decide_eq_true (J6 _)), ⟨(by rw [Qo]), fun q8 => ⟨rfl, ⟨rfl, fun q9 => ⟨(QP [a0.Text]), ⟨(decide_eq_true (J6 _)), ⟨(by rw [Qo, Qo]), fun q10 => ⟨(UT _ _), fun o11 h => ⟨Jx.ok h, fun o12 h => ⟨Jr.ok h, rfl⟩⟩⟩, fun q10 => trivial⟩⟩⟩, fun q9 => fun o13 h => ⟨Jx.ok h, fun o14 h => ⟨Jr.ok h, rfl⟩⟩⟩⟩, fun q8 => trivial⟩⟩⟩, fun q7 => trivial⟩, fun q6 => trivial⟩, fun q5 => ⟨rfl, fun q6 => ⟨(QP [a0.Text]), ⟨(decide_eq_true (J6 _)), ⟨(by rw [Qo]), fun q7 => ⟨rfl, fun o15 h => ⟨Jx.ok h, fun o16 h => ⟨Jr.ok h, rfl⟩⟩⟩, fun q7 => trivial⟩⟩⟩, fun q6 => fun o17 h => ⟨Jx.ok h, fun o18 h => ⟨Jr.ok h, rfl⟩⟩⟩⟩, fun q4 => trivial⟩⟩⟩⟩, fun q1 => trivial⟩, fun q0 => ⟨rfl, fun q1 => rfl, fun q1 => ⟨rfl, fun r19 h => ⟨Y8.ok h, ⟨rfl, fun q2 => ⟨rfl, fun q3 => ⟨rfl, fun q4 => ⟨rfl, fun q5 => ⟨(QP [((h_22 ++ a0.Text) ++ h_22)]), ⟨(decide_eq_true (J6 _)), ⟨(by rw [Qo]), fun q6 => ⟨rfl, ⟨rfl, fun q7 => ⟨(QP [a0.Text]), ⟨(decide_eq_true (J6 _)), ⟨(by rw [Qo, Qo]), fun q8 => ⟨(UT _ _), fun o20 h => ⟨Jx.ok h, fun o21 h => ⟨Jr.ok h, rfl⟩⟩⟩, fun q8 => trivial⟩⟩⟩, fun q7 => fun o22 h => ⟨Jx.ok h, fun o23 h => ⟨Jr.ok h, rfl⟩⟩⟩⟩, fun q6 => trivial⟩⟩⟩, fun q5 => trivial⟩, fun q4 => trivial⟩, fun q3 => ⟨rfl, fun q4 => ⟨(QP [a0.Text]), ⟨(decide_eq_true (J6 _)), ⟨(by rw [Qo]), fun q5 => ⟨rfl, fun o24 h => ⟨Jx.ok h, fun o25 h => ⟨Jr.ok h, rfl⟩⟩⟩, fun q5 => trivial⟩⟩⟩, fun q4 => fun o26 h => ⟨Jx.ok h, fun o27 h => ⟨Jr.ok h, rfl⟩⟩⟩⟩, fun q2 => trivial⟩⟩⟩⟩⟩
noncomputable abbrev QqH {ρ R : Type} (a0 : Qb) (k : ByteArray → Tr ρ R) : Tr ρ R := .call (ww 22 [.agg (WR a0)] []) (ZX a0) Qk k
abbrev Qm0 := ByteArray → Option ByteArray
structure Ul where
 x0 : ByteArray
 x3 : Bool
 x4 : Int
def ZY (a : Ul) : St := { n := 29, nx := 0, env := [(0, xs a.x0), (3, xo a.x3), (4, xi a.x4)], heap := [] }
def QeE (a : ByteArray) : Ex × St := (.ret, { n := 29, nx := 0, env := [(2, xs a)], heap := [] })
def QeF (a : ByteArray) : Ex × St := (.exit 0, { n := 29, nx := 0, env := [(0, xs a)], heap := [] })
def F4 (a : (ByteArray ⊕ ByteArray)) : Ex × St := Sum.elim QeE QeF a
abbrev QhR := Ul → Option (ByteArray ⊕ ByteArray)
def F5 (a : Ul) : Option (Ul ⊕ (ByteArray ⊕ ByteArray)) := (bif (decide (a.x4 < ((a.x0.size : Nat) : Int))) then (bif (decide (0 ≤ a.x4 ∧ a.x4 < ((a.x0.size : Nat) : Int))) then (bif (((a.x0.data.getD (Int.toNat a.x4) 0).toNat : Int) == 34) then (bif (((a.x0.data.getD (Int.toNat a.x4) 0).toNat : Int) == 35) then (bif (!(!a.x3)) then (bif (decide (0 ≤ (0 : Int) ∧ (0 : Int) ≤ a.x4 ∧ a.x4 ≤ ((a.x0.size : Nat) : Int))) then (some (.inr (.inl (a.x0.extract (Int.toNat 0) (Int.toNat a.x4))))) else none) else (some (.inl (Ul.mk a.x0 (!a.x3) (w64 (a.x4 + 1)))))) else (some (.inl (Ul.mk a.x0 (!a.x3) (w64 (a.x4 + 1)))))) else (bif (((a.x0.data.getD (Int.toNat a.x4) 0).toNat : Int) == 35) then (bif (!a.x3) then (bif (decide (0 ≤ (0 : Int) ∧ (0 : Int) ≤ a.x4 ∧ a.x4 ≤ ((a.x0.size : Nat) : Int))) then (some (.inr (.inl (a.x0.extract (Int.toNat 0) (Int.toNat a.x4))))) else none) else (some (.inl (Ul.mk a.x0 a.x3 (w64 (a.x4 + 1)))))) else (some (.inl (Ul.mk a.x0 a.x3 (w64 (a.x4 + 1))))))) else none) else (some (.inr (.inr a.x0))))
noncomputable def Wq : QhR := loopW (F5 )
theorem Wq.eq (a : Ul) : Wq a = (F5 a).bind (Sum.elim Wq some) := Jf _ _
noncomputable abbrev Qm1 {ρ R : Type} (a : Ul) (k0 : ByteArray → Tr ρ R) (k1 : ByteArray → Tr ρ R) : Tr ρ R := .loop2 (loopAt pp 54 3) (ZY a) (Wq a) QeE QeF k0 k1
noncomputable def Qm2 (a : Ul) : Tr (Ul ⊕ (ByteArray ⊕ ByteArray)) XS := (.as (decide (a.x4 < (zz a.x0))) (let u129 := (in1 a.x4 (zz a.x0)); .as u129 (.as ((gb a.x0 a.x4) == 34) (.yes u129 (let u127 := ((gb a.x0 a.x4) == 35); .as u127 (yesN 2 u127 (.as (!(!a.x3)) (.as (in2 i0 a.x4 (zz a.x0)) (rx F4 (.inl (cu a.x0 i0 a.x4))) .fail) (lf ZY (Ul.mk a.x0 (!a.x3) (w64 (a.x4 + 1)))))) (noN 2 u127 (.no false (lf ZY (Ul.mk a.x0 (!a.x3) (w64 (a.x4 + 1)))))))) (.yes u129 (let u128 := ((gb a.x0 a.x4) == 35); .as u128 (yesN 2 u128 (.as (!a.x3) (.as (in2 i0 a.x4 (zz a.x0)) (rx F4 (.inl (cu a.x0 i0 a.x4))) .fail) (lf ZY (Ul.mk a.x0 a.x3 (w64 (a.x4 + 1)))))) (noN 2 u128 (.no false (lf ZY (Ul.mk a.x0 a.x3 (w64 (a.x4 + 1))))))))) .fail) (rx F4 (.inr a.x0)))
theorem Wq.ok {a : Ul} {r : (ByteArray ⊕ ByteArray)} (h : Wq a = some r) : lw 0 54 (loopAt pp 54 3) (ZY a) = some (F4 r) := by
 refine lpP h Qm2 fun a => ?_
 exact ⟨rfl, fun q0 => ⟨rfl, fun q1 => ⟨rfl, fun q2 => ⟨q1, ⟨rfl, fun q3 => Qj 2 (q3) (⟨rfl, fun q4 => ⟨rfl, fun q5 => rfl, fun q5 => trivial⟩, fun q4 => rfl⟩), fun q3 => noN_ok 2 (q3) (⟨rfl, rfl⟩)⟩⟩, fun q2 => ⟨q1, ⟨rfl, fun q3 => Qj 2 (q3) (⟨rfl, fun q4 => ⟨rfl, fun q5 => rfl, fun q5 => trivial⟩, fun q4 => rfl⟩), fun q3 => noN_ok 2 (q3) (⟨rfl, rfl⟩)⟩⟩⟩, fun q1 => trivial⟩, fun q0 => rfl⟩
def Qgk (L0 : QhR) (a0 : ByteArray) : Option ByteArray := ((L0 (Ul.mk a0 false (0 : Int))).bind fun x => Sum.elim (fun (o1 : ByteArray) => (some o1)) (fun (o2 : ByteArray) => (some o2)) x)
noncomputable def Gk : Qm0 := Qgk Wq
theorem Gk.eq (a0 : ByteArray) : Gk a0 = Qgk Wq a0 := rfl
noncomputable def QqI (a0 : ByteArray) : Tr ByteArray AH := (Qm1 (Ul.mk a0 false i0) (fun o1 => (rt Qk o1)) (fun o2 => (rt Qk o2)))
theorem Gk.ok {a0 : ByteArray} {r : ByteArray} (h : Gk a0 = some r) : ww 54 [xs a0] [] = some (Qk r) := by
 refine fnP (QqI a0) ?_ h
 exact ⟨fun o1 h => ⟨Wq.ok (r := (.inl _)) h, rfl⟩, fun o2 h => ⟨Wq.ok (r := (.inr _)) h, rfl⟩⟩
noncomputable abbrev QqJ {ρ R : Type} (a0 : ByteArray) (k : ByteArray → Tr ρ R) : Tr ρ R := .call (ww 54 [xs a0] []) (Gk a0) Qk k
abbrev QdV := ByteArray → Option ByteArray
def F6 (a : ByteArray) : St := { n := 43, nx := 0, env := [(0, xs a)], heap := [] }
def F7 (a : ByteArray) : Ex × St := (.exit 0, { n := 43, nx := 0, env := [(0, xs a)], heap := [] })
abbrev QhS := ByteArray → Option ByteArray
def Qbu (a : ByteArray) : Option (ByteArray ⊕ ByteArray) := (bif (decide (((a.size : Nat) : Int) > 0)) then (bif (decide (0 ≤ (0 : Int) ∧ (0 : Int) < ((a.size : Nat) : Int))) then (bif (((a.data.getD (Int.toNat 0) 0).toNat : Int) == 32) then (bif (decide (0 ≤ (1 : Int) ∧ (1 : Int) ≤ ((a.size : Nat) : Int) ∧ ((a.size : Nat) : Int) ≤ ((a.size : Nat) : Int))) then (some (.inl (a.extract (Int.toNat 1) (Int.toNat ((a.size : Nat) : Int))))) else none) else (bif (((a.data.getD (Int.toNat 0) 0).toNat : Int) == 9) then (bif (decide (0 ≤ (1 : Int) ∧ (1 : Int) ≤ ((a.size : Nat) : Int) ∧ ((a.size : Nat) : Int) ≤ ((a.size : Nat) : Int))) then (some (.inl (a.extract (Int.toNat 1) (Int.toNat ((a.size : Nat) : Int))))) else none) else (some (.inr a)))) else none) else (some (.inr a)))
noncomputable def Xj : QhS := loopW (Qbu )
theorem Xj.eq (a : ByteArray) : Xj a = (Qbu a).bind (Sum.elim Xj some) := Jf _ _
noncomputable abbrev Qm3 {ρ R : Type} (a : ByteArray) (k0 : ByteArray → Tr ρ R) : Tr ρ R := .loop (loopAt pp 53 1) (F6 a) (Xj a) F7 k0
noncomputable def Qm4 (a : ByteArray) : Tr (ByteArray ⊕ ByteArray) XS := (let u132 := (decide ((zz a) > 0)); .as u132 (.yes u132 (let u131 := (in1 i0 (zz a)); .as u131 (yesN 2 u132 (let u130 := ((gb a i0) == 32); .as u130 (yesN 2 u130 (.yes u132 (.yes u130 (.yes u132 (.yes true (.as (in2 (zi 1) (zz a) (zz a)) (lf F6 (cu a (zi 1) (zz a))) .fail)))))) (.no u130 (.yes u131 (.no u130 (.yes u132 (.no u130 (.yes u132 (.as ((gb a i0) == 9) (.as (in2 (zi 1) (zz a) (zz a)) (lf F6 (cu a (zi 1) (zz a))) .fail) (rx F7 a)))))))))) .fail)) (noN 5 u132 (.no false (rx F7 a))))
theorem Xj.ok {a : ByteArray} {r : ByteArray} (h : Xj a = some r) : lw 0 53 (loopAt pp 53 1) (F6 a) = some (F7 r) := by
 refine lpP h Qm4 fun a => ?_
 exact ⟨rfl, fun q0 => ⟨q0, ⟨rfl, fun q1 => Qj 2 (q0) (⟨rfl, fun q2 => Qj 2 (q2) (⟨q0, ⟨q2, ⟨q0, ⟨rfl, ⟨rfl, fun q3 => rfl, fun q3 => trivial⟩⟩⟩⟩⟩), fun q2 => ⟨q2, ⟨q1, ⟨q2, ⟨q0, ⟨q2, ⟨q0, ⟨rfl, fun q3 => ⟨rfl, fun q4 => rfl, fun q4 => trivial⟩, fun q3 => rfl⟩⟩⟩⟩⟩⟩⟩⟩), fun q1 => trivial⟩⟩, fun q0 => noN_ok 5 (q0) (⟨rfl, rfl⟩)⟩
def F8 (a : ByteArray) : St := { n := 43, nx := 0, env := [(0, xs a)], heap := [] }
def F9 (a : ByteArray) : Ex × St := (.exit 2, { n := 43, nx := 0, env := [(0, xs a)], heap := [] })
abbrev QhT := ByteArray → Option ByteArray
def Qbv (a : ByteArray) : Option (ByteArray ⊕ ByteArray) := (bif (decide (((a.size : Nat) : Int) > 0)) then (bif (decide (0 ≤ (w64 (((a.size : Nat) : Int) - 1)) ∧ (w64 (((a.size : Nat) : Int) - 1)) < ((a.size : Nat) : Int))) then (bif (((a.data.getD (Int.toNat (w64 (((a.size : Nat) : Int) - 1))) 0).toNat : Int) == 32) then (bif (decide (0 ≤ (0 : Int) ∧ (0 : Int) ≤ (w64 (((a.size : Nat) : Int) - 1)) ∧ (w64 (((a.size : Nat) : Int) - 1)) ≤ ((a.size : Nat) : Int))) then (some (.inl (a.extract (Int.toNat 0) (Int.toNat (w64 (((a.size : Nat) : Int) - 1)))))) else none) else (bif (((a.data.getD (Int.toNat (w64 (((a.size : Nat) : Int) - 1))) 0).toNat : Int) == 9) then (bif (decide (0 ≤ (0 : Int) ∧ (0 : Int) ≤ (w64 (((a.size : Nat) : Int) - 1)) ∧ (w64 (((a.size : Nat) : Int) - 1)) ≤ ((a.size : Nat) : Int))) then (some (.inl (a.extract (Int.toNat 0) (Int.toNat (w64 (((a.size : Nat) : Int) - 1)))))) else none) else (some (.inr a)))) else none) else (some (.inr a)))
noncomputable def Xk : QhT := loopW (Qbv )
theorem Xk.eq (a : ByteArray) : Xk a = (Qbv a).bind (Sum.elim Xk some) := Jf _ _
noncomputable abbrev Qm5 {ρ R : Type} (a : ByteArray) (k0 : ByteArray → Tr ρ R) : Tr ρ R := .loop (loopAt pp 53 3) (F8 a) (Xk a) F9 k0
noncomputable def Qm6 (a : ByteArray) : Tr (ByteArray ⊕ ByteArray) XS := (let u135 := (decide ((zz a) > 0)); .as u135 (yesN 4 u135 (let u134 := (in1 (w64 ((zz a) - 1)) (zz a)); .as u134 (yesN 2 u135 (let u133 := ((gb a (w64 ((zz a) - 1))) == 32); .as u133 (yesN 5 u133 (.yes u135 (.yes u133 (.yes u135 (.yes true (.as (in2 i0 (w64 ((zz a) - 1)) (zz a)) (lf F8 (cu a i0 (w64 ((zz a) - 1)))) .fail)))))) (noN 4 u133 (.yes u134 (.no u133 (.yes u135 (.no u133 (.yes u135 (.as ((gb a (w64 ((zz a) - 1))) == 9) (.as (in2 i0 (w64 ((zz a) - 1)) (zz a)) (lf F8 (cu a i0 (w64 ((zz a) - 1)))) .fail) (rx F9 a)))))))))) .fail)) (noN 8 u135 (.no false (rx F9 a))))
theorem Xk.ok {a : ByteArray} {r : ByteArray} (h : Xk a = some r) : lw 0 53 (loopAt pp 53 3) (F8 a) = some (F9 r) := by
 refine lpP h Qm6 fun a => ?_
 exact ⟨rfl, fun q0 => Qj 4 (q0) (⟨rfl, fun q1 => Qj 2 (q0) (⟨rfl, fun q2 => Qj 5 (q2) (⟨q0, ⟨q2, ⟨q0, ⟨rfl, ⟨rfl, fun q3 => rfl, fun q3 => trivial⟩⟩⟩⟩⟩), fun q2 => noN_ok 4 (q2) (⟨q1, ⟨q2, ⟨q0, ⟨q2, ⟨q0, ⟨rfl, fun q3 => ⟨rfl, fun q4 => rfl, fun q4 => trivial⟩, fun q3 => rfl⟩⟩⟩⟩⟩⟩)⟩), fun q1 => trivial⟩), fun q0 => noN_ok 8 (q0) (⟨rfl, rfl⟩)⟩
def Qgl (L0 : QhS) (L1 : QhT) (a0 : ByteArray) : Option ByteArray := ((L0 a0).bind (fun (o1 : ByteArray) => ((L1 o1).bind (fun (o2 : ByteArray) => (some o2)))))
noncomputable def V5 : QdV := Qgl Xj Xk
theorem V5.eq (a0 : ByteArray) : V5 a0 = Qgl Xj Xk a0 := rfl
noncomputable def QqK (a0 : ByteArray) : Tr ByteArray AH := (Qm3 a0 (fun o1 => (Qm5 o1 (fun o2 => (rt Qk o2)))))
theorem V5.ok {a0 : ByteArray} {r : ByteArray} (h : V5 a0 = some r) : ww 53 [xs a0] [] = some (Qk r) := by
 refine fnP (QqK a0) ?_ h
 exact fun o1 h => ⟨Xj.ok h, fun o2 h => ⟨Xk.ok h, rfl⟩⟩
noncomputable abbrev Zm {ρ R : Type} (a0 : ByteArray) (k : ByteArray → Tr ρ R) : Tr ρ R := .call (ww 53 [xs a0] []) (V5 a0) Qk k
def Qaq (r : (ByteArray × ByteArray)) : AV × Heap := (.tup [xs r.1, xs r.2], [])
abbrev QkZ := ByteArray → Option (ByteArray × ByteArray)
structure U1 where
 x0 : ByteArray
 x4 : Int
structure V6 where
 x2 : ByteArray
 x3 : ByteArray
def EO (a : U1) : St := { n := 30, nx := 0, env := [(0, xs a.x0), (4, xi a.x4)], heap := [] }
def Qdk (a : V6) : Ex × St := (.ret, { n := 30, nx := 0, env := [(2, xs a.x2), (3, xs a.x3)], heap := [] })
def Qdl (a : ByteArray) : Ex × St := (.exit 0, { n := 30, nx := 0, env := [(0, xs a)], heap := [] })
def SV (a : (V6 ⊕ ByteArray)) : Ex × St := Sum.elim Qdk Qdl a
abbrev Qgm := U1 → Option (V6 ⊕ ByteArray)
def EP (C0 : Qig) (C1 : QdV) (a : U1) : Option (U1 ⊕ (V6 ⊕ ByteArray)) := (bif (decide (a.x4 < ((a.x0.size : Nat) : Int))) then (bif (decide (0 ≤ a.x4 ∧ a.x4 < ((a.x0.size : Nat) : Int))) then (bif (((a.x0.data.getD (Int.toNat a.x4) 0).toNat : Int) == 58) then (bif (decide (0 ≤ (0 : Int) ∧ (0 : Int) ≤ a.x4 ∧ a.x4 ≤ ((a.x0.size : Nat) : Int))) then ((C0 (a.x0.extract (Int.toNat 0) (Int.toNat a.x4))).bind fun r1 => (bif r1 then (bif (decide (0 ≤ (w64 (a.x4 + 1)) ∧ (w64 (a.x4 + 1)) ≤ ((a.x0.size : Nat) : Int) ∧ ((a.x0.size : Nat) : Int) ≤ ((a.x0.size : Nat) : Int))) then ((C1 (a.x0.extract (Int.toNat (w64 (a.x4 + 1))) (Int.toNat ((a.x0.size : Nat) : Int)))).bind fun r2 => (some (.inr (.inl (V6.mk (a.x0.extract (Int.toNat 0) (Int.toNat a.x4)) r2))))) else none) else (some (.inl (U1.mk a.x0 (w64 (a.x4 + 1))))))) else none) else (some (.inl (U1.mk a.x0 (w64 (a.x4 + 1)))))) else none) else (some (.inr (.inr a.x0))))
noncomputable def VR : Qgm := loopW (EP YE V5)
theorem VR.eq (a : U1) : VR a = (EP YE V5 a).bind (Sum.elim VR some) := Jf _ _
noncomputable abbrev QlQ {ρ R : Type} (a : U1) (k0 : V6 → Tr ρ R) (k1 : ByteArray → Tr ρ R) : Tr ρ R := .loop2 (loopAt pp 52 2) (EO a) (VR a) Qdk Qdl k0 k1
noncomputable def QlR (a : U1) : Tr (U1 ⊕ (V6 ⊕ ByteArray)) XS := (.as (decide (a.x4 < (zz a.x0))) (.as (in1 a.x4 (zz a.x0)) (let u137 := ((gb a.x0 a.x4) == 58); .as u137 (yesN 2 u137 (let u136 := (in2 i0 a.x4 (zz a.x0)); .as u136 (.yes u137 (QkQ (cu a.x0 i0 a.x4) fun r1 => (.yes u137 (.as r1 (.yes u136 (.as (in2 (w64 (a.x4 + 1)) (zz a.x0) (zz a.x0)) (Zm (cu a.x0 (w64 (a.x4 + 1)) (zz a.x0)) fun r2 => (rx SV (.inl (V6.mk (cu a.x0 i0 a.x4) r2)))) .fail)) (lf EO (U1.mk a.x0 (w64 (a.x4 + 1)))))))) .fail)) (noN 4 u137 (.no false (lf EO (U1.mk a.x0 (w64 (a.x4 + 1))))))) .fail) (rx SV (.inr a.x0)))
theorem VR.ok {a : U1} {r : (V6 ⊕ ByteArray)} (h : VR a = some r) : lw 0 52 (loopAt pp 52 2) (EO a) = some (SV r) := by
 refine lpP h QlR fun a => ?_
 exact ⟨rfl, fun q0 => ⟨rfl, fun q1 => ⟨rfl, fun q2 => Qj 2 (q2) (⟨rfl, fun q3 => ⟨q2, fun r1 h => ⟨YE.ok h, ⟨q2, ⟨rfl, fun q4 => ⟨q3, ⟨rfl, fun q5 => fun r2 h => ⟨V5.ok h, rfl⟩, fun q5 => trivial⟩⟩, fun q4 => rfl⟩⟩⟩⟩, fun q3 => trivial⟩), fun q2 => noN_ok 4 (q2) (⟨rfl, rfl⟩)⟩, fun q1 => trivial⟩, fun q0 => rfl⟩
def QdW (L0 : Qgm) (a0 : ByteArray) : Option (ByteArray × ByteArray) := ((L0 (U1.mk a0 (0 : Int))).bind fun x => Sum.elim (fun (o1 : V6) => (some (o1.x2, o1.x3))) (fun (o2 : ByteArray) => (some (s_, o2))) x)
noncomputable def Zw : QkZ := QdW VR
theorem Zw.eq (a0 : ByteArray) : Zw a0 = QdW VR a0 := rfl
noncomputable def QpN (a0 : ByteArray) : Tr (ByteArray × ByteArray) AH := (QlQ (U1.mk a0 i0) (fun o1 => (rt Qaq (o1.x2, o1.x3))) (fun o2 => (rt Qaq (s_, o2))))
theorem Zw.ok {a0 : ByteArray} {r : (ByteArray × ByteArray)} (h : Zw a0 = some r) : ww 52 [xs a0] [] = some (Qaq r) := by
 refine fnP (QpN a0) ?_ h
 exact ⟨fun o1 h => ⟨VR.ok (r := (.inl _)) h, rfl⟩, fun o2 h => ⟨VR.ok (r := (.inr _)) h, rfl⟩⟩
noncomputable abbrev QpO {ρ R : Type} (a0 : ByteArray) (k : (ByteArray × ByteArray) → Tr ρ R) : Tr ρ R := .call (ww 52 [xs a0] []) (Zw a0) Qaq k
abbrev Qk0 := ByteArray → Option (List ByteArray)
structure QQ where
 x0 : ByteArray
 x4 : Bool
 x5 : Int
 x6 : Int
 r0 : (List ByteArray)
def Vi (a : QQ) : St := { n := 50, nx := 1, env := [(0, xs a.x0), (3, .arr 0), (4, xo a.x4), (5, xi a.x5), (6, xi a.x6)], heap := [(0, .arr true 1 (Qg a.r0))] }
def SW (a : (List ByteArray)) : Ex × St := (.exit 0, { n := 50, nx := 1, env := [(3, .arr 0)], heap := [(0, .arr true 1 (Qg a))] })
abbrev Qgn := QQ → Option (List ByteArray)
def Gh (C0 : QdV) (a : QQ) : Option (QQ ⊕ (List ByteArray)) := (bif (decide (a.x6 ≤ ((a.x0.size : Nat) : Int))) then (bif (decide (a.x6 < ((a.x0.size : Nat) : Int))) then (bif (decide (0 ≤ a.x6 ∧ a.x6 < ((a.x0.size : Nat) : Int))) then (bif (((a.x0.data.getD (Int.toNat a.x6) 0).toNat : Int) == 34) then (bif (a.x6 == ((a.x0.size : Nat) : Int)) then (bif (decide (0 ≤ a.x5 ∧ a.x5 ≤ a.x6 ∧ a.x6 ≤ ((a.x0.size : Nat) : Int))) then ((C0 (a.x0.extract (Int.toNat a.x5) (Int.toNat a.x6))).bind fun r1 => (bif (decide ((a.r0.length + [r1].length) * 16 ≤ most)) then (some (.inl (QQ.mk a.x0 (!a.x4) (w64 (a.x6 + 1)) (w64 (a.x6 + 1)) (a.r0 ++ [r1])))) else none)) else none) else (bif (((a.x0.data.getD (Int.toNat a.x6) 0).toNat : Int) == 44) then (bif (!(!a.x4)) then (bif (decide (0 ≤ a.x5 ∧ a.x5 ≤ a.x6 ∧ a.x6 ≤ ((a.x0.size : Nat) : Int))) then ((C0 (a.x0.extract (Int.toNat a.x5) (Int.toNat a.x6))).bind fun r2 => (bif (decide ((a.r0.length + [r2].length) * 16 ≤ most)) then (some (.inl (QQ.mk a.x0 (!a.x4) (w64 (a.x6 + 1)) (w64 (a.x6 + 1)) (a.r0 ++ [r2])))) else none)) else none) else (some (.inl (QQ.mk a.x0 (!a.x4) a.x5 (w64 (a.x6 + 1)) a.r0)))) else (some (.inl (QQ.mk a.x0 (!a.x4) a.x5 (w64 (a.x6 + 1)) a.r0))))) else (bif (a.x6 == ((a.x0.size : Nat) : Int)) then (bif (decide (0 ≤ a.x5 ∧ a.x5 ≤ a.x6 ∧ a.x6 ≤ ((a.x0.size : Nat) : Int))) then ((C0 (a.x0.extract (Int.toNat a.x5) (Int.toNat a.x6))).bind fun r3 => (bif (decide ((a.r0.length + [r3].length) * 16 ≤ most)) then (some (.inl (QQ.mk a.x0 a.x4 (w64 (a.x6 + 1)) (w64 (a.x6 + 1)) (a.r0 ++ [r3])))) else none)) else none) else (bif (((a.x0.data.getD (Int.toNat a.x6) 0).toNat : Int) == 44) then (bif (!a.x4) then (bif (decide (0 ≤ a.x5 ∧ a.x5 ≤ a.x6 ∧ a.x6 ≤ ((a.x0.size : Nat) : Int))) then ((C0 (a.x0.extract (Int.toNat a.x5) (Int.toNat a.x6))).bind fun r4 => (bif (decide ((a.r0.length + [r4].length) * 16 ≤ most)) then (some (.inl (QQ.mk a.x0 a.x4 (w64 (a.x6 + 1)) (w64 (a.x6 + 1)) (a.r0 ++ [r4])))) else none)) else none) else (some (.inl (QQ.mk a.x0 a.x4 a.x5 (w64 (a.x6 + 1)) a.r0)))) else (some (.inl (QQ.mk a.x0 a.x4 a.x5 (w64 (a.x6 + 1)) a.r0)))))) else none) else (bif (a.x6 == ((a.x0.size : Nat) : Int)) then (bif (decide (0 ≤ a.x5 ∧ a.x5 ≤ a.x6 ∧ a.x6 ≤ ((a.x0.size : Nat) : Int))) then ((C0 (a.x0.extract (Int.toNat a.x5) (Int.toNat a.x6))).bind fun r5 => (bif (decide ((a.r0.length + [r5].length) * 16 ≤ most)) then (some (.inl (QQ.mk a.x0 a.x4 (w64 (a.x6 + 1)) (w64 (a.x6 + 1)) (a.r0 ++ [r5])))) else none)) else none) else (bif (decide (0 ≤ a.x6 ∧ a.x6 < ((a.x0.size : Nat) : Int))) then (bif (((a.x0.data.getD (Int.toNat a.x6) 0).toNat : Int) == 44) then (bif (!a.x4) then (bif (decide (0 ≤ a.x5 ∧ a.x5 ≤ a.x6 ∧ a.x6 ≤ ((a.x0.size : Nat) : Int))) then ((C0 (a.x0.extract (Int.toNat a.x5) (Int.toNat a.x6))).bind fun r6 => (bif (decide ((a.r0.length + [r6].length) * 16 ≤ most)) then (some (.inl (QQ.mk a.x0 a.x4 (w64 (a.x6 + 1)) (w64 (a.x6 + 1)) (a.r0 ++ [r6])))) else none)) else none) else (some (.inl (QQ.mk a.x0 a.x4 a.x5 (w64 (a.x6 + 1)) a.r0)))) else (some (.inl (QQ.mk a.x0 a.x4 a.x5 (w64 (a.x6 + 1)) a.r0)))) else none))) else (some (.inr a.r0)))
noncomputable def Vb : Qgn := loopW (Gh V5)
theorem Vb.eq (a : QQ) : Vb a = (Gh V5 a).bind (Sum.elim Vb some) := Jf _ _
noncomputable abbrev QlS {ρ R : Type} (a : QQ) (k0 : (List ByteArray) → Tr ρ R) : Tr ρ R := .loop (loopAt pp 55 4) (Vi a) (Vb a) SW k0
noncomputable def QlT (a : QQ) : Tr (QQ ⊕ (List ByteArray)) XS := (.as (decide (a.x6 ≤ (zz a.x0))) (let u145 := (decide (a.x6 < (zz a.x0))); .as u145 (yesN 2 u145 (let u142 := (in1 a.x6 (zz a.x0)); .as u142 (yesN 2 u145 (.as ((gb a.x0 a.x6) == 34) (let u139 := (a.x6 == (zz a.x0)); .as u139 (yesN 6 u139 (.yes true (.as (in2 a.x5 a.x6 (zz a.x0)) (Zm (cu a.x0 a.x5 a.x6) fun r1 => (.rows [[xs r1]] (Qg [r1]) (.yes (decide ((Qg [r1]).all (fun r => r.length == 1) = true)) (.ask (decide (((Qg a.r0).length + (Qg [r1]).length) * 16 ≤ most)) (decide ((a.r0.length + [r1].length) * 16 ≤ most)) (.rows ((Qg a.r0) ++ (Qg [r1])) (Qg (a.r0 ++ [r1])) (lf Vi (QQ.mk a.x0 (!a.x4) (w64 (a.x6 + 1)) (w64 (a.x6 + 1)) (a.r0 ++ [r1])))) .fail)))) .fail))) (noN 2 u139 (.yes u142 (noN 2 u139 (let u138 := ((gb a.x0 a.x6) == 44); .as u138 (.yes u138 (.no u139 (.yes u138 (.no u139 (.as (!(!a.x4)) (.as (in2 a.x5 a.x6 (zz a.x0)) (Zm (cu a.x0 a.x5 a.x6) fun r2 => (.rows [[xs r2]] (Qg [r2]) (.yes (decide ((Qg [r2]).all (fun r => r.length == 1) = true)) (.ask (decide (((Qg a.r0).length + (Qg [r2]).length) * 16 ≤ most)) (decide ((a.r0.length + [r2].length) * 16 ≤ most)) (.rows ((Qg a.r0) ++ (Qg [r2])) (Qg (a.r0 ++ [r2])) (lf Vi (QQ.mk a.x0 (!a.x4) (w64 (a.x6 + 1)) (w64 (a.x6 + 1)) (a.r0 ++ [r2])))) .fail)))) .fail) (lf Vi (QQ.mk a.x0 (!a.x4) a.x5 (w64 (a.x6 + 1)) a.r0))))))) (.no u138 (.no u139 (.no u138 (.no u139 (.no false (lf Vi (QQ.mk a.x0 (!a.x4) a.x5 (w64 (a.x6 + 1)) a.r0)))))))))))) (let u141 := (a.x6 == (zz a.x0)); .as u141 (yesN 6 u141 (.yes true (.as (in2 a.x5 a.x6 (zz a.x0)) (Zm (cu a.x0 a.x5 a.x6) fun r3 => (.rows [[xs r3]] (Qg [r3]) (.yes (decide ((Qg [r3]).all (fun r => r.length == 1) = true)) (.ask (decide (((Qg a.r0).length + (Qg [r3]).length) * 16 ≤ most)) (decide ((a.r0.length + [r3].length) * 16 ≤ most)) (.rows ((Qg a.r0) ++ (Qg [r3])) (Qg (a.r0 ++ [r3])) (lf Vi (QQ.mk a.x0 a.x4 (w64 (a.x6 + 1)) (w64 (a.x6 + 1)) (a.r0 ++ [r3])))) .fail)))) .fail))) (noN 2 u141 (.yes u142 (noN 2 u141 (let u140 := ((gb a.x0 a.x6) == 44); .as u140 (.yes u140 (.no u141 (.yes u140 (.no u141 (.as (!a.x4) (.as (in2 a.x5 a.x6 (zz a.x0)) (Zm (cu a.x0 a.x5 a.x6) fun r4 => (.rows [[xs r4]] (Qg [r4]) (.yes (decide ((Qg [r4]).all (fun r => r.length == 1) = true)) (.ask (decide (((Qg a.r0).length + (Qg [r4]).length) * 16 ≤ most)) (decide ((a.r0.length + [r4].length) * 16 ≤ most)) (.rows ((Qg a.r0) ++ (Qg [r4])) (Qg (a.r0 ++ [r4])) (lf Vi (QQ.mk a.x0 a.x4 (w64 (a.x6 + 1)) (w64 (a.x6 + 1)) (a.r0 ++ [r4])))) .fail)))) .fail) (lf Vi (QQ.mk a.x0 a.x4 a.x5 (w64 (a.x6 + 1)) a.r0))))))) (.no u140 (.no u141 (.no u140 (.no u141 (.no false (lf Vi (QQ.mk a.x0 a.x4 a.x5 (w64 (a.x6 + 1)) a.r0)))))))))))))) .fail)) (noN 4 u145 (.no false (let u144 := (a.x6 == (zz a.x0)); .as u144 (yesN 6 u144 (.yes true (.as (in2 a.x5 a.x6 (zz a.x0)) (Zm (cu a.x0 a.x5 a.x6) fun r5 => (.rows [[xs r5]] (Qg [r5]) (.yes (decide ((Qg [r5]).all (fun r => r.length == 1) = true)) (.ask (decide (((Qg a.r0).length + (Qg [r5]).length) * 16 ≤ most)) (decide ((a.r0.length + [r5].length) * 16 ≤ most)) (.rows ((Qg a.r0) ++ (Qg [r5])) (Qg (a.r0 ++ [r5])) (lf Vi (QQ.mk a.x0 a.x4 (w64 (a.x6 + 1)) (w64 (a.x6 + 1)) (a.r0 ++ [r5])))) .fail)))) .fail))) (noN 2 u144 (.as (in1 a.x6 (zz a.x0)) (noN 2 u144 (let u143 := ((gb a.x0 a.x6) == 44); .as u143 (.yes u143 (.no u144 (.yes u143 (.no u144 (.as (!a.x4) (.as (in2 a.x5 a.x6 (zz a.x0)) (Zm (cu a.x0 a.x5 a.x6) fun r6 => (.rows [[xs r6]] (Qg [r6]) (.yes (decide ((Qg [r6]).all (fun r => r.length == 1) = true)) (.ask (decide (((Qg a.r0).length + (Qg [r6]).length) * 16 ≤ most)) (decide ((a.r0.length + [r6].length) * 16 ≤ most)) (.rows ((Qg a.r0) ++ (Qg [r6])) (Qg (a.r0 ++ [r6])) (lf Vi (QQ.mk a.x0 a.x4 (w64 (a.x6 + 1)) (w64 (a.x6 + 1)) (a.r0 ++ [r6])))) .fail)))) .fail) (lf Vi (QQ.mk a.x0 a.x4 a.x5 (w64 (a.x6 + 1)) a.r0))))))) (.no u143 (.no u144 (.no u143 (.no u144 (.no false (lf Vi (QQ.mk a.x0 a.x4 a.x5 (w64 (a.x6 + 1)) a.r0))))))))) .fail)))))) (rx SW a.r0))
theorem Vb.ok {a : QQ} {r : (List ByteArray)} (h : Vb a = some r) : lw 0 55 (loopAt pp 55 4) (Vi a) = some (SW r) := by
 refine lpP h QlT fun a => ?_
 exact ⟨rfl, fun q0 => ⟨rfl, fun q1 => Qj 2 (q1) (⟨rfl, fun q2 => Qj 2 (q1) (⟨rfl, fun q3 => ⟨rfl, fun q4 => Qj 6 (q4) (⟨rfl, ⟨rfl, fun q5 => fun r1 h => ⟨V5.ok h, ⟨(QP [r1]), ⟨(decide_eq_true (J6 _)), ⟨(by rw [Qo, Qo]), fun q6 => ⟨(UT _ _), rfl⟩, fun q6 => trivial⟩⟩⟩⟩, fun q5 => trivial⟩⟩), fun q4 => noN_ok 2 (q4) (⟨q2, noN_ok 2 (q4) (⟨rfl, fun q5 => ⟨q5, ⟨q4, ⟨q5, ⟨q4, ⟨rfl, fun q6 => ⟨rfl, fun q7 => fun r2 h => ⟨V5.ok h, ⟨(QP [r2]), ⟨(decide_eq_true (J6 _)), ⟨(by rw [Qo, Qo]), fun q8 => ⟨(UT _ _), rfl⟩, fun q8 => trivial⟩⟩⟩⟩, fun q7 => trivial⟩, fun q6 => rfl⟩⟩⟩⟩⟩, fun q5 => ⟨q5, ⟨q4, ⟨q5, ⟨q4, ⟨rfl, rfl⟩⟩⟩⟩⟩⟩)⟩)⟩, fun q3 => ⟨rfl, fun q4 => Qj 6 (q4) (⟨rfl, ⟨rfl, fun q5 => fun r3 h => ⟨V5.ok h, ⟨(QP [r3]), ⟨(decide_eq_true (J6 _)), ⟨(by rw [Qo, Qo]), fun q6 => ⟨(UT _ _), rfl⟩, fun q6 => trivial⟩⟩⟩⟩, fun q5 => trivial⟩⟩), fun q4 => noN_ok 2 (q4) (⟨q2, noN_ok 2 (q4) (⟨rfl, fun q5 => ⟨q5, ⟨q4, ⟨q5, ⟨q4, ⟨rfl, fun q6 => ⟨rfl, fun q7 => fun r4 h => ⟨V5.ok h, ⟨(QP [r4]), ⟨(decide_eq_true (J6 _)), ⟨(by rw [Qo, Qo]), fun q8 => ⟨(UT _ _), rfl⟩, fun q8 => trivial⟩⟩⟩⟩, fun q7 => trivial⟩, fun q6 => rfl⟩⟩⟩⟩⟩, fun q5 => ⟨q5, ⟨q4, ⟨q5, ⟨q4, ⟨rfl, rfl⟩⟩⟩⟩⟩⟩)⟩)⟩⟩), fun q2 => trivial⟩), fun q1 => noN_ok 4 (q1) (⟨rfl, ⟨rfl, fun q2 => Qj 6 (q2) (⟨rfl, ⟨rfl, fun q3 => fun r5 h => ⟨V5.ok h, ⟨(QP [r5]), ⟨(decide_eq_true (J6 _)), ⟨(by rw [Qo, Qo]), fun q4 => ⟨(UT _ _), rfl⟩, fun q4 => trivial⟩⟩⟩⟩, fun q3 => trivial⟩⟩), fun q2 => noN_ok 2 (q2) (⟨rfl, fun q3 => noN_ok 2 (q2) (⟨rfl, fun q4 => ⟨q4, ⟨q2, ⟨q4, ⟨q2, ⟨rfl, fun q5 => ⟨rfl, fun q6 => fun r6 h => ⟨V5.ok h, ⟨(QP [r6]), ⟨(decide_eq_true (J6 _)), ⟨(by rw [Qo, Qo]), fun q7 => ⟨(UT _ _), rfl⟩, fun q7 => trivial⟩⟩⟩⟩, fun q6 => trivial⟩, fun q5 => rfl⟩⟩⟩⟩⟩, fun q4 => ⟨q4, ⟨q2, ⟨q4, ⟨q2, ⟨rfl, rfl⟩⟩⟩⟩⟩⟩), fun q3 => trivial⟩)⟩⟩)⟩, fun q0 => rfl⟩
def QdX (L0 : Qgn) (a0 : ByteArray) : Option (List ByteArray) := ((L0 (QQ.mk a0 false (0 : Int) (0 : Int) ([] : List ByteArray))).bind (fun (o1 : (List ByteArray)) => (some o1)))
noncomputable def YU : Qk0 := QdX Vb
theorem YU.eq (a0 : ByteArray) : YU a0 = QdX Vb a0 := rfl
noncomputable def QpP (a0 : ByteArray) : Tr (List ByteArray) AH := (QlS (QQ.mk a0 false i0 i0 ([] : List ByteArray)) (fun o1 => (rt Jd o1)))
theorem YU.ok {a0 : ByteArray} {r : (List ByteArray)} (h : YU a0 = some r) : ww 55 [xs a0] [] = some (Jd r) := by
 refine fnP (QpP a0) ?_ h
 exact fun o1 h => ⟨Vb.ok h, rfl⟩
noncomputable abbrev QpQ {ρ R : Type} (a0 : ByteArray) (k : (List ByteArray) → Tr ρ R) : Tr ρ R := .call (ww 55 [xs a0] []) (YU a0) Jd k
abbrev QoE := ByteArray → Option Int
structure VS where
 x0 : ByteArray
 x3 : Int
 x4 : Int
def Qcu (a : VS) : St := { n := 55, nx := 0, env := [(0, xs a.x0), (3, xi a.x3), (4, xi a.x4)], heap := [] }
def Qgo (a : Int) : Ex × St := (.ret, { n := 55, nx := 0, env := [(2, xi a)], heap := [] })
def Qgp (a : Int) : Ex × St := (.exit 0, { n := 55, nx := 0, env := [(3, xi a)], heap := [] })
def P7 (a : (Int ⊕ Int)) : Ex × St := Sum.elim Qgo Qgp a
abbrev Qjv := VS → Option (Int ⊕ Int)
def P8 (a : VS) : Option (VS ⊕ (Int ⊕ Int)) := (bif (decide (a.x4 < ((a.x0.size : Nat) : Int))) then (bif (decide (0 ≤ a.x4 ∧ a.x4 < ((a.x0.size : Nat) : Int))) then (bif (decide (((a.x0.data.getD (Int.toNat a.x4) 0).toNat : Int) < 48)) then (some (.inr (.inl (-1 : Int)))) else (bif (decide (((a.x0.data.getD (Int.toNat a.x4) 0).toNat : Int) > 57)) then (some (.inr (.inl (-1 : Int)))) else (some (.inl (VS.mk a.x0 (w64 ((w64 ((10 : Int) * a.x3)) + (w64 (IntKind.u8.wrap (((a.x0.data.getD (Int.toNat a.x4) 0).toNat : Int) - 48))))) (w64 (a.x4 + 1))))))) else none) else (some (.inr (.inr a.x3))))
noncomputable def UQ : Qjv := loopW (P8 )
theorem UQ.eq (a : VS) : UQ a = (P8 a).bind (Sum.elim UQ some) := Jf _ _
noncomputable abbrev QhU {ρ R : Type} (a : VS) (k0 : Int → Tr ρ R) (k1 : Int → Tr ρ R) : Tr ρ R := .loop2 (loopAt pp 205 5) (Qcu a) (UQ a) Qgo Qgp k0 k1
noncomputable def Qod (a : VS) : Tr (VS ⊕ (Int ⊕ Int)) XS := (.as (decide (a.x4 < (zz a.x0))) (let u147 := (in1 a.x4 (zz a.x0)); .as u147 (let u146 := (decide ((gb a.x0 a.x4) < 48)); .as u146 (yesN 4 u146 (.yes true (rx P7 (.inl (-1 : Int))))) (noN 2 u146 (.yes u147 (noN 2 u146 (.as (decide ((gb a.x0 a.x4) > 57)) (rx P7 (.inl (-1 : Int))) (.yes u147 (lf Qcu (VS.mk a.x0 (w64 ((w64 ((zi 10) * a.x3)) + (w64 (IntKind.u8.wrap ((gb a.x0 a.x4) - 48))))) (w64 (a.x4 + 1)))))))))) .fail) (rx P7 (.inr a.x3)))
theorem UQ.ok {a : VS} {r : (Int ⊕ Int)} (h : UQ a = some r) : lw 0 205 (loopAt pp 205 5) (Qcu a) = some (P7 r) := by
 refine lpP h Qod fun a => ?_
 exact ⟨rfl, fun q0 => ⟨rfl, fun q1 => ⟨rfl, fun q2 => Qj 4 (q2) (⟨rfl, rfl⟩), fun q2 => noN_ok 2 (q2) (⟨q1, noN_ok 2 (q2) (⟨rfl, fun q3 => rfl, fun q3 => ⟨q1, rfl⟩⟩)⟩)⟩, fun q1 => trivial⟩, fun q0 => rfl⟩
def Qix (L0 : Qjv) (a0 : ByteArray) : Option Int := (bif (decide (((a0.size : Nat) : Int) < 2)) then (some (-1 : Int)) else (bif (decide (((a0.size : Nat) : Int) > 3)) then (some (-1 : Int)) else (bif (decide (0 ≤ (0 : Int) ∧ (0 : Int) < ((a0.size : Nat) : Int))) then (bif (((a0.data.getD (Int.toNat 0) 0).toNat : Int) != 114) then (some (-1 : Int)) else (bif (decide (0 ≤ (1 : Int) ∧ (1 : Int) < ((a0.size : Nat) : Int))) then (bif (((a0.data.getD (Int.toNat 1) 0).toNat : Int) == 48) then (bif (decide (((a0.size : Nat) : Int) > 2)) then (some (-1 : Int)) else ((L0 (VS.mk a0 (0 : Int) (1 : Int))).bind fun x => Sum.elim (fun (o1 : Int) => (some o1)) (fun (o2 : Int) => (bif (decide (o2 > 31)) then (some (-1 : Int)) else (some o2))) x)) else ((L0 (VS.mk a0 (0 : Int) (1 : Int))).bind fun x => Sum.elim (fun (o3 : Int) => (some o3)) (fun (o4 : Int) => (bif (decide (o4 > 31)) then (some (-1 : Int)) else (some o4))) x)) else none)) else none)))
noncomputable def EE : QoE := Qix UQ
theorem EE.eq (a0 : ByteArray) : EE a0 = Qix UQ a0 := rfl
noncomputable def QrI (a0 : ByteArray) : Tr Int AH := (let u151 := (decide ((zz a0) < 2)); .as u151 (yesN 3 u151 (yesN 11 true (rt Qm (-1 : Int)))) (noN 3 u151 (let u150 := (decide ((zz a0) > 3)); .as u150 (yesN 3 u150 (yesN 7 true (rt Qm (-1 : Int)))) (.no u150 (.as (in1 i0 (zz a0)) (noN 2 u150 (let u149 := ((gb a0 i0) != 114); .as u149 (yesN 5 u149 (.yes true (rt Qm (-1 : Int)))) (.no u149 (.as (in1 (zi 1) (zz a0)) (noN 2 u149 (let u148 := ((gb a0 (zi 1)) == 48); .as u148 (yesN 2 u148 (.no u149 (.yes u148 (.no u149 (.as (decide ((zz a0) > 2)) (rt Qm (-1 : Int)) (QhU (VS.mk a0 i0 (zi 1)) (fun o1 => (rt Qm o1)) (fun o2 => (.as (decide (o2 > 31)) (rt Qm (-1 : Int)) (rt Qm o2))))))))) (noN 2 u148 (.no u149 (.no u148 (.no u149 (.no false (QhU (VS.mk a0 i0 (zi 1)) (fun o3 => (rt Qm o3)) (fun o4 => (.as (decide (o4 > 31)) (rt Qm (-1 : Int)) (rt Qm o4))))))))))) .fail)))) .fail)))))
theorem EE.ok {a0 : ByteArray} {r : Int} (h : EE a0 = some r) : ww 205 [xs a0] [] = some (Qm r) := by
 refine fnP (QrI a0) ?_ h
 exact ⟨rfl, fun q0 => Qj 3 (q0) (Qj 11 (rfl) (rfl)), fun q0 => noN_ok 3 (q0) (⟨rfl, fun q1 => Qj 3 (q1) (Qj 7 (rfl) (rfl)), fun q1 => ⟨q1, ⟨rfl, fun q2 => noN_ok 2 (q1) (⟨rfl, fun q3 => Qj 5 (q3) (⟨rfl, rfl⟩), fun q3 => ⟨q3, ⟨rfl, fun q4 => noN_ok 2 (q3) (⟨rfl, fun q5 => Qj 2 (q5) (⟨q3, ⟨q5, ⟨q3, ⟨rfl, fun q6 => rfl, fun q6 => ⟨fun o1 h => ⟨UQ.ok (r := (.inl _)) h, rfl⟩, fun o2 h => ⟨UQ.ok (r := (.inr _)) h, ⟨rfl, fun q7 => rfl, fun q7 => rfl⟩⟩⟩⟩⟩⟩⟩), fun q5 => noN_ok 2 (q5) (⟨q3, ⟨q5, ⟨q3, ⟨rfl, ⟨fun o3 h => ⟨UQ.ok (r := (.inl _)) h, rfl⟩, fun o4 h => ⟨UQ.ok (r := (.inr _)) h, ⟨rfl, fun q6 => rfl, fun q6 => rfl⟩⟩⟩⟩⟩⟩⟩)⟩), fun q4 => trivial⟩⟩⟩), fun q2 => trivial⟩⟩⟩)⟩
noncomputable abbrev QrJ {ρ R : Type} (a0 : ByteArray) (k : Int → Tr ρ R) : Tr ρ R := .call (ww 205 [xs a0] []) (EE a0) Qm k
def QdY (r : (Qc × Bool)) : AV × Heap := (.tup [.agg (WZ r.1), xo r.2], [])
abbrev QoF := ByteArray → Bool → Option (Qc × Bool)
def Qiy (C0 : QoE) (C1 : Qgd) (a0 : ByteArray) (a1 : Bool) : Option (Qc × Bool) := (bif a1 then ((C0 a0).bind fun r1 => (some ((Qc.mk (if (0 : Int) > r1 then (0 : Int) else r1) (Qa.mk (0 : Int) (0 : Int) s_ ([] : List Qa))), (decide (r1 ≥ 0))))) else ((C1 a0).bind fun r2 => (some ((Qc.mk (-1 : Int) r2.1), r2.2))))
noncomputable def GV : QoF := Qiy EE WL
theorem GV.eq (a0 : ByteArray) (a1 : Bool) : GV a0 a1 = Qiy EE WL a0 a1 := rfl
noncomputable def QrK (a0 : ByteArray) (a1 : Bool) : Tr (Qc × Bool) AH := (.as a1 (QrJ a0 fun r1 => (rt QdY ((Qc.mk (if i0 > r1 then i0 else r1) (Qa.mk i0 i0 s_ ([] : List Qa))), (decide (r1 ≥ 0))))) (QdU a0 fun r2 => (rt QdY ((Qc.mk (-1 : Int) r2.1), r2.2))))
theorem GV.ok {a0 : ByteArray} {a1 : Bool} {r : (Qc × Bool)} (h : GV a0 a1 = some r) : ww 158 [xs a0, xo a1] [] = some (QdY r) := by
 refine fnP (QrK a0 a1) ?_ h
 exact ⟨rfl, fun q0 => fun r1 h => ⟨EE.ok h, rfl⟩, fun q0 => fun r2 h => ⟨WL.ok h, rfl⟩⟩
noncomputable abbrev Qm7 {ρ R : Type} (a0 : ByteArray) (a1 : Bool) (k : (Qc × Bool) → Tr ρ R) : Tr ρ R := .call (ww 158 [xs a0, xo a1] []) (GV a0 a1) QdY k
def Qb1 (r : ((List Qc) × Bool)) : AV × Heap := (.tup [.sl (Qi r.1), xo r.2], [])
abbrev Qiz := (List ByteArray) → (List ByteArray) → Option ((List Qc) × Bool)
structure UR where
 x0 : (List ByteArray)
 x1 : (List ByteArray)
 x7 : Int
 r0 : (List Qc)
structure Vj where
 x4 : (List Qc)
 x5 : Bool
def Pa (a : UR) : St := { n := 42, nx := 1, env := [(0, .sl (Qg a.x0)), (1, .sl (Qg a.x1)), (6, .arr 0), (7, xi a.x7)], heap := [(0, .arr true 5 (Qi a.r0))] }
def QeG (a : Vj) : Ex × St := (.ret, { n := 42, nx := 0, env := [(4, .sl (Qi a.x4)), (5, xo a.x5)], heap := [] })
def QeH (a : (List Qc)) : Ex × St := (.exit 0, { n := 42, nx := 1, env := [(6, .arr 0)], heap := [(0, .arr true 5 (Qi a))] })
def Pb (a : (Vj ⊕ (List Qc))) : Ex × St := Sum.elim QeG QeH a
abbrev QhV := UR → Option (Vj ⊕ (List Qc))
def Pc (C0 : Qbl) (C1 : QoF) (a : UR) : Option (UR ⊕ (Vj ⊕ (List Qc))) := (bif (decide (a.x7 < (((a.x0.length) : Nat) : Int))) then (bif (decide (a.x7 < (((a.x1.length) : Nat) : Int))) then (bif (decide (0 ≤ a.x7)) then ((a.x1[(Int.toNat a.x7)]?).bind fun e1 => ((C0 e1).bind fun r2 => ((a.x0[(Int.toNat a.x7)]?).bind fun e3 => ((C1 e3 r2).bind fun r4 => (bif (!r4.2) then (some (.inr (.inl (Vj.mk ([] : List Qc) false)))) else (bif (decide ((a.r0.length + [r4.1].length) * 64 ≤ most)) then (some (.inl (UR.mk a.x0 a.x1 (w64 (a.x7 + 1)) (a.r0 ++ [r4.1])))) else none)))))) else none) else (bif (decide (0 ≤ a.x7)) then ((a.x0[(Int.toNat a.x7)]?).bind fun e5 => ((C1 e5 false).bind fun r6 => (bif (!r6.2) then (some (.inr (.inl (Vj.mk ([] : List Qc) false)))) else (bif (decide ((a.r0.length + [r6.1].length) * 64 ≤ most)) then (some (.inl (UR.mk a.x0 a.x1 (w64 (a.x7 + 1)) (a.r0 ++ [r6.1])))) else none)))) else none)) else (some (.inr (.inr a.r0))))
noncomputable def VW : QhV := loopW (Pc JE GV)
theorem VW.eq (a : UR) : VW a = (Pc JE GV a).bind (Sum.elim VW some) := Jf _ _
noncomputable abbrev Qm8 {ρ R : Type} (a : UR) (k0 : Vj → Tr ρ R) (k1 : (List Qc) → Tr ρ R) : Tr ρ R := .loop2 (loopAt pp 101 3) (Pa a) (VW a) QeG QeH k0 k1
noncomputable def Qm9 (a : UR) : Tr (UR ⊕ (Vj ⊕ (List Qc))) XS := (.num ((Qg a.x0).length) (a.x0.length) (.as (decide (a.x7 < (((a.x0.length) : Nat) : Int))) (.num ((Qg a.x1).length) (a.x1.length) (.as (decide (a.x7 < (((a.x1.length) : Nat) : Int))) (let u152 := (decide (0 ≤ a.x7)); .as u152 (.row ((Qg a.x1)[(Int.toNat a.x7)]?) (a.x1[(Int.toNat a.x7)]?) QW fun (e1 : ByteArray) => (Qex e1 fun r2 => (.yes u152 (.row ((Qg a.x0)[(Int.toNat a.x7)]?) (a.x0[(Int.toNat a.x7)]?) QW fun (e3 : ByteArray) => (Qm7 e3 r2 fun r4 => (.as (!r4.2) (rx Pb (.inl (Vj.mk ([] : List Qc) false))) (.rows [[xi r4.1.Reg, xi r4.1.E.Kind, xi r4.1.E.N, xs r4.1.E.Name, .sl (QK r4.1.E.L)]] (Qi [r4.1]) (.yes (decide ((Qi [r4.1]).all (fun r => r.length == 5) = true)) (.ask (decide (((Qi a.r0).length + (Qi [r4.1]).length) * 64 ≤ most)) (decide ((a.r0.length + [r4.1].length) * 64 ≤ most)) (.rows ((Qi a.r0) ++ (Qi [r4.1])) (Qi (a.r0 ++ [r4.1])) (lf Pa (UR.mk a.x0 a.x1 (w64 (a.x7 + 1)) (a.r0 ++ [r4.1])))) .fail))))))))) .fail) (.as (decide (0 ≤ a.x7)) (.row ((Qg a.x0)[(Int.toNat a.x7)]?) (a.x0[(Int.toNat a.x7)]?) QW fun (e5 : ByteArray) => (Qm7 e5 false fun r6 => (.as (!r6.2) (rx Pb (.inl (Vj.mk ([] : List Qc) false))) (.rows [[xi r6.1.Reg, xi r6.1.E.Kind, xi r6.1.E.N, xs r6.1.E.Name, .sl (QK r6.1.E.L)]] (Qi [r6.1]) (.yes (decide ((Qi [r6.1]).all (fun r => r.length == 5) = true)) (.ask (decide (((Qi a.r0).length + (Qi [r6.1]).length) * 64 ≤ most)) (decide ((a.r0.length + [r6.1].length) * 64 ≤ most)) (.rows ((Qi a.r0) ++ (Qi [r6.1])) (Qi (a.r0 ++ [r6.1])) (lf Pa (UR.mk a.x0 a.x1 (w64 (a.x7 + 1)) (a.r0 ++ [r6.1])))) .fail)))))) .fail))) (rx Pb (.inr a.r0))))
theorem VW.ok {a : UR} {r : (Vj ⊕ (List Qc))} (h : VW a = some r) : lw 0 101 (loopAt pp 101 3) (Pa a) = some (Pb r) := by
 refine lpP h Qm9 fun a => ?_
 exact ⟨(Qo _), ⟨rfl, fun q0 => ⟨(Qo _), ⟨rfl, fun q1 => ⟨rfl, fun q2 => fun e1 h => ⟨QO h, fun r2 h => ⟨JE.ok h, ⟨q2, fun e3 h => ⟨QO h, fun r4 h => ⟨GV.ok h, ⟨rfl, fun q3 => rfl, fun q3 => ⟨(JC [r4.1]), ⟨(decide_eq_true (VX _)), ⟨(by rw [Jc, Jc]), fun q4 => ⟨(UY _ _), rfl⟩, fun q4 => trivial⟩⟩⟩⟩⟩⟩⟩⟩⟩, fun q2 => trivial⟩, fun q1 => ⟨rfl, fun q2 => fun e5 h => ⟨QO h, fun r6 h => ⟨GV.ok h, ⟨rfl, fun q3 => rfl, fun q3 => ⟨(JC [r6.1]), ⟨(decide_eq_true (VX _)), ⟨(by rw [Jc, Jc]), fun q4 => ⟨(UY _ _), rfl⟩, fun q4 => trivial⟩⟩⟩⟩⟩⟩, fun q2 => trivial⟩⟩⟩, fun q0 => rfl⟩⟩
def Qgq (L0 : QhV) (a0 : (List ByteArray)) (a1 : (List ByteArray)) : Option ((List Qc) × Bool) := ((L0 (UR.mk a0 a1 (0 : Int) ([] : List Qc))).bind fun x => Sum.elim (fun (o1 : Vj) => (some (o1.x4, o1.x5))) (fun (o2 : (List Qc)) => (some (o2, true))) x)
noncomputable def VC : Qiz := Qgq VW
theorem VC.eq (a0 : (List ByteArray)) (a1 : (List ByteArray)) : VC a0 a1 = Qgq VW a0 a1 := rfl
noncomputable def QqL (a0 : (List ByteArray)) (a1 : (List ByteArray)) : Tr ((List Qc) × Bool) AH := (Qm8 (UR.mk a0 a1 i0 ([] : List Qc)) (fun o1 => (rt Qb1 (o1.x4, o1.x5))) (fun o2 => (rt Qb1 (o2, true))))
theorem VC.ok {a0 : (List ByteArray)} {a1 : (List ByteArray)} {r : ((List Qc) × Bool)} (h : VC a0 a1 = some r) : ww 101 [.sl (Qg a0), .sl (Qg a1)] [] = some (Qb1 r) := by
 refine fnP (QqL a0 a1) ?_ h
 exact ⟨fun o1 h => ⟨VW.ok (r := (.inl _)) h, rfl⟩, fun o2 h => ⟨VW.ok (r := (.inr _)) h, rfl⟩⟩
noncomputable abbrev Yz {ρ R : Type} (a0 : (List ByteArray)) (a1 : (List ByteArray)) (k : ((List Qc) × Bool) → Tr ρ R) : Tr ρ R := .call (ww 101 [.sl (Qg a0), .sl (Qg a1)] []) (VC a0 a1) Qb1 k
def YA (r : (ByteArray × Bool)) : AV × Heap := (.tup [xs r.1, xo r.2], [])
abbrev Qjw := ByteArray → Option (ByteArray × Bool)
structure Vg where
 x0 : ByteArray
 x4 : Int
structure UC where
 x2 : ByteArray
 x3 : Bool
def PI (a : Vg) : St := { n := 54, nx := 0, env := [(0, xs a.x0), (4, xi a.x4)], heap := [] }
def Qb2 (a : UC) : Ex × St := (.ret, { n := 54, nx := 0, env := [(2, xs a.x2), (3, xo a.x3)], heap := [] })
def Qb3 (a : ByteArray) : Ex × St := (.exit 0, { n := 54, nx := 0, env := [(0, xs a)], heap := [] })
def ZZ (a : (UC ⊕ ByteArray)) : Ex × St := Sum.elim Qb2 Qb3 a
abbrev QeI := Vg → Option (UC ⊕ ByteArray)
def G9 (a : Vg) : Option (Vg ⊕ (UC ⊕ ByteArray)) := (bif (decide (a.x4 < (w64 (((a.x0.size : Nat) : Int) - 1)))) then (bif (decide (0 ≤ a.x4 ∧ a.x4 < ((a.x0.size : Nat) : Int))) then (bif (decide (((a.x0.data.getD (Int.toNat a.x4) 0).toNat : Int) < 32)) then (some (.inr (.inl (UC.mk s_ false)))) else (bif (decide (((a.x0.data.getD (Int.toNat a.x4) 0).toNat : Int) > 126)) then (some (.inr (.inl (UC.mk s_ false)))) else (bif (((a.x0.data.getD (Int.toNat a.x4) 0).toNat : Int) == 34) then (some (.inr (.inl (UC.mk s_ false)))) else (some (.inl (Vg.mk a.x0 (w64 (a.x4 + 1)))))))) else none) else (some (.inr (.inr a.x0))))
noncomputable def Vq : QeI := loopW (G9 )
theorem Vq.eq (a : Vg) : Vq a = (G9 a).bind (Sum.elim Vq some) := Jf _ _
noncomputable abbrev Qko {ρ R : Type} (a : Vg) (k0 : UC → Tr ρ R) (k1 : ByteArray → Tr ρ R) : Tr ρ R := .loop2 (loopAt pp 100 4) (PI a) (Vq a) Qb2 Qb3 k0 k1
noncomputable def Qkp (a : Vg) : Tr (Vg ⊕ (UC ⊕ ByteArray)) XS := (.as (decide (a.x4 < (w64 ((zz a.x0) - 1)))) (let u155 := (in1 a.x4 (zz a.x0)); .as u155 (let u154 := (decide ((gb a.x0 a.x4) < 32)); .as u154 (yesN 4 u154 (yesN 6 true (rx ZZ (.inl (UC.mk s_ false))))) (noN 2 u154 (.yes u155 (noN 2 u154 (let u153 := (decide ((gb a.x0 a.x4) > 126)); .as u153 (yesN 4 u153 (.yes true (rx ZZ (.inl (UC.mk s_ false))))) (noN 2 u153 (.yes u155 (noN 2 u153 (.as ((gb a.x0 a.x4) == 34) (rx ZZ (.inl (UC.mk s_ false))) (lf PI (Vg.mk a.x0 (w64 (a.x4 + 1))))))))))))) .fail) (rx ZZ (.inr a.x0)))
theorem Vq.ok {a : Vg} {r : (UC ⊕ ByteArray)} (h : Vq a = some r) : lw 0 100 (loopAt pp 100 4) (PI a) = some (ZZ r) := by
 refine lpP h Qkp fun a => ?_
 exact ⟨rfl, fun q0 => ⟨rfl, fun q1 => ⟨rfl, fun q2 => Qj 4 (q2) (Qj 6 (rfl) (rfl)), fun q2 => noN_ok 2 (q2) (⟨q1, noN_ok 2 (q2) (⟨rfl, fun q3 => Qj 4 (q3) (⟨rfl, rfl⟩), fun q3 => noN_ok 2 (q3) (⟨q1, noN_ok 2 (q3) (⟨rfl, fun q4 => rfl, fun q4 => rfl⟩)⟩)⟩)⟩)⟩, fun q1 => trivial⟩, fun q0 => rfl⟩
def Qcv (L0 : QeI) (a0 : ByteArray) : Option (ByteArray × Bool) := (bif (decide (((a0.size : Nat) : Int) < 2)) then (some (s_, false)) else (bif (decide (0 ≤ (0 : Int) ∧ (0 : Int) < ((a0.size : Nat) : Int))) then (bif (((a0.data.getD (Int.toNat 0) 0).toNat : Int) != 34) then (some (s_, false)) else (bif (decide (0 ≤ (w64 (((a0.size : Nat) : Int) - 1)) ∧ (w64 (((a0.size : Nat) : Int) - 1)) < ((a0.size : Nat) : Int))) then (bif (((a0.data.getD (Int.toNat (w64 (((a0.size : Nat) : Int) - 1))) 0).toNat : Int) != 34) then (some (s_, false)) else (bif (decide (((a0.size : Nat) : Int) > 62)) then (some (s_, false)) else ((L0 (Vg.mk a0 (1 : Int))).bind fun x => Sum.elim (fun (o1 : UC) => (some (o1.x2, o1.x3))) (fun (o2 : ByteArray) => (bif (decide (0 ≤ (1 : Int) ∧ (1 : Int) ≤ (w64 (((o2.size : Nat) : Int) - 1)) ∧ (w64 (((o2.size : Nat) : Int) - 1)) ≤ ((o2.size : Nat) : Int))) then (some ((o2.extract (Int.toNat 1) (Int.toNat (w64 (((o2.size : Nat) : Int) - 1)))), true)) else none)) x))) else none)) else none))
noncomputable def Yc : Qjw := Qcv Vq
theorem Yc.eq (a0 : ByteArray) : Yc a0 = Qcv Vq a0 := rfl
noncomputable def Qoe (a0 : ByteArray) : Tr (ByteArray × Bool) AH := (let u158 := (decide ((zz a0) < 2)); .as u158 (yesN 3 u158 (yesN 12 true (rt YA (s_, false)))) (.no u158 (.as (in1 i0 (zz a0)) (noN 2 u158 (let u157 := ((gb a0 i0) != 34); .as u157 (yesN 6 u157 (yesN 5 true (rt YA (s_, false)))) (noN 4 u157 (.as (in1 (w64 ((zz a0) - 1)) (zz a0)) (noN 2 u157 (let u156 := ((gb a0 (w64 ((zz a0) - 1))) != 34); .as u156 (yesN 3 u156 (.yes true (rt YA (s_, false)))) (noN 3 u156 (.as (decide ((zz a0) > 62)) (rt YA (s_, false)) (Qko (Vg.mk a0 (zi 1)) (fun o1 => (rt YA (o1.x2, o1.x3))) (fun o2 => (.as (in2 (zi 1) (w64 ((zz o2) - 1)) (zz o2)) (rt YA ((cu o2 (zi 1) (w64 ((zz o2) - 1))), true)) .fail))))))) .fail)))) .fail)))
theorem Yc.ok {a0 : ByteArray} {r : (ByteArray × Bool)} (h : Yc a0 = some r) : ww 100 [xs a0] [] = some (YA r) := by
 refine fnP (Qoe a0) ?_ h
 exact ⟨rfl, fun q0 => Qj 3 (q0) (Qj 12 (rfl) (rfl)), fun q0 => ⟨q0, ⟨rfl, fun q1 => noN_ok 2 (q0) (⟨rfl, fun q2 => Qj 6 (q2) (Qj 5 (rfl) (rfl)), fun q2 => noN_ok 4 (q2) (⟨rfl, fun q3 => noN_ok 2 (q2) (⟨rfl, fun q4 => Qj 3 (q4) (⟨rfl, rfl⟩), fun q4 => noN_ok 3 (q4) (⟨rfl, fun q5 => rfl, fun q5 => ⟨fun o1 h => ⟨Vq.ok (r := (.inl _)) h, rfl⟩, fun o2 h => ⟨Vq.ok (r := (.inr _)) h, ⟨rfl, fun q6 => rfl, fun q6 => trivial⟩⟩⟩⟩)⟩), fun q3 => trivial⟩)⟩), fun q1 => trivial⟩⟩⟩
noncomputable abbrev Qof {ρ R : Type} (a0 : ByteArray) (k : (ByteArray × Bool) → Tr ρ R) : Tr ρ R := .call (ww 100 [xs a0] []) (Yc a0) YA k
abbrev Qk1 := ByteArray → (List ByteArray) → Option (Qb × Bool)
def QdZ (C0 : Qiz) (C1 : Qjw) (C2 : Qig) (a0 : ByteArray) (a1 : (List ByteArray)) : Option (Qb × Bool) := (bif (eqS a0 QD) then (bif (decide ((((a1.length) : Nat) : Int) < 1)) then (some ((Qb.mk (0 : Int) s_ (3 : Int) (0 : Int) s_ ([] : List Qc)), false)) else (bif (decide ((((a1.length) : Nat) : Int) > 16)) then (some ((Qb.mk (0 : Int) s_ (3 : Int) (0 : Int) s_ ([] : List Qc)), false)) else ((C0 a1 ([] : List ByteArray)).bind fun r1 => (some ((Qb.mk (0 : Int) s_ (3 : Int) (0 : Int) s_ r1.1), r1.2))))) else (bif (eqS a0 Q5) then (bif (decide ((((a1.length) : Nat) : Int) < 1)) then (some ((Qb.mk (0 : Int) s_ (4 : Int) (0 : Int) s_ ([] : List Qc)), false)) else (bif (decide ((((a1.length) : Nat) : Int) > 16)) then (some ((Qb.mk (0 : Int) s_ (4 : Int) (0 : Int) s_ ([] : List Qc)), false)) else ((C0 a1 ([] : List ByteArray)).bind fun r2 => (some ((Qb.mk (0 : Int) s_ (4 : Int) (0 : Int) s_ r2.1), r2.2))))) else (bif (eqS a0 Q6) then (bif (decide ((((a1.length) : Nat) : Int) < 1)) then (some ((Qb.mk (0 : Int) s_ (5 : Int) (0 : Int) s_ ([] : List Qc)), false)) else (bif (decide ((((a1.length) : Nat) : Int) > 16)) then (some ((Qb.mk (0 : Int) s_ (5 : Int) (0 : Int) s_ ([] : List Qc)), false)) else ((C0 a1 ([] : List ByteArray)).bind fun r3 => (some ((Qb.mk (0 : Int) s_ (5 : Int) (0 : Int) s_ r3.1), r3.2))))) else (bif (eqS a0 QZ) then (bif (decide ((((a1.length) : Nat) : Int) < 1)) then (some ((Qb.mk (0 : Int) s_ (7 : Int) (0 : Int) s_ ([] : List Qc)), false)) else (bif (decide ((((a1.length) : Nat) : Int) > 1)) then (some ((Qb.mk (0 : Int) s_ (7 : Int) (0 : Int) s_ ([] : List Qc)), false)) else ((C0 a1 ([] : List ByteArray)).bind fun r4 => (some ((Qb.mk (0 : Int) s_ (7 : Int) (0 : Int) s_ r4.1), r4.2))))) else (bif (eqS a0 Q0) then (bif (decide ((((a1.length) : Nat) : Int) < 1)) then (some ((Qb.mk (0 : Int) s_ (8 : Int) (0 : Int) s_ ([] : List Qc)), false)) else (bif (decide ((((a1.length) : Nat) : Int) > 1)) then (some ((Qb.mk (0 : Int) s_ (8 : Int) (0 : Int) s_ ([] : List Qc)), false)) else ((C0 a1 ([] : List ByteArray)).bind fun r5 => (some ((Qb.mk (0 : Int) s_ (8 : Int) (0 : Int) s_ r5.1), r5.2))))) else (bif (eqS a0 JW) then (bif ((((a1.length) : Nat) : Int) != 1) then (some ((Qb.mk (0 : Int) s_ (0 : Int) (0 : Int) s_ ([] : List Qc)), false)) else ((a1[(Int.toNat 0)]?).bind fun e6 => ((C1 e6).bind fun r7 => (some ((Qb.mk (0 : Int) s_ (6 : Int) (0 : Int) r7.1 ([] : List Qc)), r7.2))))) else (bif (eqS a0 Vr) then (bif ((((a1.length) : Nat) : Int) != 2) then (some ((Qb.mk (0 : Int) s_ (0 : Int) (0 : Int) s_ ([] : List Qc)), false)) else ((a1[(Int.toNat 0)]?).bind fun e8 => ((C2 e8).bind fun r9 => (bif (!r9) then (some ((Qb.mk (0 : Int) s_ (0 : Int) (0 : Int) s_ ([] : List Qc)), false)) else (bif (decide (0 ≤ (1 : Int) ∧ (1 : Int) ≤ ((a1.length : Nat) : Int) ∧ ((a1.length : Nat) : Int) ≤ ((a1.length : Nat) : Int))) then ((C0 ((a1.drop (Int.toNat 1)).take (Int.toNat (((a1.length : Nat) : Int) - 1))) ([] : List ByteArray)).bind fun r10 => ((a1[(Int.toNat 0)]?).bind fun e11 => (some ((Qb.mk (0 : Int) s_ (9 : Int) (0 : Int) e11 r10.1), r10.2)))) else none))))) else (some ((Qb.mk (0 : Int) s_ (0 : Int) (0 : Int) s_ ([] : List Qc)), false)))))))))
noncomputable def XC : Qk1 := QdZ VC Yc YE
theorem XC.eq (a0 : ByteArray) (a1 : (List ByteArray)) : XC a0 a1 = QdZ VC Yc YE a0 a1 := rfl
noncomputable def QpR (a0 : ByteArray) (a1 : (List ByteArray)) : Tr (Qb × Bool) AH := (.as (eqS a0 QD) (.num ((Qg a1).length) (a1.length) (let u159 := (decide ((((a1.length) : Nat) : Int) < 1)); .as u159 (yesN 4 u159 (.yes true (rt Qz ((Qb.mk i0 s_ (zi 3) i0 s_ ([] : List Qc)), false)))) (.no u159 (.num ((Qg a1).length) (a1.length) (noN 3 u159 (.as (decide ((((a1.length) : Nat) : Int) > 16)) (rt Qz ((Qb.mk i0 s_ (zi 3) i0 s_ ([] : List Qc)), false)) (Yz a1 ([] : List ByteArray) fun r1 => (rt Qz ((Qb.mk i0 s_ (zi 3) i0 s_ r1.1), r1.2))))))))) (.as (eqS a0 Q5) (.num ((Qg a1).length) (a1.length) (let u160 := (decide ((((a1.length) : Nat) : Int) < 1)); .as u160 (yesN 4 u160 (.yes true (rt Qz ((Qb.mk i0 s_ (zi 4) i0 s_ ([] : List Qc)), false)))) (.no u160 (.num ((Qg a1).length) (a1.length) (noN 3 u160 (.as (decide ((((a1.length) : Nat) : Int) > 16)) (rt Qz ((Qb.mk i0 s_ (zi 4) i0 s_ ([] : List Qc)), false)) (Yz a1 ([] : List ByteArray) fun r2 => (rt Qz ((Qb.mk i0 s_ (zi 4) i0 s_ r2.1), r2.2))))))))) (.as (eqS a0 Q6) (.num ((Qg a1).length) (a1.length) (let u161 := (decide ((((a1.length) : Nat) : Int) < 1)); .as u161 (yesN 4 u161 (.yes true (rt Qz ((Qb.mk i0 s_ (zi 5) i0 s_ ([] : List Qc)), false)))) (.no u161 (.num ((Qg a1).length) (a1.length) (noN 3 u161 (.as (decide ((((a1.length) : Nat) : Int) > 16)) (rt Qz ((Qb.mk i0 s_ (zi 5) i0 s_ ([] : List Qc)), false)) (Yz a1 ([] : List ByteArray) fun r3 => (rt Qz ((Qb.mk i0 s_ (zi 5) i0 s_ r3.1), r3.2))))))))) (.as (eqS a0 QZ) (.num ((Qg a1).length) (a1.length) (let u162 := (decide ((((a1.length) : Nat) : Int) < 1)); .as u162 (yesN 4 u162 (.yes true (rt Qz ((Qb.mk i0 s_ (zi 7) i0 s_ ([] : List Qc)), false)))) (.no u162 (.num ((Qg a1).length) (a1.length) (noN 3 u162 (.as (decide ((((a1.length) : Nat) : Int) > 1)) (rt Qz ((Qb.mk i0 s_ (zi 7) i0 s_ ([] : List Qc)), false)) (Yz a1 ([] : List ByteArray) fun r4 => (rt Qz ((Qb.mk i0 s_ (zi 7) i0 s_ r4.1), r4.2))))))))) (.as (eqS a0 Q0) (.num ((Qg a1).length) (a1.length) (let u163 := (decide ((((a1.length) : Nat) : Int) < 1)); .as u163 (yesN 4 u163 (.yes true (rt Qz ((Qb.mk i0 s_ (zi 8) i0 s_ ([] : List Qc)), false)))) (.no u163 (.num ((Qg a1).length) (a1.length) (noN 3 u163 (.as (decide ((((a1.length) : Nat) : Int) > 1)) (rt Qz ((Qb.mk i0 s_ (zi 8) i0 s_ ([] : List Qc)), false)) (Yz a1 ([] : List ByteArray) fun r5 => (rt Qz ((Qb.mk i0 s_ (zi 8) i0 s_ r5.1), r5.2))))))))) (.as (eqS a0 JW) (.num ((Qg a1).length) (a1.length) (.as ((((a1.length) : Nat) : Int) != 1) (rt Qz ((Qb.mk i0 s_ i0 i0 s_ ([] : List Qc)), false)) (.yes (decide (0 ≤ i0)) (.row ((Qg a1)[(Int.toNat 0)]?) (a1[(Int.toNat 0)]?) QW fun (e6 : ByteArray) => (Qof e6 fun r7 => (rt Qz ((Qb.mk i0 s_ (zi 6) i0 r7.1 ([] : List Qc)), r7.2))))))) (.as (eqS a0 Vr) (.num ((Qg a1).length) (a1.length) (let u164 := ((((a1.length) : Nat) : Int) != 2); .as u164 (yesN 5 u164 (.yes true (rt Qz ((Qb.mk i0 s_ i0 i0 s_ ([] : List Qc)), false)))) (.no u164 (.yes (decide (0 ≤ i0)) (.row ((Qg a1)[(Int.toNat 0)]?) (a1[(Int.toNat 0)]?) QW fun (e8 : ByteArray) => (noN 2 u164 (QkQ e8 fun r9 => (noN 2 u164 (.as (!r9) (rt Qz ((Qb.mk i0 s_ i0 i0 s_ ([] : List Qc)), false)) (.yes (decide ((Qg a1).all (fun r => r.length == 1) = true)) (.ask (in2 (zi 1) (((Qg a1).length : Nat) : Int) (((Qg a1).length : Nat) : Int)) (in2 (zi 1) ((a1.length : Nat) : Int) ((a1.length : Nat) : Int)) (.rows (((Qg a1).drop (Int.toNat 1)).take (Int.toNat ((((Qg a1).length : Nat) : Int) - 1))) (Qg ((a1.drop (Int.toNat 1)).take (Int.toNat (((a1.length : Nat) : Int) - 1)))) (Yz ((a1.drop (Int.toNat 1)).take (Int.toNat (((a1.length : Nat) : Int) - 1))) ([] : List ByteArray) fun r10 => (.yes (decide (0 ≤ i0)) (.row ((Qg a1)[(Int.toNat 0)]?) (a1[(Int.toNat 0)]?) QW fun (e11 : ByteArray) => (rt Qz ((Qb.mk i0 s_ (zi 9) i0 e11 r10.1), r10.2)))))) .fail))))))))))) (rt Qz ((Qb.mk i0 s_ i0 i0 s_ ([] : List Qc)), false)))))))))
theorem XC.ok {a0 : ByteArray} {a1 : (List ByteArray)} {r : (Qb × Bool)} (h : XC a0 a1 = some r) : ww 56 [xs a0, .sl (Qg a1)] [] = some (Qz r) := by
 refine fnP (QpR a0 a1) ?_ h
 exact ⟨rfl, fun q0 => ⟨(Qo _), ⟨rfl, fun q1 => Qj 4 (q1) (⟨rfl, rfl⟩), fun q1 => ⟨q1, ⟨(Qo _), noN_ok 3 (q1) (⟨rfl, fun q2 => rfl, fun q2 => fun r1 h => ⟨VC.ok h, rfl⟩⟩)⟩⟩⟩⟩, fun q0 => ⟨rfl, fun q1 => ⟨(Qo _), ⟨rfl, fun q2 => Qj 4 (q2) (⟨rfl, rfl⟩), fun q2 => ⟨q2, ⟨(Qo _), noN_ok 3 (q2) (⟨rfl, fun q3 => rfl, fun q3 => fun r2 h => ⟨VC.ok h, rfl⟩⟩)⟩⟩⟩⟩, fun q1 => ⟨rfl, fun q2 => ⟨(Qo _), ⟨rfl, fun q3 => Qj 4 (q3) (⟨rfl, rfl⟩), fun q3 => ⟨q3, ⟨(Qo _), noN_ok 3 (q3) (⟨rfl, fun q4 => rfl, fun q4 => fun r3 h => ⟨VC.ok h, rfl⟩⟩)⟩⟩⟩⟩, fun q2 => ⟨rfl, fun q3 => ⟨(Qo _), ⟨rfl, fun q4 => Qj 4 (q4) (⟨rfl, rfl⟩), fun q4 => ⟨q4, ⟨(Qo _), noN_ok 3 (q4) (⟨rfl, fun q5 => rfl, fun q5 => fun r4 h => ⟨VC.ok h, rfl⟩⟩)⟩⟩⟩⟩, fun q3 => ⟨rfl, fun q4 => ⟨(Qo _), ⟨rfl, fun q5 => Qj 4 (q5) (⟨rfl, rfl⟩), fun q5 => ⟨q5, ⟨(Qo _), noN_ok 3 (q5) (⟨rfl, fun q6 => rfl, fun q6 => fun r5 h => ⟨VC.ok h, rfl⟩⟩)⟩⟩⟩⟩, fun q4 => ⟨rfl, fun q5 => ⟨(Qo _), ⟨rfl, fun q6 => rfl, fun q6 => ⟨rfl, fun e6 h => ⟨QO h, fun r7 h => ⟨Yc.ok h, rfl⟩⟩⟩⟩⟩, fun q5 => ⟨rfl, fun q6 => ⟨(Qo _), ⟨rfl, fun q7 => Qj 5 (q7) (⟨rfl, rfl⟩), fun q7 => ⟨q7, ⟨rfl, fun e8 h => ⟨QO h, noN_ok 2 (q7) (fun r9 h => ⟨YE.ok h, noN_ok 2 (q7) (⟨rfl, fun q8 => rfl, fun q8 => ⟨(decide_eq_true (J6 _)), ⟨(by rw [Qo]), fun q9 => ⟨(by rw [Qj2, Qo]), fun r10 h => ⟨VC.ok h, ⟨rfl, fun e11 h => ⟨QO h, rfl⟩⟩⟩⟩, fun q9 => trivial⟩⟩⟩)⟩)⟩⟩⟩⟩⟩, fun q6 => rfl⟩⟩⟩⟩⟩⟩⟩
noncomputable abbrev Qjx {ρ R : Type} (a0 : ByteArray) (a1 : (List ByteArray)) (k : (Qb × Bool) → Tr ρ R) : Tr ρ R := .call (ww 56 [xs a0, .sl (Qg a1)] []) (XC a0 a1) Qz k
abbrev Qna := ByteArray → Option (Int × Bool)
def Qgr (C0 : QdR) (a0 : ByteArray) : Option (Int × Bool) := ((C0 (-1 : Int) a0).bind fun r1 => (some (r1.2.1, r1.2.2)))
noncomputable def Z0 : Qna := Qgr XG
theorem Z0.eq (a0 : ByteArray) : Z0 a0 = Qgr XG a0 := rfl
noncomputable def QqM (a0 : ByteArray) : Tr (Int × Bool) AH := (Qf5 (-1 : Int) a0 fun r1 => (rt Wl (r1.2.1, r1.2.2)))
theorem Z0.ok {a0 : ByteArray} {r : (Int × Bool)} (h : Z0 a0 = some r) : ww 102 [xs a0] [] = some (Wl r) := by
 refine fnP (QqM a0) ?_ h
 exact fun r1 h => ⟨XG.ok h, rfl⟩
noncomputable abbrev QqN {ρ R : Type} (a0 : ByteArray) (k : (Int × Bool) → Tr ρ R) : Tr ρ R := .call (ww 102 [xs a0] []) (Z0 a0) Wl k
abbrev Qnb := ByteArray → (List ByteArray) → Option (Qb × Bool)
def Qgs (C0 : Qiz) (C1 : Qna) (C2 : Qf6) (C3 : Qf7) (a0 : ByteArray) (a1 : (List ByteArray)) : Option (Qb × Bool) := (bif (eqS a0 s_b) then (bif ((((a1.length) : Nat) : Int) != 1) then (some ((Qb.mk (0 : Int) s_ (2 : Int) (0 : Int) s_ ([] : List Qc)), false)) else ((C0 a1 ([] : List ByteArray)).bind fun r1 => (some ((Qb.mk (0 : Int) s_ (2 : Int) (0 : Int) s_ r1.1), r1.2)))) else (bif (eqS a0 s_bl) then (bif ((((a1.length) : Nat) : Int) != 1) then (some ((Qb.mk (0 : Int) s_ (2 : Int) (1 : Int) s_ ([] : List Qc)), false)) else ((C0 a1 ([] : List ByteArray)).bind fun r2 => (some ((Qb.mk (0 : Int) s_ (2 : Int) (1 : Int) s_ r2.1), r2.2)))) else (bif (eqS a0 s_bc) then (bif ((((a1.length) : Nat) : Int) != 3) then (some ((Qb.mk (0 : Int) s_ (2 : Int) (2 : Int) s_ ([] : List Qc)), false)) else ((C0 a1 ([] : List ByteArray)).bind fun r3 => (some ((Qb.mk (0 : Int) s_ (2 : Int) (2 : Int) s_ r3.1), r3.2)))) else ((C1 a0).bind fun r4 => (bif (!r4.2) then (some ((Qb.mk (0 : Int) s_ (2 : Int) (0 : Int) s_ ([] : List Qc)), false)) else ((C2 r4.1).bind fun r5 => ((C3 r5).bind fun r6 => (bif ((((a1.length) : Nat) : Int) != (((r6.length) : Nat) : Int)) then (some ((Qb.mk (0 : Int) s_ (1 : Int) r4.1 s_ ([] : List Qc)), false)) else ((C0 a1 r6).bind fun r7 => (some ((Qb.mk (0 : Int) s_ (1 : Int) r4.1 s_ r7.1), r7.2)))))))))))
noncomputable def Yf : Qnb := Qgs VC Z0 Xm V2
theorem Yf.eq (a0 : ByteArray) (a1 : (List ByteArray)) : Yf a0 a1 = Qgs VC Z0 Xm V2 a0 a1 := rfl
noncomputable def QqO (a0 : ByteArray) (a1 : (List ByteArray)) : Tr (Qb × Bool) AH := (.as (eqS a0 s_b) (.num ((Qg a1).length) (a1.length) (.as ((((a1.length) : Nat) : Int) != 1) (rt Qz ((Qb.mk i0 s_ (zi 2) i0 s_ ([] : List Qc)), false)) (Yz a1 ([] : List ByteArray) fun r1 => (rt Qz ((Qb.mk i0 s_ (zi 2) i0 s_ r1.1), r1.2))))) (.as (eqS a0 s_bl) (.num ((Qg a1).length) (a1.length) (.as ((((a1.length) : Nat) : Int) != 1) (rt Qz ((Qb.mk i0 s_ (zi 2) (zi 1) s_ ([] : List Qc)), false)) (Yz a1 ([] : List ByteArray) fun r2 => (rt Qz ((Qb.mk i0 s_ (zi 2) (zi 1) s_ r2.1), r2.2))))) (.as (eqS a0 s_bc) (.num ((Qg a1).length) (a1.length) (.as ((((a1.length) : Nat) : Int) != 3) (rt Qz ((Qb.mk i0 s_ (zi 2) (zi 2) s_ ([] : List Qc)), false)) (Yz a1 ([] : List ByteArray) fun r3 => (rt Qz ((Qb.mk i0 s_ (zi 2) (zi 2) s_ r3.1), r3.2))))) (QqN a0 fun r4 => (.as (!r4.2) (rt Qz ((Qb.mk i0 s_ (zi 2) i0 s_ ([] : List Qc)), false)) (Qjm r4.1 fun r5 => (Qjn r5 fun r6 => (.num ((Qg r6).length) (r6.length) (.num ((Qg a1).length) (a1.length) (.as ((((a1.length) : Nat) : Int) != (((r6.length) : Nat) : Int)) (rt Qz ((Qb.mk i0 s_ (zi 1) r4.1 s_ ([] : List Qc)), false)) (Yz a1 r6 fun r7 => (rt Qz ((Qb.mk i0 s_ (zi 1) r4.1 s_ r7.1), r7.2)))))))))))))
theorem Yf.ok {a0 : ByteArray} {a1 : (List ByteArray)} {r : (Qb × Bool)} (h : Yf a0 a1 = some r) : ww 57 [xs a0, .sl (Qg a1)] [] = some (Qz r) := by
 refine fnP (QqO a0 a1) ?_ h
 exact ⟨rfl, fun q0 => ⟨(Qo _), ⟨rfl, fun q1 => rfl, fun q1 => fun r1 h => ⟨VC.ok h, rfl⟩⟩⟩, fun q0 => ⟨rfl, fun q1 => ⟨(Qo _), ⟨rfl, fun q2 => rfl, fun q2 => fun r2 h => ⟨VC.ok h, rfl⟩⟩⟩, fun q1 => ⟨rfl, fun q2 => ⟨(Qo _), ⟨rfl, fun q3 => rfl, fun q3 => fun r3 h => ⟨VC.ok h, rfl⟩⟩⟩, fun q2 => fun r4 h => ⟨Z0.ok h, ⟨rfl, fun q3 => rfl, fun q3 => fun r5 h => ⟨Xm.ok h, fun r6 h => ⟨V2.ok h, ⟨(Qo _), ⟨(Qo _), ⟨rfl, fun q4 => rfl, fun q4 => fun r7 h => ⟨VC.ok h, rfl⟩⟩⟩⟩⟩⟩⟩⟩⟩⟩⟩
noncomputable abbrev Qk2 {ρ R : Type} (a0 : ByteArray) (a1 : (List ByteArray)) (k : (Qb × Bool) → Tr ρ R) : Tr ρ R := .call (ww 57 [xs a0, .sl (Qg a1)] []) (Yf a0 a1) Qz k
abbrev QoG := ByteArray → Option (Qb × Bool)
structure Wz where
 x0 : ByteArray
 x4 : Int
 h0 : Qb
structure Xf where
 x3 : Bool
 h0 : Qb
structure Xg where
 x0 : ByteArray
 h0 : Qb
def Qcw (a : Wz) : St := { n := 89, nx := 2, env := [(0, xs a.x0), (2, .ptr 0 0), (4, xi a.x4)], heap := [(0, .box [0, 0, 0, 0, 0, 5] [xi a.h0.Line, xs a.h0.Label, xi a.h0.Kind, xi a.h0.Op, xs a.h0.Text, .arr 1]), (1, .arr true 5 (Qi a.h0.Args))] }
def Qgt (a : Xf) : Ex × St := (.ret, { n := 89, nx := 2, env := [(2, .ptr 0 0), (3, xo a.x3)], heap := [(0, .box [0, 0, 0, 0, 0, 5] [xi a.h0.Line, xs a.h0.Label, xi a.h0.Kind, xi a.h0.Op, xs a.h0.Text, .arr 1]), (1, .arr true 5 (Qi a.h0.Args))] })
def Qgu (a : Xg) : Ex × St := (.exit 0, { n := 89, nx := 2, env := [(0, xs a.x0), (2, .ptr 0 0)], heap := [(0, .box [0, 0, 0, 0, 0, 5] [xi a.h0.Line, xs a.h0.Label, xi a.h0.Kind, xi a.h0.Op, xs a.h0.Text, .arr 1]), (1, .arr true 5 (Qi a.h0.Args))] })
def Qcx (a : (Xf ⊕ Xg)) : Ex × St := Sum.elim Qgt Qgu a
abbrev Qjy := Wz → Option (Xf ⊕ Xg)
def P9 (a : Wz) : Option (Wz ⊕ (Xf ⊕ Xg)) := (bif (decide (a.x4 < ((a.x0.size : Nat) : Int))) then (bif (decide (0 ≤ a.x4 ∧ a.x4 < ((a.x0.size : Nat) : Int))) then (bif (((a.x0.data.getD (Int.toNat a.x4) 0).toNat : Int) == 10) then (some (.inr (.inl (Xf.mk false (Qb.mk (0 : Int) s_ (0 : Int) (0 : Int) s_ ([] : List Qc)))))) else (some (.inl (Wz.mk a.x0 (w64 (a.x4 + 1)) a.h0)))) else none) else (some (.inr (.inr (Xg.mk a.x0 a.h0)))))
noncomputable def WM : Qjy := loopW (P9 )
theorem WM.eq (a : Wz) : WM a = (P9 a).bind (Sum.elim WM some) := Jf _ _
noncomputable abbrev Qog {ρ R : Type} (a : Wz) (k0 : Xf → Tr ρ R) (k1 : Xg → Tr ρ R) : Tr ρ R := .loop2 (loopAt pp 20 2) (Qcw a) (WM a) Qgt Qgu k0 k1
noncomputable def Qoh (a : Wz) : Tr (Wz ⊕ (Xf ⊕ Xg)) XS := (.as (decide (a.x4 < (zz a.x0))) (.as (in1 a.x4 (zz a.x0)) (.as ((gb a.x0 a.x4) == 10) (rx Qcx (.inl (Xf.mk false (Qb.mk i0 s_ i0 i0 s_ ([] : List Qc))))) (lf Qcw (Wz.mk a.x0 (w64 (a.x4 + 1)) a.h0))) .fail) (rx Qcx (.inr (Xg.mk a.x0 a.h0))))
theorem WM.ok {a : Wz} {r : (Xf ⊕ Xg)} (h : WM a = some r) : lw 0 20 (loopAt pp 20 2) (Qcw a) = some (Qcx r) := by
 refine lpP h Qoh fun a => ?_
 exact ⟨rfl, fun q0 => ⟨rfl, fun q1 => ⟨rfl, fun q2 => rfl, fun q2 => rfl⟩, fun q1 => trivial⟩, fun q0 => rfl⟩
structure Wb where
 x5 : ByteArray
 x6 : ByteArray
 x7 : Int
 h0 : Qb
structure VI where
 x5 : ByteArray
 x6 : ByteArray
 x7 : Int
 h0 : Qb
def Qcy (a : Wb) : St := { n := 89, nx := 2, env := [(2, .ptr 0 0), (5, xs a.x5), (6, xs a.x6), (7, xi a.x7)], heap := [(0, .box [0, 0, 0, 0, 0, 5] [xi a.h0.Line, xs a.h0.Label, xi a.h0.Kind, xi a.h0.Op, xs a.h0.Text, .arr 1]), (1, .arr true 5 (Qi a.h0.Args))] }
def EF (a : VI) : Ex × St := (.exit 2, { n := 89, nx := 2, env := [(2, .ptr 0 0), (5, xs a.x5), (6, xs a.x6), (7, xi a.x7)], heap := [(0, .box [0, 0, 0, 0, 0, 5] [xi a.h0.Line, xs a.h0.Label, xi a.h0.Kind, xi a.h0.Op, xs a.h0.Text, .arr 1]), (1, .arr true 5 (Qi a.h0.Args))] })
abbrev Qjz := Wb → Option VI
def Sa (a : Wb) : Option (Wb ⊕ VI) := (bif (decide (a.x7 < ((a.x6.size : Nat) : Int))) then (bif (decide (0 ≤ a.x7 ∧ a.x7 < ((a.x6.size : Nat) : Int))) then (bif (((a.x6.data.getD (Int.toNat a.x7) 0).toNat : Int) != 32) then (bif (((a.x6.data.getD (Int.toNat a.x7) 0).toNat : Int) != 9) then (some (.inl (Wb.mk a.x5 a.x6 (w64 (a.x7 + 1)) a.h0))) else (some (.inr (VI.mk a.x5 a.x6 a.x7 a.h0)))) else (some (.inr (VI.mk a.x5 a.x6 a.x7 a.h0)))) else none) else (some (.inr (VI.mk a.x5 a.x6 a.x7 a.h0))))
noncomputable def W3 : Qjz := loopW (Sa )
theorem W3.eq (a : Wb) : W3 a = (Sa a).bind (Sum.elim W3 some) := Jf _ _
noncomputable abbrev Qoi {ρ R : Type} (a : Wb) (k0 : VI → Tr ρ R) : Tr ρ R := .loop (loopAt pp 20 12) (Qcy a) (W3 a) EF k0
noncomputable def Qoj (a : Wb) : Tr (Wb ⊕ VI) XS := (let u167 := (decide (a.x7 < (zz a.x6))); .as u167 (yesN 2 u167 (let u166 := (in1 a.x7 (zz a.x6)); .as u166 (yesN 2 u167 (let u165 := ((gb a.x6 a.x7) != 32); .as u165 (yesN 2 u165 (.yes u166 (yesN 2 u165 (.as ((gb a.x6 a.x7) != 9) (lf Qcy (Wb.mk a.x5 a.x6 (w64 (a.x7 + 1)) a.h0)) (rx EF (VI.mk a.x5 a.x6 a.x7 a.h0)))))) (noN 4 u165 (.no false (rx EF (VI.mk a.x5 a.x6 a.x7 a.h0)))))) .fail)) (noN 4 u167 (noN 6 false (rx EF (VI.mk a.x5 a.x6 a.x7 a.h0)))))
theorem W3.ok {a : Wb} {r : VI} (h : W3 a = some r) : lw 0 20 (loopAt pp 20 12) (Qcy a) = some (EF r) := by
 refine lpP h Qoj fun a => ?_
 exact ⟨rfl, fun q0 => Qj 2 (q0) (⟨rfl, fun q1 => Qj 2 (q0) (⟨rfl, fun q2 => Qj 2 (q2) (⟨q1, Qj 2 (q2) (⟨rfl, fun q3 => rfl, fun q3 => rfl⟩)⟩), fun q2 => noN_ok 4 (q2) (⟨rfl, rfl⟩)⟩), fun q1 => trivial⟩), fun q0 => noN_ok 4 (q0) (noN_ok 6 (rfl) (rfl))⟩
def QiA (C0 : Qm0) (C1 : QdV) (C2 : QkZ) (C3 : Qk0) (C4 : Qk1) (C5 : Qnb) (L6 : Qjy) (L7 : Qjz) (a0 : ByteArray) : Option (Qb × Bool) := ((L6 (Wz.mk a0 (0 : Int) (Qb.mk (0 : Int) s_ (0 : Int) (0 : Int) s_ ([] : List Qc)))).bind fun x => Sum.elim (fun (o1 : Xf) => (some (o1.h0, o1.x3))) (fun (o2 : Xg) => ((C0 o2.x0).bind fun r3 => ((C1 r3).bind fun r4 => ((C2 r4).bind fun r5 => (bif (eqS r5.2 s_) then (bif (eqS r5.1 s_) then (some ((Qb.mk (0 : Int) s_ (0 : Int) (0 : Int) s_ ([] : List Qc)), true)) else (some ((Qb.mk (1 : Int) r5.1 (0 : Int) (0 : Int) s_ ([] : List Qc)), true))) else ((L7 (Wb.mk r5.1 r5.2 (0 : Int) o2.h0)).bind (fun (o6 : VI) => (bif (decide (0 ≤ (0 : Int) ∧ (0 : Int) ≤ o6.x7 ∧ o6.x7 ≤ ((o6.x6.size : Nat) : Int))) then (bif (decide (0 ≤ o6.x7 ∧ o6.x7 ≤ ((o6.x6.size : Nat) : Int) ∧ ((o6.x6.size : Nat) : Int) ≤ ((o6.x6.size : Nat) : Int))) then ((C1 (o6.x6.extract (Int.toNat o6.x7) (Int.toNat ((o6.x6.size : Nat) : Int)))).bind fun r7 => (bif (!(eqS r7 s_)) then ((C3 (o6.x6.extract (Int.toNat o6.x7) (Int.toNat ((o6.x6.size : Nat) : Int)))).bind fun r8 => (bif (decide (0 ≤ (0 : Int) ∧ (0 : Int) < (((o6.x6.extract (Int.toNat 0) (Int.toNat o6.x7)).size : Nat) : Int))) then (bif ((((o6.x6.extract (Int.toNat 0) (Int.toNat o6.x7)).data.getD (Int.toNat 0) 0).toNat : Int) == 46) then ((C4 (o6.x6.extract (Int.toNat 0) (Int.toNat o6.x7)) r8).bind fun r9 => (bif (!r9.2) then (some ((Qb.mk (0 : Int) s_ (0 : Int) (0 : Int) s_ ([] : List Qc)), false)) else (some ((Qb.mk (1 : Int) o6.x5 r9.1.Kind r9.1.Op r9.1.Text r9.1.Args), true)))) else ((C5 (o6.x6.extract (Int.toNat 0) (Int.toNat o6.x7)) r8).bind fun r10 => (bif (!r10.2) then (some ((Qb.mk (0 : Int) s_ (0 : Int) (0 : Int) s_ ([] : List Qc)), false)) else (some ((Qb.mk (1 : Int) o6.x5 r10.1.Kind r10.1.Op r10.1.Text r10.1.Args), true))))) else none)) else (bif (decide (0 ≤ (0 : Int) ∧ (0 : Int) < (((o6.x6.extract (Int.toNat 0) (Int.toNat o6.x7)).size : Nat) : Int))) then (bif ((((o6.x6.extract (Int.toNat 0) (Int.toNat o6.x7)).data.getD (Int.toNat 0) 0).toNat : Int) == 46) then ((C4 (o6.x6.extract (Int.toNat 0) (Int.toNat o6.x7)) ([] : List ByteArray)).bind fun r11 => (bif (!r11.2) then (some ((Qb.mk (0 : Int) s_ (0 : Int) (0 : Int) s_ ([] : List Qc)), false)) else (some ((Qb.mk (1 : Int) o6.x5 r11.1.Kind r11.1.Op r11.1.Text r11.1.Args), true)))) else ((C5 (o6.x6.extract (Int.toNat 0) (Int.toNat o6.x7)) ([] : List ByteArray)).bind fun r12 => (bif (!r12.2) then (some ((Qb.mk (0 : Int) s_ (0 : Int) (0 : Int) s_ ([] : List Qc)), false)) else (some ((Qb.mk (1 : Int) o6.x5 r12.1.Kind r12.1.Op r12.1.Text r12.1.Args), true))))) else none))) else none) else none)))))))) x)
noncomputable def GW : QoG := QiA Gk V5 Zw YU XC Yf WM W3
theorem GW.eq (a0 : ByteArray) : GW a0 = QiA Gk V5 Zw YU XC Yf WM W3 a0 := rfl
noncomputable def QrL (a0 : ByteArray) : Tr (Qb × Bool) AH := (Qog (Wz.mk a0 i0 (Qb.mk i0 s_ i0 i0 s_ ([] : List Qc))) (fun o1 => (rt Qz (o1.h0, o1.x3))) (fun o2 => (QqJ o2.x0 fun r3 => (Zm r3 fun r4 => (QpO r4 fun r5 => (.as (eqS r5.2 s_) (.as (eqS r5.1 s_) (rt Qz ((Qb.mk i0 s_ i0 i0 s_ ([] : List Qc)), true)) (rt Qz ((Qb.mk (zi 1) r5.1 i0 i0 s_ ([] : List Qc)), true))) (Qoi (Wb.mk r5.1 r5.2 i0 o2.h0) (fun o6 => (.as (in2 i0 o6.x7 (zz o6.x6)) (let u168 := (in2 o6.x7 (zz o6.x6) (zz o6.x6)); .as u168 (Zm (cu o6.x6 o6.x7 (zz o6.x6)) fun r7 => (.as (!(eqS r7 s_)) (.yes u168 (QpQ (cu o6.x6 o6.x7 (zz o6.x6)) fun r8 => (.as (in1 i0 (zz (cu o6.x6 i0 o6.x7))) (.as ((gb (cu o6.x6 i0 o6.x7) i0) == 46) (Qjx (cu o6.x6 i0 o6.x7) r8 fun r9 => (.as (!r9.2) (rt Qz ((Qb.mk i0 s_ i0 i0 s_ ([] : List Qc)), false)) (rt Qz ((Qb.mk (zi 1) o6.x5 r9.1.Kind r9.1.Op r9.1.Text r9.1.Args), true)))) (Qk2 (cu o6.x6 i0 o6.x7) r8 fun r10 => (.as (!r10.2) (rt Qz ((Qb.mk i0 s_ i0 i0 s_ ([] : List Qc)), false)) (rt Qz ((Qb.mk (zi 1) o6.x5 r10.1.Kind r10.1.Op r10.1.Text r10.1.Args), true))))) .fail))) (.as (in1 i0 (zz (cu o6.x6 i0 o6.x7))) (.as ((gb (cu o6.x6 i0 o6.x7) i0) == 46) (Qjx (cu o6.x6 i0 o6.x7) ([] : List ByteArray) fun r11 => (.as (!r11.2) (rt Qz ((Qb.mk i0 s_ i0 i0 s_ ([] : List Qc)), false)) (rt Qz ((Qb.mk (zi 1) o6.x5 r11.1.Kind r11.1.Op r11.1.Text r11.1.Args), true)))) (Qk2 (cu o6.x6 i0 o6.x7) ([] : List ByteArray) fun r12 => (.as (!r12.2) (rt Qz ((Qb.mk i0 s_ i0 i0 s_ ([] : List Qc)), false)) (rt Qz ((Qb.mk (zi 1) o6.x5 r12.1.Kind r12.1.Op r12.1.Text r12.1.Args), true))))) .fail))) .fail) .fail)))))))))
theorem GW.ok {a0 : ByteArray} {r : (Qb × Bool)} (h : GW a0 = some r) : ww 20 [xs a0] [] = some (Qz r) := by
 refine fnP (QrL a0) ?_ h
 exact ⟨fun o1 h => ⟨WM.ok (r := (.inl _)) h, rfl⟩, fun o2 h => ⟨WM.ok (r := (.inr _)) h, fun r3 h => ⟨Gk.ok h, fun r4 h => ⟨V5.ok h, fun r5 h => ⟨Zw.ok h, ⟨rfl, fun q0 => ⟨rfl, fun q1 => rfl, fun q1 => rfl⟩, fun q0 => fun o6 h => ⟨W3.ok h, ⟨rfl, fun q1 => ⟨rfl, fun q2 => fun r7 h => ⟨V5.ok h, ⟨rfl, fun q3 => ⟨q2, fun r8 h => ⟨YU.ok h, ⟨rfl, fun q4 => ⟨rfl, fun q5 => fun r9 h => ⟨XC.ok h, ⟨rfl, fun q6 => rfl, fun q6 => rfl⟩⟩, fun q5 => fun r10 h => ⟨Yf.ok h, ⟨rfl, fun q6 => rfl, fun q6 => rfl⟩⟩⟩, fun q4 => trivial⟩⟩⟩, fun q3 => ⟨rfl, fun q4 => ⟨rfl, fun q5 => fun r11 h => ⟨XC.ok h, ⟨rfl, fun q6 => rfl, fun q6 => rfl⟩⟩, fun q5 => fun r12 h => ⟨Yf.ok h, ⟨rfl, fun q6 => rfl, fun q6 => rfl⟩⟩⟩, fun q4 => trivial⟩⟩⟩, fun q2 => trivial⟩, fun q1 => trivial⟩⟩⟩⟩⟩⟩⟩⟩
noncomputable abbrev QrM {ρ R : Type} (a0 : ByteArray) (k : (Qb × Bool) → Tr ρ R) : Tr ρ R := .call (ww 20 [xs a0] []) (GW a0) Qz k
abbrev XD := Qa → Qa → Option Bool
abbrev QiB (c : XD) : Prop := ∀ (a0 : Qa) (a1 : Qa) (r : Bool), c a0 a1 = some r → ww 78 [.agg (QY a0), .agg (QY a1)] [] = some (Ql r)
noncomputable abbrev Qk3 {ρ R : Type} (c : XD) (a0 : Qa) (a1 : Qa) (k : Bool → Tr ρ R) : Tr ρ R := .call (ww 78 [.agg (QY a0), .agg (QY a1)] []) (c a0 a1) Ql k
structure U4 where
 x5 : Int
 h0 : Qa
 h1 : Qa
def Qbw (a : U4) : St := { n := 53, nx := 2, env := [(2, .ptr 0 0), (3, .ptr 1 0), (5, xi a.x5)], heap := [(0, .box [] (QY a.h0)), (1, .box [] (QY a.h1))] }
def QeJ (a : Bool) : Ex × St := (.ret, { n := 53, nx := 0, env := [(4, xo a)], heap := [] })
def QeK (a : Unit) : Ex × St := (.exit 0, { n := 53, nx := 0, env := [], heap := [] })
def Qbx (a : (Bool ⊕ Unit)) : Ex × St := Sum.elim QeJ QeK a
abbrev YB := U4 → Option (Bool ⊕ Unit)
def XE (C0 : XD) (a : U4) : Option (U4 ⊕ (Bool ⊕ Unit)) := (bif (decide (a.x5 < (((a.h0.L.length) : Nat) : Int))) then (bif (decide (0 ≤ a.x5)) then ((a.h0.L[(Int.toNat a.x5)]?).bind fun e1 => ((a.h1.L[(Int.toNat a.x5)]?).bind fun e2 => ((C0 e1 e2).bind fun r3 => (bif (!r3) then (some (.inr (.inl false))) else (some (.inl (U4.mk (w64 (a.x5 + 1)) a.h0 a.h1))))))) else none) else (some (.inr (.inr ()))))
theorem Qgv {C0 : Nat → XD} {D0 : XD} (H0 : Cv2 C0 D0) (a : U4) : Cv (fun k => XE (C0 k) a) (XE D0 a) := by
 unfold XE
 exact .cond (.cond (.bind (.const _) fun e1 => .bind (.const _) fun e2 => .bind (H0 _ _) fun r3 => by exact .const _) cst) cst
noncomputable abbrev Qnc {ρ R : Type} (l : YB) (a : U4) (k0 : Bool → Tr ρ R) (k1 : Unit → Tr ρ R) : Tr ρ R := .loop2 (loopAt pp 78 4) (Qbw a) (l a) QeJ QeK k0 k1
noncomputable def Qnd (C0 : XD) (a : U4) : Tr (U4 ⊕ (Bool ⊕ Unit)) XS := (.num ((QK a.h0.L).length) (a.h0.L.length) (.as (decide (a.x5 < (((a.h0.L.length) : Nat) : Int))) (let u169 := (decide (0 ≤ a.x5)); .as u169 (.row ((QK a.h0.L)[(Int.toNat a.x5)]?) (a.h0.L[(Int.toNat a.x5)]?) QY fun (e1 : Qa) => (.yes u169 (.row ((QK a.h1.L)[(Int.toNat a.x5)]?) (a.h1.L[(Int.toNat a.x5)]?) QY fun (e2 : Qa) => (Qk3 C0 e1 e2 fun r3 => (.as (!r3) (rx Qbx (.inl false)) (lf Qbw (U4.mk (w64 (a.x5 + 1)) a.h0 a.h1))))))) .fail) (rx Qbx (.inr ()))))
noncomputable def Js.s (k : Nat) (C0 : XD) : YB := iter (XE C0) k
theorem QeL (k : Nat) {C0 : XD} (i_r3_Same : QiB C0) {a : U4} {r : (Bool ⊕ Unit)} (h : Js.s k C0 a = some r) : lw 0 78 (loopAt pp 78 4) (Qbw a) = some (Qbx r) := by
 refine lpP (itP h) (Qnd C0) fun a => ?_
 exact ⟨(GZ _), ⟨rfl, fun q0 => ⟨rfl, fun q1 => fun e1 h => ⟨ZH h, ⟨q1, fun e2 h => ⟨ZH h, fun r3 h => ⟨i_r3_Same _ _ _ h, ⟨rfl, fun q2 => rfl, fun q2 => rfl⟩⟩⟩⟩⟩, fun q1 => trivial⟩, fun q0 => rfl⟩⟩
theorem Js.m {j k : Nat} (hj : j ≤ k) (C0 : XD) (D0 : XD) (H0 : Le2 C0 D0) (a : U4) : Le (Js.s j C0 a) (Js.s k D0 a) := Le.iter (fun a => (Qgv (tw2 H0) a).1 0) hj a
noncomputable def Js.w (C0 : XD) : YB := loopW (XE C0)
theorem Js.cv (C0 : Nat → XD) (D0 : XD) (H0 : Cv2 C0 D0) (a : U4) : Cv (fun k => Js.s k (C0 k) a) (Js.w D0 a) := Cv.iter (fun a => Qgv H0 a) a
def GX (L0 : YB) (a0 : Qa) (a1 : Qa) : Option Bool := (bif (a0.Kind != a1.Kind) then (some false) else (bif (a0.N != a1.N) then (some false) else (bif (!(eqS a0.Name a1.Name)) then (some false) else (bif ((((a0.L.length) : Nat) : Int) != (((a1.L.length) : Nat) : Int)) then (some false) else ((L0 (U4.mk (0 : Int) a0 a1)).bind fun x => Sum.elim (fun (o1 : Bool) => (some o1)) (fun (o2 : Unit) => (some true)) x)))))
theorem Qk4 {L0 : Nat → YB} {M0 : YB} (N0 : Cv1 L0 M0) (a0 : Qa) (a1 : Qa) : Cv (fun k => GX (L0 k) a0 a1) (GX M0 a0 a1) := by
 unfold GX
 exact .cond cst (.cond cst (.cond cst (.cond cst (.bind (N0 _) fun x => .sum (fun o1 => by exact .const _) (fun o2 => by exact .const _) x))))
noncomputable def QqP (L0 : YB) (a0 : Qa) (a1 : Qa) : Tr Bool AH := (let u172 := (a0.Kind != a1.Kind); .as u172 (yesN 5 u172 (yesN 15 true (rt Ql false))) (noN 5 u172 (let u171 := (a0.N != a1.N); .as u171 (yesN 5 u171 (yesN 9 true (rt Ql false))) (noN 5 u171 (let u170 := (!(eqS a0.Name a1.Name)); .as u170 (yesN 7 u170 (.yes true (rt Ql false))) (noN 2 u170 (.num ((QK a0.L).length) (a0.L.length) (noN 3 u170 (.num ((QK a1.L).length) (a1.L.length) (noN 2 u170 (.as ((((a0.L.length) : Nat) : Int) != (((a1.L.length) : Nat) : Int)) (rt Ql false) (Qnc L0 (U4.mk i0 a0 a1) (fun o1 => (rt Ql o1)) (fun o2 => (rt Ql true))))))))))))))
noncomputable def J2.s : Nat → Qa → Qa → Option Bool
 | 0, _, _ => none
 | k + 1, a0, a1 => GX (Js.s k (fun a0 a1 => J2.s k a0 a1)) a0 a1
termination_by structural k => k
theorem QhW : ∀ (k : Nat), (QiB (J2.s k))
 | 0 => fun _ _ _ h => (nomatch h)
 | k + 1 => by
  have i_r3_Same : QiB (J2.s k) := QhW k
  exact fun a0 a1 r h => by
    refine fnP (QqP (Js.s k (J2.s k)) a0 a1) ?_ h
    exact ⟨rfl, fun q0 => Qj 5 (q0) (Qj 15 (rfl) (rfl)), fun q0 => noN_ok 5 (q0) (⟨rfl, fun q1 => Qj 5 (q1) (Qj 9 (rfl) (rfl)), fun q1 => noN_ok 5 (q1) (⟨rfl, fun q2 => Qj 7 (q2) (⟨rfl, rfl⟩), fun q2 => noN_ok 2 (q2) (⟨(GZ _), noN_ok 3 (q2) (⟨(GZ _), noN_ok 2 (q2) (⟨rfl, fun q3 => rfl, fun q3 => ⟨fun o1 h => ⟨QeL k i_r3_Same (r := (.inl _)) h, rfl⟩, fun o2 h => ⟨QeL k i_r3_Same (r := (.inr _)) h, rfl⟩⟩⟩)⟩)⟩)⟩)⟩)⟩
theorem Qgw : ∀ (k : Nat), (∀ (a0 : Qa) (a1 : Qa), Le (J2.s k a0 a1) (J2.s (k + 1) a0 a1))
 | 0 => fun _ _ _ h => (nomatch h)
 | k + 1 => by
  have i_r3_Same : ∀ (a0 : Qa) (a1 : Qa), Le (J2.s k a0 a1) (J2.s (k + 1) a0 a1) := Qgw k
  exact fun a0 a1 => (Qk4 (tw1 (Js.m (Nat.le_succ k) (J2.s k) (J2.s (k + 1)) i_r3_Same)) a0 a1).1 0
noncomputable def J2 (a0 : Qa) (a1 : Qa) : Option Bool := lim fun k => J2.s k a0 a1
theorem J2.cv (a0 : Qa) (a1 : Qa) : Cv (fun k => J2.s k a0 a1) (J2 a0 a1) := .lim fun k => (Qgw k) a0 a1
theorem J2.ok {a0 : Qa} {a1 : Qa} {r : Bool} (h : J2 a0 a1 = some r) : ww 78 [.agg (QY a0), .agg (QY a1)] [] = some (Ql r) := let ⟨k, e⟩ := ((J2.cv a0 a1).2 r).1 h; (QhW k) a0 a1 _ e
noncomputable def Js : YB := Js.w J2
theorem Js.eq (a : U4) : Js a = (XE J2 a).bind (Sum.elim Js some) := Jf _ _
theorem J2.eq (a0 : Qa) (a1 : Qa) : J2 a0 a1 = GX Js a0 a1 := Cv.uniq (J2.cv a0 a1).shift (Qk4 (Js.cv (fun k => J2.s k) J2 J2.cv) a0 a1)
noncomputable abbrev QqQ {ρ R : Type} (a0 : Qa) (a1 : Qa) (k : Bool → Tr ρ R) : Tr ρ R := Qk3 J2 a0 a1 k
abbrev Qne := Qb → Qb → Option Bool
structure V7 where
 x5 : Int
 h0 : Qb
 h1 : Qb
def Qby (a : V7) : St := { n := 84, nx := 2, env := [(2, .ptr 0 0), (3, .ptr 1 0), (5, xi a.x5)], heap := [(0, .box [0, 0, 0, 0, 0, 5] (WR a.h0)), (1, .box [0, 0, 0, 0, 0, 5] (WR a.h1))] }
def QeM (a : Bool) : Ex × St := (.ret, { n := 84, nx := 0, env := [(4, xo a)], heap := [] })
def QeN (a : Unit) : Ex × St := (.exit 0, { n := 84, nx := 0, env := [], heap := [] })
def Pd (a : (Bool ⊕ Unit)) : Ex × St := Sum.elim QeM QeN a
abbrev QhX := V7 → Option (Bool ⊕ Unit)
def Pe (C0 : XD) (a : V7) : Option (V7 ⊕ (Bool ⊕ Unit)) := (bif (decide (a.x5 < (((a.h0.Args.length) : Nat) : Int))) then (bif (decide (0 ≤ a.x5)) then ((a.h0.Args[(Int.toNat a.x5)]?).bind fun e1 => ((a.h1.Args[(Int.toNat a.x5)]?).bind fun e2 => (bif (e1.Reg != e2.Reg) then (some (.inr (.inl false))) else ((a.h0.Args[(Int.toNat a.x5)]?).bind fun e3 => ((a.h1.Args[(Int.toNat a.x5)]?).bind fun e4 => ((C0 e3.E e4.E).bind fun r5 => (bif (!r5) then (some (.inr (.inl false))) else (some (.inl (V7.mk (w64 (a.x5 + 1)) a.h0 a.h1)))))))))) else none) else (some (.inr (.inr ()))))
noncomputable def WG : QhX := loopW (Pe J2)
theorem WG.eq (a : V7) : WG a = (Pe J2 a).bind (Sum.elim WG some) := Jf _ _
noncomputable abbrev Qnf {ρ R : Type} (a : V7) (k0 : Bool → Tr ρ R) (k1 : Unit → Tr ρ R) : Tr ρ R := .loop2 (loopAt pp 28 4) (Qby a) (WG a) QeM QeN k0 k1
noncomputable def Qng (a : V7) : Tr (V7 ⊕ (Bool ⊕ Unit)) XS := (.num ((Qi a.h0.Args).length) (a.h0.Args.length) (.as (decide (a.x5 < (((a.h0.Args.length) : Nat) : Int))) (let u174 := (decide (0 ≤ a.x5)); .as u174 (.row ((Qi a.h0.Args)[(Int.toNat a.x5)]?) (a.h0.Args[(Int.toNat a.x5)]?) WZ fun (e1 : Qc) => (.yes u174 (.row ((Qi a.h1.Args)[(Int.toNat a.x5)]?) (a.h1.Args[(Int.toNat a.x5)]?) WZ fun (e2 : Qc) => (let u173 := (e1.Reg != e2.Reg); .as u173 (yesN 14 u173 (.yes true (rx Pd (.inl false)))) (noN 3 u173 (.yes u174 (.row ((Qi a.h0.Args)[(Int.toNat a.x5)]?) (a.h0.Args[(Int.toNat a.x5)]?) WZ fun (e3 : Qc) => (noN 6 u173 (.yes u174 (.row ((Qi a.h1.Args)[(Int.toNat a.x5)]?) (a.h1.Args[(Int.toNat a.x5)]?) WZ fun (e4 : Qc) => (noN 3 u173 (QqQ e3.E e4.E fun r5 => (noN 2 u173 (.as (!r5) (rx Pd (.inl false)) (lf Qby (V7.mk (w64 (a.x5 + 1)) a.h0 a.h1)))))))))))))))) .fail) (rx Pd (.inr ()))))
theorem WG.ok {a : V7} {r : (Bool ⊕ Unit)} (h : WG a = some r) : lw 0 28 (loopAt pp 28 4) (Qby a) = some (Pd r) := by
 refine lpP h Qng fun a => ?_
 exact ⟨(Jc _), ⟨rfl, fun q0 => ⟨rfl, fun q1 => fun e1 h => ⟨Yg h, ⟨q1, fun e2 h => ⟨Yg h, ⟨rfl, fun q2 => Qj 14 (q2) (⟨rfl, rfl⟩), fun q2 => noN_ok 3 (q2) (⟨q1, fun e3 h => ⟨Yg h, noN_ok 6 (q2) (⟨q1, fun e4 h => ⟨Yg h, noN_ok 3 (q2) (fun r5 h => ⟨J2.ok h, noN_ok 2 (q2) (⟨rfl, fun q3 => rfl, fun q3 => rfl⟩)⟩)⟩⟩)⟩⟩)⟩⟩⟩⟩, fun q1 => trivial⟩, fun q0 => rfl⟩⟩
def Qgx (L0 : QhX) (a0 : Qb) (a1 : Qb) : Option Bool := (bif (a0.Line != a1.Line) then (some false) else (bif (!(eqS a0.Label a1.Label)) then (some false) else (bif (a0.Kind != a1.Kind) then (some false) else (bif (a0.Op != a1.Op) then (some false) else (bif (!(eqS a0.Text a1.Text)) then (some false) else (bif ((((a0.Args.length) : Nat) : Int) != (((a1.Args.length) : Nat) : Int)) then (some false) else ((L0 (V7.mk (0 : Int) a0 a1)).bind fun x => Sum.elim (fun (o1 : Bool) => (some o1)) (fun (o2 : Unit) => (some true)) x)))))))
noncomputable def Z1 : Qne := Qgx WG
theorem Z1.eq (a0 : Qb) (a1 : Qb) : Z1 a0 a1 = Qgx WG a0 a1 := rfl
noncomputable def QqR (a0 : Qb) (a1 : Qb) : Tr Bool AH := (let u179 := (a0.Line != a1.Line); .as u179 (yesN 5 u179 (yesN 27 true (rt Ql false))) (noN 5 u179 (let u178 := (!(eqS a0.Label a1.Label)); .as u178 (yesN 5 u178 (yesN 21 true (rt Ql false))) (noN 5 u178 (let u177 := (a0.Kind != a1.Kind); .as u177 (yesN 5 u177 (yesN 15 true (rt Ql false))) (noN 5 u177 (let u176 := (a0.Op != a1.Op); .as u176 (yesN 5 u176 (yesN 9 true (rt Ql false))) (noN 5 u176 (let u175 := (!(eqS a0.Text a1.Text)); .as u175 (yesN 7 u175 (.yes true (rt Ql false))) (noN 2 u175 (.num ((Qi a0.Args).length) (a0.Args.length) (noN 3 u175 (.num ((Qi a1.Args).length) (a1.Args.length) (noN 2 u175 (.as ((((a0.Args.length) : Nat) : Int) != (((a1.Args.length) : Nat) : Int)) (rt Ql false) (Qnf (V7.mk i0 a0 a1) (fun o1 => (rt Ql o1)) (fun o2 => (rt Ql true))))))))))))))))))
theorem Z1.ok {a0 : Qb} {a1 : Qb} {r : Bool} (h : Z1 a0 a1 = some r) : ww 28 [.agg (WR a0), .agg (WR a1)] [] = some (Ql r) := by
 refine fnP (QqR a0 a1) ?_ h
 exact ⟨rfl, fun q0 => Qj 5 (q0) (Qj 27 (rfl) (rfl)), fun q0 => noN_ok 5 (q0) (⟨rfl, fun q1 => Qj 5 (q1) (Qj 21 (rfl) (rfl)), fun q1 => noN_ok 5 (q1) (⟨rfl, fun q2 => Qj 5 (q2) (Qj 15 (rfl) (rfl)), fun q2 => noN_ok 5 (q2) (⟨rfl, fun q3 => Qj 5 (q3) (Qj 9 (rfl) (rfl)), fun q3 => noN_ok 5 (q3) (⟨rfl, fun q4 => Qj 7 (q4) (⟨rfl, rfl⟩), fun q4 => noN_ok 2 (q4) (⟨(Jc _), noN_ok 3 (q4) (⟨(Jc _), noN_ok 2 (q4) (⟨rfl, fun q5 => rfl, fun q5 => ⟨fun o1 h => ⟨WG.ok (r := (.inl _)) h, rfl⟩, fun o2 h => ⟨WG.ok (r := (.inr _)) h, rfl⟩⟩⟩)⟩)⟩)⟩)⟩)⟩)⟩)⟩
noncomputable abbrev QqS {ρ R : Type} (a0 : Qb) (a1 : Qb) (k : Bool → Tr ρ R) : Tr ρ R := .call (ww 28 [.agg (WR a0), .agg (WR a1)] []) (Z1 a0 a1) Ql k
abbrev QlU := (List QG) → Int → Int → Int → (List Int) → ByteArray → Option Bool
structure Ut where
 x4 : (List Int)
 x5 : ByteArray
 x13 : ByteArray
 x15 : Int
 x16 : ByteArray
 x17 : Int
 r0 : (List Int)
structure US where
 x5 : ByteArray
 x13 : ByteArray
 x15 : Int
 x16 : ByteArray
 r0 : (List Int)
def En (a : Ut) : St := { n := 134, nx := 1, env := [(4, .sl (Q8 a.x4)), (5, xs a.x5), (13, xs a.x13), (14, .arr 0), (15, xi a.x15), (16, xs a.x16), (17, xi a.x17)], heap := [(0, .arr true 1 (R_u8 a.r0))] }
def ZE (a : US) : Ex × St := (.exit 0, { n := 134, nx := 1, env := [(5, xs a.x5), (13, xs a.x13), (14, .arr 0), (15, xi a.x15), (16, xs a.x16)], heap := [(0, .arr true 1 (R_u8 a.r0))] })
abbrev Qbz := Ut → Option US
def XH (C0 : G2) (a : Ut) : Option (Ut ⊕ US) := (bif (decide (a.x17 < (((a.x4.length) : Nat) : Int))) then (bif (decide (a.x17 < 12)) then (bif (decide (0 ≤ a.x17)) then ((a.x4[(Int.toNat a.x17)]?).bind fun e1 => ((C0 e1 (18 : Int)).bind fun r2 => (bif (decide (0 ≤ r2 ∧ r2 < (([h_20, h_2c, s_r3, EK, EL, h_23, h_22, h_3a, Ge, QD, s_1, h_09, s_b, Xo, h_28, h_29, h_2e, s_x].length : Nat) : Int))) then (([h_20, h_2c, s_r3, EK, EL, h_23, h_22, h_3a, Ge, QD, s_1, h_09, s_b, Xo, h_28, h_29, h_2e, s_x][(Int.toNat r2)]?).bind fun e3 => (bif (decide (((a.x16.size + e3.size : Nat) : Int) ≤ IntKind.i64.max)) then (some (.inl (Ut.mk a.x4 a.x5 a.x13 a.x15 (a.x16 ++ e3) (w64 (a.x17 + 1)) a.r0))) else none)) else none))) else none) else (some (.inr (US.mk a.x5 a.x13 a.x15 a.x16 a.r0)))) else (some (.inr (US.mk a.x5 a.x13 a.x15 a.x16 a.r0))))
noncomputable def Um : Qbz := loopW (XH QE)
theorem Um.eq (a : Ut) : Um a = (XH QE a).bind (Sum.elim Um some) := Jf _ _
noncomputable abbrev Qhc {ρ R : Type} (a : Ut) (k0 : US → Tr ρ R) : Tr ρ R := .loop (loopAt pp 6 11) (En a) (Um a) ZE k0
noncomputable def Qhd (a : Ut) : Tr (Ut ⊕ US) XS := (.num ((Q8 a.x4).length) (a.x4.length) (let u180 := (decide (a.x17 < (((a.x4.length) : Nat) : Int))); .as u180 (yesN 2 u180 (.as (decide (a.x17 < 12)) (.rows [[xs h_20], [xs h_2c], [xs s_r3], [xs EK], [xs EL], [xs h_23], [xs h_22], [xs h_3a], [xs Ge], [xs QD], [xs s_1], [xs h_09], [xs s_b], [xs Xo], [xs h_28], [xs h_29], [xs h_2e], [xs s_x]] (Qg [h_20, h_2c, s_r3, EK, EL, h_23, h_22, h_3a, Ge, QD, s_1, h_09, s_b, Xo, h_28, h_29, h_2e, s_x]) (.as (decide (0 ≤ a.x17)) (.row ((Q8 a.x4)[(Int.toNat a.x17)]?) (a.x4[(Int.toNat a.x17)]?) Xi fun (e1 : Int) => (Q9 e1 (zi 18) fun r2 => (.ask (in1 r2 (((Qg [h_20, h_2c, s_r3, EK, EL, h_23, h_22, h_3a, Ge, QD, s_1, h_09, s_b, Xo, h_28, h_29, h_2e, s_x]).length : Nat) : Int)) (in1 r2 (([h_20, h_2c, s_r3, EK, EL, h_23, h_22, h_3a, Ge, QD, s_1, h_09, s_b, Xo, h_28, h_29, h_2e, s_x].length : Nat) : Int)) (.row ((Qg [h_20, h_2c, s_r3, EK, EL, h_23, h_22, h_3a, Ge, QD, s_1, h_09, s_b, Xo, h_28, h_29, h_2e, s_x])[(Int.toNat r2)]?) ([h_20, h_2c, s_r3, EK, EL, h_23, h_22, h_3a, Ge, QD, s_1, h_09, s_b, Xo, h_28, h_29, h_2e, s_x][(Int.toNat r2)]?) QW fun (e3 : ByteArray) => (.as (decide (((a.x16.size + e3.size : Nat) : Int) ≤ IntKind.i64.max)) (lf En (Ut.mk a.x4 a.x5 a.x13 a.x15 (a.x16 ++ e3) (w64 (a.x17 + 1)) a.r0)) .fail)) .fail))) .fail)) (rx ZE (US.mk a.x5 a.x13 a.x15 a.x16 a.r0)))) (noN 2 u180 (.no false (rx ZE (US.mk a.x5 a.x13 a.x15 a.x16 a.r0))))))
theorem Um.ok {a : Ut} {r : US} (h : Um a = some r) : lw 0 6 (loopAt pp 6 11) (En a) = some (ZE r) := by
 refine lpP h Qhd fun a => ?_
 exact ⟨(Va _), ⟨rfl, fun q0 => Qj 2 (q0) (⟨rfl, fun q1 => ⟨(QP [h_20, h_2c, s_r3, EK, EL, h_23, h_22, h_3a, Ge, QD, s_1, h_09, s_b, Xo, h_28, h_29, h_2e, s_x]), ⟨rfl, fun q2 => fun e1 h => ⟨Vu h, fun r2 h => ⟨QE.ok h, ⟨(by rw [Qo]), fun q3 => fun e3 h => ⟨QO h, ⟨rfl, fun q4 => rfl, fun q4 => trivial⟩⟩, fun q3 => trivial⟩⟩⟩, fun q2 => trivial⟩⟩, fun q1 => rfl⟩), fun q0 => noN_ok 2 (q0) (⟨rfl, rfl⟩)⟩⟩
structure Uu where
 x18 : (List ByteArray)
 x19 : Int
def Eo (a : Uu) : St := { n := 134, nx := 0, env := [(18, .sl (Qg a.x18)), (19, xi a.x19)], heap := [] }
def SE (a : Bool) : Ex × St := (.ret, { n := 134, nx := 0, env := [(12, xo a)], heap := [] })
def SF (a : Unit) : Ex × St := (.exit 2, { n := 134, nx := 0, env := [], heap := [] })
def ZF (a : (Bool ⊕ Unit)) : Ex × St := Sum.elim SE SF a
abbrev QbA := Uu → Option (Bool ⊕ Unit)
def ZG (C0 : QkU) (C1 : QoG) (C2 : Qne) (a : Uu) : Option (Uu ⊕ (Bool ⊕ Unit)) := (bif (decide (a.x19 < (((a.x18.length) : Nat) : Int))) then (bif (decide (0 ≤ a.x19)) then ((a.x18[(Int.toNat a.x19)]?).bind fun e1 => ((C0 e1).bind fun r2 => ((a.x18[(Int.toNat a.x19)]?).bind fun e3 => ((C1 e3).bind fun r4 => (bif (!(r2.2 == r4.2)) then (some (.inr (.inl false))) else ((C2 r2.1 r4.1).bind fun r5 => (bif (!r5) then (some (.inr (.inl false))) else (some (.inl (Uu.mk a.x18 (w64 (a.x19 + 1)))))))))))) else none) else (some (.inr (.inr ()))))
noncomputable def UD : QbA := loopW (ZG YQ GW Z1)
theorem UD.eq (a : Uu) : UD a = (ZG YQ GW Z1 a).bind (Sum.elim UD some) := Jf _ _
noncomputable abbrev Qhe {ρ R : Type} (a : Uu) (k0 : Bool → Tr ρ R) (k1 : Unit → Tr ρ R) : Tr ρ R := .loop2 (loopAt pp 6 16) (Eo a) (UD a) SE SF k0 k1
noncomputable def Qhf (a : Uu) : Tr (Uu ⊕ (Bool ⊕ Unit)) XS := (.num ((Qg a.x18).length) (a.x18.length) (.as (decide (a.x19 < (((a.x18.length) : Nat) : Int))) (let u182 := (decide (0 ≤ a.x19)); .as u182 (.row ((Qg a.x18)[(Int.toNat a.x19)]?) (a.x18[(Int.toNat a.x19)]?) QW fun (e1 : ByteArray) => (QpF e1 fun r2 => (.yes u182 (.row ((Qg a.x18)[(Int.toNat a.x19)]?) (a.x18[(Int.toNat a.x19)]?) QW fun (e3 : ByteArray) => (QrM e3 fun r4 => (let u181 := (!(r2.2 == r4.2)); .as u181 (yesN 4 u181 (.yes true (rx ZF (.inl false)))) (noN 2 u181 (QqS r2.1 r4.1 fun r5 => (noN 2 u181 (.as (!r5) (rx ZF (.inl false)) (lf Eo (Uu.mk a.x18 (w64 (a.x19 + 1)))))))))))))) .fail) (rx ZF (.inr ()))))
theorem UD.ok {a : Uu} {r : (Bool ⊕ Unit)} (h : UD a = some r) : lw 0 6 (loopAt pp 6 16) (Eo a) = some (ZF r) := by
 refine lpP h Qhf fun a => ?_
 exact ⟨(Qo _), ⟨rfl, fun q0 => ⟨rfl, fun q1 => fun e1 h => ⟨QO h, fun r2 h => ⟨YQ.ok h, ⟨q1, fun e3 h => ⟨QO h, fun r4 h => ⟨GW.ok h, ⟨rfl, fun q2 => Qj 4 (q2) (⟨rfl, rfl⟩), fun q2 => noN_ok 2 (q2) (fun r5 h => ⟨Z1.ok h, noN_ok 2 (q2) (⟨rfl, fun q3 => rfl, fun q3 => rfl⟩)⟩)⟩⟩⟩⟩⟩⟩, fun q1 => trivial⟩, fun q0 => rfl⟩⟩
def PJ (C0 : Qqt) (C1 : QoD) (C2 : Qge) (C3 : QmX) (C4 : G2) (L5 : Qbz) (L6 : QbA) (a0 : (List QG)) (a1 : Int) (a2 : Int) (a3 : Int) (a4 : (List Int)) (a5 : ByteArray) : Option Bool := ((C0).bind fun r1 => (bif (!r1) then (some false) else ((C1 a0).bind fun r2 => (bif (!r2) then (some true) else (bif (decide (((a5.size : Nat) : Int) > 100)) then (some true) else (bif ((((a0.length) : Nat) : Int) == 0) then (some true) else ((a0[(Int.toNat 0)]?).bind fun e3 => ((C2 e3).bind fun r4 => ((C3 r4).bind fun r5 => (bif (decide (((r5.size + h_20.size : Nat) : Int) ≤ IntKind.i64.max)) then ((C4 a1 ((((bytesL (r5 ++ h_20)).length) : Nat) : Int)).bind fun r6 => (bif (decide (0 ≤ r6 ∧ r6 < (((bytesL (r5 ++ h_20)).length : Nat) : Int))) then (((bytesL (r5 ++ h_20))[(Int.toNat r6)]?).bind fun e7 => (((bytesL (r5 ++ h_20))[(Int.toNat r6)]?).bind fun e8 => ((C4 a3 (w64 ((((r5 ++ h_20).size : Nat) : Int) + 1))).bind fun r9 => ((L5 (Ut.mk a4 a5 (r5 ++ h_20) r9 s_ (0 : Int) ((bytesL (r5 ++ h_20)).set (Int.toNat r6) (IntKind.u8.wrap (e7 + a2))))).bind (fun (o10 : US) => ((some (listB o10.r0)).bind fun e11 => (bif (decide (0 ≤ (0 : Int) ∧ (0 : Int) ≤ o10.x15 ∧ o10.x15 ≤ ((o10.x13.size : Nat) : Int))) then (bif (decide ((((o10.x13.extract (Int.toNat 0) (Int.toNat o10.x15)).size + o10.x16.size : Nat) : Int) ≤ IntKind.i64.max)) then (bif (decide (0 ≤ o10.x15 ∧ o10.x15 ≤ ((o10.x13.size : Nat) : Int) ∧ ((o10.x13.size : Nat) : Int) ≤ ((o10.x13.size : Nat) : Int))) then (bif (decide (((((o10.x13.extract (Int.toNat 0) (Int.toNat o10.x15)) ++ o10.x16).size + (o10.x13.extract (Int.toNat o10.x15) (Int.toNat ((o10.x13.size : Nat) : Int))).size : Nat) : Int) ≤ IntKind.i64.max)) then (bif (decide (((Vl.size + o10.x13.size : Nat) : Int) ≤ IntKind.i64.max)) then (bif (decide ((((Vl ++ o10.x13).size + Zp.size : Nat) : Int) ≤ IntKind.i64.max)) then ((L6 (Uu.mk [o10.x13, (⟨e11.toArray⟩ : ByteArray), (o10.x13.extract (Int.toNat 0) (Int.toNat o10.x15)), (((o10.x13.extract (Int.toNat 0) (Int.toNat o10.x15)) ++ o10.x16) ++ (o10.x13.extract (Int.toNat o10.x15) (Int.toNat ((o10.x13.size : Nat) : Int)))), o10.x5, o10.x16, ((Vl ++ o10.x13) ++ Zp)] (0 : Int))).bind fun x => Sum.elim (fun (o12 : Bool) => (some o12)) (fun (o13 : Unit) => (some true)) x) else none) else none) else none) else none) else none) else none))))))) else none)) else none))))))))))
noncomputable def Xh : QlU := PJ ER EB Xe ZX QE Um UD
theorem Xh.eq (a0 : (List QG)) (a1 : Int) (a2 : Int) (a3 : Int) (a4 : (List Int)) (a5 : ByteArray) : Xh a0 a1 a2 a3 a4 a5 = PJ ER EB Xe ZX QE Um UD a0 a1 a2 a3 a4 a5 := rfl
noncomputable def Qkq (a0 : (List QG)) (a1 : Int) (a2 : Int) (a3 : Int) (a4 : (List Int)) (a5 : ByteArray) : Tr Bool AH := (Qpy fun r1 => (.as (!r1) (rt Ql false) (QrF a0 fun r2 => (.as (!r2) (yesN 3 (!r2) (yesN 5 true (rt Ql true))) (noN 3 (!r2) (let u185 := (decide ((zz a5) > 100)); .as u185 (yesN 3 u185 (.yes true (rt Ql true))) (.no u185 (.num ((XV a0).length) (a0.length) (noN 2 u185 (.as ((((a0.length) : Nat) : Int) == 0) (rt Ql true) (.yes (decide (0 ≤ i0)) (.row ((XV a0)[(Int.toNat 0)]?) (a0[(Int.toNat 0)]?) Wi fun (e3 : QG) => (QlO e3 fun r4 => (QqH r4 fun r5 => (.as (decide (((r5.size + h_20.size : Nat) : Int) ≤ IntKind.i64.max)) (.rows (byteRows (r5 ++ h_20).data.toList) (R_u8 (bytesL (r5 ++ h_20))) (.num ((R_u8 (bytesL (r5 ++ h_20))).length) ((bytesL (r5 ++ h_20)).length) (Q9 a1 ((((bytesL (r5 ++ h_20)).length) : Nat) : Int) fun r6 => (let u184 := (in1 r6 (((R_u8 (bytesL (r5 ++ h_20))).length : Nat) : Int)); .ask u184 (in1 r6 (((bytesL (r5 ++ h_20)).length : Nat) : Int)) (.row ((R_u8 (bytesL (r5 ++ h_20)))[(Int.toNat r6)]?) ((bytesL (r5 ++ h_20))[(Int.toNat r6)]?) C_u8 fun (e7 : Int) => (.yes u184 (.row ((R_u8 (bytesL (r5 ++ h_20)))[(Int.toNat r6)]?) ((bytesL (r5 ++ h_20))[(Int.toNat r6)]?) C_u8 fun (e8 : Int) => (.rows ((R_u8 (bytesL (r5 ++ h_20))).set (Int.toNat r6) [xb (IntKind.u8.wrap (e7 + a2))]) (R_u8 ((bytesL (r5 ++ h_20)).set (Int.toNat r6) (IntKind.u8.wrap (e7 + a2)))) (Q9 a3 (w64 ((zz (r5 ++ h_20)) + 1)) fun r9 => (Qhc (Ut.mk a4 a5 (r5 ++ h_20) r9 s_ i0 ((bytesL (r5 ++ h_20)).set (Int.toNat r6) (IntKind.u8.wrap (e7 + a2)))) (fun o10 => (.byt (bytesOfRows (R_u8 o10.r0)) (some (listB o10.r0)) fun (e11 : List UInt8) => (let u183 := (in2 i0 o10.x15 (zz o10.x13)); .as u183 (.yes u183 (.as (decide ((((cu o10.x13 i0 o10.x15).size + o10.x16.size : Nat) : Int) ≤ IntKind.i64.max)) (.as (in2 o10.x15 (zz o10.x13) (zz o10.x13)) (.as (decide (((((cu o10.x13 i0 o10.x15) ++ o10.x16).size + (cu o10.x13 o10.x15 (zz o10.x13)).size : Nat) : Int) ≤ IntKind.i64.max)) (.as (decide (((Vl.size + o10.x13.size : Nat) : Int) ≤ IntKind.i64.max)) (.as (decide ((((Vl ++ o10.x13).size + Zp.size : Nat) : Int) ≤ IntKind.i64.max)) (.rows [[xs o10.x13], [xs (⟨e11.toArray⟩ : ByteArray)], [xs (cu o10.x13 i0 o10.x15)], [xs (((cu o10.x13 i0 o10.x15) ++ o10.x16) ++ (cu o10.x13 o10.x15 (zz o10.x13)))], [xs o10.x5], [xs o10.x16], [xs ((Vl ++ o10.x13) ++ Zp)]] (Qg [o10.x13, (⟨e11.toArray⟩ : ByteArray), (cu o10.x13 i0 o10.x15), (((cu o10.x13 i0 o10.x15) ++ o10.x16) ++ (cu o10.x13 o10.x15 (zz o10.x13))), o10.x5, o10.x16, ((Vl ++ o10.x13) ++ Zp)]) (Qhe (Uu.mk [o10.x13, (⟨e11.toArray⟩ : ByteArray), (cu o10.x13 i0 o10.x15), (((cu o10.x13 i0 o10.x15) ++ o10.x16) ++ (cu o10.x13 o10.x15 (zz o10.x13))), o10.x5, o10.x16, ((Vl ++ o10.x13) ++ Zp)] i0) (fun o12 => (rt Ql o12)) (fun o13 => (rt Ql true)))) .fail) .fail) .fail) .fail) .fail)) .fail))))))))) .fail)))) .fail)))))))))))))))
theorem Xh.ok {a0 : (List QG)} {a1 : Int} {a2 : Int} {a3 : Int} {a4 : (List Int)} {a5 : ByteArray} {r : Bool} (h : Xh a0 a1 a2 a3 a4 a5 = some r) : ww 6 [.sl (XV a0), xi a1, xb a2, xi a3, .sl (Q8 a4), xs a5] [] = some (Ql r) := by
 refine fnP (Qkq a0 a1 a2 a3 a4 a5) ?_ h
 exact fun r1 h => ⟨ER.ok h, ⟨rfl, fun q0 => rfl, fun q0 => fun r2 h => ⟨EB.ok h, ⟨rfl, fun q1 => Qj 3 (q1) (Qj 5 (rfl) (rfl)), fun q1 => noN_ok 3 (q1) (⟨rfl, fun q2 => Qj 3 (q2) (⟨rfl, rfl⟩), fun q2 => ⟨q2, ⟨(Qfu _), noN_ok 2 (q2) (⟨rfl, fun q3 => rfl, fun q3 => ⟨rfl, fun e3 h => ⟨QaH h, fun r4 h => ⟨Xe.ok h, fun r5 h => ⟨ZX.ok h, ⟨rfl, fun q4 => ⟨(Qpw _), ⟨(Qie _), fun r6 h => ⟨QE.ok h, ⟨(by rw [Qie]), fun q5 => fun e7 h => ⟨Qmq h, ⟨(show (decide (0 ≤ r6 ∧ r6 < (((R_u8 (bytesL (r5 ++ h_20))).length : Nat) : Int))) = (decide (0 ≤ r6 ∧ r6 < (((bytesL (r5 ++ h_20)).length : Nat) : Int))) from (by rw [Qie])).trans q5, fun e8 h => ⟨Qmq h, ⟨(Qry (bytesL (r5 ++ h_20)) (Int.toNat r6) (IntKind.u8.wrap (e7 + a2))), fun r9 h => ⟨QE.ok h, fun o10 h => ⟨Um.ok h, fun e11 h => ⟨(QkO _).trans h, ⟨rfl, fun q6 => ⟨q6, ⟨rfl, fun q7 => ⟨rfl, fun q8 => ⟨rfl, fun q9 => ⟨rfl, fun q10 => ⟨rfl, fun q11 => ⟨(QP [o10.x13, (⟨e11.toArray⟩ : ByteArray), (o10.x13.extract (Int.toNat (0 : Int)) (Int.toNat o10.x15)), (((o10.x13.extract (Int.toNat (0 : Int)) (Int.toNat o10.x15)) ++ o10.x16) ++ (o10.x13.extract (Int.toNat o10.x15) (Int.toNat ((o10.x13.size : Nat) : Int)))), o10.x5, o10.x16, ((Vl ++ o10.x13) ++ Zp)]), ⟨fun o12 h => ⟨UD.ok (r := (.inl _)) h, rfl⟩, fun o13 h => ⟨UD.ok (r := (.inr _)) h, rfl⟩⟩⟩, fun q11 => trivial⟩, fun q10 => trivial⟩, fun q9 => trivial⟩, fun q8 => trivial⟩, fun q7 => trivial⟩⟩, fun q6 => trivial⟩⟩⟩⟩⟩⟩⟩⟩, fun q5 => trivial⟩⟩⟩⟩, fun q4 => trivial⟩⟩⟩⟩⟩⟩)⟩⟩⟩)⟩⟩⟩⟩
theorem Xh.run (a0 : (List QG)) (a1 : Int) (a2 : Int) (a3 : Int) (a4 : (List Int)) (a5 : ByteArray) {r : Bool} (h : Xh a0 a1 a2 a3 a4 a5 = some r) : ∃ k, evalFn Tryz.prog G k 6 [.sl (XV a0), .sc (.int .i64 a1), .sc (.int .u8 a2), .sc (.int .i64 a3), .sl (Q8 a4), .sc (.string a5)] [] = some (Ql r) := runP (Xh.ok h)

end Go.Ab
namespace Go.Proofs.YtblfhkldljfhiaaGreatDoor
open Go Go.Ab Go.RowKit Go.Shelf
theorem gPow : Tryz.prog.globalNamed "internal/strconv.uint64pow10" = some 5 := by kernel_rfl
theorem tPow : (Tryz.prog.globals[5]?).map (·.type) = some 287 := by kernel_rfl
theorem QqT : Tryz.prog.cellsOf 255 = 1 := by kernel_rfl
theorem QqU : Tryz.prog.cellsOf 287 = 20 := by kernel_rfl
theorem datumP {H : Type} : (Rows.laid_internal_strconv_uint64pow10 : DataW H) = Lib.tabData .u64 Lib.pow10Tab := by kernel_rfl
theorem gSp : Tryz.prog.globalNamed "strings.asciiSpace" = some 0 := by kernel_rfl
theorem tSp : (Tryz.prog.globals[0]?).map (·.type) = some 234 := by kernel_rfl
theorem QrN : Tryz.prog.cellsOf 5 = 1 := by kernel_rfl
theorem QrO : Tryz.prog.cellsOf 234 = 256 := by kernel_rfl
theorem datumS {H : Type} : (Rows.laid_strings_asciiSpace : DataW H) = Lib.tabData .u8 Lib.asciiSpaceTab := by kernel_rfl
def told : Ab.Told := ((told1 Tryz.prog "internal/strconv.uint64pow10" 5 (Lib.pow10Tab.map fun z => Value.int .u64 z).toArray).both (told1 Tryz.prog "strings.asciiSpace" 0 (Lib.asciiSpaceTab.map fun z => Value.int .u8 z).toArray)).both (cellT 1)
theorem QsI {W : World} (h : laidMetH Tryz.prog [("math/bits.deBruijn32tab", Rows.laid_math_bits_deBruijn32tab), ("math/bits.deBruijn64tab", Rows.laid_math_bits_deBruijn64tab), ("internal/strconv.uint64pow10", Rows.laid_internal_strconv_uint64pow10), ("unicode/utf8.acceptRanges", Rows.laid_unicode_utf8_acceptRanges), ("strconv.ErrRange", Rows.laid_strconv_ErrRange), ("strconv.ErrSyntax", Rows.laid_strconv_ErrSyntax), ("unicode.White_Space", Rows.laid_unicode_White_Space), ("strings.asciiSpace", Rows.laid_strings_asciiSpace), ("unicode/utf8.first", Rows.laid_unicode_utf8_first)] W ∧ W.ShapedOpen Tryz.prog) : told.T (oldCtx W).Z W := by
 obtain ⟨h, hs⟩ := h
 rw [MakeChecks.laidMetH_plain _ _ _ (by kernel_rfl)] at h
 obtain ⟨ps, ⟨g0, t0, cs0, f0, p0, q0, hg0, ht0, hv0, hd0, ⟨g1, t1, cs1, f1, p1, q1, hg1, ht1, hv1, hd1, ⟨g2, t2, cs2, f2, p2, q2, hg2, ht2, hv2, hd2, ⟨g3, t3, cs3, f3, p3, q3, hg3, ht3, hv3, hd3, ⟨g4, t4, cs4, f4, p4, q4, hg4, ht4, hv4, hd4, ⟨g5, t5, cs5, f5, p5, q5, hg5, ht5, hv5, hd5, ⟨g6, t6, cs6, f6, p6, q6, hg6, ht6, hv6, hd6, ⟨g7, t7, cs7, f7, p7, q7, hg7, ht7, hv7, hd7, ⟨g8, t8, cs8, f8, p8, q8, hg8, ht8, hv8, hd8, _⟩, _⟩, _⟩, _⟩, _⟩, _⟩, _⟩, _⟩, _⟩, _⟩ := h
 refine ⟨⟨?_, ?_⟩, ?_⟩
 ·obtain rfl := Option.some.inj (gPow.symm.trans hg2)
  obtain rfl := Option.some.inj (tPow.symm.trans ht2)
  rw [datumP] at hd2
  refine Qmj gPow (hv2.trans ?_) (by decide)
  have := Lib.cells_of_tab Tryz.underlying287 Tryz.underlying255 QqT QqU hd2
  rw [← this]
 ·obtain rfl := Option.some.inj (gSp.symm.trans hg7)
  obtain rfl := Option.some.inj (tSp.symm.trans ht7)
  rw [datumS] at hd7
  refine Qmj gSp (hv7.trans ?_) (of_decide_eq_true (by kernel_rfl))
  have := Lib.cells_of_tab Tryz.underlying234 Tryz.underlying5 QrN QrO hd7
  rw [← this]
 ·exact Qqp (cell_of_shapedOpen_int (P := Tryz.prog) (t := 3) (zero := #[.int .i64 0]) hs (by decide +kernel) (by kernel_rfl) rfl (by kernel_rfl) (by kernel_rfl) Tryz.underlying3)
set_option maxHeartbeats 2000000 in
set_option maxRecDepth 100000 in
theorem QsJ (n c : Nat) (w : World) : Calls Tryz.prog 81 #[.slice none n c] w fun e w' => e = .returned (.slice none 0 0) ∧ w' = w := by
 have mixed : Tryz.prog.follows .mixedOrders = true := by kernel_rfl
 have t0 := Tryz.underlying3; have a0 := Tryz.isAgg3; have z0 := Tryz.sizeOf3; have v0 := Tryz.zeroValue3; have t1 := Tryz.underlying22; have a1 := Tryz.isAgg22; have z1 := Tryz.sizeOf22; have v1 := Tryz.zeroValue22; have t2 := Tryz.underlying4; have a2 := Tryz.isAgg4; have z2 := Tryz.sizeOf4; have v2 := Tryz.zeroValue4
 have q22 : ∀ (w : World) (a : Option Addr) (n c n' c' : Nat), (binOp .eql 22 (.slice a n c) (.slice none n' c')).run Tryz.prog w = .ok (.bool a.isNone) w := fun w a n c n' c' => Lib.run_eql_slice_nil w _ _ a n c n' c' t1
 go_enter Tryz.func81, Tryz.ntmps81
 go_wp2
 go_ret
 exact ⟨rfl, rfl⟩
set_option maxHeartbeats 2000000 in
set_option maxRecDepth 100000 in
theorem QrP (a : Addr) (c : Nat) (w : World) : Calls Tryz.prog 81 #[.slice (some a) 0 c] w fun e w' => ∃ v', e = .returned v' ∧ w'.ownsRow w.heap.size 3 1 v' 0 [] ∧ Below w.heap.size w w' := by
 have mixed : Tryz.prog.follows .mixedOrders = true := by kernel_rfl
 have t0 := Tryz.underlying3; have a0 := Tryz.isAgg3; have z0 := Tryz.sizeOf3; have v0 := Tryz.zeroValue3; have t1 := Tryz.underlying22; have a1 := Tryz.isAgg22; have z1 := Tryz.sizeOf22; have v1 := Tryz.zeroValue22; have t2 := Tryz.underlying4; have a2 := Tryz.isAgg4; have z2 := Tryz.sizeOf4; have v2 := Tryz.zeroValue4
 have q22 : ∀ (w : World) (a : Option Addr) (n c n' c' : Nat), (binOp .eql 22 (.slice a n c) (.slice none n' c')).run Tryz.prog w = .ok (.bool a.isNone) w := fun w a n c n' c' => Lib.run_eql_slice_nil w _ _ a n c n' c' t1
 have hinfo : (Tryz.prog.info? 3).map (fun i => (i.zero, i.size, i.bytes)) = some (some (.int .i64 0), 1, 8) := by kernel_rfl
 obtain ⟨i0, hi, hz0, hz1, hz2⟩ := info_parts hinfo
 have u22 : ∀ w, Sem.run Tryz.prog (underlying 22) w = .ok (TypeDesc.slice 3) w := run_underlying t1
 go_enter Tryz.func81, Tryz.ntmps81
 go_wp2_with (at_builtin; refine wpList_append_own _ rfl _ _ 22 rfl w.heap.size 3 i0 (.int .i64 0) 1 8 t1 hi hz0 hz1 hz2 rfl (by decide) _ _ _ rfl (World.ownsRow_made w #[] 0 (Nat.le_refl _) (Nat.zero_le _) rfl) a 0 c [] rfl rfl (by intro j u hj; simp at hj) (by intro u hu; cases hu) (by unfold maxLen; omega) (by omega) (by simp) ?_)
 intro v' w1 hown hgrow hnil
 go_wp2
 go_ret
 refine ⟨v', rfl, by simpa using hown, ?_⟩
 exact ((Below.refl _ w).alloc (Nat.le_refl _) _).grown hgrow (by simp) (by intro k hk; simp [Value.ownBlock] at hk; omega)
set_option maxHeartbeats 2000000 in
set_option maxRecDepth 100000 in
theorem QrQ (b off c : Nat) (zs : List Value) (w : World) (hbig : zs.length * 8 ≤ 140737488355328) (hsc : zs.all scal = true) (hc : ∀ (j : Nat) z, zs[j]? = some z → w.cell? ⟨b, off + j, none⟩ = some z) :
  Calls Tryz.prog 81 #[.slice (some ⟨b, off, none⟩) zs.length c] w fun e w' => ∃ v', e = .returned v' ∧ w'.ownsRow w.heap.size 3 1 v' zs.length zs ∧ Below w.heap.size w w' := by
 have mixed : Tryz.prog.follows .mixedOrders = true := by kernel_rfl
 have t0 := Tryz.underlying3; have a0 := Tryz.isAgg3; have z0 := Tryz.sizeOf3; have v0 := Tryz.zeroValue3; have t1 := Tryz.underlying22; have a1 := Tryz.isAgg22; have z1 := Tryz.sizeOf22; have v1 := Tryz.zeroValue22; have t2 := Tryz.underlying4; have a2 := Tryz.isAgg4; have z2 := Tryz.sizeOf4; have v2 := Tryz.zeroValue4
 have q22 : ∀ (w : World) (a : Option Addr) (n c n' c' : Nat), (binOp .eql 22 (.slice a n c) (.slice none n' c')).run Tryz.prog w = .ok (.bool a.isNone) w := fun w a n c n' c' => Lib.run_eql_slice_nil w _ _ a n c n' c' t1
 have hinfo : (Tryz.prog.info? 3).map (fun i => (i.zero, i.size, i.bytes)) = some (some (.int .i64 0), 1, 8) := by kernel_rfl
 obtain ⟨i0, hi, hz0, hz1, hz2⟩ := info_parts hinfo
 have u22 : ∀ w, Sem.run Tryz.prog (underlying 22) w = .ok (TypeDesc.slice 3) w := run_underlying t1
 have A : Aside (∀ (j : Nat) z, zs[j]? = some z → w.cell? ⟨b, off + j, none⟩ = some z) := hc
 clear hc
 go_enter Tryz.func81, Tryz.ntmps81
 go_wp2_with (at_builtin; refine wpList_append_own _ rfl _ _ 22 rfl w.heap.size 3 i0 (.int .i64 0) 1 8 t1 hi hz0 hz1 hz2 rfl (by decide) _ _ _ rfl (World.ownsRow_made w #[] 0 (Nat.le_refl _) (Nat.zero_le _) rfl) ⟨b, off, none⟩ zs.length c zs rfl ?qc1 ?qc2 ?qc3 ?qc4 ?qc5 ?qc6 ?_)
 case qc1 => simp
 case qc2 =>
  intro j u hj
  rw [Addr.add_lit]
  exact Lib.cell?_alloc_some _ (A.out j u hj)
 case qc3 => intro u hu; exact YK (c := oldCtx w) (w := w) (.sc u (List.all_eq_true.1 hsc u hu)) rfl
 case qc4 => unfold maxLen; omega
 case qc5 => omega
 case qc6 => simp
 intro v' w1 hown hgrow hnil
 go_wp2
 go_ret
 refine ⟨v', rfl, by simpa using hown, ?_⟩
 exact ((Below.refl _ w).alloc (Nat.le_refl _) _).grown hgrow (by simp) (by intro k hk; simp [Value.ownBlock] at hk; omega)

set_option maxHeartbeats 2000000 in
set_option maxRecDepth 100000 in
theorem QqV (n c : Nat) (w : World) : Calls Tryz.prog 77 #[.slice none n c] w fun e w' => e = .returned (.slice none 0 0) ∧ w' = w := by
 have mixed : Tryz.prog.follows .mixedOrders = true := by kernel_rfl
 have t0 := Tryz.underlying68; have a0 := Tryz.isAgg68; have z0 := Tryz.sizeOf68; have v0 := Tryz.zeroValue68; have t1 := Tryz.underlying35; have a1 := Tryz.isAgg35; have z1 := Tryz.sizeOf35; have v1 := Tryz.zeroValue35; have t2 := Tryz.underlying4; have a2 := Tryz.isAgg4; have z2 := Tryz.sizeOf4; have v2 := Tryz.zeroValue4
 have q22 : ∀ (w : World) (a : Option Addr) (n c n' c' : Nat), (binOp .eql 35 (.slice a n c) (.slice none n' c')).run Tryz.prog w = .ok (.bool a.isNone) w := fun w a n c n' c' => Lib.run_eql_slice_nil w _ _ a n c n' c' t1
 go_enter Tryz.func77, Tryz.ntmps77
 go_wp2
 go_ret
 exact ⟨rfl, rfl⟩
set_option maxHeartbeats 2000000 in
set_option maxRecDepth 100000 in
theorem QpS (a : Addr) (c : Nat) (w : World) : Calls Tryz.prog 77 #[.slice (some a) 0 c] w fun e w' => ∃ v', e = .returned v' ∧ w'.ownsRow w.heap.size 68 5 v' 0 [] ∧ Below w.heap.size w w' := by
 have mixed : Tryz.prog.follows .mixedOrders = true := by kernel_rfl
 have t0 := Tryz.underlying68; have a0 := Tryz.isAgg68; have z0 := Tryz.sizeOf68; have v0 := Tryz.zeroValue68; have t1 := Tryz.underlying35; have a1 := Tryz.isAgg35; have z1 := Tryz.sizeOf35; have v1 := Tryz.zeroValue35; have t2 := Tryz.underlying4; have a2 := Tryz.isAgg4; have z2 := Tryz.sizeOf4; have v2 := Tryz.zeroValue4
 have q22 : ∀ (w : World) (a : Option Addr) (n c n' c' : Nat), (binOp .eql 35 (.slice a n c) (.slice none n' c')).run Tryz.prog w = .ok (.bool a.isNone) w := fun w a n c n' c' => Lib.run_eql_slice_nil w _ _ a n c n' c' t1
 have hinfo : (Tryz.prog.info? 68).map (fun i => (i.zero, i.size, i.bytes)) = some (some (.agg #[.int .i64 0, .int .i64 0, .int .i64 0, .string ByteArray.empty, .slice none 0 0]), 5, 64) := by kernel_rfl
 obtain ⟨i0, hi, hz0, hz1, hz2⟩ := info_parts hinfo
 have u22 : ∀ w, Sem.run Tryz.prog (underlying 35) w = .ok (TypeDesc.slice 68) w := run_underlying t1
 go_enter Tryz.func77, Tryz.ntmps77
 go_wp2_with (at_builtin; refine wpList_append_own _ rfl _ _ 35 rfl w.heap.size 68 i0 (.agg #[.int .i64 0, .int .i64 0, .int .i64 0, .string ByteArray.empty, .slice none 0 0]) 5 64 t1 hi hz0 hz1 hz2 rfl (by decide) _ _ _ rfl (World.ownsRow_made w #[] 0 (Nat.le_refl _) (Nat.zero_le _) rfl) a 0 c [] rfl rfl (by intro j u hj; simp at hj) (by intro u hu; cases hu) (by unfold maxLen; omega) (by omega) (by simp) ?_)
 intro v' w1 hown hgrow hnil
 go_wp2
 go_ret
 refine ⟨v', rfl, by simpa using hown, ?_⟩
 exact ((Below.refl _ w).alloc (Nat.le_refl _) _).grown hgrow (by simp) (by intro k hk; simp [Value.ownBlock] at hk; omega)
set_option maxHeartbeats 2000000 in
set_option maxRecDepth 100000 in
theorem QpT (b off n c : Nat) (zs : List Value) (w : World) (hl : zs.length = n * 5) (hbig : n * 64 ≤ 140737488355328) (hml : n ≤ maxLen) (hsc : ∀ u ∈ zs, u.oneCell' = true) (hc : ∀ (j : Nat) z, zs[j]? = some z → w.cell? ⟨b, off + j, none⟩ = some z) :
  Calls Tryz.prog 77 #[.slice (some ⟨b, off, none⟩) n c] w fun e w' => ∃ v', e = .returned v' ∧ w'.ownsRow w.heap.size 68 5 v' n zs ∧ Below w.heap.size w w' := by
 have mixed : Tryz.prog.follows .mixedOrders = true := by kernel_rfl
 have t0 := Tryz.underlying68; have a0 := Tryz.isAgg68; have z0 := Tryz.sizeOf68; have v0 := Tryz.zeroValue68; have t1 := Tryz.underlying35; have a1 := Tryz.isAgg35; have z1 := Tryz.sizeOf35; have v1 := Tryz.zeroValue35; have t2 := Tryz.underlying4; have a2 := Tryz.isAgg4; have z2 := Tryz.sizeOf4; have v2 := Tryz.zeroValue4
 have q22 : ∀ (w : World) (a : Option Addr) (n c n' c' : Nat), (binOp .eql 35 (.slice a n c) (.slice none n' c')).run Tryz.prog w = .ok (.bool a.isNone) w := fun w a n c n' c' => Lib.run_eql_slice_nil w _ _ a n c n' c' t1
 have hinfo : (Tryz.prog.info? 68).map (fun i => (i.zero, i.size, i.bytes)) = some (some (.agg #[.int .i64 0, .int .i64 0, .int .i64 0, .string ByteArray.empty, .slice none 0 0]), 5, 64) := by kernel_rfl
 obtain ⟨i0, hi, hz0, hz1, hz2⟩ := info_parts hinfo
 have u22 : ∀ w, Sem.run Tryz.prog (underlying 35) w = .ok (TypeDesc.slice 68) w := run_underlying t1
 have A : Aside (∀ (j : Nat) z, zs[j]? = some z → w.cell? ⟨b, off + j, none⟩ = some z) := hc
 clear hc
 go_enter Tryz.func77, Tryz.ntmps77
 go_wp2_with (at_builtin; refine wpList_append_own _ rfl _ _ 35 rfl w.heap.size 68 i0 (.agg #[.int .i64 0, .int .i64 0, .int .i64 0, .string ByteArray.empty, .slice none 0 0]) 5 64 t1 hi hz0 hz1 hz2 rfl (by decide) _ _ _ rfl (World.ownsRow_made w #[] 0 (Nat.le_refl _) (Nat.zero_le _) rfl) ⟨b, off, none⟩ n c zs rfl ?qc1 ?qc2 ?qc3 ?qc4 ?qc5 ?qc6 ?_)
 case qc1 => exact hl
 case qc2 =>
  intro j u hj
  rw [Addr.add_lit]
  exact Lib.cell?_alloc_some _ (A.out j u hj)
 case qc3 => intro u hu; exact hsc u hu
 case qc4 => omega
 case qc5 => omega
 case qc6 => simp
 intro v' w1 hown hgrow hnil
 go_wp2
 go_ret
 refine ⟨v', rfl, by simpa using hown, ?_⟩
 exact ((Below.refl _ w).alloc (Nat.le_refl _) _).grown hgrow (by simp) (by intro k hk; simp [Value.ownBlock] at hk; omega)

set_option maxHeartbeats 2000000 in
set_option maxRecDepth 100000 in
theorem QpU (n c : Nat) (w : World) : Calls Tryz.prog 80 #[.slice none n c] w fun e w' => e = .returned (.slice none 0 0) ∧ w' = w := by
 have mixed : Tryz.prog.follows .mixedOrders = true := by kernel_rfl
 have t0 := Tryz.underlying37; have a0 := Tryz.isAgg37; have z0 := Tryz.sizeOf37; have v0 := Tryz.zeroValue37; have t1 := Tryz.underlying52; have a1 := Tryz.isAgg52; have z1 := Tryz.sizeOf52; have v1 := Tryz.zeroValue52; have t2 := Tryz.underlying4; have a2 := Tryz.isAgg4; have z2 := Tryz.sizeOf4; have v2 := Tryz.zeroValue4
 have q22 : ∀ (w : World) (a : Option Addr) (n c n' c' : Nat), (binOp .eql 52 (.slice a n c) (.slice none n' c')).run Tryz.prog w = .ok (.bool a.isNone) w := fun w a n c n' c' => Lib.run_eql_slice_nil w _ _ a n c n' c' t1
 go_enter Tryz.func80, Tryz.ntmps80
 go_wp2
 go_ret
 exact ⟨rfl, rfl⟩
set_option maxHeartbeats 2000000 in
set_option maxRecDepth 100000 in
theorem Qok (a : Addr) (c : Nat) (w : World) : Calls Tryz.prog 80 #[.slice (some a) 0 c] w fun e w' => ∃ v', e = .returned v' ∧ w'.ownsRow w.heap.size 37 6 v' 0 [] ∧ Below w.heap.size w w' := by
 have mixed : Tryz.prog.follows .mixedOrders = true := by kernel_rfl
 have t0 := Tryz.underlying37; have a0 := Tryz.isAgg37; have z0 := Tryz.sizeOf37; have v0 := Tryz.zeroValue37; have t1 := Tryz.underlying52; have a1 := Tryz.isAgg52; have z1 := Tryz.sizeOf52; have v1 := Tryz.zeroValue52; have t2 := Tryz.underlying4; have a2 := Tryz.isAgg4; have z2 := Tryz.sizeOf4; have v2 := Tryz.zeroValue4
 have q22 : ∀ (w : World) (a : Option Addr) (n c n' c' : Nat), (binOp .eql 52 (.slice a n c) (.slice none n' c')).run Tryz.prog w = .ok (.bool a.isNone) w := fun w a n c n' c' => Lib.run_eql_slice_nil w _ _ a n c n' c' t1
 have hinfo : (Tryz.prog.info? 37).map (fun i => (i.zero, i.size, i.bytes)) = some (some (.agg #[.int .i64 0, .string ByteArray.empty, .int .i64 0, .int .i64 0, .string ByteArray.empty, .slice none 0 0]), 6, 80) := by kernel_rfl
 obtain ⟨i0, hi, hz0, hz1, hz2⟩ := info_parts hinfo
 have u22 : ∀ w, Sem.run Tryz.prog (underlying 52) w = .ok (TypeDesc.slice 37) w := run_underlying t1
 go_enter Tryz.func80, Tryz.ntmps80
 go_wp2_with (at_builtin; refine wpList_append_own _ rfl _ _ 52 rfl w.heap.size 37 i0 (.agg #[.int .i64 0, .string ByteArray.empty, .int .i64 0, .int .i64 0, .string ByteArray.empty, .slice none 0 0]) 6 80 t1 hi hz0 hz1 hz2 rfl (by decide) _ _ _ rfl (World.ownsRow_made w #[] 0 (Nat.le_refl _) (Nat.zero_le _) rfl) a 0 c [] rfl rfl (by intro j u hj; simp at hj) (by intro u hu; cases hu) (by unfold maxLen; omega) (by omega) (by simp) ?_)
 intro v' w1 hown hgrow hnil
 go_wp2
 go_ret
 refine ⟨v', rfl, by simpa using hown, ?_⟩
 exact ((Below.refl _ w).alloc (Nat.le_refl _) _).grown hgrow (by simp) (by intro k hk; simp [Value.ownBlock] at hk; omega)
set_option maxHeartbeats 2000000 in
set_option maxRecDepth 100000 in
theorem Qol (b off n c : Nat) (zs : List Value) (w : World) (hl : zs.length = n * 6) (hbig : n * 80 ≤ 140737488355328) (hml : n ≤ maxLen) (hsc : ∀ u ∈ zs, u.oneCell' = true) (hc : ∀ (j : Nat) z, zs[j]? = some z → w.cell? ⟨b, off + j, none⟩ = some z) :
  Calls Tryz.prog 80 #[.slice (some ⟨b, off, none⟩) n c] w fun e w' => ∃ v', e = .returned v' ∧ w'.ownsRow w.heap.size 37 6 v' n zs ∧ Below w.heap.size w w' := by
 have mixed : Tryz.prog.follows .mixedOrders = true := by kernel_rfl
 have t0 := Tryz.underlying37; have a0 := Tryz.isAgg37; have z0 := Tryz.sizeOf37; have v0 := Tryz.zeroValue37; have t1 := Tryz.underlying52; have a1 := Tryz.isAgg52; have z1 := Tryz.sizeOf52; have v1 := Tryz.zeroValue52; have t2 := Tryz.underlying4; have a2 := Tryz.isAgg4; have z2 := Tryz.sizeOf4; have v2 := Tryz.zeroValue4
 have q22 : ∀ (w : World) (a : Option Addr) (n c n' c' : Nat), (binOp .eql 52 (.slice a n c) (.slice none n' c')).run Tryz.prog w = .ok (.bool a.isNone) w := fun w a n c n' c' => Lib.run_eql_slice_nil w _ _ a n c n' c' t1
 have hinfo : (Tryz.prog.info? 37).map (fun i => (i.zero, i.size, i.bytes)) = some (some (.agg #[.int .i64 0, .string ByteArray.empty, .int .i64 0, .int .i64 0, .string ByteArray.empty, .slice none 0 0]), 6, 80) := by kernel_rfl
 obtain ⟨i0, hi, hz0, hz1, hz2⟩ := info_parts hinfo
 have u22 : ∀ w, Sem.run Tryz.prog (underlying 52) w = .ok (TypeDesc.slice 37) w := run_underlying t1
 have A : Aside (∀ (j : Nat) z, zs[j]? = some z → w.cell? ⟨b, off + j, none⟩ = some z) := hc
 clear hc
 go_enter Tryz.func80, Tryz.ntmps80
 go_wp2_with (at_builtin; refine wpList_append_own _ rfl _ _ 52 rfl w.heap.size 37 i0 (.agg #[.int .i64 0, .string ByteArray.empty, .int .i64 0, .int .i64 0, .string ByteArray.empty, .slice none 0 0]) 6 80 t1 hi hz0 hz1 hz2 rfl (by decide) _ _ _ rfl (World.ownsRow_made w #[] 0 (Nat.le_refl _) (Nat.zero_le _) rfl) ⟨b, off, none⟩ n c zs rfl ?qc1 ?qc2 ?qc3 ?qc4 ?qc5 ?qc6 ?_)
 case qc1 => exact hl
 case qc2 =>
  intro j u hj
  rw [Addr.add_lit]
  exact Lib.cell?_alloc_some _ (A.out j u hj)
 case qc3 => intro u hu; exact hsc u hu
 case qc4 => omega
 case qc5 => omega
 case qc6 => simp
 intro v' w1 hown hgrow hnil
 go_wp2
 go_ret
 refine ⟨v', rfl, by simpa using hown, ?_⟩
 exact ((Below.refl _ w).alloc (Nat.le_refl _) _).grown hgrow (by simp) (by intro k hk; simp [Value.ownBlock] at hk; omega)

theorem ok_cli : FnOK1 told Tryz.prog 81 (cloneV 8) := Qmm (e_ := 3) QsJ QrP QrQ
theorem Qnh : FnOK1 told Tryz.prog 77 (cloneF 5 64) := Qfr (e_ := 68) QqV QpS QpT
theorem Qk5 : FnOK1 told Tryz.prog 80 (cloneF 6 80) := Qfr (e_ := 37) QpU Qok Qol
theorem QoH : FnOK1 told Tryz.prog 93 itoaX := by
 refine Qpn fun n Z w h0 h1 hT => ?_
 refine (Tryz.strconv_Itoa n h0 h1 w hT.1.1.2.2.1).mono ?_
 rintro e w' ⟨rfl, k, os, rfl⟩
 exact ⟨rfl, Lib.below_grow _ _ (Nat.le_refl _) _ _⟩
theorem Qk6 : FnOK1 told Tryz.prog 145 fieldsX := Qmk fun s Z w h1 h2 hT => Tryz.strings_Fields_laid s w h1 h2 hT.1.2.2.2.1
theorem QhY : FnOK1 told Tryz.prog 177 containsX := Qj0 fun s t Z w h1 hT => by
 obtain ⟨_, m, hm⟩ := hT.2
 exact Tryz.strings_Contains s t m w h1 hm
theorem QoI : FnOK1 told Tryz.prog 69 joinX := Qpp (fun a c sep w => Tryz.strings_Join_none a c sep w) (fun bk o c xs sep w h1 h2 h3 h4 h5 => Tryz.strings_Join bk o c xs sep w h1 h2 h3 h4 h5)
theorem Qgy : FnOK1 told Tryz.prog 70 indexByteX := Qi1 fun s c w => Tryz.strings_IndexByte s c w
theorem Qni : FnOK1 told Tryz.prog 79 splitX := QnT fun s sep Z w h1 h2 hT => by
 obtain ⟨_, m, hm⟩ := hT.2
 exact Tryz.strings_Split s sep m w h1 hm h2
theorem QoJ : FnOK1 told Tryz.prog 74 trimX := Qpr fun s w hs => Any.strings_Trim_laid Tryz.lays160 (by kernel_rfl) s ⟨#[32, 9]⟩ w hs (by decide) (ascii_of_all (by decide))
theorem QoK : FnOK1 told Tryz.prog 241 atoiX := Qpt fun s n w hs hn => by
 refine (Tryz.strconv_Atoi s n hs hn w).mono ?_
 rintro e w' ⟨rfl, t, rfl⟩
 exact ⟨rfl, Go.Joins.below_bytesWorld _ _ _ _ (Nat.le_refl _)⟩
theorem QsK (f : FuncId) (x : List AV → Heap → Option (AV × Heap)) (h : G0.ext f = some x) : FnOK1 told Tryz.prog f x := by
 have h' : Go.Ab.get f extT0 = some x := h
 simp only [extT0, Go.Ab.get] at h'
 repeat' split at h'
 all_goals first
  | cases h'; done
  | (rename_i e; subst e; cases h'; first | exact ok_cli | exact Qnh | exact Qk5 | exact QoH | exact Qk6 | exact QhY | exact QoI | exact Qgy | exact Qni | exact QoJ | exact QoK)
theorem QrR : FnOK1 told Tryz.prog 23 knownX := QnU (QjX (T := told) (by kernel_rfl) QsK 2000) Qpx
theorem ext_ok (f : FuncId) (x : List AV → Heap → Option (AV × Heap)) (h : G.ext f = some x) : FnOK1 told Tryz.prog f x := by
 have h' : Go.Ab.get f extT = some x := h
 simp only [extT, Go.Ab.get] at h'
 repeat' split at h'
 all_goals first
  | cases h'; done
  | (rename_i e; subst e; cases h'; first | exact QrR | exact ok_cli | exact Qnh | exact Qk5 | exact QoH | exact Qk6 | exact QhY | exact QoI | exact Qgy | exact Qni | exact QoJ | exact QoK)
end Go.Proofs.YtblfhkldljfhiaaGreatDoor
namespace Go.Ab
def ba (l : List UInt8) : ByteArray := ⟨l.toArray⟩
theorem bl_ba (l : List UInt8) : bl (ba l) = l := by simp [bl, ba]
theorem ba_bl (s : ByteArray) : ba (bl s) = s := by cases s; simp [bl, ba]
theorem Qt (l : List UInt8) : (ba l).size = l.length := by rw [Pn, bl_ba]
theorem ba_inj {a b : List UInt8} (h : ba a = ba b) : a = b := by rw [← bl_ba a, ← bl_ba b, h]
theorem JB (l : List UInt8) (i j : Nat) : (ba l).extract i j = ba ((l.take j).drop i) := by rw [← ba_bl ((ba l).extract i j), Qpl, bl_ba]
theorem VJ (a b : List UInt8) : ba a ++ ba b = ba (a ++ b) := by rw [← ba_bl (ba a ++ ba b), Qqi, bl_ba, bl_ba]
theorem Xu (l : List UInt8) (i : Nat) (d : UInt8) : (ba l).data.getD i d = l.getD i d := by rw [QsC, bl_ba]
theorem eqS_ba (a b : List UInt8) : eqS (ba a) (ba b) = decide (a = b) := by rw [Qpk, bl_ba, bl_ba]
def isD (b : UInt8) : Bool := decide (48 ≤ b.toNat ∧ b.toNat ≤ 57)
def isS (b : UInt8) : Bool := decide (97 ≤ b.toNat ∧ b.toNat ≤ 122 ∨ b.toNat = 95)
def isI (b : UInt8) : Bool := isS b || isD b
def isH (b : UInt8) : Bool := isD b || decide (97 ≤ b.toNat ∧ b.toNat ≤ 102)
theorem J0 {p : UInt8 → Bool} : ∀ (s : List UInt8) (i : Nat) (hi : i ≤ s.length), (s.take i).all p = true → (∀ h : i < s.length, p s[i] = false) → s.takeWhile p = s.take i
 | s, 0, _, _, h => by
  cases s with
  | nil => rfl
  | cons b s => have := h (by simp); simp at this; simp [this]
 | [], i + 1, hi, _, _ => by simp at hi
 | b :: s, i + 1, hi, ha, h => by
  simp only [List.take_succ_cons, List.all_cons, Bool.and_eq_true] at ha
  simp only [List.take_succ_cons, List.takeWhile_cons, ha.1, if_true]
  rw [J0 s i (by simpa using hi) ha.2 (fun hl => h (by simp only [List.length_cons]; omega))]
theorem XL {p : UInt8 → Bool} {s : List UInt8} {i : Nat} (h : i < s.length) (ha : (s.take i).all p = true) (hp : p s[i] = true) : (s.take (i + 1)).all p = true := by
 rw [List.take_succ_eq_append_getElem h, List.all_append, ha]; simp [hp]
theorem i32_in {n : Int} (h1 : 0 ≤ n) (h2 : n ≤ 2147483647) : IntKind.i32.wrap n = n := by
 have e : n % 4294967296 = n := Int.emod_eq_of_lt h1 (by omega)
 unfold IntKind.wrap
 simp [IntKind.bits, IntKind.signed, e]
 omega
def wordB (w : List UInt8) : Bool := match w with
 | [] => false
 | c :: t => decide (t.length < 12) && (!isD c && (decide ((c :: t).takeWhile isI = c :: t) && (decide (c ≠ 114) || (decide (t = []) || !decide (t.takeWhile isD = t)))))
theorem SG {p : UInt8 → Bool} {a r : List UInt8} (ha : a.all p = true) (hr : ∀ c t, r = c :: t → p c = false) : (a ++ r).takeWhile p = a ∧ (a ++ r).dropWhile p = r := by
 induction a with
 | nil =>
  cases r with
  | nil => exact ⟨rfl, rfl⟩
  | cons c t => have := hr c t rfl; simp [List.takeWhile_cons, List.dropWhile_cons, this]
 | cons c a ih =>
  simp only [List.all_cons, Bool.and_eq_true] at ha
  obtain ⟨h1, h2⟩ := ih ha.2
  simp [List.takeWhile_cons, List.dropWhile_cons, ha.1, h1, h2]
theorem Qkr (c : UInt8) : isI c = (isS c || isD c) := rfl
theorem QoL {c : UInt8} : isS c = (isI c && !isD c) := by
 rw [Qkr]
 cases hd : isD c with
 | false => simp
 | true =>
  have : isS c = false := by
   unfold isD at hd; unfold isS
   have := of_decide_eq_true hd
   exact decide_eq_false (by omega)
  rw [this]; rfl
theorem Qd0 {p : UInt8 → Bool} {l : List UInt8} : decide (l.takeWhile p = l) = l.all p := by
 rw [Bool.eq_iff_iff, decide_eq_true_iff]
 constructor
 ·intro e; rw [← e]; exact List.all_takeWhile
 ·intro h
  have := (SG (r := []) h (fun c t e => by cases e)).1
  rwa [List.append_nil] at this
end Go.Ab
namespace Go.Ab
theorem Qnj (a n : Int) (hn : 0 < n) (hn2 : n ≤ 4611686018427387904) : Vv a n = some (a % n) := by
 rw [Vv.eq]; exact Qah a n hn hn2
end Go.Ab
namespace Go.Ab
abbrev S0 : ByteArray := s_
inductive X3 where
 | num (n : Int)
 | nm (s : ByteArray)
 | here
 | neg (x : X3)
 | bin (k : Nat) (x y : X3)
namespace X3
def t : X3 → Qa
 | num n => ⟨1, n, S0, []⟩
 | nm s => ⟨2, 0, s, []⟩
 | here => ⟨3, 0, S0, []⟩
 | neg x => ⟨4, 0, S0, [x.t]⟩
 | bin k x y => ⟨k, 0, S0, [x.t, y.t]⟩
def d : X3 → Nat
 | neg x => x.d + 1
 | bin _ x y => max x.d y.d + 1
 | _ => 0
def ok (p : ByteArray → Prop) : X3 → Prop
 | num n => 0 ≤ n ∧ n < 4294967296
 | nm s => p s
 | here => True
 | neg x => x.ok p
 | bin k x y => 5 ≤ k ∧ k ≤ 11 ∧ x.ok p ∧ y.ok p
end X3
theorem eqS_ne {x y : ByteArray} (h : x ≠ y) : eqS x y = false := by rw [Bool.eq_false_iff]; exact fun e => h (W4.1 e)
end Go.Ab
namespace Go.Ab
theorem Qd1 : ∀ (g d : Nat), g + d = 8 → ∀ l : List QA, l.length ≤ maxLen → (∀ r ∈ l, Yv r) → ∃ n : Int, JS l d = some n ∧ 0 ≤ n ∧ n ≤ 1000 + 20 * g ∧
  (n ≤ 16 → d ≤ 7 ∧ ∀ r ∈ l, ∃ m, JS r.L (d + 1 : Nat) = some m ∧ m ≤ 16)
 | 0, d, hd, l, hl, hw => by
  obtain rfl : d = 8 := by omega
  refine ⟨1000, ?_, by omega, by omega, by omega⟩
  rw [JS.eq]; simp [GP]
 | g + 1, d, hd, l, hl, hw => by
  rw [Qqn] at hl
  obtain ⟨r, h1, h2⟩ := YN U8.eq
   (fun a => ∃ i : Nat, ∃ n : Int, i ≤ l.length ∧ a = ⟨l, d, n, i⟩ ∧ 0 ≤ n ∧ n ≤ 1000 + 20 * (g + 1 : Nat) ∧ (n ≤ 16 → ∀ r ∈ l.take i, ∃ m, JS r.L (d + 1 : Nat) = some m ∧ m ≤ 16))
   (fun a n => 0 ≤ n ∧ n ≤ 1000 + 20 * (g + 1 : Nat) ∧ (n ≤ 16 → ∀ r ∈ l, ∃ m, JS r.L (d + 1 : Nat) = some m ∧ m ≤ 16))
   (fun a => l.length - a.x6.toNat) (by
    rintro a ⟨i, n, hi, rfl, h0, hn, hall⟩
    simp only [YR, Int.toNat_natCast]
    by_cases h : i < l.length
    ·have e2 : (i : Int) < (l.length : Int) := by omega
     by_cases h16 : n ≤ 16
     ·have hwi := hw l[i] (List.getElem_mem h)
      obtain ⟨_, _, _, hL, hLw⟩ := hwi
      obtain ⟨m, hm, hm0, hm1, _⟩ := Qd1 g (d + 1) (by omega) l[i].L hL hLw
      refine .inl ⟨⟨l, d, n + 1 + m, (i + 1 : Nat)⟩, ?_, ⟨i + 1, n + 1 + m, by omega, rfl, by omega, by omega, ?_⟩, ?_, fun r hr => hr⟩
      ·have ed : w64 ((d : Int) + 1) = ((d + 1 : Nat) : Int) := by rw [w64_in (by omega) (by omega)]; rfl
       rw [List.getElem?_eq_getElem h]
       simp only [e2, h16, decide_true, cond_true, Option.bind_some, Int.natCast_nonneg, ed, hm]
       rw [w64_in (n := n + 1) (by omega) (by omega), w64_in (n := n + 1 + m) (by omega) (by omega), w64_in (n := (i : Int) + 1) (by omega) (by omega)]
       rfl
      ·intro hle r hr
       rw [List.take_succ_eq_append_getElem h, List.mem_append] at hr
       rcases hr with hr | hr
       ·exact hall h16 r hr
       ·simp only [List.mem_singleton] at hr; subst hr
        exact ⟨m, hm, by omega⟩
      ·simp only [Int.toNat_natCast]; omega
     ·exact .inr ⟨n, by simp [h, h16], h0, hn, fun h => absurd h h16⟩
    ·refine .inr ⟨n, by simp [h], h0, hn, fun hle => ?_⟩
     have := hall hle
     rwa [List.take_of_length_le (by omega)] at this) ⟨l, d, 0, 0⟩ ⟨0, 0, by omega, rfl, by omega, by omega, by simp⟩
  refine ⟨r, ?_, h2.1, h2.2.1, fun h => ⟨by omega, h2.2.2 h⟩⟩
  rw [JS.eq]; unfold GP
  have : decide ((d : Int) > 7) = false := by simp; omega
  rw [this, cond_false, h1]; rfl
def isNm (s : ByteArray) : Prop := s = Sc ∨ s = s_x ∨ s = E6 ∨ s = s_r
theorem names4 {i : Nat} (h : i < 4) : ∃ s, [Sc, s_x, E6, s_r][i]? = some s ∧ isNm s := by
 have : i = 0 ∨ i = 1 ∨ i = 2 ∨ i = 3 := by omega
 rcases this with rfl | rfl | rfl | rfl <;> exact ⟨_, rfl, by simp [isNm]⟩
theorem Qom : Zu = some [Sc, s_x, E6, s_r] := by rw [Zu.eq]; rfl
theorem Qar (a : Int) (n : Nat) (hn : 0 < n) (hn2 : n ≤ 4611686018427387904) : ∃ i : Nat, i < n ∧ Vv a n = some (i : Int) := by
 have h1 := Int.emod_nonneg a (by omega : (n : Int) ≠ 0)
 have h2 := Int.emod_lt_of_pos a (by omega : (0 : Int) < n)
 exact ⟨(a % n).toNat, by omega, by rw [Qnj a n (by omega) (by omega), Int.toNat_of_nonneg h1]⟩
theorem QsL {P : Int → Prop} (l : List Int) (h : ∀ x ∈ l, P x) {i : Nat} (hi : i < l.length) : ∃ v, l[i]? = some v ∧ P v := ⟨l[i], List.getElem?_eq_getElem hi, h _ (List.getElem_mem hi)⟩
theorem Qk7 : ∀ (g d : Nat), g + d = 7 → ∀ r : QA, Yv r → (∃ m, JS r.L (d + 1 : Nat) = some m ∧ m ≤ 16) → ∃ x : X3, JQ r = some x.t ∧ x.ok isNm ∧ x.d ≤ g
 | 0, d, hd, r, hw, ⟨m, hm, hm2⟩ => by
  obtain rfl : d = 7 := by omega
  obtain ⟨_, _, _, hL, hLw⟩ := hw
  obtain ⟨n, h1, _, _, h2⟩ := Qd1 0 8 rfl r.L hL hLw
  rw [h1] at hm; cases hm
  exact absurd (h2 hm2).1 (by omega)
 | g + 1, d, hd, r, hw, ⟨m, hm, hm2⟩ => by
  obtain ⟨hK, hN, _, hL, hLw⟩ := hw
  obtain ⟨n, h1, _, _, h2⟩ := Qd1 (g + 1) (d + 1) (by omega) r.L hL hLw
  rw [h1] at hm; cases hm
  obtain ⟨_, h3⟩ := h2 hm2
  have part : ∀ i : Nat, i < 2 → ∃ x : X3, UL r i = some x.t ∧ x.ok isNm ∧ x.d ≤ g := by
   intro i hi
   rw [UL.eq]; unfold Y6
   by_cases h : i < r.L.length
   ·obtain ⟨x, e1, e2, e3⟩ := Qk7 g (d + 1) (by omega) r.L[i] (hLw _ (List.getElem_mem h)) (h3 _ (List.getElem_mem h))
    refine ⟨x, ?_, e2, e3⟩
    have e2 : (i : Int) < (r.L.length : Int) := by omega
    rw [QsE _ h]
    simp only [e2, decide_true, cond_true, Option.bind_some, Int.natCast_nonneg, e1]
   ·obtain ⟨j, hj, e⟩ := Qar (w64 (r.N + i)) 5 (by decide) (by decide)
    have hj2 : (0 : Int) ≤ (j : Int) ∧ (j : Int) < 4294967296 := by omega
    refine ⟨.num j, ?_, hj2, by simp [X3.d]⟩
    have e2 : ¬ (i : Int) < (r.L.length : Int) := by omega
    have e' : Vv (w64 (r.N + i)) 5 = some (j : Int) := e
    simp only [e2, decide_false, cond_false, e', Option.bind_some]; rfl
  obtain ⟨x0, p0, q0, r0⟩ := part 0 (by omega)
  obtain ⟨x1, p1, q1, r1⟩ := part 1 (by omega)
  have p0 : UL r 0 = some x0.t := p0
  have p1 : UL r 1 = some x1.t := p1
  obtain ⟨k, hk, ek⟩ := Qar r.K 18 (by decide) (by decide)
  have ek : Vv r.K 18 = some (k : Int) := ek
  rw [JQ.eq]; unfold Y7
  rw [ek]
  simp only [Option.bind_some]
  by_cases k4 : k < 4
  ·obtain ⟨j, hj, ej⟩ := Qar r.N 8 (by decide) (by decide)
   have ej : Vv r.N 8 = some (j : Int) := ej
   obtain ⟨v, hv, hv2⟩ := QsL (P := fun x => 0 ≤ x ∧ x < 4294967296) [0, 1, 2, 255, 65536, 4294967295, 40, 7] (by decide) (i := j) (by simpa using hj)
   refine ⟨.num v, ?_, hv2, by simp [X3.d]⟩
   have e1 : decide ((k : Int) < 4) = true := by simp; omega
   have e3 : decide (0 ≤ (j : Int) ∧ (j : Int) < (([(0 : Int), (1 : Int), (2 : Int), (255 : Int), (65536 : Int), (4294967295 : Int), (40 : Int), (7 : Int)].length : Nat) : Int)) = true := by simp; omega
   simp only [e1, cond_true, ej, Option.bind_some, e3, Int.toNat_natCast, hv]; rfl
  ·have e1 : decide ((k : Int) < 4) = false := by simp; omega
   by_cases k8 : k < 8
   ·obtain ⟨j, hj, ej⟩ := Qar r.N 4 (by decide) (by decide)
    have ej : Vv r.N 4 = some (j : Int) := ej
    obtain ⟨s, hs, hs2⟩ := names4 hj
    refine ⟨.nm s, ?_, hs2, by simp [X3.d]⟩
    have e2 : decide ((k : Int) < 8) = true := by simp; omega
    simp only [e1, cond_false, e2, cond_true, Qom, Option.bind_some, ej, Int.natCast_nonneg, decide_true, Int.toNat_natCast, hs]; rfl
   ·have e2 : decide ((k : Int) < 8) = false := by simp; omega
    by_cases kh : k = 8
    ·subst kh
     exact ⟨.here, rfl, trivial, by simp [X3.d]⟩
    ·have e3 : ((k : Int) == 8) = false := by simp; omega
     by_cases k11 : k < 11
     ·have e4 : decide ((k : Int) < 11) = true := by simp; omega
      refine ⟨.neg x0, ?_, q0, by simp only [X3.d]; omega⟩
      simp only [e1, e2, e3, e4, cond_false, cond_true, p0, Option.bind_some]; rfl
     ·have e4 : decide ((k : Int) < 11) = false := by simp; omega
      refine ⟨.bin (k - 6) x0 x1, ?_, ⟨by omega, by omega, q0, q1⟩, by simp only [X3.d]; omega⟩
      simp only [e1, e2, e3, e4, cond_false, p0, p1, Option.bind_some]
      rw [w64_in (n := 5 + (k : Int)) (by omega) (by omega), w64_in (n := 5 + (k : Int) - 11) (by omega) (by omega)]
      simp only [X3.t]
      rw [show (5 : Int) + k - 11 = ((k - 6 : Nat) : Int) from by omega]
theorem QsM (l : List QA) (hl : l.length ≤ maxLen) (hw : ∀ r ∈ l, Yv r) : ∃ b, EA l = some b ∧ (b = true → ∃ x : X3, XP l = some x.t ∧ x.ok isNm ∧ x.d ≤ 7) := by
 obtain ⟨n, h1, _, _, h2⟩ := Qd1 8 0 rfl l hl hw
 have h1 : JS l 0 = some n := h1
 refine ⟨decide (n ≤ 16), by rw [EA.eq]; simp [Qik, h1], fun h => ?_⟩
 have h := of_decide_eq_true h
 obtain ⟨_, h3⟩ := h2 h
 rw [XP.eq]; unfold Qio
 cases l with
 | nil => exact ⟨.num 1, rfl, by simp [X3.ok], by simp [X3.d]⟩
 | cons r l =>
  obtain ⟨x, e1, e2, e3⟩ := Qk7 7 0 rfl r (hw r (by simp)) (h3 r (by simp))
  refine ⟨x, ?_, e2, e3⟩
  have : ((((r :: l).length : Nat) : Int) == 0) = false := by simp; omega
  rw [this, cond_false]
  simp [e1]
end Go.Ab
namespace Go.Ab
theorem QoM (s : ByteArray) (i : Nat) (h : i < s.size) : s.get! i = (bl s)[i]'h := by
 simp only [ByteArray.get!, bl]
 have h' : i < s.data.size := h
 simp [getElem!_def, Array.getElem?_eq_getElem h']
theorem Qb4 (s : List UInt8) {i : Nat} (h : i < s.length) (hb : s[i].toNat < 128) : Utf8.decode (ba s) i = (s[i].toNat, 1) := by
 have hg : ((ba s).get! (i + 0)).toNat = s[i].toNat := by
  rw [Nat.add_zero, QoM _ _ (by rw [Qt]; exact h)]; simp [bl_ba]
 unfold Utf8.decode
 simp only [hg]
 rw [if_pos hb]
theorem Qgz (s : List UInt8) {i : Nat} (h : i < s.length) (hb : ¬ s[i].toNat < 128) : 128 ≤ (Utf8.decode (ba s) i).1 := by
 have hg : ((ba s).get! (i + 0)).toNat = s[i].toNat := by
  rw [Nat.add_zero, QoM _ _ (by rw [Qt]; exact h)]; simp [bl_ba]
 unfold Utf8.decode
 simp only [hg]
 rw [if_neg hb]
 have he : Utf8.runeError = 65533 := rfl
 repeat' split
 all_goals simp_all
 all_goals omega
theorem Gi (n : Nat) : U6 n = some (decide (48 ≤ n ∧ n ≤ 57)) := by
 rw [U6.eq]; unfold Qba
 have c1 : decide ((n : Int) ≥ 48) = decide (48 ≤ n) := decide_eq_decide.2 (by omega)
 have c2 : decide ((n : Int) ≤ 57) = decide (n ≤ 57) := decide_eq_decide.2 (by omega)
 rw [c1, c2, Bool.decide_and]
 cases decide (48 ≤ n) <;> rfl
theorem QlV (n : Nat) : X4 n = some (decide (97 ≤ n ∧ n ≤ 122 ∨ n = 95)) := by
 rw [X4.eq]; unfold Qbe
 have c1 : decide ((n : Int) ≥ 97) = decide (97 ≤ n) := decide_eq_decide.2 (by omega)
 have c2 : decide ((n : Int) ≤ 122) = decide (n ≤ 122) := decide_eq_decide.2 (by omega)
 have c3 : (((n : Nat) : Int) == 95) = decide (n = 95) := by rw [Bool.eq_iff_iff, beq_iff_eq, decide_eq_true_iff]; omega
 rw [c1, c2, c3, Bool.decide_or, Bool.decide_and]
 cases decide (97 ≤ n) <;> cases decide (n ≤ 122) <;> rfl
theorem QeO (n : Nat) : X5 n = some (decide (97 ≤ n ∧ n ≤ 122 ∨ n = 95) || decide (48 ≤ n ∧ n ≤ 57)) := by
 rw [X5.eq]; unfold Qbf
 rw [QlV, Gi]
 simp only [Option.bind_some]
 cases decide (97 ≤ n ∧ n ≤ 122 ∨ n = 95) <;> rfl
theorem QhZ (n : Nat) : Zs n = some (decide (48 ≤ n ∧ n ≤ 57) || decide (97 ≤ n ∧ n ≤ 102)) := by
 rw [Zs.eq]; unfold QdI
 have c1 : decide ((n : Int) ≥ 97) = decide (97 ≤ n) := decide_eq_decide.2 (by omega)
 have c2 : decide ((n : Int) ≤ 102) = decide (n ≤ 102) := decide_eq_decide.2 (by omega)
 rw [Gi, c1, c2]
 simp only [Option.bind_some]
 rw [Bool.decide_and (97 ≤ n)]
 cases decide (48 ≤ n ∧ n ≤ 57) <;> cases decide (97 ≤ n) <;> rfl
theorem QpV (s : List UInt8) : ZO (ba s) = some (ba (s.takeWhile isH)) := by
 obtain ⟨r, h1, h2⟩ := YN Xx.eq (fun a => ∃ i : Nat, i ≤ s.length ∧ a = ⟨ba s, ba s, i⟩ ∧ (s.take i).all isH = true) (fun _ r => r = .inl (ba (s.takeWhile isH)) ∨ r = .inr (ba (s.takeWhile isH))) (fun a => s.length - a.i0p) (by
  rintro a ⟨i, hi, rfl, ha⟩
  simp only [Qbd, Qt]
  by_cases h : i < s.length
  ·have c1 : decide (i < s.length) = true := by simp [h]
   by_cases hb : s[i].toNat < 128
   ·rw [Qb4 s h hb, c1, cond_true]
    simp only [QhZ, Option.bind_some]
    have hp : isH s[i] = (decide (48 ≤ s[i].toNat ∧ s[i].toNat ≤ 57) || decide (97 ≤ s[i].toNat ∧ s[i].toNat ≤ 102)) := by simp [isH, isS, isD, isI]
    rw [← hp]
    cases hq : isH s[i] with
    | true => exact .inl ⟨⟨ba s, ba s, i + 1⟩, rfl, ⟨i + 1, by omega, rfl, XL h ha hq⟩, by simp only; omega, fun r hr => hr⟩
    | false =>
     refine .inr ⟨_, ?_, .inl rfl⟩
     rw [J0 s i hi ha (fun _ => hq)]
     have c2 : decide (0 ≤ (0 : Int) ∧ (0 : Int) ≤ ((i : Nat) : Int) ∧ ((i : Nat) : Int) ≤ ((s.length : Nat) : Int)) = true := by simp; omega
     simp only [Bool.not_false, cond_true, c2, Int.toNat_natCast, Int.toNat_zero, JB, List.drop_zero]
   ·have hd := Qgz s h hb
    have hq : isH s[i] = false := by simp [isH, isS, isD, isI]; omega
    rw [c1, cond_true]
    simp only [QhZ, Option.bind_some]
    generalize (Utf8.decode (ba s) i).1 = r at hd
    have hp : (decide (48 ≤ r ∧ r ≤ 57) || decide (97 ≤ r ∧ r ≤ 102)) = false := by simp; omega
    rw [hp]
    refine .inr ⟨_, ?_, .inl rfl⟩
    rw [J0 s i hi ha (fun _ => hq)]
    have c2 : decide (0 ≤ (0 : Int) ∧ (0 : Int) ≤ ((i : Nat) : Int) ∧ ((i : Nat) : Int) ≤ ((s.length : Nat) : Int)) = true := by simp; omega
    simp only [Bool.not_false, cond_true, c2, Int.toNat_natCast, Int.toNat_zero, JB, List.drop_zero]
  ·have c1 : decide (i < s.length) = false := by simp; omega
   refine .inr ⟨_, by rw [c1]; rfl, .inr ?_⟩
   rw [J0 s i hi ha (fun h' => absurd h' h), List.take_of_length_le (by omega)]) ⟨ba s, ba s, 0⟩ ⟨0, by omega, rfl, by simp⟩
 rw [ZO.eq]; unfold QfQ
 rw [h1]
 rcases h2 with rfl | rfl <;> rfl
theorem QbB (s : List UInt8) : We (ba s) = some (ba (s.takeWhile isI)) := by
 obtain ⟨r, h1, h2⟩ := YN WJ.eq (fun a => ∃ i : Nat, i ≤ s.length ∧ a = ⟨ba s, ba s, i⟩ ∧ (s.take i).all isI = true) (fun _ r => r = .inl (ba (s.takeWhile isI)) ∨ r = .inr (ba (s.takeWhile isI))) (fun a => s.length - a.i0p) (by
  rintro a ⟨i, hi, rfl, ha⟩
  simp only [Pt, Qt]
  by_cases h : i < s.length
  ·have c1 : decide (i < s.length) = true := by simp [h]
   by_cases hb : s[i].toNat < 128
   ·rw [Qb4 s h hb, c1, cond_true]
    simp only [QeO, Option.bind_some]
    have hp : isI s[i] = (decide (97 ≤ s[i].toNat ∧ s[i].toNat ≤ 122 ∨ s[i].toNat = 95) || decide (48 ≤ s[i].toNat ∧ s[i].toNat ≤ 57)) := by simp [isI, isS, isD, isI]
    rw [← hp]
    cases hq : isI s[i] with
    | true => exact .inl ⟨⟨ba s, ba s, i + 1⟩, rfl, ⟨i + 1, by omega, rfl, XL h ha hq⟩, by simp only; omega, fun r hr => hr⟩
    | false =>
     refine .inr ⟨_, ?_, .inl rfl⟩
     rw [J0 s i hi ha (fun _ => hq)]
     have c2 : decide (0 ≤ (0 : Int) ∧ (0 : Int) ≤ ((i : Nat) : Int) ∧ ((i : Nat) : Int) ≤ ((s.length : Nat) : Int)) = true := by simp; omega
     simp only [Bool.not_false, cond_true, c2, Int.toNat_natCast, Int.toNat_zero, JB, List.drop_zero]
   ·have hd := Qgz s h hb
    have hq : isI s[i] = false := by simp [isI, isS, isD, isI]; omega
    rw [c1, cond_true]
    simp only [QeO, Option.bind_some]
    generalize (Utf8.decode (ba s) i).1 = r at hd
    have hp : (decide (97 ≤ r ∧ r ≤ 122 ∨ r = 95) || decide (48 ≤ r ∧ r ≤ 57)) = false := by simp; omega
    rw [hp]
    refine .inr ⟨_, ?_, .inl rfl⟩
    rw [J0 s i hi ha (fun _ => hq)]
    have c2 : decide (0 ≤ (0 : Int) ∧ (0 : Int) ≤ ((i : Nat) : Int) ∧ ((i : Nat) : Int) ≤ ((s.length : Nat) : Int)) = true := by simp; omega
    simp only [Bool.not_false, cond_true, c2, Int.toNat_natCast, Int.toNat_zero, JB, List.drop_zero]
  ·have c1 : decide (i < s.length) = false := by simp; omega
   refine .inr ⟨_, by rw [c1]; rfl, .inr ?_⟩
   rw [J0 s i hi ha (fun h' => absurd h' h), List.take_of_length_le (by omega)]) ⟨ba s, ba s, 0⟩ ⟨0, by omega, rfl, by simp⟩
 rw [We.eq]; unfold Qcj
 rw [h1]
 rcases h2 with rfl | rfl <;> rfl
theorem QgA (s : List UInt8) : W1 (ba s) = some (ba (s.takeWhile isD)) := by
 obtain ⟨r, h1, h2⟩ := YN WK.eq (fun a => ∃ i : Nat, i ≤ s.length ∧ a = ⟨ba s, ba s, i⟩ ∧ (s.take i).all isD = true) (fun _ r => r = .inl (ba (s.takeWhile isD)) ∨ r = .inr (ba (s.takeWhile isD))) (fun a => s.length - a.i0p) (by
  rintro a ⟨i, hi, rfl, ha⟩
  simp only [Pw, Qt]
  by_cases h : i < s.length
  ·have c1 : decide (i < s.length) = true := by simp [h]
   by_cases hb : s[i].toNat < 128
   ·rw [Qb4 s h hb, c1, cond_true]
    simp only [Gi, Option.bind_some]
    have hp : isD s[i] = decide (48 ≤ s[i].toNat ∧ s[i].toNat ≤ 57) := by simp [isD, isS, isD, isI]
    rw [← hp]
    cases hq : isD s[i] with
    | true => exact .inl ⟨⟨ba s, ba s, i + 1⟩, rfl, ⟨i + 1, by omega, rfl, XL h ha hq⟩, by simp only; omega, fun r hr => hr⟩
    | false =>
     refine .inr ⟨_, ?_, .inl rfl⟩
     rw [J0 s i hi ha (fun _ => hq)]
     have c2 : decide (0 ≤ (0 : Int) ∧ (0 : Int) ≤ ((i : Nat) : Int) ∧ ((i : Nat) : Int) ≤ ((s.length : Nat) : Int)) = true := by simp; omega
     simp only [Bool.not_false, cond_true, c2, Int.toNat_natCast, Int.toNat_zero, JB, List.drop_zero]
   ·have hd := Qgz s h hb
    have hq : isD s[i] = false := by simp [isD, isS, isD, isI]; omega
    rw [c1, cond_true]
    simp only [Gi, Option.bind_some]
    generalize (Utf8.decode (ba s) i).1 = r at hd
    have hp : (decide (48 ≤ r ∧ r ≤ 57)) = false := by simp; omega
    rw [hp]
    refine .inr ⟨_, ?_, .inl rfl⟩
    rw [J0 s i hi ha (fun _ => hq)]
    have c2 : decide (0 ≤ (0 : Int) ∧ (0 : Int) ≤ ((i : Nat) : Int) ∧ ((i : Nat) : Int) ≤ ((s.length : Nat) : Int)) = true := by simp; omega
    simp only [Bool.not_false, cond_true, c2, Int.toNat_natCast, Int.toNat_zero, JB, List.drop_zero]
  ·have c1 : decide (i < s.length) = false := by simp; omega
   refine .inr ⟨_, by rw [c1]; rfl, .inr ?_⟩
   rw [J0 s i hi ha (fun h' => absurd h' h), List.take_of_length_le (by omega)]) ⟨ba s, ba s, 0⟩ ⟨0, by omega, rfl, by simp⟩
 rw [W1.eq]; unfold Qck
 rw [h1]
 rcases h2 with rfl | rfl <;> rfl
end Go.Ab
namespace Go.Ab
def dropB (s : List UInt8) : List UInt8 := s.dropWhile (· == 32)
theorem Ea (s : List UInt8) : dropB (dropB s) = dropB s := by
 unfold dropB
 induction s with
 | nil => rfl
 | cons b s ih =>
  by_cases h : b = 32
  ·simp [List.dropWhile_cons, h, ih]
  ·simp [List.dropWhile_cons, h]
theorem Qnk (s : List UInt8) : (dropB s).length ≤ s.length := by unfold dropB; exact (List.dropWhile_sublist _).length_le
abbrev PS (s : List UInt8) (d : Int) (b : Bool) : Qd := ⟨ba s, d, b⟩
theorem Qon (s : List UInt8) : VL (ba s) = some (ba (dropB s)) := by
 have loop : ∀ s : List UInt8, JD ⟨ba s, 32⟩ = some (ba (dropB s)) := by
  intro s
  induction s with
  | nil => rw [JD.eq]; rfl
  | cons b s ih =>
   rw [JD.eq]; unfold Yn
   have c1 : decide (((b :: s).length : Int) > 0) = true := by simp only [List.length_cons, decide_eq_true_eq]; omega
   have c2 : decide (0 ≤ (0 : Int) ∧ (0 : Int) < ((b :: s).length : Int)) = true := by simp only [List.length_cons, decide_eq_true_eq]; omega
   have c4 : decide (0 ≤ (1 : Int) ∧ (1 : Int) ≤ (((b :: s).length : Nat) : Int) ∧ (((b :: s).length : Nat) : Int) ≤ (((b :: s).length : Nat) : Int)) = true := by simp only [List.length_cons, decide_eq_true_eq]; omega
   simp only [Qt, c1, c2, cond_true, Xu]
   by_cases h : b = 32
   ·have c3 : ((((b :: s).getD (Int.toNat 0) 0).toNat : Int) == 32) = true := by subst h; rfl
    rw [c3, cond_true, c4, cond_true]
    simp only [Option.bind_some, Sum.elim_inl, JB, Int.toNat_natCast]
    rw [show List.drop (Int.toNat 1) (List.take (b :: s).length (b :: s)) = s from by rw [List.take_length]; rfl, ih]
    simp [dropB, List.dropWhile_cons, h]
   ·have c3 : ((((b :: s).getD (Int.toNat 0) 0).toNat : Int) == 32) = false := by
     rw [beq_eq_false_iff_ne]
     intro e
     apply h
     have e : (b.toNat : Int) = 32 := e
     exact UInt8.toNat_inj.1 (by have : (32 : UInt8).toNat = 32 := rfl; omega)
    rw [c3, cond_false]
    simp only [Option.bind_some, Sum.elim_inr]
    simp [dropB, List.dropWhile_cons, h]
 rw [VL.eq]; unfold GI
 by_cases h : s = []
 ·subst h; have : eqS (ba []) s_ = true := W4.2 rfl
  rw [this]; rfl
 ·have : eqS (ba s) s_ = false := by
   rw [show s_ = ba [] from rfl, eqS_ba]; simp [h]
  rw [this, cond_false, U5.eq]; unfold Zq
  rw [loop s]; rfl
theorem QgB (s : List UInt8) (d : Int) (b : Bool) : J9 (PS s d b) = some (PS (dropB s) d b) := by
 rw [J9.eq]; unfold Z6
 simp only [Qon, Option.bind_some]
def pre (a s : List UInt8) : Bool := decide (s.take a.length = a)
theorem QgC (s a : List UInt8) : U2 (ba s) (ba a) = some (pre a s) := by
 rw [U2.eq]; unfold YW
 rw [JR.eq]; unfold Y1
 simp only [Qt, JB, eqS_ba, Int.toNat_natCast]
 by_cases h : a.length ≤ s.length
 ·have c1 : decide ((s.length : Int) ≥ (a.length : Int)) = true := by simp; omega
  have c2 : decide (0 ≤ (0 : Int) ∧ (0 : Int) ≤ (a.length : Int) ∧ (a.length : Int) ≤ (s.length : Int)) = true := by simp; omega
  rw [c1, cond_true, c2, cond_true]; rfl
 ·have c1 : decide ((s.length : Int) ≥ (a.length : Int)) = false := by simp; omega
  rw [c1, cond_false]
  simp only [Option.bind_some, pre]
  rw [decide_eq_false]
  intro e
  have := congrArg List.length e
  simp at this; omega
theorem QlW (s : List UInt8) : UW (ba s) = some (pre [48, 120] s) := by
 rw [UW.eq]; unfold ZN
 have h := QgC s [48, 120]
 rw [U2.eq] at h; unfold YW at h
 exact h
theorem QgO {a s : List UInt8} (h : pre a s = true) : a.length ≤ s.length ∧ s = a ++ s.drop a.length := by
 have e : s.take a.length = a := of_decide_eq_true h
 refine ⟨?_, ?_⟩
 ·have := congrArg List.length e; simp at this; omega
 ·conv => lhs; rw [← List.take_append_drop a.length s, e]
theorem Gl (a s : List UInt8) (d : Int) (b : Bool) : JA (ba a) (PS s d b) = some (bif b then (false, PS (dropB s) d b) else bif pre a (dropB s) then (true, PS ((dropB s).drop a.length) d b) else (false, PS (dropB s) d b)) := by
 rw [JA.eq]; unfold GJ
 simp only [QgB, Option.bind_some]
 cases b with
 | true => rfl
 | false =>
  simp only [cond_false, QgC, Option.bind_some]
  cases h : pre a (dropB s) with
  | false => rfl
  | true =>
   obtain ⟨h1, h2⟩ := QgO h
   simp only [Bool.not_true, cond_false, Qt, JB, Int.toNat_natCast, cond_true]
   have c2 : decide (0 ≤ (a.length : Int) ∧ (a.length : Int) ≤ ((dropB s).length : Int) ∧ ((dropB s).length : Int) ≤ ((dropB s).length : Int)) = true := by simp; omega
   rw [c2, cond_true, List.take_length]
def sg (k : Nat) : List UInt8 := match k with
 | 5 => [43] | 6 => [45] | 7 => [42] | 8 => [38] | 9 => [124] | 10 => [60, 60] | 11 => [62, 62] | _ => []
theorem QrS : X6 = some [s_, s_, s_, h_2e, h_2d, ba (sg 5), ba (sg 6), ba (sg 7), ba (sg 8), ba (sg 9), ba (sg 10), ba (sg 11)] := by rw [X6.eq]; rfl
theorem QrT {k : Nat} (h : 5 ≤ k ∧ k ≤ 11) : [s_, s_, s_, h_2e, h_2d, ba (sg 5), ba (sg 6), ba (sg 7), ba (sg 8), ba (sg 9), ba (sg 10), ba (sg 11)][k]? = some (ba (sg k)) := by
 have : k = 5 ∨ k = 6 ∨ k = 7 ∨ k = 8 ∨ k = 9 ∨ k = 10 ∨ k = 11 := by omega
 rcases this with rfl | rfl | rfl | rfl | rfl | rfl | rfl <;> rfl
def lv (l : Nat) : List Nat := match l with
 | 0 => [9] | 1 => [8] | 2 => [10, 11] | 3 => [5, 6] | _ => [7]
theorem lv_ok {l k : Nat} (h : k ∈ lv l) : 5 ≤ k ∧ k ≤ 11 := by
 unfold lv at h; split at h <;> simp at h <;> omega
def kindS (ks : List Nat) (t : List UInt8) : Option Nat := ks.find? fun k => pre (sg k) t
theorem QoN (ks : List Nat) (hk : ∀ k ∈ ks, 5 ≤ k ∧ k ≤ 11) (hne : ks ≠ []) (hl : ks.length ≤ 1000) (s : List UInt8) (d : Int) (b : Bool) : JU (ks.map fun k : Nat => (k : Int)) (PS s d b) =
  some (bif b then (0, PS (dropB s) d b) else match kindS ks (dropB s) with | some k => ((k : Int), PS ((dropB s).drop (sg k).length) d b) | none => (0, PS (dropB s) d b)) := by
 obtain ⟨r, h1, h2⟩ := YN UA.eq
  (fun a => ∃ i : Nat, ∃ s' : List UInt8, i ≤ ks.length ∧ dropB s' = dropB s ∧ (i = ks.length → s' = dropB s) ∧ a = ⟨ks.map fun k : Nat => (k : Int), ks.length, i, PS s' d b⟩ ∧ (b = false → kindS (ks.drop i) (dropB s) = kindS ks (dropB s)))
  (fun _ r => r = bif b then .inr (PS (dropB s) d b) else match kindS ks (dropB s) with | some k => .inl ⟨(k : Int), PS ((dropB s).drop (sg k).length) d b⟩ | none => .inr (PS (dropB s) d b)) (fun a => ks.length - a.x9.toNat) (by
  rintro a ⟨i, s', hi, hs, hend, rfl, hq⟩
  simp only [ZR, Int.toNat_natCast]
  by_cases h : i < ks.length
  ·have c1 : decide ((i : Int) < (ks.length : Int)) = true := by simp; omega
   have hd : ks.drop i = ks[i] :: ks.drop (i + 1) := List.drop_eq_getElem_cons h
   have hki := hk ks[i] (List.getElem_mem h)
   rw [c1, cond_true, List.getElem?_map, List.getElem?_eq_getElem h]
   simp only [Int.natCast_nonneg, decide_true, cond_true, Option.map_some, Option.bind_some, QrS, Int.toNat_natCast, QrT hki, Gl, hs]
   cases b with
   | true =>
    refine .inl ⟨⟨ks.map fun k : Nat => (k : Int), ks.length, (i + 1 : Nat), PS (dropB s) d true⟩, ?_, ⟨i + 1, dropB s, by omega, Ea s, fun _ => rfl, rfl, fun e => by cases e⟩, by simp only [Int.toNat_natCast]; omega, fun r hr => hr⟩
    simp only [cond_true, cond_false]
    rw [w64_in (n := (i : Int) + 1) (by omega) (by omega)]; rfl
   | false =>
    simp only [cond_false]
    have hq := hq rfl
    cases hp : pre (sg ks[i]) (dropB s) with
    | true =>
     have : kindS ks (dropB s) = some ks[i] := by rw [← hq, hd]; simp only [kindS, List.find?_cons, hp]
     refine .inr ⟨_, rfl, ?_⟩
     rw [this]; rfl
    | false =>
     refine .inl ⟨⟨ks.map fun k : Nat => (k : Int), ks.length, (i + 1 : Nat), PS (dropB s) d false⟩, ?_, ⟨i + 1, dropB s, by omega, Ea s, fun _ => rfl, rfl, fun _ => ?_⟩, by simp only [Int.toNat_natCast]; omega, fun r hr => hr⟩
     ·simp only [cond_false]
      rw [w64_in (n := (i : Int) + 1) (by omega) (by omega)]; rfl
     ·rw [← hq, hd]; simp only [kindS, List.find?_cons, hp]
  ·have c1 : decide ((i : Int) < (ks.length : Int)) = false := by simp; omega
   have he := hend (by omega)
   subst he
   refine .inr ⟨_, by rw [c1]; rfl, ?_⟩
   cases b with
   | true => rfl
   | false =>
    have hq := hq rfl
    rw [List.drop_eq_nil_of_le (by omega)] at hq
    rw [← hq]; rfl)
  ⟨ks.map fun k : Nat => (k : Int), ks.length, 0, PS s d b⟩ ⟨0, s, by omega, rfl, fun e => by cases ks with | nil => exact absurd rfl hne | cons => simp at e, rfl, fun _ => rfl⟩
 rw [JU.eq]; unfold GM
 rw [List.length_map, h1, h2]
 cases b with
 | true => rfl
 | false =>
  simp only [cond_false]
  cases kindS ks (dropB s) <;> rfl
end Go.Ab
namespace Go.Ab
abbrev E0 : Qa := ⟨0, 0, s_, []⟩
def dg (b : UInt8) : Nat := if 97 ≤ b.toNat then b.toNat - 97 + 10 else b.toNat - 48
def numv (base : Nat) : List UInt8 → Nat → Option Nat
 | [], n => some n
 | b :: l, n => if n * base + dg b ≥ 4294967296 then none else numv base l (n * base + dg b)
theorem dg_lt {b : UInt8} (h : isH b = true) : dg b < 16 := by
 unfold isH isD at h; unfold dg
 simp only [Bool.or_eq_true, decide_eq_true_eq] at h
 split <;> omega
theorem PK (s : List UInt8) (d : Int) (b : Bool) : QS (PS s d b) = some (E0, PS s d true) := by rw [QS.eq]; rfl
theorem QqW (ds r : List UInt8) (hds : ds.all isH = true) (base : Nat) (hb : base ≤ 16) (d : Int) (b : Bool) : JV (ba ds) base (PS (ds ++ r) d b) =
  some (match numv base ds 0 with | some n => (⟨1, n, s_, []⟩, PS r d b) | none => (E0, PS (ds ++ r) d true)) := by
 obtain ⟨x, h1, h2⟩ := YN Ua.eq
  (fun a => ∃ i n : Nat, i ≤ ds.length ∧ n < 4294967296 ∧ a = ⟨ba ds, base, n, PS (ds ++ r) d b, E0, ba ds, i⟩ ∧ numv base (ds.drop i) n = numv base ds 0)
  (fun _ x => match numv base ds 0 with | some n => x = .inr ⟨ba ds, n, PS (ds ++ r) d b, E0⟩ | none => x = .inl ⟨PS (ds ++ r) d true, E0⟩)
  (fun a => ds.length - a.i2p) (by
  rintro a ⟨i, n, hi, hn, rfl, hq⟩
  simp only [Y2, Qt]
  by_cases h : i < ds.length
  ·have c1 : decide (i < ds.length) = true := decide_eq_true h
   have hH : isH ds[i] = true := List.all_eq_true.1 hds _ (List.getElem_mem h)
   have hH2 := hH
   unfold isH isD at hH2
   simp only [Bool.or_eq_true, decide_eq_true_eq] at hH2
   have hdg := dg_lt hH
   have hd : ds.drop i = ds[i] :: ds.drop (i + 1) := List.drop_eq_getElem_cons h
   rw [hd] at hq
   simp only [numv] at hq
   rw [c1, cond_true, Qb4 ds h (by omega)]
   simp only [PK, Option.bind_some]
   have hmul : n * base ≤ 4294967296 * 16 := Nat.mul_le_mul (by omega) hb
   have em : w64 ((n : Int) * (base : Int)) = ((n * base : Nat) : Int) := by rw [← Int.natCast_mul]; exact w64_in (by omega) (by omega)
   have key : ∀ x : Int, x = (dg ds[i] : Int) → w64 (w64 ((n : Int) * (base : Int)) + w64 x) = ((n * base + dg ds[i] : Nat) : Int) := by
    intro x hx
    rw [em, hx, w64_in (n := (dg ds[i] : Int)) (by omega) (by omega), w64_in (by omega) (by omega)]; omega
   by_cases h97 : 97 ≤ ds[i].toNat
   ·have c2 : decide ((ds[i].toNat : Int) ≥ 97) = true := decide_eq_true (by omega)
    have hdv : dg ds[i] = ds[i].toNat - 97 + 10 := by unfold dg; rw [if_pos h97]
    have e1 : w64 (IntKind.i32.wrap ((ds[i].toNat : Int) - 97)) + 10 = (dg ds[i] : Int) := by
     rw [i32_in (by omega) (by omega), w64_in (by omega) (by omega)]; omega
    rw [c2, cond_true, key _ e1]
    by_cases hbig : n * base + dg ds[i] ≥ 4294967296
    ·rw [if_pos hbig] at hq
     have c3 : decide (((n * base + dg ds[i] : Nat) : Int) ≥ 4294967296) = true := decide_eq_true (by omega)
     rw [c3, cond_true]
     exact .inr ⟨_, rfl, by rw [← hq]⟩
    ·rw [if_neg hbig] at hq
     have c3 : decide (((n * base + dg ds[i] : Nat) : Int) ≥ 4294967296) = false := decide_eq_false (by omega)
     rw [c3, cond_false]
     exact .inl ⟨_, rfl, ⟨i + 1, _, by omega, by omega, rfl, hq⟩, by simp only; omega, fun x hx => hx⟩
   ·have c2 : decide ((ds[i].toNat : Int) ≥ 97) = false := decide_eq_false (by omega)
    have hdv : dg ds[i] = ds[i].toNat - 48 := by unfold dg; rw [if_neg h97]
    have e1 : IntKind.i32.wrap ((ds[i].toNat : Int) - 48) = (dg ds[i] : Int) := by
     rw [i32_in (by omega) (by omega)]; omega
    rw [c2, cond_false, key _ e1]
    by_cases hbig : n * base + dg ds[i] ≥ 4294967296
    ·rw [if_pos hbig] at hq
     have c3 : decide (((n * base + dg ds[i] : Nat) : Int) ≥ 4294967296) = true := decide_eq_true (by omega)
     rw [c3, cond_true]
     exact .inr ⟨_, rfl, by rw [← hq]⟩
    ·rw [if_neg hbig] at hq
     have c3 : decide (((n * base + dg ds[i] : Nat) : Int) ≥ 4294967296) = false := decide_eq_false (by omega)
     rw [c3, cond_false]
     exact .inl ⟨_, rfl, ⟨i + 1, _, by omega, by omega, rfl, hq⟩, by simp only; omega, fun x hx => hx⟩
  ·have c1 : decide (i < ds.length) = false := decide_eq_false h
   rw [List.drop_eq_nil_of_le (by omega)] at hq
   refine .inr ⟨_, by rw [c1]; rfl, ?_⟩
   rw [← hq]; rfl) ⟨ba ds, base, 0, PS (ds ++ r) d b, E0, ba ds, 0⟩ ⟨0, 0, by omega, by omega, rfl, rfl⟩
 rw [JV.eq]; unfold Z7
 rw [h1]
 cases hv : numv base ds 0 with
 | none => rw [hv] at h2; simp only at h2; subst h2; rfl
 | some n =>
  rw [hv] at h2; simp only at h2; subst h2
  simp only [Option.bind_some, Sum.elim_inr, Qt, JB, Int.toNat_natCast, List.length_append]
  have c2 : decide (0 ≤ (ds.length : Int) ∧ (ds.length : Int) ≤ ((ds.length + r.length : Nat) : Int) ∧ ((ds.length + r.length : Nat) : Int) ≤ ((ds.length + r.length : Nat) : Int)) = true := decide_eq_true (by omega)
  rw [c2, cond_true, List.take_of_length_le (by simp), List.drop_left]
theorem Qnl (x : Qa) (s : List UInt8) (d : Int) (b : Bool) : J4 x (PS s d b) = some (if s.takeWhile isI = [] then (x, PS s d b) else (E0, PS s d true)) := by
 rw [J4.eq]; unfold Gn
 simp only [QbB, Option.bind_some, PK]
 rw [show s_ = ba [] from rfl, eqS_ba]
 by_cases h : s.takeWhile isI = []
 ·rw [if_pos h]; simp [h]
 ·rw [if_neg h]; simp [h]
theorem QsN (w : List UInt8) : Yb (ba w) = some (wordB w) := by
 rw [Yb.eq]; unfold Qcm
 rw [show s_ = ba [] from rfl, eqS_ba]
 cases w with
 | nil => rfl
 | cons c t =>
  simp only [Qt, Xu, QbB, JB, QgA, Option.bind_some, eqS_ba]
  have c0 : decide (c :: t = []) = false := by simp
  have c2 : decide (0 ≤ (0 : Int) ∧ (0 : Int) < (((c :: t).length : Nat) : Int)) = true := decide_eq_true (by simp only [List.length_cons]; omega)
  have c3 : decide (0 ≤ (1 : Int) ∧ (1 : Int) ≤ (((c :: t).length : Nat) : Int) ∧ (((c :: t).length : Nat) : Int) ≤ (((c :: t).length : Nat) : Int)) = true := decide_eq_true (by simp only [List.length_cons]; omega)
  have c4 : IntKind.i32.wrap (((((c :: t).getD (Int.toNat 0) 0).toNat : Nat) : Int)) = (c.toNat : Int) := by
   show IntKind.i32.wrap (c.toNat : Int) = _
   exact i32_in (by omega) (by have := c.toNat_lt; omega)
  have e1 : ((c :: t).take (Int.toNat (((c :: t).length : Nat) : Int))).drop (Int.toNat 1) = t := by rw [Int.toNat_natCast, List.take_length]; rfl
  rw [c0, cond_false, c2, cond_true, c4, Gi, c3, e1]
  simp only [Option.bind_some, eqS_ba, cond_true]
  have c1 : decide ((((c :: t).length : Nat) : Int) > 12) = !decide (t.length < 12) := by
   by_cases h : t.length < 12
   ·rw [decide_eq_true h, decide_eq_false (by simp only [List.length_cons]; omega)]; rfl
   ·rw [decide_eq_false h, decide_eq_true (by simp only [List.length_cons]; omega)]; rfl
  have c5 : ((((c :: t).getD (Int.toNat 0) 0).toNat : Int) != 114) = decide (c ≠ 114) := by
   show ((c.toNat : Int) != 114) = _
   rw [Bool.eq_iff_iff, bne_iff_ne, decide_eq_true_iff]
   have : (114 : UInt8).toNat = 114 := rfl
   constructor
   ·intro h e; subst e; exact h rfl
   ·intro h e; exact h (UInt8.toNat_inj.1 (by omega))
  have c6 : ((((c :: t).length : Nat) : Int) == 1) = decide (t = []) := by
   rw [Bool.eq_iff_iff, beq_iff_eq, decide_eq_true_iff]
   cases t <;> simp <;> omega
  rw [c1, c5, c6]
  have hw : wordB (c :: t) = (decide (t.length < 12) && (!isD c && (decide ((c :: t).takeWhile isI = c :: t) && (decide (c ≠ 114) || (decide (t = []) || !decide (t.takeWhile isD = t)))))) := rfl
  rw [hw]
  have c7 : decide (48 ≤ c.toNat ∧ c.toNat ≤ 57) = isD c := rfl
  rw [c7]
  cases decide (t.length < 12) <;> cases isD c <;> cases decide ((c :: t).takeWhile isI = c :: t) <;> cases decide (c ≠ 114) <;> cases decide (t = []) <;> rfl
end Go.Ab
namespace Go.Ab
theorem QsO {p : UInt8 → Bool} (t : List UInt8) : t.drop (t.takeWhile p).length = t.dropWhile p := by
 conv => lhs; rw [← List.takeWhile_append_dropWhile (p := p) (l := t)]
 rw [List.takeWhile_append_dropWhile, ]
 conv => lhs; arg 2; rw [← List.takeWhile_append_dropWhile (p := p) (l := t)]
 exact List.drop_left
def tailA (base : Nat) (h r : List UInt8) : Option (X3 × List UInt8) := match numv base h 0 with
 | some n => if r.takeWhile isI = [] then some (.num n, r) else none
 | none => none
def atomS (t : List UInt8) : Option (X3 × List UInt8) :=
 bif pre [48, 120] t && !decide ((t.drop 2).takeWhile isH = []) then tailA 16 ((t.drop 2).takeWhile isH) ((t.drop 2).dropWhile isH)
 else bif !decide (t.takeWhile isD = []) then tailA 10 (t.takeWhile isD) (t.dropWhile isD)
 else bif wordB (t.takeWhile isI) then some (.nm (ba (t.takeWhile isI)), t.dropWhile isI) else none
def PR (f : Option (Qa × Qd)) (d : Int) (o : Option (X3 × List UInt8)) : Prop := match o with
 | some (x, r) => f = some (x.t, PS r d false)
 | none => ∃ e r, f = some (e, PS r d true)
theorem all_tw {p q : UInt8 → Bool} (hpq : ∀ b, p b = true → q b = true) (t : List UInt8) : (t.takeWhile p).all q = true := by
 rw [List.all_eq_true]; intro b hb; exact hpq b (List.all_eq_true.1 List.all_takeWhile b hb)
theorem QoO (base : Nat) (hb : base ≤ 16) (h r : List UInt8) (hh : h.all isH = true) (d : Int) :
  PR ((JV (ba h) base (PS (h ++ r) d false)).bind fun q => (J4 q.1 q.2).bind fun q => some (q.1, q.2)) d (tailA base h r) := by
 rw [QqW h r hh base hb]
 unfold tailA
 cases hv : numv base h 0 with
 | none =>
  simp only [Option.bind_some, Qnl]
  split <;> exact ⟨_, _, rfl⟩
 | some n =>
  simp only [Option.bind_some, Qnl]
  split
  ·rfl
  ·exact ⟨_, _, rfl⟩
theorem QiC {s r : List UInt8} (h : dropB s = 40 :: r) (d : Int) : QF (PS s d false) = Q4 (PS r d false) := by
 rw [QF.eq]; unfold VV
 simp only [show h_28 = ba [40] from rfl, Gl, cond_true, Option.bind_some, cond_false, h]
 rw [show pre [40] (40 :: r) = true from by simp [pre]]
 simp only [cond_true]
 show (Q4 (PS r d false)).bind (fun r2 => some (r2.1, r2.2)) = _
 cases Q4 (PS r d false) <;> rfl
theorem Qay {a : UInt8} {t : List UInt8} (h : ∀ r, t ≠ a :: r) : pre [a] t = false := by
 cases t with
 | nil => simp [pre]
 | cons b t =>
  have : b ≠ a := fun e => h t (by rw [e])
  simp [pre, this]
theorem QgD {s r : List UInt8} (h : dropB s = 45 :: r) (d : Int) : QF (PS s d false) = QR (PS r d false) := by
 rw [QF.eq]; unfold VV
 simp only [show h_28 = ba [40] from rfl, show h_2d = ba [45] from rfl, Gl, cond_true, Option.bind_some, cond_false, h]
 rw [show pre [40] (45 :: r) = false from by simp [pre]]
 simp only [cond_false, Gl]
 rw [show dropB (45 :: r) = 45 :: r from by simp [dropB, List.dropWhile_cons], show pre [45] (45 :: r) = true from by simp [pre]]
 simp only [cond_true, Option.bind_some]
 show (QR (PS r d false)).bind (fun r2 => some (r2.1, r2.2)) = _
 cases QR (PS r d false) <;> rfl
theorem QoP {s r : List UInt8} (h : dropB s = 46 :: r) (d : Int) : QF (PS s d false) = some (X3.here.t, PS r d false) := by
 rw [QF.eq]; unfold VV
 simp only [show h_28 = ba [40] from rfl, show h_2d = ba [45] from rfl, show h_2e = ba [46] from rfl, Gl, cond_true, Option.bind_some, cond_false, h]
 rw [show pre [40] (46 :: r) = false from by simp [pre]]
 simp only [cond_false, Gl]
 rw [show dropB (46 :: r) = 46 :: r from by simp [dropB, List.dropWhile_cons], show pre [45] (46 :: r) = false from by simp [pre]]
 simp only [cond_false, Option.bind_some, Gl]
 rw [show dropB (46 :: r) = 46 :: r from by simp [dropB, List.dropWhile_cons], show pre [46] (46 :: r) = true from by simp [pre]]
 rfl
theorem QiD {s t : List UInt8} (h : dropB s = t) (h1 : ∀ r, t ≠ 40 :: r) (h2 : ∀ r, t ≠ 45 :: r) (h3 : ∀ r, t ≠ 46 :: r) (d : Int) : PR (QF (PS s d false)) d (atomS t) := by
 have ht : dropB t = t := by rw [← h, Ea]
 rw [QF.eq]; unfold VV
 simp only [show h_28 = ba [40] from rfl, show h_2d = ba [45] from rfl, show h_2e = ba [46] from rfl, Gl, cond_true, Option.bind_some, cond_false, h, ht, Qay h1, Qay h2, Qay h3, QlW, QpV, QbB, QgA, Qt, JB, QsN, PK]
 have rest : ∀ (P : Prop), (PR (bif !eqS (ba (t.takeWhile isD)) s_ then (JV (ba (t.takeWhile isD)) 10 (PS t d false)).bind fun r18 => (J4 r18.1 r18.2).bind fun r19 => some (r19.1, r19.2)
   else bif wordB (t.takeWhile isI) then (bif decide (0 ≤ (((t.takeWhile isI).length : Nat) : Int) ∧ (((t.takeWhile isI).length : Nat) : Int) ≤ ((t.length : Nat) : Int) ∧ ((t.length : Nat) : Int) ≤ ((t.length : Nat) : Int)) then
    some ((⟨2, 0, ba (t.takeWhile isI), []⟩ : Qa), (⟨ba ((t.take (Int.toNat ((t.length : Nat) : Int))).drop (Int.toNat (((t.takeWhile isI).length : Nat) : Int))), d, false⟩ : Qd)) else none) else some ((⟨0, 0, s_, []⟩ : Qa), (⟨ba t, d, true⟩ : Qd))) d
   (bif !decide (t.takeWhile isD = []) then tailA 10 (t.takeWhile isD) (t.dropWhile isD) else bif wordB (t.takeWhile isI) then some (.nm (ba (t.takeWhile isI)), t.dropWhile isI) else none) → P) → P := by
  intro P k
  apply k
  rw [show s_ = ba [] from rfl, eqS_ba]
  cases hD : decide (t.takeWhile isD = []) with
  | false =>
   simp only [Bool.not_false, cond_true]
   have := QoO 10 (by decide) (t.takeWhile isD) (t.dropWhile isD) (all_tw (fun b hb => by simp [isH, hb]) t) d
   rw [List.takeWhile_append_dropWhile] at this
   exact this
  | true =>
   simp only [Bool.not_true, cond_false]
   cases hw : wordB (t.takeWhile isI) with
   | false => exact ⟨_, _, rfl⟩
   | true =>
    simp only [cond_true]
    have hl : (t.takeWhile isI).length ≤ t.length := (List.takeWhile_sublist _).length_le
    have c1 : decide (0 ≤ (((t.takeWhile isI).length : Nat) : Int) ∧ (((t.takeWhile isI).length : Nat) : Int) ≤ ((t.length : Nat) : Int) ∧ ((t.length : Nat) : Int) ≤ ((t.length : Nat) : Int)) = true := decide_eq_true (by omega)
    rw [c1, cond_true, Int.toNat_natCast, Int.toNat_natCast, List.take_length, QsO]
    rfl
 unfold atomS
 cases hp : pre [48, 120] t with
 | false =>
  simp only [Bool.false_and, cond_false]
  exact rest _ id
 | true =>
  have hlen := (QgO hp).1
  have c1 : decide (0 ≤ (2 : Int) ∧ (2 : Int) ≤ ((t.length : Nat) : Int) ∧ ((t.length : Nat) : Int) ≤ ((t.length : Nat) : Int)) = true := decide_eq_true (by simp at hlen; omega)
  have e2 : (t.take (Int.toNat ((t.length : Nat) : Int))).drop (Int.toNat 2) = t.drop 2 := by rw [Int.toNat_natCast, List.take_length]; rfl
  simp only [Bool.true_and, cond_true]
  rw [c1, cond_true, e2]
  cases hH : decide ((t.drop 2).takeWhile isH = []) with
  | true =>
   have : eqS (ba ((t.drop 2).takeWhile isH)) s_ = true := by rw [show s_ = ba [] from rfl, eqS_ba, hH]
   rw [this]
   simp only [Bool.not_true, cond_false]
   exact rest _ id
  | false =>
   have : eqS (ba ((t.drop 2).takeWhile isH)) s_ = false := by rw [show s_ = ba [] from rfl, eqS_ba, hH]
   rw [this]
   simp only [Bool.not_false, cond_true]
   have := QoO 16 (by decide) ((t.drop 2).takeWhile isH) ((t.drop 2).dropWhile isH) (all_tw (fun b hb => hb) _) d
   rw [List.takeWhile_append_dropWhile] at this
   exact this
end Go.Ab
namespace Go.Ab
theorem QgE : VK = some [[9], [8], [10, 11], [5, 6], [7]] := by rw [VK.eq]; rfl
theorem Qk8 {l : Nat} (h : l < 5) : ([[9], [8], [10, 11], [5, 6], [7]] : List (List Int))[l]? = some ((lv l).map fun k : Nat => (k : Int)) := by
 have : l = 0 ∨ l = 1 ∨ l = 2 ∨ l = 3 ∨ l = 4 := by omega
 rcases this with rfl | rfl | rfl | rfl | rfl <;> rfl
theorem lv_ne (l : Nat) : lv l ≠ [] := by unfold lv; split <;> simp
theorem lv_len (l : Nat) : (lv l).length ≤ 1000 := by unfold lv; split <;> simp
theorem two5 (p : Qd) : Qp 5 p = QF p := by
 rw [Qp.eq]; unfold WX
 simp only [QgE, Option.bind_some]
 show (QF p).bind (fun r2 => some (r2.1, r2.2)) = _
 cases QF p <;> rfl
noncomputable def PL (l : Nat) (p : Qd) (x : Qa) : Option (Qa × Qd) :=
 (JU ((lv l).map fun k : Nat => (k : Int)) p).bind fun r6 => (Q3 ⟨(l : Int), r6.1, r6.2, E0, x⟩).bind fun o => some (o.h2, o.h0)
theorem two_lt {l : Nat} (h : l < 5) (p : Qd) : Qp (l : Int) p = (Qp ((l + 1 : Nat) : Int) p).bind fun r => PL l r.2 r.1 := by
 rw [Qp.eq]; unfold WX
 simp only [QgE, Option.bind_some]
 have c1 : ((l : Int) == (([[9], [8], [10, 11], [5, 6], [7]] : List (List Int)).length : Nat)) = false := by
  rw [beq_eq_false_iff_ne]; simp; omega
 have c2 : decide (0 ≤ (l : Int)) = true := decide_eq_true (by omega)
 rw [c1, cond_false, w64_in (n := (l : Int) + 1) (by omega) (by omega), c2]
 simp only [cond_true, Int.toNat_natCast, Qk8 h, Option.bind_some]
 rfl
theorem PL_bad {l : Nat} (s : List UInt8) (d : Int) (x : Qa) : PL l (PS s d true) x = some (x, PS (dropB s) d true) := by
 unfold PL
 rw [QoN _ (fun k hk => lv_ok hk) (lv_ne l) (lv_len l)]
 simp only [cond_true, Option.bind_some]
 rw [Q3.eq]; rfl
theorem PL_eq {l : Nat} (h : l < 5) (s : List UInt8) (d : Int) (x : Qa) : PL l (PS s d false) x = match kindS (lv l) (dropB s) with
  | none => some (x, PS (dropB s) d false)
  | some k => (Qp ((l + 1 : Nat) : Int) (PS ((dropB s).drop (sg k).length) d false)).bind fun r => PL l r.2 ⟨k, 0, s_, [x, r.1]⟩ := by
 conv => lhs; unfold PL
 rw [QoN _ (fun k hk => lv_ok hk) (lv_ne l) (lv_len l)]
 simp only [cond_false, Option.bind_some]
 cases hk : kindS (lv l) (dropB s) with
 | none => simp only; rw [Q3.eq]; rfl
 | some k =>
  have h5 := lv_ok (List.mem_of_find?_eq_some hk)
  have c1 : ((k : Int) != 0) = true := by rw [bne_iff_ne]; omega
  have c2 : decide (0 ≤ (l : Int)) = true := decide_eq_true (by omega)
  simp only
  rw [Q3.eq]; unfold Wn
  simp only [c1, cond_true, Bool.not_false, c2, QgE, Option.bind_some, Int.toNat_natCast, Qk8 h]
  rw [w64_in (n := (l : Int) + 1) (by omega) (by omega)]
  show Option.bind (Option.bind (Option.bind (Qp ((l + 1 : Nat) : Int) (PS ((dropB s).drop (sg k).length) d false)) _) _) _ = _
  cases Qp ((l + 1 : Nat) : Int) (PS ((dropB s).drop (sg k).length) d false) with
  | none => rfl
  | some r =>
   simp only [Option.bind_some]
   unfold PL
   cases JU ((lv l).map fun k : Nat => (k : Int)) r.2 <;> rfl
theorem QjA {d : Int} (h : d ≥ 12) (s : List UInt8) : Q4 (PS s d false) = some (E0, PS s d true) ∧ QR (PS s d false) = some (E0, PS s d true) := by
 constructor
 ·rw [Q4.eq]; unfold Wm
  simp only [PK, decide_eq_true h, cond_true, Option.bind_some]
 ·rw [QR.eq]; unfold VN
  simp only [PK, decide_eq_true h, cond_true, Option.bind_some]
theorem Qk9 {d : Int} (h0 : 0 ≤ d) (h : d < 12) (s : List UInt8) {o : Option (X3 × List UInt8)} (ho : PR (Qp 0 (PS s (d + 1) false)) (d + 1) o) :
  PR (Q4 (PS s d false)) d (o.bind fun xr => bif pre [41] (dropB xr.2) then some (xr.1, (dropB xr.2).drop 1) else none) := by
 rw [Q4.eq]; unfold Wm
 have c1 : decide (d ≥ 12) = false := decide_eq_false (by omega)
 simp only [c1, cond_false]
 rw [w64_in (n := d + 1) (by omega) (by omega), JL.eq]; unfold W6
 have wd : w64 (d + 1 - 1) = d := by rw [w64_in (by omega) (by omega)]; omega
 cases o with
 | none =>
  obtain ⟨e, r, he⟩ := ho
  have he : Qp 0 ⟨ba s, d + 1, false⟩ = some (e, PS r (d + 1) true) := he
  simp only [he, Option.bind_some, show h_29 = ba [41] from rfl, Gl, cond_true, Bool.not_false, PK, Option.bind_none, wd]
  exact ⟨_, _, rfl⟩
 | some xr =>
  obtain ⟨x, r⟩ := xr
  have ho : Qp 0 ⟨ba s, d + 1, false⟩ = some (x.t, PS r (d + 1) false) := ho
  simp only [ho, Option.bind_some, show h_29 = ba [41] from rfl, Gl, cond_false]
  cases hp : pre [41] (dropB r) with
  | false =>
   simp only [cond_false, Bool.not_false, cond_true, PK, Option.bind_some, wd]
   exact ⟨_, _, rfl⟩
  | true =>
   simp only [cond_true, Bool.not_true, cond_false, Option.bind_some, wd]
   rfl
theorem Qnm {d : Int} (h0 : 0 ≤ d) (h : d < 12) (s : List UInt8) {o : Option (X3 × List UInt8)} (ho : PR (QF (PS s (d + 1) false)) (d + 1) o) :
  PR (QR (PS s d false)) d (o.bind fun xr => some (.neg xr.1, xr.2)) := by
 rw [QR.eq]; unfold VN
 have c1 : decide (d ≥ 12) = false := decide_eq_false (by omega)
 simp only [c1, cond_false]
 rw [w64_in (n := d + 1) (by omega) (by omega), JM.eq]; unfold W7
 have wd : w64 (d + 1 - 1) = d := by rw [w64_in (by omega) (by omega)]; omega
 cases o with
 | none =>
  obtain ⟨e, r, he⟩ := ho
  have he : QF ⟨ba s, d + 1, false⟩ = some (e, PS r (d + 1) true) := he
  simp only [he, Option.bind_some, wd, Option.bind_none]
  exact ⟨_, _, rfl⟩
 | some xr =>
  obtain ⟨x, r⟩ := xr
  have ho : QF ⟨ba s, d + 1, false⟩ = some (x.t, PS r (d + 1) false) := ho
  simp only [ho, Option.bind_some, wd]
  rfl
theorem QiE (s : List UInt8) {o : Option (X3 × List UInt8)} (ho : PR (Qp 0 (PS s 0 false)) 0 o) :
  Wo (ba s) = some (match o with | some (x, r) => if dropB r = [] then (x.t, true) else (E0, false) | none => (E0, false)) := by
 rw [Wo.eq]; unfold Qbh
 cases o with
 | none =>
  obtain ⟨e, r, he⟩ := ho
  have he : Qp 0 ⟨ba s, 0, false⟩ = some (e, PS r 0 true) := he
  simp only [he, Option.bind_some, QgB, cond_true]
 | some xr =>
  obtain ⟨x, r⟩ := xr
  have ho : Qp 0 ⟨ba s, 0, false⟩ = some (x.t, PS r 0 false) := ho
  simp only [ho, Option.bind_some, QgB, cond_false]
  rw [show s_ = ba [] from rfl, eqS_ba]
  by_cases h : dropB r = []
  ·simp [h]
  ·simp [h]; rfl
end Go.Ab
namespace Go.Ab
inductive Sp : List (List UInt8) → List UInt8 → Prop
 | nil (b : List UInt8) (hb : ∀ c ∈ b, c = 32) : Sp [] b
 | cons (b t s : List UInt8) (ts : List (List UInt8)) (hb : ∀ c ∈ b, c = 32) (h : Sp ts s) : Sp (t :: ts) (b ++ (t ++ s))
theorem Pf {b s : List UInt8} (hb : ∀ c ∈ b, c = 32) : dropB (b ++ s) = dropB s := by
 induction b with
 | nil => rfl
 | cons c b ih =>
  have hc := hb c (by simp)
  subst hc
  rw [List.cons_append]
  show List.dropWhile _ _ = _
  rw [List.dropWhile_cons]
  simp only [beq_self_eq_true, if_true]
  exact ih fun c h => hb c (by simp [h])
theorem Eb {c : UInt8} {s : List UInt8} (h : c ≠ 32) : dropB (c :: s) = c :: s := by
 unfold dropB; rw [List.dropWhile_cons]; simp [h]
theorem Sp.nil_drop {s : List UInt8} (h : Sp [] s) : dropB s = [] := by
 cases h with
 | nil b hb =>
  have := Pf (s := []) hb
  rw [List.append_nil] at this; rw [this]; rfl
theorem Sp.cons_drop {c : UInt8} {t s : List UInt8} {ts : List (List UInt8)} (h : Sp ((c :: t) :: ts) s) (hc : c ≠ 32) : ∃ s', dropB s = c :: (t ++ s') ∧ Sp ts s' := by
 cases h with
 | cons b t' s' ts' hb h' => exact ⟨s', by rw [Pf hb]; exact Eb hc, h'⟩
theorem Sp.drop {s : List UInt8} {ts : List (List UInt8)} (h : Sp ts s) : Sp ts (dropB s) ∨ ∃ c t ts', ts = (c :: t) :: ts' ∧ c = 32 ∨ ts = [] :: ts' := by
 cases h with
 | nil b hb =>
  left
  have := Pf (s := []) hb
  rw [List.append_nil] at this; rw [this]; exact .nil [] (by simp)
 | cons b t s' ts' hb h' =>
  cases t with
  | nil => exact .inr ⟨0, [], ts', .inr rfl⟩
  | cons c t =>
   by_cases hc : c = 32
   ·exact .inr ⟨c, t, ts', .inl ⟨rfl, hc⟩⟩
   ·left
    rw [Pf hb]
    show Sp _ (dropB (c :: (t ++ s')))
    rw [Eb hc]
    exact .cons [] (c :: t) s' ts' (by simp) h'
def front (ts : List (List UInt8)) : Prop := ∀ t ts', ts = t :: ts' → ∃ c u, t = c :: u ∧ isI c = false ∧ c ≠ 32
theorem Sp.drop' {s : List UInt8} {ts : List (List UInt8)} (hf : front ts) (h : Sp ts s) : Sp ts (dropB s) := by
 rcases h.drop with h | ⟨c, t, ts', ⟨rfl, rfl⟩ | rfl⟩
 ·exact h
 ·obtain ⟨c', u, e, _, h2⟩ := hf _ _ rfl
  cases e; exact absurd rfl h2
 ·obtain ⟨c', u, e, _, h2⟩ := hf _ _ rfl
  cases e
theorem Sp.head {s : List UInt8} {ts : List (List UInt8)} (hf : front ts) (h : Sp ts s) : ∀ c t, s = c :: t → isI c = false := by
 intro c t e
 cases h with
 | nil b hb => subst e; have := hb c (by simp); subst this; rfl
 | cons b t' s' ts' hb h' =>
  cases b with
  | cons b0 b =>
   have : b0 = c := by simpa using congrArg List.head? e
   subst this
   have := hb b0 (by simp); subst this; rfl
  | nil =>
   obtain ⟨c', u, e', h1, _⟩ := hf _ _ rfl
   subst e'
   have : c' = c := by simpa using congrArg List.head? e
   subst this; exact h1
def nsp : X3 → Nat
 | .neg x => nsp x + 1
 | .bin _ x y => max (nsp x) (nsp y) + 1
 | _ => 0
def isBin : X3 → Bool
 | .bin _ _ _ => true
 | _ => false
def tk : X3 → List (List UInt8)
 | .num n => [Lib.decDigits n.toNat]
 | .nm s => [bl s]
 | .here => [[46]]
 | .neg x => [45] :: (if isBin x then [40] :: (tk x ++ [[41]]) else tk x)
 | .bin k x y => (if isBin x then [40] :: (tk x ++ [[41]]) else tk x) ++ (sg k :: (if isBin y then [40] :: (tk y ++ [[41]]) else tk y))
def tkp (x : X3) : List (List UInt8) := if isBin x then [40] :: (tk x ++ [[41]]) else tk x
theorem tk_bin (k : Nat) (x y : X3) : tk (.bin k x y) = tkp x ++ (sg k :: tkp y) := rfl
def okW (x : X3) : Prop := x.ok fun s => wordB (bl s) = true
theorem QoQ {u : Nat} : (Lib.decDigits u).all isD = true ∧ Lib.decDigits u ≠ [] := by
 induction u using Nat.strongRecOn with
 | _ u ih =>
  rw [Lib.decDigits]
  split
  ·refine ⟨?_, by simp⟩
   have : ∀ v : Fin 10, isD (UInt8.ofNat (48 + v.val)) = true := by decide
   simp only [List.all_cons, List.all_nil, Bool.and_true]
   exact this ⟨u, by assumption⟩
  ·have := ih (u / 10) (by omega)
   refine ⟨?_, by simp⟩
   rw [List.all_append, this.1]
   have h2 : ∀ v : Fin 10, isD (UInt8.ofNat (48 + v.val)) = true := by decide
   simp only [List.all_cons, List.all_nil, Bool.and_true, Bool.true_and]
   exact h2 ⟨u % 10, by omega⟩
theorem Qh0 (base : Nat) (c : UInt8) : ∀ (l : List UInt8) (n : Nat), numv base (l ++ [c]) n = (numv base l n).bind fun m => if m * base + dg c ≥ 4294967296 then none else some (m * base + dg c)
 | [], n => rfl
 | b :: l, n => by
  simp only [List.cons_append, numv]
  split
  ·rfl
  ·exact Qh0 base c l _
theorem QrU {u : Nat} (h : u < 4294967296) : numv 10 (Lib.decDigits u) 0 = some u := by
 induction u using Nat.strongRecOn with
 | _ u ih =>
  have dv : ∀ v : Fin 10, dg (UInt8.ofNat (48 + v.val)) = v.val := by decide
  rw [Lib.decDigits]
  split
  ·rename_i hu
   have e := dv ⟨u, hu⟩
   simp only [numv, Nat.zero_mul, Nat.zero_add]
   simp only at e
   rw [e, if_neg (by omega)]
  ·rw [Qh0, ih (u / 10) (by omega) (by omega)]
   have e := dv ⟨u % 10, by omega⟩
   simp only at e
   simp only [Option.bind_some, e]
   rw [if_neg (by omega)]; congr 1; omega
theorem QrV {u : Nat} (h : u < 4294967296) {r : List UInt8} (hr : ∀ c t, r = c :: t → isI c = false) : atomS (Lib.decDigits u ++ r) = some (.num u, r) := by
 obtain ⟨h1, h2⟩ := @QoQ u
 have hrD : ∀ c t, r = c :: t → isD c = false := fun c t e => by
  have := hr c t e
  simp only [isI, Bool.or_eq_false_iff] at this; exact this.2
 obtain ⟨e1, e2⟩ := SG h1 hrD
 unfold atomS
 have hp : pre [48, 120] (Lib.decDigits u ++ r) = false := by
  unfold pre
  rw [decide_eq_false]
  intro e
  match hd : Lib.decDigits u, h2 with
  | [c], _ =>
   rw [hd] at e
   cases r with
   | nil => simp at e
   | cons b r =>
    simp at e
    have := hr b r rfl
    rw [e.2] at this; cases this
  | c :: b :: l, _ =>
   rw [hd] at e h1
   simp at e
   simp only [List.all_cons, Bool.and_eq_true] at h1
   have := h1.2.1
   rw [e.2] at this; cases this
 rw [hp, e1, e2]
 simp only [Bool.false_and, cond_false, decide_eq_false h2, Bool.not_false, cond_true]
 unfold tailA
 rw [QrU h]
 simp only
 have : r.takeWhile isI = [] := by
  cases r with
  | nil => rfl
  | cons b r => simp [List.takeWhile_cons, hr b r rfl]
 rw [if_pos this]
theorem Qas {w : List UInt8} (h : wordB w = true) : ∃ c t, w = c :: t ∧ isI c = true ∧ isD c = false ∧ w.all isI = true := by
 match w, h with
 | c :: t, h =>
  have hw : wordB (c :: t) = (decide (t.length < 12) && (!isD c && (decide ((c :: t).takeWhile isI = c :: t) && (decide (c ≠ 114) || (decide (t = []) || !decide (t.takeWhile isD = t)))))) := rfl
  rw [hw] at h
  simp only [Bool.and_eq_true, Bool.not_eq_true', decide_eq_true_eq] at h
  have ha : (c :: t).all isI = true := by
   have := List.all_takeWhile (p := isI) (l := c :: t)
   rwa [h.2.2.1] at this
  refine ⟨c, t, rfl, ?_, h.2.1, ha⟩
  simp only [List.all_cons, Bool.and_eq_true] at ha; exact ha.1
theorem QqX {w : List UInt8} (h : wordB w = true) {r : List UInt8} (hr : ∀ c t, r = c :: t → isI c = false) : atomS (w ++ r) = some (.nm (ba w), r) := by
 obtain ⟨c, t, rfl, hc, hd, ha⟩ := Qas h
 obtain ⟨e1, e2⟩ := SG ha hr
 unfold atomS
 have hp : pre [48, 120] ((c :: t) ++ r) = false := by
  unfold pre
  rw [decide_eq_false]
  intro e
  simp at e
  rw [e.1] at hd; cases hd
 have hD : ((c :: t) ++ r).takeWhile isD = [] := by simp [List.takeWhile_cons, hd]
 rw [hp, hD, e1, e2, h]
 rfl
end Go.Ab
namespace Go.Ab
def lvlOf (k : Nat) : Nat := match k with
 | 9 => 0 | 8 => 1 | 10 => 2 | 11 => 2 | 5 => 3 | 6 => 3 | _ => 4
theorem Qnn {k l : Nat} (hk : 5 ≤ k ∧ k ≤ 11) (hl : l < 5) (s : List UInt8) : kindS (lv l) (sg k ++ s) = if lvlOf k = l then some k else none := by
 have h1 : k = 5 ∨ k = 6 ∨ k = 7 ∨ k = 8 ∨ k = 9 ∨ k = 10 ∨ k = 11 := by omega
 have h2 : l = 0 ∨ l = 1 ∨ l = 2 ∨ l = 3 ∨ l = 4 := by omega
 rcases h1 with rfl | rfl | rfl | rfl | rfl | rfl | rfl <;> rcases h2 with rfl | rfl | rfl | rfl | rfl <;> simp [kindS, lv, sg, pre, lvlOf]
theorem Qcz {l : Nat} (hl : l < 5) (s : List UInt8) : kindS (lv l) (41 :: s) = none ∧ kindS (lv l) [] = none := by
 have h2 : l = 0 ∨ l = 1 ∨ l = 2 ∨ l = 3 ∨ l = 4 := by omega
 rcases h2 with rfl | rfl | rfl | rfl | rfl <;> simp [kindS, lv, sg, pre]
def stop (l : Nat) (ts : List (List UInt8)) : Prop := ∀ s, Sp ts s → ∀ l', l ≤ l' → l' < 5 → kindS (lv l') (dropB s) = none
theorem Qno (l : Nat) : stop l [] := fun s h l' _ h5 => by rw [h.nil_drop]; exact (Qcz h5 []).2
theorem QpW (l : Nat) (ts : List (List UInt8)) : stop l ([41] :: ts) := fun s h l' _ h5 => by
 obtain ⟨s', e, _⟩ := h.cons_drop (c := 41) (t := []) (by decide)
 rw [e]; exact (Qcz h5 _).1
theorem QgP {k : Nat} (hk : 5 ≤ k ∧ k ≤ 11) : ∃ c t, sg k = c :: t ∧ isI c = false ∧ c ≠ 32 := by
 have h1 : k = 5 ∨ k = 6 ∨ k = 7 ∨ k = 8 ∨ k = 9 ∨ k = 10 ∨ k = 11 := by omega
 rcases h1 with rfl | rfl | rfl | rfl | rfl | rfl | rfl <;> exact ⟨_, _, rfl, by decide, by decide⟩
theorem QoR {k : Nat} (hk : 5 ≤ k ∧ k ≤ 11) {ts : List (List UInt8)} {s : List UInt8} (h : Sp (sg k :: ts) s) : ∃ s', dropB s = sg k ++ s' ∧ Sp ts s' := by
 obtain ⟨c, t, e, _, h2⟩ := QgP hk
 rw [e] at h ⊢
 exact h.cons_drop h2
theorem QsP {k l : Nat} (hk : 5 ≤ k ∧ k ≤ 11) (hl : lvlOf k < l) (ts : List (List UInt8)) : stop l (sg k :: ts) := fun s h l' h1 h5 => by
 obtain ⟨s', e, _⟩ := QoR hk h
 rw [e, Qnn hk h5, if_neg (by omega)]
theorem Qla : front [] := fun t ts' e => by cases e
theorem Qoo (ts : List (List UInt8)) : front ([41] :: ts) := fun t ts' e => by cases e; exact ⟨41, [], rfl, by decide, by decide⟩
theorem QrW {k : Nat} (hk : 5 ≤ k ∧ k ≤ 11) (ts : List (List UInt8)) : front (sg k :: ts) := fun t ts' e => by cases e; exact QgP hk
def ONE (x : X3) : Prop := ∀ (d : Int) (ts : List (List UInt8)) (s : List UInt8), front ts → 0 ≤ d → d + nsp x ≤ 12 → Sp (tkp x ++ ts) s → ∃ s', Sp ts s' ∧ QF (PS s d false) = some (x.t, PS s' d false)
theorem Qdm {l : Nat} (h : l < 5) {s : List UInt8} (hk : kindS (lv l) (dropB s) = none) (d : Int) (x : Qa) : PL l (PS s d false) x = some (x, PS (dropB s) d false) := by rw [PL_eq h, hk]
theorem QgQ {x : X3} (hx : ONE x) : ∀ (g l : Nat), g + l = 5 → ∀ (d : Int) (ts : List (List UInt8)) (s : List UInt8), front ts → stop l ts → 0 ≤ d → d + nsp x ≤ 12 → Sp (tkp x ++ ts) s → ∃ s', Sp ts s' ∧ Qp (l : Int) (PS s d false) = some (x.t, PS s' d false)
 | 0, l, hl, d, ts, s, hf, hs, h0, h12, h => by
  obtain rfl : l = 5 := by omega
  obtain ⟨s', h1, h2⟩ := hx d ts s hf h0 h12 h
  exact ⟨s', h1, (two5 _).trans h2⟩
 | g + 1, l, hl, d, ts, s, hf, hs, h0, h12, h => by
  obtain ⟨s', h1, h2⟩ := QgQ hx g (l + 1) (by omega) d ts s hf (fun s h l' h1 h5 => hs s h l' (by omega) h5) h0 h12 h
  refine ⟨dropB s', h1.drop' hf, ?_⟩
  rw [two_lt (by omega), h2]
  simp only [Option.bind_some]
  exact Qdm (by omega) (hs s' h1 l (by omega) (by omega)) d _
theorem bin_at {k : Nat} (hk : 5 ≤ k ∧ k ≤ 11) {x y : X3} (hx : ONE x) (hy : ONE y) : ∀ (g l : Nat), g + l = lvlOf k → ∀ (d : Int) (ts : List (List UInt8)) (s : List UInt8), front ts → stop l ts → 0 ≤ d → d + nsp x ≤ 12 → d + nsp y ≤ 12 →
  Sp (tk (.bin k x y) ++ ts) s → ∃ s', Sp ts s' ∧ Qp (l : Int) (PS s d false) = some ((X3.bin k x y).t, PS s' d false)
 | 0, l, hl, d, ts, s, hf, hs, h0, h1, h2, h => by
  have hl5 : l < 5 := by
   have : lvlOf k ≤ 4 := by unfold lvlOf; split <;> omega
   omega
  rw [tk_bin, List.append_assoc, List.cons_append] at h
  obtain ⟨s1, e1, e2⟩ := QgQ hx (5 - (l + 1)) (l + 1) (by omega) d _ s (QrW hk _) (QsP hk (by omega) _) h0 h1 h
  obtain ⟨s2, e3, e4⟩ := QoR hk e1
  obtain ⟨s3, e5, e6⟩ := QgQ hy (5 - (l + 1)) (l + 1) (by omega) d ts s2 hf (fun s h l' h1 h5 => hs s h l' (by omega) h5) h0 h2 e4
  refine ⟨dropB s3, e5.drop' hf, ?_⟩
  rw [two_lt hl5, e2]
  simp only [Option.bind_some]
  rw [PL_eq hl5, e3, Qnn hk hl5, if_pos (by omega)]
  simp only [List.drop_left, e6, Option.bind_some]
  exact Qdm hl5 (hs s3 e5 l (by omega) (by omega)) d _
 | g + 1, l, hl, d, ts, s, hf, hs, h0, h1, h2, h => by
  have hl5 : l < 5 := by
   have : lvlOf k ≤ 4 := by unfold lvlOf; split <;> omega
   omega
  obtain ⟨s', e1, e2⟩ := bin_at hk hx hy g (l + 1) (by omega) d ts s hf (fun s h l' h1 h5 => hs s h l' (by omega) h5) h0 h1 h2 h
  refine ⟨dropB s', e1.drop' hf, ?_⟩
  rw [two_lt hl5, e2]
  simp only [Option.bind_some]
  exact Qdm hl5 (hs s' e1 l (by omega) (by omega)) d _
theorem QgR {c : UInt8} {t : List UInt8} {ts : List (List UInt8)} {s : List UInt8} (h : Sp ((c :: t) :: ts) s) (hc : c ≠ 32) : ∃ s', dropB s = c :: (t ++ s') ∧ Sp ts s' := h.cons_drop hc
theorem PM : ∀ x : X3, okW x → ONE x
 | .num n, hx, d, ts, s, hf, h0, h12, h => by
  have hx : 0 ≤ n ∧ n < 4294967296 := hx
  obtain ⟨u, rfl⟩ := Int.eq_ofNat_of_zero_le hx.1
  have h : Sp (Lib.decDigits u :: ts) s := h
  obtain ⟨d1, d2⟩ := @QoQ u
  match hd : Lib.decDigits u, d2 with
  | c :: t, _ =>
   rw [hd] at h d1
   simp only [List.all_cons, Bool.and_eq_true] at d1
   have hc32 : c ≠ 32 := fun e => by rw [e] at d1; cases d1.1
   obtain ⟨s', e1, e2⟩ := h.cons_drop hc32
   have ea := QrV (u := u) (by omega) (r := s') (e2.head hf)
   rw [hd] at ea
   refine ⟨s', e2, ?_⟩
   have := QiD (s := s) e1 (fun r e => by
     have : c = 40 := by simpa using congrArg List.head? e
     rw [this] at d1; cases d1.1) (fun r e => by
     have : c = 45 := by simpa using congrArg List.head? e
     rw [this] at d1; cases d1.1) (fun r e => by
     have : c = 46 := by simpa using congrArg List.head? e
     rw [this] at d1; cases d1.1) d
   rw [show c :: (t ++ s') = (c :: t) ++ s' from rfl, ea] at this
   exact this
 | .nm w, hx, d, ts, s, hf, h0, h12, h => by
  have hx : wordB (bl w) = true := hx
  have h : Sp (bl w :: ts) s := h
  obtain ⟨c, t, e0, hc, hd, ha⟩ := Qas hx
  rw [e0] at h
  have hc32 : c ≠ 32 := fun e => by rw [e] at hc; cases hc
  obtain ⟨s', e1, e2⟩ := h.cons_drop hc32
  have ea := QqX hx (r := s') (e2.head hf)
  rw [e0] at ea
  refine ⟨s', e2, ?_⟩
  have := QiD (s := s) e1 (fun r e => by
    have : c = 40 := by simpa using congrArg List.head? e
    rw [this] at hc; cases hc) (fun r e => by
    have : c = 45 := by simpa using congrArg List.head? e
    rw [this] at hc; cases hc) (fun r e => by
    have : c = 46 := by simpa using congrArg List.head? e
    rw [this] at hc; cases hc) d
  rw [show c :: (t ++ s') = (c :: t) ++ s' from rfl, ea, ← e0, ba_bl] at this
  exact this
 | .here, hx, d, ts, s, hf, h0, h12, h => by
  obtain ⟨s', e1, e2⟩ := QgR (c := 46) (t := []) h (by decide)
  exact ⟨s', e2, QoP e1 d⟩
 | .neg x, hx, d, ts, s, hf, h0, h12, h => by
  have hx : okW x := hx
  have ih := PM x hx
  have h : Sp ([45] :: (tkp x ++ ts)) s := h
  have hn : nsp (.neg x) = nsp x + 1 := rfl
  obtain ⟨s1, e1, e2⟩ := QgR (c := 45) (t := []) h (by decide)
  obtain ⟨s', e3, e4⟩ := ih (d + 1) ts s1 hf (by omega) (by omega) e2
  refine ⟨s', e3, ?_⟩
  have e1 : dropB s = 45 :: s1 := e1
  rw [QgD e1]
  exact Qnm h0 (by omega) s1 (o := some (x, s')) e4
 | .bin k x y, hx, d, ts, s, hf, h0, h12, h => by
  obtain ⟨hk1, hk2, hx1, hy1⟩ := hx
  have hx1 : okW x := hx1
  have hy1 : okW y := hy1
  have ihx := PM x hx1
  have ihy := PM y hy1
  have hn : nsp (.bin k x y) = max (nsp x) (nsp y) + 1 := rfl
  have h : Sp (([40] :: (tk (.bin k x y) ++ [[41]])) ++ ts) s := h
  rw [List.cons_append, List.append_assoc] at h
  obtain ⟨s1, e1, e2⟩ := QgR (c := 40) (t := []) h (by decide)
  have e2 : Sp (tk (.bin k x y) ++ ([41] :: ts)) s1 := e2
  have hm1 : nsp x ≤ max (nsp x) (nsp y) := Nat.le_max_left _ _
  have hm2 : nsp y ≤ max (nsp x) (nsp y) := Nat.le_max_right _ _
  obtain ⟨s2, e3, e4⟩ := bin_at ⟨hk1, hk2⟩ ihx ihy (lvlOf k) 0 (by omega) (d + 1) _ s1 (Qoo ts) (QpW 0 ts) (by omega) (by omega) (by omega) e2
  obtain ⟨s3, e5, e6⟩ := QgR (c := 41) (t := []) e3 (by decide)
  have e1 : dropB s = 40 :: s1 := e1
  have e5 : dropB s2 = 41 :: s3 := e5
  refine ⟨s3, e6, ?_⟩
  rw [QiC e1]
  have := Qk9 h0 (by omega) s1 (o := some (.bin k x y, s2)) e4
  rw [show (some (X3.bin k x y, s2)).bind (fun xr => bif pre [41] (dropB xr.2) then some (xr.1, (dropB xr.2).drop 1) else none) = some (.bin k x y, s3) from by
   simp only [Option.bind_some, e5]
   rw [show pre [41] (41 :: s3) = true from by simp [pre]]; rfl] at this
  exact this
theorem QqY {x : X3} (hx : okW x) (hd : nsp x ≤ 12) {s : List UInt8} (h : Sp (tk x) s) : Wo (ba s) = some (x.t, true) := by
 have key : ∃ s', Sp [] s' ∧ Qp 0 (PS s 0 false) = some (x.t, PS s' 0 false) := by
  cases hb : isBin x with
  | false =>
   have h : Sp (tkp x ++ []) s := by rw [List.append_nil]; unfold tkp; rw [hb]; exact h
   exact QgQ (PM x hx) 5 0 rfl 0 [] s Qla (Qno 0) (by omega) (by omega) h
  | true =>
   match x, hb with
   | .bin k y z, _ =>
    obtain ⟨hk1, hk2, hx1, hy1⟩ := hx
    have hn : nsp (.bin k y z) = max (nsp y) (nsp z) + 1 := rfl
    have hm1 : nsp y ≤ max (nsp y) (nsp z) := Nat.le_max_left _ _
    have hm2 : nsp z ≤ max (nsp y) (nsp z) := Nat.le_max_right _ _
    exact bin_at ⟨hk1, hk2⟩ (PM y hx1) (PM z hy1) (lvlOf k) 0 (by omega) 0 [] s Qla (Qno 0) (by omega) (by omega) (by omega) (by rw [List.append_nil]; exact h)
 obtain ⟨s', e1, e2⟩ := key
 rw [QiE s (o := some (x, s')) e2]
 simp only [e1.nil_drop, if_true]
end Go.Ab
