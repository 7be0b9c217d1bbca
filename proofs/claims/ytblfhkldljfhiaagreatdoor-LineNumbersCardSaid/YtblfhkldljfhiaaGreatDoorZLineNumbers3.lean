/- LineNumbers: part 3 of the proof that, whatever the input, the law returns true and the input reads as it did; its conditions are those of the given row. -/
import Derived.Test.YtblfhkldljfhiaaGreatDoorZLineNumbers2
import Derived.Shelf.Strings.SlTrimAscii
import Derived.Tactics
import Derived.WalkLawsBesides
import Derived.RowKit3
import Derived.Laws.BitsLemmas
import Derived.Test.YtblfhkldljfhiaaGreatDoorSh
import Derived.Test.YtblfhkldljfhiaaGreatDoorRows
import Derived.LaidMore
import Derived.MakeChecks
import Derived.Lib.AppendIntMem
import Derived.Shelf.Vars
import Derived.WalkKit
import Derived.Deep.LoopGhost
import Derived.Lib.Walk
import Derived.Lib.SliceRun
set_option linter.unusedVariables false
set_option linter.unusedSimpArgs false
namespace Go.Ab
open Go.Proofs
def Qe6 (a0 : Int) : Option (ByteArray × Int) := (bif (a0 == 5) then (some (h_2b, (3 : Int))) else (bif (a0 == 6) then (some (h_2d, (3 : Int))) else (bif (a0 == 7) then (some (h_2a, (4 : Int))) else (bif (a0 == 8) then (some (h_26, (1 : Int))) else (bif (a0 == 9) then (some (h_7c, (0 : Int))) else (bif (a0 == 10) then (some (S6, (2 : Int))) else (some (S7, (2 : Int)))))))))
noncomputable def Yd : QaL := Qe6
theorem Yd.eq (a0 : Int) : Yd a0 = Qe6 a0 := rfl
noncomputable def Qon (a0 : Int) : Tr (ByteArray × Int) AH := (.as (a0 == 5) (rt YV (h_2b, (zi 3))) (.as (a0 == 6) (rt YV (h_2d, (zi 3))) (.as (a0 == 7) (rt YV (h_2a, (zi 4))) (.as (a0 == 8) (rt YV (h_26, (zi 1))) (.as (a0 == 9) (rt YV (h_7c, i0)) (.as (a0 == 10) (rt YV (S6, (zi 2))) (rt YV (S7, (zi 2)))))))))
theorem Yd.ok {a0 : Int} {r : (ByteArray × Int)} (h : Yd a0 = some r) : ww 104 [xi a0] [] = some (YV r) := by
 refine fnP (Qon a0) ?_ h
 exact ⟨rfl, fun q0 => rfl, fun q0 => ⟨rfl, fun q1 => rfl, fun q1 => ⟨rfl, fun q2 => rfl, fun q2 => ⟨rfl, fun q3 => rfl, fun q3 => ⟨rfl, fun q4 => rfl, fun q4 => ⟨rfl, fun q5 => rfl, fun q5 => rfl⟩⟩⟩⟩⟩⟩
noncomputable abbrev Qjn {ρ R : Type} (a0 : Int) (k : (ByteArray × Int) → Tr ρ R) : Tr ρ R := .call (ww 104 [xi a0] []) (Yd a0) YV k
def ZD (r : (Int × Qe)) : AV × Heap := (xi r.1, [(0, .box [] (Jb r.2))])
abbrev Z1 := Int → Qe → Option (Int × Qe)
structure Jj where
 x1 : Int
 x5 : Int
 h0 : Qe
structure UQ where
 x4 : Int
 h0 : Qe
def Xp (a : Jj) : St := { n := 33, nx := 1, env := [(0, .ptr 0 0), (1, xi a.x1), (5, xi a.x5)], heap := [(0, .box [] (Jb a.h0))] }
def Fo (a : UQ) : Ex × St := (.ret, { n := 33, nx := 1, env := [(4, xi a.x4)], heap := [(0, .box [] (Jb a.h0))] })
def Fp (a : Qe) : Ex × St := (.exit 0, { n := 33, nx := 1, env := [], heap := [(0, .box [] (Jb a))] })
def ZS (a : (UQ ⊕ Qe)) : Ex × St := Sum.elim Fo Fp a
abbrev PU := Jj → Option (UQ ⊕ Qe)
def Xq (C0 : QaL) (C1 : Xl) (a : Jj) : Option (Jj ⊕ (UQ ⊕ Qe)) := (bif (decide (a.x5 ≤ 11)) then ((C0 a.x5).bind fun r1 => (bif (r1.2 == a.x1) then (bif (!a.h0.Bad) then ((C1 r1.1 a.h0).bind fun r2 => (bif r2.1 then (some (.inr (.inl (UQ.mk a.x5 r2.2)))) else (some (.inl (Jj.mk a.x1 (w64 (a.x5 + 1)) r2.2))))) else (some (.inl (Jj.mk a.x1 (w64 (a.x5 + 1)) a.h0)))) else (some (.inl (Jj.mk a.x1 (w64 (a.x5 + 1)) a.h0))))) else (some (.inr (.inr a.h0))))
noncomputable def Q4 : PU := loopW (Xq Yd Up)
theorem Q4.eq (a : Jj) : Q4 a = (Xq Yd Up a).bind (Sum.elim Q4 some) := JD _ _
noncomputable abbrev QdY {ρ R : Type} (a : Jj) (k0 : UQ → Tr ρ R) (k1 : Qe → Tr ρ R) : Tr ρ R := .loop2 (loopAt pp 207 2) (Xp a) (Q4 a) Fo Fp k0 k1
noncomputable def QdZ (a : Jj) : Tr (Jj ⊕ (UQ ⊕ Qe)) XS := (.as (decide (a.x5 ≤ 11)) (Qjn a.x5 fun r1 => (let u121 := (r1.2 == a.x1); .as u121 (yesN 5 u121 (let u120 := (!a.h0.Bad); .as u120 (yesN 2 u120 (Yc r1.1 a.h0 fun r2 => (.yes u120 (.as r2.1 (rx ZS (.inl (UQ.mk a.x5 r2.2))) (lf Xp (Jj.mk a.x1 (w64 (a.x5 + 1)) r2.2)))))) (noN 3 u120 (.no false (lf Xp (Jj.mk a.x1 (w64 (a.x5 + 1)) a.h0)))))) (noN 5 u121 (noN 5 false (lf Xp (Jj.mk a.x1 (w64 (a.x5 + 1)) a.h0)))))) (rx ZS (.inr a.h0)))
theorem Q4.ok {a : Jj} {r : (UQ ⊕ Qe)} (h : Q4 a = some r) : lw 1 207 (loopAt pp 207 2) (Xp a) = some (ZS r) := by
 refine lpP h QdZ fun a => ?_
 exact ⟨rfl, fun q0 => fun r1 h => ⟨Yd.ok h, ⟨rfl, fun q1 => Qk 5 (q1) (⟨rfl, fun q2 => Qk 2 (q2) (fun r2 h => ⟨Up.ok h, ⟨q2, ⟨rfl, fun q3 => rfl, fun q3 => rfl⟩⟩⟩), fun q2 => noN_ok 3 (q2) (⟨rfl, rfl⟩)⟩), fun q1 => noN_ok 5 (q1) (noN_ok 5 (rfl) (rfl))⟩⟩, fun q0 => rfl⟩
def ZE (L0 : PU) (a1 : Int) (h0 : Qe) : Option (Int × Qe) := ((L0 (Jj.mk a1 (5 : Int) h0)).bind fun x => Sum.elim (fun (o1 : UQ) => (some (o1.x4, o1.h0))) (fun (o2 : Qe) => (some ((0 : Int), o2))) x)
noncomputable def Vc : Z1 := ZE Q4
theorem Vc.eq (a1 : Int) (h0 : Qe) : Vc a1 h0 = ZE Q4 a1 h0 := rfl
noncomputable def QgW (a1 : Int) (h0 : Qe) : Tr (Int × Qe) AH := (QdY (Jj.mk a1 (zi 5) h0) (fun o1 => (rt ZD (o1.x4, o1.h0))) (fun o2 => (rt ZD (i0, o2))))
theorem Vc.ok {a1 : Int} {h0 : Qe} {r : (Int × Qe)} (h : Vc a1 h0 = some r) : ww 207 [.ptr 0 0, xi a1] [(0, .box [] (Jb h0))] = some (ZD r) := by
 refine fnP (QgW a1 h0) ?_ h
 exact ⟨fun o1 h => ⟨Q4.ok (r := (.inl _)) h, rfl⟩, fun o2 h => ⟨Q4.ok (r := (.inr _)) h, rfl⟩⟩
noncomputable abbrev QgX {ρ R : Type} (a1 : Int) (h0 : Qe) (k : (Int × Qe) → Tr ρ R) : Tr ρ R := .call (ww 207 [.ptr 0 0, xi a1] [(0, .box [] (Jb h0))]) (Vc a1 h0) ZD k
abbrev Xz := Bool → Qe → Option (Qa × Qe)
abbrev QgY (c : Xz) : Prop := ∀ (a1 : Bool) (h0 : Qe) (r : (Qa × Qe)), c a1 h0 = some r → ww 234 [.ptr 0 0, xo a1] [(0, .box [] (Jb h0))] = some (QC r)
abbrev Wj := Qe → Option (Qa × Qe)
abbrev QiE (c : Wj) : Prop := ∀ (h0 : Qe) (r : (Qa × Qe)), c h0 = some r → ww 206 [.ptr 0 0] [(0, .box [] (Jb h0))] = some (QC r)
abbrev Jr := Int → Qe → Option (Qa × Qe)
abbrev Qcw (c : Jr) : Prop := ∀ (a1 : Int) (h0 : Qe) (r : (Qa × Qe)), c a1 h0 = some r → ww 159 [.ptr 0 0, xi a1] [(0, .box [] (Jb h0))] = some (QC r)
noncomputable abbrev Sr {ρ R : Type} (c : Xz) (a1 : Bool) (h0 : Qe) (k : (Qa × Qe) → Tr ρ R) : Tr ρ R := .call (ww 234 [.ptr 0 0, xo a1] [(0, .box [] (Jb h0))]) (c a1 h0) QC k
noncomputable abbrev Qbi {ρ R : Type} (c : Wj) (h0 : Qe) (k : (Qa × Qe) → Tr ρ R) : Tr ρ R := .call (ww 206 [.ptr 0 0] [(0, .box [] (Jb h0))]) (c h0) QC k
noncomputable abbrev Z2 {ρ R : Type} (c : Jr) (a1 : Int) (h0 : Qe) (k : (Qa × Qe) → Tr ρ R) : Tr ρ R := .call (ww 159 [.ptr 0 0, xi a1] [(0, .box [] (Jb h0))]) (c a1 h0) QC k
def Wm (C0 : Jr) (C1 : Xl) (C2 : Wj) (a1 : Bool) (h0 : Qe) : Option (Qa × Qe) := (bif (decide (h0.Deep ≥ 12)) then (some ((Qa.mk (0 : Int) (0 : Int) s_ ([] : List Qa)), (Qe.mk h0.S h0.P h0.Deep true))) else (bif a1 then ((C0 (0 : Int) (Qe.mk h0.S h0.P (w64 (h0.Deep + 1)) h0.Bad)).bind fun r1 => ((C1 h_29 r1.2).bind fun r2 => (bif (!r2.1) then (some (r1.1, (Qe.mk r2.2.S r2.2.P (w64 (r2.2.Deep - 1)) true))) else (some (r1.1, (Qe.mk r2.2.S r2.2.P (w64 (r2.2.Deep - 1)) r2.2.Bad)))))) else ((C2 (Qe.mk h0.S h0.P (w64 (h0.Deep + 1)) h0.Bad)).bind fun r3 => (some ((Qa.mk (4 : Int) (0 : Int) s_ [r3.1]), (Qe.mk r3.2.S r3.2.P (w64 (r3.2.Deep - 1)) r3.2.Bad))))))
theorem Ss {C0 : Nat → Jr} {D0 : Jr} (H0 : Cv2 C0 D0) {C1 : Nat → Xl} {D1 : Xl} (H1 : Cv2 C1 D1) {C2 : Nat → Wj} {D2 : Wj} (H2 : Cv1 C2 D2) (a1 : Bool) (h0 : Qe) : Cv (fun k => Wm (C0 k) (C1 k) (C2 k) a1 h0) (Wm D0 D1 D2 a1 h0) := by
 unfold Wm
 exact .cond cst (.cond (.bind (H0 _ _) fun r1 => .bind (H1 _ _) fun r2 => by exact .const _) (.bind (H2 _) fun r3 => by exact .const _))
noncomputable def QfU (C0 : Jr) (C1 : Wj) (a1 : Bool) (h0 : Qe) : Tr (Qa × Qe) AH := (.as (decide (h0.Deep ≥ 12)) (rt QC ((Qa.mk i0 i0 s_ ([] : List Qa)), (Qe.mk h0.S h0.P h0.Deep true))) (.as a1 (Z2 C0 i0 (Qe.mk h0.S h0.P (w64 (h0.Deep + 1)) h0.Bad) fun r1 => (Yc h_29 r1.2 fun r2 => (.as (!r2.1) (rt QC (r1.1, (Qe.mk r2.2.S r2.2.P (w64 (r2.2.Deep - 1)) true))) (rt QC (r1.1, (Qe.mk r2.2.S r2.2.P (w64 (r2.2.Deep - 1)) r2.2.Bad)))))) (Qbi C1 (Qe.mk h0.S h0.P (w64 (h0.Deep + 1)) h0.Bad) fun r3 => (.rows [[xi r3.1.Kind, xi r3.1.N, xs r3.1.Name, .sl (QX r3.1.L)]] (QX [r3.1]) (rt QC ((Qa.mk (zi 4) i0 s_ [r3.1]), (Qe.mk r3.2.S r3.2.P (w64 (r3.2.Deep - 1)) r3.2.Bad)))))))
def Ws (C0 : Xl) (C1 : Xz) (C2 : Zc) (C3 : PP) (C4 : Z0) (h0 : Qe) : Option (Qa × Qe) := (bif h0.Bad then (some ((Qa.mk (0 : Int) (0 : Int) s_ ([] : List Qa)), h0)) else ((C0 h_28 h0).bind fun r1 => (bif r1.1 then ((C1 true r1.2).bind fun r2 => (some (r2.1, r2.2))) else ((C0 h_2d r1.2).bind fun r3 => (bif r3.1 then ((C1 false r3.2).bind fun r4 => (some (r4.1, r4.2))) else ((C0 h_2e r3.2).bind fun r5 => (bif r5.1 then (some ((Qa.mk (3 : Int) (0 : Int) s_ ([] : List Qa)), r5.2)) else ((C0 s_0x r5.2).bind fun r6 => (bif r6.1 then ((C2 (16 : Int) r6.2).bind fun r7 => (some (r7.1, r7.2))) else (bif (decide (r6.2.P < ((r6.2.S.size : Nat) : Int))) then (bif (decide (0 ≤ r6.2.P ∧ r6.2.P < ((r6.2.S.size : Nat) : Int))) then ((C3 ((r6.2.S.data.getD (Int.toNat r6.2.P) 0).toNat : Int) (10 : Int)).bind fun r8 => (bif (decide (r8 ≥ 0)) then ((C2 (10 : Int) r6.2).bind fun r9 => (some (r9.1, r9.2))) else ((C4 r6.2).bind fun r10 => (some (r10.1, r10.2))))) else none) else ((C4 r6.2).bind fun r11 => (some (r11.1, r11.2)))))))))))))
theorem Qbj {C0 : Nat → Xl} {D0 : Xl} (H0 : Cv2 C0 D0) {C1 : Nat → Xz} {D1 : Xz} (H1 : Cv2 C1 D1) {C2 : Nat → Zc} {D2 : Zc} (H2 : Cv2 C2 D2) {C3 : Nat → PP} {D3 : PP} (H3 : Cv2 C3 D3) {C4 : Nat → Z0} {D4 : Z0} (H4 : Cv1 C4 D4) (h0 : Qe) : Cv (fun k => Ws (C0 k) (C1 k) (C2 k) (C3 k) (C4 k) h0) (Ws D0 D1 D2 D3 D4 h0) := by
 unfold Ws
 exact .cond cst (.bind (H0 _ _) fun r1 => .cond (.bind (H1 _ _) fun r2 => by exact .const _) (.bind (H0 _ _) fun r3 => .cond (.bind (H1 _ _) fun r4 => by exact .const _) (.bind (H0 _ _) fun r5 => .cond cst (.bind (H0 _ _) fun r6 => .cond (.bind (H2 _ _) fun r7 => by exact .const _) (.cond (.cond (.bind (H3 _ _) fun r8 => .cond (.bind (H2 _ _) fun r9 => by exact .const _) (.bind (H4 _) fun r10 => by exact .const _)) cst) (.bind (H4 _) fun r11 => by exact .const _))))))
noncomputable def QhP (C0 : Xz) (h0 : Qe) : Tr (Qa × Qe) AH := (.as h0.Bad (rt QC ((Qa.mk i0 i0 s_ ([] : List Qa)), h0)) (Yc h_28 h0 fun r1 => (.as r1.1 (Sr C0 true r1.2 fun r2 => (rt QC (r2.1, r2.2))) (Yc h_2d r1.2 fun r3 => (.as r3.1 (Sr C0 false r3.2 fun r4 => (rt QC (r4.1, r4.2))) (Yc h_2e r3.2 fun r5 => (.as r5.1 (rt QC ((Qa.mk (zi 3) i0 s_ ([] : List Qa)), r5.2)) (Yc s_0x r5.2 fun r6 => (.as r6.1 (PQ (zi 16) r6.2 fun r7 => (rt QC (r7.1, r7.2))) (let u122 := (decide (r6.2.P < (zz r6.2.S))); .as u122 (yesN 8 u122 (.as (in1 r6.2.P (zz r6.2.S)) (.yes u122 (Qc6 (gb r6.2.S r6.2.P) (zi 10) fun r8 => (yesN 2 u122 (.as (decide (r8 ≥ 0)) (PQ (zi 10) r6.2 fun r9 => (rt QC (r9.1, r9.2))) (QaK r6.2 fun r10 => (rt QC (r10.1, r10.2))))))) .fail)) (noN 11 u122 (.no false (QaK r6.2 fun r11 => (rt QC (r11.1, r11.2)))))))))))))))
structure Jy where
 x1 : Int
 h0 : Qe
 h1 : Qa
 h2 : Qa
structure Vl where
 h0 : Qe
 h1 : Qa
def Gr (a : Jy) : St := { n := 29, nx := 3, env := [(0, .ptr 0 0), (1, xi a.x1), (4, .ptr 1 0), (5, .ptr 2 0)], heap := [(0, .box [] (Jb a.h0)), (1, .box [] (Js a.h1)), (2, .box [] (Js a.h2))] }
def Gs (a : Vl) : Ex × St := (.ret, { n := 29, nx := 2, env := [(4, .ptr 1 0)], heap := [(0, .box [] (Jb a.h0)), (1, .box [] (Js a.h1))] })
abbrev Wn := Jy → Option Vl
def V3 (C0 : Z1) (C1 : Jr) (a : Jy) : Option (Jy ⊕ Vl) := ((C0 a.x1 a.h0).bind fun r1 => (bif (r1.1 == 0) then (some (.inr (Vl.mk r1.2 a.h2))) else ((C1 (w64 (a.x1 + 1)) r1.2).bind fun r2 => (some (.inl (Jy.mk a.x1 r2.2 a.h1 (Qa.mk r1.1 (0 : Int) s_ [a.h2, r2.1])))))))
theorem PV {C0 : Nat → Z1} {D0 : Z1} (H0 : Cv2 C0 D0) {C1 : Nat → Jr} {D1 : Jr} (H1 : Cv2 C1 D1) (a : Jy) : Cv (fun k => V3 (C0 k) (C1 k) a) (V3 D0 D1 a) := by
 unfold V3
 exact .bind (H0 _ _) fun r1 => .cond cst (.bind (H1 _ _) fun r2 => by exact .const _)
noncomputable abbrev Qe7 {ρ R : Type} (l : Wn) (a : Jy) (k0 : Vl → Tr ρ R) : Tr ρ R := .loop (loopAt pp 159 4) (Gr a) (l a) Gs k0
noncomputable def Qe8 (C0 : Jr) (a : Jy) : Tr (Jy ⊕ Vl) XS := (QgX a.x1 a.h0 fun r1 => (.as (r1.1 == 0) (rx Gs (Vl.mk r1.2 a.h2)) (Z2 C0 (w64 (a.x1 + 1)) r1.2 fun r2 => (.rows [[xi a.h2.Kind, xi a.h2.N, xs a.h2.Name, .sl (QX a.h2.L)], [xi r2.1.Kind, xi r2.1.N, xs r2.1.Name, .sl (QX r2.1.L)]] (QX [a.h2, r2.1]) (lf Gr (Jy.mk a.x1 r2.2 a.h1 (Qa.mk r1.1 i0 s_ [a.h2, r2.1])))))))
noncomputable def Jg.s (k : Nat) (C0 : Jr) : Wn := iter (V3 Vc C0) k
theorem Qd0 (k : Nat) {C0 : Jr} (i_r3_reader_two : Qcw C0) {a : Jy} {r : Vl} (h : Jg.s k C0 a = some r) : lw 1 159 (loopAt pp 159 4) (Gr a) = some (Gs r) := by
 refine lpP (itP h) (Qe8 C0) fun a => ?_
 exact fun r1 h => ⟨Vc.ok h, ⟨rfl, fun q0 => rfl, fun q0 => fun r2 h => ⟨i_r3_reader_two _ _ _ h, ⟨(W0 [a.h2, r2.1]), rfl⟩⟩⟩⟩
theorem Jg.m {j k : Nat} (hj : j ≤ k) (C0 : Jr) (D0 : Jr) (H0 : Le2 C0 D0) (a : Jy) : Le (Jg.s j C0 a) (Jg.s k D0 a) := Le.iter (fun a => (PV ks2 (tw2 H0) a).1 0) hj a
noncomputable def Jg.w (C0 : Jr) : Wn := loopW (V3 Vc C0)
theorem Jg.cv (C0 : Nat → Jr) (D0 : Jr) (H0 : Cv2 C0 D0) (a : Jy) : Cv (fun k => Jg.s k (C0 k) a) (Jg.w D0 a) := Cv.iter (fun a => PV ks2 H0 a) a
def Xf (C0 : Wj) (C1 : Jr) (L2 : Wn) (a1 : Int) (h0 : Qe) : Option (Qa × Qe) := (bif (decide (a1 > 4)) then ((C0 h0).bind fun r1 => (some (r1.1, r1.2))) else ((C1 (w64 (a1 + 1)) h0).bind fun r2 => ((L2 (Jy.mk a1 r2.2 (Qa.mk (0 : Int) (0 : Int) s_ ([] : List Qa)) r2.1)).bind (fun (o3 : Vl) => (some (o3.h1, o3.h0))))))
theorem Qbk {C0 : Nat → Wj} {D0 : Wj} (H0 : Cv1 C0 D0) {C1 : Nat → Jr} {D1 : Jr} (H1 : Cv2 C1 D1) {L2 : Nat → Wn} {M2 : Wn} (N2 : Cv1 L2 M2) (a1 : Int) (h0 : Qe) : Cv (fun k => Xf (C0 k) (C1 k) (L2 k) a1 h0) (Xf D0 D1 M2 a1 h0) := by
 unfold Xf
 exact .cond (.bind (H0 _) fun r1 => by exact .const _) (.bind (H1 _ _) fun r2 => .bind (N2 _) (fun o3 => by exact .const _))
noncomputable def QhQ (C0 : Wj) (C1 : Jr) (L2 : Wn) (a1 : Int) (h0 : Qe) : Tr (Qa × Qe) AH := (.as (decide (a1 > 4)) (Qbi C0 h0 fun r1 => (rt QC (r1.1, r1.2))) (Z2 C1 (w64 (a1 + 1)) h0 fun r2 => (Qe7 L2 (Jy.mk a1 r2.2 (Qa.mk i0 i0 s_ ([] : List Qa)) r2.1) (fun o3 => (rt QC (o3.h1, o3.h0))))))
mutual
noncomputable def QZ.s : Nat → Bool → Qe → Option (Qa × Qe)
 | 0, _, _ => none
 | k + 1, a1, h0 => Wm (fun a1 h0 => Qv.s k a1 h0) Up (fun h0 => QW.s k h0) a1 h0
termination_by structural k => k
noncomputable def QW.s : Nat → Qe → Option (Qa × Qe)
 | 0, _ => none
 | k + 1, h0 => Ws Up (fun a1 h0 => QZ.s k a1 h0) J6 VH Vt h0
termination_by structural k => k
noncomputable def Qv.s : Nat → Int → Qe → Option (Qa × Qe)
 | 0, _, _ => none
 | k + 1, a1, h0 => Xf (fun h0 => QW.s k h0) (fun a1 h0 => Qv.s k a1 h0) (Jg.s k (fun a1 h0 => Qv.s k a1 h0)) a1 h0
termination_by structural k => k
end
theorem FF : ∀ (k : Nat), (QgY (QZ.s k)) ∧ (QiE (QW.s k)) ∧ (Qcw (Qv.s k))
 | 0 => ⟨fun _ _ _ h => (nomatch h), fun _ _ h => (nomatch h), fun _ _ _ h => (nomatch h)⟩
 | k + 1 => by
  obtain ⟨i_r3_reader_inner, i_r3_reader_one, i_r3_reader_two⟩ := FF k
  exact ⟨fun a1 h0 r h => by
    refine fnP (QfU (Qv.s k) (QW.s k) a1 h0) ?_ h
    exact ⟨rfl, fun q0 => rfl, fun q0 => ⟨rfl, fun q1 => fun r1 h => ⟨i_r3_reader_two _ _ _ h, fun r2 h => ⟨Up.ok h, ⟨rfl, fun q2 => rfl, fun q2 => rfl⟩⟩⟩, fun q1 => fun r3 h => ⟨i_r3_reader_one _ _ h, ⟨(W0 [r3.1]), rfl⟩⟩⟩⟩,
   fun h0 r h => by
    refine fnP (QhP (QZ.s k) h0) ?_ h
    exact ⟨rfl, fun q0 => rfl, fun q0 => fun r1 h => ⟨Up.ok h, ⟨rfl, fun q1 => fun r2 h => ⟨i_r3_reader_inner _ _ _ h, rfl⟩, fun q1 => fun r3 h => ⟨Up.ok h, ⟨rfl, fun q2 => fun r4 h => ⟨i_r3_reader_inner _ _ _ h, rfl⟩, fun q2 => fun r5 h => ⟨Up.ok h, ⟨rfl, fun q3 => rfl, fun q3 => fun r6 h => ⟨Up.ok h, ⟨rfl, fun q4 => fun r7 h => ⟨J6.ok h, rfl⟩, fun q4 => ⟨rfl, fun q5 => Qk 8 (q5) (⟨rfl, fun q6 => ⟨q5, fun r8 h => ⟨VH.ok h, Qk 2 (q5) (⟨rfl, fun q7 => fun r9 h => ⟨J6.ok h, rfl⟩, fun q7 => fun r10 h => ⟨Vt.ok h, rfl⟩⟩)⟩⟩, fun q6 => trivial⟩), fun q5 => noN_ok 11 (q5) (⟨rfl, fun r11 h => ⟨Vt.ok h, rfl⟩⟩)⟩⟩⟩⟩⟩⟩⟩⟩⟩⟩,
   fun a1 h0 r h => by
    refine fnP (QhQ (QW.s k) (Qv.s k) (Jg.s k (Qv.s k)) a1 h0) ?_ h
    exact ⟨rfl, fun q0 => fun r1 h => ⟨i_r3_reader_one _ _ h, rfl⟩, fun q0 => fun r2 h => ⟨i_r3_reader_two _ _ _ h, fun o3 h => ⟨Qd0 k i_r3_reader_two h, rfl⟩⟩⟩⟩
theorem X0 : ∀ (k : Nat), (∀ (a1 : Bool) (h0 : Qe), Le (QZ.s k a1 h0) (QZ.s (k + 1) a1 h0)) ∧ (∀ (h0 : Qe), Le (QW.s k h0) (QW.s (k + 1) h0)) ∧ (∀ (a1 : Int) (h0 : Qe), Le (Qv.s k a1 h0) (Qv.s (k + 1) a1 h0))
 | 0 => ⟨fun _ _ _ h => (nomatch h), fun _ _ h => (nomatch h), fun _ _ _ h => (nomatch h)⟩
 | k + 1 => by
  obtain ⟨i_r3_reader_inner, i_r3_reader_one, i_r3_reader_two⟩ := X0 k
  exact ⟨fun a1 h0 => (Ss (tw2 i_r3_reader_two) ks2 (tw1 i_r3_reader_one) a1 h0).1 0,
   fun h0 => (Qbj ks2 (tw2 i_r3_reader_inner) ks2 ks2 ks1 h0).1 0,
   fun a1 h0 => (Qbk (tw1 i_r3_reader_one) (tw2 i_r3_reader_two) (tw1 (Jg.m (Nat.le_succ k) (Qv.s k) (Qv.s (k + 1)) i_r3_reader_two)) a1 h0).1 0⟩
noncomputable def QZ (a1 : Bool) (h0 : Qe) : Option (Qa × Qe) := lim fun k => QZ.s k a1 h0
theorem QZ.cv (a1 : Bool) (h0 : Qe) : Cv (fun k => QZ.s k a1 h0) (QZ a1 h0) := .lim fun k => (X0 k).1 a1 h0
noncomputable def QW (h0 : Qe) : Option (Qa × Qe) := lim fun k => QW.s k h0
theorem QW.cv (h0 : Qe) : Cv (fun k => QW.s k h0) (QW h0) := .lim fun k => (X0 k).2.1 h0
noncomputable def Qv (a1 : Int) (h0 : Qe) : Option (Qa × Qe) := lim fun k => Qv.s k a1 h0
theorem Qv.cv (a1 : Int) (h0 : Qe) : Cv (fun k => Qv.s k a1 h0) (Qv a1 h0) := .lim fun k => (X0 k).2.2 a1 h0
theorem Qv.ok {a1 : Int} {h0 : Qe} {r : (Qa × Qe)} (h : Qv a1 h0 = some r) : ww 159 [.ptr 0 0, xi a1] [(0, .box [] (Jb h0))] = some (QC r) := let ⟨k, e⟩ := ((Qv.cv a1 h0).2 r).1 h; (FF k).2.2 a1 h0 _ e
noncomputable def Jg : Wn := Jg.w Qv
theorem Jg.eq (a : Jy) : Jg a = (V3 Vc Qv a).bind (Sum.elim Jg some) := JD _ _
theorem QZ.eq (a1 : Bool) (h0 : Qe) : QZ a1 h0 = Wm Qv Up QW a1 h0 := Cv.uniq (QZ.cv a1 h0).shift (Ss Qv.cv ks2 QW.cv a1 h0)
theorem QW.eq (h0 : Qe) : QW h0 = Ws Up QZ J6 VH Vt h0 := Cv.uniq (QW.cv h0).shift (Qbj ks2 QZ.cv ks2 ks2 ks1 h0)
theorem Qv.eq (a1 : Int) (h0 : Qe) : Qv a1 h0 = Xf QW Qv Jg a1 h0 := Cv.uniq (Qv.cv a1 h0).shift (Qbk QW.cv Qv.cv (Jg.cv (fun k => Qv.s k) Qv Qv.cv) a1 h0)
noncomputable abbrev QhR {ρ R : Type} (a1 : Int) (h0 : Qe) (k : (Qa × Qe) → Tr ρ R) : Tr ρ R := Z2 Qv a1 h0 k
abbrev Qjo := ByteArray → Option (Qa × Bool)
def SE (C0 : Jr) (C1 : Fk) (a0 : ByteArray) : Option (Qa × Bool) := ((C0 (0 : Int) (Qe.mk a0 (0 : Int) (0 : Int) false)).bind fun r1 => ((C1 r1.2).bind fun r2 => (bif r2.Bad then (some ((Qa.mk (0 : Int) (0 : Int) s_ ([] : List Qa)), false)) else (bif (decide (r2.P < ((a0.size : Nat) : Int))) then (some ((Qa.mk (0 : Int) (0 : Int) s_ ([] : List Qa)), false)) else (some (r1.1, true))))))
noncomputable def Xg : Qjo := SE Qv UX
theorem Xg.eq (a0 : ByteArray) : Xg a0 = SE Qv UX a0 := rfl
noncomputable def QnG (a0 : ByteArray) : Tr (Qa × Bool) AH := (QhR i0 (Qe.mk a0 i0 i0 false) fun r1 => (QaJ r1.2 fun r2 => (.as r2.Bad (yesN 7 r2.Bad (.yes true (rt WU ((Qa.mk i0 i0 s_ ([] : List Qa)), false)))) (noN 7 r2.Bad (.as (decide (r2.P < (zz a0))) (rt WU ((Qa.mk i0 i0 s_ ([] : List Qa)), false)) (rt WU (r1.1, true)))))))
theorem Xg.ok {a0 : ByteArray} {r : (Qa × Bool)} (h : Xg a0 = some r) : ww 107 [xs a0] [] = some (WU r) := by
 refine fnP (QnG a0) ?_ h
 exact fun r1 h => ⟨Qv.ok h, fun r2 h => ⟨UX.ok h, ⟨rfl, fun q0 => Qk 7 (q0) (⟨rfl, rfl⟩), fun q0 => noN_ok 7 (q0) (⟨rfl, fun q1 => rfl, fun q1 => rfl⟩)⟩⟩⟩
noncomputable abbrev QhS {ρ R : Type} (a0 : ByteArray) (k : (Qa × Bool) → Tr ρ R) : Tr ρ R := .call (ww 107 [xs a0] []) (Xg a0) WU k
def W5 (r : Qd) : AV × Heap := (.agg (YL r), [])
abbrev QdD := Qy → ByteArray → Int → Option Qd
def GC (C0 : Qe4) (C1 : Qgr) (C2 : E1) (C3 : Qfw) (C4 : SD) (C5 : Xe) (C6 : Qjo) (a0 : Qy) (a1 : ByteArray) (a2 : Int) : Option Qd := ((C0 a1).bind fun r1 => (bif r1 then ((C1 a1 a2).bind fun r2 => (some (Qd.mk r2 (Qa.mk (0 : Int) (0 : Int) s_ ([] : List Qa))))) else ((C2 a2 (5 : Int)).bind fun r3 => (bif (r3 == 0) then (bif (decide ((((a0.E.length) : Nat) : Int) > 0)) then ((C3 a0.E).bind fun r4 => (some (Qd.mk (-1 : Int) r4))) else (bif (decide (0 ≤ (0 : Int) ∧ (0 : Int) < ((a1.size : Nat) : Int))) then (bif (((a1.data.getD (Int.toNat 0) 0).toNat : Int) == 84) then ((C4).bind fun r5 => ((C2 a2 (4 : Int)).bind fun r6 => (bif (decide (0 ≤ r6)) then ((r5[(Int.toNat r6)]?).bind fun e7 => (some (Qd.mk (-1 : Int) (Qa.mk (2 : Int) (0 : Int) e7 ([] : List Qa))))) else none))) else ((C1 a1 a2).bind fun r8 => ((C5 r8).bind fun r9 => ((C6 r9).bind fun r10 => (some (Qd.mk (-1 : Int) r10.1)))))) else none)) else (bif (decide (0 ≤ (0 : Int) ∧ (0 : Int) < ((a1.size : Nat) : Int))) then (bif (((a1.data.getD (Int.toNat 0) 0).toNat : Int) == 84) then ((C4).bind fun r11 => ((C2 a2 (4 : Int)).bind fun r12 => (bif (decide (0 ≤ r12)) then ((r11[(Int.toNat r12)]?).bind fun e13 => (some (Qd.mk (-1 : Int) (Qa.mk (2 : Int) (0 : Int) e13 ([] : List Qa))))) else none))) else ((C1 a1 a2).bind fun r14 => ((C5 r14).bind fun r15 => ((C6 r15).bind fun r16 => (some (Qd.mk (-1 : Int) r16.1)))))) else none)))))
noncomputable def VT : QdD := GC WC V9 QF Xo Jx Ji Xg
theorem VT.eq (a0 : Qy) (a1 : ByteArray) (a2 : Int) : VT a0 a1 a2 = GC WC V9 QF Xo Jx Ji Xg a0 a1 a2 := rfl
noncomputable def QiF (a0 : Qy) (a1 : ByteArray) (a2 : Int) : Tr Qd AH := (Qj4 a1 fun r1 => (.as r1 (QaI a1 a2 fun r2 => (rt W5 (Qd.mk r2 (Qa.mk i0 i0 s_ ([] : List Qa))))) (Q6 a2 (zi 5) fun r3 => (let u123 := (r3 == 0); .as u123 (yesN 2 u123 (.num ((U0 a0.E).length) (a0.E.length) (yesN 2 u123 (.as (decide ((((a0.E.length) : Nat) : Int) > 0)) (QgT a0.E fun r4 => (rt W5 (Qd.mk (-1 : Int) r4))) (.as (in1 i0 (zz a1)) (.as ((gb a1 i0) == 84) (Vp fun r5 => (Q6 a2 (zi 4) fun r6 => (.as (decide (0 ≤ r6)) (.row ((Qh r5)[(Int.toNat r6)]?) (r5[(Int.toNat r6)]?) Q8 fun (e7 : ByteArray) => (rt W5 (Qd.mk (-1 : Int) (Qa.mk (zi 2) i0 e7 ([] : List Qa))))) .fail))) (QaI a1 a2 fun r8 => (Pq r8 fun r9 => (QhS r9 fun r10 => (rt W5 (Qd.mk (-1 : Int) r10.1)))))) .fail))))) (noN 4 u123 (.no false (.as (in1 i0 (zz a1)) (.as ((gb a1 i0) == 84) (Vp fun r11 => (Q6 a2 (zi 4) fun r12 => (.as (decide (0 ≤ r12)) (.row ((Qh r11)[(Int.toNat r12)]?) (r11[(Int.toNat r12)]?) Q8 fun (e13 : ByteArray) => (rt W5 (Qd.mk (-1 : Int) (Qa.mk (zi 2) i0 e13 ([] : List Qa))))) .fail))) (QaI a1 a2 fun r14 => (Pq r14 fun r15 => (QhS r15 fun r16 => (rt W5 (Qd.mk (-1 : Int) r16.1)))))) .fail)))))))
theorem VT.ok {a0 : Qy} {a1 : ByteArray} {a2 : Int} {r : Qd} (h : VT a0 a1 a2 = some r) : ww 62 [.agg (Vs a0), xs a1, xi a2] [] = some (W5 r) := by
 refine fnP (QiF a0 a1 a2) ?_ h
 exact fun r1 h => ⟨WC.ok h, ⟨rfl, fun q0 => fun r2 h => ⟨V9.ok h, rfl⟩, fun q0 => fun r3 h => ⟨QF.ok h, ⟨rfl, fun q1 => Qk 2 (q1) (⟨(Z6 _), Qk 2 (q1) (⟨rfl, fun q2 => fun r4 h => ⟨Xo.ok h, rfl⟩, fun q2 => ⟨rfl, fun q3 => ⟨rfl, fun q4 => fun r5 h => ⟨Jx.ok h, fun r6 h => ⟨QF.ok h, ⟨rfl, fun q5 => fun e7 h => ⟨Q3 h, rfl⟩, fun q5 => trivial⟩⟩⟩, fun q4 => fun r8 h => ⟨V9.ok h, fun r9 h => ⟨Ji.ok h, fun r10 h => ⟨Xg.ok h, rfl⟩⟩⟩⟩, fun q3 => trivial⟩⟩)⟩), fun q1 => noN_ok 4 (q1) (⟨rfl, ⟨rfl, fun q2 => ⟨rfl, fun q3 => fun r11 h => ⟨Jx.ok h, fun r12 h => ⟨QF.ok h, ⟨rfl, fun q4 => fun e13 h => ⟨Q3 h, rfl⟩, fun q4 => trivial⟩⟩⟩, fun q3 => fun r14 h => ⟨V9.ok h, fun r15 h => ⟨Ji.ok h, fun r16 h => ⟨Xg.ok h, rfl⟩⟩⟩⟩, fun q2 => trivial⟩⟩)⟩⟩⟩⟩
noncomputable abbrev QiG {ρ R : Type} (a0 : Qy) (a1 : ByteArray) (a2 : Int) (k : Qd → Tr ρ R) : Tr ρ R := .call (ww 62 [.agg (Vs a0), xs a1, xi a2] []) (VT a0 a1 a2) W5 k
def Jn (r : Qf) : AV × Heap := (.agg (WD r), [])
abbrev QdE := Qy → Int → Option Qf
structure QY where
 x6 : Int
 h0 : Qy
 h1 : Qf
 h2 : Qf
structure UB where
 h0 : Qf
 h1 : Qf
def WK (a : QY) : St := { n := 59, nx := 5, env := [(2, .ptr 0 0), (4, .ptr 1 0), (5, .ptr 2 0), (6, xi a.x6)], heap := [(0, .box [] (Vs a.h0)), (1, .box [0, 0, 0, 0, 0, 5] [xi a.h1.Line, xs a.h1.Label, xi a.h1.Kind, xi a.h1.Op, xs a.h1.Text, .arr 3]), (2, .box [0, 0, 0, 0, 0, 5] [xi a.h2.Line, xs a.h2.Label, xi a.h2.Kind, xi a.h2.Op, xs a.h2.Text, .arr 4]), (3, .arr true 5 (Qj a.h1.Args)), (4, .arr true 5 (Qj a.h2.Args))] }
def GP (a : UB) : Ex × St := (.exit 0, { n := 59, nx := 4, env := [(4, .ptr 0 0), (5, .ptr 1 0)], heap := [(0, .box [0, 0, 0, 0, 0, 5] [xi a.h0.Line, xs a.h0.Label, xi a.h0.Kind, xi a.h0.Op, xs a.h0.Text, .arr 2]), (1, .box [0, 0, 0, 0, 0, 5] [xi a.h1.Line, xs a.h1.Label, xi a.h1.Kind, xi a.h1.Op, xs a.h1.Text, .arr 3]), (2, .arr true 5 (Qj a.h0.Args)), (3, .arr true 5 (Qj a.h1.Args))] })
abbrev QaM := QY → Option UB
def XR (C0 : E1) (C1 : F1) (C2 : Qfw) (C3 : SD) (a : QY) : Option (QY ⊕ UB) := ((C0 a.h0.B (4 : Int)).bind fun r1 => (bif (decide (a.x6 ≤ r1)) then ((C1 a.h0 a.x6).bind fun r2 => ((C0 r2 (6 : Int)).bind fun r3 => (bif (r3 == 0) then (bif (decide ((((a.h0.E.length) : Nat) : Int) > 0)) then ((C2 a.h0.E).bind fun r4 => (bif (decide ((a.h2.Args.length + [(Qd.mk (-1 : Int) r4)].length) * 64 ≤ most)) then (some (.inl (QY.mk (w64 (a.x6 + 1)) a.h0 a.h1 (Qf.mk a.h2.Line a.h2.Label a.h2.Kind a.h2.Op a.h2.Text (a.h2.Args ++ [(Qd.mk (-1 : Int) r4)]))))) else none)) else ((C0 r2 (6 : Int)).bind fun r5 => (bif (r5 == 1) then ((C3).bind fun r6 => ((C0 (w64 (Int.tdiv r2 (6 : Int))) (4 : Int)).bind fun r7 => (bif (decide (0 ≤ r7)) then ((r6[(Int.toNat r7)]?).bind fun e8 => (bif (decide ((a.h2.Args.length + [(Qd.mk (-1 : Int) (Qa.mk (2 : Int) (0 : Int) e8 ([] : List Qa)))].length) * 64 ≤ most)) then (some (.inl (QY.mk (w64 (a.x6 + 1)) a.h0 a.h1 (Qf.mk a.h2.Line a.h2.Label a.h2.Kind a.h2.Op a.h2.Text (a.h2.Args ++ [(Qd.mk (-1 : Int) (Qa.mk (2 : Int) (0 : Int) e8 ([] : List Qa)))]))))) else none)) else none))) else ((C0 r2 (256 : Int)).bind fun r9 => (bif (decide ((a.h2.Args.length + [(Qd.mk (-1 : Int) (Qa.mk (1 : Int) r9 s_ ([] : List Qa)))].length) * 64 ≤ most)) then (some (.inl (QY.mk (w64 (a.x6 + 1)) a.h0 a.h1 (Qf.mk a.h2.Line a.h2.Label a.h2.Kind a.h2.Op a.h2.Text (a.h2.Args ++ [(Qd.mk (-1 : Int) (Qa.mk (1 : Int) r9 s_ ([] : List Qa)))]))))) else none))))) else ((C0 r2 (6 : Int)).bind fun r10 => (bif (r10 == 1) then ((C3).bind fun r11 => ((C0 (w64 (Int.tdiv r2 (6 : Int))) (4 : Int)).bind fun r12 => (bif (decide (0 ≤ r12)) then ((r11[(Int.toNat r12)]?).bind fun e13 => (bif (decide ((a.h2.Args.length + [(Qd.mk (-1 : Int) (Qa.mk (2 : Int) (0 : Int) e13 ([] : List Qa)))].length) * 64 ≤ most)) then (some (.inl (QY.mk (w64 (a.x6 + 1)) a.h0 a.h1 (Qf.mk a.h2.Line a.h2.Label a.h2.Kind a.h2.Op a.h2.Text (a.h2.Args ++ [(Qd.mk (-1 : Int) (Qa.mk (2 : Int) (0 : Int) e13 ([] : List Qa)))]))))) else none)) else none))) else ((C0 r2 (256 : Int)).bind fun r14 => (bif (decide ((a.h2.Args.length + [(Qd.mk (-1 : Int) (Qa.mk (1 : Int) r14 s_ ([] : List Qa)))].length) * 64 ≤ most)) then (some (.inl (QY.mk (w64 (a.x6 + 1)) a.h0 a.h1 (Qf.mk a.h2.Line a.h2.Label a.h2.Kind a.h2.Op a.h2.Text (a.h2.Args ++ [(Qd.mk (-1 : Int) (Qa.mk (1 : Int) r14 s_ ([] : List Qa)))]))))) else none))))))) else (some (.inr (UB.mk a.h1 a.h2)))))
noncomputable def Vd : QaM := loopW (XR QF U1 Xo Jx)
theorem Vd.eq (a : QY) : Vd a = (XR QF U1 Xo Jx a).bind (Sum.elim Vd some) := JD _ _
noncomputable abbrev QfV {ρ R : Type} (a : QY) (k0 : UB → Tr ρ R) : Tr ρ R := .loop (loopAt pp 65 3) (WK a) (Vd a) GP k0
noncomputable def QfW (a : QY) : Tr (QY ⊕ UB) XS := (Q6 a.h0.B (zi 4) fun r1 => (.as (decide (a.x6 ≤ r1)) (Qbf a.h0 a.x6 fun r2 => (Q6 r2 (zi 6) fun r3 => (let u124 := (r3 == 0); .as u124 (yesN 2 u124 (.num ((U0 a.h0.E).length) (a.h0.E.length) (yesN 2 u124 (.as (decide ((((a.h0.E.length) : Nat) : Int) > 0)) (QgT a.h0.E fun r4 => (.rows [[xi (-1 : Int), xi r4.Kind, xi r4.N, xs r4.Name, .sl (QX r4.L)]] (Qj [(Qd.mk (-1 : Int) r4)]) (.yes (decide ((Qj [(Qd.mk (-1 : Int) r4)]).all (fun r => r.length == 5) = true)) (.ask (decide (((Qj a.h2.Args).length + (Qj [(Qd.mk (-1 : Int) r4)]).length) * 64 ≤ most)) (decide ((a.h2.Args.length + [(Qd.mk (-1 : Int) r4)].length) * 64 ≤ most)) (.rows ((Qj a.h2.Args) ++ (Qj [(Qd.mk (-1 : Int) r4)])) (Qj (a.h2.Args ++ [(Qd.mk (-1 : Int) r4)])) (lf WK (QY.mk (w64 (a.x6 + 1)) a.h0 a.h1 (Qf.mk a.h2.Line a.h2.Label a.h2.Kind a.h2.Op a.h2.Text (a.h2.Args ++ [(Qd.mk (-1 : Int) r4)]))))) .fail)))) (Q6 r2 (zi 6) fun r5 => (.as (r5 == 1) (Vp fun r6 => (.yes (decide ((zi 6) ≠ 0)) (Q6 (w64 (Int.tdiv r2 (zi 6))) (zi 4) fun r7 => (.as (decide (0 ≤ r7)) (.row ((Qh r6)[(Int.toNat r7)]?) (r6[(Int.toNat r7)]?) Q8 fun (e8 : ByteArray) => (.rows [[xi (-1 : Int), xi (zi 2), xi i0, xs e8, .sl (QX ([] : List Qa))]] (Qj [(Qd.mk (-1 : Int) (Qa.mk (zi 2) i0 e8 ([] : List Qa)))]) (.yes (decide ((Qj [(Qd.mk (-1 : Int) (Qa.mk (zi 2) i0 e8 ([] : List Qa)))]).all (fun r => r.length == 5) = true)) (.ask (decide (((Qj a.h2.Args).length + (Qj [(Qd.mk (-1 : Int) (Qa.mk (zi 2) i0 e8 ([] : List Qa)))]).length) * 64 ≤ most)) (decide ((a.h2.Args.length + [(Qd.mk (-1 : Int) (Qa.mk (zi 2) i0 e8 ([] : List Qa)))].length) * 64 ≤ most)) (.rows ((Qj a.h2.Args) ++ (Qj [(Qd.mk (-1 : Int) (Qa.mk (zi 2) i0 e8 ([] : List Qa)))])) (Qj (a.h2.Args ++ [(Qd.mk (-1 : Int) (Qa.mk (zi 2) i0 e8 ([] : List Qa)))])) (lf WK (QY.mk (w64 (a.x6 + 1)) a.h0 a.h1 (Qf.mk a.h2.Line a.h2.Label a.h2.Kind a.h2.Op a.h2.Text (a.h2.Args ++ [(Qd.mk (-1 : Int) (Qa.mk (zi 2) i0 e8 ([] : List Qa)))]))))) .fail)))) .fail)))) (Q6 r2 (zi 256) fun r9 => (.rows [[xi (-1 : Int), xi (zi 1), xi r9, xs s_, .sl (QX ([] : List Qa))]] (Qj [(Qd.mk (-1 : Int) (Qa.mk (zi 1) r9 s_ ([] : List Qa)))]) (.yes (decide ((Qj [(Qd.mk (-1 : Int) (Qa.mk (zi 1) r9 s_ ([] : List Qa)))]).all (fun r => r.length == 5) = true)) (.ask (decide (((Qj a.h2.Args).length + (Qj [(Qd.mk (-1 : Int) (Qa.mk (zi 1) r9 s_ ([] : List Qa)))]).length) * 64 ≤ most)) (decide ((a.h2.Args.length + [(Qd.mk (-1 : Int) (Qa.mk (zi 1) r9 s_ ([] : List Qa)))].length) * 64 ≤ most)) (.rows ((Qj a.h2.Args) ++ (Qj [(Qd.mk (-1 : Int) (Qa.mk (zi 1) r9 s_ ([] : List Qa)))])) (Qj (a.h2.Args ++ [(Qd.mk (-1 : Int) (Qa.mk (zi 1) r9 s_ ([] : List Qa)))])) (lf WK (QY.mk (w64 (a.x6 + 1)) a.h0 a.h1 (Qf.mk a.h2.Line a.h2.Label a.h2.Kind a.h2.Op a.h2.Text (a.h2.Args ++ [(Qd.mk (-1 : Int) (Qa.mk (zi 1) r9 s_ ([] : List Qa)))]))))) .fail)))))))))) (noN 4 u124 (.no false (Q6 r2 (zi 6) fun r10 => (.as (r10 == 1) (Vp fun r11 => (.yes (decide ((zi 6) ≠ 0)) (Q6 (w64 (Int.tdiv r2 (zi 6))) (zi 4) fun r12 => (.as (decide (0 ≤ r12)) (.row ((Qh r11)[(Int.toNat r12)]?) (r11[(Int.toNat r12)]?) Q8 fun (e13 : ByteArray) => (.rows [[xi (-1 : Int), xi (zi 2), xi i0, xs e13, .sl (QX ([] : List Qa))]] (Qj [(Qd.mk (-1 : Int) (Qa.mk (zi 2) i0 e13 ([] : List Qa)))]) (.yes (decide ((Qj [(Qd.mk (-1 : Int) (Qa.mk (zi 2) i0 e13 ([] : List Qa)))]).all (fun r => r.length == 5) = true)) (.ask (decide (((Qj a.h2.Args).length + (Qj [(Qd.mk (-1 : Int) (Qa.mk (zi 2) i0 e13 ([] : List Qa)))]).length) * 64 ≤ most)) (decide ((a.h2.Args.length + [(Qd.mk (-1 : Int) (Qa.mk (zi 2) i0 e13 ([] : List Qa)))].length) * 64 ≤ most)) (.rows ((Qj a.h2.Args) ++ (Qj [(Qd.mk (-1 : Int) (Qa.mk (zi 2) i0 e13 ([] : List Qa)))])) (Qj (a.h2.Args ++ [(Qd.mk (-1 : Int) (Qa.mk (zi 2) i0 e13 ([] : List Qa)))])) (lf WK (QY.mk (w64 (a.x6 + 1)) a.h0 a.h1 (Qf.mk a.h2.Line a.h2.Label a.h2.Kind a.h2.Op a.h2.Text (a.h2.Args ++ [(Qd.mk (-1 : Int) (Qa.mk (zi 2) i0 e13 ([] : List Qa)))]))))) .fail)))) .fail)))) (Q6 r2 (zi 256) fun r14 => (.rows [[xi (-1 : Int), xi (zi 1), xi r14, xs s_, .sl (QX ([] : List Qa))]] (Qj [(Qd.mk (-1 : Int) (Qa.mk (zi 1) r14 s_ ([] : List Qa)))]) (.yes (decide ((Qj [(Qd.mk (-1 : Int) (Qa.mk (zi 1) r14 s_ ([] : List Qa)))]).all (fun r => r.length == 5) = true)) (.ask (decide (((Qj a.h2.Args).length + (Qj [(Qd.mk (-1 : Int) (Qa.mk (zi 1) r14 s_ ([] : List Qa)))]).length) * 64 ≤ most)) (decide ((a.h2.Args.length + [(Qd.mk (-1 : Int) (Qa.mk (zi 1) r14 s_ ([] : List Qa)))].length) * 64 ≤ most)) (.rows ((Qj a.h2.Args) ++ (Qj [(Qd.mk (-1 : Int) (Qa.mk (zi 1) r14 s_ ([] : List Qa)))])) (Qj (a.h2.Args ++ [(Qd.mk (-1 : Int) (Qa.mk (zi 1) r14 s_ ([] : List Qa)))])) (lf WK (QY.mk (w64 (a.x6 + 1)) a.h0 a.h1 (Qf.mk a.h2.Line a.h2.Label a.h2.Kind a.h2.Op a.h2.Text (a.h2.Args ++ [(Qd.mk (-1 : Int) (Qa.mk (zi 1) r14 s_ ([] : List Qa)))]))))) .fail))))))))))) (rx GP (UB.mk a.h1 a.h2))))
theorem Vd.ok {a : QY} {r : UB} (h : Vd a = some r) : lw 0 65 (loopAt pp 65 3) (WK a) = some (GP r) := by
 refine lpP h QfW fun a => ?_
 exact fun r1 h => ⟨QF.ok h, ⟨rfl, fun q0 => fun r2 h => ⟨U1.ok h, fun r3 h => ⟨QF.ok h, ⟨rfl, fun q1 => Qk 2 (q1) (⟨(Z6 _), Qk 2 (q1) (⟨rfl, fun q2 => fun r4 h => ⟨Xo.ok h, ⟨(JS [(Qd.mk (-1 : Int) r4)]), ⟨(decide_eq_true (Wy _)), ⟨(by rw [JN, JN]), fun q3 => ⟨(VA _ _), rfl⟩, fun q3 => trivial⟩⟩⟩⟩, fun q2 => fun r5 h => ⟨QF.ok h, ⟨rfl, fun q3 => fun r6 h => ⟨Jx.ok h, ⟨rfl, fun r7 h => ⟨QF.ok h, ⟨rfl, fun q4 => fun e8 h => ⟨Q3 h, ⟨(JS [(Qd.mk (-1 : Int) (Qa.mk (2 : Int) (0 : Int) e8 ([] : List Qa)))]), ⟨(decide_eq_true (Wy _)), ⟨(by rw [JN, JN]), fun q5 => ⟨(VA _ _), rfl⟩, fun q5 => trivial⟩⟩⟩⟩, fun q4 => trivial⟩⟩⟩⟩, fun q3 => fun r9 h => ⟨QF.ok h, ⟨(JS [(Qd.mk (-1 : Int) (Qa.mk (1 : Int) r9 s_ ([] : List Qa)))]), ⟨(decide_eq_true (Wy _)), ⟨(by rw [JN, JN]), fun q4 => ⟨(VA _ _), rfl⟩, fun q4 => trivial⟩⟩⟩⟩⟩⟩⟩)⟩), fun q1 => noN_ok 4 (q1) (⟨rfl, fun r10 h => ⟨QF.ok h, ⟨rfl, fun q2 => fun r11 h => ⟨Jx.ok h, ⟨rfl, fun r12 h => ⟨QF.ok h, ⟨rfl, fun q3 => fun e13 h => ⟨Q3 h, ⟨(JS [(Qd.mk (-1 : Int) (Qa.mk (2 : Int) (0 : Int) e13 ([] : List Qa)))]), ⟨(decide_eq_true (Wy _)), ⟨(by rw [JN, JN]), fun q4 => ⟨(VA _ _), rfl⟩, fun q4 => trivial⟩⟩⟩⟩, fun q3 => trivial⟩⟩⟩⟩, fun q2 => fun r14 h => ⟨QF.ok h, ⟨(JS [(Qd.mk (-1 : Int) (Qa.mk (1 : Int) r14 s_ ([] : List Qa)))]), ⟨(decide_eq_true (Wy _)), ⟨(by rw [JN, JN]), fun q3 => ⟨(VA _ _), rfl⟩, fun q3 => trivial⟩⟩⟩⟩⟩⟩⟩)⟩⟩⟩, fun q0 => rfl⟩⟩
def F3 (L0 : QaM) (a0 : Qy) (a1 : Int) : Option Qf := ((L0 (QY.mk (0 : Int) a0 (Qf.mk (0 : Int) s_ (0 : Int) (0 : Int) s_ ([] : List Qd)) (Qf.mk (1 : Int) s_ a1 (0 : Int) s_ ([] : List Qd)))).bind (fun (o1 : UB) => (some o1.h1)))
noncomputable def WX : QdE := F3 Vd
theorem WX.eq (a0 : Qy) (a1 : Int) : WX a0 a1 = F3 Vd a0 a1 := rfl
noncomputable def QiH (a0 : Qy) (a1 : Int) : Tr Qf AH := (QfV (QY.mk i0 a0 (Qf.mk i0 s_ i0 i0 s_ ([] : List Qd)) (Qf.mk (zi 1) s_ a1 i0 s_ ([] : List Qd))) (fun o1 => (rt Jn o1.h1)))
theorem WX.ok {a0 : Qy} {a1 : Int} {r : Qf} (h : WX a0 a1 = some r) : ww 65 [.agg (Vs a0), xi a1] [] = some (Jn r) := by
 refine fnP (QiH a0 a1) ?_ h
 exact fun o1 h => ⟨Vd.ok h, rfl⟩
noncomputable abbrev QiI {ρ R : Type} (a0 : Qy) (a1 : Int) (k : Qf → Tr ρ R) : Tr ρ R := .call (ww 65 [.agg (Vs a0), xi a1] []) (WX a0 a1) Jn k
abbrev Qe9 := Qy → Option Qf
structure Uq where
 x5 : (List ByteArray)
 x6 : Int
 h0 : Qy
 h1 : Qf
 h2 : Qf
structure Vq where
 h0 : Qy
 h1 : Qf
 h2 : Qf
def En (a : Uq) : St := { n := 156, nx := 5, env := [(1, .ptr 0 0), (2, .ptr 1 0), (3, .ptr 2 0), (5, .sl (Qh a.x5)), (6, xi a.x6)], heap := [(0, .box [] (Vs a.h0)), (1, .box [0, 0, 0, 0, 0, 5] [xi a.h1.Line, xs a.h1.Label, xi a.h1.Kind, xi a.h1.Op, xs a.h1.Text, .arr 3]), (2, .box [0, 0, 0, 0, 0, 5] [xi a.h2.Line, xs a.h2.Label, xi a.h2.Kind, xi a.h2.Op, xs a.h2.Text, .arr 4]), (3, .arr true 5 (Qj a.h1.Args)), (4, .arr true 5 (Qj a.h2.Args))] }
def Eo (a : Vq) : Ex × St := (.exit 1, { n := 156, nx := 5, env := [(1, .ptr 0 0), (2, .ptr 1 0), (3, .ptr 2 0)], heap := [(0, .box [] (Vs a.h0)), (1, .box [0, 0, 0, 0, 0, 5] [xi a.h1.Line, xs a.h1.Label, xi a.h1.Kind, xi a.h1.Op, xs a.h1.Text, .arr 3]), (2, .box [0, 0, 0, 0, 0, 5] [xi a.h2.Line, xs a.h2.Label, xi a.h2.Kind, xi a.h2.Op, xs a.h2.Text, .arr 4]), (3, .arr true 5 (Qj a.h1.Args)), (4, .arr true 5 (Qj a.h2.Args))] })
abbrev Qbl := Uq → Option Vq
def Yp (C0 : F1) (C1 : QdD) (a : Uq) : Option (Uq ⊕ Vq) := (bif (decide (a.x6 < (((a.x5.length) : Nat) : Int))) then (bif (decide (0 ≤ a.x6)) then ((a.x5[(Int.toNat a.x6)]?).bind fun e1 => ((C0 a.h0 a.x6).bind fun r2 => ((C1 a.h0 e1 r2).bind fun r3 => (bif (decide ((a.h2.Args.length + [r3].length) * 64 ≤ most)) then (some (.inl (Uq.mk a.x5 (w64 (a.x6 + 1)) a.h0 a.h1 (Qf.mk a.h2.Line a.h2.Label a.h2.Kind a.h2.Op a.h2.Text (a.h2.Args ++ [r3]))))) else none)))) else none) else (some (.inr (Vq.mk a.h0 a.h1 a.h2))))
noncomputable def Vu : Qbl := loopW (Yp U1 VT)
theorem Vu.eq (a : Uq) : Vu a = (Yp U1 VT a).bind (Sum.elim Vu some) := JD _ _
noncomputable abbrev QgZ {ρ R : Type} (a : Uq) (k0 : Vq → Tr ρ R) : Tr ρ R := .loop (loopAt pp 25 8) (En a) (Vu a) Eo k0
noncomputable def Qg0 (a : Uq) : Tr (Uq ⊕ Vq) XS := (.num ((Qh a.x5).length) (a.x5.length) (.as (decide (a.x6 < (((a.x5.length) : Nat) : Int))) (.as (decide (0 ≤ a.x6)) (.row ((Qh a.x5)[(Int.toNat a.x6)]?) (a.x5[(Int.toNat a.x6)]?) Q8 fun (e1 : ByteArray) => (Qbf a.h0 a.x6 fun r2 => (QiG a.h0 e1 r2 fun r3 => (.rows [[xi r3.Reg, xi r3.E.Kind, xi r3.E.N, xs r3.E.Name, .sl (QX r3.E.L)]] (Qj [r3]) (.yes (decide ((Qj [r3]).all (fun r => r.length == 5) = true)) (.ask (decide (((Qj a.h2.Args).length + (Qj [r3]).length) * 64 ≤ most)) (decide ((a.h2.Args.length + [r3].length) * 64 ≤ most)) (.rows ((Qj a.h2.Args) ++ (Qj [r3])) (Qj (a.h2.Args ++ [r3])) (lf En (Uq.mk a.x5 (w64 (a.x6 + 1)) a.h0 a.h1 (Qf.mk a.h2.Line a.h2.Label a.h2.Kind a.h2.Op a.h2.Text (a.h2.Args ++ [r3]))))) .fail)))))) .fail) (rx Eo (Vq.mk a.h0 a.h1 a.h2))))
theorem Vu.ok {a : Uq} {r : Vq} (h : Vu a = some r) : lw 0 25 (loopAt pp 25 8) (En a) = some (Eo r) := by
 refine lpP h Qg0 fun a => ?_
 exact ⟨(QD _), ⟨rfl, fun q0 => ⟨rfl, fun q1 => fun e1 h => ⟨Q3 h, fun r2 h => ⟨U1.ok h, fun r3 h => ⟨VT.ok h, ⟨(JS [r3]), ⟨(decide_eq_true (Wy _)), ⟨(by rw [JN, JN]), fun q2 => ⟨(VA _ _), rfl⟩, fun q2 => trivial⟩⟩⟩⟩⟩⟩, fun q1 => trivial⟩, fun q0 => rfl⟩⟩
def Se (C0 : E1) (C1 : Qjl) (C2 : Qjm) (C3 : SD) (C4 : QdE) (C5 : Qfw) (L6 : Qbl) (a0 : Qy) : Option Qf := ((C0 a0.K (16 : Int)).bind fun r1 => (bif (decide (r1 < 6)) then ((C0 a0.A (66 : Int)).bind fun r2 => ((C1 r2).bind fun r3 => ((C2 r3).bind fun r4 => ((L6 (Uq.mk r4 (0 : Int) a0 (Qf.mk (0 : Int) s_ (0 : Int) (0 : Int) s_ ([] : List Qd)) (Qf.mk (1 : Int) s_ (1 : Int) r2 s_ ([] : List Qd)))).bind (fun (o5 : Vq) => (bif o5.h0.Label then ((C3).bind fun r6 => ((C0 o5.h0.B (4 : Int)).bind fun r7 => (bif (decide (0 ≤ r7)) then ((r6[(Int.toNat r7)]?).bind fun e8 => (some (Qf.mk o5.h2.Line e8 o5.h2.Kind o5.h2.Op o5.h2.Text o5.h2.Args))) else none))) else (bif (o5.h2.Kind == 0) then ((C3).bind fun r9 => ((C0 o5.h0.B (4 : Int)).bind fun r10 => (bif (decide (0 ≤ r10)) then ((r9[(Int.toNat r10)]?).bind fun e11 => (some (Qf.mk o5.h2.Line e11 o5.h2.Kind o5.h2.Op o5.h2.Text o5.h2.Args))) else none))) else (some o5.h2)))))))) else (bif (decide (r1 < 9)) then ((C0 a0.A (3 : Int)).bind fun r12 => (bif (r12 == 2) then ((C0 a0.B (2 : Int)).bind fun r13 => ((C0 (w64 (Int.tdiv a0.B (2 : Int))) (4 : Int)).bind fun r14 => ((C3).bind fun r15 => ((C0 a0.B (4 : Int)).bind fun r16 => (bif (decide (0 ≤ r16)) then ((r15[(Int.toNat r16)]?).bind fun e17 => (bif (decide (([(Qd.mk (-1 : Int) (Qa.mk (1 : Int) r13 s_ ([] : List Qa))), (Qd.mk (-1 : Int) (Qa.mk (1 : Int) r14 s_ ([] : List Qa)))].length + [(Qd.mk (-1 : Int) (Qa.mk (2 : Int) (0 : Int) e17 ([] : List Qa)))].length) * 64 ≤ most)) then (bif a0.Label then ((C3).bind fun r18 => ((C0 a0.B (4 : Int)).bind fun r19 => (bif (decide (0 ≤ r19)) then ((r18[(Int.toNat r19)]?).bind fun e20 => (some (Qf.mk (1 : Int) e20 (2 : Int) r12 s_ ([(Qd.mk (-1 : Int) (Qa.mk (1 : Int) r13 s_ ([] : List Qa))), (Qd.mk (-1 : Int) (Qa.mk (1 : Int) r14 s_ ([] : List Qa)))] ++ [(Qd.mk (-1 : Int) (Qa.mk (2 : Int) (0 : Int) e17 ([] : List Qa)))])))) else none))) else (some (Qf.mk (1 : Int) s_ (2 : Int) r12 s_ ([(Qd.mk (-1 : Int) (Qa.mk (1 : Int) r13 s_ ([] : List Qa))), (Qd.mk (-1 : Int) (Qa.mk (1 : Int) r14 s_ ([] : List Qa)))] ++ [(Qd.mk (-1 : Int) (Qa.mk (2 : Int) (0 : Int) e17 ([] : List Qa)))])))) else none)) else none))))) else ((C3).bind fun r21 => ((C0 a0.B (4 : Int)).bind fun r22 => (bif (decide (0 ≤ r22)) then ((r21[(Int.toNat r22)]?).bind fun e23 => (bif (decide ((([] : List Qd).length + [(Qd.mk (-1 : Int) (Qa.mk (2 : Int) (0 : Int) e23 ([] : List Qa)))].length) * 64 ≤ most)) then (bif a0.Label then ((C3).bind fun r24 => ((C0 a0.B (4 : Int)).bind fun r25 => (bif (decide (0 ≤ r25)) then ((r24[(Int.toNat r25)]?).bind fun e26 => (some (Qf.mk (1 : Int) e26 (2 : Int) r12 s_ (([] : List Qd) ++ [(Qd.mk (-1 : Int) (Qa.mk (2 : Int) (0 : Int) e23 ([] : List Qa)))])))) else none))) else (some (Qf.mk (1 : Int) s_ (2 : Int) r12 s_ (([] : List Qd) ++ [(Qd.mk (-1 : Int) (Qa.mk (2 : Int) (0 : Int) e23 ([] : List Qa)))])))) else none)) else none))))) else (bif (decide (r1 < 12)) then ((C4 a0 (w64 ((w64 ((3 : Int) + r1)) - 9))).bind fun r27 => (bif a0.Label then ((C3).bind fun r28 => ((C0 a0.B (4 : Int)).bind fun r29 => (bif (decide (0 ≤ r29)) then ((r28[(Int.toNat r29)]?).bind fun e30 => (some (Qf.mk r27.Line e30 r27.Kind r27.Op r27.Text r27.Args))) else none))) else (bif (r27.Kind == 0) then ((C3).bind fun r31 => ((C0 a0.B (4 : Int)).bind fun r32 => (bif (decide (0 ≤ r32)) then ((r31[(Int.toNat r32)]?).bind fun e33 => (some (Qf.mk r27.Line e33 r27.Kind r27.Op r27.Text r27.Args))) else none))) else (some r27)))) else (bif (r1 == 12) then ((C0 a0.A (5 : Int)).bind fun r34 => (bif (decide (0 ≤ r34 ∧ r34 < (([s_, s_hi, UT, Wu, EZ].length : Nat) : Int))) then (([s_, s_hi, UT, Wu, EZ][(Int.toNat r34)]?).bind fun e35 => (bif a0.Label then ((C3).bind fun r36 => ((C0 a0.B (4 : Int)).bind fun r37 => (bif (decide (0 ≤ r37)) then ((r36[(Int.toNat r37)]?).bind fun e38 => (some (Qf.mk (1 : Int) e38 (6 : Int) (0 : Int) e35 ([] : List Qd)))) else none))) else (some (Qf.mk (1 : Int) s_ (6 : Int) (0 : Int) e35 ([] : List Qd))))) else none)) else (bif (r1 == 13) then ((C0 a0.A (6 : Int)).bind fun r39 => (bif (decide (0 ≤ r39 ∧ r39 < (([(1 : Int), (2 : Int), (4 : Int), (8 : Int), (16 : Int), (3 : Int)].length : Nat) : Int))) then (([(1 : Int), (2 : Int), (4 : Int), (8 : Int), (16 : Int), (3 : Int)][(Int.toNat r39)]?).bind fun e40 => (bif a0.Label then ((C3).bind fun r41 => ((C0 a0.B (4 : Int)).bind fun r42 => (bif (decide (0 ≤ r42)) then ((r41[(Int.toNat r42)]?).bind fun e43 => (some (Qf.mk (1 : Int) e43 (7 : Int) (0 : Int) s_ [(Qd.mk (-1 : Int) (Qa.mk (1 : Int) e40 s_ ([] : List Qa)))]))) else none))) else (some (Qf.mk (1 : Int) s_ (7 : Int) (0 : Int) s_ [(Qd.mk (-1 : Int) (Qa.mk (1 : Int) e40 s_ ([] : List Qa)))])))) else none)) else (bif (r1 == 14) then ((C0 a0.A (8 : Int)).bind fun r44 => (bif (decide (0 ≤ r44 ∧ r44 < (([(0 : Int), (2 : Int), (100 : Int), (250 : Int), (252 : Int), (254 : Int), (256 : Int), (7 : Int)].length : Nat) : Int))) then (([(0 : Int), (2 : Int), (100 : Int), (250 : Int), (252 : Int), (254 : Int), (256 : Int), (7 : Int)][(Int.toNat r44)]?).bind fun e45 => (bif a0.Label then ((C3).bind fun r46 => ((C0 a0.B (4 : Int)).bind fun r47 => (bif (decide (0 ≤ r47)) then ((r46[(Int.toNat r47)]?).bind fun e48 => (some (Qf.mk (1 : Int) e48 (8 : Int) (0 : Int) s_ [(Qd.mk (-1 : Int) (Qa.mk (1 : Int) e45 s_ ([] : List Qa)))]))) else none))) else (some (Qf.mk (1 : Int) s_ (8 : Int) (0 : Int) s_ [(Qd.mk (-1 : Int) (Qa.mk (1 : Int) e45 s_ ([] : List Qa)))])))) else none)) else ((C0 a0.A (3 : Int)).bind fun r49 => (bif (decide (0 ≤ r49 ∧ r49 < (([s_k, Z9, s_x].length : Nat) : Int))) then (([s_k, Z9, s_x][(Int.toNat r49)]?).bind fun e50 => ((C5 a0.E).bind fun r51 => (bif a0.Label then ((C3).bind fun r52 => ((C0 a0.B (4 : Int)).bind fun r53 => (bif (decide (0 ≤ r53)) then ((r52[(Int.toNat r53)]?).bind fun e54 => (some (Qf.mk (1 : Int) e54 (9 : Int) (0 : Int) e50 [(Qd.mk (-1 : Int) r51)]))) else none))) else (some (Qf.mk (1 : Int) s_ (9 : Int) (0 : Int) e50 [(Qd.mk (-1 : Int) r51)]))))) else none)))))))))
noncomputable def Vr : Qe9 := Se QF XO Wx Jx WX Xo Vu
theorem Vr.eq (a0 : Qy) : Vr a0 = Se QF XO Wx Jx WX Xo Vu a0 := rfl
noncomputable def Qj8 (a0 : Qy) : Tr Qf AH := (Q6 a0.K (zi 16) fun r1 => (.as (decide (r1 < 6)) (Q6 a0.A (zi 66) fun r2 => (Qnz r2 fun r3 => (QnC r3 fun r4 => (QgZ (Uq.mk r4 i0 a0 (Qf.mk i0 s_ i0 i0 s_ ([] : List Qd)) (Qf.mk (zi 1) s_ (zi 1) r2 s_ ([] : List Qd))) (fun o5 => (let u125 := o5.h0.Label; .as u125 (yesN 3 u125 (.yes true (Vp fun r6 => (Q6 o5.h0.B (zi 4) fun r7 => (.as (decide (0 ≤ r7)) (.row ((Qh r6)[(Int.toNat r7)]?) (r6[(Int.toNat r7)]?) Q8 fun (e8 : ByteArray) => (rt Jn (Qf.mk o5.h2.Line e8 o5.h2.Kind o5.h2.Op o5.h2.Text o5.h2.Args))) .fail))))) (noN 3 u125 (.as (o5.h2.Kind == 0) (Vp fun r9 => (Q6 o5.h0.B (zi 4) fun r10 => (.as (decide (0 ≤ r10)) (.row ((Qh r9)[(Int.toNat r10)]?) (r9[(Int.toNat r10)]?) Q8 fun (e11 : ByteArray) => (rt Jn (Qf.mk o5.h2.Line e11 o5.h2.Kind o5.h2.Op o5.h2.Text o5.h2.Args))) .fail))) (rt Jn o5.h2))))))))) (.as (decide (r1 < 9)) (Q6 a0.A (zi 3) fun r12 => (.as (r12 == 2) (Q6 a0.B (zi 2) fun r13 => (.yes (decide ((zi 2) ≠ 0)) (Q6 (w64 (Int.tdiv a0.B (zi 2))) (zi 4) fun r14 => (.rows [[xi (-1 : Int), xi (zi 1), xi r13, xs s_, .sl (QX ([] : List Qa))], [xi (-1 : Int), xi (zi 1), xi r14, xs s_, .sl (QX ([] : List Qa))]] (Qj [(Qd.mk (-1 : Int) (Qa.mk (zi 1) r13 s_ ([] : List Qa))), (Qd.mk (-1 : Int) (Qa.mk (zi 1) r14 s_ ([] : List Qa)))]) (Vp fun r15 => (Q6 a0.B (zi 4) fun r16 => (.as (decide (0 ≤ r16)) (.row ((Qh r15)[(Int.toNat r16)]?) (r15[(Int.toNat r16)]?) Q8 fun (e17 : ByteArray) => (.rows [[xi (-1 : Int), xi (zi 2), xi i0, xs e17, .sl (QX ([] : List Qa))]] (Qj [(Qd.mk (-1 : Int) (Qa.mk (zi 2) i0 e17 ([] : List Qa)))]) (.yes (decide ((Qj [(Qd.mk (-1 : Int) (Qa.mk (zi 2) i0 e17 ([] : List Qa)))]).all (fun r => r.length == 5) = true)) (.ask (decide (((Qj [(Qd.mk (-1 : Int) (Qa.mk (zi 1) r13 s_ ([] : List Qa))), (Qd.mk (-1 : Int) (Qa.mk (zi 1) r14 s_ ([] : List Qa)))]).length + (Qj [(Qd.mk (-1 : Int) (Qa.mk (zi 2) i0 e17 ([] : List Qa)))]).length) * 64 ≤ most)) (decide (([(Qd.mk (-1 : Int) (Qa.mk (zi 1) r13 s_ ([] : List Qa))), (Qd.mk (-1 : Int) (Qa.mk (zi 1) r14 s_ ([] : List Qa)))].length + [(Qd.mk (-1 : Int) (Qa.mk (zi 2) i0 e17 ([] : List Qa)))].length) * 64 ≤ most)) (.rows ((Qj [(Qd.mk (-1 : Int) (Qa.mk (zi 1) r13 s_ ([] : List Qa))), (Qd.mk (-1 : Int) (Qa.mk (zi 1) r14 s_ ([] : List Qa)))]) ++ (Qj [(Qd.mk (-1 : Int) (Qa.mk (zi 2) i0 e17 ([] : List Qa)))])) (Qj ([(Qd.mk (-1 : Int) (Qa.mk (zi 1) r13 s_ ([] : List Qa))), (Qd.mk (-1 : Int) (Qa.mk (zi 1) r14 s_ ([] : List Qa)))] ++ [(Qd.mk (-1 : Int) (Qa.mk (zi 2) i0 e17 ([] : List Qa)))])) (.as a0.Label (yesN 3 a0.Label (.yes true (Vp fun r18 => (Q6 a0.B (zi 4) fun r19 => (.as (decide (0 ≤ r19)) (.row ((Qh r18)[(Int.toNat r19)]?) (r18[(Int.toNat r19)]?) Q8 fun (e20 : ByteArray) => (rt Jn (Qf.mk (zi 1) e20 (zi 2) r12 s_ ([(Qd.mk (-1 : Int) (Qa.mk (zi 1) r13 s_ ([] : List Qa))), (Qd.mk (-1 : Int) (Qa.mk (zi 1) r14 s_ ([] : List Qa)))] ++ [(Qd.mk (-1 : Int) (Qa.mk (zi 2) i0 e17 ([] : List Qa)))])))) .fail))))) (noN 3 a0.Label (.no false (rt Jn (Qf.mk (zi 1) s_ (zi 2) r12 s_ ([(Qd.mk (-1 : Int) (Qa.mk (zi 1) r13 s_ ([] : List Qa))), (Qd.mk (-1 : Int) (Qa.mk (zi 1) r14 s_ ([] : List Qa)))] ++ [(Qd.mk (-1 : Int) (Qa.mk (zi 2) i0 e17 ([] : List Qa)))]))))))) .fail)))) .fail))))))) (Vp fun r21 => (Q6 a0.B (zi 4) fun r22 => (.as (decide (0 ≤ r22)) (.row ((Qh r21)[(Int.toNat r22)]?) (r21[(Int.toNat r22)]?) Q8 fun (e23 : ByteArray) => (.rows [[xi (-1 : Int), xi (zi 2), xi i0, xs e23, .sl (QX ([] : List Qa))]] (Qj [(Qd.mk (-1 : Int) (Qa.mk (zi 2) i0 e23 ([] : List Qa)))]) (.yes (decide ((Qj [(Qd.mk (-1 : Int) (Qa.mk (zi 2) i0 e23 ([] : List Qa)))]).all (fun r => r.length == 5) = true)) (.ask (decide (((Qj ([] : List Qd)).length + (Qj [(Qd.mk (-1 : Int) (Qa.mk (zi 2) i0 e23 ([] : List Qa)))]).length) * 64 ≤ most)) (decide ((([] : List Qd).length + [(Qd.mk (-1 : Int) (Qa.mk (zi 2) i0 e23 ([] : List Qa)))].length) * 64 ≤ most)) (.rows ((Qj ([] : List Qd)) ++ (Qj [(Qd.mk (-1 : Int) (Qa.mk (zi 2) i0 e23 ([] : List Qa)))])) (Qj (([] : List Qd) ++ [(Qd.mk (-1 : Int) (Qa.mk (zi 2) i0 e23 ([] : List Qa)))])) (.as a0.Label (yesN 3 a0.Label (.yes true (Vp fun r24 => (Q6 a0.B (zi 4) fun r25 => (.as (decide (0 ≤ r25)) (.row ((Qh r24)[(Int.toNat r25)]?) (r24[(Int.toNat r25)]?) Q8 fun (e26 : ByteArray) => (rt Jn (Qf.mk (zi 1) e26 (zi 2) r12 s_ (([] : List Qd) ++ [(Qd.mk (-1 : Int) (Qa.mk (zi 2) i0 e23 ([] : List Qa)))])))) .fail))))) (noN 3 a0.Label (.no false (rt Jn (Qf.mk (zi 1) s_ (zi 2) r12 s_ (([] : List Qd) ++ [(Qd.mk (-1 : Int) (Qa.mk (zi 2) i0 e23 ([] : List Qa)))]))))))) .fail)))) .fail))))) (.as (decide (r1 < 12)) (QiI a0 (w64 ((w64 ((zi 3) + r1)) - 9)) fun r27 => (.as a0.Label (yesN 3 a0.Label (.yes true (Vp fun r28 => (Q6 a0.B (zi 4) fun r29 => (.as (decide (0 ≤ r29)) (.row ((Qh r28)[(Int.toNat r29)]?) (r28[(Int.toNat r29)]?) Q8 fun (e30 : ByteArray) => (rt Jn (Qf.mk r27.Line e30 r27.Kind r27.Op r27.Text r27.Args))) .fail))))) (noN 3 a0.Label (.as (r27.Kind == 0) (Vp fun r31 => (Q6 a0.B (zi 4) fun r32 => (.as (decide (0 ≤ r32)) (.row ((Qh r31)[(Int.toNat r32)]?) (r31[(Int.toNat r32)]?) Q8 fun (e33 : ByteArray) => (rt Jn (Qf.mk r27.Line e33 r27.Kind r27.Op r27.Text r27.Args))) .fail))) (rt Jn r27))))) (.as (r1 == 12) (.rows [[xs s_], [xs s_hi], [xs UT], [xs Wu], [xs EZ]] (Qh [s_, s_hi, UT, Wu, EZ]) (Q6 a0.A (zi 5) fun r34 => (.ask (in1 r34 (((Qh [s_, s_hi, UT, Wu, EZ]).length : Nat) : Int)) (in1 r34 (([s_, s_hi, UT, Wu, EZ].length : Nat) : Int)) (.row ((Qh [s_, s_hi, UT, Wu, EZ])[(Int.toNat r34)]?) ([s_, s_hi, UT, Wu, EZ][(Int.toNat r34)]?) Q8 fun (e35 : ByteArray) => (.as a0.Label (yesN 3 a0.Label (.yes true (Vp fun r36 => (Q6 a0.B (zi 4) fun r37 => (.as (decide (0 ≤ r37)) (.row ((Qh r36)[(Int.toNat r37)]?) (r36[(Int.toNat r37)]?) Q8 fun (e38 : ByteArray) => (rt Jn (Qf.mk (zi 1) e38 (zi 6) i0 e35 ([] : List Qd)))) .fail))))) (noN 3 a0.Label (.no false (rt Jn (Qf.mk (zi 1) s_ (zi 6) i0 e35 ([] : List Qd))))))) .fail))) (.as (r1 == 13) (.rows [[xi (zi 1)], [xi (zi 2)], [xi (zi 4)], [xi (zi 8)], [xi (zi 16)], [xi (zi 3)]] (Qm [(zi 1), (zi 2), (zi 4), (zi 8), (zi 16), (zi 3)]) (Q6 a0.A (zi 6) fun r39 => (.ask (in1 r39 (((Qm [(zi 1), (zi 2), (zi 4), (zi 8), (zi 16), (zi 3)]).length : Nat) : Int)) (in1 r39 (([(zi 1), (zi 2), (zi 4), (zi 8), (zi 16), (zi 3)].length : Nat) : Int)) (.row ((Qm [(zi 1), (zi 2), (zi 4), (zi 8), (zi 16), (zi 3)])[(Int.toNat r39)]?) ([(zi 1), (zi 2), (zi 4), (zi 8), (zi 16), (zi 3)][(Int.toNat r39)]?) VU fun (e40 : Int) => (.rows [[xi (-1 : Int), xi (zi 1), xi e40, xs s_, .sl (QX ([] : List Qa))]] (Qj [(Qd.mk (-1 : Int) (Qa.mk (zi 1) e40 s_ ([] : List Qa)))]) (.as a0.Label (yesN 3 a0.Label (.yes true (Vp fun r41 => (Q6 a0.B (zi 4) fun r42 => (.as (decide (0 ≤ r42)) (.row ((Qh r41)[(Int.toNat r42)]?) (r41[(Int.toNat r42)]?) Q8 fun (e43 : ByteArray) => (rt Jn (Qf.mk (zi 1) e43 (zi 7) i0 s_ [(Qd.mk (-1 : Int) (Qa.mk (zi 1) e40 s_ ([] : List Qa)))]))) .fail))))) (noN 3 a0.Label (.no false (rt Jn (Qf.mk (zi 1) s_ (zi 7) i0 s_ [(Qd.mk (-1 : Int) (Qa.mk (zi 1) e40 s_ ([] : List Qa)))]))))))) .fail))) (.as (r1 == 14) (.rows [[xi i0], [xi (zi 2)], [xi (zi 100)], [xi (zi 250)], [xi (zi 252)], [xi (zi 254)], [xi (zi 256)], [xi (zi 7)]] (Qm [i0, (zi 2), (zi 100), (zi 250), (zi 252), (zi 254), (zi 256), (zi 7)]) (Q6 a0.A (zi 8) fun r44 => (.ask (in1 r44 (((Qm [i0, (zi 2), (zi 100), (zi 250), (zi 252), (zi 254), (zi 256), (zi 7)]).length : Nat) : Int)) (in1 r44 (([i0, (zi 2), (zi 100), (zi 250), (zi 252), (zi 254), (zi 256), (zi 7)].length : Nat) : Int)) (.row ((Qm [i0, (zi 2), (zi 100), (zi 250), (zi 252), (zi 254), (zi 256), (zi 7)])[(Int.toNat r44)]?) ([i0, (zi 2), (zi 100), (zi 250), (zi 252), (zi 254), (zi 256), (zi 7)][(Int.toNat r44)]?) VU fun (e45 : Int) => (.rows [[xi (-1 : Int), xi (zi 1), xi e45, xs s_, .sl (QX ([] : List Qa))]] (Qj [(Qd.mk (-1 : Int) (Qa.mk (zi 1) e45 s_ ([] : List Qa)))]) (.as a0.Label (yesN 3 a0.Label (.yes true (Vp fun r46 => (Q6 a0.B (zi 4) fun r47 => (.as (decide (0 ≤ r47)) (.row ((Qh r46)[(Int.toNat r47)]?) (r46[(Int.toNat r47)]?) Q8 fun (e48 : ByteArray) => (rt Jn (Qf.mk (zi 1) e48 (zi 8) i0 s_ [(Qd.mk (-1 : Int) (Qa.mk (zi 1) e45 s_ ([] : List Qa)))]))) .fail))))) (noN 3 a0.Label (.no false (rt Jn (Qf.mk (zi 1) s_ (zi 8) i0 s_ [(Qd.mk (-1 : Int) (Qa.mk (zi 1) e45 s_ ([] : List Qa)))]))))))) .fail))) (.rows [[xs s_k], [xs Z9], [xs s_x]] (Qh [s_k, Z9, s_x]) (Q6 a0.A (zi 3) fun r49 => (.ask (in1 r49 (((Qh [s_k, Z9, s_x]).length : Nat) : Int)) (in1 r49 (([s_k, Z9, s_x].length : Nat) : Int)) (.row ((Qh [s_k, Z9, s_x])[(Int.toNat r49)]?) ([s_k, Z9, s_x][(Int.toNat r49)]?) Q8 fun (e50 : ByteArray) => (QgT a0.E fun r51 => (.rows [[xi (-1 : Int), xi r51.Kind, xi r51.N, xs r51.Name, .sl (QX r51.L)]] (Qj [(Qd.mk (-1 : Int) r51)]) (.as a0.Label (yesN 3 a0.Label (.yes true (Vp fun r52 => (Q6 a0.B (zi 4) fun r53 => (.as (decide (0 ≤ r53)) (.row ((Qh r52)[(Int.toNat r53)]?) (r52[(Int.toNat r53)]?) Q8 fun (e54 : ByteArray) => (rt Jn (Qf.mk (zi 1) e54 (zi 9) i0 e50 [(Qd.mk (-1 : Int) r51)]))) .fail))))) (noN 3 a0.Label (.no false (rt Jn (Qf.mk (zi 1) s_ (zi 9) i0 e50 [(Qd.mk (-1 : Int) r51)])))))))) .fail))))))))))
theorem Vr.ok {a0 : Qy} {r : Qf} (h : Vr a0 = some r) : ww 25 [.agg (Vs a0)] [] = some (Jn r) := by
 refine fnP (Qj8 a0) ?_ h
 exact fun r1 h => ⟨QF.ok h, ⟨rfl, fun q0 => fun r2 h => ⟨QF.ok h, fun r3 h => ⟨XO.ok h, fun r4 h => ⟨Wx.ok h, fun o5 h => ⟨Vu.ok h, ⟨rfl, fun q1 => Qk 3 (q1) (⟨rfl, fun r6 h => ⟨Jx.ok h, fun r7 h => ⟨QF.ok h, ⟨rfl, fun q2 => fun e8 h => ⟨Q3 h, rfl⟩, fun q2 => trivial⟩⟩⟩⟩), fun q1 => noN_ok 3 (q1) (⟨rfl, fun q2 => fun r9 h => ⟨Jx.ok h, fun r10 h => ⟨QF.ok h, ⟨rfl, fun q3 => fun e11 h => ⟨Q3 h, rfl⟩, fun q3 => trivial⟩⟩⟩, fun q2 => rfl⟩)⟩⟩⟩⟩⟩, fun q0 => ⟨rfl, fun q1 => fun r12 h => ⟨QF.ok h, ⟨rfl, fun q2 => fun r13 h => ⟨QF.ok h, ⟨rfl, fun r14 h => ⟨QF.ok h, ⟨(JS [(Qd.mk (-1 : Int) (Qa.mk (1 : Int) r13 s_ ([] : List Qa))), (Qd.mk (-1 : Int) (Qa.mk (1 : Int) r14 s_ ([] : List Qa)))]), fun r15 h => ⟨Jx.ok h, fun r16 h => ⟨QF.ok h, ⟨rfl, fun q3 => fun e17 h => ⟨Q3 h, ⟨(JS [(Qd.mk (-1 : Int) (Qa.mk (2 : Int) (0 : Int) e17 ([] : List Qa)))]), ⟨(decide_eq_true (Wy _)), ⟨(by rw [JN, JN]), fun q4 => ⟨(VA _ _), ⟨rfl, fun q5 => Qk 3 (q5) (⟨rfl, fun r18 h => ⟨Jx.ok h, fun r19 h => ⟨QF.ok h, ⟨rfl, fun q6 => fun e20 h => ⟨Q3 h, rfl⟩, fun q6 => trivial⟩⟩⟩⟩), fun q5 => noN_ok 3 (q5) (⟨rfl, rfl⟩)⟩⟩, fun q4 => trivial⟩⟩⟩⟩, fun q3 => trivial⟩⟩⟩⟩⟩⟩⟩, fun q2 => fun r21 h => ⟨Jx.ok h, fun r22 h => ⟨QF.ok h, ⟨rfl, fun q3 => fun e23 h => ⟨Q3 h, ⟨(JS [(Qd.mk (-1 : Int) (Qa.mk (2 : Int) (0 : Int) e23 ([] : List Qa)))]), ⟨(decide_eq_true (Wy _)), ⟨(by rw [JN, JN]), fun q4 => ⟨(VA _ _), ⟨rfl, fun q5 => Qk 3 (q5) (⟨rfl, fun r24 h => ⟨Jx.ok h, fun r25 h => ⟨QF.ok h, ⟨rfl, fun q6 => fun e26 h => ⟨Q3 h, rfl⟩, fun q6 => trivial⟩⟩⟩⟩), fun q5 => noN_ok 3 (q5) (⟨rfl, rfl⟩)⟩⟩, fun q4 => trivial⟩⟩⟩⟩, fun q3 => trivial⟩⟩⟩⟩⟩, fun q1 => ⟨rfl, fun q2 => fun r27 h => ⟨WX.ok h, ⟨rfl, fun q3 => Qk 3 (q3) (⟨rfl, fun r28 h => ⟨Jx.ok h, fun r29 h => ⟨QF.ok h, ⟨rfl, fun q4 => fun e30 h => ⟨Q3 h, rfl⟩, fun q4 => trivial⟩⟩⟩⟩), fun q3 => noN_ok 3 (q3) (⟨rfl, fun q4 => fun r31 h => ⟨Jx.ok h, fun r32 h => ⟨QF.ok h, ⟨rfl, fun q5 => fun e33 h => ⟨Q3 h, rfl⟩, fun q5 => trivial⟩⟩⟩, fun q4 => rfl⟩)⟩⟩, fun q2 => ⟨rfl, fun q3 => ⟨(Q9 [s_, s_hi, UT, Wu, EZ]), fun r34 h => ⟨QF.ok h, ⟨(by rw [QD]), fun q4 => fun e35 h => ⟨Q3 h, ⟨rfl, fun q5 => Qk 3 (q5) (⟨rfl, fun r36 h => ⟨Jx.ok h, fun r37 h => ⟨QF.ok h, ⟨rfl, fun q6 => fun e38 h => ⟨Q3 h, rfl⟩, fun q6 => trivial⟩⟩⟩⟩), fun q5 => noN_ok 3 (q5) (⟨rfl, rfl⟩)⟩⟩, fun q4 => trivial⟩⟩⟩, fun q3 => ⟨rfl, fun q4 => ⟨(Jo [(1 : Int), (2 : Int), (4 : Int), (8 : Int), (16 : Int), (3 : Int)]), fun r39 h => ⟨QF.ok h, ⟨(by rw [Q5]), fun q5 => fun e40 h => ⟨Uz h, ⟨(JS [(Qd.mk (-1 : Int) (Qa.mk (1 : Int) e40 s_ ([] : List Qa)))]), ⟨rfl, fun q6 => Qk 3 (q6) (⟨rfl, fun r41 h => ⟨Jx.ok h, fun r42 h => ⟨QF.ok h, ⟨rfl, fun q7 => fun e43 h => ⟨Q3 h, rfl⟩, fun q7 => trivial⟩⟩⟩⟩), fun q6 => noN_ok 3 (q6) (⟨rfl, rfl⟩)⟩⟩⟩, fun q5 => trivial⟩⟩⟩, fun q4 => ⟨rfl, fun q5 => ⟨(Jo [(0 : Int), (2 : Int), (100 : Int), (250 : Int), (252 : Int), (254 : Int), (256 : Int), (7 : Int)]), fun r44 h => ⟨QF.ok h, ⟨(by rw [Q5]), fun q6 => fun e45 h => ⟨Uz h, ⟨(JS [(Qd.mk (-1 : Int) (Qa.mk (1 : Int) e45 s_ ([] : List Qa)))]), ⟨rfl, fun q7 => Qk 3 (q7) (⟨rfl, fun r46 h => ⟨Jx.ok h, fun r47 h => ⟨QF.ok h, ⟨rfl, fun q8 => fun e48 h => ⟨Q3 h, rfl⟩, fun q8 => trivial⟩⟩⟩⟩), fun q7 => noN_ok 3 (q7) (⟨rfl, rfl⟩)⟩⟩⟩, fun q6 => trivial⟩⟩⟩, fun q5 => ⟨(Q9 [s_k, Z9, s_x]), fun r49 h => ⟨QF.ok h, ⟨(by rw [QD]), fun q6 => fun e50 h => ⟨Q3 h, fun r51 h => ⟨Xo.ok h, ⟨(JS [(Qd.mk (-1 : Int) r51)]), ⟨rfl, fun q7 => Qk 3 (q7) (⟨rfl, fun r52 h => ⟨Jx.ok h, fun r53 h => ⟨QF.ok h, ⟨rfl, fun q8 => fun e54 h => ⟨Q3 h, rfl⟩, fun q8 => trivial⟩⟩⟩⟩), fun q7 => noN_ok 3 (q7) (⟨rfl, rfl⟩)⟩⟩⟩⟩, fun q6 => trivial⟩⟩⟩⟩⟩⟩⟩⟩⟩⟩
noncomputable abbrev Ed {ρ R : Type} (a0 : Qy) (k : Qf → Tr ρ R) : Tr ρ R := .call (ww 25 [.agg (Vs a0)] []) (Vr a0) Jn k
abbrev Qlc := Int → Option ByteArray
def Qfa (C0 : Qc4) (a0 : Int) : Option ByteArray := ((C0 a0 h_20).bind fun r1 => (some r1.1.Name))
noncomputable def Zt : Qlc := Qfa Xy
theorem Zt.eq (a0 : Int) : Zt a0 = Qfa Xy a0 := rfl
noncomputable def Qoo (a0 : Int) : Tr ByteArray AH := (Qjk a0 h_20 fun r1 => (rt Qi r1.1.Name))
theorem Zt.ok {a0 : Int} {r : ByteArray} (h : Zt a0 = some r) : ww 38 [xi a0] [] = some (Qi r) := by
 refine fnP (Qoo a0) ?_ h
 exact fun r1 h => ⟨Xy.ok h, rfl⟩
noncomputable abbrev Qop {ρ R : Type} (a0 : Int) (k : ByteArray → Tr ρ R) : Tr ρ R := .call (ww 38 [xi a0] []) (Zt a0) Qi k
abbrev Qld := Qf → Option ByteArray
def Qfb (C0 : Qlc) (a0 : Qf) : Option ByteArray := (bif (a0.Kind == 1) then ((C0 a0.Op).bind fun r1 => (some r1)) else (bif (a0.Kind == 2) then (bif (decide (0 ≤ a0.Op ∧ a0.Op < (([s_b, s_bl, s_bc].length : Nat) : Int))) then (([s_b, s_bl, s_bc][(Int.toNat a0.Op)]?).bind fun e2 => (some e2)) else none) else (bif (a0.Kind == 3) then (some QP) else (bif (a0.Kind == 4) then (some QQ) else (bif (a0.Kind == 5) then (some QR) else (bif (a0.Kind == 6) then (some Jm) else (bif (a0.Kind == 7) then (some QN) else (bif (a0.Kind == 8) then (some QO) else (some Uo)))))))))
noncomputable def YH : Qld := Qfb Zt
theorem YH.eq (a0 : Qf) : YH a0 = Qfb Zt a0 := rfl
noncomputable def Qoq (a0 : Qf) : Tr ByteArray AH := (.as (a0.Kind == 1) (Qop a0.Op fun r1 => (rt Qi r1)) (.as (a0.Kind == 2) (.rows [[xs s_b], [xs s_bl], [xs s_bc]] (Qh [s_b, s_bl, s_bc]) (.ask (in1 a0.Op (((Qh [s_b, s_bl, s_bc]).length : Nat) : Int)) (in1 a0.Op (([s_b, s_bl, s_bc].length : Nat) : Int)) (.row ((Qh [s_b, s_bl, s_bc])[(Int.toNat a0.Op)]?) ([s_b, s_bl, s_bc][(Int.toNat a0.Op)]?) Q8 fun (e2 : ByteArray) => (rt Qi e2)) .fail)) (.as (a0.Kind == 3) (rt Qi QP) (.as (a0.Kind == 4) (rt Qi QQ) (.as (a0.Kind == 5) (rt Qi QR) (.as (a0.Kind == 6) (rt Qi Jm) (.as (a0.Kind == 7) (rt Qi QN) (.as (a0.Kind == 8) (rt Qi QO) (rt Qi Uo)))))))))
theorem YH.ok {a0 : Qf} {r : ByteArray} (h : YH a0 = some r) : ww 59 [.agg (WD a0)] [] = some (Qi r) := by
 refine fnP (Qoq a0) ?_ h
 exact ⟨rfl, fun q0 => fun r1 h => ⟨Zt.ok h, rfl⟩, fun q0 => ⟨rfl, fun q1 => ⟨(Q9 [s_b, s_bl, s_bc]), ⟨(by rw [QD]), fun q2 => fun e2 h => ⟨Q3 h, rfl⟩, fun q2 => trivial⟩⟩, fun q1 => ⟨rfl, fun q2 => rfl, fun q2 => ⟨rfl, fun q3 => rfl, fun q3 => ⟨rfl, fun q4 => rfl, fun q4 => ⟨rfl, fun q5 => rfl, fun q5 => ⟨rfl, fun q6 => rfl, fun q6 => ⟨rfl, fun q7 => rfl, fun q7 => rfl⟩⟩⟩⟩⟩⟩⟩⟩
noncomputable abbrev Qfc {ρ R : Type} (a0 : Qf) (k : ByteArray → Tr ρ R) : Tr ρ R := .call (ww 59 [.agg (WD a0)] []) (YH a0) Qi k
abbrev YI := Qa → Option ByteArray
abbrev Qj9 (c : YI) : Prop := ∀ (a0 : Qa) (r : ByteArray), c a0 = some r → ww 103 [.agg (Js a0)] [] = some (Qi r)
abbrev Ep := Qa → Option ByteArray
abbrev Qpm (c : Ep) : Prop := ∀ (a0 : Qa) (r : ByteArray), c a0 = some r → ww 60 [.agg (Js a0)] [] = some (Qi r)
noncomputable abbrev F4 {ρ R : Type} (c : YI) (a0 : Qa) (k : ByteArray → Tr ρ R) : Tr ρ R := .call (ww 103 [.agg (Js a0)] []) (c a0) Qi k
noncomputable abbrev Qfd {ρ R : Type} (c : Ep) (a0 : Qa) (k : ByteArray → Tr ρ R) : Tr ρ R := .call (ww 60 [.agg (Js a0)] []) (c a0) Qi k
def Ye (C0 : Ep) (a0 : Qa) : Option ByteArray := (bif ((((a0.L.length) : Nat) : Int) == 2) then ((C0 a0).bind fun r1 => (bif (decide (((h_28.size + r1.size : Nat) : Int) ≤ IntKind.i64.max)) then (bif (decide ((((h_28 ++ r1).size + h_29.size : Nat) : Int) ≤ IntKind.i64.max)) then (some ((h_28 ++ r1) ++ h_29)) else none) else none)) else ((C0 a0).bind fun r2 => (some r2)))
theorem Qcx {C0 : Nat → Ep} {D0 : Ep} (H0 : Cv1 C0 D0) (a0 : Qa) : Cv (fun k => Ye (C0 k) a0) (Ye D0 a0) := by
 unfold Ye
 exact .cond (.bind (H0 _) fun r1 => by exact .const _) (.bind (H0 _) fun r2 => by exact .const _)
noncomputable def QiJ (C0 : Ep) (a0 : Qa) : Tr ByteArray AH := (.num ((QX a0.L).length) (a0.L.length) (.as ((((a0.L.length) : Nat) : Int) == 2) (Qfd C0 a0 fun r1 => (.as (decide (((h_28.size + r1.size : Nat) : Int) ≤ IntKind.i64.max)) (.as (decide ((((h_28 ++ r1).size + h_29.size : Nat) : Int) ≤ IntKind.i64.max)) (rt Qi ((h_28 ++ r1) ++ h_29)) .fail) .fail)) (Qfd C0 a0 fun r2 => (rt Qi r2))))
def YW (C0 : Xe) (C1 : YI) (C2 : QaL) (a0 : Qa) : Option ByteArray := (bif (a0.Kind == 1) then ((C0 a0.N).bind fun r1 => (some r1)) else (bif (a0.Kind == 2) then (some a0.Name) else (bif (a0.Kind == 3) then (some h_2e) else (bif (a0.Kind == 4) then ((a0.L[(Int.toNat 0)]?).bind fun e2 => ((C1 e2).bind fun r3 => (bif (decide (((h_2d.size + r3.size : Nat) : Int) ≤ IntKind.i64.max)) then (some (h_2d ++ r3)) else none))) else ((C2 a0.Kind).bind fun r4 => ((a0.L[(Int.toNat 0)]?).bind fun e5 => ((C1 e5).bind fun r6 => (bif (decide (((r6.size + h_20.size : Nat) : Int) ≤ IntKind.i64.max)) then (bif (decide ((((r6 ++ h_20).size + r4.1.size : Nat) : Int) ≤ IntKind.i64.max)) then (bif (decide (((((r6 ++ h_20) ++ r4.1).size + h_20.size : Nat) : Int) ≤ IntKind.i64.max)) then ((a0.L[(Int.toNat 1)]?).bind fun e7 => ((C1 e7).bind fun r8 => (bif (decide ((((((r6 ++ h_20) ++ r4.1) ++ h_20).size + r8.size : Nat) : Int) ≤ IntKind.i64.max)) then (some ((((r6 ++ h_20) ++ r4.1) ++ h_20) ++ r8)) else none))) else none) else none) else none))))))))
theorem Qjp {C0 : Nat → Xe} {D0 : Xe} (H0 : Cv1 C0 D0) {C1 : Nat → YI} {D1 : YI} (H1 : Cv1 C1 D1) {C2 : Nat → QaL} {D2 : QaL} (H2 : Cv1 C2 D2) (a0 : Qa) : Cv (fun k => YW (C0 k) (C1 k) (C2 k) a0) (YW D0 D1 D2 a0) := by
 unfold YW
 exact .cond (.bind (H0 _) fun r1 => by exact .const _) (.cond cst (.cond cst (.cond (.bind (.const _) fun e2 => .bind (H1 _) fun r3 => by exact .const _) (.bind (H2 _) fun r4 => .bind (.const _) fun e5 => .bind (H1 _) fun r6 => .cond (.cond (.cond (.bind (.const _) fun e7 => .bind (H1 _) fun r8 => by exact .const _) cst) cst) cst))))
noncomputable def Qor (C0 : YI) (a0 : Qa) : Tr ByteArray AH := (.as (a0.Kind == 1) (Pq a0.N fun r1 => (rt Qi r1)) (.as (a0.Kind == 2) (rt Qi a0.Name) (.as (a0.Kind == 3) (rt Qi h_2e) (.as (a0.Kind == 4) (.yes (decide (0 ≤ i0)) (.row ((QX a0.L)[(Int.toNat 0)]?) (a0.L[(Int.toNat 0)]?) Js fun (e2 : Qa) => (F4 C0 e2 fun r3 => (.as (decide (((h_2d.size + r3.size : Nat) : Int) ≤ IntKind.i64.max)) (rt Qi (h_2d ++ r3)) .fail)))) (Qjn a0.Kind fun r4 => (.yes (decide (0 ≤ i0)) (.row ((QX a0.L)[(Int.toNat 0)]?) (a0.L[(Int.toNat 0)]?) Js fun (e5 : Qa) => (F4 C0 e5 fun r6 => (.as (decide (((r6.size + h_20.size : Nat) : Int) ≤ IntKind.i64.max)) (.as (decide ((((r6 ++ h_20).size + r4.1.size : Nat) : Int) ≤ IntKind.i64.max)) (.as (decide (((((r6 ++ h_20) ++ r4.1).size + h_20.size : Nat) : Int) ≤ IntKind.i64.max)) (.yes (decide (0 ≤ (zi 1))) (.row ((QX a0.L)[(Int.toNat 1)]?) (a0.L[(Int.toNat 1)]?) Js fun (e7 : Qa) => (F4 C0 e7 fun r8 => (.as (decide ((((((r6 ++ h_20) ++ r4.1) ++ h_20).size + r8.size : Nat) : Int) ≤ IntKind.i64.max)) (rt Qi ((((r6 ++ h_20) ++ r4.1) ++ h_20) ++ r8)) .fail)))) .fail) .fail) .fail)))))))))
mutual
noncomputable def UG.s : Nat → Qa → Option ByteArray
 | 0, _ => none
 | k + 1, a0 => Ye (fun a0 => Uj.s k a0) a0
termination_by structural k => k
noncomputable def Uj.s : Nat → Qa → Option ByteArray
 | 0, _ => none
 | k + 1, a0 => YW Ji (fun a0 => UG.s k a0) Yd a0
termination_by structural k => k
end
theorem QaN : ∀ (k : Nat), (Qj9 (UG.s k)) ∧ (Qpm (Uj.s k))
 | 0 => ⟨fun _ _ h => (nomatch h), fun _ _ h => (nomatch h)⟩
 | k + 1 => by
  obtain ⟨i_r3_bracketed, i_r3_Text⟩ := QaN k
  exact ⟨fun a0 r h => by
    refine fnP (QiJ (Uj.s k) a0) ?_ h
    exact ⟨(Qin _), ⟨rfl, fun q0 => fun r1 h => ⟨i_r3_Text _ _ h, ⟨rfl, fun q1 => ⟨rfl, fun q2 => rfl, fun q2 => trivial⟩, fun q1 => trivial⟩⟩, fun q0 => fun r2 h => ⟨i_r3_Text _ _ h, rfl⟩⟩⟩,
   fun a0 r h => by
    refine fnP (Qor (UG.s k) a0) ?_ h
    exact ⟨rfl, fun q0 => fun r1 h => ⟨Ji.ok h, rfl⟩, fun q0 => ⟨rfl, fun q1 => rfl, fun q1 => ⟨rfl, fun q2 => rfl, fun q2 => ⟨rfl, fun q3 => ⟨rfl, fun e2 h => ⟨FL h, fun r3 h => ⟨i_r3_bracketed _ _ h, ⟨rfl, fun q4 => rfl, fun q4 => trivial⟩⟩⟩⟩, fun q3 => fun r4 h => ⟨Yd.ok h, ⟨rfl, fun e5 h => ⟨FL h, fun r6 h => ⟨i_r3_bracketed _ _ h, ⟨rfl, fun q4 => ⟨rfl, fun q5 => ⟨rfl, fun q6 => ⟨rfl, fun e7 h => ⟨FL h, fun r8 h => ⟨i_r3_bracketed _ _ h, ⟨rfl, fun q7 => rfl, fun q7 => trivial⟩⟩⟩⟩, fun q6 => trivial⟩, fun q5 => trivial⟩, fun q4 => trivial⟩⟩⟩⟩⟩⟩⟩⟩⟩⟩
theorem GQ : ∀ (k : Nat), (∀ (a0 : Qa), Le (UG.s k a0) (UG.s (k + 1) a0)) ∧ (∀ (a0 : Qa), Le (Uj.s k a0) (Uj.s (k + 1) a0))
 | 0 => ⟨fun _ _ h => (nomatch h), fun _ _ h => (nomatch h)⟩
 | k + 1 => by
  obtain ⟨i_r3_bracketed, i_r3_Text⟩ := GQ k
  exact ⟨fun a0 => (Qcx (tw1 i_r3_Text) a0).1 0,
   fun a0 => (Qjp ks1 (tw1 i_r3_bracketed) ks1 a0).1 0⟩
noncomputable def UG (a0 : Qa) : Option ByteArray := lim fun k => UG.s k a0
theorem UG.cv (a0 : Qa) : Cv (fun k => UG.s k a0) (UG a0) := .lim fun k => (GQ k).1 a0
noncomputable def Uj (a0 : Qa) : Option ByteArray := lim fun k => Uj.s k a0
theorem Uj.cv (a0 : Qa) : Cv (fun k => Uj.s k a0) (Uj a0) := .lim fun k => (GQ k).2 a0
theorem Uj.ok {a0 : Qa} {r : ByteArray} (h : Uj a0 = some r) : ww 60 [.agg (Js a0)] [] = some (Qi r) := let ⟨k, e⟩ := ((Uj.cv a0).2 r).1 h; (QaN k).2 a0 _ e
theorem UG.eq (a0 : Qa) : UG a0 = Ye Uj a0 := Cv.uniq (UG.cv a0).shift (Qcx Uj.cv a0)
theorem Uj.eq (a0 : Qa) : Uj a0 = YW Ji UG Yd a0 := Cv.uniq (Uj.cv a0).shift (Qjp ks1 UG.cv ks1 a0)
noncomputable abbrev Qos {ρ R : Type} (a0 : Qa) (k : ByteArray → Tr ρ R) : Tr ρ R := Qfd Uj a0 k
abbrev Qle := Qf → Option ByteArray
structure QH where
 x3 : ByteArray
 x5 : Int
 h0 : Qf
 r1 : (List ByteArray)
structure Jl where
 x3 : ByteArray
 r0 : (List ByteArray)
def Fq (a : QH) : St := { n := 101, nx := 2, env := [(1, .ptr 0 0), (3, xs a.x3), (4, .arr 1), (5, xi a.x5)], heap := [(0, .box [0, 0, 0, 0, 0, 5] (WD a.h0)), (1, .arr true 1 (Qh a.r1))] }
def QaO (a : Jl) : Ex × St := (.exit 0, { n := 101, nx := 1, env := [(3, xs a.x3), (4, .arr 0)], heap := [(0, .arr true 1 (Qh a.r0))] })
abbrev Qgv := QH → Option Jl
def Fr (C0 : Xe) (C1 : Ep) (a : QH) : Option (QH ⊕ Jl) := (bif (decide (a.x5 < (((a.h0.Args.length) : Nat) : Int))) then (bif (decide (0 ≤ a.x5)) then ((a.h0.Args[(Int.toNat a.x5)]?).bind fun e1 => (bif (decide (e1.Reg ≥ 0)) then ((a.h0.Args[(Int.toNat a.x5)]?).bind fun e2 => ((C0 e2.Reg).bind fun r3 => (bif (decide (((s_r.size + r3.size : Nat) : Int) ≤ IntKind.i64.max)) then (bif (decide ((a.r1.length + [(s_r ++ r3)].length) * 16 ≤ most)) then (some (.inl (QH.mk a.x3 (w64 (a.x5 + 1)) a.h0 (a.r1 ++ [(s_r ++ r3)])))) else none) else none))) else ((a.h0.Args[(Int.toNat a.x5)]?).bind fun e4 => ((C1 e4.E).bind fun r5 => (bif (decide ((a.r1.length + [r5].length) * 16 ≤ most)) then (some (.inl (QH.mk a.x3 (w64 (a.x5 + 1)) a.h0 (a.r1 ++ [r5])))) else none))))) else none) else (some (.inr (Jl.mk a.x3 a.r1))))
noncomputable def Jw : Qgv := loopW (Fr Ji Uj)
theorem Jw.eq (a : QH) : Jw a = (Fr Ji Uj a).bind (Sum.elim Jw some) := JD _ _
noncomputable abbrev Wc {ρ R : Type} (a : QH) (k0 : Jl → Tr ρ R) : Tr ρ R := .loop (loopAt pp 22 15) (Fq a) (Jw a) QaO k0
noncomputable def Qlf (a : QH) : Tr (QH ⊕ Jl) XS := (.num ((Qj a.h0.Args).length) (a.h0.Args.length) (.as (decide (a.x5 < (((a.h0.Args.length) : Nat) : Int))) (let u126 := (decide (0 ≤ a.x5)); .as u126 (.row ((Qj a.h0.Args)[(Int.toNat a.x5)]?) (a.h0.Args[(Int.toNat a.x5)]?) YL fun (e1 : Qd) => (.as (decide (e1.Reg ≥ 0)) (.yes u126 (.row ((Qj a.h0.Args)[(Int.toNat a.x5)]?) (a.h0.Args[(Int.toNat a.x5)]?) YL fun (e2 : Qd) => (Pq e2.Reg fun r3 => (.as (decide (((s_r.size + r3.size : Nat) : Int) ≤ IntKind.i64.max)) (.rows [[xs (s_r ++ r3)]] (Qh [(s_r ++ r3)]) (.yes (decide ((Qh [(s_r ++ r3)]).all (fun r => r.length == 1) = true)) (.ask (decide (((Qh a.r1).length + (Qh [(s_r ++ r3)]).length) * 16 ≤ most)) (decide ((a.r1.length + [(s_r ++ r3)].length) * 16 ≤ most)) (.rows ((Qh a.r1) ++ (Qh [(s_r ++ r3)])) (Qh (a.r1 ++ [(s_r ++ r3)])) (lf Fq (QH.mk a.x3 (w64 (a.x5 + 1)) a.h0 (a.r1 ++ [(s_r ++ r3)])))) .fail))) .fail)))) (.yes u126 (.row ((Qj a.h0.Args)[(Int.toNat a.x5)]?) (a.h0.Args[(Int.toNat a.x5)]?) YL fun (e4 : Qd) => (Qos e4.E fun r5 => (.rows [[xs r5]] (Qh [r5]) (.yes (decide ((Qh [r5]).all (fun r => r.length == 1) = true)) (.ask (decide (((Qh a.r1).length + (Qh [r5]).length) * 16 ≤ most)) (decide ((a.r1.length + [r5].length) * 16 ≤ most)) (.rows ((Qh a.r1) ++ (Qh [r5])) (Qh (a.r1 ++ [r5])) (lf Fq (QH.mk a.x3 (w64 (a.x5 + 1)) a.h0 (a.r1 ++ [r5])))) .fail)))))))) .fail) (rx QaO (Jl.mk a.x3 a.r1))))
theorem Jw.ok {a : QH} {r : Jl} (h : Jw a = some r) : lw 0 22 (loopAt pp 22 15) (Fq a) = some (QaO r) := by
 refine lpP h Qlf fun a => ?_
 exact ⟨(JN _), ⟨rfl, fun q0 => ⟨rfl, fun q1 => fun e1 h => ⟨P4 h, ⟨rfl, fun q2 => ⟨q1, fun e2 h => ⟨P4 h, fun r3 h => ⟨Ji.ok h, ⟨rfl, fun q3 => ⟨(Q9 [(s_r ++ r3)]), ⟨(decide_eq_true (VM _)), ⟨(by rw [QD, QD]), fun q4 => ⟨(W9 _ _), rfl⟩, fun q4 => trivial⟩⟩⟩, fun q3 => trivial⟩⟩⟩⟩, fun q2 => ⟨q1, fun e4 h => ⟨P4 h, fun r5 h => ⟨Uj.ok h, ⟨(Q9 [r5]), ⟨(decide_eq_true (VM _)), ⟨(by rw [QD, QD]), fun q3 => ⟨(W9 _ _), rfl⟩, fun q3 => trivial⟩⟩⟩⟩⟩⟩⟩⟩, fun q1 => trivial⟩, fun q0 => rfl⟩⟩
structure QI where
 x3 : ByteArray
 x6 : Int
 r0 : (List ByteArray)
def Fs (a : QI) : St := { n := 101, nx := 1, env := [(3, xs a.x3), (4, .arr 0), (6, xi a.x6)], heap := [(0, .arr true 1 (Qh a.r0))] }
def QaP (a : ByteArray) : Ex × St := (.exit 2, { n := 101, nx := 0, env := [(3, xs a)], heap := [] })
abbrev Qgw := QI → Option ByteArray
def Gu (a : QI) : Option (QI ⊕ ByteArray) := (bif (decide (a.x6 < (((a.r0.length) : Nat) : Int))) then (bif (a.x6 == 0) then (bif (decide (((a.x3.size + h_20.size : Nat) : Int) ≤ IntKind.i64.max)) then (bif (decide (0 ≤ a.x6 ∧ a.x6 < ((a.r0.length : Nat) : Int))) then ((a.r0[(Int.toNat a.x6)]?).bind fun e1 => (bif (decide ((((a.x3 ++ h_20).size + e1.size : Nat) : Int) ≤ IntKind.i64.max)) then (some (.inl (QI.mk ((a.x3 ++ h_20) ++ e1) (w64 (a.x6 + 1)) a.r0))) else none)) else none) else none) else (bif (decide (((a.x3.size + SZ.size : Nat) : Int) ≤ IntKind.i64.max)) then (bif (decide (0 ≤ a.x6 ∧ a.x6 < ((a.r0.length : Nat) : Int))) then ((a.r0[(Int.toNat a.x6)]?).bind fun e2 => (bif (decide ((((a.x3 ++ SZ).size + e2.size : Nat) : Int) ≤ IntKind.i64.max)) then (some (.inl (QI.mk ((a.x3 ++ SZ) ++ e2) (w64 (a.x6 + 1)) a.r0))) else none)) else none) else none)) else (some (.inr a.x3)))
noncomputable def Jq : Qgw := loopW (Gu )
theorem Jq.eq (a : QI) : Jq a = (Gu a).bind (Sum.elim Jq some) := JD _ _
noncomputable abbrev Wd {ρ R : Type} (a : QI) (k0 : ByteArray → Tr ρ R) : Tr ρ R := .loop (loopAt pp 22 21) (Fs a) (Jq a) QaP k0
noncomputable def Qlg (a : QI) : Tr (QI ⊕ ByteArray) XS := (.num ((Qh a.r0).length) (a.r0.length) (.as (decide (a.x6 < (((a.r0.length) : Nat) : Int))) (.as (a.x6 == 0) (.as (decide (((a.x3.size + h_20.size : Nat) : Int) ≤ IntKind.i64.max)) (.ask (in1 a.x6 (((Qh a.r0).length : Nat) : Int)) (in1 a.x6 ((a.r0.length : Nat) : Int)) (.row ((Qh a.r0)[(Int.toNat a.x6)]?) (a.r0[(Int.toNat a.x6)]?) Q8 fun (e1 : ByteArray) => (.as (decide ((((a.x3 ++ h_20).size + e1.size : Nat) : Int) ≤ IntKind.i64.max)) (lf Fs (QI.mk ((a.x3 ++ h_20) ++ e1) (w64 (a.x6 + 1)) a.r0)) .fail)) .fail) .fail) (.as (decide (((a.x3.size + SZ.size : Nat) : Int) ≤ IntKind.i64.max)) (.ask (in1 a.x6 (((Qh a.r0).length : Nat) : Int)) (in1 a.x6 ((a.r0.length : Nat) : Int)) (.row ((Qh a.r0)[(Int.toNat a.x6)]?) (a.r0[(Int.toNat a.x6)]?) Q8 fun (e2 : ByteArray) => (.as (decide ((((a.x3 ++ SZ).size + e2.size : Nat) : Int) ≤ IntKind.i64.max)) (lf Fs (QI.mk ((a.x3 ++ SZ) ++ e2) (w64 (a.x6 + 1)) a.r0)) .fail)) .fail) .fail)) (rx QaP a.x3)))
theorem Jq.ok {a : QI} {r : ByteArray} (h : Jq a = some r) : lw 0 22 (loopAt pp 22 21) (Fs a) = some (QaP r) := by
 refine lpP h Qlg fun a => ?_
 exact ⟨(QD _), ⟨rfl, fun q0 => ⟨rfl, fun q1 => ⟨rfl, fun q2 => ⟨(by rw [QD]), fun q3 => fun e1 h => ⟨Q3 h, ⟨rfl, fun q4 => rfl, fun q4 => trivial⟩⟩, fun q3 => trivial⟩, fun q2 => trivial⟩, fun q1 => ⟨rfl, fun q2 => ⟨(by rw [QD]), fun q3 => fun e2 h => ⟨Q3 h, ⟨rfl, fun q4 => rfl, fun q4 => trivial⟩⟩, fun q3 => trivial⟩, fun q2 => trivial⟩⟩, fun q0 => rfl⟩⟩
def Qfe (C0 : Qld) (L1 : Qgv) (L2 : Qgw) (a0 : Qf) : Option ByteArray := (bif (!(eqS a0.Label s_)) then (bif (decide (((a0.Label.size + h_3a.size : Nat) : Int) ≤ IntKind.i64.max)) then (bif (a0.Kind == 0) then (some (a0.Label ++ h_3a)) else (bif (!(eqS (a0.Label ++ h_3a) s_)) then (bif (decide ((((a0.Label ++ h_3a).size + h_20.size : Nat) : Int) ≤ IntKind.i64.max)) then ((C0 a0).bind fun r1 => (bif (decide (((((a0.Label ++ h_3a) ++ h_20).size + r1.size : Nat) : Int) ≤ IntKind.i64.max)) then (bif (a0.Kind == 6) then (bif (decide (((h_22.size + a0.Text.size : Nat) : Int) ≤ IntKind.i64.max)) then (bif (decide ((((h_22 ++ a0.Text).size + h_22.size : Nat) : Int) ≤ IntKind.i64.max)) then (bif (decide ([((h_22 ++ a0.Text) ++ h_22)].length * 16 ≤ most)) then (bif (a0.Kind == 9) then (bif (decide (([((h_22 ++ a0.Text) ++ h_22)].length + [a0.Text].length) * 16 ≤ most)) then ((L1 (QH.mk (((a0.Label ++ h_3a) ++ h_20) ++ r1) (0 : Int) a0 ([((h_22 ++ a0.Text) ++ h_22)] ++ [a0.Text]))).bind (fun (o2 : Jl) => ((L2 (QI.mk o2.x3 (0 : Int) o2.r0)).bind (fun (o3 : ByteArray) => (some o3))))) else none) else ((L1 (QH.mk (((a0.Label ++ h_3a) ++ h_20) ++ r1) (0 : Int) a0 [((h_22 ++ a0.Text) ++ h_22)])).bind (fun (o4 : Jl) => ((L2 (QI.mk o4.x3 (0 : Int) o4.r0)).bind (fun (o5 : ByteArray) => (some o5)))))) else none) else none) else none) else (bif (a0.Kind == 9) then (bif (decide ([a0.Text].length * 16 ≤ most)) then ((L1 (QH.mk (((a0.Label ++ h_3a) ++ h_20) ++ r1) (0 : Int) a0 [a0.Text])).bind (fun (o6 : Jl) => ((L2 (QI.mk o6.x3 (0 : Int) o6.r0)).bind (fun (o7 : ByteArray) => (some o7))))) else none) else ((L1 (QH.mk (((a0.Label ++ h_3a) ++ h_20) ++ r1) (0 : Int) a0 ([] : List ByteArray))).bind (fun (o8 : Jl) => ((L2 (QI.mk o8.x3 (0 : Int) o8.r0)).bind (fun (o9 : ByteArray) => (some o9))))))) else none)) else none) else ((C0 a0).bind fun r10 => (bif (decide ((((a0.Label ++ h_3a).size + r10.size : Nat) : Int) ≤ IntKind.i64.max)) then (bif (a0.Kind == 6) then (bif (decide (((h_22.size + a0.Text.size : Nat) : Int) ≤ IntKind.i64.max)) then (bif (decide ((((h_22 ++ a0.Text).size + h_22.size : Nat) : Int) ≤ IntKind.i64.max)) then (bif (decide ([((h_22 ++ a0.Text) ++ h_22)].length * 16 ≤ most)) then (bif (a0.Kind == 9) then (bif (decide (([((h_22 ++ a0.Text) ++ h_22)].length + [a0.Text].length) * 16 ≤ most)) then ((L1 (QH.mk ((a0.Label ++ h_3a) ++ r10) (0 : Int) a0 ([((h_22 ++ a0.Text) ++ h_22)] ++ [a0.Text]))).bind (fun (o11 : Jl) => ((L2 (QI.mk o11.x3 (0 : Int) o11.r0)).bind (fun (o12 : ByteArray) => (some o12))))) else none) else ((L1 (QH.mk ((a0.Label ++ h_3a) ++ r10) (0 : Int) a0 [((h_22 ++ a0.Text) ++ h_22)])).bind (fun (o13 : Jl) => ((L2 (QI.mk o13.x3 (0 : Int) o13.r0)).bind (fun (o14 : ByteArray) => (some o14)))))) else none) else none) else none) else (bif (a0.Kind == 9) then (bif (decide ([a0.Text].length * 16 ≤ most)) then ((L1 (QH.mk ((a0.Label ++ h_3a) ++ r10) (0 : Int) a0 [a0.Text])).bind (fun (o15 : Jl) => ((L2 (QI.mk o15.x3 (0 : Int) o15.r0)).bind (fun (o16 : ByteArray) => (some o16))))) else none) else ((L1 (QH.mk ((a0.Label ++ h_3a) ++ r10) (0 : Int) a0 ([] : List ByteArray))).bind (fun (o17 : Jl) => ((L2 (QI.mk o17.x3 (0 : Int) o17.r0)).bind (fun (o18 : ByteArray) => (some o18))))))) else none)))) else none) else (bif (a0.Kind == 0) then (some s_) else ((C0 a0).bind fun r19 => (bif (decide (((s_.size + r19.size : Nat) : Int) ≤ IntKind.i64.max)) then (bif (a0.Kind == 6) then (bif (decide (((h_22.size + a0.Text.size : Nat) : Int) ≤ IntKind.i64.max)) then (bif (decide ((((h_22 ++ a0.Text).size + h_22.size : Nat) : Int) ≤ IntKind.i64.max)) then (bif (decide ([((h_22 ++ a0.Text) ++ h_22)].length * 16 ≤ most)) then (bif (a0.Kind == 9) then (bif (decide (([((h_22 ++ a0.Text) ++ h_22)].length + [a0.Text].length) * 16 ≤ most)) then ((L1 (QH.mk (s_ ++ r19) (0 : Int) a0 ([((h_22 ++ a0.Text) ++ h_22)] ++ [a0.Text]))).bind (fun (o20 : Jl) => ((L2 (QI.mk o20.x3 (0 : Int) o20.r0)).bind (fun (o21 : ByteArray) => (some o21))))) else none) else ((L1 (QH.mk (s_ ++ r19) (0 : Int) a0 [((h_22 ++ a0.Text) ++ h_22)])).bind (fun (o22 : Jl) => ((L2 (QI.mk o22.x3 (0 : Int) o22.r0)).bind (fun (o23 : ByteArray) => (some o23)))))) else none) else none) else none) else (bif (a0.Kind == 9) then (bif (decide ([a0.Text].length * 16 ≤ most)) then ((L1 (QH.mk (s_ ++ r19) (0 : Int) a0 [a0.Text])).bind (fun (o24 : Jl) => ((L2 (QI.mk o24.x3 (0 : Int) o24.r0)).bind (fun (o25 : ByteArray) => (some o25))))) else none) else ((L1 (QH.mk (s_ ++ r19) (0 : Int) a0 ([] : List ByteArray))).bind (fun (o26 : Jl) => ((L2 (QI.mk o26.x3 (0 : Int) o26.r0)).bind (fun (o27 : ByteArray) => (some o27))))))) else none))))
noncomputable def Xi : Qle := Qfe YH Jw Jq
theorem Xi.eq (a0 : Qf) : Xi a0 = Qfe YH Jw Jq a0 := rfl
noncomputable def Qot (a0 : Qf) : Tr ByteArray AH := (.as (!(eqS a0.Label s_)) (.as (decide (((a0.Label.size + h_3a.size : Nat) : Int) ≤ IntKind.i64.max)) (.as (a0.Kind == 0) (rt Qi (a0.Label ++ h_3a)) (.as (!(eqS (a0.Label ++ h_3a) s_)) (.as (decide ((((a0.Label ++ h_3a).size + h_20.size : Nat) : Int) ≤ IntKind.i64.max)) (Qfc a0 fun r1 => (.as (decide (((((a0.Label ++ h_3a) ++ h_20).size + r1.size : Nat) : Int) ≤ IntKind.i64.max)) (.as (a0.Kind == 6) (.as (decide (((h_22.size + a0.Text.size : Nat) : Int) ≤ IntKind.i64.max)) (.as (decide ((((h_22 ++ a0.Text).size + h_22.size : Nat) : Int) ≤ IntKind.i64.max)) (.rows [[xs ((h_22 ++ a0.Text) ++ h_22)]] (Qh [((h_22 ++ a0.Text) ++ h_22)]) (.yes (decide ((Qh [((h_22 ++ a0.Text) ++ h_22)]).all (fun r => r.length == 1) = true)) (.ask (decide ((Qh [((h_22 ++ a0.Text) ++ h_22)]).length * 16 ≤ most)) (decide ([((h_22 ++ a0.Text) ++ h_22)].length * 16 ≤ most)) (.rows (Qh [((h_22 ++ a0.Text) ++ h_22)]) (Qh [((h_22 ++ a0.Text) ++ h_22)]) (.as (a0.Kind == 9) (.rows [[xs a0.Text]] (Qh [a0.Text]) (.yes (decide ((Qh [a0.Text]).all (fun r => r.length == 1) = true)) (.ask (decide (((Qh [((h_22 ++ a0.Text) ++ h_22)]).length + (Qh [a0.Text]).length) * 16 ≤ most)) (decide (([((h_22 ++ a0.Text) ++ h_22)].length + [a0.Text].length) * 16 ≤ most)) (.rows ((Qh [((h_22 ++ a0.Text) ++ h_22)]) ++ (Qh [a0.Text])) (Qh ([((h_22 ++ a0.Text) ++ h_22)] ++ [a0.Text])) (Wc (QH.mk (((a0.Label ++ h_3a) ++ h_20) ++ r1) i0 a0 ([((h_22 ++ a0.Text) ++ h_22)] ++ [a0.Text])) (fun o2 => (Wd (QI.mk o2.x3 i0 o2.r0) (fun o3 => (rt Qi o3)))))) .fail))) (Wc (QH.mk (((a0.Label ++ h_3a) ++ h_20) ++ r1) i0 a0 [((h_22 ++ a0.Text) ++ h_22)]) (fun o4 => (Wd (QI.mk o4.x3 i0 o4.r0) (fun o5 => (rt Qi o5))))))) .fail))) .fail) .fail) (.as (a0.Kind == 9) (.rows [[xs a0.Text]] (Qh [a0.Text]) (.yes (decide ((Qh [a0.Text]).all (fun r => r.length == 1) = true)) (.ask (decide ((Qh [a0.Text]).length * 16 ≤ most)) (decide ([a0.Text].length * 16 ≤ most)) (.rows (Qh [a0.Text]) (Qh [a0.Text]) (Wc (QH.mk (((a0.Label ++ h_3a) ++ h_20) ++ r1) i0 a0 [a0.Text]) (fun o6 => (Wd (QI.mk o6.x3 i0 o6.r0) (fun o7 => (rt Qi o7)))))) .fail))) (Wc (QH.mk (((a0.Label ++ h_3a) ++ h_20) ++ r1) i0 a0 ([] : List ByteArray)) (fun o8 => (Wd (QI.mk o8.x3 i0 o8.r0) (fun o9 => (rt Qi o9))))))) .fail)) .fail) (Qfc a0 fun r10 => (.as (decide ((((a0.Label ++ h_3a).size + r10.size : Nat) : Int) ≤ IntKind.i64.max)) (.as (a0.Kind == 6) (.as (decide (((h_22.size + a0.Text.size : Nat) : Int) ≤ IntKind.i64.max)) (.as (decide ((((h_22 ++ a0.Text).size + h_22.size : Nat) : Int) ≤ IntKind.i64.max)) (.rows [[xs ((h_22 ++ a0.Text) ++ h_22)]] (Qh [((h_22 ++ a0.Text) ++ h_22)]) (.yes (decide ((Qh [((h_22 ++ a0.Text) ++ h_22)]).all (fun r => r.length == 1) = true)) (.ask (decide ((Qh [((h_22 ++ a0.Text) ++ h_22)]).length * 16 ≤ most)) (decide ([((h_22 ++ a0.Text) ++ h_22)].length * 16 ≤ most)) (.rows (Qh [((h_22 ++ a0.Text) ++ h_22)]) (Qh [((h_22 ++ a0.Text) ++ h_22)]) (.as (a0.Kind == 9) (.rows [[xs a0.Text]] (Qh [a0.Text]) (.yes (decide ((Qh [a0.Text]).all (fun r => r.length == 1) = true)) (.ask (decide (((Qh [((h_22 ++ a0.Text) ++ h_22)]).length + (Qh [a0.Text]).length) * 16 ≤ most)) (decide (([((h_22 ++ a0.Text) ++ h_22)].length + [a0.Text].length) * 16 ≤ most)) (.rows ((Qh [((h_22 ++ a0.Text) ++ h_22)]) ++ (Qh [a0.Text])) (Qh ([((h_22 ++ a0.Text) ++ h_22)] ++ [a0.Text])) (Wc (QH.mk ((a0.Label ++ h_3a) ++ r10) i0 a0 ([((h_22 ++ a0.Text) ++ h_22)] ++ [a0.Text])) (fun o11 => (Wd (QI.mk o11.x3 i0 o11.r0) (fun o12 => (rt Qi o12)))))) .fail))) (Wc (QH.mk ((a0.Label ++ h_3a) ++ r10) i0 a0 [((h_22 ++ a0.Text) ++ h_22)]) (fun o13 => (Wd (QI.mk o13.x3 i0 o13.r0) (fun o14 => (rt Qi o14))))))) .fail))) .fail) .fail) (.as (a0.Kind == 9) (.rows [[xs a0.Text]] (Qh [a0.Text]) (.yes (decide ((Qh [a0.Text]).all (fun r => r.length == 1) = true)) (.ask (decide ((Qh [a0.Text]).length * 16 ≤ most)) (decide ([a0.Text].length * 16 ≤ most)) (.rows (Qh [a0.Text]) (Qh [a0.Text]) (Wc (QH.mk ((a0.Label ++ h_3a) ++ r10) i0 a0 [a0.Text]) (fun o15 => (Wd (QI.mk o15.x3 i0 o15.r0) (fun o16 => (rt Qi o16)))))) .fail))) (Wc (QH.mk ((a0.Label ++ h_3a) ++ r10) i0 a0 ([] : List ByteArray)) (fun o17 => (Wd (QI.mk o17.x3 i0 o17.r0) (fun o18 => (rt Qi o18))))))) .fail)))) .fail) (.as (a0.Kind == 0) (rt Qi s_) (.no false (Qfc a0 fun r19 => (.as (decide (((s_.size + r19.size : Nat) : Int) ≤ IntKind.i64.max)) (.as (a0.Kind == 6) (.as (decide (((h_22.size + a0.Text.size : Nat) : Int) ≤ IntKind.i64.max)) (.as (decide ((((h_22 ++ a0.Text).size + h_22.size : Nat) : Int) ≤ IntKind.i64.max)) (.rows [[xs ((h_22 ++ a0.Text) ++ h_22)]] (Qh [((h_22 ++ a0.Text) ++ h_22)]) (.yes (decide ((Qh [((h_22 ++ a0.Text) ++ h_22)]).all (fun r => r.length == 1) = true)) (.ask (decide ((Qh [((h_22 ++ a0.Text) ++ h_22)]).length * 16 ≤ most)) (decide ([((h_22 ++ a0.Text) ++ h_22)].length * 16 ≤ most)) (.rows (Qh [((h_22 ++ a0.Text) ++ h_22)]) (Qh [((h_22 ++ a0.Text) ++ h_22)]) (.as (a0.Kind == 9) (.rows [[xs a0.Text]] (Qh [a0.Text]) (.yes (decide ((Qh [a0.Text]).all (fun r => r.length == 1) = true)) (.ask (decide (((Qh [((h_22 ++ a0.Text) ++ h_22)]).length + (Qh [a0.Text]).length) * 16 ≤ most)) (decide (([((h_22 ++ a0.Text) ++ h_22)].length + [a0.Text].length) * 16 ≤ most)) (.rows ((Qh [((h_22 ++ a0.Text) ++ h_22)]) ++ (Qh [a0.Text])) (Qh ([((h_22 ++ a0.Text) ++ h_22)] ++ [a0.Text])) (Wc (QH.mk (s_ ++ r19) i0 a0 ([((h_22 ++ a0.Text) ++ h_22)] ++ [a0.Text])) (fun o20 => (Wd (QI.mk o20.x3 i0 o20.r0) (fun o21 => (rt Qi o21)))))) .fail))) (Wc (QH.mk (s_ ++ r19) i0 a0 [((h_22 ++ a0.Text) ++ h_22)]) (fun o22 => (Wd (QI.mk o22.x3 i0 o22.r0) (fun o23 => (rt Qi o23))))))) .fail))) .fail) .fail) (.as (a0.Kind == 9) (.rows [[xs a0.Text]] (Qh [a0.Text]) (.yes (decide ((Qh [a0.Text]).all (fun r => r.length == 1) = true)) (.ask (decide ((Qh [a0.Text]).length * 16 ≤ most)) (decide ([a0.Text].length * 16 ≤ most)) (.rows (Qh [a0.Text]) (Qh [a0.Text]) (Wc (QH.mk (s_ ++ r19) i0 a0 [a0.Text]) (fun o24 => (Wd (QI.mk o24.x3 i0 o24.r0) (fun o25 => (rt Qi o25)))))) .fail))) (Wc (QH.mk (s_ ++ r19) i0 a0 ([] : List ByteArray)) (fun o26 => (Wd (QI.mk o26.x3 i0 o26.r0) (fun o27 => (rt Qi o27))))))) .fail)))))
theorem Xi.ok {a0 : Qf} {r : ByteArray} (h : Xi a0 = some r) : ww 22 [.agg (WD a0)] [] = some (Qi r) := by
 refine fnP (Qot a0) ?_ h
 exact ⟨rfl, fun q0 => ⟨rfl, fun q1 => ⟨rfl, fun q2 => rfl, fun q2 => ⟨rfl, fun q3 => ⟨rfl, fun q4 => fun r1 h => ⟨YH.ok h, ⟨rfl, fun q5 => ⟨rfl, fun q6 => ⟨rfl, fun q7 => ⟨rfl, fun q8 => ⟨(Q9 [((h_22 ++ a0.Text) ++ h_22)]), ⟨(decide_eq_true (VM _)), ⟨(by rw [QD]), fun q9 => ⟨rfl, ⟨rfl, fun q10 => ⟨(Q9 [a0.Text]), ⟨(decide_eq_true (VM _)), ⟨(by rw [QD, QD]), fun q11 => ⟨(W9 _ _), fun o2 h => ⟨Jw.ok h, fun o3 h => ⟨Jq.ok h, rfl⟩⟩⟩, fun q11 => trivial⟩⟩⟩, fun q10 => fun o4 h => ⟨Jw.ok h, fun o5 h => ⟨Jq.ok h, rfl⟩⟩⟩⟩, fun q9 => trivial⟩⟩⟩, fun q8 => trivial⟩, fun q7 => trivial⟩, fun q6 => ⟨rfl, fun q7 => ⟨(Q9 [a0.Text]), ⟨(decide_eq_true (VM _)), ⟨(by rw [QD]), fun q8 => ⟨rfl, fun o6 h => ⟨Jw.ok h, fun o7 h => ⟨Jq.ok h, rfl⟩⟩⟩, fun q8 => trivial⟩⟩⟩, fun q7 => fun o8 h => ⟨Jw.ok h, fun o9 h => ⟨Jq.ok h, rfl⟩⟩⟩⟩, fun q5 => trivial⟩⟩, fun q4 => trivial⟩, fun q3 => fun r10 h => ⟨YH.ok h, ⟨rfl, fun q4 => ⟨rfl, fun q5 => ⟨rfl, fun q6 => ⟨rfl, fun q7 => ⟨(Q9 [((h_22 ++ a0.Text) ++ h_22)]), ⟨(decide_eq_true (VM _)), ⟨(by rw [QD]), fun q8 => ⟨rfl, ⟨rfl, fun q9 => ⟨(Q9 [a0.Text]), ⟨(decide_eq_true (VM _)), ⟨(by rw [QD, QD]), fun q10 => ⟨(W9 _ _), fun o11 h => ⟨Jw.ok h, fun o12 h => ⟨Jq.ok h, rfl⟩⟩⟩, fun q10 => trivial⟩⟩⟩, fun q9 => fun o13 h => ⟨Jw.ok h, fun o14 h => ⟨Jq.ok h, rfl⟩⟩⟩⟩, fun q8 => trivial⟩⟩⟩, fun q7 => trivial⟩, fun q6 => trivial⟩, fun q5 => ⟨rfl, fun q6 => ⟨(Q9 [a0.Text]), ⟨(decide_eq_true (VM _)), ⟨(by rw [QD]), fun q7 => ⟨rfl, fun o15 h => ⟨Jw.ok h, fun o16 h => ⟨Jq.ok h, rfl⟩⟩⟩, fun q7 => trivial⟩⟩⟩, fun q6 => fun o17 h => ⟨Jw.ok h, fun o18 h => ⟨Jq.ok h, rfl⟩⟩⟩⟩, fun q4 => trivial⟩⟩⟩⟩, fun q1 => trivial⟩, fun q0 => ⟨rfl, fun q1 => rfl, fun q1 => ⟨rfl, fun r19 h => ⟨YH.ok h, ⟨rfl, fun q2 => ⟨rfl, fun q3 => ⟨rfl, fun q4 => ⟨rfl, fun q5 => ⟨(Q9 [((h_22 ++ a0.Text) ++ h_22)]), ⟨(decide_eq_true (VM _)), ⟨(by rw [QD]), fun q6 => ⟨rfl, ⟨rfl, fun q7 => ⟨(Q9 [a0.Text]), ⟨(decide_eq_true (VM _)), ⟨(by rw [QD, QD]), fun q8 => ⟨(W9 _ _), fun o20 h => ⟨Jw.ok h, fun o21 h => ⟨Jq.ok h, rfl⟩⟩⟩, fun q8 => trivial⟩⟩⟩, fun q7 => fun o22 h => ⟨Jw.ok h, fun o23 h => ⟨Jq.ok h, rfl⟩⟩⟩⟩, fun q6 => trivial⟩⟩⟩, fun q5 => trivial⟩, fun q4 => trivial⟩, fun q3 => ⟨rfl, fun q4 => ⟨(Q9 [a0.Text]), ⟨(decide_eq_true (VM _)), ⟨(by rw [QD]), fun q5 => ⟨rfl, fun o24 h => ⟨Jw.ok h, fun o25 h => ⟨Jq.ok h, rfl⟩⟩⟩, fun q5 => trivial⟩⟩⟩, fun q4 => fun o26 h => ⟨Jw.ok h, fun o27 h => ⟨Jq.ok h, rfl⟩⟩⟩⟩, fun q2 => trivial⟩⟩⟩⟩⟩
noncomputable abbrev Qbm {ρ R : Type} (a0 : Qf) (k : ByteArray → Tr ρ R) : Tr ρ R := .call (ww 22 [.agg (WD a0)] []) (Xi a0) Qi k
abbrev Qpn := ByteArray → Option (Int × Bool)
def Qff (C0 : Qc4) (a0 : ByteArray) : Option (Int × Bool) := ((C0 (-1 : Int) a0).bind fun r1 => (some (r1.2.1, r1.2.2)))
noncomputable def Qcy : Qpn := Qff Xy
theorem Qcy.eq (a0 : ByteArray) : Qcy a0 = Qff Xy a0 := rfl
def QaQ (r : (List Qf)) : AV × Heap := (.sl (Ug r), [])
abbrev QhT := (List Qf) → Option (List Qf)
noncomputable def W6 (a0 : (List Qf)) : Option (List Qf) := cloneT 80 a0
noncomputable abbrev Qg1 {ρ R : Type} (a0 : (List Qf)) (k : (List Qf) → Tr ρ R) : Tr ρ R := .call (ww 80 [.sl (Ug a0)] []) (W6 a0) QaQ k
theorem W6.ok {a0 : (List Qf)} {r : (List Qf)} (h : W6 a0 = some r) : ww 80 [.sl (Ug a0)] [] = some (QaQ r) := (ZI rfl _ _).trans (Qjd WD (fun _ => rfl) (fun _ => rfl) (Xs _) (Xs _) h)
def QaR (r : (List Int)) : AV × Heap := (.sl (Qm r), [])
abbrev QhU := (List Int) → Option (List Int)
noncomputable def XA (a0 : (List Int)) : Option (List Int) := cloneB 8 a0
noncomputable abbrev Qg2 {ρ R : Type} (a0 : (List Int)) (k : (List Int) → Tr ρ R) : Tr ρ R := .call (ww 81 [.sl (Qm a0)] []) (XA a0) QaR k
theorem XA.ok {a0 : (List Int)} {r : (List Int)} (h : XA a0 = some r) : ww 81 [.sl (Qm a0)] [] = some (QaR r) := (ZI rfl _ _).trans (Qob (.int .i64) (fun _ => rfl) h)
def QaS (r : ((List Qf) × (List Int))) : AV × Heap := (.tup [.sl (Ug r.1), .sl (Qm r.2)], [])
abbrev Qgx := ByteArray → Option ((List Qf) × (List Int))
structure JZ where
 x9 : (List ByteArray)
 x10 : Int
 x11 : Int
 r0 : (List Qf)
 r1 : (List Int)
structure Wa where
 r0 : (List Qf)
 r1 : (List Int)
def YX (a : JZ) : St := { n := 45, nx := 2, env := [(2, .arr 0), (3, .arr 1), (9, .sl (Qh a.x9)), (10, xi a.x10), (11, xi a.x11)], heap := [(0, .arr true 6 (Ug a.r0)), (1, .arr true 1 (Qm a.r1))] }
def Ft (a : Wa) : Ex × St := (.exit 0, { n := 45, nx := 2, env := [(2, .arr 0), (3, .arr 1)], heap := [(0, .arr true 6 (Ug a.r0)), (1, .arr true 1 (Qm a.r1))] })
abbrev Qcz := JZ → Option Wa
def Z3 (C0 : Qjh) (a : JZ) : Option (JZ ⊕ Wa) := (bif (decide (a.x11 < a.x10)) then (bif (decide (0 ≤ a.x11)) then ((a.x9[(Int.toNat a.x11)]?).bind fun e1 => ((C0 e1).bind fun r2 => (bif (!r2.2) then (bif (decide ((a.r1.length + [(w64 (a.x11 + 1))].length) * 8 ≤ most)) then (some (.inl (JZ.mk a.x9 a.x10 (w64 (a.x11 + 1)) a.r0 (a.r1 ++ [(w64 (a.x11 + 1))])))) else none) else (bif (decide (r2.1.Line > 0)) then (bif (decide ((a.r0.length + [(Qf.mk (w64 (a.x11 + 1)) r2.1.Label r2.1.Kind r2.1.Op r2.1.Text r2.1.Args)].length) * 80 ≤ most)) then (some (.inl (JZ.mk a.x9 a.x10 (w64 (a.x11 + 1)) (a.r0 ++ [(Qf.mk (w64 (a.x11 + 1)) r2.1.Label r2.1.Kind r2.1.Op r2.1.Text r2.1.Args)]) a.r1))) else none) else (some (.inl (JZ.mk a.x9 a.x10 (w64 (a.x11 + 1)) a.r0 a.r1))))))) else none) else (some (.inr (Wa.mk a.r0 a.r1))))
noncomputable def Ve : Qcz := loopW (Z3 Y3)
theorem Ve.eq (a : JZ) : Ve a = (Z3 Y3 a).bind (Sum.elim Ve some) := JD _ _
noncomputable abbrev QhV {ρ R : Type} (a : JZ) (k0 : Wa → Tr ρ R) : Tr ρ R := .loop (loopAt pp 31 2) (YX a) (Ve a) Ft k0
noncomputable def QhW (a : JZ) : Tr (JZ ⊕ Wa) XS := (.as (decide (a.x11 < a.x10)) (.as (decide (0 ≤ a.x11)) (.row ((Qh a.x9)[(Int.toNat a.x11)]?) (a.x9[(Int.toNat a.x11)]?) Q8 fun (e1 : ByteArray) => (Qnx e1 fun r2 => (.as (!r2.2) (.rows [[xi (w64 (a.x11 + 1))]] (Qm [(w64 (a.x11 + 1))]) (.yes (decide ((Qm [(w64 (a.x11 + 1))]).all (fun r => r.length == 1) = true)) (.ask (decide (((Qm a.r1).length + (Qm [(w64 (a.x11 + 1))]).length) * 8 ≤ most)) (decide ((a.r1.length + [(w64 (a.x11 + 1))].length) * 8 ≤ most)) (.rows ((Qm a.r1) ++ (Qm [(w64 (a.x11 + 1))])) (Qm (a.r1 ++ [(w64 (a.x11 + 1))])) (lf YX (JZ.mk a.x9 a.x10 (w64 (a.x11 + 1)) a.r0 (a.r1 ++ [(w64 (a.x11 + 1))])))) .fail))) (.as (decide (r2.1.Line > 0)) (.rows [[xi (w64 (a.x11 + 1)), xs r2.1.Label, xi r2.1.Kind, xi r2.1.Op, xs r2.1.Text, .sl (Qj r2.1.Args)]] (Ug [(Qf.mk (w64 (a.x11 + 1)) r2.1.Label r2.1.Kind r2.1.Op r2.1.Text r2.1.Args)]) (.yes (decide ((Ug [(Qf.mk (w64 (a.x11 + 1)) r2.1.Label r2.1.Kind r2.1.Op r2.1.Text r2.1.Args)]).all (fun r => r.length == 6) = true)) (.ask (decide (((Ug a.r0).length + (Ug [(Qf.mk (w64 (a.x11 + 1)) r2.1.Label r2.1.Kind r2.1.Op r2.1.Text r2.1.Args)]).length) * 80 ≤ most)) (decide ((a.r0.length + [(Qf.mk (w64 (a.x11 + 1)) r2.1.Label r2.1.Kind r2.1.Op r2.1.Text r2.1.Args)].length) * 80 ≤ most)) (.rows ((Ug a.r0) ++ (Ug [(Qf.mk (w64 (a.x11 + 1)) r2.1.Label r2.1.Kind r2.1.Op r2.1.Text r2.1.Args)])) (Ug (a.r0 ++ [(Qf.mk (w64 (a.x11 + 1)) r2.1.Label r2.1.Kind r2.1.Op r2.1.Text r2.1.Args)])) (lf YX (JZ.mk a.x9 a.x10 (w64 (a.x11 + 1)) (a.r0 ++ [(Qf.mk (w64 (a.x11 + 1)) r2.1.Label r2.1.Kind r2.1.Op r2.1.Text r2.1.Args)]) a.r1))) .fail))) (lf YX (JZ.mk a.x9 a.x10 (w64 (a.x11 + 1)) a.r0 a.r1)))))) .fail) (rx Ft (Wa.mk a.r0 a.r1)))
theorem Ve.ok {a : JZ} {r : Wa} (h : Ve a = some r) : lw 0 31 (loopAt pp 31 2) (YX a) = some (Ft r) := by
 refine lpP h QhW fun a => ?_
 exact ⟨rfl, fun q0 => ⟨rfl, fun q1 => fun e1 h => ⟨Q3 h, fun r2 h => ⟨Y3.ok h, ⟨rfl, fun q2 => ⟨(Jo [(w64 (a.x11 + (1 : Int)))]), ⟨(decide_eq_true (Z5 _)), ⟨(by rw [Q5, Q5]), fun q3 => ⟨(Yj _ _), rfl⟩, fun q3 => trivial⟩⟩⟩, fun q2 => ⟨rfl, fun q3 => ⟨(Xs [(Qf.mk (w64 (a.x11 + (1 : Int))) r2.1.Label r2.1.Kind r2.1.Op r2.1.Text r2.1.Args)]), ⟨(decide_eq_true (Qip _)), ⟨(by rw [Gw, Gw]), fun q4 => ⟨(QfH _ _), rfl⟩, fun q4 => trivial⟩⟩⟩, fun q3 => rfl⟩⟩⟩⟩, fun q1 => trivial⟩, fun q0 => rfl⟩
def QaT (C0 : Qcd) (C1 : QhT) (C2 : QhU) (L3 : Qcz) (a0 : ByteArray) : Option ((List Qf) × (List Int)) := ((C0 a0 h_0a).bind fun r1 => ((L3 (JZ.mk r1 (((r1.length) : Nat) : Int) (0 : Int) ([] : List Qf) ([] : List Int))).bind (fun (o2 : Wa) => ((C1 o2.r0).bind fun r3 => ((C2 o2.r1).bind fun r4 => (some (r3, r4)))))))
noncomputable def XH : Qgx := QaT Wb W6 XA Ve
theorem XH.eq (a0 : ByteArray) : XH a0 = QaT Wb W6 XA Ve a0 := rfl
noncomputable def Qlh (a0 : ByteArray) : Tr ((List Qf) × (List Int)) AH := (Qa9 a0 h_0a fun r1 => (.num ((Qh r1).length) (r1.length) (QhV (JZ.mk r1 (((r1.length) : Nat) : Int) i0 ([] : List Qf) ([] : List Int)) (fun o2 => (Qg1 o2.r0 fun r3 => (Qg2 o2.r1 fun r4 => (rt QaS (r3, r4))))))))
theorem XH.ok {a0 : ByteArray} {r : ((List Qf) × (List Int))} (h : XH a0 = some r) : ww 31 [xs a0] [] = some (QaS r) := by
 refine fnP (Qlh a0) ?_ h
 exact fun r1 h => ⟨Wb.ok h, ⟨(QD _), fun o2 h => ⟨Ve.ok h, fun r3 h => ⟨W6.ok h, fun r4 h => ⟨XA.ok h, rfl⟩⟩⟩⟩⟩
noncomputable abbrev Qli {ρ R : Type} (a0 : ByteArray) (k : ((List Qf) × (List Int)) → Tr ρ R) : Tr ρ R := .call (ww 31 [xs a0] []) (XH a0) QaS k
abbrev QhX := (List Qy) → (List Int) → (List Int) → Option Bool
structure JA where
 x0 : (List Qy)
 x1 : (List Int)
 x2 : (List Int)
 x7 : ByteArray
 x8 : Int
 x11 : Int
 x12 : Int
 x13 : Int
 r0 : (List Int)
 r1 : (List Int)
structure Ur where
 x0 : (List Qy)
 x1 : (List Int)
 x2 : (List Int)
 x7 : ByteArray
 x8 : Int
 x11 : Int
 r0 : (List Int)
 r1 : (List Int)
def ZT (a : JA) : St := { n := 139, nx := 2, env := [(0, .sl (V4 a.x0)), (1, .sl (Qm a.x1)), (2, .sl (Qm a.x2)), (7, xs a.x7), (8, xi a.x8), (9, .arr 0), (10, .arr 1), (11, xi a.x11), (12, xi a.x12), (13, xi a.x13)], heap := [(0, .arr true 1 (Qm a.r0)), (1, .arr true 1 (Qm a.r1))] }
def ZU (a : Ur) : Ex × St := (.exit 2, { n := 139, nx := 2, env := [(0, .sl (V4 a.x0)), (1, .sl (Qm a.x1)), (2, .sl (Qm a.x2)), (7, xs a.x7), (8, xi a.x8), (9, .arr 0), (10, .arr 1), (11, xi a.x11)], heap := [(0, .arr true 1 (Qm a.r0)), (1, .arr true 1 (Qm a.r1))] })
abbrev PW := JA → Option Ur
def Yv (a : JA) : Option (JA ⊕ Ur) := (bif (decide (a.x13 < a.x12)) then (bif (decide (0 ≤ (Int.tmod (w64 (a.x11 + a.x13)) (3 : Int)) ∧ (Int.tmod (w64 (a.x11 + a.x13)) (3 : Int)) < (([h_0a, Xa, Yk].length : Nat) : Int))) then (([h_0a, Xa, Yk][(Int.toNat (Int.tmod (w64 (a.x11 + a.x13)) (3 : Int)))]?).bind fun e1 => (bif (decide (((a.x7.size + e1.size : Nat) : Int) ≤ IntKind.i64.max)) then (some (.inl (JA.mk a.x0 a.x1 a.x2 (a.x7 ++ e1) (w64 (a.x8 + 1)) a.x11 a.x12 (w64 (a.x13 + 1)) a.r0 a.r1))) else none)) else none) else (some (.inr (Ur.mk a.x0 a.x1 a.x2 a.x7 a.x8 a.x11 a.r0 a.r1))))
noncomputable def JX : PW := loopW (Yv )
theorem JX.eq (a : JA) : JX a = (Yv a).bind (Sum.elim JX some) := JD _ _
noncomputable abbrev FG {ρ R : Type} (a : JA) (k0 : Ur → Tr ρ R) : Tr ρ R := .loop (loopAt pp 13 15) (ZT a) (JX a) ZU k0
noncomputable def Qd1 (a : JA) : Tr (JA ⊕ Ur) XS := (.as (decide (a.x13 < a.x12)) (.rows [[xs h_0a], [xs Xa], [xs Yk]] (Qh [h_0a, Xa, Yk]) (.yes (decide ((zi 3) ≠ 0)) (.ask (in1 (Int.tmod (w64 (a.x11 + a.x13)) (zi 3)) (((Qh [h_0a, Xa, Yk]).length : Nat) : Int)) (in1 (Int.tmod (w64 (a.x11 + a.x13)) (zi 3)) (([h_0a, Xa, Yk].length : Nat) : Int)) (.row ((Qh [h_0a, Xa, Yk])[(Int.toNat (Int.tmod (w64 (a.x11 + a.x13)) (zi 3)))]?) ([h_0a, Xa, Yk][(Int.toNat (Int.tmod (w64 (a.x11 + a.x13)) (zi 3)))]?) Q8 fun (e1 : ByteArray) => (.as (decide (((a.x7.size + e1.size : Nat) : Int) ≤ IntKind.i64.max)) (lf ZT (JA.mk a.x0 a.x1 a.x2 (a.x7 ++ e1) (w64 (a.x8 + 1)) a.x11 a.x12 (w64 (a.x13 + 1)) a.r0 a.r1)) .fail)) .fail))) (rx ZU (Ur.mk a.x0 a.x1 a.x2 a.x7 a.x8 a.x11 a.r0 a.r1)))
theorem JX.ok {a : JA} {r : Ur} (h : JX a = some r) : lw 0 13 (loopAt pp 13 15) (ZT a) = some (ZU r) := by
 refine lpP h Qd1 fun a => ?_
 exact ⟨rfl, fun q0 => ⟨(Q9 [h_0a, Xa, Yk]), ⟨rfl, ⟨(by rw [QD]), fun q1 => fun e1 h => ⟨Q3 h, ⟨rfl, fun q2 => rfl, fun q2 => trivial⟩⟩, fun q1 => trivial⟩⟩⟩, fun q0 => rfl⟩
structure QB where
 x0 : (List Qy)
 x1 : (List Int)
 x2 : (List Int)
 x7 : ByteArray
 x8 : Int
 x11 : Int
 r0 : (List Int)
 r1 : (List Int)
structure JB where
 x7 : ByteArray
 r0 : (List Int)
 r1 : (List Int)
def VK (a : QB) : St := { n := 139, nx := 2, env := [(0, .sl (V4 a.x0)), (1, .sl (Qm a.x1)), (2, .sl (Qm a.x2)), (7, xs a.x7), (8, xi a.x8), (9, .arr 0), (10, .arr 1), (11, xi a.x11)], heap := [(0, .arr true 1 (Qm a.r0)), (1, .arr true 1 (Qm a.r1))] }
def Yw (a : JB) : Ex × St := (.exit 0, { n := 139, nx := 2, env := [(7, xs a.x7), (9, .arr 0), (10, .arr 1)], heap := [(0, .arr true 1 (Qm a.r0)), (1, .arr true 1 (Qm a.r1))] })
abbrev PX := QB → Option JB
def Yx (C0 : E1) (C1 : Qe9) (C2 : Qle) (L3 : PW) (a : QB) : Option (QB ⊕ JB) := (bif (decide (a.x11 < (((a.x0.length) : Nat) : Int))) then (bif (decide (a.x11 < 12)) then (bif (decide (a.x11 < (((a.x1.length) : Nat) : Int))) then (bif (decide (0 ≤ a.x11)) then ((a.x1[(Int.toNat a.x11)]?).bind fun e1 => ((C0 e1 (4 : Int)).bind fun r2 => ((L3 (JA.mk a.x0 a.x1 a.x2 a.x7 a.x8 a.x11 r2 (0 : Int) a.r0 a.r1)).bind (fun (o3 : Ur) => (bif (decide (o3.x11 < (((o3.x2.length) : Nat) : Int))) then (bif (decide (0 ≤ o3.x11)) then ((o3.x2[(Int.toNat o3.x11)]?).bind fun e4 => ((C0 e4 (3 : Int)).bind fun r5 => (bif (r5 == 0) then (bif (decide (((o3.x7.size + VN.size : Nat) : Int) ≤ IntKind.i64.max)) then (bif (decide ((o3.r1.length + [o3.x8].length) * 8 ≤ most)) then (some (.inl (QB.mk o3.x0 o3.x1 o3.x2 (o3.x7 ++ VN) (w64 (o3.x8 + 1)) (w64 (o3.x11 + 1)) o3.r0 (o3.r1 ++ [o3.x8])))) else none) else none) else ((o3.x0[(Int.toNat o3.x11)]?).bind fun e6 => ((C1 e6).bind fun r7 => ((C2 r7).bind fun r8 => (bif (decide (((o3.x7.size + r8.size : Nat) : Int) ≤ IntKind.i64.max)) then (bif (decide ((((o3.x7 ++ r8).size + h_0a.size : Nat) : Int) ≤ IntKind.i64.max)) then (bif (decide ((o3.r0.length + [o3.x8].length) * 8 ≤ most)) then (some (.inl (QB.mk o3.x0 o3.x1 o3.x2 ((o3.x7 ++ r8) ++ h_0a) (w64 (o3.x8 + 1)) (w64 (o3.x11 + 1)) (o3.r0 ++ [o3.x8]) o3.r1))) else none) else none) else none))))))) else none) else (bif (decide (0 ≤ o3.x11)) then ((o3.x0[(Int.toNat o3.x11)]?).bind fun e9 => ((C1 e9).bind fun r10 => ((C2 r10).bind fun r11 => (bif (decide (((o3.x7.size + r11.size : Nat) : Int) ≤ IntKind.i64.max)) then (bif (decide ((((o3.x7 ++ r11).size + h_0a.size : Nat) : Int) ≤ IntKind.i64.max)) then (bif (decide ((o3.r0.length + [o3.x8].length) * 8 ≤ most)) then (some (.inl (QB.mk o3.x0 o3.x1 o3.x2 ((o3.x7 ++ r11) ++ h_0a) (w64 (o3.x8 + 1)) (w64 (o3.x11 + 1)) (o3.r0 ++ [o3.x8]) o3.r1))) else none) else none) else none)))) else none)))))) else none) else ((L3 (JA.mk a.x0 a.x1 a.x2 a.x7 a.x8 a.x11 (0 : Int) (0 : Int) a.r0 a.r1)).bind (fun (o12 : Ur) => (bif (decide (o12.x11 < (((o12.x2.length) : Nat) : Int))) then (bif (decide (0 ≤ o12.x11)) then ((o12.x2[(Int.toNat o12.x11)]?).bind fun e13 => ((C0 e13 (3 : Int)).bind fun r14 => (bif (r14 == 0) then (bif (decide (((o12.x7.size + VN.size : Nat) : Int) ≤ IntKind.i64.max)) then (bif (decide ((o12.r1.length + [o12.x8].length) * 8 ≤ most)) then (some (.inl (QB.mk o12.x0 o12.x1 o12.x2 (o12.x7 ++ VN) (w64 (o12.x8 + 1)) (w64 (o12.x11 + 1)) o12.r0 (o12.r1 ++ [o12.x8])))) else none) else none) else ((o12.x0[(Int.toNat o12.x11)]?).bind fun e15 => ((C1 e15).bind fun r16 => ((C2 r16).bind fun r17 => (bif (decide (((o12.x7.size + r17.size : Nat) : Int) ≤ IntKind.i64.max)) then (bif (decide ((((o12.x7 ++ r17).size + h_0a.size : Nat) : Int) ≤ IntKind.i64.max)) then (bif (decide ((o12.r0.length + [o12.x8].length) * 8 ≤ most)) then (some (.inl (QB.mk o12.x0 o12.x1 o12.x2 ((o12.x7 ++ r17) ++ h_0a) (w64 (o12.x8 + 1)) (w64 (o12.x11 + 1)) (o12.r0 ++ [o12.x8]) o12.r1))) else none) else none) else none))))))) else none) else (bif (decide (0 ≤ o12.x11)) then ((o12.x0[(Int.toNat o12.x11)]?).bind fun e18 => ((C1 e18).bind fun r19 => ((C2 r19).bind fun r20 => (bif (decide (((o12.x7.size + r20.size : Nat) : Int) ≤ IntKind.i64.max)) then (bif (decide ((((o12.x7 ++ r20).size + h_0a.size : Nat) : Int) ≤ IntKind.i64.max)) then (bif (decide ((o12.r0.length + [o12.x8].length) * 8 ≤ most)) then (some (.inl (QB.mk o12.x0 o12.x1 o12.x2 ((o12.x7 ++ r20) ++ h_0a) (w64 (o12.x8 + 1)) (w64 (o12.x11 + 1)) (o12.r0 ++ [o12.x8]) o12.r1))) else none) else none) else none)))) else none))))) else (some (.inr (JB.mk a.x7 a.r0 a.r1)))) else (some (.inr (JB.mk a.x7 a.r0 a.r1))))
noncomputable def JM : PX := loopW (Yx QF Vr Xi JX)
theorem JM.eq (a : QB) : JM a = (Yx QF Vr Xi JX a).bind (Sum.elim JM some) := JD _ _
noncomputable abbrev Qd2 {ρ R : Type} (a : QB) (k0 : JB → Tr ρ R) : Tr ρ R := .loop (loopAt pp 13 9) (VK a) (JM a) Yw k0
noncomputable def Qd3 (a : QB) : Tr (QB ⊕ JB) XS := (.num ((V4 a.x0).length) (a.x0.length) (let u131 := (decide (a.x11 < (((a.x0.length) : Nat) : Int))); .as u131 (yesN 2 u131 (.as (decide (a.x11 < 12)) (.num ((Qm a.x1).length) (a.x1.length) (.as (decide (a.x11 < (((a.x1.length) : Nat) : Int))) (.as (decide (0 ≤ a.x11)) (.row ((Qm a.x1)[(Int.toNat a.x11)]?) (a.x1[(Int.toNat a.x11)]?) VU fun (e1 : Int) => (Q6 e1 (zi 4) fun r2 => (FG (JA.mk a.x0 a.x1 a.x2 a.x7 a.x8 a.x11 r2 i0 a.r0 a.r1) (fun o3 => (.num ((Qm o3.x2).length) (o3.x2.length) (let u128 := (decide (o3.x11 < (((o3.x2.length) : Nat) : Int))); .as u128 (yesN 2 u128 (let u127 := (decide (0 ≤ o3.x11)); .as u127 (.row ((Qm o3.x2)[(Int.toNat o3.x11)]?) (o3.x2[(Int.toNat o3.x11)]?) VU fun (e4 : Int) => (yesN 2 u128 (Q6 e4 (zi 3) fun r5 => (yesN 2 u128 (.as (r5 == 0) (.as (decide (((o3.x7.size + VN.size : Nat) : Int) ≤ IntKind.i64.max)) (.rows [[xi o3.x8]] (Qm [o3.x8]) (.yes (decide ((Qm [o3.x8]).all (fun r => r.length == 1) = true)) (.ask (decide (((Qm o3.r1).length + (Qm [o3.x8]).length) * 8 ≤ most)) (decide ((o3.r1.length + [o3.x8].length) * 8 ≤ most)) (.rows ((Qm o3.r1) ++ (Qm [o3.x8])) (Qm (o3.r1 ++ [o3.x8])) (lf VK (QB.mk o3.x0 o3.x1 o3.x2 (o3.x7 ++ VN) (w64 (o3.x8 + 1)) (w64 (o3.x11 + 1)) o3.r0 (o3.r1 ++ [o3.x8])))) .fail))) .fail) (.yes u127 (.row ((V4 o3.x0)[(Int.toNat o3.x11)]?) (o3.x0[(Int.toNat o3.x11)]?) Vs fun (e6 : Qy) => (Ed e6 fun r7 => (Qbm r7 fun r8 => (.as (decide (((o3.x7.size + r8.size : Nat) : Int) ≤ IntKind.i64.max)) (.as (decide ((((o3.x7 ++ r8).size + h_0a.size : Nat) : Int) ≤ IntKind.i64.max)) (.rows [[xi o3.x8]] (Qm [o3.x8]) (.yes (decide ((Qm [o3.x8]).all (fun r => r.length == 1) = true)) (.ask (decide (((Qm o3.r0).length + (Qm [o3.x8]).length) * 8 ≤ most)) (decide ((o3.r0.length + [o3.x8].length) * 8 ≤ most)) (.rows ((Qm o3.r0) ++ (Qm [o3.x8])) (Qm (o3.r0 ++ [o3.x8])) (lf VK (QB.mk o3.x0 o3.x1 o3.x2 ((o3.x7 ++ r8) ++ h_0a) (w64 (o3.x8 + 1)) (w64 (o3.x11 + 1)) (o3.r0 ++ [o3.x8]) o3.r1))) .fail))) .fail) .fail)))))))))) .fail)) (noN 6 u128 (.no false (.as (decide (0 ≤ o3.x11)) (.row ((V4 o3.x0)[(Int.toNat o3.x11)]?) (o3.x0[(Int.toNat o3.x11)]?) Vs fun (e9 : Qy) => (Ed e9 fun r10 => (Qbm r10 fun r11 => (.as (decide (((o3.x7.size + r11.size : Nat) : Int) ≤ IntKind.i64.max)) (.as (decide ((((o3.x7 ++ r11).size + h_0a.size : Nat) : Int) ≤ IntKind.i64.max)) (.rows [[xi o3.x8]] (Qm [o3.x8]) (.yes (decide ((Qm [o3.x8]).all (fun r => r.length == 1) = true)) (.ask (decide (((Qm o3.r0).length + (Qm [o3.x8]).length) * 8 ≤ most)) (decide ((o3.r0.length + [o3.x8].length) * 8 ≤ most)) (.rows ((Qm o3.r0) ++ (Qm [o3.x8])) (Qm (o3.r0 ++ [o3.x8])) (lf VK (QB.mk o3.x0 o3.x1 o3.x2 ((o3.x7 ++ r11) ++ h_0a) (w64 (o3.x8 + 1)) (w64 (o3.x11 + 1)) (o3.r0 ++ [o3.x8]) o3.r1))) .fail))) .fail) .fail)))) .fail))))))))) .fail) (FG (JA.mk a.x0 a.x1 a.x2 a.x7 a.x8 a.x11 i0 i0 a.r0 a.r1) (fun o12 => (.num ((Qm o12.x2).length) (o12.x2.length) (let u130 := (decide (o12.x11 < (((o12.x2.length) : Nat) : Int))); .as u130 (yesN 2 u130 (let u129 := (decide (0 ≤ o12.x11)); .as u129 (.row ((Qm o12.x2)[(Int.toNat o12.x11)]?) (o12.x2[(Int.toNat o12.x11)]?) VU fun (e13 : Int) => (yesN 2 u130 (Q6 e13 (zi 3) fun r14 => (yesN 2 u130 (.as (r14 == 0) (.as (decide (((o12.x7.size + VN.size : Nat) : Int) ≤ IntKind.i64.max)) (.rows [[xi o12.x8]] (Qm [o12.x8]) (.yes (decide ((Qm [o12.x8]).all (fun r => r.length == 1) = true)) (.ask (decide (((Qm o12.r1).length + (Qm [o12.x8]).length) * 8 ≤ most)) (decide ((o12.r1.length + [o12.x8].length) * 8 ≤ most)) (.rows ((Qm o12.r1) ++ (Qm [o12.x8])) (Qm (o12.r1 ++ [o12.x8])) (lf VK (QB.mk o12.x0 o12.x1 o12.x2 (o12.x7 ++ VN) (w64 (o12.x8 + 1)) (w64 (o12.x11 + 1)) o12.r0 (o12.r1 ++ [o12.x8])))) .fail))) .fail) (.yes u129 (.row ((V4 o12.x0)[(Int.toNat o12.x11)]?) (o12.x0[(Int.toNat o12.x11)]?) Vs fun (e15 : Qy) => (Ed e15 fun r16 => (Qbm r16 fun r17 => (.as (decide (((o12.x7.size + r17.size : Nat) : Int) ≤ IntKind.i64.max)) (.as (decide ((((o12.x7 ++ r17).size + h_0a.size : Nat) : Int) ≤ IntKind.i64.max)) (.rows [[xi o12.x8]] (Qm [o12.x8]) (.yes (decide ((Qm [o12.x8]).all (fun r => r.length == 1) = true)) (.ask (decide (((Qm o12.r0).length + (Qm [o12.x8]).length) * 8 ≤ most)) (decide ((o12.r0.length + [o12.x8].length) * 8 ≤ most)) (.rows ((Qm o12.r0) ++ (Qm [o12.x8])) (Qm (o12.r0 ++ [o12.x8])) (lf VK (QB.mk o12.x0 o12.x1 o12.x2 ((o12.x7 ++ r17) ++ h_0a) (w64 (o12.x8 + 1)) (w64 (o12.x11 + 1)) (o12.r0 ++ [o12.x8]) o12.r1))) .fail))) .fail) .fail)))))))))) .fail)) (noN 6 u130 (.no false (.as (decide (0 ≤ o12.x11)) (.row ((V4 o12.x0)[(Int.toNat o12.x11)]?) (o12.x0[(Int.toNat o12.x11)]?) Vs fun (e18 : Qy) => (Ed e18 fun r19 => (Qbm r19 fun r20 => (.as (decide (((o12.x7.size + r20.size : Nat) : Int) ≤ IntKind.i64.max)) (.as (decide ((((o12.x7 ++ r20).size + h_0a.size : Nat) : Int) ≤ IntKind.i64.max)) (.rows [[xi o12.x8]] (Qm [o12.x8]) (.yes (decide ((Qm [o12.x8]).all (fun r => r.length == 1) = true)) (.ask (decide (((Qm o12.r0).length + (Qm [o12.x8]).length) * 8 ≤ most)) (decide ((o12.r0.length + [o12.x8].length) * 8 ≤ most)) (.rows ((Qm o12.r0) ++ (Qm [o12.x8])) (Qm (o12.r0 ++ [o12.x8])) (lf VK (QB.mk o12.x0 o12.x1 o12.x2 ((o12.x7 ++ r20) ++ h_0a) (w64 (o12.x8 + 1)) (w64 (o12.x11 + 1)) (o12.r0 ++ [o12.x8]) o12.r1))) .fail))) .fail) .fail)))) .fail))))))))) (rx Yw (JB.mk a.x7 a.r0 a.r1)))) (noN 2 u131 (.no false (rx Yw (JB.mk a.x7 a.r0 a.r1))))))
theorem JM.ok {a : QB} {r : JB} (h : JM a = some r) : lw 0 13 (loopAt pp 13 9) (VK a) = some (Yw r) := by
 refine lpP h Qd3 fun a => ?_
 exact ⟨(Qet _), ⟨rfl, fun q0 => Qk 2 (q0) (⟨rfl, fun q1 => ⟨(Q5 _), ⟨rfl, fun q2 => ⟨rfl, fun q3 => fun e1 h => ⟨Uz h, fun r2 h => ⟨QF.ok h, fun o3 h => ⟨JX.ok h, ⟨(Q5 _), ⟨rfl, fun q4 => Qk 2 (q4) (⟨rfl, fun q5 => fun e4 h => ⟨Uz h, Qk 2 (q4) (fun r5 h => ⟨QF.ok h, Qk 2 (q4) (⟨rfl, fun q6 => ⟨rfl, fun q7 => ⟨(Jo [o3.x8]), ⟨(decide_eq_true (Z5 _)), ⟨(by rw [Q5, Q5]), fun q8 => ⟨(Yj _ _), rfl⟩, fun q8 => trivial⟩⟩⟩, fun q7 => trivial⟩, fun q6 => ⟨q5, fun e6 h => ⟨Zd h, fun r7 h => ⟨Vr.ok h, fun r8 h => ⟨Xi.ok h, ⟨rfl, fun q7 => ⟨rfl, fun q8 => ⟨(Jo [o3.x8]), ⟨(decide_eq_true (Z5 _)), ⟨(by rw [Q5, Q5]), fun q9 => ⟨(Yj _ _), rfl⟩, fun q9 => trivial⟩⟩⟩, fun q8 => trivial⟩, fun q7 => trivial⟩⟩⟩⟩⟩⟩)⟩)⟩, fun q5 => trivial⟩), fun q4 => noN_ok 6 (q4) (⟨rfl, ⟨rfl, fun q5 => fun e9 h => ⟨Zd h, fun r10 h => ⟨Vr.ok h, fun r11 h => ⟨Xi.ok h, ⟨rfl, fun q6 => ⟨rfl, fun q7 => ⟨(Jo [o3.x8]), ⟨(decide_eq_true (Z5 _)), ⟨(by rw [Q5, Q5]), fun q8 => ⟨(Yj _ _), rfl⟩, fun q8 => trivial⟩⟩⟩, fun q7 => trivial⟩, fun q6 => trivial⟩⟩⟩⟩, fun q5 => trivial⟩⟩)⟩⟩⟩⟩⟩, fun q3 => trivial⟩, fun q2 => fun o12 h => ⟨JX.ok h, ⟨(Q5 _), ⟨rfl, fun q3 => Qk 2 (q3) (⟨rfl, fun q4 => fun e13 h => ⟨Uz h, Qk 2 (q3) (fun r14 h => ⟨QF.ok h, Qk 2 (q3) (⟨rfl, fun q5 => ⟨rfl, fun q6 => ⟨(Jo [o12.x8]), ⟨(decide_eq_true (Z5 _)), ⟨(by rw [Q5, Q5]), fun q7 => ⟨(Yj _ _), rfl⟩, fun q7 => trivial⟩⟩⟩, fun q6 => trivial⟩, fun q5 => ⟨q4, fun e15 h => ⟨Zd h, fun r16 h => ⟨Vr.ok h, fun r17 h => ⟨Xi.ok h, ⟨rfl, fun q6 => ⟨rfl, fun q7 => ⟨(Jo [o12.x8]), ⟨(decide_eq_true (Z5 _)), ⟨(by rw [Q5, Q5]), fun q8 => ⟨(Yj _ _), rfl⟩, fun q8 => trivial⟩⟩⟩, fun q7 => trivial⟩, fun q6 => trivial⟩⟩⟩⟩⟩⟩)⟩)⟩, fun q4 => trivial⟩), fun q3 => noN_ok 6 (q3) (⟨rfl, ⟨rfl, fun q4 => fun e18 h => ⟨Zd h, fun r19 h => ⟨Vr.ok h, fun r20 h => ⟨Xi.ok h, ⟨rfl, fun q5 => ⟨rfl, fun q6 => ⟨(Jo [o12.x8]), ⟨(decide_eq_true (Z5 _)), ⟨(by rw [Q5, Q5]), fun q7 => ⟨(Yj _ _), rfl⟩, fun q7 => trivial⟩⟩⟩, fun q6 => trivial⟩, fun q5 => trivial⟩⟩⟩⟩, fun q4 => trivial⟩⟩)⟩⟩⟩⟩⟩, fun q1 => rfl⟩), fun q0 => noN_ok 2 (q0) (⟨rfl, rfl⟩)⟩⟩
structure J0 where
 x14 : (List Qf)
 x15 : (List Int)
 x16 : Int
 r0 : (List Int)
 r1 : (List Int)
structure UR where
 x15 : (List Int)
 r0 : (List Int)
def ZV (a : J0) : St := { n := 139, nx := 2, env := [(9, .arr 0), (10, .arr 1), (14, .sl (Ug a.x14)), (15, .sl (Qm a.x15)), (16, xi a.x16)], heap := [(0, .arr true 1 (Qm a.r0)), (1, .arr true 1 (Qm a.r1))] }
def Fu (a : Bool) : Ex × St := (.ret, { n := 139, nx := 0, env := [(6, xo a)], heap := [] })
def Fv (a : UR) : Ex × St := (.exit 4, { n := 139, nx := 1, env := [(10, .arr 0), (15, .sl (Qm a.x15))], heap := [(0, .arr true 1 (Qm a.r0))] })
def ZW (a : (Bool ⊕ UR)) : Ex × St := Sum.elim Fu Fv a
abbrev PY := J0 → Option (Bool ⊕ UR)
def Yy (a : J0) : Option (J0 ⊕ (Bool ⊕ UR)) := (bif (decide (a.x16 < (((a.x14.length) : Nat) : Int))) then (bif (decide (0 ≤ a.x16)) then ((a.x14[(Int.toNat a.x16)]?).bind fun e1 => (bif (decide (0 ≤ a.x16 ∧ a.x16 < ((a.r0.length : Nat) : Int))) then ((a.r0[(Int.toNat a.x16)]?).bind fun e2 => (bif (e1.Line != e2) then (some (.inr (.inl false))) else (some (.inl (J0.mk a.x14 a.x15 (w64 (a.x16 + 1)) a.r0 a.r1))))) else none)) else none) else (some (.inr (.inr (UR.mk a.x15 a.r1)))))
noncomputable def J8 : PY := loopW (Yy )
theorem J8.eq (a : J0) : J8 a = (Yy a).bind (Sum.elim J8 some) := JD _ _
noncomputable abbrev Qd4 {ρ R : Type} (a : J0) (k0 : Bool → Tr ρ R) (k1 : UR → Tr ρ R) : Tr ρ R := .loop2 (loopAt pp 13 29) (ZV a) (J8 a) Fu Fv k0 k1
noncomputable def Qd5 (a : J0) : Tr (J0 ⊕ (Bool ⊕ UR)) XS := (.num ((Ug a.x14).length) (a.x14.length) (.as (decide (a.x16 < (((a.x14.length) : Nat) : Int))) (.as (decide (0 ≤ a.x16)) (.row ((Ug a.x14)[(Int.toNat a.x16)]?) (a.x14[(Int.toNat a.x16)]?) WD fun (e1 : Qf) => (.ask (in1 a.x16 (((Qm a.r0).length : Nat) : Int)) (in1 a.x16 ((a.r0.length : Nat) : Int)) (.row ((Qm a.r0)[(Int.toNat a.x16)]?) (a.r0[(Int.toNat a.x16)]?) VU fun (e2 : Int) => (.as (e1.Line != e2) (rx ZW (.inl false)) (lf ZV (J0.mk a.x14 a.x15 (w64 (a.x16 + 1)) a.r0 a.r1)))) .fail)) .fail) (rx ZW (.inr (UR.mk a.x15 a.r1)))))
theorem J8.ok {a : J0} {r : (Bool ⊕ UR)} (h : J8 a = some r) : lw 0 13 (loopAt pp 13 29) (ZV a) = some (ZW r) := by
 refine lpP h Qd5 fun a => ?_
 exact ⟨(Gw _), ⟨rfl, fun q0 => ⟨rfl, fun q1 => fun e1 h => ⟨Qio h, ⟨(by rw [Q5]), fun q2 => fun e2 h => ⟨Uz h, ⟨rfl, fun q3 => rfl, fun q3 => rfl⟩⟩, fun q2 => trivial⟩⟩, fun q1 => trivial⟩, fun q0 => rfl⟩⟩
structure J1 where
 x15 : (List Int)
 x17 : Int
 r0 : (List Int)
def ZX (a : J1) : St := { n := 139, nx := 1, env := [(10, .arr 0), (15, .sl (Qm a.x15)), (17, xi a.x17)], heap := [(0, .arr true 1 (Qm a.r0))] }
def Fw (a : Bool) : Ex × St := (.ret, { n := 139, nx := 0, env := [(6, xo a)], heap := [] })
def Fx (a : Unit) : Ex × St := (.exit 6, { n := 139, nx := 0, env := [], heap := [] })
def ZY (a : (Bool ⊕ Unit)) : Ex × St := Sum.elim Fw Fx a
abbrev PZ := J1 → Option (Bool ⊕ Unit)
def Yz (a : J1) : Option (J1 ⊕ (Bool ⊕ Unit)) := (bif (decide (a.x17 < (((a.x15.length) : Nat) : Int))) then (bif (decide (0 ≤ a.x17)) then ((a.x15[(Int.toNat a.x17)]?).bind fun e1 => (bif (decide (0 ≤ a.x17 ∧ a.x17 < ((a.r0.length : Nat) : Int))) then ((a.r0[(Int.toNat a.x17)]?).bind fun e2 => (bif (e1 != e2) then (some (.inr (.inl false))) else (some (.inl (J1.mk a.x15 (w64 (a.x17 + 1)) a.r0))))) else none)) else none) else (some (.inr (.inr ()))))
noncomputable def J9 : PZ := loopW (Yz )
theorem J9.eq (a : J1) : J9 a = (Yz a).bind (Sum.elim J9 some) := JD _ _
noncomputable abbrev Qd6 {ρ R : Type} (a : J1) (k0 : Bool → Tr ρ R) (k1 : Unit → Tr ρ R) : Tr ρ R := .loop2 (loopAt pp 13 34) (ZX a) (J9 a) Fw Fx k0 k1
noncomputable def Qd7 (a : J1) : Tr (J1 ⊕ (Bool ⊕ Unit)) XS := (.num ((Qm a.x15).length) (a.x15.length) (.as (decide (a.x17 < (((a.x15.length) : Nat) : Int))) (.as (decide (0 ≤ a.x17)) (.row ((Qm a.x15)[(Int.toNat a.x17)]?) (a.x15[(Int.toNat a.x17)]?) VU fun (e1 : Int) => (.ask (in1 a.x17 (((Qm a.r0).length : Nat) : Int)) (in1 a.x17 ((a.r0.length : Nat) : Int)) (.row ((Qm a.r0)[(Int.toNat a.x17)]?) (a.r0[(Int.toNat a.x17)]?) VU fun (e2 : Int) => (.as (e1 != e2) (rx ZY (.inl false)) (lf ZX (J1.mk a.x15 (w64 (a.x17 + 1)) a.r0)))) .fail)) .fail) (rx ZY (.inr ()))))
theorem J9.ok {a : J1} {r : (Bool ⊕ Unit)} (h : J9 a = some r) : lw 0 13 (loopAt pp 13 34) (ZX a) = some (ZY r) := by
 refine lpP h Qd7 fun a => ?_
 exact ⟨(Q5 _), ⟨rfl, fun q0 => ⟨rfl, fun q1 => fun e1 h => ⟨Uz h, ⟨(by rw [Q5]), fun q2 => fun e2 h => ⟨Uz h, ⟨rfl, fun q3 => rfl, fun q3 => rfl⟩⟩, fun q2 => trivial⟩⟩, fun q1 => trivial⟩, fun q0 => rfl⟩⟩
def Er (C0 : Qog) (C1 : Qmy) (C2 : Qgx) (L3 : PX) (L4 : PY) (L5 : PZ) (a0 : (List Qy)) (a1 : (List Int)) (a2 : (List Int)) : Option Bool := ((C0).bind fun r1 => (bif (!r1) then (some false) else ((C1 a0).bind fun r2 => (bif (!r2) then (some true) else ((L3 (QB.mk a0 a1 a2 s_ (1 : Int) (0 : Int) ([] : List Int) ([] : List Int))).bind (fun (o3 : JB) => ((C2 o3.x7).bind fun r4 => (bif ((((r4.1.length) : Nat) : Int) != (((o3.r0.length) : Nat) : Int)) then (some false) else (bif ((((r4.2.length) : Nat) : Int) != (((o3.r1.length) : Nat) : Int)) then (some false) else ((L4 (J0.mk r4.1 r4.2 (0 : Int) o3.r0 o3.r1)).bind fun x => Sum.elim (fun (o5 : Bool) => (some o5)) (fun (o6 : UR) => ((L5 (J1.mk o6.x15 (0 : Int) o6.r0)).bind fun x => Sum.elim (fun (o7 : Bool) => (some o7)) (fun (o8 : Unit) => (some true)) x)) x))))))))))
noncomputable def Wk : QhX := Er Eg G4 XH JM J8 J9
theorem Wk.eq (a0 : (List Qy)) (a1 : (List Int)) (a2 : (List Int)) : Wk a0 a1 a2 = Er Eg G4 XH JM J8 J9 a0 a1 a2 := rfl
noncomputable def Qg3 (a0 : (List Qy)) (a1 : (List Int)) (a2 : (List Int)) : Tr Bool AH := (Qnq fun r1 => (.as (!r1) (rt Ql false) (Qpk a0 fun r2 => (.as (!r2) (rt Ql true) (Qd2 (QB.mk a0 a1 a2 s_ (zi 1) i0 ([] : List Int) ([] : List Int)) (fun o3 => (Qli o3.x7 fun r4 => (.num ((Ug r4.1).length) (r4.1.length) (.num ((Qm o3.r0).length) (o3.r0.length) (let u132 := ((((r4.1.length) : Nat) : Int) != (((o3.r0.length) : Nat) : Int)); .as u132 (yesN 5 u132 (.yes true (rt Ql false))) (.no u132 (.num ((Qm r4.2).length) (r4.2.length) (noN 2 u132 (.num ((Qm o3.r1).length) (o3.r1.length) (noN 2 u132 (.as ((((r4.2.length) : Nat) : Int) != (((o3.r1.length) : Nat) : Int)) (rt Ql false) (Qd4 (J0.mk r4.1 r4.2 i0 o3.r0 o3.r1) (fun o5 => (rt Ql o5)) (fun o6 => (Qd6 (J1.mk o6.x15 i0 o6.r0) (fun o7 => (rt Ql o7)) (fun o8 => (rt Ql true)))))))))))))))))))))
theorem Wk.ok {a0 : (List Qy)} {a1 : (List Int)} {a2 : (List Int)} {r : Bool} (h : Wk a0 a1 a2 = some r) : ww 13 [.sl (V4 a0), .sl (Qm a1), .sl (Qm a2)] [] = some (Ql r) := by
 refine fnP (Qg3 a0 a1 a2) ?_ h
 exact fun r1 h => ⟨Eg.ok h, ⟨rfl, fun q0 => rfl, fun q0 => fun r2 h => ⟨G4.ok h, ⟨rfl, fun q1 => rfl, fun q1 => fun o3 h => ⟨JM.ok h, fun r4 h => ⟨XH.ok h, ⟨(Gw _), ⟨(Q5 _), ⟨rfl, fun q2 => Qk 5 (q2) (⟨rfl, rfl⟩), fun q2 => ⟨q2, ⟨(Q5 _), noN_ok 2 (q2) (⟨(Q5 _), noN_ok 2 (q2) (⟨rfl, fun q3 => rfl, fun q3 => ⟨fun o5 h => ⟨J8.ok (r := (.inl _)) h, rfl⟩, fun o6 h => ⟨J8.ok (r := (.inr _)) h, ⟨fun o7 h => ⟨J9.ok (r := (.inl _)) h, rfl⟩, fun o8 h => ⟨J9.ok (r := (.inr _)) h, rfl⟩⟩⟩⟩⟩)⟩)⟩⟩⟩⟩⟩⟩⟩⟩⟩⟩⟩
theorem Wk.run (a0 : (List Qy)) (a1 : (List Int)) (a2 : (List Int)) {r : Bool} (h : Wk a0 a1 a2 = some r) : ∃ k, evalFn Tryz.prog G k 13 [.sl (V4 a0), .sl (Qm a1), .sl (Qm a2)] [] = some (Ql r) := runP (Wk.ok h)

end Go.Ab
namespace Go.Proofs.YtblfhkldljfhiaaGreatDoor
open Go Go.Ab Go.RowKit Go.Shelf
theorem gPow : Tryz.prog.globalNamed "internal/strconv.uint64pow10" = some 5 := by kernel_rfl
theorem tPow : (Tryz.prog.globals[5]?).map (·.type) = some 287 := by kernel_rfl
theorem Qou : Tryz.prog.cellsOf 255 = 1 := by kernel_rfl
theorem Qov : Tryz.prog.cellsOf 287 = 20 := by kernel_rfl
theorem datumP {H : Type} : (Rows.laid_internal_strconv_uint64pow10 : DataW H) = Lib.tabData .u64 Lib.pow10Tab := by kernel_rfl
theorem gSp : Tryz.prog.globalNamed "strings.asciiSpace" = some 0 := by kernel_rfl
theorem tSp : (Tryz.prog.globals[0]?).map (·.type) = some 234 := by kernel_rfl
theorem Qpo : Tryz.prog.cellsOf 5 = 1 := by kernel_rfl
theorem Qpp : Tryz.prog.cellsOf 234 = 256 := by kernel_rfl
theorem datumS {H : Type} : (Rows.laid_strings_asciiSpace : DataW H) = Lib.tabData .u8 Lib.asciiSpaceTab := by kernel_rfl
def told : Ab.Told := ((told1 Tryz.prog "internal/strconv.uint64pow10" 5 (Lib.pow10Tab.map fun z => Value.int .u64 z).toArray).both (told1 Tryz.prog "strings.asciiSpace" 0 (Lib.asciiSpaceTab.map fun z => Value.int .u8 z).toArray)).both (cellT 1)
theorem Qqh {W : World} (h : laidMetH Tryz.prog [("math/bits.deBruijn32tab", Rows.laid_math_bits_deBruijn32tab), ("math/bits.deBruijn64tab", Rows.laid_math_bits_deBruijn64tab), ("internal/strconv.uint64pow10", Rows.laid_internal_strconv_uint64pow10), ("unicode/utf8.acceptRanges", Rows.laid_unicode_utf8_acceptRanges), ("strconv.ErrRange", Rows.laid_strconv_ErrRange), ("strconv.ErrSyntax", Rows.laid_strconv_ErrSyntax), ("unicode.White_Space", Rows.laid_unicode_White_Space), ("strings.asciiSpace", Rows.laid_strings_asciiSpace), ("unicode/utf8.first", Rows.laid_unicode_utf8_first)] W ∧ W.ShapedOpen Tryz.prog) : told.T (oldCtx W).Z W := by
 obtain ⟨h, hs⟩ := h
 rw [MakeChecks.laidMetH_plain _ _ _ (by kernel_rfl)] at h
 obtain ⟨ps, ⟨g0, t0, cs0, f0, p0, q0, hg0, ht0, hv0, hd0, ⟨g1, t1, cs1, f1, p1, q1, hg1, ht1, hv1, hd1, ⟨g2, t2, cs2, f2, p2, q2, hg2, ht2, hv2, hd2, ⟨g3, t3, cs3, f3, p3, q3, hg3, ht3, hv3, hd3, ⟨g4, t4, cs4, f4, p4, q4, hg4, ht4, hv4, hd4, ⟨g5, t5, cs5, f5, p5, q5, hg5, ht5, hv5, hd5, ⟨g6, t6, cs6, f6, p6, q6, hg6, ht6, hv6, hd6, ⟨g7, t7, cs7, f7, p7, q7, hg7, ht7, hv7, hd7, ⟨g8, t8, cs8, f8, p8, q8, hg8, ht8, hv8, hd8, _⟩, _⟩, _⟩, _⟩, _⟩, _⟩, _⟩, _⟩, _⟩, _⟩ := h
 refine ⟨⟨?_, ?_⟩, ?_⟩
 ·obtain rfl := Option.some.inj (gPow.symm.trans hg2)
  obtain rfl := Option.some.inj (tPow.symm.trans ht2)
  rw [datumP] at hd2
  refine QkA gPow (hv2.trans ?_) (by decide)
  have := Lib.cells_of_tab Tryz.underlying287 Tryz.underlying255 Qou Qov hd2
  rw [← this]
 ·obtain rfl := Option.some.inj (gSp.symm.trans hg7)
  obtain rfl := Option.some.inj (tSp.symm.trans ht7)
  rw [datumS] at hd7
  refine QkA gSp (hv7.trans ?_) (of_decide_eq_true (by kernel_rfl))
  have := Lib.cells_of_tab Tryz.underlying234 Tryz.underlying5 Qpo Qpp hd7
  rw [← this]
 ·exact Qoc (cell_of_shapedOpen_int (P := Tryz.prog) (t := 3) (zero := #[.int .i64 0]) hs (by decide +kernel) (by kernel_rfl) rfl (by kernel_rfl) (by kernel_rfl) Tryz.underlying3)
set_option maxHeartbeats 2000000 in
set_option maxRecDepth 100000 in
theorem Qqi (n c : Nat) (w : World) : Calls Tryz.prog 81 #[.slice none n c] w fun e w' => e = .returned (.slice none 0 0) ∧ w' = w := by
 have mixed : Tryz.prog.follows .mixedOrders = true := by kernel_rfl
 have t0 := Tryz.underlying3; have a0 := Tryz.isAgg3; have z0 := Tryz.sizeOf3; have v0 := Tryz.zeroValue3; have t1 := Tryz.underlying22; have a1 := Tryz.isAgg22; have z1 := Tryz.sizeOf22; have v1 := Tryz.zeroValue22; have t2 := Tryz.underlying4; have a2 := Tryz.isAgg4; have z2 := Tryz.sizeOf4; have v2 := Tryz.zeroValue4
 have q22 : ∀ (w : World) (a : Option Addr) (n c n' c' : Nat), (binOp .eql 22 (.slice a n c) (.slice none n' c')).run Tryz.prog w = .ok (.bool a.isNone) w := fun w a n c n' c' => Lib.run_eql_slice_nil w _ _ a n c n' c' t1
 go_enter Tryz.func81, Tryz.ntmps81
 go_wp2
 go_ret
 exact ⟨rfl, rfl⟩
set_option maxHeartbeats 2000000 in
set_option maxRecDepth 100000 in
theorem Qpq (a : Addr) (c : Nat) (w : World) : Calls Tryz.prog 81 #[.slice (some a) 0 c] w fun e w' => ∃ v', e = .returned v' ∧ w'.ownsRow w.heap.size 3 1 v' 0 [] ∧ Below w.heap.size w w' := by
 have mixed : Tryz.prog.follows .mixedOrders = true := by kernel_rfl
 have t0 := Tryz.underlying3; have a0 := Tryz.isAgg3; have z0 := Tryz.sizeOf3; have v0 := Tryz.zeroValue3; have t1 := Tryz.underlying22; have a1 := Tryz.isAgg22; have z1 := Tryz.sizeOf22; have v1 := Tryz.zeroValue22; have t2 := Tryz.underlying4; have a2 := Tryz.isAgg4; have z2 := Tryz.sizeOf4; have v2 := Tryz.zeroValue4
 have q22 : ∀ (w : World) (a : Option Addr) (n c n' c' : Nat), (binOp .eql 22 (.slice a n c) (.slice none n' c')).run Tryz.prog w = .ok (.bool a.isNone) w := fun w a n c n' c' => Lib.run_eql_slice_nil w _ _ a n c n' c' t1
 have hinfo : (Tryz.prog.info? 3).map (fun i => (i.zero, i.size, i.bytes)) = some (some (.int .i64 0), 1, 8) := by kernel_rfl
 obtain ⟨i0, hi, hz0, hz1, hz2⟩ := info_parts hinfo
 have u22 : ∀ w, Sem.run Tryz.prog (underlying 22) w = .ok (TypeDesc.slice 3) w := run_underlying t1
 go_enter Tryz.func81, Tryz.ntmps81
 go_wp2_with (at_builtin; refine wpList_append_own _ rfl _ _ 22 rfl w.heap.size 3 i0 (.int .i64 0) 1 8 t1 hi hz0 hz1 hz2 rfl (by decide) _ _ _ rfl (World.ownsRow_made w #[] 0 (Nat.le_refl _) (Nat.zero_le _) rfl) a 0 c [] rfl rfl (by intro j u hj; simp at hj) (by intro u hu; cases hu) (by unfold maxLen; omega) (by omega) (by simp) ?_)
 intro v' w1 hown hgrow hnil
 go_wp2
 go_ret
 refine ⟨v', rfl, by simpa using hown, ?_⟩
 exact ((Below.refl _ w).alloc (Nat.le_refl _) _).grown hgrow (by simp) (by intro k hk; simp [Value.ownBlock] at hk; omega)
set_option maxHeartbeats 2000000 in
set_option maxRecDepth 100000 in
theorem Qpr (b off c : Nat) (zs : List Value) (w : World) (hbig : zs.length * 8 ≤ 140737488355328) (hsc : zs.all scal = true) (hc : ∀ (j : Nat) z, zs[j]? = some z → w.cell? ⟨b, off + j, none⟩ = some z) :
  Calls Tryz.prog 81 #[.slice (some ⟨b, off, none⟩) zs.length c] w fun e w' => ∃ v', e = .returned v' ∧ w'.ownsRow w.heap.size 3 1 v' zs.length zs ∧ Below w.heap.size w w' := by
 have mixed : Tryz.prog.follows .mixedOrders = true := by kernel_rfl
 have t0 := Tryz.underlying3; have a0 := Tryz.isAgg3; have z0 := Tryz.sizeOf3; have v0 := Tryz.zeroValue3; have t1 := Tryz.underlying22; have a1 := Tryz.isAgg22; have z1 := Tryz.sizeOf22; have v1 := Tryz.zeroValue22; have t2 := Tryz.underlying4; have a2 := Tryz.isAgg4; have z2 := Tryz.sizeOf4; have v2 := Tryz.zeroValue4
 have q22 : ∀ (w : World) (a : Option Addr) (n c n' c' : Nat), (binOp .eql 22 (.slice a n c) (.slice none n' c')).run Tryz.prog w = .ok (.bool a.isNone) w := fun w a n c n' c' => Lib.run_eql_slice_nil w _ _ a n c n' c' t1
 have hinfo : (Tryz.prog.info? 3).map (fun i => (i.zero, i.size, i.bytes)) = some (some (.int .i64 0), 1, 8) := by kernel_rfl
 obtain ⟨i0, hi, hz0, hz1, hz2⟩ := info_parts hinfo
 have u22 : ∀ w, Sem.run Tryz.prog (underlying 22) w = .ok (TypeDesc.slice 3) w := run_underlying t1
 have A : Aside (∀ (j : Nat) z, zs[j]? = some z → w.cell? ⟨b, off + j, none⟩ = some z) := hc
 clear hc
 go_enter Tryz.func81, Tryz.ntmps81
 go_wp2_with (at_builtin; refine wpList_append_own _ rfl _ _ 22 rfl w.heap.size 3 i0 (.int .i64 0) 1 8 t1 hi hz0 hz1 hz2 rfl (by decide) _ _ _ rfl (World.ownsRow_made w #[] 0 (Nat.le_refl _) (Nat.zero_le _) rfl) ⟨b, off, none⟩ zs.length c zs rfl ?qc1 ?qc2 ?qc3 ?qc4 ?qc5 ?qc6 ?_)
 case qc1 => simp
 case qc2 =>
  intro j u hj
  rw [Addr.add_lit]
  exact Lib.cell?_alloc_some _ (A.out j u hj)
 case qc3 => intro u hu; exact Yf (c := oldCtx w) (w := w) (.sc u (List.all_eq_true.1 hsc u hu)) rfl
 case qc4 => unfold maxLen; omega
 case qc5 => omega
 case qc6 => simp
 intro v' w1 hown hgrow hnil
 go_wp2
 go_ret
 refine ⟨v', rfl, by simpa using hown, ?_⟩
 exact ((Below.refl _ w).alloc (Nat.le_refl _) _).grown hgrow (by simp) (by intro k hk; simp [Value.ownBlock] at hk; omega)

set_option maxHeartbeats 2000000 in
set_option maxRecDepth 100000 in
theorem Qow (n c : Nat) (w : World) : Calls Tryz.prog 77 #[.slice none n c] w fun e w' => e = .returned (.slice none 0 0) ∧ w' = w := by
 have mixed : Tryz.prog.follows .mixedOrders = true := by kernel_rfl
 have t0 := Tryz.underlying68; have a0 := Tryz.isAgg68; have z0 := Tryz.sizeOf68; have v0 := Tryz.zeroValue68; have t1 := Tryz.underlying35; have a1 := Tryz.isAgg35; have z1 := Tryz.sizeOf35; have v1 := Tryz.zeroValue35; have t2 := Tryz.underlying4; have a2 := Tryz.isAgg4; have z2 := Tryz.sizeOf4; have v2 := Tryz.zeroValue4
 have q22 : ∀ (w : World) (a : Option Addr) (n c n' c' : Nat), (binOp .eql 35 (.slice a n c) (.slice none n' c')).run Tryz.prog w = .ok (.bool a.isNone) w := fun w a n c n' c' => Lib.run_eql_slice_nil w _ _ a n c n' c' t1
 go_enter Tryz.func77, Tryz.ntmps77
 go_wp2
 go_ret
 exact ⟨rfl, rfl⟩
set_option maxHeartbeats 2000000 in
set_option maxRecDepth 100000 in
theorem QnH (a : Addr) (c : Nat) (w : World) : Calls Tryz.prog 77 #[.slice (some a) 0 c] w fun e w' => ∃ v', e = .returned v' ∧ w'.ownsRow w.heap.size 68 5 v' 0 [] ∧ Below w.heap.size w w' := by
 have mixed : Tryz.prog.follows .mixedOrders = true := by kernel_rfl
 have t0 := Tryz.underlying68; have a0 := Tryz.isAgg68; have z0 := Tryz.sizeOf68; have v0 := Tryz.zeroValue68; have t1 := Tryz.underlying35; have a1 := Tryz.isAgg35; have z1 := Tryz.sizeOf35; have v1 := Tryz.zeroValue35; have t2 := Tryz.underlying4; have a2 := Tryz.isAgg4; have z2 := Tryz.sizeOf4; have v2 := Tryz.zeroValue4
 have q22 : ∀ (w : World) (a : Option Addr) (n c n' c' : Nat), (binOp .eql 35 (.slice a n c) (.slice none n' c')).run Tryz.prog w = .ok (.bool a.isNone) w := fun w a n c n' c' => Lib.run_eql_slice_nil w _ _ a n c n' c' t1
 have hinfo : (Tryz.prog.info? 68).map (fun i => (i.zero, i.size, i.bytes)) = some (some (.agg #[.int .i64 0, .int .i64 0, .int .i64 0, .string ByteArray.empty, .slice none 0 0]), 5, 64) := by kernel_rfl
 obtain ⟨i0, hi, hz0, hz1, hz2⟩ := info_parts hinfo
 have u22 : ∀ w, Sem.run Tryz.prog (underlying 35) w = .ok (TypeDesc.slice 68) w := run_underlying t1
 go_enter Tryz.func77, Tryz.ntmps77
 go_wp2_with (at_builtin; refine wpList_append_own _ rfl _ _ 35 rfl w.heap.size 68 i0 (.agg #[.int .i64 0, .int .i64 0, .int .i64 0, .string ByteArray.empty, .slice none 0 0]) 5 64 t1 hi hz0 hz1 hz2 rfl (by decide) _ _ _ rfl (World.ownsRow_made w #[] 0 (Nat.le_refl _) (Nat.zero_le _) rfl) a 0 c [] rfl rfl (by intro j u hj; simp at hj) (by intro u hu; cases hu) (by unfold maxLen; omega) (by omega) (by simp) ?_)
 intro v' w1 hown hgrow hnil
 go_wp2
 go_ret
 refine ⟨v', rfl, by simpa using hown, ?_⟩
 exact ((Below.refl _ w).alloc (Nat.le_refl _) _).grown hgrow (by simp) (by intro k hk; simp [Value.ownBlock] at hk; omega)
set_option maxHeartbeats 2000000 in
set_option maxRecDepth 100000 in
theorem QnI (b off n c : Nat) (zs : List Value) (w : World) (hl : zs.length = n * 5) (hbig : n * 64 ≤ 140737488355328) (hml : n ≤ maxLen) (hsc : ∀ u ∈ zs, u.oneCell' = true) (hc : ∀ (j : Nat) z, zs[j]? = some z → w.cell? ⟨b, off + j, none⟩ = some z) :
  Calls Tryz.prog 77 #[.slice (some ⟨b, off, none⟩) n c] w fun e w' => ∃ v', e = .returned v' ∧ w'.ownsRow w.heap.size 68 5 v' n zs ∧ Below w.heap.size w w' := by
 have mixed : Tryz.prog.follows .mixedOrders = true := by kernel_rfl
 have t0 := Tryz.underlying68; have a0 := Tryz.isAgg68; have z0 := Tryz.sizeOf68; have v0 := Tryz.zeroValue68; have t1 := Tryz.underlying35; have a1 := Tryz.isAgg35; have z1 := Tryz.sizeOf35; have v1 := Tryz.zeroValue35; have t2 := Tryz.underlying4; have a2 := Tryz.isAgg4; have z2 := Tryz.sizeOf4; have v2 := Tryz.zeroValue4
 have q22 : ∀ (w : World) (a : Option Addr) (n c n' c' : Nat), (binOp .eql 35 (.slice a n c) (.slice none n' c')).run Tryz.prog w = .ok (.bool a.isNone) w := fun w a n c n' c' => Lib.run_eql_slice_nil w _ _ a n c n' c' t1
 have hinfo : (Tryz.prog.info? 68).map (fun i => (i.zero, i.size, i.bytes)) = some (some (.agg #[.int .i64 0, .int .i64 0, .int .i64 0, .string ByteArray.empty, .slice none 0 0]), 5, 64) := by kernel_rfl
 obtain ⟨i0, hi, hz0, hz1, hz2⟩ := info_parts hinfo
 have u22 : ∀ w, Sem.run Tryz.prog (underlying 35) w = .ok (TypeDesc.slice 68) w := run_underlying t1
 have A : Aside (∀ (j : Nat) z, zs[j]? = some z → w.cell? ⟨b, off + j, none⟩ = some z) := hc
 clear hc
 go_enter Tryz.func77, Tryz.ntmps77
 go_wp2_with (at_builtin; refine wpList_append_own _ rfl _ _ 35 rfl w.heap.size 68 i0 (.agg #[.int .i64 0, .int .i64 0, .int .i64 0, .string ByteArray.empty, .slice none 0 0]) 5 64 t1 hi hz0 hz1 hz2 rfl (by decide) _ _ _ rfl (World.ownsRow_made w #[] 0 (Nat.le_refl _) (Nat.zero_le _) rfl) ⟨b, off, none⟩ n c zs rfl ?qc1 ?qc2 ?qc3 ?qc4 ?qc5 ?qc6 ?_)
 case qc1 => exact hl
 case qc2 =>
  intro j u hj
  rw [Addr.add_lit]
  exact Lib.cell?_alloc_some _ (A.out j u hj)
 case qc3 => intro u hu; exact hsc u hu
 case qc4 => omega
 case qc5 => omega
 case qc6 => simp
 intro v' w1 hown hgrow hnil
 go_wp2
 go_ret
 refine ⟨v', rfl, by simpa using hown, ?_⟩
 exact ((Below.refl _ w).alloc (Nat.le_refl _) _).grown hgrow (by simp) (by intro k hk; simp [Value.ownBlock] at hk; omega)

set_option maxHeartbeats 2000000 in
set_option maxRecDepth 100000 in
theorem QnJ (n c : Nat) (w : World) : Calls Tryz.prog 80 #[.slice none n c] w fun e w' => e = .returned (.slice none 0 0) ∧ w' = w := by
 have mixed : Tryz.prog.follows .mixedOrders = true := by kernel_rfl
 have t0 := Tryz.underlying37; have a0 := Tryz.isAgg37; have z0 := Tryz.sizeOf37; have v0 := Tryz.zeroValue37; have t1 := Tryz.underlying52; have a1 := Tryz.isAgg52; have z1 := Tryz.sizeOf52; have v1 := Tryz.zeroValue52; have t2 := Tryz.underlying4; have a2 := Tryz.isAgg4; have z2 := Tryz.sizeOf4; have v2 := Tryz.zeroValue4
 have q22 : ∀ (w : World) (a : Option Addr) (n c n' c' : Nat), (binOp .eql 52 (.slice a n c) (.slice none n' c')).run Tryz.prog w = .ok (.bool a.isNone) w := fun w a n c n' c' => Lib.run_eql_slice_nil w _ _ a n c n' c' t1
 go_enter Tryz.func80, Tryz.ntmps80
 go_wp2
 go_ret
 exact ⟨rfl, rfl⟩
set_option maxHeartbeats 2000000 in
set_option maxRecDepth 100000 in
theorem Qme (a : Addr) (c : Nat) (w : World) : Calls Tryz.prog 80 #[.slice (some a) 0 c] w fun e w' => ∃ v', e = .returned v' ∧ w'.ownsRow w.heap.size 37 6 v' 0 [] ∧ Below w.heap.size w w' := by
 have mixed : Tryz.prog.follows .mixedOrders = true := by kernel_rfl
 have t0 := Tryz.underlying37; have a0 := Tryz.isAgg37; have z0 := Tryz.sizeOf37; have v0 := Tryz.zeroValue37; have t1 := Tryz.underlying52; have a1 := Tryz.isAgg52; have z1 := Tryz.sizeOf52; have v1 := Tryz.zeroValue52; have t2 := Tryz.underlying4; have a2 := Tryz.isAgg4; have z2 := Tryz.sizeOf4; have v2 := Tryz.zeroValue4
 have q22 : ∀ (w : World) (a : Option Addr) (n c n' c' : Nat), (binOp .eql 52 (.slice a n c) (.slice none n' c')).run Tryz.prog w = .ok (.bool a.isNone) w := fun w a n c n' c' => Lib.run_eql_slice_nil w _ _ a n c n' c' t1
 have hinfo : (Tryz.prog.info? 37).map (fun i => (i.zero, i.size, i.bytes)) = some (some (.agg #[.int .i64 0, .string ByteArray.empty, .int .i64 0, .int .i64 0, .string ByteArray.empty, .slice none 0 0]), 6, 80) := by kernel_rfl
 obtain ⟨i0, hi, hz0, hz1, hz2⟩ := info_parts hinfo
 have u22 : ∀ w, Sem.run Tryz.prog (underlying 52) w = .ok (TypeDesc.slice 37) w := run_underlying t1
 go_enter Tryz.func80, Tryz.ntmps80
 go_wp2_with (at_builtin; refine wpList_append_own _ rfl _ _ 52 rfl w.heap.size 37 i0 (.agg #[.int .i64 0, .string ByteArray.empty, .int .i64 0, .int .i64 0, .string ByteArray.empty, .slice none 0 0]) 6 80 t1 hi hz0 hz1 hz2 rfl (by decide) _ _ _ rfl (World.ownsRow_made w #[] 0 (Nat.le_refl _) (Nat.zero_le _) rfl) a 0 c [] rfl rfl (by intro j u hj; simp at hj) (by intro u hu; cases hu) (by unfold maxLen; omega) (by omega) (by simp) ?_)
 intro v' w1 hown hgrow hnil
 go_wp2
 go_ret
 refine ⟨v', rfl, by simpa using hown, ?_⟩
 exact ((Below.refl _ w).alloc (Nat.le_refl _) _).grown hgrow (by simp) (by intro k hk; simp [Value.ownBlock] at hk; omega)
set_option maxHeartbeats 2000000 in
set_option maxRecDepth 100000 in
theorem Qmf (b off n c : Nat) (zs : List Value) (w : World) (hl : zs.length = n * 6) (hbig : n * 80 ≤ 140737488355328) (hml : n ≤ maxLen) (hsc : ∀ u ∈ zs, u.oneCell' = true) (hc : ∀ (j : Nat) z, zs[j]? = some z → w.cell? ⟨b, off + j, none⟩ = some z) :
  Calls Tryz.prog 80 #[.slice (some ⟨b, off, none⟩) n c] w fun e w' => ∃ v', e = .returned v' ∧ w'.ownsRow w.heap.size 37 6 v' n zs ∧ Below w.heap.size w w' := by
 have mixed : Tryz.prog.follows .mixedOrders = true := by kernel_rfl
 have t0 := Tryz.underlying37; have a0 := Tryz.isAgg37; have z0 := Tryz.sizeOf37; have v0 := Tryz.zeroValue37; have t1 := Tryz.underlying52; have a1 := Tryz.isAgg52; have z1 := Tryz.sizeOf52; have v1 := Tryz.zeroValue52; have t2 := Tryz.underlying4; have a2 := Tryz.isAgg4; have z2 := Tryz.sizeOf4; have v2 := Tryz.zeroValue4
 have q22 : ∀ (w : World) (a : Option Addr) (n c n' c' : Nat), (binOp .eql 52 (.slice a n c) (.slice none n' c')).run Tryz.prog w = .ok (.bool a.isNone) w := fun w a n c n' c' => Lib.run_eql_slice_nil w _ _ a n c n' c' t1
 have hinfo : (Tryz.prog.info? 37).map (fun i => (i.zero, i.size, i.bytes)) = some (some (.agg #[.int .i64 0, .string ByteArray.empty, .int .i64 0, .int .i64 0, .string ByteArray.empty, .slice none 0 0]), 6, 80) := by kernel_rfl
 obtain ⟨i0, hi, hz0, hz1, hz2⟩ := info_parts hinfo
 have u22 : ∀ w, Sem.run Tryz.prog (underlying 52) w = .ok (TypeDesc.slice 37) w := run_underlying t1
 have A : Aside (∀ (j : Nat) z, zs[j]? = some z → w.cell? ⟨b, off + j, none⟩ = some z) := hc
 clear hc
 go_enter Tryz.func80, Tryz.ntmps80
 go_wp2_with (at_builtin; refine wpList_append_own _ rfl _ _ 52 rfl w.heap.size 37 i0 (.agg #[.int .i64 0, .string ByteArray.empty, .int .i64 0, .int .i64 0, .string ByteArray.empty, .slice none 0 0]) 6 80 t1 hi hz0 hz1 hz2 rfl (by decide) _ _ _ rfl (World.ownsRow_made w #[] 0 (Nat.le_refl _) (Nat.zero_le _) rfl) ⟨b, off, none⟩ n c zs rfl ?qc1 ?qc2 ?qc3 ?qc4 ?qc5 ?qc6 ?_)
 case qc1 => exact hl
 case qc2 =>
  intro j u hj
  rw [Addr.add_lit]
  exact Lib.cell?_alloc_some _ (A.out j u hj)
 case qc3 => intro u hu; exact hsc u hu
 case qc4 => omega
 case qc5 => omega
 case qc6 => simp
 intro v' w1 hown hgrow hnil
 go_wp2
 go_ret
 refine ⟨v', rfl, by simpa using hown, ?_⟩
 exact ((Below.refl _ w).alloc (Nat.le_refl _) _).grown hgrow (by simp) (by intro k hk; simp [Value.ownBlock] at hk; omega)

theorem ok_cli : FnOK1 told Tryz.prog 81 (cloneV 8) := QkD (e_ := 3) Qqi Qpq Qpr
theorem Qlj : FnOK1 told Tryz.prog 77 (cloneF 5 64) := Qeq (e_ := 68) Qow QnH QnI
theorem Qjq : FnOK1 told Tryz.prog 80 (cloneF 6 80) := Qeq (e_ := 37) QnJ Qme Qmf
theorem Qmz : FnOK1 told Tryz.prog 93 itoaX := by
 refine Qng fun n Z w h0 h1 hT => ?_
 refine (Tryz.strconv_Itoa n h0 h1 w hT.1.1.2.2.1).mono ?_
 rintro e w' ⟨rfl, k, os, rfl⟩
 exact ⟨rfl, Lib.below_grow _ _ (Nat.le_refl _) _ _⟩
theorem Qjr : FnOK1 told Tryz.prog 145 fieldsX := QkB fun s Z w h1 h2 hT => Tryz.strings_Fields_laid s w h1 h2 hT.1.2.2.2.1
theorem Qgy : FnOK1 told Tryz.prog 177 containsX := Qil fun s t Z w h1 hT => by
 obtain ⟨_, m, hm⟩ := hT.2
 exact Tryz.strings_Contains s t m w h1 hm
theorem QmA : FnOK1 told Tryz.prog 69 joinX := Qni (fun a c sep w => Tryz.strings_Join_none a c sep w) (fun bk o c xs sep w h1 h2 h3 h4 h5 => Tryz.strings_Join bk o c xs sep w h1 h2 h3 h4 h5)
theorem Qfg : FnOK1 told Tryz.prog 70 indexByteX := Qhr fun s c w => Tryz.strings_IndexByte s c w
theorem Qlk : FnOK1 told Tryz.prog 79 splitX := QlU fun s sep Z w h1 h2 hT => by
 obtain ⟨_, m, hm⟩ := hT.2
 exact Tryz.strings_Split s sep m w h1 hm h2
theorem QmB : FnOK1 told Tryz.prog 74 trimX := Qnk fun s w hs => Any.strings_Trim_laid Tryz.lays160 (by kernel_rfl) s ⟨#[32, 9]⟩ w hs (by decide) (ascii_of_all (by decide))
theorem QmC : FnOK1 told Tryz.prog 241 atoiX := Qnm fun s n w hs hn => by
 refine (Tryz.strconv_Atoi s n hs hn w).mono ?_
 rintro e w' ⟨rfl, t, rfl⟩
 exact ⟨rfl, Go.Joins.below_bytesWorld _ _ _ _ (Nat.le_refl _)⟩
theorem Qqj (f : FuncId) (x : List AV → Heap → Option (AV × Heap)) (h : G0.ext f = some x) : FnOK1 told Tryz.prog f x := by
 have h' : Go.Ab.get f extT0 = some x := h
 simp only [extT0, Go.Ab.get] at h'
 repeat' split at h'
 all_goals first
  | cases h'; done
  | (rename_i e; subst e; cases h'; first | exact ok_cli | exact Qlj | exact Qjq | exact Qmz | exact Qjr | exact Qgy | exact QmA | exact Qfg | exact Qlk | exact QmB | exact QmC)
theorem Qps : FnOK1 told Tryz.prog 23 knownX := QlV (Qih (T := told) (by kernel_rfl) Qqj 2000) Qnp
theorem ext_ok (f : FuncId) (x : List AV → Heap → Option (AV × Heap)) (h : G.ext f = some x) : FnOK1 told Tryz.prog f x := by
 have h' : Go.Ab.get f extT = some x := h
 simp only [extT, Go.Ab.get] at h'
 repeat' split at h'
 all_goals first
  | cases h'; done
  | (rename_i e; subst e; cases h'; first | exact Qps | exact ok_cli | exact Qlj | exact Qjq | exact Qmz | exact Qjr | exact Qgy | exact QmA | exact Qfg | exact Qlk | exact QmB | exact QmC)
end Go.Proofs.YtblfhkldljfhiaaGreatDoor
namespace Go.Ab
def ba (l : List UInt8) : ByteArray := ⟨l.toArray⟩
theorem bl_ba (l : List UInt8) : bl (ba l) = l := by simp [bl, ba]
theorem ba_bl (s : ByteArray) : ba (bl s) = s := by cases s; simp [bl, ba]
theorem QJ (l : List UInt8) : (ba l).size = l.length := by rw [FJ, bl_ba]
theorem ba_inj {a b : List UInt8} (h : ba a = ba b) : a = b := by rw [← bl_ba a, ← bl_ba b, h]
theorem Us (l : List UInt8) (i j : Nat) : (ba l).extract i j = ba ((l.take j).drop i) := by rw [← ba_bl ((ba l).extract i j), Qne, bl_ba]
theorem UV (a b : List UInt8) : ba a ++ ba b = ba (a ++ b) := by rw [← ba_bl (ba a ++ ba b), Qn4, bl_ba, bl_ba]
theorem YJ (l : List UInt8) (i : Nat) (d : UInt8) : (ba l).data.getD i d = l.getD i d := by rw [Qqb, bl_ba]
theorem eqS_ba (a b : List UInt8) : eqS (ba a) (ba b) = decide (a = b) := by rw [Qnd, bl_ba, bl_ba]
def isD (b : UInt8) : Bool := decide (48 ≤ b.toNat ∧ b.toNat ≤ 57)
def isS (b : UInt8) : Bool := decide (97 ≤ b.toNat ∧ b.toNat ≤ 122 ∨ b.toNat = 95)
def isI (b : UInt8) : Bool := isS b || isD b
def isH (b : UInt8) : Bool := isD b || decide (97 ≤ b.toNat ∧ b.toNat ≤ 102)
theorem UH {p : UInt8 → Bool} : ∀ (s : List UInt8) (i : Nat) (hi : i ≤ s.length), (s.take i).all p = true → (∀ h : i < s.length, p s[i] = false) → s.takeWhile p = s.take i
 | s, 0, _, _, h => by
  cases s with
  | nil => rfl
  | cons b s => have := h (by simp); simp at this; simp [this]
 | [], i + 1, hi, _, _ => by simp at hi
 | b :: s, i + 1, hi, ha, h => by
  simp only [List.take_succ_cons, List.all_cons, Bool.and_eq_true] at ha
  simp only [List.take_succ_cons, List.takeWhile_cons, ha.1, if_true]
  rw [UH s i (by simpa using hi) ha.2 (fun hl => h (by simp only [List.length_cons]; omega))]
theorem XQ {p : UInt8 → Bool} {s : List UInt8} {i : Nat} (h : i < s.length) (ha : (s.take i).all p = true) (hp : p s[i] = true) : (s.take (i + 1)).all p = true := by
 rw [List.take_succ_eq_append_getElem h, List.all_append, ha]; simp [hp]
theorem i32_in {n : Int} (h1 : 0 ≤ n) (h2 : n ≤ 2147483647) : IntKind.i32.wrap n = n := by
 have e : n % 4294967296 = n := Int.emod_eq_of_lt h1 (by omega)
 unfold IntKind.wrap
 simp [IntKind.bits, IntKind.signed, e]
 omega
def wordB (w : List UInt8) : Bool := match w with
 | [] => false
 | c :: t => decide (t.length < 12) && (!isD c && (decide ((c :: t).takeWhile isI = c :: t) && (decide (c ≠ 114) || (decide (t = []) || !decide (t.takeWhile isD = t)))))
theorem P0 {p : UInt8 → Bool} {a r : List UInt8} (ha : a.all p = true) (hr : ∀ c t, r = c :: t → p c = false) : (a ++ r).takeWhile p = a ∧ (a ++ r).dropWhile p = r := by
 induction a with
 | nil =>
  cases r with
  | nil => exact ⟨rfl, rfl⟩
  | cons c t => have := hr c t rfl; simp [List.takeWhile_cons, List.dropWhile_cons, this]
 | cons c a ih =>
  simp only [List.all_cons, Bool.and_eq_true] at ha
  obtain ⟨h1, h2⟩ := ih ha.2
  simp [List.takeWhile_cons, List.dropWhile_cons, ha.1, h1, h2]
theorem Qfx (c : UInt8) : isI c = (isS c || isD c) := rfl
theorem QmD {c : UInt8} : isS c = (isI c && !isD c) := by
 rw [Qfx]
 cases hd : isD c with
 | false => simp
 | true =>
  have : isS c = false := by
   unfold isD at hd; unfold isS
   have := of_decide_eq_true hd
   exact decide_eq_false (by omega)
  rw [this]; rfl
theorem Qc7 {p : UInt8 → Bool} {l : List UInt8} : decide (l.takeWhile p = l) = l.all p := by
 rw [Bool.eq_iff_iff, decide_eq_true_iff]
 constructor
 ·intro e; rw [← e]; exact List.all_takeWhile
 ·intro h
  have := (P0 (r := []) h (fun c t e => by cases e)).1
  rwa [List.append_nil] at this
end Go.Ab
namespace Go.Ab
theorem Qll (a n : Int) (hn : 0 < n) (hn2 : n ≤ 4611686018427387904) : Vm a n = some (a % n) := by
 rw [Vm.eq]; exact Sw a n hn hn2
end Go.Ab
namespace Go.Ab
abbrev S0 : ByteArray := s_
inductive X3 where
 | num (n : Int)
 | nm (s : ByteArray)
 | here
 | neg (x : X3)
 | bin (k : Nat) (x y : X3)
namespace X3
def t : X3 → Qa
 | num n => ⟨1, n, S0, []⟩
 | nm s => ⟨2, 0, s, []⟩
 | here => ⟨3, 0, S0, []⟩
 | neg x => ⟨4, 0, S0, [x.t]⟩
 | bin k x y => ⟨k, 0, S0, [x.t, y.t]⟩
def d : X3 → Nat
 | neg x => x.d + 1
 | bin _ x y => max x.d y.d + 1
 | _ => 0
def ok (p : ByteArray → Prop) : X3 → Prop
 | num n => 0 ≤ n ∧ n < 4294967296
 | nm s => p s
 | here => True
 | neg x => x.ok p
 | bin k x y => 5 ≤ k ∧ k ≤ 11 ∧ x.ok p ∧ y.ok p
end X3
theorem eqS_ne {x y : ByteArray} (h : x ≠ y) : eqS x y = false := by rw [Bool.eq_false_iff]; exact fun e => h (WO.1 e)
end Go.Ab
namespace Go.Ab
theorem Qc8 : ∀ (g d : Nat), g + d = 8 → ∀ l : List Qz, l.length ≤ maxLen → (∀ r ∈ l, X5 r) → ∃ n : Int, JU l d = some n ∧ 0 ≤ n ∧ n ≤ 1000 + 20 * g ∧
  (n ≤ 16 → d ≤ 7 ∧ ∀ r ∈ l, ∃ m, JU r.L (d + 1 : Nat) = some m ∧ m ≤ 16)
 | 0, d, hd, l, hl, hw => by
  obtain rfl : d = 8 := by omega
  refine ⟨1000, ?_, by omega, by omega, by omega⟩
  rw [JU.eq]; simp [Gn]
 | g + 1, d, hd, l, hl, hw => by
  rw [Qn8] at hl
  obtain ⟨r, h1, h2⟩ := Yi U7.eq
   (fun a => ∃ i : Nat, ∃ n : Int, i ≤ l.length ∧ a = ⟨l, d, n, i⟩ ∧ 0 ≤ n ∧ n ≤ 1000 + 20 * (g + 1 : Nat) ∧ (n ≤ 16 → ∀ r ∈ l.take i, ∃ m, JU r.L (d + 1 : Nat) = some m ∧ m ≤ 16))
   (fun a n => 0 ≤ n ∧ n ≤ 1000 + 20 * (g + 1 : Nat) ∧ (n ≤ 16 → ∀ r ∈ l, ∃ m, JU r.L (d + 1 : Nat) = some m ∧ m ≤ 16))
   (fun a => l.length - a.x6.toNat) (by
    rintro a ⟨i, n, hi, rfl, h0, hn, hall⟩
    simp only [Yn, Int.toNat_natCast]
    by_cases h : i < l.length
    ·have e2 : (i : Int) < (l.length : Int) := by omega
     by_cases h16 : n ≤ 16
     ·have hwi := hw l[i] (List.getElem_mem h)
      obtain ⟨_, _, _, hL, hLw⟩ := hwi
      obtain ⟨m, hm, hm0, hm1, _⟩ := Qc8 g (d + 1) (by omega) l[i].L hL hLw
      refine .inl ⟨⟨l, d, n + 1 + m, (i + 1 : Nat)⟩, ?_, ⟨i + 1, n + 1 + m, by omega, rfl, by omega, by omega, ?_⟩, ?_, fun r hr => hr⟩
      ·have ed : w64 ((d : Int) + 1) = ((d + 1 : Nat) : Int) := by rw [w64_in (by omega) (by omega)]; rfl
       rw [List.getElem?_eq_getElem h]
       simp only [e2, h16, decide_true, cond_true, Option.bind_some, Int.natCast_nonneg, ed, hm]
       rw [w64_in (n := n + 1) (by omega) (by omega), w64_in (n := n + 1 + m) (by omega) (by omega), w64_in (n := (i : Int) + 1) (by omega) (by omega)]
       rfl
      ·intro hle r hr
       rw [List.take_succ_eq_append_getElem h, List.mem_append] at hr
       rcases hr with hr | hr
       ·exact hall h16 r hr
       ·simp only [List.mem_singleton] at hr; subst hr
        exact ⟨m, hm, by omega⟩
      ·simp only [Int.toNat_natCast]; omega
     ·exact .inr ⟨n, by simp [h, h16], h0, hn, fun h => absurd h h16⟩
    ·refine .inr ⟨n, by simp [h], h0, hn, fun hle => ?_⟩
     have := hall hle
     rwa [List.take_of_length_le (by omega)] at this) ⟨l, d, 0, 0⟩ ⟨0, 0, by omega, rfl, by omega, by omega, by simp⟩
  refine ⟨r, ?_, h2.1, h2.2.1, fun h => ⟨by omega, h2.2.2 h⟩⟩
  rw [JU.eq]; unfold Gn
  have : decide ((d : Int) > 7) = false := by simp; omega
  rw [this, cond_false, h1]; rfl
def isNm (s : ByteArray) : Prop := s = Pt ∨ s = s_x ∨ s = Ew ∨ s = s_r
theorem names4 {i : Nat} (h : i < 4) : ∃ s, [Pt, s_x, Ew, s_r][i]? = some s ∧ isNm s := by
 have : i = 0 ∨ i = 1 ∨ i = 2 ∨ i = 3 := by omega
 rcases this with rfl | rfl | rfl | rfl <;> exact ⟨_, rfl, by simp [isNm]⟩
theorem Qmg : Y4 = some [Pt, s_x, Ew, s_r] := by rw [Y4.eq]; rfl
theorem SF (a : Int) (n : Nat) (hn : 0 < n) (hn2 : n ≤ 4611686018427387904) : ∃ i : Nat, i < n ∧ Vm a n = some (i : Int) := by
 have h1 := Int.emod_nonneg a (by omega : (n : Int) ≠ 0)
 have h2 := Int.emod_lt_of_pos a (by omega : (0 : Int) < n)
 exact ⟨(a % n).toNat, by omega, by rw [Qll a n (by omega) (by omega), Int.toNat_of_nonneg h1]⟩
theorem Qqk {P : Int → Prop} (l : List Int) (h : ∀ x ∈ l, P x) {i : Nat} (hi : i < l.length) : ∃ v, l[i]? = some v ∧ P v := ⟨l[i], List.getElem?_eq_getElem hi, h _ (List.getElem_mem hi)⟩
theorem Qjs : ∀ (g d : Nat), g + d = 7 → ∀ r : Qz, X5 r → (∃ m, JU r.L (d + 1 : Nat) = some m ∧ m ≤ 16) → ∃ x : X3, JR r = some x.t ∧ x.ok isNm ∧ x.d ≤ g
 | 0, d, hd, r, hw, ⟨m, hm, hm2⟩ => by
  obtain rfl : d = 7 := by omega
  obtain ⟨_, _, _, hL, hLw⟩ := hw
  obtain ⟨n, h1, _, _, h2⟩ := Qc8 0 8 rfl r.L hL hLw
  rw [h1] at hm; cases hm
  exact absurd (h2 hm2).1 (by omega)
 | g + 1, d, hd, r, hw, ⟨m, hm, hm2⟩ => by
  obtain ⟨hK, hN, _, hL, hLw⟩ := hw
  obtain ⟨n, h1, _, _, h2⟩ := Qc8 (g + 1) (d + 1) (by omega) r.L hL hLw
  rw [h1] at hm; cases hm
  obtain ⟨_, h3⟩ := h2 hm2
  have part : ∀ i : Nat, i < 2 → ∃ x : X3, UP r i = some x.t ∧ x.ok isNm ∧ x.d ≤ g := by
   intro i hi
   rw [UP.eq]; unfold YF
   by_cases h : i < r.L.length
   ·obtain ⟨x, e1, e2, e3⟩ := Qjs g (d + 1) (by omega) r.L[i] (hLw _ (List.getElem_mem h)) (h3 _ (List.getElem_mem h))
    refine ⟨x, ?_, e2, e3⟩
    have e2 : (i : Int) < (r.L.length : Int) := by omega
    rw [Qqd _ h]
    simp only [e2, decide_true, cond_true, Option.bind_some, Int.natCast_nonneg, e1]
   ·obtain ⟨j, hj, e⟩ := SF (w64 (r.N + i)) 5 (by decide) (by decide)
    have hj2 : (0 : Int) ≤ (j : Int) ∧ (j : Int) < 4294967296 := by omega
    refine ⟨.num j, ?_, hj2, by simp [X3.d]⟩
    have e2 : ¬ (i : Int) < (r.L.length : Int) := by omega
    have e' : Vm (w64 (r.N + i)) 5 = some (j : Int) := e
    simp only [e2, decide_false, cond_false, e', Option.bind_some]; rfl
  obtain ⟨x0, p0, q0, r0⟩ := part 0 (by omega)
  obtain ⟨x1, p1, q1, r1⟩ := part 1 (by omega)
  have p0 : UP r 0 = some x0.t := p0
  have p1 : UP r 1 = some x1.t := p1
  obtain ⟨k, hk, ek⟩ := SF r.K 18 (by decide) (by decide)
  have ek : Vm r.K 18 = some (k : Int) := ek
  rw [JR.eq]; unfold YG
  rw [ek]
  simp only [Option.bind_some]
  by_cases k4 : k < 4
  ·obtain ⟨j, hj, ej⟩ := SF r.N 8 (by decide) (by decide)
   have ej : Vm r.N 8 = some (j : Int) := ej
   obtain ⟨v, hv, hv2⟩ := Qqk (P := fun x => 0 ≤ x ∧ x < 4294967296) [0, 1, 2, 255, 65536, 4294967295, 40, 7] (by decide) (i := j) (by simpa using hj)
   refine ⟨.num v, ?_, hv2, by simp [X3.d]⟩
   have e1 : decide ((k : Int) < 4) = true := by simp; omega
   have e3 : decide (0 ≤ (j : Int) ∧ (j : Int) < (([(0 : Int), (1 : Int), (2 : Int), (255 : Int), (65536 : Int), (4294967295 : Int), (40 : Int), (7 : Int)].length : Nat) : Int)) = true := by simp; omega
   simp only [e1, cond_true, ej, Option.bind_some, e3, Int.toNat_natCast, hv]; rfl
  ·have e1 : decide ((k : Int) < 4) = false := by simp; omega
   by_cases k8 : k < 8
   ·obtain ⟨j, hj, ej⟩ := SF r.N 4 (by decide) (by decide)
    have ej : Vm r.N 4 = some (j : Int) := ej
    obtain ⟨s, hs, hs2⟩ := names4 hj
    refine ⟨.nm s, ?_, hs2, by simp [X3.d]⟩
    have e2 : decide ((k : Int) < 8) = true := by simp; omega
    simp only [e1, cond_false, e2, cond_true, Qmg, Option.bind_some, ej, Int.natCast_nonneg, decide_true, Int.toNat_natCast, hs]; rfl
   ·have e2 : decide ((k : Int) < 8) = false := by simp; omega
    by_cases kh : k = 8
    ·subst kh
     exact ⟨.here, rfl, trivial, by simp [X3.d]⟩
    ·have e3 : ((k : Int) == 8) = false := by simp; omega
     by_cases k11 : k < 11
     ·have e4 : decide ((k : Int) < 11) = true := by simp; omega
      refine ⟨.neg x0, ?_, q0, by simp only [X3.d]; omega⟩
      simp only [e1, e2, e3, e4, cond_false, cond_true, p0, Option.bind_some]; rfl
     ·have e4 : decide ((k : Int) < 11) = false := by simp; omega
      refine ⟨.bin (k - 6) x0 x1, ?_, ⟨by omega, by omega, q0, q1⟩, by simp only [X3.d]; omega⟩
      simp only [e1, e2, e3, e4, cond_false, p0, p1, Option.bind_some]
      rw [w64_in (n := 5 + (k : Int)) (by omega) (by omega), w64_in (n := 5 + (k : Int) - 11) (by omega) (by omega)]
      simp only [X3.t]
      rw [show (5 : Int) + k - 11 = ((k - 6 : Nat) : Int) from by omega]
theorem Qql (l : List Qz) (hl : l.length ≤ maxLen) (hw : ∀ r ∈ l, X5 r) : ∃ b, G3 l = some b ∧ (b = true → ∃ x : X3, Xo l = some x.t ∧ x.ok isNm ∧ x.d ≤ 7) := by
 obtain ⟨n, h1, _, _, h2⟩ := Qc8 8 0 rfl l hl hw
 have h1 : JU l 0 = some n := h1
 refine ⟨decide (n ≤ 16), by rw [G3.eq]; simp [QgO, h1], fun h => ?_⟩
 have h := of_decide_eq_true h
 obtain ⟨_, h3⟩ := h2 h
 rw [Xo.eq]; unfold QgS
 cases l with
 | nil => exact ⟨.num 1, rfl, by simp [X3.ok], by simp [X3.d]⟩
 | cons r l =>
  obtain ⟨x, e1, e2, e3⟩ := Qjs 7 0 rfl r (hw r (by simp)) (h3 r (by simp))
  refine ⟨x, ?_, e2, e3⟩
  have : ((((r :: l).length : Nat) : Int) == 0) = false := by simp; omega
  rw [this, cond_false]
  simp [e1]
end Go.Ab
namespace Go.Ab
theorem QmE (s : ByteArray) (i : Nat) (h : i < s.size) : s.get! i = (bl s)[i]'h := by
 simp only [ByteArray.get!, bl]
 have h' : i < s.data.size := h
 simp [getElem!_def, Array.getElem?_eq_getElem h']
theorem Qbn (s : List UInt8) {i : Nat} (h : i < s.length) (hb : s[i].toNat < 128) : Utf8.decode (ba s) i = (s[i].toNat, 1) := by
 have hg : ((ba s).get! (i + 0)).toNat = s[i].toNat := by
  rw [Nat.add_zero, QmE _ _ (by rw [QJ]; exact h)]; simp [bl_ba]
 unfold Utf8.decode
 simp only [hg]
 rw [if_pos hb]
theorem Qfh (s : List UInt8) {i : Nat} (h : i < s.length) (hb : ¬ s[i].toNat < 128) : 128 ≤ (Utf8.decode (ba s) i).1 := by
 have hg : ((ba s).get! (i + 0)).toNat = s[i].toNat := by
  rw [Nat.add_zero, QmE _ _ (by rw [QJ]; exact h)]; simp [bl_ba]
 unfold Utf8.decode
 simp only [hg]
 rw [if_neg hb]
 have he : Utf8.runeError = 65533 := rfl
 repeat' split
 all_goals simp_all
 all_goals omega
theorem ZH (n : Nat) : U5 n = some (decide (48 ≤ n ∧ n ≤ 57)) := by
 rw [U5.eq]; unfold Qax
 have c1 : decide ((n : Int) ≥ 48) = decide (48 ≤ n) := decide_eq_decide.2 (by omega)
 have c2 : decide ((n : Int) ≤ 57) = decide (n ≤ 57) := decide_eq_decide.2 (by omega)
 rw [c1, c2, Bool.decide_and]
 cases decide (48 ≤ n) <;> rfl
theorem Qka (n : Nat) : XD n = some (decide (97 ≤ n ∧ n ≤ 122 ∨ n = 95)) := by
 rw [XD.eq]; unfold QaB
 have c1 : decide ((n : Int) ≥ 97) = decide (97 ≤ n) := decide_eq_decide.2 (by omega)
 have c2 : decide ((n : Int) ≤ 122) = decide (n ≤ 122) := decide_eq_decide.2 (by omega)
 have c3 : (((n : Nat) : Int) == 95) = decide (n = 95) := by rw [Bool.eq_iff_iff, beq_iff_eq, decide_eq_true_iff]; omega
 rw [c1, c2, c3, Bool.decide_or, Bool.decide_and]
 cases decide (97 ≤ n) <;> cases decide (n ≤ 122) <;> rfl
theorem QdF (n : Nat) : XE n = some (decide (97 ≤ n ∧ n ≤ 122 ∨ n = 95) || decide (48 ≤ n ∧ n ≤ 57)) := by
 rw [XE.eq]; unfold QaC
 rw [Qka, ZH]
 simp only [Option.bind_some]
 cases decide (97 ≤ n ∧ n ≤ 122 ∨ n = 95) <;> rfl
theorem Qgz (n : Nat) : Y1 n = some (decide (48 ≤ n ∧ n ≤ 57) || decide (97 ≤ n ∧ n ≤ 102)) := by
 rw [Y1.eq]; unfold QcV
 have c1 : decide ((n : Int) ≥ 97) = decide (97 ≤ n) := decide_eq_decide.2 (by omega)
 have c2 : decide ((n : Int) ≤ 102) = decide (n ≤ 102) := decide_eq_decide.2 (by omega)
 rw [ZH, c1, c2]
 simp only [Option.bind_some]
 rw [Bool.decide_and (97 ≤ n)]
 cases decide (48 ≤ n ∧ n ≤ 57) <;> cases decide (97 ≤ n) <;> rfl
theorem QnK (s : List UInt8) : Zk (ba s) = some (ba (s.takeWhile isH)) := by
 obtain ⟨r, h1, h2⟩ := Yi Xb.eq (fun a => ∃ i : Nat, i ≤ s.length ∧ a = ⟨ba s, ba s, i⟩ ∧ (s.take i).all isH = true) (fun _ r => r = .inl (ba (s.takeWhile isH)) ∨ r = .inr (ba (s.takeWhile isH))) (fun a => s.length - a.i0p) (by
  rintro a ⟨i, hi, rfl, ha⟩
  simp only [QaA, QJ]
  by_cases h : i < s.length
  ·have c1 : decide (i < s.length) = true := by simp [h]
   by_cases hb : s[i].toNat < 128
   ·rw [Qbn s h hb, c1, cond_true]
    simp only [Qgz, Option.bind_some]
    have hp : isH s[i] = (decide (48 ≤ s[i].toNat ∧ s[i].toNat ≤ 57) || decide (97 ≤ s[i].toNat ∧ s[i].toNat ≤ 102)) := by simp [isH, isS, isD, isI]
    rw [← hp]
    cases hq : isH s[i] with
    | true => exact .inl ⟨⟨ba s, ba s, i + 1⟩, rfl, ⟨i + 1, by omega, rfl, XQ h ha hq⟩, by simp only; omega, fun r hr => hr⟩
    | false =>
     refine .inr ⟨_, ?_, .inl rfl⟩
     rw [UH s i hi ha (fun _ => hq)]
     have c2 : decide (0 ≤ (0 : Int) ∧ (0 : Int) ≤ ((i : Nat) : Int) ∧ ((i : Nat) : Int) ≤ ((s.length : Nat) : Int)) = true := by simp; omega
     simp only [Bool.not_false, cond_true, c2, Int.toNat_natCast, Int.toNat_zero, Us, List.drop_zero]
   ·have hd := Qfh s h hb
    have hq : isH s[i] = false := by simp [isH, isS, isD, isI]; omega
    rw [c1, cond_true]
    simp only [Qgz, Option.bind_some]
    generalize (Utf8.decode (ba s) i).1 = r at hd
    have hp : (decide (48 ≤ r ∧ r ≤ 57) || decide (97 ≤ r ∧ r ≤ 102)) = false := by simp; omega
    rw [hp]
    refine .inr ⟨_, ?_, .inl rfl⟩
    rw [UH s i hi ha (fun _ => hq)]
    have c2 : decide (0 ≤ (0 : Int) ∧ (0 : Int) ≤ ((i : Nat) : Int) ∧ ((i : Nat) : Int) ≤ ((s.length : Nat) : Int)) = true := by simp; omega
    simp only [Bool.not_false, cond_true, c2, Int.toNat_natCast, Int.toNat_zero, Us, List.drop_zero]
  ·have c1 : decide (i < s.length) = false := by simp; omega
   refine .inr ⟨_, by rw [c1]; rfl, .inr ?_⟩
   rw [UH s i hi ha (fun h' => absurd h' h), List.take_of_length_le (by omega)]) ⟨ba s, ba s, 0⟩ ⟨0, by omega, rfl, by simp⟩
 rw [Zk.eq]; unfold QeO
 rw [h1]
 rcases h2 with rfl | rfl <;> rfl
theorem QaU (s : List UInt8) : V0 (ba s) = some (ba (s.takeWhile isI)) := by
 obtain ⟨r, h1, h2⟩ := Yi Wv.eq (fun a => ∃ i : Nat, i ≤ s.length ∧ a = ⟨ba s, ba s, i⟩ ∧ (s.take i).all isI = true) (fun _ r => r = .inl (ba (s.takeWhile isI)) ∨ r = .inr (ba (s.takeWhile isI))) (fun a => s.length - a.i0p) (by
  rintro a ⟨i, hi, rfl, ha⟩
  simp only [FR, QJ]
  by_cases h : i < s.length
  ·have c1 : decide (i < s.length) = true := by simp [h]
   by_cases hb : s[i].toNat < 128
   ·rw [Qbn s h hb, c1, cond_true]
    simp only [QdF, Option.bind_some]
    have hp : isI s[i] = (decide (97 ≤ s[i].toNat ∧ s[i].toNat ≤ 122 ∨ s[i].toNat = 95) || decide (48 ≤ s[i].toNat ∧ s[i].toNat ≤ 57)) := by simp [isI, isS, isD, isI]
    rw [← hp]
    cases hq : isI s[i] with
    | true => exact .inl ⟨⟨ba s, ba s, i + 1⟩, rfl, ⟨i + 1, by omega, rfl, XQ h ha hq⟩, by simp only; omega, fun r hr => hr⟩
    | false =>
     refine .inr ⟨_, ?_, .inl rfl⟩
     rw [UH s i hi ha (fun _ => hq)]
     have c2 : decide (0 ≤ (0 : Int) ∧ (0 : Int) ≤ ((i : Nat) : Int) ∧ ((i : Nat) : Int) ≤ ((s.length : Nat) : Int)) = true := by simp; omega
     simp only [Bool.not_false, cond_true, c2, Int.toNat_natCast, Int.toNat_zero, Us, List.drop_zero]
   ·have hd := Qfh s h hb
    have hq : isI s[i] = false := by simp [isI, isS, isD, isI]; omega
    rw [c1, cond_true]
    simp only [QdF, Option.bind_some]
    generalize (Utf8.decode (ba s) i).1 = r at hd
    have hp : (decide (97 ≤ r ∧ r ≤ 122 ∨ r = 95) || decide (48 ≤ r ∧ r ≤ 57)) = false := by simp; omega
    rw [hp]
    refine .inr ⟨_, ?_, .inl rfl⟩
    rw [UH s i hi ha (fun _ => hq)]
    have c2 : decide (0 ≤ (0 : Int) ∧ (0 : Int) ≤ ((i : Nat) : Int) ∧ ((i : Nat) : Int) ≤ ((s.length : Nat) : Int)) = true := by simp; omega
    simp only [Bool.not_false, cond_true, c2, Int.toNat_natCast, Int.toNat_zero, Us, List.drop_zero]
  ·have c1 : decide (i < s.length) = false := by simp; omega
   refine .inr ⟨_, by rw [c1]; rfl, .inr ?_⟩
   rw [UH s i hi ha (fun h' => absurd h' h), List.take_of_length_le (by omega)]) ⟨ba s, ba s, 0⟩ ⟨0, by omega, rfl, by simp⟩
 rw [V0.eq]; unfold QbC
 rw [h1]
 rcases h2 with rfl | rfl <;> rfl
theorem Qfi (s : List UInt8) : WM (ba s) = some (ba (s.takeWhile isD)) := by
 obtain ⟨r, h1, h2⟩ := Yi Ww.eq (fun a => ∃ i : Nat, i ≤ s.length ∧ a = ⟨ba s, ba s, i⟩ ∧ (s.take i).all isD = true) (fun _ r => r = .inl (ba (s.takeWhile isD)) ∨ r = .inr (ba (s.takeWhile isD))) (fun a => s.length - a.i0p) (by
  rintro a ⟨i, hi, rfl, ha⟩
  simp only [FU, QJ]
  by_cases h : i < s.length
  ·have c1 : decide (i < s.length) = true := by simp [h]
   by_cases hb : s[i].toNat < 128
   ·rw [Qbn s h hb, c1, cond_true]
    simp only [ZH, Option.bind_some]
    have hp : isD s[i] = decide (48 ≤ s[i].toNat ∧ s[i].toNat ≤ 57) := by simp [isD, isS, isD, isI]
    rw [← hp]
    cases hq : isD s[i] with
    | true => exact .inl ⟨⟨ba s, ba s, i + 1⟩, rfl, ⟨i + 1, by omega, rfl, XQ h ha hq⟩, by simp only; omega, fun r hr => hr⟩
    | false =>
     refine .inr ⟨_, ?_, .inl rfl⟩
     rw [UH s i hi ha (fun _ => hq)]
     have c2 : decide (0 ≤ (0 : Int) ∧ (0 : Int) ≤ ((i : Nat) : Int) ∧ ((i : Nat) : Int) ≤ ((s.length : Nat) : Int)) = true := by simp; omega
     simp only [Bool.not_false, cond_true, c2, Int.toNat_natCast, Int.toNat_zero, Us, List.drop_zero]
   ·have hd := Qfh s h hb
    have hq : isD s[i] = false := by simp [isD, isS, isD, isI]; omega
    rw [c1, cond_true]
    simp only [ZH, Option.bind_some]
    generalize (Utf8.decode (ba s) i).1 = r at hd
    have hp : (decide (48 ≤ r ∧ r ≤ 57)) = false := by simp; omega
    rw [hp]
    refine .inr ⟨_, ?_, .inl rfl⟩
    rw [UH s i hi ha (fun _ => hq)]
    have c2 : decide (0 ≤ (0 : Int) ∧ (0 : Int) ≤ ((i : Nat) : Int) ∧ ((i : Nat) : Int) ≤ ((s.length : Nat) : Int)) = true := by simp; omega
    simp only [Bool.not_false, cond_true, c2, Int.toNat_natCast, Int.toNat_zero, Us, List.drop_zero]
  ·have c1 : decide (i < s.length) = false := by simp; omega
   refine .inr ⟨_, by rw [c1]; rfl, .inr ?_⟩
   rw [UH s i hi ha (fun h' => absurd h' h), List.take_of_length_le (by omega)]) ⟨ba s, ba s, 0⟩ ⟨0, by omega, rfl, by simp⟩
 rw [WM.eq]; unfold QbD
 rw [h1]
 rcases h2 with rfl | rfl <;> rfl
end Go.Ab
namespace Go.Ab
def dropB (s : List UInt8) : List UInt8 := s.dropWhile (· == 32)
theorem GD (s : List UInt8) : dropB (dropB s) = dropB s := by
 unfold dropB
 induction s with
 | nil => rfl
 | cons b s ih =>
  by_cases h : b = 32
  ·simp [List.dropWhile_cons, h, ih]
  ·simp [List.dropWhile_cons, h]
theorem Qlm (s : List UInt8) : (dropB s).length ≤ s.length := by unfold dropB; exact (List.dropWhile_sublist _).length_le
abbrev PS (s : List UInt8) (d : Int) (b : Bool) : Qb := ⟨ba s, d, b⟩
theorem Qmh (s : List UInt8) : VC (ba s) = some (ba (dropB s)) := by
 have loop : ∀ s : List UInt8, JC ⟨ba s, 32⟩ = some (ba (dropB s)) := by
  intro s
  induction s with
  | nil => rw [JC.eq]; rfl
  | cons b s ih =>
   rw [JC.eq]; unfold XW
   have c1 : decide (((b :: s).length : Int) > 0) = true := by simp only [List.length_cons, decide_eq_true_eq]; omega
   have c2 : decide (0 ≤ (0 : Int) ∧ (0 : Int) < ((b :: s).length : Int)) = true := by simp only [List.length_cons, decide_eq_true_eq]; omega
   have c4 : decide (0 ≤ (1 : Int) ∧ (1 : Int) ≤ (((b :: s).length : Nat) : Int) ∧ (((b :: s).length : Nat) : Int) ≤ (((b :: s).length : Nat) : Int)) = true := by simp only [List.length_cons, decide_eq_true_eq]; omega
   simp only [QJ, c1, c2, cond_true, YJ]
   by_cases h : b = 32
   ·have c3 : ((((b :: s).getD (Int.toNat 0) 0).toNat : Int) == 32) = true := by subst h; rfl
    rw [c3, cond_true, c4, cond_true]
    simp only [Option.bind_some, Sum.elim_inl, Us, Int.toNat_natCast]
    rw [show List.drop (Int.toNat 1) (List.take (b :: s).length (b :: s)) = s from by rw [List.take_length]; rfl, ih]
    simp [dropB, List.dropWhile_cons, h]
   ·have c3 : ((((b :: s).getD (Int.toNat 0) 0).toNat : Int) == 32) = false := by
     rw [beq_eq_false_iff_ne]
     intro e
     apply h
     have e : (b.toNat : Int) = 32 := e
     exact UInt8.toNat_inj.1 (by have : (32 : UInt8).toNat = 32 := rfl; omega)
    rw [c3, cond_false]
    simp only [Option.bind_some, Sum.elim_inr]
    simp [dropB, List.dropWhile_cons, h]
 rw [VC.eq]; unfold Gg
 by_cases h : s = []
 ·subst h; have : eqS (ba []) s_ = true := WO.2 rfl
  rw [this]; rfl
 ·have : eqS (ba s) s_ = false := by
   rw [show s_ = ba [] from rfl, eqS_ba]; simp [h]
  rw [this, cond_false, U4.eq]; unfold YZ
  rw [loop s]; rfl
theorem Qfj (s : List UInt8) (d : Int) (b : Bool) : Ud (PS s d b) = some (PS (dropB s) d b) := by
 rw [Ud.eq]; unfold Zx
 simp only [Qmh, Option.bind_some]
def pre (a s : List UInt8) : Bool := decide (s.take a.length = a)
theorem Qfk (s a : List UInt8) : U2 (ba s) (ba a) = some (pre a s) := by
 rw [U2.eq]; unfold Yq
 rw [JT.eq]; unfold YA
 simp only [QJ, Us, eqS_ba, Int.toNat_natCast]
 by_cases h : a.length ≤ s.length
 ·have c1 : decide ((s.length : Int) ≥ (a.length : Int)) = true := by simp; omega
  have c2 : decide (0 ≤ (0 : Int) ∧ (0 : Int) ≤ (a.length : Int) ∧ (a.length : Int) ≤ (s.length : Int)) = true := by simp; omega
  rw [c1, cond_true, c2, cond_true]; rfl
 ·have c1 : decide ((s.length : Int) ≥ (a.length : Int)) = false := by simp; omega
  rw [c1, cond_false]
  simp only [Option.bind_some, pre]
  rw [decide_eq_false]
  intro e
  have := congrArg List.length e
  simp at this; omega
theorem Qkb (s : List UInt8) : UY (ba s) = some (pre [48, 120] s) := by
 rw [UY.eq]; unfold Zj
 have h := Qfk s [48, 120]
 rw [U2.eq] at h; unfold Yq at h
 exact h
theorem Qfy {a s : List UInt8} (h : pre a s = true) : a.length ≤ s.length ∧ s = a ++ s.drop a.length := by
 have e : s.take a.length = a := of_decide_eq_true h
 refine ⟨?_, ?_⟩
 ·have := congrArg List.length e; simp at this; omega
 ·conv => lhs; rw [← List.take_append_drop a.length s, e]
theorem ZL (a s : List UInt8) (d : Int) (b : Bool) : Jz (ba a) (PS s d b) = some (bif b then (false, PS (dropB s) d b) else bif pre a (dropB s) then (true, PS ((dropB s).drop a.length) d b) else (false, PS (dropB s) d b)) := by
 rw [Jz.eq]; unfold Gh
 simp only [Qfj, Option.bind_some]
 cases b with
 | true => rfl
 | false =>
  simp only [cond_false, Qfk, Option.bind_some]
  cases h : pre a (dropB s) with
  | false => rfl
  | true =>
   obtain ⟨h1, h2⟩ := Qfy h
   simp only [Bool.not_true, cond_false, QJ, Us, Int.toNat_natCast, cond_true]
   have c2 : decide (0 ≤ (a.length : Int) ∧ (a.length : Int) ≤ ((dropB s).length : Int) ∧ ((dropB s).length : Int) ≤ ((dropB s).length : Int)) = true := by simp; omega
   rw [c2, cond_true, List.take_length]
def sg (k : Nat) : List UInt8 := match k with
 | 5 => [43] | 6 => [45] | 7 => [42] | 8 => [38] | 9 => [124] | 10 => [60, 60] | 11 => [62, 62] | _ => []
theorem Qpt : XF = some [s_, s_, s_, h_2e, h_2d, ba (sg 5), ba (sg 6), ba (sg 7), ba (sg 8), ba (sg 9), ba (sg 10), ba (sg 11)] := by rw [XF.eq]; rfl
theorem Qpu {k : Nat} (h : 5 ≤ k ∧ k ≤ 11) : [s_, s_, s_, h_2e, h_2d, ba (sg 5), ba (sg 6), ba (sg 7), ba (sg 8), ba (sg 9), ba (sg 10), ba (sg 11)][k]? = some (ba (sg k)) := by
 have : k = 5 ∨ k = 6 ∨ k = 7 ∨ k = 8 ∨ k = 9 ∨ k = 10 ∨ k = 11 := by omega
 rcases this with rfl | rfl | rfl | rfl | rfl | rfl | rfl <;> rfl
def lv (l : Nat) : List Nat := match l with
 | 0 => [9] | 1 => [8] | 2 => [10, 11] | 3 => [5, 6] | _ => [7]
theorem lv_ok {l k : Nat} (h : k ∈ lv l) : 5 ≤ k ∧ k ≤ 11 := by
 unfold lv at h; split at h <;> simp at h <;> omega
def kindS (ks : List Nat) (t : List UInt8) : Option Nat := ks.find? fun k => pre (sg k) t
theorem QmF (ks : List Nat) (hk : ∀ k ∈ ks, 5 ≤ k ∧ k ≤ 11) (hne : ks ≠ []) (hl : ks.length ≤ 1000) (s : List UInt8) (d : Int) (b : Bool) : JW (ks.map fun k : Nat => (k : Int)) (PS s d b) =
  some (bif b then (0, PS (dropB s) d b) else match kindS ks (dropB s) with | some k => ((k : Int), PS ((dropB s).drop (sg k).length) d b) | none => (0, PS (dropB s) d b)) := by
 obtain ⟨r, h1, h2⟩ := Yi UF.eq
  (fun a => ∃ i : Nat, ∃ s' : List UInt8, i ≤ ks.length ∧ dropB s' = dropB s ∧ (i = ks.length → s' = dropB s) ∧ a = ⟨ks.map fun k : Nat => (k : Int), ks.length, i, PS s' d b⟩ ∧ (b = false → kindS (ks.drop i) (dropB s) = kindS ks (dropB s)))
  (fun _ r => r = bif b then .inr (PS (dropB s) d b) else match kindS ks (dropB s) with | some k => .inl ⟨(k : Int), PS ((dropB s).drop (sg k).length) d b⟩ | none => .inr (PS (dropB s) d b)) (fun a => ks.length - a.x9.toNat) (by
  rintro a ⟨i, s', hi, hs, hend, rfl, hq⟩
  simp only [Zo, Int.toNat_natCast]
  by_cases h : i < ks.length
  ·have c1 : decide ((i : Int) < (ks.length : Int)) = true := by simp; omega
   have hd : ks.drop i = ks[i] :: ks.drop (i + 1) := List.drop_eq_getElem_cons h
   have hki := hk ks[i] (List.getElem_mem h)
   rw [c1, cond_true, List.getElem?_map, List.getElem?_eq_getElem h]
   simp only [Int.natCast_nonneg, decide_true, cond_true, Option.map_some, Option.bind_some, Qpt, Int.toNat_natCast, Qpu hki, ZL, hs]
   cases b with
   | true =>
    refine .inl ⟨⟨ks.map fun k : Nat => (k : Int), ks.length, (i + 1 : Nat), PS (dropB s) d true⟩, ?_, ⟨i + 1, dropB s, by omega, GD s, fun _ => rfl, rfl, fun e => by cases e⟩, by simp only [Int.toNat_natCast]; omega, fun r hr => hr⟩
    simp only [cond_true, cond_false]
    rw [w64_in (n := (i : Int) + 1) (by omega) (by omega)]; rfl
   | false =>
    simp only [cond_false]
    have hq := hq rfl
    cases hp : pre (sg ks[i]) (dropB s) with
    | true =>
     have : kindS ks (dropB s) = some ks[i] := by rw [← hq, hd]; simp only [kindS, List.find?_cons, hp]
     refine .inr ⟨_, rfl, ?_⟩
     rw [this]; rfl
    | false =>
     refine .inl ⟨⟨ks.map fun k : Nat => (k : Int), ks.length, (i + 1 : Nat), PS (dropB s) d false⟩, ?_, ⟨i + 1, dropB s, by omega, GD s, fun _ => rfl, rfl, fun _ => ?_⟩, by simp only [Int.toNat_natCast]; omega, fun r hr => hr⟩
     ·simp only [cond_false]
      rw [w64_in (n := (i : Int) + 1) (by omega) (by omega)]; rfl
     ·rw [← hq, hd]; simp only [kindS, List.find?_cons, hp]
  ·have c1 : decide ((i : Int) < (ks.length : Int)) = false := by simp; omega
   have he := hend (by omega)
   subst he
   refine .inr ⟨_, by rw [c1]; rfl, ?_⟩
   cases b with
   | true => rfl
   | false =>
    have hq := hq rfl
    rw [List.drop_eq_nil_of_le (by omega)] at hq
    rw [← hq]; rfl)
  ⟨ks.map fun k : Nat => (k : Int), ks.length, 0, PS s d b⟩ ⟨0, s, by omega, rfl, fun e => by cases ks with | nil => exact absurd rfl hne | cons => simp at e, rfl, fun _ => rfl⟩
 rw [JW.eq]; unfold Gk
 rw [List.length_map, h1, h2]
 cases b with
 | true => rfl
 | false =>
  simp only [cond_false]
  cases kindS ks (dropB s) <;> rfl
end Go.Ab
namespace Go.Ab
abbrev E0 : Qa := ⟨0, 0, s_, []⟩
def dg (b : UInt8) : Nat := if 97 ≤ b.toNat then b.toNat - 97 + 10 else b.toNat - 48
def numv (base : Nat) : List UInt8 → Nat → Option Nat
 | [], n => some n
 | b :: l, n => if n * base + dg b ≥ 4294967296 then none else numv base l (n * base + dg b)
theorem dg_lt {b : UInt8} (h : isH b = true) : dg b < 16 := by
 unfold isH isD at h; unfold dg
 simp only [Bool.or_eq_true, decide_eq_true_eq] at h
 split <;> omega
theorem F5 (s : List UInt8) (d : Int) (b : Bool) : QT (PS s d b) = some (E0, PS s d true) := by rw [QT.eq]; rfl
theorem Qox (ds r : List UInt8) (hds : ds.all isH = true) (base : Nat) (hb : base ≤ 16) (d : Int) (b : Bool) : JY (ba ds) base (PS (ds ++ r) d b) =
  some (match numv base ds 0 with | some n => (⟨1, n, s_, []⟩, PS r d b) | none => (E0, PS (ds ++ r) d true)) := by
 obtain ⟨x, h1, h2⟩ := Yi Ue.eq
  (fun a => ∃ i n : Nat, i ≤ ds.length ∧ n < 4294967296 ∧ a = ⟨ba ds, base, n, PS (ds ++ r) d b, E0, ba ds, i⟩ ∧ numv base (ds.drop i) n = numv base ds 0)
  (fun _ x => match numv base ds 0 with | some n => x = .inr ⟨ba ds, n, PS (ds ++ r) d b, E0⟩ | none => x = .inl ⟨PS (ds ++ r) d true, E0⟩)
  (fun a => ds.length - a.i2p) (by
  rintro a ⟨i, n, hi, hn, rfl, hq⟩
  simp only [YB, QJ]
  by_cases h : i < ds.length
  ·have c1 : decide (i < ds.length) = true := decide_eq_true h
   have hH : isH ds[i] = true := List.all_eq_true.1 hds _ (List.getElem_mem h)
   have hH2 := hH
   unfold isH isD at hH2
   simp only [Bool.or_eq_true, decide_eq_true_eq] at hH2
   have hdg := dg_lt hH
   have hd : ds.drop i = ds[i] :: ds.drop (i + 1) := List.drop_eq_getElem_cons h
   rw [hd] at hq
   simp only [numv] at hq
   rw [c1, cond_true, Qbn ds h (by omega)]
   simp only [F5, Option.bind_some]
   have hmul : n * base ≤ 4294967296 * 16 := Nat.mul_le_mul (by omega) hb
   have em : w64 ((n : Int) * (base : Int)) = ((n * base : Nat) : Int) := by rw [← Int.natCast_mul]; exact w64_in (by omega) (by omega)
   have key : ∀ x : Int, x = (dg ds[i] : Int) → w64 (w64 ((n : Int) * (base : Int)) + w64 x) = ((n * base + dg ds[i] : Nat) : Int) := by
    intro x hx
    rw [em, hx, w64_in (n := (dg ds[i] : Int)) (by omega) (by omega), w64_in (by omega) (by omega)]; omega
   by_cases h97 : 97 ≤ ds[i].toNat
   ·have c2 : decide ((ds[i].toNat : Int) ≥ 97) = true := decide_eq_true (by omega)
    have hdv : dg ds[i] = ds[i].toNat - 97 + 10 := by unfold dg; rw [if_pos h97]
    have e1 : w64 (IntKind.i32.wrap ((ds[i].toNat : Int) - 97)) + 10 = (dg ds[i] : Int) := by
     rw [i32_in (by omega) (by omega), w64_in (by omega) (by omega)]; omega
    rw [c2, cond_true, key _ e1]
    by_cases hbig : n * base + dg ds[i] ≥ 4294967296
    ·rw [if_pos hbig] at hq
     have c3 : decide (((n * base + dg ds[i] : Nat) : Int) ≥ 4294967296) = true := decide_eq_true (by omega)
     rw [c3, cond_true]
     exact .inr ⟨_, rfl, by rw [← hq]⟩
    ·rw [if_neg hbig] at hq
     have c3 : decide (((n * base + dg ds[i] : Nat) : Int) ≥ 4294967296) = false := decide_eq_false (by omega)
     rw [c3, cond_false]
     exact .inl ⟨_, rfl, ⟨i + 1, _, by omega, by omega, rfl, hq⟩, by simp only; omega, fun x hx => hx⟩
   ·have c2 : decide ((ds[i].toNat : Int) ≥ 97) = false := decide_eq_false (by omega)
    have hdv : dg ds[i] = ds[i].toNat - 48 := by unfold dg; rw [if_neg h97]
    have e1 : IntKind.i32.wrap ((ds[i].toNat : Int) - 48) = (dg ds[i] : Int) := by
     rw [i32_in (by omega) (by omega)]; omega
    rw [c2, cond_false, key _ e1]
    by_cases hbig : n * base + dg ds[i] ≥ 4294967296
    ·rw [if_pos hbig] at hq
     have c3 : decide (((n * base + dg ds[i] : Nat) : Int) ≥ 4294967296) = true := decide_eq_true (by omega)
     rw [c3, cond_true]
     exact .inr ⟨_, rfl, by rw [← hq]⟩
    ·rw [if_neg hbig] at hq
     have c3 : decide (((n * base + dg ds[i] : Nat) : Int) ≥ 4294967296) = false := decide_eq_false (by omega)
     rw [c3, cond_false]
     exact .inl ⟨_, rfl, ⟨i + 1, _, by omega, by omega, rfl, hq⟩, by simp only; omega, fun x hx => hx⟩
  ·have c1 : decide (i < ds.length) = false := decide_eq_false h
   rw [List.drop_eq_nil_of_le (by omega)] at hq
   refine .inr ⟨_, by rw [c1]; rfl, ?_⟩
   rw [← hq]; rfl) ⟨ba ds, base, 0, PS (ds ++ r) d b, E0, ba ds, 0⟩ ⟨0, 0, by omega, by omega, rfl, rfl⟩
 rw [JY.eq]; unfold Zy
 rw [h1]
 cases hv : numv base ds 0 with
 | none => rw [hv] at h2; simp only at h2; subst h2; rfl
 | some n =>
  rw [hv] at h2; simp only at h2; subst h2
  simp only [Option.bind_some, Sum.elim_inr, QJ, Us, Int.toNat_natCast, List.length_append]
  have c2 : decide (0 ≤ (ds.length : Int) ∧ (ds.length : Int) ≤ ((ds.length + r.length : Nat) : Int) ∧ ((ds.length + r.length : Nat) : Int) ≤ ((ds.length + r.length : Nat) : Int)) = true := decide_eq_true (by omega)
  rw [c2, cond_true, List.take_of_length_le (by simp), List.drop_left]
theorem Qln (x : Qa) (s : List UInt8) (d : Int) (b : Bool) : J7 x (PS s d b) = some (if s.takeWhile isI = [] then (x, PS s d b) else (E0, PS s d true)) := by
 rw [J7.eq]; unfold ZN
 simp only [QaU, Option.bind_some, F5]
 rw [show s_ = ba [] from rfl, eqS_ba]
 by_cases h : s.takeWhile isI = []
 ·rw [if_pos h]; simp [h]
 ·rw [if_neg h]; simp [h]
theorem Qqm (w : List UInt8) : XM (ba w) = some (wordB w) := by
 rw [XM.eq]; unfold QbF
 rw [show s_ = ba [] from rfl, eqS_ba]
 cases w with
 | nil => rfl
 | cons c t =>
  simp only [QJ, YJ, QaU, Us, Qfi, Option.bind_some, eqS_ba]
  have c0 : decide (c :: t = []) = false := by simp
  have c2 : decide (0 ≤ (0 : Int) ∧ (0 : Int) < (((c :: t).length : Nat) : Int)) = true := decide_eq_true (by simp only [List.length_cons]; omega)
  have c3 : decide (0 ≤ (1 : Int) ∧ (1 : Int) ≤ (((c :: t).length : Nat) : Int) ∧ (((c :: t).length : Nat) : Int) ≤ (((c :: t).length : Nat) : Int)) = true := decide_eq_true (by simp only [List.length_cons]; omega)
  have c4 : IntKind.i32.wrap (((((c :: t).getD (Int.toNat 0) 0).toNat : Nat) : Int)) = (c.toNat : Int) := by
   show IntKind.i32.wrap (c.toNat : Int) = _
   exact i32_in (by omega) (by have := c.toNat_lt; omega)
  have e1 : ((c :: t).take (Int.toNat (((c :: t).length : Nat) : Int))).drop (Int.toNat 1) = t := by rw [Int.toNat_natCast, List.take_length]; rfl
  rw [c0, cond_false, c2, cond_true, c4, ZH, c3, e1]
  simp only [Option.bind_some, eqS_ba, cond_true]
  have c1 : decide ((((c :: t).length : Nat) : Int) > 12) = !decide (t.length < 12) := by
   by_cases h : t.length < 12
   ·rw [decide_eq_true h, decide_eq_false (by simp only [List.length_cons]; omega)]; rfl
   ·rw [decide_eq_false h, decide_eq_true (by simp only [List.length_cons]; omega)]; rfl
  have c5 : ((((c :: t).getD (Int.toNat 0) 0).toNat : Int) != 114) = decide (c ≠ 114) := by
   show ((c.toNat : Int) != 114) = _
   rw [Bool.eq_iff_iff, bne_iff_ne, decide_eq_true_iff]
   have : (114 : UInt8).toNat = 114 := rfl
   constructor
   ·intro h e; subst e; exact h rfl
   ·intro h e; exact h (UInt8.toNat_inj.1 (by omega))
  have c6 : ((((c :: t).length : Nat) : Int) == 1) = decide (t = []) := by
   rw [Bool.eq_iff_iff, beq_iff_eq, decide_eq_true_iff]
   cases t <;> simp <;> omega
  rw [c1, c5, c6]
  have hw : wordB (c :: t) = (decide (t.length < 12) && (!isD c && (decide ((c :: t).takeWhile isI = c :: t) && (decide (c ≠ 114) || (decide (t = []) || !decide (t.takeWhile isD = t)))))) := rfl
  rw [hw]
  have c7 : decide (48 ≤ c.toNat ∧ c.toNat ≤ 57) = isD c := rfl
  rw [c7]
  cases decide (t.length < 12) <;> cases isD c <;> cases decide ((c :: t).takeWhile isI = c :: t) <;> cases decide (c ≠ 114) <;> cases decide (t = []) <;> rfl
end Go.Ab
namespace Go.Ab
theorem Qqn {p : UInt8 → Bool} (t : List UInt8) : t.drop (t.takeWhile p).length = t.dropWhile p := by
 conv => lhs; rw [← List.takeWhile_append_dropWhile (p := p) (l := t)]
 rw [List.takeWhile_append_dropWhile, ]
 conv => lhs; arg 2; rw [← List.takeWhile_append_dropWhile (p := p) (l := t)]
 exact List.drop_left
def tailA (base : Nat) (h r : List UInt8) : Option (X3 × List UInt8) := match numv base h 0 with
 | some n => if r.takeWhile isI = [] then some (.num n, r) else none
 | none => none
def atomS (t : List UInt8) : Option (X3 × List UInt8) :=
 bif pre [48, 120] t && !decide ((t.drop 2).takeWhile isH = []) then tailA 16 ((t.drop 2).takeWhile isH) ((t.drop 2).dropWhile isH)
 else bif !decide (t.takeWhile isD = []) then tailA 10 (t.takeWhile isD) (t.dropWhile isD)
 else bif wordB (t.takeWhile isI) then some (.nm (ba (t.takeWhile isI)), t.dropWhile isI) else none
def PR (f : Option (Qa × Qb)) (d : Int) (o : Option (X3 × List UInt8)) : Prop := match o with
 | some (x, r) => f = some (x.t, PS r d false)
 | none => ∃ e r, f = some (e, PS r d true)
theorem all_tw {p q : UInt8 → Bool} (hpq : ∀ b, p b = true → q b = true) (t : List UInt8) : (t.takeWhile p).all q = true := by
 rw [List.all_eq_true]; intro b hb; exact hpq b (List.all_eq_true.1 List.all_takeWhile b hb)
theorem QmG (base : Nat) (hb : base ≤ 16) (h r : List UInt8) (hh : h.all isH = true) (d : Int) :
  PR ((JY (ba h) base (PS (h ++ r) d false)).bind fun q => (J7 q.1 q.2).bind fun q => some (q.1, q.2)) d (tailA base h r) := by
 rw [Qox h r hh base hb]
 unfold tailA
 cases hv : numv base h 0 with
 | none =>
  simp only [Option.bind_some, Qln]
  split <;> exact ⟨_, _, rfl⟩
 | some n =>
  simp only [Option.bind_some, Qln]
  split
  ·rfl
  ·exact ⟨_, _, rfl⟩
theorem Qg4 {s r : List UInt8} (h : dropB s = 40 :: r) (d : Int) : QE (PS s d false) = Q2 (PS r d false) := by
 rw [QE.eq]; unfold VL
 simp only [show h_28 = ba [40] from rfl, ZL, cond_true, Option.bind_some, cond_false, h]
 rw [show pre [40] (40 :: r) = true from by simp [pre]]
 simp only [cond_true]
 show (Q2 (PS r d false)).bind (fun r2 => some (r2.1, r2.2)) = _
 cases Q2 (PS r d false) <;> rfl
theorem SN {a : UInt8} {t : List UInt8} (h : ∀ r, t ≠ a :: r) : pre [a] t = false := by
 cases t with
 | nil => simp [pre]
 | cons b t =>
  have : b ≠ a := fun e => h t (by rw [e])
  simp [pre, this]
theorem Qfl {s r : List UInt8} (h : dropB s = 45 :: r) (d : Int) : QE (PS s d false) = QS (PS r d false) := by
 rw [QE.eq]; unfold VL
 simp only [show h_28 = ba [40] from rfl, show h_2d = ba [45] from rfl, ZL, cond_true, Option.bind_some, cond_false, h]
 rw [show pre [40] (45 :: r) = false from by simp [pre]]
 simp only [cond_false, ZL]
 rw [show dropB (45 :: r) = 45 :: r from by simp [dropB, List.dropWhile_cons], show pre [45] (45 :: r) = true from by simp [pre]]
 simp only [cond_true, Option.bind_some]
 show (QS (PS r d false)).bind (fun r2 => some (r2.1, r2.2)) = _
 cases QS (PS r d false) <;> rfl
theorem QmH {s r : List UInt8} (h : dropB s = 46 :: r) (d : Int) : QE (PS s d false) = some (X3.here.t, PS r d false) := by
 rw [QE.eq]; unfold VL
 simp only [show h_28 = ba [40] from rfl, show h_2d = ba [45] from rfl, show h_2e = ba [46] from rfl, ZL, cond_true, Option.bind_some, cond_false, h]
 rw [show pre [40] (46 :: r) = false from by simp [pre]]
 simp only [cond_false, ZL]
 rw [show dropB (46 :: r) = 46 :: r from by simp [dropB, List.dropWhile_cons], show pre [45] (46 :: r) = false from by simp [pre]]
 simp only [cond_false, Option.bind_some, ZL]
 rw [show dropB (46 :: r) = 46 :: r from by simp [dropB, List.dropWhile_cons], show pre [46] (46 :: r) = true from by simp [pre]]
 rfl
theorem Qg5 {s t : List UInt8} (h : dropB s = t) (h1 : ∀ r, t ≠ 40 :: r) (h2 : ∀ r, t ≠ 45 :: r) (h3 : ∀ r, t ≠ 46 :: r) (d : Int) : PR (QE (PS s d false)) d (atomS t) := by
 have ht : dropB t = t := by rw [← h, GD]
 rw [QE.eq]; unfold VL
 simp only [show h_28 = ba [40] from rfl, show h_2d = ba [45] from rfl, show h_2e = ba [46] from rfl, ZL, cond_true, Option.bind_some, cond_false, h, ht, SN h1, SN h2, SN h3, Qkb, QnK, QaU, Qfi, QJ, Us, Qqm, F5]
 have rest : ∀ (P : Prop), (PR (bif !eqS (ba (t.takeWhile isD)) s_ then (JY (ba (t.takeWhile isD)) 10 (PS t d false)).bind fun r18 => (J7 r18.1 r18.2).bind fun r19 => some (r19.1, r19.2)
   else bif wordB (t.takeWhile isI) then (bif decide (0 ≤ (((t.takeWhile isI).length : Nat) : Int) ∧ (((t.takeWhile isI).length : Nat) : Int) ≤ ((t.length : Nat) : Int) ∧ ((t.length : Nat) : Int) ≤ ((t.length : Nat) : Int)) then
    some ((⟨2, 0, ba (t.takeWhile isI), []⟩ : Qa), (⟨ba ((t.take (Int.toNat ((t.length : Nat) : Int))).drop (Int.toNat (((t.takeWhile isI).length : Nat) : Int))), d, false⟩ : Qb)) else none) else some ((⟨0, 0, s_, []⟩ : Qa), (⟨ba t, d, true⟩ : Qb))) d
   (bif !decide (t.takeWhile isD = []) then tailA 10 (t.takeWhile isD) (t.dropWhile isD) else bif wordB (t.takeWhile isI) then some (.nm (ba (t.takeWhile isI)), t.dropWhile isI) else none) → P) → P := by
  intro P k
  apply k
  rw [show s_ = ba [] from rfl, eqS_ba]
  cases hD : decide (t.takeWhile isD = []) with
  | false =>
   simp only [Bool.not_false, cond_true]
   have := QmG 10 (by decide) (t.takeWhile isD) (t.dropWhile isD) (all_tw (fun b hb => by simp [isH, hb]) t) d
   rw [List.takeWhile_append_dropWhile] at this
   exact this
  | true =>
   simp only [Bool.not_true, cond_false]
   cases hw : wordB (t.takeWhile isI) with
   | false => exact ⟨_, _, rfl⟩
   | true =>
    simp only [cond_true]
    have hl : (t.takeWhile isI).length ≤ t.length := (List.takeWhile_sublist _).length_le
    have c1 : decide (0 ≤ (((t.takeWhile isI).length : Nat) : Int) ∧ (((t.takeWhile isI).length : Nat) : Int) ≤ ((t.length : Nat) : Int) ∧ ((t.length : Nat) : Int) ≤ ((t.length : Nat) : Int)) = true := decide_eq_true (by omega)
    rw [c1, cond_true, Int.toNat_natCast, Int.toNat_natCast, List.take_length, Qqn]
    rfl
 unfold atomS
 cases hp : pre [48, 120] t with
 | false =>
  simp only [Bool.false_and, cond_false]
  exact rest _ id
 | true =>
  have hlen := (Qfy hp).1
  have c1 : decide (0 ≤ (2 : Int) ∧ (2 : Int) ≤ ((t.length : Nat) : Int) ∧ ((t.length : Nat) : Int) ≤ ((t.length : Nat) : Int)) = true := decide_eq_true (by simp at hlen; omega)
  have e2 : (t.take (Int.toNat ((t.length : Nat) : Int))).drop (Int.toNat 2) = t.drop 2 := by rw [Int.toNat_natCast, List.take_length]; rfl
  simp only [Bool.true_and, cond_true]
  rw [c1, cond_true, e2]
  cases hH : decide ((t.drop 2).takeWhile isH = []) with
  | true =>
   have : eqS (ba ((t.drop 2).takeWhile isH)) s_ = true := by rw [show s_ = ba [] from rfl, eqS_ba, hH]
   rw [this]
   simp only [Bool.not_true, cond_false]
   exact rest _ id
  | false =>
   have : eqS (ba ((t.drop 2).takeWhile isH)) s_ = false := by rw [show s_ = ba [] from rfl, eqS_ba, hH]
   rw [this]
   simp only [Bool.not_false, cond_true]
   have := QmG 16 (by decide) ((t.drop 2).takeWhile isH) ((t.drop 2).dropWhile isH) (all_tw (fun b hb => hb) _) d
   rw [List.takeWhile_append_dropWhile] at this
   exact this
end Go.Ab
namespace Go.Ab
theorem Qfm : VB = some [[9], [8], [10, 11], [5, 6], [7]] := by rw [VB.eq]; rfl
theorem Qjt {l : Nat} (h : l < 5) : ([[9], [8], [10, 11], [5, 6], [7]] : List (List Int))[l]? = some ((lv l).map fun k : Nat => (k : Int)) := by
 have : l = 0 ∨ l = 1 ∨ l = 2 ∨ l = 3 ∨ l = 4 := by omega
 rcases this with rfl | rfl | rfl | rfl | rfl <;> rfl
theorem lv_ne (l : Nat) : lv l ≠ [] := by unfold lv; split <;> simp
theorem lv_len (l : Nat) : (lv l).length ≤ 1000 := by unfold lv; split <;> simp
theorem two5 (p : Qb) : Qo 5 p = QE p := by
 rw [Qo.eq]; unfold WJ
 simp only [Qfm, Option.bind_some]
 show (QE p).bind (fun r2 => some (r2.1, r2.2)) = _
 cases QE p <;> rfl
noncomputable def PL (l : Nat) (p : Qb) (x : Qa) : Option (Qa × Qb) :=
 (JW ((lv l).map fun k : Nat => (k : Int)) p).bind fun r6 => (Q1 ⟨(l : Int), r6.1, r6.2, E0, x⟩).bind fun o => some (o.h2, o.h0)
theorem two_lt {l : Nat} (h : l < 5) (p : Qb) : Qo (l : Int) p = (Qo ((l + 1 : Nat) : Int) p).bind fun r => PL l r.2 r.1 := by
 rw [Qo.eq]; unfold WJ
 simp only [Qfm, Option.bind_some]
 have c1 : ((l : Int) == (([[9], [8], [10, 11], [5, 6], [7]] : List (List Int)).length : Nat)) = false := by
  rw [beq_eq_false_iff_ne]; simp; omega
 have c2 : decide (0 ≤ (l : Int)) = true := decide_eq_true (by omega)
 rw [c1, cond_false, w64_in (n := (l : Int) + 1) (by omega) (by omega), c2]
 simp only [cond_true, Int.toNat_natCast, Qjt h, Option.bind_some]
 rfl
theorem PL_bad {l : Nat} (s : List UInt8) (d : Int) (x : Qa) : PL l (PS s d true) x = some (x, PS (dropB s) d true) := by
 unfold PL
 rw [QmF _ (fun k hk => lv_ok hk) (lv_ne l) (lv_len l)]
 simp only [cond_true, Option.bind_some]
 rw [Q1.eq]; rfl
theorem PL_eq {l : Nat} (h : l < 5) (s : List UInt8) (d : Int) (x : Qa) : PL l (PS s d false) x = match kindS (lv l) (dropB s) with
  | none => some (x, PS (dropB s) d false)
  | some k => (Qo ((l + 1 : Nat) : Int) (PS ((dropB s).drop (sg k).length) d false)).bind fun r => PL l r.2 ⟨k, 0, s_, [x, r.1]⟩ := by
 conv => lhs; unfold PL
 rw [QmF _ (fun k hk => lv_ok hk) (lv_ne l) (lv_len l)]
 simp only [cond_false, Option.bind_some]
 cases hk : kindS (lv l) (dropB s) with
 | none => simp only; rw [Q1.eq]; rfl
 | some k =>
  have h5 := lv_ok (List.mem_of_find?_eq_some hk)
  have c1 : ((k : Int) != 0) = true := by rw [bne_iff_ne]; omega
  have c2 : decide (0 ≤ (l : Int)) = true := decide_eq_true (by omega)
  simp only
  rw [Q1.eq]; unfold V8
  simp only [c1, cond_true, Bool.not_false, c2, Qfm, Option.bind_some, Int.toNat_natCast, Qjt h]
  rw [w64_in (n := (l : Int) + 1) (by omega) (by omega)]
  show Option.bind (Option.bind (Option.bind (Qo ((l + 1 : Nat) : Int) (PS ((dropB s).drop (sg k).length) d false)) _) _) _ = _
  cases Qo ((l + 1 : Nat) : Int) (PS ((dropB s).drop (sg k).length) d false) with
  | none => rfl
  | some r =>
   simp only [Option.bind_some]
   unfold PL
   cases JW ((lv l).map fun k : Nat => (k : Int)) r.2 <;> rfl
theorem QhY {d : Int} (h : d ≥ 12) (s : List UInt8) : Q2 (PS s d false) = some (E0, PS s d true) ∧ QS (PS s d false) = some (E0, PS s d true) := by
 constructor
 ·rw [Q2.eq]; unfold V7
  simp only [F5, decide_eq_true h, cond_true, Option.bind_some]
 ·rw [QS.eq]; unfold VE
  simp only [F5, decide_eq_true h, cond_true, Option.bind_some]
theorem Qju {d : Int} (h0 : 0 ≤ d) (h : d < 12) (s : List UInt8) {o : Option (X3 × List UInt8)} (ho : PR (Qo 0 (PS s (d + 1) false)) (d + 1) o) :
  PR (Q2 (PS s d false)) d (o.bind fun xr => bif pre [41] (dropB xr.2) then some (xr.1, (dropB xr.2).drop 1) else none) := by
 rw [Q2.eq]; unfold V7
 have c1 : decide (d ≥ 12) = false := decide_eq_false (by omega)
 simp only [c1, cond_false]
 rw [w64_in (n := d + 1) (by omega) (by omega), JK.eq]; unfold WQ
 have wd : w64 (d + 1 - 1) = d := by rw [w64_in (by omega) (by omega)]; omega
 cases o with
 | none =>
  obtain ⟨e, r, he⟩ := ho
  have he : Qo 0 ⟨ba s, d + 1, false⟩ = some (e, PS r (d + 1) true) := he
  simp only [he, Option.bind_some, show h_29 = ba [41] from rfl, ZL, cond_true, Bool.not_false, F5, Option.bind_none, wd]
  exact ⟨_, _, rfl⟩
 | some xr =>
  obtain ⟨x, r⟩ := xr
  have ho : Qo 0 ⟨ba s, d + 1, false⟩ = some (x.t, PS r (d + 1) false) := ho
  simp only [ho, Option.bind_some, show h_29 = ba [41] from rfl, ZL, cond_false]
  cases hp : pre [41] (dropB r) with
  | false =>
   simp only [cond_false, Bool.not_false, cond_true, F5, Option.bind_some, wd]
   exact ⟨_, _, rfl⟩
  | true =>
   simp only [cond_true, Bool.not_true, cond_false, Option.bind_some, wd]
   rfl
theorem Qlo {d : Int} (h0 : 0 ≤ d) (h : d < 12) (s : List UInt8) {o : Option (X3 × List UInt8)} (ho : PR (QE (PS s (d + 1) false)) (d + 1) o) :
  PR (QS (PS s d false)) d (o.bind fun xr => some (.neg xr.1, xr.2)) := by
 rw [QS.eq]; unfold VE
 have c1 : decide (d ≥ 12) = false := decide_eq_false (by omega)
 simp only [c1, cond_false]
 rw [w64_in (n := d + 1) (by omega) (by omega), JL.eq]; unfold WR
 have wd : w64 (d + 1 - 1) = d := by rw [w64_in (by omega) (by omega)]; omega
 cases o with
 | none =>
  obtain ⟨e, r, he⟩ := ho
  have he : QE ⟨ba s, d + 1, false⟩ = some (e, PS r (d + 1) true) := he
  simp only [he, Option.bind_some, wd, Option.bind_none]
  exact ⟨_, _, rfl⟩
 | some xr =>
  obtain ⟨x, r⟩ := xr
  have ho : QE ⟨ba s, d + 1, false⟩ = some (x.t, PS r (d + 1) false) := ho
  simp only [ho, Option.bind_some, wd]
  rfl
theorem Qlp (s : List UInt8) {o : Option (X3 × List UInt8)} (ho : PR (Qo 0 (PS s 0 false)) 0 o) :
  Wp (ba s) = some (match o with | some (x, r) => if dropB r = [] then (x.t, true) else (E0, false) | none => (E0, false)) := by
 rw [Wp.eq]; unfold QaE
 cases o with
 | none =>
  obtain ⟨e, r, he⟩ := ho
  have he : Qo 0 ⟨ba s, 0, false⟩ = some (e, PS r 0 true) := he
  simp only [he, Option.bind_some, Qfj, cond_true]
 | some xr =>
  obtain ⟨x, r⟩ := xr
  have ho : Qo 0 ⟨ba s, 0, false⟩ = some (x.t, PS r 0 false) := ho
  simp only [ho, Option.bind_some, Qfj, cond_false]
  rw [show s_ = ba [] from rfl, eqS_ba]
  by_cases h : dropB r = []
  ·simp [h]
  ·simp [h]; rfl
end Go.Ab
namespace Go.Ab
inductive Sp : List (List UInt8) → List UInt8 → Prop
 | nil (b : List UInt8) (hb : ∀ c ∈ b, c = 32) : Sp [] b
 | cons (b t s : List UInt8) (ts : List (List UInt8)) (hb : ∀ c ∈ b, c = 32) (h : Sp ts s) : Sp (t :: ts) (b ++ (t ++ s))
theorem Fy {b s : List UInt8} (hb : ∀ c ∈ b, c = 32) : dropB (b ++ s) = dropB s := by
 induction b with
 | nil => rfl
 | cons c b ih =>
  have hc := hb c (by simp)
  subst hc
  rw [List.cons_append]
  show List.dropWhile _ _ = _
  rw [List.dropWhile_cons]
  simp only [beq_self_eq_true, if_true]
  exact ih fun c h => hb c (by simp [h])
theorem GE {c : UInt8} {s : List UInt8} (h : c ≠ 32) : dropB (c :: s) = c :: s := by
 unfold dropB; rw [List.dropWhile_cons]; simp [h]
theorem Sp.nil_drop {s : List UInt8} (h : Sp [] s) : dropB s = [] := by
 cases h with
 | nil b hb =>
  have := Fy (s := []) hb
  rw [List.append_nil] at this; rw [this]; rfl
theorem Sp.cons_drop {c : UInt8} {t s : List UInt8} {ts : List (List UInt8)} (h : Sp ((c :: t) :: ts) s) (hc : c ≠ 32) : ∃ s', dropB s = c :: (t ++ s') ∧ Sp ts s' := by
 cases h with
 | cons b t' s' ts' hb h' => exact ⟨s', by rw [Fy hb]; exact GE hc, h'⟩
theorem Sp.drop {s : List UInt8} {ts : List (List UInt8)} (h : Sp ts s) : Sp ts (dropB s) ∨ ∃ c t ts', ts = (c :: t) :: ts' ∧ c = 32 ∨ ts = [] :: ts' := by
 cases h with
 | nil b hb =>
  left
  have := Fy (s := []) hb
  rw [List.append_nil] at this; rw [this]; exact .nil [] (by simp)
 | cons b t s' ts' hb h' =>
  cases t with
  | nil => exact .inr ⟨0, [], ts', .inr rfl⟩
  | cons c t =>
   by_cases hc : c = 32
   ·exact .inr ⟨c, t, ts', .inl ⟨rfl, hc⟩⟩
   ·left
    rw [Fy hb]
    show Sp _ (dropB (c :: (t ++ s')))
    rw [GE hc]
    exact .cons [] (c :: t) s' ts' (by simp) h'
def front (ts : List (List UInt8)) : Prop := ∀ t ts', ts = t :: ts' → ∃ c u, t = c :: u ∧ isI c = false ∧ c ≠ 32
theorem Sp.drop' {s : List UInt8} {ts : List (List UInt8)} (hf : front ts) (h : Sp ts s) : Sp ts (dropB s) := by
 rcases h.drop with h | ⟨c, t, ts', ⟨rfl, rfl⟩ | rfl⟩
 ·exact h
 ·obtain ⟨c', u, e, _, h2⟩ := hf _ _ rfl
  cases e; exact absurd rfl h2
 ·obtain ⟨c', u, e, _, h2⟩ := hf _ _ rfl
  cases e
theorem Sp.head {s : List UInt8} {ts : List (List UInt8)} (hf : front ts) (h : Sp ts s) : ∀ c t, s = c :: t → isI c = false := by
 intro c t e
 cases h with
 | nil b hb => subst e; have := hb c (by simp); subst this; rfl
 | cons b t' s' ts' hb h' =>
  cases b with
  | cons b0 b =>
   have : b0 = c := by simpa using congrArg List.head? e
   subst this
   have := hb b0 (by simp); subst this; rfl
  | nil =>
   obtain ⟨c', u, e', h1, _⟩ := hf _ _ rfl
   subst e'
   have : c' = c := by simpa using congrArg List.head? e
   subst this; exact h1
def nsp : X3 → Nat
 | .neg x => nsp x + 1
 | .bin _ x y => max (nsp x) (nsp y) + 1
 | _ => 0
def isBin : X3 → Bool
 | .bin _ _ _ => true
 | _ => false
def tk : X3 → List (List UInt8)
 | .num n => [Lib.decDigits n.toNat]
 | .nm s => [bl s]
 | .here => [[46]]
 | .neg x => [45] :: (if isBin x then [40] :: (tk x ++ [[41]]) else tk x)
 | .bin k x y => (if isBin x then [40] :: (tk x ++ [[41]]) else tk x) ++ (sg k :: (if isBin y then [40] :: (tk y ++ [[41]]) else tk y))
def tkp (x : X3) : List (List UInt8) := if isBin x then [40] :: (tk x ++ [[41]]) else tk x
theorem tk_bin (k : Nat) (x y : X3) : tk (.bin k x y) = tkp x ++ (sg k :: tkp y) := rfl
def okW (x : X3) : Prop := x.ok fun s => wordB (bl s) = true
theorem QiK {u : Nat} : (Lib.decDigits u).all isD = true ∧ Lib.decDigits u ≠ [] := by
 induction u using Nat.strongRecOn with
 | _ u ih =>
  rw [Lib.decDigits]
  split
  ·refine ⟨?_, by simp⟩
   have : ∀ v : Fin 10, isD (UInt8.ofNat (48 + v.val)) = true := by decide
   simp only [List.all_cons, List.all_nil, Bool.and_true]
   exact this ⟨u, by assumption⟩
  ·have := ih (u / 10) (by omega)
   refine ⟨?_, by simp⟩
   rw [List.all_append, this.1]
   have h2 : ∀ v : Fin 10, isD (UInt8.ofNat (48 + v.val)) = true := by decide
   simp only [List.all_cons, List.all_nil, Bool.and_true, Bool.true_and]
   exact h2 ⟨u % 10, by omega⟩
theorem QgA (base : Nat) (c : UInt8) : ∀ (l : List UInt8) (n : Nat), numv base (l ++ [c]) n = (numv base l n).bind fun m => if m * base + dg c ≥ 4294967296 then none else some (m * base + dg c)
 | [], n => rfl
 | b :: l, n => by
  simp only [List.cons_append, numv]
  split
  ·rfl
  ·exact QgA base c l _
theorem Qpv {u : Nat} (h : u < 4294967296) : numv 10 (Lib.decDigits u) 0 = some u := by
 induction u using Nat.strongRecOn with
 | _ u ih =>
  have dv : ∀ v : Fin 10, dg (UInt8.ofNat (48 + v.val)) = v.val := by decide
  rw [Lib.decDigits]
  split
  ·rename_i hu
   have e := dv ⟨u, hu⟩
   simp only [numv, Nat.zero_mul, Nat.zero_add]
   simp only at e
   rw [e, if_neg (by omega)]
  ·rw [QgA, ih (u / 10) (by omega) (by omega)]
   have e := dv ⟨u % 10, by omega⟩
   simp only at e
   simp only [Option.bind_some, e]
   rw [if_neg (by omega)]; congr 1; omega
theorem Qpw {u : Nat} (h : u < 4294967296) {r : List UInt8} (hr : ∀ c t, r = c :: t → isI c = false) : atomS (Lib.decDigits u ++ r) = some (.num u, r) := by
 obtain ⟨h1, h2⟩ := @QiK u
 have hrD : ∀ c t, r = c :: t → isD c = false := fun c t e => by
  have := hr c t e
  simp only [isI, Bool.or_eq_false_iff] at this; exact this.2
 obtain ⟨e1, e2⟩ := P0 h1 hrD
 unfold atomS
 have hp : pre [48, 120] (Lib.decDigits u ++ r) = false := by
  unfold pre
  rw [decide_eq_false]
  intro e
  match hd : Lib.decDigits u, h2 with
  | [c], _ =>
   rw [hd] at e
   cases r with
   | nil => simp at e
   | cons b r =>
    simp at e
    have := hr b r rfl
    rw [e.2] at this; cases this
  | c :: b :: l, _ =>
   rw [hd] at e h1
   simp at e
   simp only [List.all_cons, Bool.and_eq_true] at h1
   have := h1.2.1
   rw [e.2] at this; cases this
 rw [hp, e1, e2]
 simp only [Bool.false_and, cond_false, decide_eq_false h2, Bool.not_false, cond_true]
 unfold tailA
 rw [Qpv h]
 simp only
 have : r.takeWhile isI = [] := by
  cases r with
  | nil => rfl
  | cons b r => simp [List.takeWhile_cons, hr b r rfl]
 rw [if_pos this]
theorem SG {w : List UInt8} (h : wordB w = true) : ∃ c t, w = c :: t ∧ isI c = true ∧ isD c = false ∧ w.all isI = true := by
 match w, h with
 | c :: t, h =>
  have hw : wordB (c :: t) = (decide (t.length < 12) && (!isD c && (decide ((c :: t).takeWhile isI = c :: t) && (decide (c ≠ 114) || (decide (t = []) || !decide (t.takeWhile isD = t)))))) := rfl
  rw [hw] at h
  simp only [Bool.and_eq_true, Bool.not_eq_true', decide_eq_true_eq] at h
  have ha : (c :: t).all isI = true := by
   have := List.all_takeWhile (p := isI) (l := c :: t)
   rwa [h.2.2.1] at this
  refine ⟨c, t, rfl, ?_, h.2.1, ha⟩
  simp only [List.all_cons, Bool.and_eq_true] at ha; exact ha.1
theorem Qoy {w : List UInt8} (h : wordB w = true) {r : List UInt8} (hr : ∀ c t, r = c :: t → isI c = false) : atomS (w ++ r) = some (.nm (ba w), r) := by
 obtain ⟨c, t, rfl, hc, hd, ha⟩ := SG h
 obtain ⟨e1, e2⟩ := P0 ha hr
 unfold atomS
 have hp : pre [48, 120] ((c :: t) ++ r) = false := by
  unfold pre
  rw [decide_eq_false]
  intro e
  simp at e
  rw [e.1] at hd; cases hd
 have hD : ((c :: t) ++ r).takeWhile isD = [] := by simp [List.takeWhile_cons, hd]
 rw [hp, hD, e1, e2, h]
 rfl
end Go.Ab
namespace Go.Ab
def lvlOf (k : Nat) : Nat := match k with
 | 9 => 0 | 8 => 1 | 10 => 2 | 11 => 2 | 5 => 3 | 6 => 3 | _ => 4
theorem Qlq {k l : Nat} (hk : 5 ≤ k ∧ k ≤ 11) (hl : l < 5) (s : List UInt8) : kindS (lv l) (sg k ++ s) = if lvlOf k = l then some k else none := by
 have h1 : k = 5 ∨ k = 6 ∨ k = 7 ∨ k = 8 ∨ k = 9 ∨ k = 10 ∨ k = 11 := by omega
 have h2 : l = 0 ∨ l = 1 ∨ l = 2 ∨ l = 3 ∨ l = 4 := by omega
 rcases h1 with rfl | rfl | rfl | rfl | rfl | rfl | rfl <;> rcases h2 with rfl | rfl | rfl | rfl | rfl <;> simp [kindS, lv, sg, pre, lvlOf]
theorem QbN {l : Nat} (hl : l < 5) (s : List UInt8) : kindS (lv l) (41 :: s) = none ∧ kindS (lv l) [] = none := by
 have h2 : l = 0 ∨ l = 1 ∨ l = 2 ∨ l = 3 ∨ l = 4 := by omega
 rcases h2 with rfl | rfl | rfl | rfl | rfl <;> simp [kindS, lv, sg, pre]
def stop (l : Nat) (ts : List (List UInt8)) : Prop := ∀ s, Sp ts s → ∀ l', l ≤ l' → l' < 5 → kindS (lv l') (dropB s) = none
theorem Qlr (l : Nat) : stop l [] := fun s h l' _ h5 => by rw [h.nil_drop]; exact (QbN h5 []).2
theorem QnL (l : Nat) (ts : List (List UInt8)) : stop l ([41] :: ts) := fun s h l' _ h5 => by
 obtain ⟨s', e, _⟩ := h.cons_drop (c := 41) (t := []) (by decide)
 rw [e]; exact (QbN h5 _).1
theorem Qfz {k : Nat} (hk : 5 ≤ k ∧ k ≤ 11) : ∃ c t, sg k = c :: t ∧ isI c = false ∧ c ≠ 32 := by
 have h1 : k = 5 ∨ k = 6 ∨ k = 7 ∨ k = 8 ∨ k = 9 ∨ k = 10 ∨ k = 11 := by omega
 rcases h1 with rfl | rfl | rfl | rfl | rfl | rfl | rfl <;> exact ⟨_, _, rfl, by decide, by decide⟩
theorem QmI {k : Nat} (hk : 5 ≤ k ∧ k ≤ 11) {ts : List (List UInt8)} {s : List UInt8} (h : Sp (sg k :: ts) s) : ∃ s', dropB s = sg k ++ s' ∧ Sp ts s' := by
 obtain ⟨c, t, e, _, h2⟩ := Qfz hk
 rw [e] at h ⊢
 exact h.cons_drop h2
theorem Qqo {k l : Nat} (hk : 5 ≤ k ∧ k ≤ 11) (hl : lvlOf k < l) (ts : List (List UInt8)) : stop l (sg k :: ts) := fun s h l' h1 h5 => by
 obtain ⟨s', e, _⟩ := QmI hk h
 rw [e, Qlq hk h5, if_neg (by omega)]
theorem Qjv : front [] := fun t ts' e => by cases e
theorem Qmi (ts : List (List UInt8)) : front ([41] :: ts) := fun t ts' e => by cases e; exact ⟨41, [], rfl, by decide, by decide⟩
theorem Qpx {k : Nat} (hk : 5 ≤ k ∧ k ≤ 11) (ts : List (List UInt8)) : front (sg k :: ts) := fun t ts' e => by cases e; exact Qfz hk
def ONE (x : X3) : Prop := ∀ (d : Int) (ts : List (List UInt8)) (s : List UInt8), front ts → 0 ≤ d → d + nsp x ≤ 12 → Sp (tkp x ++ ts) s → ∃ s', Sp ts s' ∧ QE (PS s d false) = some (x.t, PS s' d false)
theorem QcA {l : Nat} (h : l < 5) {s : List UInt8} (hk : kindS (lv l) (dropB s) = none) (d : Int) (x : Qa) : PL l (PS s d false) x = some (x, PS (dropB s) d false) := by rw [PL_eq h, hk]
theorem QfA {x : X3} (hx : ONE x) : ∀ (g l : Nat), g + l = 5 → ∀ (d : Int) (ts : List (List UInt8)) (s : List UInt8), front ts → stop l ts → 0 ≤ d → d + nsp x ≤ 12 → Sp (tkp x ++ ts) s → ∃ s', Sp ts s' ∧ Qo (l : Int) (PS s d false) = some (x.t, PS s' d false)
 | 0, l, hl, d, ts, s, hf, hs, h0, h12, h => by
  obtain rfl : l = 5 := by omega
  obtain ⟨s', h1, h2⟩ := hx d ts s hf h0 h12 h
  exact ⟨s', h1, (two5 _).trans h2⟩
 | g + 1, l, hl, d, ts, s, hf, hs, h0, h12, h => by
  obtain ⟨s', h1, h2⟩ := QfA hx g (l + 1) (by omega) d ts s hf (fun s h l' h1 h5 => hs s h l' (by omega) h5) h0 h12 h
  refine ⟨dropB s', h1.drop' hf, ?_⟩
  rw [two_lt (by omega), h2]
  simp only [Option.bind_some]
  exact QcA (by omega) (hs s' h1 l (by omega) (by omega)) d _
theorem bin_at {k : Nat} (hk : 5 ≤ k ∧ k ≤ 11) {x y : X3} (hx : ONE x) (hy : ONE y) : ∀ (g l : Nat), g + l = lvlOf k → ∀ (d : Int) (ts : List (List UInt8)) (s : List UInt8), front ts → stop l ts → 0 ≤ d → d + nsp x ≤ 12 → d + nsp y ≤ 12 →
  Sp (tk (.bin k x y) ++ ts) s → ∃ s', Sp ts s' ∧ Qo (l : Int) (PS s d false) = some ((X3.bin k x y).t, PS s' d false)
 | 0, l, hl, d, ts, s, hf, hs, h0, h1, h2, h => by
  have hl5 : l < 5 := by
   have : lvlOf k ≤ 4 := by unfold lvlOf; split <;> omega
   omega
  rw [tk_bin, List.append_assoc, List.cons_append] at h
  obtain ⟨s1, e1, e2⟩ := QfA hx (5 - (l + 1)) (l + 1) (by omega) d _ s (Qpx hk _) (Qqo hk (by omega) _) h0 h1 h
  obtain ⟨s2, e3, e4⟩ := QmI hk e1
  obtain ⟨s3, e5, e6⟩ := QfA hy (5 - (l + 1)) (l + 1) (by omega) d ts s2 hf (fun s h l' h1 h5 => hs s h l' (by omega) h5) h0 h2 e4
  refine ⟨dropB s3, e5.drop' hf, ?_⟩
  rw [two_lt hl5, e2]
  simp only [Option.bind_some]
  rw [PL_eq hl5, e3, Qlq hk hl5, if_pos (by omega)]
  simp only [List.drop_left, e6, Option.bind_some]
  exact QcA hl5 (hs s3 e5 l (by omega) (by omega)) d _
 | g + 1, l, hl, d, ts, s, hf, hs, h0, h1, h2, h => by
  have hl5 : l < 5 := by
   have : lvlOf k ≤ 4 := by unfold lvlOf; split <;> omega
   omega
  obtain ⟨s', e1, e2⟩ := bin_at hk hx hy g (l + 1) (by omega) d ts s hf (fun s h l' h1 h5 => hs s h l' (by omega) h5) h0 h1 h2 h
  refine ⟨dropB s', e1.drop' hf, ?_⟩
  rw [two_lt hl5, e2]
  simp only [Option.bind_some]
  exact QcA hl5 (hs s' e1 l (by omega) (by omega)) d _
theorem QfB {c : UInt8} {t : List UInt8} {ts : List (List UInt8)} {s : List UInt8} (h : Sp ((c :: t) :: ts) s) (hc : c ≠ 32) : ∃ s', dropB s = c :: (t ++ s') ∧ Sp ts s' := h.cons_drop hc
theorem F6 : ∀ x : X3, okW x → ONE x
 | .num n, hx, d, ts, s, hf, h0, h12, h => by
  have hx : 0 ≤ n ∧ n < 4294967296 := hx
  obtain ⟨u, rfl⟩ := Int.eq_ofNat_of_zero_le hx.1
  have h : Sp (Lib.decDigits u :: ts) s := h
  obtain ⟨d1, d2⟩ := @QiK u
  match hd : Lib.decDigits u, d2 with
  | c :: t, _ =>
   rw [hd] at h d1
   simp only [List.all_cons, Bool.and_eq_true] at d1
   have hc32 : c ≠ 32 := fun e => by rw [e] at d1; cases d1.1
   obtain ⟨s', e1, e2⟩ := h.cons_drop hc32
   have ea := Qpw (u := u) (by omega) (r := s') (e2.head hf)
   rw [hd] at ea
   refine ⟨s', e2, ?_⟩
   have := Qg5 (s := s) e1 (fun r e => by
     have : c = 40 := by simpa using congrArg List.head? e
     rw [this] at d1; cases d1.1) (fun r e => by
     have : c = 45 := by simpa using congrArg List.head? e
     rw [this] at d1; cases d1.1) (fun r e => by
     have : c = 46 := by simpa using congrArg List.head? e
     rw [this] at d1; cases d1.1) d
   rw [show c :: (t ++ s') = (c :: t) ++ s' from rfl, ea] at this
   exact this
 | .nm w, hx, d, ts, s, hf, h0, h12, h => by
  have hx : wordB (bl w) = true := hx
  have h : Sp (bl w :: ts) s := h
  obtain ⟨c, t, e0, hc, hd, ha⟩ := SG hx
  rw [e0] at h
  have hc32 : c ≠ 32 := fun e => by rw [e] at hc; cases hc
  obtain ⟨s', e1, e2⟩ := h.cons_drop hc32
  have ea := Qoy hx (r := s') (e2.head hf)
  rw [e0] at ea
  refine ⟨s', e2, ?_⟩
  have := Qg5 (s := s) e1 (fun r e => by
    have : c = 40 := by simpa using congrArg List.head? e
    rw [this] at hc; cases hc) (fun r e => by
    have : c = 45 := by simpa using congrArg List.head? e
    rw [this] at hc; cases hc) (fun r e => by
    have : c = 46 := by simpa using congrArg List.head? e
    rw [this] at hc; cases hc) d
  rw [show c :: (t ++ s') = (c :: t) ++ s' from rfl, ea, ← e0, ba_bl] at this
  exact this
 | .here, hx, d, ts, s, hf, h0, h12, h => by
  obtain ⟨s', e1, e2⟩ := QfB (c := 46) (t := []) h (by decide)
  exact ⟨s', e2, QmH e1 d⟩
 | .neg x, hx, d, ts, s, hf, h0, h12, h => by
  have hx : okW x := hx
  have ih := F6 x hx
  have h : Sp ([45] :: (tkp x ++ ts)) s := h
  have hn : nsp (.neg x) = nsp x + 1 := rfl
  obtain ⟨s1, e1, e2⟩ := QfB (c := 45) (t := []) h (by decide)
  obtain ⟨s', e3, e4⟩ := ih (d + 1) ts s1 hf (by omega) (by omega) e2
  refine ⟨s', e3, ?_⟩
  have e1 : dropB s = 45 :: s1 := e1
  rw [Qfl e1]
  exact Qlo h0 (by omega) s1 (o := some (x, s')) e4
 | .bin k x y, hx, d, ts, s, hf, h0, h12, h => by
  obtain ⟨hk1, hk2, hx1, hy1⟩ := hx
  have hx1 : okW x := hx1
  have hy1 : okW y := hy1
  have ihx := F6 x hx1
  have ihy := F6 y hy1
  have hn : nsp (.bin k x y) = max (nsp x) (nsp y) + 1 := rfl
  have h : Sp (([40] :: (tk (.bin k x y) ++ [[41]])) ++ ts) s := h
  rw [List.cons_append, List.append_assoc] at h
  obtain ⟨s1, e1, e2⟩ := QfB (c := 40) (t := []) h (by decide)
  have e2 : Sp (tk (.bin k x y) ++ ([41] :: ts)) s1 := e2
  have hm1 : nsp x ≤ max (nsp x) (nsp y) := Nat.le_max_left _ _
  have hm2 : nsp y ≤ max (nsp x) (nsp y) := Nat.le_max_right _ _
  obtain ⟨s2, e3, e4⟩ := bin_at ⟨hk1, hk2⟩ ihx ihy (lvlOf k) 0 (by omega) (d + 1) _ s1 (Qmi ts) (QnL 0 ts) (by omega) (by omega) (by omega) e2
  obtain ⟨s3, e5, e6⟩ := QfB (c := 41) (t := []) e3 (by decide)
  have e1 : dropB s = 40 :: s1 := e1
  have e5 : dropB s2 = 41 :: s3 := e5
  refine ⟨s3, e6, ?_⟩
  rw [Qg4 e1]
  have := Qju h0 (by omega) s1 (o := some (.bin k x y, s2)) e4
  rw [show (some (X3.bin k x y, s2)).bind (fun xr => bif pre [41] (dropB xr.2) then some (xr.1, (dropB xr.2).drop 1) else none) = some (.bin k x y, s3) from by
   simp only [Option.bind_some, e5]
   rw [show pre [41] (41 :: s3) = true from by simp [pre]]; rfl] at this
  exact this
theorem Qoz {x : X3} (hx : okW x) (hd : nsp x ≤ 12) {s : List UInt8} (h : Sp (tk x) s) : Wp (ba s) = some (x.t, true) := by
 have key : ∃ s', Sp [] s' ∧ Qo 0 (PS s 0 false) = some (x.t, PS s' 0 false) := by
  cases hb : isBin x with
  | false =>
   have h : Sp (tkp x ++ []) s := by rw [List.append_nil]; unfold tkp; rw [hb]; exact h
   exact QfA (F6 x hx) 5 0 rfl 0 [] s Qjv (Qlr 0) (by omega) (by omega) h
  | true =>
   match x, hb with
   | .bin k y z, _ =>
    obtain ⟨hk1, hk2, hx1, hy1⟩ := hx
    have hn : nsp (.bin k y z) = max (nsp y) (nsp z) + 1 := rfl
    have hm1 : nsp y ≤ max (nsp y) (nsp z) := Nat.le_max_left _ _
    have hm2 : nsp z ≤ max (nsp y) (nsp z) := Nat.le_max_right _ _
    exact bin_at ⟨hk1, hk2⟩ (F6 y hx1) (F6 z hy1) (lvlOf k) 0 (by omega) 0 [] s Qjv (Qlr 0) (by omega) (by omega) (by omega) (by rw [List.append_nil]; exact h)
 obtain ⟨s', e1, e2⟩ := key
 rw [Qlp s (o := some (x, s')) e2]
 simp only [e1.nil_drop, if_true]
end Go.Ab
namespace Go.Ab
theorem QoA {s : ByteArray} (h : isNm s) : wordB (bl s) = true := by
 rcases h with rfl | rfl | rfl | rfl <;> decide
theorem ok_okW : ∀ {x : X3}, x.ok isNm → okW x
 | .num n, h => h
 | .nm s, h => QoA h
 | .here, h => trivial
 | .neg x, h => ok_okW (x := x) h
 | .bin k x y, h => ⟨h.1, h.2.1, ok_okW h.2.2.1, ok_okW h.2.2.2⟩
theorem nsp_le : ∀ x : X3, nsp x ≤ x.d
 | .num n => Nat.le_refl _
 | .nm s => Nat.le_refl _
 | .here => Nat.le_refl _
 | .neg x => by have := nsp_le x; simp only [nsp, X3.d]; omega
 | .bin k x y => by have := nsp_le x; have := nsp_le y; simp only [nsp, X3.d]; omega
def tx : X3 → List UInt8
 | .num n => Lib.decDigits n.toNat
 | .nm s => bl s
 | .here => [46]
 | .neg x => 45 :: (if isBin x then 40 :: (tx x ++ [41]) else tx x)
 | .bin k x y => (if isBin x then 40 :: (tx x ++ [41]) else tx x) ++ (32 :: (sg k ++ (32 :: (if isBin y then 40 :: (tx y ++ [41]) else tx y))))
def txp (x : X3) : List UInt8 := if isBin x then 40 :: (tx x ++ [41]) else tx x
theorem tx_neg (x : X3) : tx (.neg x) = 45 :: txp x := rfl
theorem tx_bin (k : Nat) (x y : X3) : tx (.bin k x y) = txp x ++ (32 :: (sg k ++ (32 :: txp y))) := rfl
theorem Sp.tok (t : List UInt8) {ts : List (List UInt8)} {s : List UInt8} (h : Sp ts s) : Sp (t :: ts) (t ++ s) := .cons [] t s ts (by simp) h
theorem Sp.btok (t : List UInt8) {ts : List (List UInt8)} {s : List UInt8} (h : Sp ts s) : Sp (t :: ts) (32 :: (t ++ s)) := .cons [32] t s ts (by simp) h
theorem Sp.blank {t : List UInt8} {ts : List (List UInt8)} {s : List UInt8} (h : Sp (t :: ts) s) : Sp (t :: ts) (32 :: s) := by
 cases h with
 | cons b t s' ts' hb h' => exact .cons (32 :: b) t s' ts (by intro c hc; rcases List.mem_cons.1 hc with h | h; exact h; exact hb c h) h'
theorem tk_ne : ∀ x : X3, ∃ t ts, tk x = t :: ts
 | .num n => ⟨_, _, rfl⟩
 | .nm s => ⟨_, _, rfl⟩
 | .here => ⟨_, _, rfl⟩
 | .neg x => ⟨_, _, rfl⟩
 | .bin k x y => by
  obtain ⟨t, ts, h⟩ := tk_ne x
  rw [tk_bin]; unfold tkp
  split
  ·exact ⟨_, _, rfl⟩
  ·rw [h]; exact ⟨_, _, rfl⟩
theorem tkp_ne (x : X3) : ∃ t ts, tkp x = t :: ts := by
 unfold tkp; split
 ·exact ⟨_, _, rfl⟩
 ·exact tk_ne x
theorem tx_sp : ∀ (x : X3) {ts : List (List UInt8)} {s : List UInt8}, Sp ts s → Sp (tk x ++ ts) (tx x ++ s) ∧ Sp (tkp x ++ ts) (txp x ++ s) := by
 have part : ∀ (x : X3), (∀ {ts : List (List UInt8)} {s : List UInt8}, Sp ts s → Sp (tk x ++ ts) (tx x ++ s)) → ∀ {ts : List (List UInt8)} {s : List UInt8}, Sp ts s → Sp (tkp x ++ ts) (txp x ++ s) := by
  intro x hx ts s h
  unfold tkp txp
  split
  ·have := (hx (h.tok [41])).tok [40]
   simpa using this
  ·exact hx h
 intro x
 induction x with
 | num n => intro ts s h; exact ⟨h.tok _, h.tok _⟩
 | nm w => intro ts s h; exact ⟨h.tok _, h.tok _⟩
 | here => intro ts s h; exact ⟨h.tok _, h.tok _⟩
 | neg x ih =>
  intro ts s h
  have := ((ih h).2).tok [45]
  exact ⟨this, this⟩
 | bin k x y ihx ihy =>
  have key : ∀ {ts : List (List UInt8)} {s : List UInt8}, Sp ts s → Sp (tk (.bin k x y) ++ ts) (tx (.bin k x y) ++ s) := by
   intro ts s h
   have h1 := (ihy h).2
   obtain ⟨t, ts', e⟩ := tkp_ne y
   rw [e] at h1
   have h2 := (ihx (h1.blank.btok (sg k))).2
   rw [tk_bin, tx_bin, e]
   simpa using h2
  intro ts s h
  exact ⟨key h, part _ key h⟩
theorem tx_tk (x : X3) : Sp (tk x) (tx x) := by
 have := (tx_sp x (.nil [] (by simp))).1
 simpa using this
theorem F7 : ∀ (g u : Nat), u < 10 ^ g → 0 < g → (Lib.decDigits u).length ≤ g
 | 0, u, h, h0 => by omega
 | g + 1, u, h, h0 => by
  rw [Lib.decDigits]
  split
  ·simp
  ·rename_i hu
   cases g with
   | zero => omega
   | succ g =>
    have := F7 (g + 1) (u / 10) (by rw [Nat.pow_succ] at h; omega) (by omega)
    simp; omega
theorem nm_len {s : ByteArray} (h : wordB (bl s) = true) : (bl s).length ≤ 12 := by
 match hb : bl s, h with
 | c :: t, h =>
  have hw : wordB (c :: t) = (decide (t.length < 12) && (!isD c && (decide ((c :: t).takeWhile isI = c :: t) && (decide (c ≠ 114) || (decide (t = []) || !decide (t.takeWhile isD = t)))))) := rfl
  rw [hw] at h
  simp only [Bool.and_eq_true, decide_eq_true_eq] at h
  simp only [List.length_cons]; omega
theorem tx_len : ∀ (x : X3), okW x → (tx x).length + 8 ≤ 20 * 2 ^ x.d ∧ (txp x).length + 6 ≤ 20 * 2 ^ x.d := by
 have part : ∀ x : X3, (tx x).length + 8 ≤ 20 * 2 ^ x.d → (txp x).length + 6 ≤ 20 * 2 ^ x.d := by
  intro x h
  unfold txp; split
  ·simp; omega
  ·omega
 intro x hx
 induction x with
 | num n =>
  have hx : 0 ≤ n ∧ n < 4294967296 := hx
  have := F7 10 n.toNat (by simp; omega) (by omega)
  have e : (tx (.num n)).length = (Lib.decDigits n.toNat).length := rfl
  have : (tx (.num n)).length + 8 ≤ 20 * 2 ^ (X3.num n).d := by rw [e]; simp only [X3.d, Nat.pow_zero]; omega
  exact ⟨this, part _ this⟩
 | nm s =>
  have := nm_len (s := s) hx
  have e : (tx (.nm s)).length = (bl s).length := rfl
  have : (tx (.nm s)).length + 8 ≤ 20 * 2 ^ (X3.nm s).d := by rw [e]; simp only [X3.d, Nat.pow_zero]; omega
  exact ⟨this, part _ this⟩
 | here => exact ⟨by decide, by decide⟩
 | neg x ih =>
  have ih := ih hx
  have : (tx (.neg x)).length + 8 ≤ 20 * 2 ^ (X3.neg x).d := by
   rw [tx_neg]; simp only [List.length_cons, X3.d, Nat.pow_succ]
   have : 1 ≤ 2 ^ x.d := Nat.one_le_two_pow
   omega
  exact ⟨this, part _ this⟩
 | bin k x y ihx ihy =>
  have h1 := ihx hx.2.2.1
  have h2 := ihy hx.2.2.2
  have hs : (sg k).length ≤ 2 := by unfold sg; split <;> simp
  have : (tx (.bin k x y)).length + 8 ≤ 20 * 2 ^ (X3.bin k x y).d := by
   rw [tx_bin]; simp only [List.length_append, List.length_cons, X3.d, Nat.pow_succ]
   have e1 : 2 ^ x.d ≤ 2 ^ max x.d y.d := Nat.pow_le_pow_right (by decide) (Nat.le_max_left _ _)
   have e2 : 2 ^ y.d ≤ 2 ^ max x.d y.d := Nat.pow_le_pow_right (by decide) (Nat.le_max_right _ _)
   omega
  exact ⟨this, part _ this⟩
theorem F8 {n : Nat} (h : n ≤ 1000000000) : decide (((n : Nat) : Int) ≤ IntKind.i64.max) = true := decide_eq_true (by rw [show IntKind.i64.max = 9223372036854775807 from by decide]; omega)
theorem guardS (a b : List UInt8) (h : a.length + b.length ≤ 1000000000) : decide ((((ba a).size + (ba b).size : Nat) : Int) ≤ IntKind.i64.max) = true := by rw [QJ, QJ]; exact F8 h
theorem SH {k : Nat} (h : 5 ≤ k ∧ k ≤ 11) : Yd (k : Int) = some (ba (sg k), (lvlOf k : Int)) := by
 rw [Yd.eq]; unfold Qe6
 have h1 : k = 5 ∨ k = 6 ∨ k = 7 ∨ k = 8 ∨ k = 9 ∨ k = 10 ∨ k = 11 := by omega
 rcases h1 with rfl | rfl | rfl | rfl | rfl | rfl | rfl <;> rfl
theorem u8_in {n : Int} (h1 : 0 ≤ n) (h2 : n ≤ 255) : IntKind.u8.wrap n = n := by
 have e : n % 256 = n := Int.emod_eq_of_lt h1 (by omega)
 unfold IntKind.wrap
 simp [IntKind.bits, IntKind.signed, e]
theorem Fz {u : Nat} (h : u < 9223372036854775808) : Ji (u : Int) = some (ba (Lib.decDigits u)) := by
 induction u using Nat.strongRecOn with
 | _ u ih =>
  rw [Ji.eq]; unfold Y5
  have c1 : decide ((u : Int) < 0) = false := decide_eq_false (by omega)
  rw [c1, cond_false, Lib.decDigits]
  by_cases hu : u < 10
  ·have c2 : decide ((u : Int) ≥ 10) = false := decide_eq_false (by omega)
   rw [c2, cond_false, dif_pos hu, w64_in (by omega) (by omega), u8_in (by omega) (by omega)]
   simp only [Option.bind_some, listB, List.map_cons, List.map_nil]
   rw [show ((48 : Int) + (u : Int)).toNat = 48 + u from by omega]; rfl
  ·have c2 : decide ((u : Int) ≥ 10) = true := decide_eq_true (by omega)
   have e1 : w64 (Int.tdiv (u : Int) 10) = ((u / 10 : Nat) : Int) := by
    rw [show Int.tdiv (u : Int) 10 = ((u / 10 : Nat) : Int) from by rw [show (10 : Int) = ((10 : Nat) : Int) from rfl, ← Int.ofNat_tdiv]]
    exact w64_in (by omega) (by omega)
   have e2 : Int.tmod (u : Int) 10 = ((u % 10 : Nat) : Int) := by rw [show (10 : Int) = ((10 : Nat) : Int) from rfl, ← Int.ofNat_tmod]
   have hl1 := F7 19 (u / 10) (by simp; omega) (by omega)
   have hl2 := F7 19 (u % 10) (by simp; omega) (by omega)
   rw [c2, cond_true, dif_neg hu, e1, e2, ih (u / 10) (by omega) (by omega)]
   have e3 : Lib.decDigits (u % 10) = [UInt8.ofNat (48 + u % 10)] := by rw [Lib.decDigits, dif_pos (by omega)]
   simp only [Option.bind_some]
   rw [ih (u % 10) (by omega) (by omega)]
   simp only [Option.bind_some, UV, QJ]
   rw [F8 (by omega), cond_true, e3]
theorem QnM : ∀ (x : X3), okW x → x.d ≤ 12 → Uj x.t = some (ba (tx x)) ∧ UG x.t = some (ba (txp x)) := by
 have part : ∀ x : X3, okW x → x.d ≤ 12 → Uj x.t = some (ba (tx x)) → UG x.t = some (ba (txp x)) := by
  intro x hx hd h
  rw [UG.eq]; unfold Ye
  have hl := (tx_len x hx).1
  have hp : 2 ^ x.d ≤ 2 ^ 12 := Nat.pow_le_pow_right (by decide) hd
  have hp2 : (2 : Nat) ^ 12 = 4096 := rfl
  simp only [h, Option.bind_some]
  cases x with
  | bin k y z =>
   have c1 : ((((X3.bin k y z).t.L.length : Nat) : Int) == 2) = true := rfl
   rw [c1, cond_true, show h_28 = ba [40] from rfl, show h_29 = ba [41] from rfl]
   simp only [UV, QJ]
   rw [F8 (by simp; omega), cond_true, F8 (by simp; omega), cond_true]; rfl
  | _ => simp [X3.t, txp, isBin]
 intro x
 induction x with
 | num n =>
  intro hx hd
  have hx : 0 ≤ n ∧ n < 4294967296 := hx
  have : Uj (X3.num n).t = some (ba (tx (.num n))) := by
   obtain ⟨u, rfl⟩ := Int.eq_ofNat_of_zero_le hx.1
   have hL : (X3.num (u : Int)).t = ⟨1, (u : Int), s_, []⟩ := rfl
   have hT : tx (.num (u : Int)) = Lib.decDigits (u : Int).toNat := rfl
   have c3 : ((1 : Int) == 1) = true := rfl
   rw [Uj.eq]; unfold YW
   rw [hL, hT]
   simp only [c3, cond_true, Fz (u := u) (by omega), Option.bind_some, Int.toNat_natCast]
  exact ⟨this, part _ hx hd this⟩
 | nm s =>
  intro hx hd
  have : Uj (X3.nm s).t = some (ba (tx (.nm s))) := by
   rw [Uj.eq]; unfold YW
   show some s = some (ba (bl s)); rw [ba_bl]
  exact ⟨this, part _ hx hd this⟩
 | here =>
  intro hx hd
  have : Uj X3.here.t = some (ba (tx .here)) := by rw [Uj.eq]; rfl
  exact ⟨this, part _ hx hd this⟩
 | neg x ih =>
  intro hx hd
  have hx' : okW x := hx
  have hd' : x.d + 1 ≤ 12 := hd
  have ih := ih hx' (by omega)
  have hl := (tx_len x hx').2
  have hp : 2 ^ x.d ≤ 2 ^ 12 := Nat.pow_le_pow_right (by decide) (by omega)
  have hp2 : (2 : Nat) ^ 12 = 4096 := rfl
  have : Uj (X3.neg x).t = some (ba (tx (.neg x))) := by
   rw [Uj.eq]; unfold YW
   have hL : (X3.neg x).t = ⟨4, 0, s_, [x.t]⟩ := rfl
   have g0 : ([x.t] : List Qa)[Int.toNat 0]? = some x.t := rfl
   have k1 : ((4 : Int) == 1) = false := rfl
   have k2 : ((4 : Int) == 2) = false := rfl
   have k3 : ((4 : Int) == 3) = false := rfl
   have k4 : ((4 : Int) == 4) = true := rfl
   rw [hL, k1, cond_false, k2, cond_false, k3, cond_false, k4, cond_true, g0]
   simp only [Option.bind_some, ih.2, show h_2d = ba [45] from rfl, UV, QJ]
   rw [F8 (by simp; omega)]; rfl
  exact ⟨this, part _ hx hd this⟩
 | bin k x y ihx ihy =>
  intro hx hd
  obtain ⟨hk1, hk2, hx', hy'⟩ := id hx
  have hd' : max x.d y.d + 1 ≤ 12 := hd
  have e1 : x.d ≤ max x.d y.d := Nat.le_max_left _ _
  have e2 : y.d ≤ max x.d y.d := Nat.le_max_right _ _
  have ihx := ihx hx' (by omega)
  have ihy := ihy hy' (by omega)
  have hl := (tx_len x hx').2
  have hl2 := (tx_len y hy').2
  have hp : 2 ^ x.d ≤ 2 ^ 12 := Nat.pow_le_pow_right (by decide) (by omega)
  have hp' : 2 ^ y.d ≤ 2 ^ 12 := Nat.pow_le_pow_right (by decide) (by omega)
  have hp2 : (2 : Nat) ^ 12 = 4096 := rfl
  have hs : (sg k).length ≤ 2 := by unfold sg; split <;> simp
  have : Uj (X3.bin k x y).t = some (ba (tx (.bin k x y))) := by
   rw [Uj.eq]; unfold YW
   have hL : (X3.bin k x y).t = ⟨k, 0, s_, [x.t, y.t]⟩ := rfl
   have k1 : ((k : Int) == 1) = false := by rw [beq_eq_false_iff_ne]; omega
   have k2 : ((k : Int) == 2) = false := by rw [beq_eq_false_iff_ne]; omega
   have k3 : ((k : Int) == 3) = false := by rw [beq_eq_false_iff_ne]; omega
   have k4 : ((k : Int) == 4) = false := by rw [beq_eq_false_iff_ne]; omega
   have g0 : ([x.t, y.t] : List Qa)[Int.toNat 0]? = some x.t := rfl
   have g1 : ([x.t, y.t] : List Qa)[Int.toNat 1]? = some y.t := rfl
   rw [hL, k1, cond_false, k2, cond_false, k3, cond_false, k4, cond_false, SH ⟨hk1, hk2⟩, g0, g1, Option.bind_some, Option.bind_some, ihx.2, Option.bind_some, show h_20 = ba [32] from rfl]
   rw [guardS (txp x) [32] (by simp; omega), cond_true, UV (txp x) [32], guardS (txp x ++ [32]) (sg k) (by simp; omega), cond_true, UV (txp x ++ [32]) (sg k)]
   rw [guardS (txp x ++ [32] ++ sg k) [32] (by simp; omega), cond_true, Option.bind_some, ihy.2, Option.bind_some, UV (txp x ++ [32] ++ sg k) [32]]
   rw [guardS (txp x ++ [32] ++ sg k ++ [32]) (txp y) (by simp; omega), cond_true, UV, tx_bin]
   simp only [List.append_assoc, List.singleton_append, List.cons_append, List.nil_append]
  exact ⟨this, part _ hx hd this⟩
end Go.Ab
namespace Go.Ab
end Go.Ab
namespace Go.Ab
def vl (base : Nat) : List UInt8 → Nat → Nat
 | [], n => n
 | b :: l, n => vl base l (n * base + dg b)
def hd (v : Nat) : UInt8 := if v < 10 then UInt8.ofNat (48 + v) else UInt8.ofNat (87 + v)
end Go.Ab
namespace Go.Ab
theorem QgB (w : List UInt8) (f : Bool) (i : Nat) (hi : i < w.length) (hw : w.length ≤ 100) : Zf ⟨ba w, f, i⟩ =
  some (bif !isS w[i] && (decide (i = 0) || !isD w[i]) then .inr (.inl false) else .inl ⟨ba w, bif decide (0 < i) && !isD w[i] then false else f, (i + 1 : Nat)⟩) := by
 have hg : (ba w).data.getD (Int.toNat (i : Int)) 0 = w[i] := by rw [YJ, Int.toNat_natCast]; simp [hi]
 have c1 : decide ((i : Int) < (((ba w).size : Nat) : Int)) = true := decide_eq_true (by rw [QJ]; omega)
 have c2 : decide (0 ≤ (i : Int) ∧ (i : Int) < (((ba w).size : Nat) : Int)) = true := decide_eq_true (by rw [QJ]; omega)
 unfold Zf
 simp only
 rw [c1, cond_true, c2, cond_true, hg]
 generalize w[i] = c
 have hS : isS c = (decide ((c.toNat : Int) ≥ 97) && decide ((c.toNat : Int) ≤ 122) || !((c.toNat : Int) != 95)) := by
  have e1 : decide ((c.toNat : Int) ≥ 97) = decide (97 ≤ c.toNat) := decide_eq_decide.2 (by omega)
  have e2 : decide ((c.toNat : Int) ≤ 122) = decide (c.toNat ≤ 122) := decide_eq_decide.2 (by omega)
  have e3 : (!((c.toNat : Int) != 95)) = decide (c.toNat = 95) := by
   rw [Bool.eq_iff_iff]; simp; omega
  unfold isS; rw [e1, e2, e3, Bool.decide_or, Bool.decide_and]
 have hD : isD c = (decide ((c.toNat : Int) ≥ 48) && decide ((c.toNat : Int) ≤ 57)) := by
  have e1 : decide ((c.toNat : Int) ≥ 48) = decide (48 ≤ c.toNat) := decide_eq_decide.2 (by omega)
  have e2 : decide ((c.toNat : Int) ≤ 57) = decide (c.toNat ≤ 57) := decide_eq_decide.2 (by omega)
  unfold isD; rw [e1, e2, Bool.decide_and]
 have h0 : ((i : Int) == 0) = decide (i = 0) := by rw [Bool.eq_iff_iff, beq_iff_eq, decide_eq_true_iff]; omega
 have hp : decide ((i : Int) > 0) = decide (0 < i) := decide_eq_decide.2 (by omega)
 rw [hS, hD, h0, hp, w64_in (n := (i : Int) + 1) (by omega) (by omega)]
 have hip : decide (0 < i) = !decide (i = 0) := by
  by_cases h : i = 0
  ·rw [decide_eq_true h, decide_eq_false (by omega)]; rfl
  ·rw [decide_eq_false h, decide_eq_true (by omega)]; rfl
 rw [hip]
 cases decide ((c.toNat : Int) ≥ 48) <;> cases decide ((c.toNat : Int) ≥ 97) <;> cases decide ((c.toNat : Int) ≤ 122) <;> cases ((c.toNat : Int) != 95) <;> cases decide (i = 0) <;> cases decide ((c.toNat : Int) ≤ 57) <;> rfl
theorem Qc9 (w : List UInt8) (hw : w.length ≤ 100) : ∀ (g i : Nat) (f : Bool), g + i = w.length → 1 ≤ i → Vw ⟨ba w, f, i⟩ = some (bif (w.drop i).all isI then .inr (f && (w.drop i).all isD) else .inl false)
 | 0, i, f, hg, h1 => by
  rw [Vw.eq]
  have c1 : decide ((i : Int) < (((ba w).size : Nat) : Int)) = false := decide_eq_false (by rw [QJ]; omega)
  unfold Zf
  simp only
  rw [c1, List.drop_eq_nil_of_le (by omega)]
  simp
 | g + 1, i, f, hg, h1 => by
  have hi : i < w.length := by omega
  rw [Vw.eq, QgB w f i hi hw, List.drop_eq_getElem_cons hi, Option.bind_some]
  have hi0 : decide (i = 0) = false := decide_eq_false (by omega)
  have hip : decide (0 < i) = true := decide_eq_true (by omega)
  rw [hi0, hip]
  simp only [List.all_cons]
  have hsd := @QmD w[i]
  cases hD : isD w[i] with
  | true =>
   have hI : isI w[i] = true := by rw [Qfx, hD, Bool.or_true]
   rw [hD, hI] at hsd
   rw [hsd, hI]
   simp only [Bool.not_true, Bool.and_false, Bool.or_false, Bool.not_false, Bool.true_and, cond_false, Sum.elim_inl, Bool.and_true, Bool.or_true]
   exact Qc9 w hw g (i + 1) f (by omega) (by omega)
  | false =>
   rw [hD] at hsd
   simp only [Bool.not_false, Bool.and_true] at hsd
   rw [hsd]
   cases hI : isI w[i] with
   | true =>
    simp only [Bool.not_true, Bool.false_and, cond_false, Bool.not_false, Bool.and_true, cond_true, Sum.elim_inl, Bool.true_and]
    rw [Qc9 w hw g (i + 1) false (by omega) (by omega)]
    simp
   | false => simp
theorem QnN (w : List UInt8) (hw : w.length ≤ 1000000000) : ZJ (ba w) = some (wordB w) := by
 rw [ZJ.eq]; unfold QeB
 rw [QJ]
 cases w with
 | nil => rfl
 | cons c t =>
  have c1 : decide ((((c :: t).length : Nat) : Int) < 1) = false := decide_eq_false (by simp only [List.length_cons]; omega)
  have hwb : wordB (c :: t) = (decide (t.length < 12) && (!isD c && (decide ((c :: t).takeWhile isI = c :: t) && (decide (c ≠ 114) || (decide (t = []) || !decide (t.takeWhile isD = t)))))) := rfl
  rw [c1, cond_false, hwb, Qc7, Qc7]
  by_cases hl : t.length < 12
  ·have c2 : decide ((((c :: t).length : Nat) : Int) > 12) = false := decide_eq_false (by simp only [List.length_cons]; omega)
   have c3 : decide (0 ≤ (0 : Int) ∧ (0 : Int) < (((c :: t).length : Nat) : Int)) = true := decide_eq_true (by simp only [List.length_cons]; omega)
   have hg : (ba (c :: t)).data.getD (Int.toNat 0) 0 = c := by rw [YJ]; rfl
   rw [c2, cond_false, c3, cond_true, hg, decide_eq_true hl]
   have h100 : (c :: t).length ≤ 100 := by simp only [List.length_cons]; omega
   have first : ∀ f : Bool, Vw ⟨ba (c :: t), f, 0⟩ = some (bif isI c && !isD c then (bif t.all isI then .inr (f && t.all isD) else .inl false) else .inl false) := by
    intro f
    have hr := QgB (c :: t) f 0 (by simp) h100
    have hr : Zf ⟨ba (c :: t), f, 0⟩ = _ := hr
    rw [Vw.eq, hr, Option.bind_some]
    simp only [List.getElem_cons_zero, decide_true, Bool.true_or, Bool.and_true, Nat.lt_irrefl, decide_false, Bool.false_and, cond_false]
    rw [QmD]
    cases isI c && !isD c with
    | false => rfl
    | true =>
     simp only [Bool.not_true, cond_false, Sum.elim_inl, cond_true]
     exact Qc9 (c :: t) h100 t.length 1 f (by simp) (by omega)
   have c4 : ((c.toNat : Int) == 114) = !decide (c ≠ 114) := by
    by_cases h : c = 114
    ·subst h; rfl
    ·have : ((c.toNat : Int) == 114) = false := by
      rw [beq_eq_false_iff_ne]; intro e; exact h (UInt8.toNat_inj.1 (by have : (114 : UInt8).toNat = 114 := rfl; omega))
     rw [this, decide_eq_true h]; rfl
   have c5 : decide ((((c :: t).length : Nat) : Int) > 1) = !decide (t = []) := by
    cases t with
    | nil => rfl
    | cons b t =>
     have e1 : decide ((((c :: b :: t).length : Nat) : Int) > 1) = true := decide_eq_true (by simp only [List.length_cons]; omega)
     rw [e1, decide_eq_false (List.cons_ne_nil b t)]; rfl
   rw [first, first, c4, c5, List.all_cons]
   cases isI c <;> cases isD c <;> cases t.all isI <;> cases t.all isD <;> cases decide (c ≠ 114) <;> cases decide (t = []) <;> rfl
  ·have c2 : decide ((((c :: t).length : Nat) : Int) > 12) = true := decide_eq_true (by simp only [List.length_cons]; omega)
   rw [c2, decide_eq_false hl]; rfl
end Go.Ab
namespace Go.Ab
abbrev RS (l s : List UInt8) (d : Int) (b : Bool) : Qe := ⟨ba l, ((l.length - s.length : Nat) : Int), d, b⟩
theorem QfC {l s : List UInt8} {c : UInt8} {t : List UInt8} (h : s <:+ l) (e : s = c :: t) : (ba l).data.getD (Int.toNat ((l.length - s.length : Nat) : Int)) 0 = c ∧ l.length - s.length < l.length ∧ l.length - t.length = l.length - s.length + 1 ∧ t <:+ l := by
 obtain ⟨q, rfl⟩ := h
 subst e
 refine ⟨?_, by simp, by simp; omega, ⟨q ++ [c], by simp⟩⟩
 rw [YJ, Int.toNat_natCast]
 simp
theorem QfD {l : List UInt8} (hl : l.length ≤ 1000000000) (d : Int) (b : Bool) : ∀ s, s <:+ l → UX (RS l s d b) = some (RS l (dropB s) d b) := by
 have loop : ∀ s, s <:+ l → UM (RS l s d b) = some (RS l (dropB s) d b) := by
  intro s
  induction s with
  | nil =>
   intro hs
   rw [UM.eq]; unfold Yt
   have c1 : decide (((l.length - ([] : List UInt8).length : Nat) : Int) < (((ba l).size : Nat) : Int)) = false := decide_eq_false (by rw [QJ]; simp)
   simp only
   rw [c1]; rfl
  | cons c t ih =>
   intro hs
   obtain ⟨h1, h2, h3, h4⟩ := QfC hs rfl
   have c1 : decide (((l.length - (c :: t).length : Nat) : Int) < (((ba l).size : Nat) : Int)) = true := decide_eq_true (by rw [QJ]; omega)
   have c2 : decide (0 ≤ ((l.length - (c :: t).length : Nat) : Int) ∧ ((l.length - (c :: t).length : Nat) : Int) < (((ba l).size : Nat) : Int)) = true := decide_eq_true (by rw [QJ]; omega)
   rw [UM.eq]; unfold Yt
   simp only
   rw [c1, cond_true, c2, cond_true, h1]
   by_cases hc : c = 32
   ·have c3 : ((c.toNat : Int) == 32) = true := by subst hc; rfl
    rw [c3, cond_true, w64_in (by omega) (by omega)]
    simp only [Option.bind_some, Sum.elim_inl]
    have e : (⟨ba l, ((l.length - (c :: t).length : Nat) : Int) + 1, d, b⟩ : Qe) = RS l t d b := by
     rw [show ((l.length - (c :: t).length : Nat) : Int) + 1 = ((l.length - t.length : Nat) : Int) from by rw [h3]; rfl]
    rw [e, ih h4]
    subst hc; rfl
   ·have c3 : ((c.toNat : Int) == 32) = false := by
     rw [beq_eq_false_iff_ne]; intro e; exact hc (UInt8.toNat_inj.1 (by have : (32 : UInt8).toNat = 32 := rfl; omega))
    rw [c3, cond_false, GE hc]; rfl
 intro s hs
 rw [UX.eq]; unfold El
 rw [loop s hs]; rfl
theorem X9 (s : List UInt8) : dropB s <:+ s := List.dropWhile_suffix _
theorem is_eq {l : List UInt8} (hl : l.length ≤ 1000000000) (a : List UInt8) (ha : a.length ≤ 100) (s : List UInt8) (hs : s <:+ l) (d : Int) (b : Bool) :
  Up (ba a) (RS l s d b) = some (bif pre a (dropB s) then (true, RS l ((dropB s).drop a.length) d b) else (false, RS l (dropB s) d b)) := by
 rw [Up.eq]; unfold F2
 rw [QfD hl d b s hs, Option.bind_some]
 have hs2 : dropB s <:+ l := (X9 s).trans hs
 generalize dropB s = t at hs2
 obtain ⟨q, hq⟩ := hs2
 have hlen : l.length = q.length + t.length := by rw [← hq, List.length_append]
 have hP : l.length - t.length = q.length := by omega
 simp only [QJ]
 rw [hP, w64_in (n := (q.length : Int) + (a.length : Int)) (by omega) (by omega)]
 by_cases h : a.length ≤ t.length
 ·have c1 : decide ((q.length : Int) + (a.length : Int) > (l.length : Int)) = false := decide_eq_false (by omega)
  have c2 : decide (0 ≤ (q.length : Int) ∧ (q.length : Int) ≤ (q.length : Int) + (a.length : Int) ∧ (q.length : Int) + (a.length : Int) ≤ (l.length : Int)) = true := decide_eq_true (by omega)
  have e1 : (ba l).extract (Int.toNat (q.length : Int)) (Int.toNat ((q.length : Int) + (a.length : Int))) = ba (t.take a.length) := by
   rw [Us, Int.toNat_natCast, show ((q.length : Int) + (a.length : Int)).toNat = q.length + a.length from by omega, ← hq, List.take_append, List.take_of_length_le (by omega), List.drop_left, show q.length + a.length - q.length = a.length from by omega]
  rw [c1, cond_false, c2, cond_true, e1, eqS_ba]
  cases hp : pre a t with
  | true =>
   have : decide (t.take a.length = a) = true := hp
   rw [this]
   simp only [Bool.not_true, cond_false, cond_true]
   rw [show (q.length : Int) + (a.length : Int) = ((l.length - (t.drop a.length).length : Nat) : Int) from by rw [List.length_drop]; omega]
  | false =>
   have : decide (t.take a.length = a) = false := hp
   rw [this]
   simp only [Bool.not_false, cond_true, cond_false]
 ·have c1 : decide ((q.length : Int) + (a.length : Int) > (l.length : Int)) = true := decide_eq_true (by omega)
  have hp : pre a t = false := by
   unfold pre; exact decide_eq_false fun e => by
    have := congrArg List.length e
    simp at this; omega
  rw [c1, hp]
  simp only [cond_true, cond_false]
theorem QbO (c : UInt8) : VH (c.toNat : Int) 10 = some (if isD c then (dg c : Int) else -1) ∧ VH (c.toNat : Int) 16 = some (if isH c then (dg c : Int) else -1) := by
 have hc := c.toNat_lt
 have e10 : ((10 : Int) == 16) = false := rfl
 have e16 : ((16 : Int) == 16) = true := rfl
 by_cases h1 : 48 ≤ c.toNat ∧ c.toNat ≤ 57
 ·have c1 : decide ((c.toNat : Int) ≥ 48) = true := decide_eq_true (by omega)
  have c2 : decide ((c.toNat : Int) ≤ 57) = true := decide_eq_true (by omega)
  have hD : isD c = true := decide_eq_true h1
  have hH : isH c = true := by simp [isH, hD]
  have hg : dg c = c.toNat - 48 := by unfold dg; rw [if_neg (by omega)]
  have e : w64 (IntKind.u8.wrap ((c.toNat : Int) - 48)) = (dg c : Int) := by rw [u8_in (by omega) (by omega), w64_in (by omega) (by omega)]; omega
  constructor <;> rw [VH.eq] <;> unfold Fl <;> rw [c1, cond_true, c2, cond_true, e]
  ·rw [hD]; rfl
  ·rw [hH]; rfl
 ·have hD : isD c = false := decide_eq_false h1
  have step10 : VH (c.toNat : Int) 10 = some (-1) := by
   rw [VH.eq]; unfold Fl
   rw [e10]
   cases h : decide ((c.toNat : Int) ≥ 48)
   ·rfl
   ·have c2 : decide ((c.toNat : Int) ≤ 57) = false := decide_eq_false (by have := of_decide_eq_true h; omega)
    rw [c2]; rfl
  refine ⟨by rw [step10, hD]; rfl, ?_⟩
  have head : VH (c.toNat : Int) 16 = bif decide ((c.toNat : Int) ≥ 97) then (bif decide ((c.toNat : Int) ≤ 102) then some (w64 (w64 (IntKind.u8.wrap ((c.toNat : Int) - 97)) + 10)) else some (-1)) else some (-1) := by
   rw [VH.eq]; unfold Fl
   rw [e16]
   cases h : decide ((c.toNat : Int) ≥ 48)
   ·rfl
   ·have c2 : decide ((c.toNat : Int) ≤ 57) = false := decide_eq_false (by have := of_decide_eq_true h; omega)
    rw [c2]; rfl
  rw [head]
  by_cases h2 : 97 ≤ c.toNat ∧ c.toNat ≤ 102
  ·have c3 : decide ((c.toNat : Int) ≥ 97) = true := decide_eq_true (by omega)
   have c4 : decide ((c.toNat : Int) ≤ 102) = true := decide_eq_true (by omega)
   have hH : isH c = true := by simp [isH, h2]
   have hg : dg c = c.toNat - 97 + 10 := by unfold dg; rw [if_pos h2.1]
   have e : w64 (w64 (IntKind.u8.wrap ((c.toNat : Int) - 97)) + 10) = (dg c : Int) := by
    rw [u8_in (by omega) (by omega), w64_in (n := (c.toNat : Int) - 97) (by omega) (by omega), w64_in (by omega) (by omega)]; omega
   rw [c3, cond_true, c4, cond_true, e, hH]; rfl
  ·have hH : isH c = false := by rw [isH, hD]; simp; omega
   rw [hH]
   cases h : decide ((c.toNat : Int) ≥ 97)
   ·rfl
   ·have c4 : decide ((c.toNat : Int) ≤ 102) = false := decide_eq_false (by have := of_decide_eq_true h; omega)
    rw [c4]; rfl
def isB (base : Nat) (c : UInt8) : Bool := if base = 16 then isH c else isD c
theorem QnO {base : Nat} (hb : base = 10 ∨ base = 16) (c : UInt8) : VH (c.toNat : Int) (base : Int) = some (if isB base c then (dg c : Int) else -1) := by
 rcases hb with rfl | rfl
 ·exact (QbO c).1
 ·exact (QbO c).2
theorem isB_H {base : Nat} {c : UInt8} (h : isB base c = true) : isH c = true := by
 unfold isB at h
 split at h
 ·exact h
 ·simp [isH, h]
theorem QoB {l : List UInt8} (hl : l.length ≤ 1000000000) {base : Nat} (hb : base = 10 ∨ base = 16) (at_ : Int) (d : Int) (b : Bool) : ∀ (s : List UInt8) (n : Nat), s <:+ l → n < 4294967296 →
  match numv base (s.takeWhile (isB base)) n with
  | some m => Ja ⟨base, n, at_, RS l s d b, E0⟩ = some (.inr ⟨m, at_, RS l (s.dropWhile (isB base)) d b, E0⟩)
  | none => ∃ r, r <:+ l ∧ Ja ⟨base, n, at_, RS l s d b, E0⟩ = some (.inl ⟨RS l r d true, E0⟩) := by
 intro s
 induction s with
 | nil =>
  intro n hs hn
  simp only [List.takeWhile_nil, numv]
  rw [Ja.eq]; unfold W4
  have c1 : decide (((l.length - ([] : List UInt8).length : Nat) : Int) < (((ba l).size : Nat) : Int)) = false := decide_eq_false (by rw [QJ]; simp)
  simp only
  rw [c1]; rfl
 | cons c t ih =>
  intro n hs hn
  obtain ⟨h1, h2, h3, h4⟩ := QfC hs rfl
  have c1 : decide (((l.length - (c :: t).length : Nat) : Int) < (((ba l).size : Nat) : Int)) = true := decide_eq_true (by rw [QJ]; omega)
  have c2 : decide (0 ≤ ((l.length - (c :: t).length : Nat) : Int) ∧ ((l.length - (c :: t).length : Nat) : Int) < (((ba l).size : Nat) : Int)) = true := decide_eq_true (by rw [QJ]; omega)
  have step : Ja ⟨base, n, at_, RS l (c :: t) d b, E0⟩ = (W4 VH ⟨base, n, at_, RS l (c :: t) d b, E0⟩).bind (Sum.elim Ja some) := Ja.eq _
  unfold W4 at step
  simp only at step
  rw [c1, cond_true, c2, cond_true, h1, QnO hb, Option.bind_some, Option.bind_some] at step
  cases hB : isB base c with
  | false =>
   rw [hB] at step
   have c3 : decide ((if false = true then ((dg c : Nat) : Int) else -1) ≥ 0) = false := rfl
   rw [c3, cond_false] at step
   simp only [List.takeWhile_cons, hB, Bool.false_eq_true, if_false, numv, List.dropWhile_cons]
   rw [step]; rfl
  | true =>
   rw [hB] at step
   have hdg := dg_lt (isB_H hB)
   have c3 : decide ((if true = true then ((dg c : Nat) : Int) else -1) ≥ 0) = true := decide_eq_true (by rw [if_pos rfl]; omega)
   have hmul : n * base ≤ 4294967296 * 16 := Nat.mul_le_mul (by omega) (by omega)
   have em : w64 (w64 ((base : Int) * (n : Int)) + (if true = true then ((dg c : Nat) : Int) else -1)) = ((n * base + dg c : Nat) : Int) := by
    rw [if_pos rfl, ← Int.natCast_mul, Nat.mul_comm base n, w64_in (n := ((n * base : Nat) : Int)) (by omega) (by omega), w64_in (by omega) (by omega)]; omega
   have e3 : (⟨ba l, w64 (((l.length - (c :: t).length : Nat) : Int) + 1), d, b⟩ : Qe) = RS l t d b := by
    rw [w64_in (by omega) (by omega), show ((l.length - (c :: t).length : Nat) : Int) + 1 = ((l.length - t.length : Nat) : Int) from by rw [h3]; rfl]
   have e4 : (⟨ba l, w64 (((l.length - (c :: t).length : Nat) : Int) + 1), d, true⟩ : Qe) = RS l t d true := by
    rw [w64_in (by omega) (by omega), show ((l.length - (c :: t).length : Nat) : Int) + 1 = ((l.length - t.length : Nat) : Int) from by rw [h3]; rfl]
   rw [c3, cond_true, em, e3, e4] at step
   simp only [List.takeWhile_cons, hB, if_true, numv, List.dropWhile_cons]
   by_cases hbig : n * base + dg c ≥ 4294967296
   ·have c4 : decide (((n * base + dg c : Nat) : Int) ≥ 4294967296) = true := decide_eq_true (by omega)
    rw [if_pos hbig]
    rw [c4, cond_true] at step
    exact ⟨t, h4, step⟩
   ·have c4 : decide (((n * base + dg c : Nat) : Int) ≥ 4294967296) = false := decide_eq_false (by omega)
    rw [if_neg hbig]
    rw [c4, cond_false] at step
    have ih := ih (n * base + dg c) h4 (by omega)
    rw [step]
    exact ih
theorem Qjw {p : UInt8 → Bool} {s : List UInt8} : (s.takeWhile p = [] ↔ s.dropWhile p = s) ∧ (s.dropWhile p).length = s.length - (s.takeWhile p).length := by
 have h := List.takeWhile_append_dropWhile (p := p) (l := s)
 have hl := congrArg List.length h
 rw [List.length_append] at hl
 refine ⟨⟨fun e => by rw [e, List.nil_append] at h; exact h, fun e => by
  have := congrArg List.length e
  exact List.eq_nil_of_length_eq_zero (by omega)⟩, by omega⟩
theorem QhZ {l : List UInt8} (hl : l.length ≤ 1000000000) {base : Nat} (hb : base = 10 ∨ base = 16) (s : List UInt8) (hs : s <:+ l) (d : Int) (b : Bool) :
  match numv base (s.takeWhile (isB base)) 0 with
  | some n => J6 base (RS l s d b) = some (⟨1, n, s_, []⟩, RS l (s.dropWhile (isB base)) d (bif decide (s.takeWhile (isB base) = []) then true else b))
  | none => ∃ r, r <:+ l ∧ J6 base (RS l s d b) = some (E0, RS l r d true) := by
 have hL := QoB hl hb ((l.length - s.length : Nat) : Int) d b s 0 hs (by decide)
 have step : J6 base (RS l s d b) = YU Ja base (RS l s d b) := J6.eq _ _
 unfold YU at step
 cases hv : numv base (s.takeWhile (isB base)) 0 with
 | none =>
  rw [hv] at hL
  obtain ⟨r, hr, e⟩ := hL
  refine ⟨r, hr, ?_⟩
  have e : Ja ⟨base, 0, ((l.length - s.length : Nat) : Int), RS l s d b, E0⟩ = some (.inl ⟨RS l r d true, E0⟩) := e
  simp only at step
  rw [e] at step; exact step
 | some n =>
  rw [hv] at hL
  have e : Ja ⟨base, 0, ((l.length - s.length : Nat) : Int), RS l s d b, E0⟩ = some (.inr ⟨n, ((l.length - s.length : Nat) : Int), RS l (s.dropWhile (isB base)) d b, E0⟩) := hL
  simp only at step
  rw [e, Option.bind_some, Sum.elim_inr] at step
  simp only at step ⊢
  obtain ⟨t1, t2⟩ := @Qjw (isB base) s
  have hsl : s.length ≤ l.length := hs.length_le
  have htl : (s.takeWhile (isB base)).length ≤ s.length := (List.takeWhile_sublist _).length_le
  have c1 : (((l.length - s.length : Nat) : Int) == ((l.length - (s.dropWhile (isB base)).length : Nat) : Int)) = decide (s.takeWhile (isB base) = []) := by
   rw [Bool.eq_iff_iff, beq_iff_eq, decide_eq_true_iff]
   constructor
   ·intro e; exact List.eq_nil_of_length_eq_zero (by omega)
   ·intro e; rw [t1.1 e]
  rw [c1] at step
  rw [step]
  cases decide (s.takeWhile (isB base) = []) <;> rfl
end Go.Ab
namespace Go.Ab
theorem Qqp {l : List UInt8} (hl : l.length ≤ 1000000000) (at_ d : Int) (b : Bool) : ∀ s : List UInt8, s <:+ l → Uy ⟨at_, RS l s d b, E0⟩ = some ⟨at_, RS l (s.dropWhile isI) d b, E0⟩ := by
 intro s
 induction s with
 | nil =>
  intro hs
  rw [Uy.eq]; unfold Yu
  have c1 : decide (((l.length - ([] : List UInt8).length : Nat) : Int) < (((ba l).size : Nat) : Int)) = false := decide_eq_false (by rw [QJ]; simp)
  simp only
  rw [c1]; rfl
 | cons c t ih =>
  intro hs
  obtain ⟨h1, h2, h3, h4⟩ := QfC hs rfl
  have c1 : decide (((l.length - (c :: t).length : Nat) : Int) < (((ba l).size : Nat) : Int)) = true := decide_eq_true (by rw [QJ]; omega)
  have c2 : decide (0 ≤ ((l.length - (c :: t).length : Nat) : Int) ∧ ((l.length - (c :: t).length : Nat) : Int) < (((ba l).size : Nat) : Int)) = true := decide_eq_true (by rw [QJ]; omega)
  have e3 : (⟨ba l, w64 (((l.length - (c :: t).length : Nat) : Int) + 1), d, b⟩ : Qe) = RS l t d b := by
   rw [w64_in (by omega) (by omega), show ((l.length - (c :: t).length : Nat) : Int) + 1 = ((l.length - t.length : Nat) : Int) from by rw [h3]; rfl]
  rw [Uy.eq]; unfold Yu
  simp only
  rw [c1, cond_true, c2, cond_true, h1, e3]
  have e97 : decide ((c.toNat : Int) ≥ 97) = decide (97 ≤ c.toNat) := decide_eq_decide.2 (by omega)
  have e122 : decide ((c.toNat : Int) ≤ 122) = decide (c.toNat ≤ 122) := decide_eq_decide.2 (by omega)
  have e48 : decide ((c.toNat : Int) ≥ 48) = decide (48 ≤ c.toNat) := decide_eq_decide.2 (by omega)
  have e57 : decide ((c.toNat : Int) ≤ 57) = decide (c.toNat ≤ 57) := decide_eq_decide.2 (by omega)
  have e95 : ((c.toNat : Int) == 95) = decide (c.toNat = 95) := by rw [Bool.eq_iff_iff, beq_iff_eq, decide_eq_true_iff]; omega
  have hI : isI c = (decide (97 ≤ c.toNat) && decide (c.toNat ≤ 122) || decide (c.toNat = 95) || decide (48 ≤ c.toNat) && decide (c.toNat ≤ 57)) := by
   unfold isI isS isD; rw [Bool.decide_or, Bool.decide_and, Bool.decide_and]
  rw [e97, e122, e48, e57, e95]
  rw [List.dropWhile_cons, hI]
  have ih := ih h4
  cases decide (97 ≤ c.toNat) <;> cases decide (c.toNat ≤ 122) <;> cases decide (48 ≤ c.toNat) <;> cases decide (c.toNat ≤ 57) <;> cases decide (c.toNat = 95) <;> first | exact ih | rfl
theorem Qpy {l : List UInt8} (hl : l.length ≤ 1000000000) (s : List UInt8) (hs : s <:+ l) (d : Int) (b : Bool) :
  Vt (RS l s d b) = some (⟨2, 0, ba (s.takeWhile isI), []⟩, RS l (s.dropWhile isI) d (bif wordB (s.takeWhile isI) then b else true)) := by
 rw [Vt.eq]; unfold Em
 simp only
 have e : Uy ⟨((l.length - s.length : Nat) : Int), RS l s d b, E0⟩ = some ⟨((l.length - s.length : Nat) : Int), RS l (s.dropWhile isI) d b, E0⟩ := Qqp hl _ d b s hs
 rw [e, Option.bind_some]
 simp only
 obtain ⟨q, hq⟩ := hs
 have hlen : l.length = q.length + s.length := by rw [← hq, List.length_append]
 obtain ⟨_, t2⟩ := @Qjw isI s
 have htl : (s.takeWhile isI).length ≤ s.length := (List.takeWhile_sublist _).length_le
 have c1 : decide (0 ≤ ((l.length - s.length : Nat) : Int) ∧ ((l.length - s.length : Nat) : Int) ≤ ((l.length - (s.dropWhile isI).length : Nat) : Int) ∧ ((l.length - (s.dropWhile isI).length : Nat) : Int) ≤ (((ba l).size : Nat) : Int)) = true := decide_eq_true (by rw [QJ]; omega)
 have e1 : (ba l).extract (Int.toNat ((l.length - s.length : Nat) : Int)) (Int.toNat ((l.length - (s.dropWhile isI).length : Nat) : Int)) = ba (s.takeWhile isI) := by
  rw [Us, Int.toNat_natCast, Int.toNat_natCast, show l.length - s.length = q.length from by omega, show l.length - (s.dropWhile isI).length = q.length + (s.takeWhile isI).length from by omega, ← hq, List.take_append, List.take_of_length_le (by omega), List.drop_left, show q.length + (s.takeWhile isI).length - q.length = (s.takeWhile isI).length from by omega]
  conv => lhs; arg 1; arg 2; rw [← List.takeWhile_append_dropWhile (p := isI) (l := s)]
  rw [List.take_left']
  rfl
 rw [c1, cond_true, e1, QnN _ (by omega), Option.bind_some]
 cases wordB (s.takeWhile isI) <;> rfl
end Go.Ab
namespace Go.Ab
section
variable {l : List UInt8} (hl : l.length ≤ 1000000000)
include hl
omit hl in
theorem J5 {k lev : Nat} (hk : 5 ≤ k ∧ k ≤ 11) (h : lvlOf k ≠ lev) (r : Qe) : Q4 ⟨lev, k, r⟩ = Q4 ⟨lev, (k + 1 : Nat), r⟩ := by
 rw [Q4.eq ⟨lev, k, r⟩]; unfold Xq
 have c1 : decide ((k : Int) ≤ 11) = true := decide_eq_true (by omega)
 have c2 : ((lvlOf k : Int) == (lev : Int)) = false := by rw [beq_eq_false_iff_ne]; omega
 simp only
 rw [c1, cond_true, SH hk, Option.bind_some]
 simp only
 rw [c2, cond_false, w64_in (n := (k : Int) + 1) (by omega) (by omega)]
 rfl
theorem Es {k lev : Nat} (hk : 5 ≤ k ∧ k ≤ 11) (h : lvlOf k = lev) (s : List UInt8) (hs : s <:+ l) (d : Int) : Q4 ⟨lev, k, RS l s d false⟩ =
  bif pre (sg k) (dropB s) then some (.inl ⟨k, RS l ((dropB s).drop (sg k).length) d false⟩) else Q4 ⟨lev, (k + 1 : Nat), RS l (dropB s) d false⟩ := by
 rw [Q4.eq ⟨lev, k, RS l s d false⟩]; unfold Xq
 have c1 : decide ((k : Int) ≤ 11) = true := decide_eq_true (by omega)
 have c2 : ((lvlOf k : Int) == (lev : Int)) = true := by rw [beq_iff_eq]; omega
 have hsg : (sg k).length ≤ 100 := by unfold sg; split <;> simp
 simp only
 rw [c1, cond_true, SH hk, Option.bind_some]
 simp only
 rw [c2, cond_true, is_eq hl (sg k) hsg s hs d false]
 simp only [Bool.not_false, cond_true, Option.bind_some]
 cases pre (sg k) (dropB s) with
 | true => rfl
 | false =>
  simp only [cond_false]
  rw [w64_in (n := (k : Int) + 1) (by omega) (by omega)]
  rfl
omit hl in
theorem F9 (lev : Int) (r : Qe) : Q4 ⟨lev, ((12 : Nat) : Int), r⟩ = some (.inr r) := by rw [Q4.eq]; rfl
theorem Qqq {lev : Nat} (h5 : lev < 5) (s : List UInt8) (hs : s <:+ l) (d : Int) : Vc lev (RS l s d false) =
  some (match kindS (lv lev) (dropB s) with | some k => ((k : Int), RS l ((dropB s).drop (sg k).length) d false) | none => (0, RS l (dropB s) d false)) := by
 have hs2 : dropB s <:+ l := (X9 s).trans hs
 rw [Vc.eq]; unfold ZE
 have h2 : lev = 0 ∨ lev = 1 ∨ lev = 2 ∨ lev = 3 ∨ lev = 4 := by omega
 have e5 : Q4 ⟨lev, 5, RS l s d false⟩ = Q4 ⟨lev, ((5 : Nat) : Int), RS l s d false⟩ := rfl
 rw [e5]
 rcases h2 with rfl | rfl | rfl | rfl | rfl
 ·rw [J5 (by omega) (by decide), J5 (by omega) (by decide), J5 (by omega) (by decide), J5 (by omega) (by decide), Es hl (by omega) (by decide) s hs d, J5 (by omega) (by decide), J5 (by omega) (by decide), F9]
  simp only [kindS, lv, List.find?_cons]
  cases pre (sg 9) (dropB s) <;> rfl
 ·rw [J5 (by omega) (by decide), J5 (by omega) (by decide), J5 (by omega) (by decide), Es hl (by omega) (by decide) s hs d, J5 (by omega) (by decide), J5 (by omega) (by decide), J5 (by omega) (by decide), F9]
  simp only [kindS, lv, List.find?_cons]
  cases pre (sg 8) (dropB s) <;> rfl
 ·rw [J5 (by omega) (by decide), J5 (by omega) (by decide), J5 (by omega) (by decide), J5 (by omega) (by decide), J5 (by omega) (by decide), Es hl (by omega) (by decide) s hs d, Es hl (by omega) (by decide) (dropB s) hs2 d, GD, F9]
  simp only [kindS, lv, List.find?_cons]
  cases pre (sg 10) (dropB s) <;> cases pre (sg 11) (dropB s) <;> rfl
 ·rw [Es hl (by omega) (by decide) s hs d, Es hl (by omega) (by decide) (dropB s) hs2 d, GD, J5 (by omega) (by decide), J5 (by omega) (by decide), J5 (by omega) (by decide), J5 (by omega) (by decide), J5 (by omega) (by decide), F9]
  simp only [kindS, lv, List.find?_cons]
  cases pre (sg 5) (dropB s) <;> cases pre (sg 6) (dropB s) <;> rfl
 ·rw [J5 (by omega) (by decide), J5 (by omega) (by decide), Es hl (by omega) (by decide) s hs d, J5 (by omega) (by decide), J5 (by omega) (by decide), J5 (by omega) (by decide), J5 (by omega) (by decide), F9]
  simp only [kindS, lv, List.find?_cons]
  cases pre (sg 7) (dropB s) <;> rfl
omit hl in
theorem Qpz (lev : Nat) (S : ByteArray) (p d : Int) : Vc lev ⟨S, p, d, true⟩ = some (0, ⟨S, p, d, true⟩) := by
  have loop : ∀ (g k : Nat), g + k = 12 → 5 ≤ k → Q4 ⟨lev, k, ⟨S, p, d, true⟩⟩ = some (.inr ⟨S, p, d, true⟩) := by
    intro g
    induction g with
    | zero => intro k hk _; obtain rfl : k = 12 := by omega
              exact F9 _ _
    | succ g ih =>
      intro k hk h5
      rw [Q4.eq]; unfold Xq
      have c1 : decide ((k : Int) ≤ 11) = true := decide_eq_true (by omega)
      simp only
      rw [c1, cond_true, SH ⟨h5, by omega⟩, Option.bind_some, w64_in (n := (k : Int) + 1) (by omega) (by omega)]
      have := ih (k + 1) (by omega) (by omega)
      cases ((lvlOf k : Int) == (lev : Int)) <;> exact this
  rw [Vc.eq]; unfold ZE
  have e : Q4 ⟨lev, 5, ⟨S, p, d, true⟩⟩ = some (.inr ⟨S, p, d, true⟩) := loop 7 5 rfl (by omega)
  rw [e]; rfl
end
noncomputable def RL (lev : Nat) (r : Qe) (x : Qa) : Option (Qa × Qe) := (Jg ⟨(lev : Int), r, E0, x⟩).bind fun o => some (o.h1, o.h0)
theorem rtwo5 (r : Qe) : Qv ((5 : Nat) : Int) r = QW r := by
 rw [Qv.eq]; unfold Xf
 have c1 : decide (((5 : Nat) : Int) > 4) = true := rfl
 rw [c1, cond_true]
 cases QW r <;> rfl
theorem QmJ {lev : Nat} (h : lev < 5) (r : Qe) : Qv (lev : Int) r = (Qv ((lev + 1 : Nat) : Int) r).bind fun q => RL lev q.2 q.1 := by
 rw [Qv.eq]; unfold Xf
 have c1 : decide ((lev : Int) > 4) = false := decide_eq_false (by omega)
 rw [c1, cond_false, w64_in (n := (lev : Int) + 1) (by omega) (by omega)]
 rfl
theorem RL_bad (lev : Nat) (S : ByteArray) (p d : Int) (x : Qa) : RL lev ⟨S, p, d, true⟩ x = some (x, ⟨S, p, d, true⟩) := by
 unfold RL
 rw [Jg.eq]; unfold V3
 simp only
 rw [Qpz]; rfl
theorem RL_eq {l : List UInt8} (hl : l.length ≤ 1000000000) {lev : Nat} (h5 : lev < 5) (s : List UInt8) (hs : s <:+ l) (d : Int) (x : Qa) : RL lev (RS l s d false) x = match kindS (lv lev) (dropB s) with
  | none => some (x, RS l (dropB s) d false)
  | some k => (Qv ((lev + 1 : Nat) : Int) (RS l ((dropB s).drop (sg k).length) d false)).bind fun q => RL lev q.2 ⟨k, 0, s_, [x, q.1]⟩ := by
 conv => lhs; unfold RL
 rw [Jg.eq]; unfold V3
 simp only
 rw [Qqq hl h5 s hs d, Option.bind_some]
 cases hk : kindS (lv lev) (dropB s) with
 | none => rfl
 | some k =>
  have hk5 := lv_ok (List.mem_of_find?_eq_some hk)
  have c1 : ((k : Int) == 0) = false := by rw [beq_eq_false_iff_ne]; omega
  simp only
  rw [c1, cond_false, w64_in (n := (lev : Int) + 1) (by omega) (by omega)]
  show Option.bind (Option.bind (Option.bind (Qv ((lev + 1 : Nat) : Int) (RS l ((dropB s).drop (sg k).length) d false)) _) _) _ = _
  cases Qv ((lev + 1 : Nat) : Int) (RS l ((dropB s).drop (sg k).length) d false) <;> rfl
def stuck (r : List UInt8) : Prop := ∃ c t, r = c :: t ∧ isI c = true
def RR (l : List UInt8) (f : Option (Qa × Qe)) (d : Int) (o : Option (X3 × List UInt8)) : Prop := match o with
 | some (x, r) => f = some (x.t, RS l r d false)
 | none => ∃ e r b, f = some (e, RS l r d b) ∧ r <:+ l ∧ (b = true ∨ stuck r)
theorem Qda {r : List UInt8} (h : stuck r) : dropB r = r := by
 obtain ⟨c, t, rfl, hc⟩ := h
 exact GE fun e => by rw [e] at hc; cases hc
theorem QnP {r : List UInt8} (h : stuck r) {lev : Nat} (h5 : lev < 5) : kindS (lv lev) r = none := by
 obtain ⟨c, t, rfl, hc⟩ := h
 unfold kindS
 rw [List.find?_eq_none]
 intro k hk
 obtain ⟨c', t', e, hc', _⟩ := Qfz (lv_ok hk)
 rw [e]
 have : c' ≠ c := fun e => by rw [e, hc] at hc'; cases hc'
 simp only [pre, Bool.not_eq_true]
 exact decide_eq_false fun e => this (by simpa using congrArg List.head? e.symm)
theorem QmK {l : List UInt8} (hl : l.length ≤ 1000000000) {lev : Nat} (h5 : lev < 5) {r : List UInt8} (hr : r <:+ l) {d : Int} {b : Bool} (h : b = true ∨ stuck r) (x : Qa) : RL lev (RS l r d b) x = some (x, RS l r d b) := by
 cases b with
 | true => exact RL_bad lev _ _ d x
 | false =>
  have h : stuck r := by rcases h with h | h; cases h; exact h
  rw [RL_eq hl h5 r hr d x, Qda h, QnP h h5]
theorem dw_suf {p : UInt8 → Bool} (s : List UInt8) : s.dropWhile p <:+ s := List.dropWhile_suffix p
theorem QmL {l : List UInt8} (hl : l.length ≤ 1000000000) {base : Nat} (hb : base = 10 ∨ base = 16) (s : List UInt8) (hs : s <:+ l) (hne : s.takeWhile (isB base) ≠ []) (d : Int) :
  RR l (J6 base (RS l s d false)) d (tailA base (s.takeWhile (isB base)) (s.dropWhile (isB base))) := by
 have h := QhZ hl hb s hs d false
 unfold tailA
 cases hv : numv base (s.takeWhile (isB base)) 0 with
 | none =>
  rw [hv] at h
  obtain ⟨r, hr, e⟩ := h
  exact ⟨_, r, true, e, hr, .inl rfl⟩
 | some n =>
  rw [hv] at h
  simp only at h ⊢
  rw [decide_eq_false hne, cond_false] at h
  by_cases hi : (s.dropWhile (isB base)).takeWhile isI = []
  ·rw [if_pos hi]; exact h
  ·rw [if_neg hi]
   refine ⟨_, _, false, h, (dw_suf s).trans hs, .inr ?_⟩
   cases hd : s.dropWhile (isB base) with
   | nil => rw [hd] at hi; exact absurd rfl hi
   | cons c t =>
    rw [hd] at hi
    refine ⟨c, t, rfl, ?_⟩
    cases hc : isI c with
    | true => rfl
    | false => exfalso; apply hi; simp [List.takeWhile_cons, hc]
theorem isB10 : isB 10 = isD := by funext c; rfl
theorem isB16 : isB 16 = isH := by funext c; rfl
theorem ratom {l : List UInt8} (hl : l.length ≤ 1000000000) {s t : List UInt8} (hs : s <:+ l) (h : dropB s = t) (h1 : ∀ r, t ≠ 40 :: r) (h2 : ∀ r, t ≠ 45 :: r) (h3 : ∀ r, t ≠ 46 :: r) (d : Int) : RR l (QW (RS l s d false)) d (atomS t) := by
 have ht : dropB t = t := by rw [← h, GD]
 have hts : t <:+ l := by rw [← h]; exact (X9 s).trans hs
 have fin : ∀ f : Option (Qa × Qe), (f.bind fun r => some (r.1, r.2)) = f := fun f => by cases f <;> rfl
 rw [QW.eq]; unfold Ws
 simp only [cond_false]
 rw [show h_28 = ba [40] from rfl, is_eq hl [40] (by simp) s hs d false, h, SN h1]
 simp only [cond_false, Option.bind_some]
 rw [show h_2d = ba [45] from rfl, is_eq hl [45] (by simp) t hts d false, ht, SN h2]
 simp only [cond_false, Option.bind_some]
 rw [show h_2e = ba [46] from rfl, is_eq hl [46] (by simp) t hts d false, ht, SN h3]
 simp only [cond_false, Option.bind_some]
 rw [show s_0x = ba [48, 120] from rfl, is_eq hl [48, 120] (by simp) t hts d false, ht]
 cases hp : pre [48, 120] t with
 | true =>
  obtain ⟨p1, p2⟩ := Qfy hp
  have h2s : t.drop 2 <:+ l := (List.drop_suffix 2 t).trans hts
  simp only [cond_true, Option.bind_some]
  rw [fin]
  show RR l (J6 ((16 : Nat) : Int) (RS l (t.drop 2) d false)) d (atomS t)
  unfold atomS
  rw [hp]
  by_cases he : (t.drop 2).takeWhile isH = []
  ·-- no digit: the document tells so; the program reads 0, and a word begins behind it
   have hn := QhZ hl (.inr rfl) (t.drop 2) h2s d false
   rw [isB16, he] at hn
   simp only [numv, decide_true, cond_true] at hn
   rw [decide_eq_true he]
   simp only [Bool.not_true, Bool.and_false, cond_false]
   have e0 : t = 48 :: 120 :: t.drop 2 := p2
   have d48 : isD 48 = true := by decide
   have d120 : isD 120 = false := by decide
   have q1 : t.takeWhile isD = [48] := by rw [e0]; simp [List.takeWhile_cons, d48, d120]
   have q2 : t.dropWhile isD = 120 :: t.drop 2 := by
    conv => lhs; rw [e0]
    rfl
   rw [q1, q2]
   have : tailA 10 [48] (120 :: t.drop 2) = none := by
    unfold tailA
    rw [show numv 10 [48] 0 = some 0 from rfl]
    simp only
    have i120 : isI 120 = true := by decide
    rw [if_neg]
    simp [List.takeWhile_cons, i120]
   simp only [show decide (([48] : List UInt8) = []) = false from rfl, Bool.not_false, cond_true, this]
   exact ⟨_, _, true, hn, (dw_suf _).trans h2s, .inl rfl⟩
  ·rw [decide_eq_false he]
   simp only [Bool.not_false, Bool.true_and, cond_true]
   have := QmL hl (base := 16) (.inr rfl) (t.drop 2) h2s (by rw [isB16]; exact he) d
   rw [isB16] at this; exact this
 | false =>
  simp only [cond_false, Option.bind_some]
  unfold atomS
  rw [hp]
  simp only [Bool.false_and, cond_false]
  have wd : RR l (Vt (RS l t d false)) d (bif wordB (t.takeWhile isI) then some (.nm (ba (t.takeWhile isI)), t.dropWhile isI) else none) := by
   rw [Qpy hl t hts d false]
   cases hw : wordB (t.takeWhile isI) with
   | true => rfl
   | false => exact ⟨_, _, true, rfl, (dw_suf _).trans hts, .inl rfl⟩
  match t, hts, wd with
  | [], hts, wd =>
   have c1 : decide (((l.length - ([] : List UInt8).length : Nat) : Int) < (((ba l).size : Nat) : Int)) = false := decide_eq_false (by rw [QJ]; simp)
   rw [c1, cond_false, fin]
   exact wd
  | c :: u, hts, wd =>
   obtain ⟨g1, g2, g3, g4⟩ := QfC hts rfl
   have c1 : decide (((l.length - (c :: u).length : Nat) : Int) < (((ba l).size : Nat) : Int)) = true := decide_eq_true (by rw [QJ]; omega)
   have c2 : decide (0 ≤ ((l.length - (c :: u).length : Nat) : Int) ∧ ((l.length - (c :: u).length : Nat) : Int) < (((ba l).size : Nat) : Int)) = true := decide_eq_true (by rw [QJ]; omega)
   rw [c1, cond_true, c2, cond_true, g1, (QbO c).1, Option.bind_some, fin, fin]
   cases hD : isD c with
   | true =>
    have c3 : decide ((if true = true then ((dg c : Nat) : Int) else -1) ≥ 0) = true := decide_eq_true (by rw [if_pos rfl]; omega)
    have hne : (c :: u).takeWhile isD ≠ [] := by simp [List.takeWhile_cons, hD]
    rw [c3, cond_true, decide_eq_false hne]
    simp only [Bool.not_false, cond_true]
    have := QmL hl (base := 10) (.inl rfl) (c :: u) hts (by rw [isB10]; exact hne) d
    rw [isB10] at this; exact this
   | false =>
    have c3 : decide ((if false = true then ((dg c : Nat) : Int) else -1) ≥ 0) = false := rfl
    have he : (c :: u).takeWhile isD = [] := by simp [List.takeWhile_cons, hD]
    rw [c3, cond_false, decide_eq_true he]
    exact wd
end Go.Ab
namespace Go.Ab
def sufQ (r s : List UInt8) : Prop := ∃ p, p ++ r = s ∧ 34 ∉ p
theorem sufQ.suf {r s : List UInt8} (h : sufQ r s) : r <:+ s := let ⟨p, e, _⟩ := h; ⟨p, e⟩
theorem sufQ.refl (s : List UInt8) : sufQ s s := ⟨[], rfl, by simp⟩
theorem sufQ.trans {q r s : List UInt8} (h : sufQ q r) (k : sufQ r s) : sufQ q s := by
 obtain ⟨a, rfl, ha⟩ := h
 obtain ⟨b, rfl, hb⟩ := k
 exact ⟨b ++ a, by simp, by simp [ha, hb]⟩
theorem sufQ.of {a r s : List UInt8} (e : s = a ++ r) (h : 34 ∉ a) : sufQ r s := ⟨a, e.symm, h⟩
theorem dw_q {p : UInt8 → Bool} (hp : p 34 = false) (s : List UInt8) : sufQ (s.dropWhile p) s := by
 refine .of (List.takeWhile_append_dropWhile (p := p)).symm fun h => ?_
 have := List.all_eq_true.1 (List.all_takeWhile (p := p) (l := s)) 34 h
 rw [hp] at this; cases this
theorem Pa (s : List UInt8) : sufQ (dropB s) s := dw_q (by decide) s
theorem pre_q {a s : List UInt8} (h : pre a s = true) (ha : 34 ∉ a) : sufQ (s.drop a.length) s := by
 have h := of_decide_eq_true (show decide (s.take a.length = a) = true from h)
 refine .of (a := a) ?_ ha
 conv => lhs; rw [← List.take_append_drop a.length s]
 rw [h]
theorem sg_34 {k : Nat} (hk : 5 ≤ k ∧ k ≤ 11) : 34 ∉ sg k := by
 have : k = 5 ∨ k = 6 ∨ k = 7 ∨ k = 8 ∨ k = 9 ∨ k = 10 ∨ k = 11 := by omega
 rcases this with rfl | rfl | rfl | rfl | rfl | rfl | rfl <;> decide
def BothO (s : List UInt8) (d : Int) : Prop := ∃ o : Option (X3 × List UInt8), (∀ x r, o = some (x, r) → sufQ r s) ∧ PR (QE (PS s d false)) d o ∧
 ∀ l : List UInt8, l.length ≤ 1000000000 → s <:+ l → RR l (QW (RS l s d false)) d o
def BothT (lev : Nat) (s : List UInt8) (d : Int) : Prop := ∃ o : Option (X3 × List UInt8), (∀ x r, o = some (x, r) → sufQ r s) ∧ PR (Qo (lev : Int) (PS s d false)) d o ∧
 ∀ l : List UInt8, l.length ≤ 1000000000 → s <:+ l → RR l (Qv (lev : Int) (RS l s d false)) d o
noncomputable def BothL (lev : Nat) (x : X3) (s : List UInt8) (d : Int) : Prop := ∃ o : Option (X3 × List UInt8), (∀ y r, o = some (y, r) → sufQ r s) ∧ PR (PL lev (PS s d false) x.t) d o ∧
 ∀ l : List UInt8, l.length ≤ 1000000000 → s <:+ l → RR l (RL lev (RS l s d false) x.t) d o
theorem sg_pos {k : Nat} (hk : 5 ≤ k ∧ k ≤ 11) : 1 ≤ (sg k).length := by
 obtain ⟨c, t, e, _⟩ := Qfz hk
 rw [e]; simp
theorem bothL {lev : Nat} (h5 : lev < 5) {d : Int} : ∀ (n : Nat) (s : List UInt8), s.length ≤ n → (∀ s' : List UInt8, s'.length < s.length → BothT (lev + 1) s' d) → ∀ x : X3, BothL lev x s d := by
 intro n
 induction n with
 | zero =>
  intro s hs _ x
  have : s = [] := List.eq_nil_of_length_eq_zero (by omega)
  subst this
  have hk : kindS (lv lev) (dropB []) = none := (QbN h5 []).2
  refine ⟨some (x, []), fun y r e => by cases e; exact sufQ.refl _, ?_, fun l hl hs => ?_⟩
  ·have := QcA h5 hk d x.t; exact this
  ·have := RL_eq hl h5 [] hs d x.t
   rw [hk] at this; exact this
 | succ n ih =>
  intro s hs hT x
  have hds := X9 s
  have hdl := Qlm s
  cases hk : kindS (lv lev) (dropB s) with
  | none =>
   refine ⟨some (x, dropB s), fun y r e => by cases e; exact Pa s, QcA h5 hk d x.t, fun l hl hs => ?_⟩
   have := RL_eq hl h5 s hs d x.t
   rw [hk] at this; exact this
  | some k =>
   have hk5 := lv_ok (List.mem_of_find?_eq_some hk)
   have hpre : pre (sg k) (dropB s) = true := by simpa using List.find?_some hk
   have hpl := (Qfy hpre).1
   have hsp := sg_pos hk5
   have hlt : ((dropB s).drop (sg k).length).length < s.length := by rw [List.length_drop]; omega
   obtain ⟨o1, a1, a2, a3⟩ := hT _ hlt
   have hsuf : (dropB s).drop (sg k).length <:+ s := (List.drop_suffix _ _).trans hds
   have hsq : sufQ ((dropB s).drop (sg k).length) s := (pre_q hpre (sg_34 hk5)).trans (Pa s)
   have hP := PL_eq h5 s d x.t
   rw [hk] at hP
   simp only at hP
   cases o1 with
   | none =>
    obtain ⟨e, r, he⟩ := a2
    refine ⟨none, fun y r e => (nomatch e), ?_, fun l hl hs => ?_⟩
    ·rw [hP, he]
     simp only [Option.bind_some, PL_bad]
     exact ⟨_, _, rfl⟩
    ·obtain ⟨e', r', b, h1, h2, h3⟩ := a3 l hl (hsuf.trans hs)
     have hR := RL_eq hl h5 s hs d x.t
     rw [hk] at hR
     simp only at hR
     rw [hR, h1]
     simp only [Option.bind_some]
     rw [QmK hl h5 h2 h3]
     exact ⟨_, r', b, rfl, h2, h3⟩
   | some yr =>
    obtain ⟨y, r⟩ := yr
    have hrq := a1 y r rfl
    have hr := hrq.suf
    have hrl := hr.length_le
    obtain ⟨o2, b1, b2, b3⟩ := ih r (by omega) (fun s' h => hT s' (by omega)) (.bin k x y)
    refine ⟨o2, fun z r2 e => (b1 z r2 e).trans (hrq.trans hsq), ?_, fun l hl hs => ?_⟩
    ·have a2 : Qo ((lev + 1 : Nat) : Int) (PS ((dropB s).drop (sg k).length) d false) = some (y.t, PS r d false) := a2
     rw [hP, a2]
     exact b2
    ·have a3 : Qv ((lev + 1 : Nat) : Int) (RS l ((dropB s).drop (sg k).length) d false) = some (y.t, RS l r d false) := a3 l hl (hsuf.trans hs)
     have hR := RL_eq hl h5 s hs d x.t
     rw [hk] at hR
     simp only at hR
     rw [hR, a3]
     exact b3 l hl (hr.trans (hsuf.trans hs))
theorem bothT {s : List UInt8} {d : Int} (hO : BothO s d) (hS : ∀ (lev : Nat), lev ≤ 5 → ∀ s' : List UInt8, s'.length < s.length → BothT lev s' d) : ∀ (g lev : Nat), g + lev = 5 → BothT lev s d
 | 0, lev, hg => by
  obtain rfl : lev = 5 := by omega
  obtain ⟨o, h1, h2, h3⟩ := hO
  refine ⟨o, h1, ?_, fun l hl hs => ?_⟩
  ·rw [show ((5 : Nat) : Int) = 5 from rfl, two5]; exact h2
  ·rw [rtwo5]; exact h3 l hl hs
 | g + 1, lev, hg => by
  have h5 : lev < 5 := by omega
  obtain ⟨o1, a1, a2, a3⟩ := bothT hO hS g (lev + 1) (by omega)
  cases o1 with
  | none =>
   obtain ⟨e, r, he⟩ := a2
   refine ⟨none, fun y r e => (nomatch e), ?_, fun l hl hs => ?_⟩
   ·rw [two_lt h5, he]
    simp only [Option.bind_some, PL_bad]
    exact ⟨_, _, rfl⟩
   ·obtain ⟨e', r', b, h1, h2, h3⟩ := a3 l hl hs
    rw [QmJ h5, h1]
    simp only [Option.bind_some]
    rw [QmK hl h5 h2 h3]
    exact ⟨_, r', b, rfl, h2, h3⟩
  | some xr =>
   obtain ⟨x, r⟩ := xr
   have hrq := a1 x r rfl
   have hr := hrq.suf
   have hrl := hr.length_le
   obtain ⟨o2, b1, b2, b3⟩ := bothL h5 (d := d) r.length r (Nat.le_refl _) (fun s' h => hS (lev + 1) (by omega) s' (by omega)) x
   refine ⟨o2, fun y r2 e => (b1 y r2 e).trans hrq, ?_, fun l hl hs => ?_⟩
   ·have a2 : Qo ((lev + 1 : Nat) : Int) (PS s d false) = some (x.t, PS r d false) := a2
    rw [two_lt h5, a2]
    exact b2
   ·have a3 : Qv ((lev + 1 : Nat) : Int) (RS l s d false) = some (x.t, RS l r d false) := a3 l hl hs
    rw [QmJ h5, a3]
    exact b3 l hl (hr.trans hs)
theorem Qh0 {d : Int} (h : d ≥ 12) (b : Bool) (l s : List UInt8) : QZ b (RS l s d false) = some (E0, RS l s d true) := by
 rw [QZ.eq]; unfold Wm
 simp only
 rw [decide_eq_true h]; rfl
theorem Qmj {l : List UInt8} (hl : l.length ≤ 1000000000) {d : Int} (h0 : 0 ≤ d) (h : d < 12) {s : List UInt8} (hs : s <:+ l) {o : Option (X3 × List UInt8)} (hsuf : ∀ x r, o = some (x, r) → r <:+ s) (ho : RR l (Qv 0 (RS l s (d + 1) false)) (d + 1) o) :
  RR l (QZ true (RS l s d false)) d (o.bind fun xr => bif pre [41] (dropB xr.2) then some (xr.1, (dropB xr.2).drop 1) else none) := by
 rw [QZ.eq]; unfold Wm
 have c1 : decide (d ≥ 12) = false := decide_eq_false (by omega)
 have wd : w64 (d + 1 - 1) = d := by rw [w64_in (by omega) (by omega)]; omega
 simp only
 rw [c1, cond_false, cond_true, w64_in (n := d + 1) (by omega) (by omega)]
 cases o with
 | none =>
  obtain ⟨e, r, b, h1, h2, h3⟩ := ho
  have h1 : Qv 0 ⟨ba l, ((l.length - s.length : Nat) : Int), d + 1, false⟩ = some (e, RS l r (d + 1) b) := h1
  rw [h1, Option.bind_some, show h_29 = ba [41] from rfl, is_eq hl [41] (by simp) r h2 (d + 1) b]
  have hdr : dropB r <:+ l := (X9 r).trans h2
  cases hp : pre [41] (dropB r) with
  | true =>
   simp only [cond_true, Option.bind_some, Bool.not_true, cond_false, wd, Option.bind_none]
   refine ⟨_, (dropB r).drop 1, b, rfl, (List.drop_suffix _ _).trans hdr, ?_⟩
   rcases h3 with h3 | h3
   ·exact .inl h3
   ·exfalso
    obtain ⟨c, t, rfl, hc⟩ := h3
    rw [Qda ⟨c, t, rfl, hc⟩] at hp
    have : c = 41 := by
     have := of_decide_eq_true (show decide ((c :: t).take 1 = [41]) = true from hp)
     simpa using this
    rw [this] at hc; cases hc
  | false =>
   simp only [cond_false, Option.bind_some, Bool.not_false, cond_true, wd, Option.bind_none]
   exact ⟨_, dropB r, true, rfl, hdr, .inl rfl⟩
 | some xr =>
  obtain ⟨x, r⟩ := xr
  have hr : r <:+ l := (hsuf x r rfl).trans hs
  have hdr : dropB r <:+ l := (X9 r).trans hr
  have h1 : Qv 0 ⟨ba l, ((l.length - s.length : Nat) : Int), d + 1, false⟩ = some (x.t, RS l r (d + 1) false) := ho
  rw [h1, Option.bind_some, show h_29 = ba [41] from rfl, is_eq hl [41] (by simp) r hr (d + 1) false]
  cases hp : pre [41] (dropB r) with
  | true =>
   simp only [cond_true, Option.bind_some, Bool.not_true, cond_false, wd, hp]
   rfl
  | false =>
   simp only [cond_false, Option.bind_some, Bool.not_false, cond_true, wd, hp]
   exact ⟨_, dropB r, true, rfl, hdr, .inl rfl⟩
theorem Qls {l : List UInt8} {d : Int} (h0 : 0 ≤ d) (h : d < 12) {s : List UInt8} {o : Option (X3 × List UInt8)} (ho : RR l (QW (RS l s (d + 1) false)) (d + 1) o) :
  RR l (QZ false (RS l s d false)) d (o.bind fun xr => some (.neg xr.1, xr.2)) := by
 rw [QZ.eq]; unfold Wm
 have c1 : decide (d ≥ 12) = false := decide_eq_false (by omega)
 have wd : w64 (d + 1 - 1) = d := by rw [w64_in (by omega) (by omega)]; omega
 simp only
 rw [c1, cond_false, cond_false, w64_in (n := d + 1) (by omega) (by omega)]
 cases o with
 | none =>
  obtain ⟨e, r, b, h1, h2, h3⟩ := ho
  have h1 : QW ⟨ba l, ((l.length - s.length : Nat) : Int), d + 1, false⟩ = some (e, RS l r (d + 1) b) := h1
  rw [h1, Option.bind_some]
  simp only [wd, Option.bind_none]
  exact ⟨_, r, b, rfl, h2, h3⟩
 | some xr =>
  obtain ⟨x, r⟩ := xr
  have h1 : QW ⟨ba l, ((l.length - s.length : Nat) : Int), d + 1, false⟩ = some (x.t, RS l r (d + 1) false) := ho
  rw [h1, Option.bind_some]
  simp only [wd, Option.bind_some]
  rfl
theorem Qjx {l : List UInt8} (hl : l.length ≤ 1000000000) {s r : List UInt8} (hs : s <:+ l) (h : dropB s = 40 :: r) (d : Int) : QW (RS l s d false) = QZ true (RS l r d false) := by
 rw [QW.eq]; unfold Ws
 simp only [cond_false]
 rw [show h_28 = ba [40] from rfl, is_eq hl [40] (by simp) s hs d false, h, show pre [40] (40 :: r) = true from by simp [pre]]
 simp only [cond_true, Option.bind_some]
 show (QZ true (RS l r d false)).bind (fun q => some (q.1, q.2)) = _
 cases QZ true (RS l r d false) <;> rfl
theorem Qh1 {l : List UInt8} (hl : l.length ≤ 1000000000) {s r : List UInt8} (hs : s <:+ l) (h : dropB s = 45 :: r) (d : Int) : QW (RS l s d false) = QZ false (RS l r d false) := by
 have hs2 : (45 :: r) <:+ l := by rw [← h]; exact (X9 s).trans hs
 have hd : dropB (45 :: r) = 45 :: r := GE (by decide)
 rw [QW.eq]; unfold Ws
 simp only [cond_false]
 rw [show h_28 = ba [40] from rfl, is_eq hl [40] (by simp) s hs d false, h, show pre [40] (45 :: r) = false from by simp [pre]]
 simp only [cond_false, Option.bind_some]
 rw [show h_2d = ba [45] from rfl, is_eq hl [45] (by simp) _ hs2 d false, hd, show pre [45] (45 :: r) = true from by simp [pre]]
 simp only [cond_true, Option.bind_some]
 show (QZ false (RS l r d false)).bind (fun q => some (q.1, q.2)) = _
 cases QZ false (RS l r d false) <;> rfl
theorem QpA {l : List UInt8} (hl : l.length ≤ 1000000000) {s r : List UInt8} (hs : s <:+ l) (h : dropB s = 46 :: r) (d : Int) : QW (RS l s d false) = some (X3.here.t, RS l r d false) := by
 have hs2 : (46 :: r) <:+ l := by rw [← h]; exact (X9 s).trans hs
 have hd : dropB (46 :: r) = 46 :: r := GE (by decide)
 rw [QW.eq]; unfold Ws
 simp only [cond_false]
 rw [show h_28 = ba [40] from rfl, is_eq hl [40] (by simp) s hs d false, h, show pre [40] (46 :: r) = false from by simp [pre]]
 simp only [cond_false, Option.bind_some]
 rw [show h_2d = ba [45] from rfl, is_eq hl [45] (by simp) _ hs2 d false, hd, show pre [45] (46 :: r) = false from by simp [pre]]
 simp only [cond_false, Option.bind_some]
 rw [show h_2e = ba [46] from rfl, is_eq hl [46] (by simp) _ hs2 d false, hd, show pre [46] (46 :: r) = true from by simp [pre]]
 rfl
theorem Qjy {base : Nat} {h r : List UInt8} {x : X3} {r' : List UInt8} (e : tailA base h r = some (x, r')) : r' = r := by
 unfold tailA at e
 split at e
 ·split at e
  ·cases e; rfl
  ·cases e
 ·cases e
theorem tw_q {p : UInt8 → Bool} (t : List UInt8) (hp : p 34 = false) : sufQ (t.dropWhile p) t := dw_q hp t
theorem Qqr {t : List UInt8} {x : X3} {r : List UInt8} (e : atomS t = some (x, r)) : sufQ r t := by
 unfold atomS at e
 cases h1 : pre [48, 120] t && !decide ((t.drop 2).takeWhile isH = []) with
 | true =>
  rw [h1, cond_true] at e
  rw [Qjy e]
  simp only [Bool.and_eq_true] at h1
  exact (tw_q _ (by decide)).trans (pre_q (a := [48, 120]) h1.1 (by decide))
 | false =>
  rw [h1, cond_false] at e
  cases h2 : !decide (t.takeWhile isD = []) with
  | true =>
   rw [h2, cond_true] at e
   rw [Qjy e]; exact tw_q _ (by decide)
  | false =>
   rw [h2, cond_false] at e
   cases h3 : wordB (t.takeWhile isI) with
   | true => rw [h3, cond_true] at e; cases e; exact tw_q _ (by decide)
   | false => rw [h3, cond_false] at e; cases e
theorem QpB : ∀ (n : Nat) (s : List UInt8), s.length ≤ n → ∀ d : Int, 0 ≤ d → d ≤ 12 → BothO s d ∧ ∀ lev, lev ≤ 5 → BothT lev s d := by
 intro n
 induction n using Nat.strongRecOn with
 | _ n ih =>
  intro s hs d h0 h12
  have hO : BothO s d := by
   have hds := X9 s
   have hdl := Qlm s
   by_cases h40 : ∃ r, dropB s = 40 :: r
   ·obtain ⟨r, hr⟩ := h40
    have hrl : r.length < s.length := by rw [hr] at hdl; simp at hdl; omega
    have hrs : r <:+ s := by rw [hr] at hds; exact (List.suffix_cons 40 r).trans hds
    have hrq : sufQ r s := (sufQ.of (a := [40]) hr (by decide)).trans (Pa s)
    by_cases hd : d ≥ 12
    ·refine ⟨none, fun x r e => (nomatch e), ?_, fun l hl hsl => ?_⟩
     ·rw [Qg4 hr, (QhY hd r).1]; exact ⟨_, _, rfl⟩
     ·rw [Qjx hl hsl hr, Qh0 hd]; exact ⟨_, r, true, rfl, hrs.trans hsl, .inl rfl⟩
    ·obtain ⟨o, a1, a2, a3⟩ := (ih r.length (by omega) r (Nat.le_refl _) (d + 1) (by omega) (by omega)).2 0 (by omega)
     refine ⟨o.bind fun xr => bif pre [41] (dropB xr.2) then some (xr.1, (dropB xr.2).drop 1) else none, ?_, ?_, fun l hl hsl => ?_⟩
     ·intro x r2 e
      cases o with
      | none => cases e
      | some yr =>
       obtain ⟨y, r3⟩ := yr
       simp only [Option.bind_some] at e
       cases hp : pre [41] (dropB r3) with
       | true =>
        rw [hp, cond_true] at e; cases e
        exact (pre_q (a := [41]) hp (by decide)).trans ((Pa r3).trans ((a1 _ r3 rfl).trans hrq))
       | false => rw [hp, cond_false] at e; cases e
     ·rw [Qg4 hr]; exact Qju h0 (by omega) r a2
     ·rw [Qjx hl hsl hr]; exact Qmj hl h0 (by omega) (hrs.trans hsl) (fun x r e => (a1 x r e).suf) (a3 l hl (hrs.trans hsl))
   ·by_cases h45 : ∃ r, dropB s = 45 :: r
    ·obtain ⟨r, hr⟩ := h45
     have hrl : r.length < s.length := by rw [hr] at hdl; simp at hdl; omega
     have hrs : r <:+ s := by rw [hr] at hds; exact (List.suffix_cons 45 r).trans hds
     have hrq : sufQ r s := (sufQ.of (a := [45]) hr (by decide)).trans (Pa s)
     by_cases hd : d ≥ 12
     ·refine ⟨none, fun x r e => (nomatch e), ?_, fun l hl hsl => ?_⟩
      ·rw [Qfl hr, (QhY hd r).2]; exact ⟨_, _, rfl⟩
      ·rw [Qh1 hl hsl hr, Qh0 hd]; exact ⟨_, r, true, rfl, hrs.trans hsl, .inl rfl⟩
     ·obtain ⟨o, a1, a2, a3⟩ := (ih r.length (by omega) r (Nat.le_refl _) (d + 1) (by omega) (by omega)).1
      refine ⟨o.bind fun xr => some (.neg xr.1, xr.2), ?_, ?_, fun l hl hsl => ?_⟩
      ·intro x r2 e
       cases o with
       | none => cases e
       | some yr => cases e; exact (a1 _ _ rfl).trans hrq
      ·rw [Qfl hr]; exact Qlo h0 (by omega) r a2
      ·rw [Qh1 hl hsl hr]; exact Qls h0 (by omega) (a3 l hl (hrs.trans hsl))
    ·by_cases h46 : ∃ r, dropB s = 46 :: r
     ·obtain ⟨r, hr⟩ := h46
      have hrs : r <:+ s := by rw [hr] at hds; exact (List.suffix_cons 46 r).trans hds
      exact ⟨some (.here, r), fun x r2 e => by cases e; exact (sufQ.of (a := [46]) hr (by decide)).trans (Pa s), QmH hr d, fun l hl hsl => QpA hl hsl hr d⟩
     ·have n1 : ∀ r, dropB s ≠ 40 :: r := fun r e => h40 ⟨r, e⟩
      have n2 : ∀ r, dropB s ≠ 45 :: r := fun r e => h45 ⟨r, e⟩
      have n3 : ∀ r, dropB s ≠ 46 :: r := fun r e => h46 ⟨r, e⟩
      exact ⟨atomS (dropB s), fun x r e => (Qqr e).trans (Pa s), Qg5 rfl n1 n2 n3 d, fun l hl hsl => ratom hl hsl rfl n1 n2 n3 d⟩
  refine ⟨hO, fun lev hlev => bothT hO (fun lev' h' s' hs' => (ih s'.length (by omega) s' (Nat.le_refl _) d h0 h12).2 lev' h') (5 - lev) lev (by omega)⟩
theorem Qmk (s : List UInt8) (hs : s.length ≤ 1000000000) : ∃ e b, Wp (ba s) = some (e, b) ∧ Xg (ba s) = some (e, b) ∧ ((∃ x : X3, e = x.t) ∨ e = E0) := by
 obtain ⟨o, a1, a2, a3⟩ := (QpB s.length s (Nat.le_refl _) 0 (by omega) (by omega)).2 0 (by omega)
 have hP := Qlp s (o := o) a2
 have hR := a3 s hs (List.suffix_refl s)
 have h0 : (RS s s 0 false) = ⟨ba s, 0, 0, false⟩ := by simp
 have step : Xg (ba s) = SE Qv UX (ba s) := Xg.eq _
 unfold SE at step
 cases o with
 | none =>
  obtain ⟨e, r, b, h1, h2, h3⟩ := hR
  have h1 : Qv 0 ⟨ba s, 0, 0, false⟩ = some (e, RS s r 0 b) := by rw [← h0]; exact h1
  refine ⟨E0, false, hP, ?_, .inr rfl⟩
  rw [step, h1, Option.bind_some, QfD hs 0 b r h2, Option.bind_some]
  cases b with
  | true => rfl
  | false =>
   have h3 : stuck r := by rcases h3 with h | h; cases h; exact h
   obtain ⟨c, t, e, hc⟩ := id h3
   have hrl := h2.length_le
   simp only [cond_false]
   rw [Qda h3]
   have c1 : decide (((s.length - r.length : Nat) : Int) < (((ba s).size : Nat) : Int)) = true := decide_eq_true (by rw [QJ]; subst e; simp only [List.length_cons] at hrl ⊢; omega)
   rw [c1]; rfl
 | some xr =>
  obtain ⟨x, r⟩ := xr
  have h2 := (a1 x r rfl).suf
  have h1 : Qv 0 ⟨ba s, 0, 0, false⟩ = some (x.t, RS s r 0 false) := by rw [← h0]; exact hR
  simp only at hP
  have hdl := ((X9 r).trans h2).length_le
  by_cases hd : dropB r = []
  ·rw [if_pos hd] at hP
   refine ⟨x.t, true, hP, ?_, .inl ⟨x, rfl⟩⟩
   rw [step, h1, Option.bind_some, QfD hs 0 false r h2, Option.bind_some, hd]
   simp only [cond_false]
   have c1 : decide (((s.length - ([] : List UInt8).length : Nat) : Int) < (((ba s).size : Nat) : Int)) = false := decide_eq_false (by rw [QJ]; simp)
   rw [c1]; rfl
  ·rw [if_neg hd] at hP
   refine ⟨E0, false, hP, ?_, .inr rfl⟩
   rw [step, h1, Option.bind_some, QfD hs 0 false r h2, Option.bind_some]
   simp only [cond_false]
   have : 0 < (dropB r).length := List.length_pos_iff.2 hd
   have c1 : decide (((s.length - (dropB r).length : Nat) : Int) < (((ba s).size : Nat) : Int)) = true := decide_eq_true (by rw [QJ]; omega)
   rw [c1]; rfl
end Go.Ab
namespace Go.Ab
theorem Sf (c : UInt8) : Vv (c.toNat : Int) = some (isD c) := by
 rw [Vv.eq]; unfold Qao
 have c1 : decide ((c.toNat : Int) ≥ 48) = decide (48 ≤ c.toNat) := decide_eq_decide.2 (by omega)
 have c2 : decide ((c.toNat : Int) ≤ 57) = decide (c.toNat ≤ 57) := decide_eq_decide.2 (by omega)
 unfold isD
 rw [c1, c2, Bool.decide_and]
 cases decide (48 ≤ c.toNat) <;> rfl
theorem Qkc (c : UInt8) : XB (c.toNat : Int) = some (isI c) := by
 rw [XB.eq]; unfold Qap
 have c1 : decide ((c.toNat : Int) ≥ 97) = decide (97 ≤ c.toNat) := decide_eq_decide.2 (by omega)
 have c2 : decide ((c.toNat : Int) ≤ 122) = decide (c.toNat ≤ 122) := decide_eq_decide.2 (by omega)
 have c3 : ((c.toNat : Int) == 95) = decide (c.toNat = 95) := by rw [Bool.eq_iff_iff, beq_iff_eq, decide_eq_true_iff]; omega
 rw [c1, c2, c3, Sf, Qfx]
 unfold isS
 rw [Bool.decide_or, Bool.decide_and]
 cases decide (97 ≤ c.toNat) <;> cases decide (c.toNat ≤ 122) <;> cases decide (c.toNat = 95) <;> rfl
theorem QdG (s : List UInt8) (hs : s.length ≤ 1000000000) : WE (ba s) = some ((s.takeWhile isI).length : Int) := by
 obtain ⟨r, h1, h2⟩ := Yi Wz.eq (fun a => ∃ i : Nat, i ≤ s.length ∧ a = ⟨ba s, i⟩ ∧ (s.take i).all isI = true) (fun _ r => r = ((s.takeWhile isI).length : Int)) (fun a => s.length - a.x5.toNat) (by
  rintro a ⟨i, hi, rfl, ha⟩
  simp only [E4, QJ]
  by_cases h : i < s.length
  ·have c1 : decide ((i : Int) < (s.length : Int)) = true := decide_eq_true (by omega)
   have c2 : decide (0 ≤ (i : Int) ∧ (i : Int) < (s.length : Int)) = true := decide_eq_true (by omega)
   have hg : (ba s).data.getD (Int.toNat (i : Int)) 0 = s[i] := by rw [YJ, Int.toNat_natCast]; simp [h]
   rw [c1, cond_true, c2, cond_true, hg, Qkc]
   simp only [Option.bind_some]
   cases hq : isI s[i] with
   | true =>
    rw [cond_true, w64_in (by omega) (by omega)]
    exact .inl ⟨⟨ba s, (i : Int) + 1⟩, rfl, ⟨i + 1, by omega, rfl, XQ h ha hq⟩, by simp only; omega, fun r hr => hr⟩
   | false =>
    refine .inr ⟨_, by rw [cond_false], ?_⟩
    rw [UH s i hi ha (fun _ => hq), List.length_take, Nat.min_eq_left hi]
  ·have c1 : decide ((i : Int) < (s.length : Int)) = false := decide_eq_false (by omega)
   refine .inr ⟨_, by rw [c1]; rfl, ?_⟩
   rw [UH s i hi ha (fun h' => absurd h' h), List.length_take, Nat.min_eq_left hi]) ⟨ba s, 0⟩ ⟨0, by omega, rfl, by simp⟩
 rw [WE.eq]; unfold Qaq
 rw [h1, h2]; rfl
theorem FA (s : List UInt8) (hs : s.length ≤ 1000000000) : VO (ba s) = some ((s.takeWhile isD).length : Int) := by
 obtain ⟨r, h1, h2⟩ := Yi VV.eq (fun a => ∃ i : Nat, i ≤ s.length ∧ a = ⟨ba s, i⟩ ∧ (s.take i).all isD = true) (fun _ r => r = ((s.takeWhile isD).length : Int)) (fun a => s.length - a.x5.toNat) (by
  rintro a ⟨i, hi, rfl, ha⟩
  simp only [GI, QJ]
  by_cases h : i < s.length
  ·have c1 : decide ((i : Int) < (s.length : Int)) = true := decide_eq_true (by omega)
   have c2 : decide (0 ≤ (i : Int) ∧ (i : Int) < (s.length : Int)) = true := decide_eq_true (by omega)
   have hg : (ba s).data.getD (Int.toNat (i : Int)) 0 = s[i] := by rw [YJ, Int.toNat_natCast]; simp [h]
   rw [c1, cond_true, c2, cond_true, hg, Sf]
   simp only [Option.bind_some]
   cases hq : isD s[i] with
   | true =>
    rw [cond_true, w64_in (by omega) (by omega)]
    exact .inl ⟨⟨ba s, (i : Int) + 1⟩, rfl, ⟨i + 1, by omega, rfl, XQ h ha hq⟩, by simp only; omega, fun r hr => hr⟩
   | false =>
    refine .inr ⟨_, by rw [cond_false], ?_⟩
    rw [UH s i hi ha (fun _ => hq), List.length_take, Nat.min_eq_left hi]
  ·have c1 : decide ((i : Int) < (s.length : Int)) = false := decide_eq_false (by omega)
   refine .inr ⟨_, by rw [c1]; rfl, ?_⟩
   rw [UH s i hi ha (fun h' => absurd h' h), List.length_take, Nat.min_eq_left hi]) ⟨ba s, 0⟩ ⟨0, by omega, rfl, by simp⟩
 rw [VO.eq]; unfold FM
 rw [h1, h2]; rfl
theorem tw_len {p : UInt8 → Bool} (s : List UInt8) : (((s.takeWhile p).length : Int) != (s.length : Int)) = !decide (s.takeWhile p = s) := by
 rw [Bool.eq_iff_iff, bne_iff_ne, Bool.not_eq_true', decide_eq_false_iff_not]
 constructor
 ·intro h e; rw [e] at h; exact h rfl
 ·intro h e; exact h ((List.takeWhile_prefix p).eq_of_length (by omega))
theorem Qfn (w : List UInt8) (hl : w.length ≤ 1000000000) : W1 (ba w) = some (wordB w) := by
 rw [W1.eq]; unfold Qbx
 rw [show s_ = ba [] from rfl, eqS_ba]
 cases w with
 | nil => rfl
 | cons c t =>
  have hl' : t.length ≤ 1000000000 := by simp only [List.length_cons] at hl; omega
  have e1 : ((c :: t).take (Int.toNat (((c :: t).length : Nat) : Int))).drop (Int.toNat 1) = t := by rw [Int.toNat_natCast, List.take_length]; rfl
  simp only [QJ, YJ, Us]
  rw [e1]
  have c0 : decide (c :: t = []) = false := by simp
  have c2 : decide (0 ≤ (0 : Int) ∧ (0 : Int) < (((c :: t).length : Nat) : Int)) = true := decide_eq_true (by simp only [List.length_cons]; omega)
  have c3 : decide (0 ≤ (1 : Int) ∧ (1 : Int) ≤ (((c :: t).length : Nat) : Int) ∧ (((c :: t).length : Nat) : Int) ≤ (((c :: t).length : Nat) : Int)) = true := decide_eq_true (by simp only [List.length_cons]; omega)
  have cg : (c :: t).getD (Int.toNat 0) 0 = c := rfl
  rw [c0, cond_false, c2, cond_true, cg, Sf, c3, cond_true, QdG _ hl, FA _ hl']
  simp only [Option.bind_some]
  have c1 : decide ((((c :: t).length : Nat) : Int) > 12) = !decide (t.length < 12) := by
   by_cases h : t.length < 12
   ·rw [decide_eq_true h, decide_eq_false (by simp only [List.length_cons]; omega)]; rfl
   ·rw [decide_eq_false h, decide_eq_true (by simp only [List.length_cons]; omega)]; rfl
  have c5 : ((c.toNat : Int) != 114) = decide (c ≠ 114) := by
   rw [Bool.eq_iff_iff, bne_iff_ne, decide_eq_true_iff]
   have : (114 : UInt8).toNat = 114 := rfl
   constructor
   ·intro h e; subst e; exact h rfl
   ·intro h e; exact h (UInt8.toNat_inj.1 (by omega))
  have c6 : ((((c :: t).length : Nat) : Int) == 1) = decide (t = []) := by
   rw [Bool.eq_iff_iff, beq_iff_eq, decide_eq_true_iff]
   cases t <;> simp <;> omega
  have c7 : (((t.takeWhile isD).length : Int) != w64 ((((c :: t).length : Nat) : Int) - 1)) = !decide (t.takeWhile isD = t) := by
   have e : (((c :: t).length : Nat) : Int) - 1 = (t.length : Int) := by simp only [List.length_cons]; omega
   rw [e, w64_in (by omega) (by omega)]
   exact tw_len t
  rw [c1, tw_len, c5, c6, c7]
  have hw : wordB (c :: t) = (decide (t.length < 12) && (!isD c && (decide ((c :: t).takeWhile isI = c :: t) && (decide (c ≠ 114) || (decide (t = []) || !decide (t.takeWhile isD = t)))))) := rfl
  rw [hw]
  cases decide (t.length < 12) <;> cases isD c <;> cases decide ((c :: t).takeWhile isI = c :: t) <;> cases decide (c ≠ 114) <;> cases decide (t = []) <;> rfl
end Go.Ab
