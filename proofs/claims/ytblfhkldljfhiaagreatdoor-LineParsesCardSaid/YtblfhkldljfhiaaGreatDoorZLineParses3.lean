/- LineParses: part 3 of the proof that, whatever the input, the law returns true and the input reads as it did; its conditions are those of the given row. -/
import Derived.Test.YtblfhkldljfhiaaGreatDoorZLineParses2
import Derived.Shelf.Strings.SlTrimAscii
import Derived.Tactics
import Derived.WalkLawsBesides
import Derived.RowKit3
import Derived.Laws.BitsLemmas
import Derived.Test.YtblfhkldljfhiaaGreatDoorSh
import Derived.Test.YtblfhkldljfhiaaGreatDoorRows
import Derived.LaidMore
import Derived.MakeChecks
import Derived.Lib.AppendIntMem
import Derived.Shelf.Vars
import Derived.WalkKit
import Derived.Deep.LoopGhost
import Derived.Lib.Walk
import Derived.Lib.SliceRun
set_option linter.unusedVariables false
set_option linter.unusedSimpArgs false
namespace Go.Ab
open Go.Proofs
noncomputable def QfV (a : QN) : Tr (QN ⊕ Jl) XS := (let u118 := (decide (a.h0.P < (zz a.h0.S))); .as u118 (yesN 8 u118 (let u117 := (in1 a.h0.P (zz a.h0.S)); .as u117 (yesN 2 u118 (let u116 := (decide ((gb a.h0.S a.h0.P) ≥ 97)); .as u116 (yesN 8 u116 (.yes u117 (.yes u116 (.yes u118 (.yes u116 (.yes u118 (let u113 := (decide ((gb a.h0.S a.h0.P) ≤ 122)); .as u113 (yesN 11 u113 (.yes u118 (.yes u113 (.yes u118 (yesN 10 true (.yes u118 (.yes true (.yes u118 (.yes true (lf VC (QN.mk a.x3 (Qf.mk a.h0.S (w64 (a.h0.P + 1)) a.h0.Deep a.h0.Bad) a.h1))))))))))) (noN 8 u113 (.yes u117 (noN 2 u113 (let u112 := (decide ((gb a.h0.S a.h0.P) ≥ 48)); .as u112 (yesN 8 u112 (.yes u117 (.yes u112 (.no u113 (.yes u112 (.yes u118 (.no u113 (.yes u118 (let u111 := (decide ((gb a.h0.S a.h0.P) ≤ 57)); .as u111 (yesN 9 u111 (.yes u118 (.yes u111 (.yes u118 (.yes true (lf VC (QN.mk a.x3 (Qf.mk a.h0.S (w64 (a.h0.P + 1)) a.h0.Deep a.h0.Bad) a.h1))))))) (noN 8 u111 (.yes u117 (.no u111 (.yes u118 (.no u111 (.yes u118 (.as ((gb a.h0.S a.h0.P) == 95) (lf VC (QN.mk a.x3 (Qf.mk a.h0.S (w64 (a.h0.P + 1)) a.h0.Deep a.h0.Bad) a.h1)) (rx WR (Jl.mk a.x3 a.h0 a.h1)))))))))))))))))) (noN 9 u112 (.no u113 (.no u112 (.yes u118 (.no u113 (.yes u118 (noN 9 false (.yes u117 (.no false (.yes u118 (.no false (.yes u118 (.as ((gb a.h0.S a.h0.P) == 95) (lf VC (QN.mk a.x3 (Qf.mk a.h0.S (w64 (a.h0.P + 1)) a.h0.Deep a.h0.Bad) a.h1)) (rx WR (Jl.mk a.x3 a.h0 a.h1)))))))))))))))))))))))))) (noN 9 u116 (.yes u118 (.no u116 (.yes u118 (noN 9 false (.yes u117 (noN 2 false (let u115 := (decide ((gb a.h0.S a.h0.P) ≥ 48)); .as u115 (yesN 8 u115 (.yes u117 (.yes u115 (.no false (.yes u115 (.yes u118 (.no false (.yes u118 (let u114 := (decide ((gb a.h0.S a.h0.P) ≤ 57)); .as u114 (yesN 9 u114 (.yes u118 (.yes u114 (.yes u118 (.yes true (lf VC (QN.mk a.x3 (Qf.mk a.h0.S (w64 (a.h0.P + 1)) a.h0.Deep a.h0.Bad) a.h1))))))) (noN 8 u114 (.yes u117 (.no u114 (.yes u118 (.no u114 (.yes u118 (.as ((gb a.h0.S a.h0.P) == 95) (lf VC (QN.mk a.x3 (Qf.mk a.h0.S (w64 (a.h0.P + 1)) a.h0.Deep a.h0.Bad) a.h1)) (rx WR (Jl.mk a.x3 a.h0 a.h1)))))))))))))))))) (noN 9 u115 (.no false (.no u115 (.yes u118 (.no false (.yes u118 (noN 9 false (.yes u117 (.no false (.yes u118 (.no false (.yes u118 (.as ((gb a.h0.S a.h0.P) == 95) (lf VC (QN.mk a.x3 (Qf.mk a.h0.S (w64 (a.h0.P + 1)) a.h0.Deep a.h0.Bad) a.h1)) (rx WR (Jl.mk a.x3 a.h0 a.h1))))))))))))))))))))))))) .fail)) (noN 16 u118 (.no false (rx WR (Jl.mk a.x3 a.h0 a.h1)))))
theorem UD.ok {a : QN} {r : Jl} (h : UD a = some r) : lw 1 237 (loopAt pp 237 2) (VC a) = some (WR r) := by
 refine lpP h QfV fun a => ?_
 exact ⟨rfl, fun q0 => Qj 8 (q0) (⟨rfl, fun q1 => Qj 2 (q0) (⟨rfl, fun q2 => Qj 8 (q2) (⟨q1, ⟨q2, ⟨q0, ⟨q2, ⟨q0, ⟨rfl, fun q3 => Qj 11 (q3) (⟨q0, ⟨q3, ⟨q0, Qj 10 (rfl) (⟨q0, ⟨rfl, ⟨q0, ⟨rfl, rfl⟩⟩⟩⟩)⟩⟩⟩), fun q3 => noN_ok 8 (q3) (⟨q1, noN_ok 2 (q3) (⟨rfl, fun q4 => Qj 8 (q4) (⟨q1, ⟨q4, ⟨q3, ⟨q4, ⟨q0, ⟨q3, ⟨q0, ⟨rfl, fun q5 => Qj 9 (q5) (⟨q0, ⟨q5, ⟨q0, ⟨rfl, rfl⟩⟩⟩⟩), fun q5 => noN_ok 8 (q5) (⟨q1, ⟨q5, ⟨q0, ⟨q5, ⟨q0, ⟨rfl, fun q6 => rfl, fun q6 => rfl⟩⟩⟩⟩⟩⟩)⟩⟩⟩⟩⟩⟩⟩⟩), fun q4 => noN_ok 9 (q4) (⟨q3, ⟨q4, ⟨q0, ⟨q3, ⟨q0, noN_ok 9 (rfl) (⟨q1, ⟨rfl, ⟨q0, ⟨rfl, ⟨q0, ⟨rfl, fun q5 => rfl, fun q5 => rfl⟩⟩⟩⟩⟩⟩)⟩⟩⟩⟩⟩)⟩)⟩)⟩⟩⟩⟩⟩⟩), fun q2 => noN_ok 9 (q2) (⟨q0, ⟨q2, ⟨q0, noN_ok 9 (rfl) (⟨q1, noN_ok 2 (rfl) (⟨rfl, fun q3 => Qj 8 (q3) (⟨q1, ⟨q3, ⟨rfl, ⟨q3, ⟨q0, ⟨rfl, ⟨q0, ⟨rfl, fun q4 => Qj 9 (q4) (⟨q0, ⟨q4, ⟨q0, ⟨rfl, rfl⟩⟩⟩⟩), fun q4 => noN_ok 8 (q4) (⟨q1, ⟨q4, ⟨q0, ⟨q4, ⟨q0, ⟨rfl, fun q5 => rfl, fun q5 => rfl⟩⟩⟩⟩⟩⟩)⟩⟩⟩⟩⟩⟩⟩⟩), fun q3 => noN_ok 9 (q3) (⟨rfl, ⟨q3, ⟨q0, ⟨rfl, ⟨q0, noN_ok 9 (rfl) (⟨q1, ⟨rfl, ⟨q0, ⟨rfl, ⟨q0, ⟨rfl, fun q4 => rfl, fun q4 => rfl⟩⟩⟩⟩⟩⟩)⟩⟩⟩⟩⟩)⟩)⟩)⟩⟩⟩)⟩), fun q1 => trivial⟩), fun q0 => noN_ok 16 (q0) (⟨rfl, rfl⟩)⟩
def Fr (C0 : Qjc) (L1 : Qal) (h0 : Qf) : Option (Qa × Qf) := ((L1 (QN.mk h0.P h0 (Qa.mk (0 : Int) (0 : Int) s_ ([] : List Qa)))).bind (fun (o1 : Jl) => (bif (decide (0 ≤ o1.x3 ∧ o1.x3 ≤ o1.h0.P ∧ o1.h0.P ≤ ((o1.h0.S.size : Nat) : Int))) then ((C0 (o1.h0.S.extract (Int.toNat o1.x3) (Int.toNat o1.h0.P))).bind fun r2 => (bif (!r2) then (some ((Qa.mk (2 : Int) (0 : Int) (o1.h0.S.extract (Int.toNat o1.x3) (Int.toNat o1.h0.P)) ([] : List Qa)), (Qf.mk o1.h0.S o1.h0.P o1.h0.Deep true))) else (some ((Qa.mk (2 : Int) (0 : Int) (o1.h0.S.extract (Int.toNat o1.x3) (Int.toNat o1.h0.P)) ([] : List Qa)), o1.h0)))) else none)))
noncomputable def VK : GW := Fr YZ UD
theorem VK.eq (h0 : Qf) : VK h0 = Fr YZ UD h0 := rfl
noncomputable def Qjo (h0 : Qf) : Tr (Qa × Qf) AH := (QfU (QN.mk h0.P h0 (Qa.mk i0 i0 s_ ([] : List Qa))) (fun o1 => (let u119 := (in2 o1.x3 o1.h0.P (zz o1.h0.S)); .as u119 (QlT (cu o1.h0.S o1.x3 o1.h0.P) fun r2 => (.as (!r2) (.yes u119 (rt QE ((Qa.mk (zi 2) i0 (cu o1.h0.S o1.x3 o1.h0.P) ([] : List Qa)), (Qf.mk o1.h0.S o1.h0.P o1.h0.Deep true)))) (.yes u119 (rt QE ((Qa.mk (zi 2) i0 (cu o1.h0.S o1.x3 o1.h0.P) ([] : List Qa)), o1.h0))))) .fail)))
theorem VK.ok {h0 : Qf} {r : (Qa × Qf)} (h : VK h0 = some r) : ww 237 [.ptr 0 0] [(0, .box [] (Jh h0))] = some (QE r) := by
 refine fnP (Qjo h0) ?_ h
 exact fun o1 h => ⟨UD.ok h, ⟨rfl, fun q0 => fun r2 h => ⟨YZ.ok h, ⟨rfl, fun q1 => ⟨q0, rfl⟩, fun q1 => ⟨q0, rfl⟩⟩⟩, fun q0 => trivial⟩⟩
noncomputable abbrev Qb2 {ρ R : Type} (h0 : Qf) (k : (Qa × Qf) → Tr ρ R) : Tr ρ R := .call (ww 237 [.ptr 0 0] [(0, .box [] (Jh h0))]) (VK h0) QE k
def ZK (r : (ByteArray × Int)) : AV × Heap := (.tup [xs r.1, xi r.2], [])
abbrev Qb3 := Int → Option (ByteArray × Int)
def Qg0 (a0 : Int) : Option (ByteArray × Int) := (bif (a0 == 5) then (some (h_2b, (3 : Int))) else (bif (a0 == 6) then (some (h_2d, (3 : Int))) else (bif (a0 == 7) then (some (h_2a, (4 : Int))) else (bif (a0 == 8) then (some (h_26, (1 : Int))) else (bif (a0 == 9) then (some (h_7c, (0 : Int))) else (bif (a0 == 10) then (some (Qbn, (2 : Int))) else (some (Qbo, (2 : Int)))))))))
noncomputable def Y4 : Qb3 := Qg0
theorem Y4.eq (a0 : Int) : Y4 a0 = Qg0 a0 := rfl
noncomputable def QrY (a0 : Int) : Tr (ByteArray × Int) AH := (.as (a0 == 5) (rt ZK (h_2b, (zi 3))) (.as (a0 == 6) (rt ZK (h_2d, (zi 3))) (.as (a0 == 7) (rt ZK (h_2a, (zi 4))) (.as (a0 == 8) (rt ZK (h_26, (zi 1))) (.as (a0 == 9) (rt ZK (h_7c, i0)) (.as (a0 == 10) (rt ZK (Qbn, (zi 2))) (rt ZK (Qbo, (zi 2)))))))))
theorem Y4.ok {a0 : Int} {r : (ByteArray × Int)} (h : Y4 a0 = some r) : ww 104 [xi a0] [] = some (ZK r) := by
 refine fnP (QrY a0) ?_ h
 exact ⟨rfl, fun q0 => rfl, fun q0 => ⟨rfl, fun q1 => rfl, fun q1 => ⟨rfl, fun q2 => rfl, fun q2 => ⟨rfl, fun q3 => rfl, fun q3 => ⟨rfl, fun q4 => rfl, fun q4 => ⟨rfl, fun q5 => rfl, fun q5 => rfl⟩⟩⟩⟩⟩⟩
noncomputable abbrev Ql1 {ρ R : Type} (a0 : Int) (k : (ByteArray × Int) → Tr ρ R) : Tr ρ R := .call (ww 104 [xi a0] []) (Y4 a0) ZK k
def GB (r : (Int × Qf)) : AV × Heap := (xi r.1, [(0, .box [] (Jh r.2))])
abbrev GX := Int → Qf → Option (Int × Qf)
structure Jp where
 x1 : Int
 x5 : Int
 h0 : Qf
structure UU where
 x4 : Int
 h0 : Qf
def Yb (a : Jp) : St := { n := 33, nx := 1, env := [(0, .ptr 0 0), (1, xi a.x1), (5, xi a.x5)], heap := [(0, .box [] (Jh a.h0))] }
def Pr (a : UU) : Ex × St := (.ret, { n := 33, nx := 1, env := [(4, xi a.x4)], heap := [(0, .box [] (Jh a.h0))] })
def Ps (a : Qf) : Ex × St := (.exit 0, { n := 33, nx := 1, env := [], heap := [(0, .box [] (Jh a))] })
def GU (a : (UU ⊕ Qf)) : Ex × St := Sum.elim Pr Ps a
abbrev Qam := Jp → Option (UU ⊕ Qf)
def Yc (C0 : Qb3) (C1 : X4) (a : Jp) : Option (Jp ⊕ (UU ⊕ Qf)) := (bif (decide (a.x5 ≤ 11)) then ((C0 a.x5).bind fun r1 => (bif (r1.2 == a.x1) then (bif (!a.h0.Bad) then ((C1 r1.1 a.h0).bind fun r2 => (bif r2.1 then (some (.inr (.inl (UU.mk a.x5 r2.2)))) else (some (.inl (Jp.mk a.x1 (w64 (a.x5 + 1)) r2.2))))) else (some (.inl (Jp.mk a.x1 (w64 (a.x5 + 1)) a.h0)))) else (some (.inl (Jp.mk a.x1 (w64 (a.x5 + 1)) a.h0))))) else (some (.inr (.inr a.h0))))
noncomputable def Q9 : Qam := loopW (Yc Y4 Us)
theorem Q9.eq (a : Jp) : Q9 a = (Yc Y4 Us a).bind (Sum.elim Q9 some) := Ja _ _
noncomputable abbrev QfW {ρ R : Type} (a : Jp) (k0 : UU → Tr ρ R) (k1 : Qf → Tr ρ R) : Tr ρ R := .loop2 (loopAt pp 207 2) (Yb a) (Q9 a) Pr Ps k0 k1
noncomputable def QfX (a : Jp) : Tr (Jp ⊕ (UU ⊕ Qf)) XS := (.as (decide (a.x5 ≤ 11)) (Ql1 a.x5 fun r1 => (let u121 := (r1.2 == a.x1); .as u121 (yesN 5 u121 (let u120 := (!a.h0.Bad); .as u120 (yesN 2 u120 (Y3 r1.1 a.h0 fun r2 => (.yes u120 (.as r2.1 (rx GU (.inl (UU.mk a.x5 r2.2))) (lf Yb (Jp.mk a.x1 (w64 (a.x5 + 1)) r2.2)))))) (noN 3 u120 (.no false (lf Yb (Jp.mk a.x1 (w64 (a.x5 + 1)) a.h0)))))) (noN 5 u121 (noN 5 false (lf Yb (Jp.mk a.x1 (w64 (a.x5 + 1)) a.h0)))))) (rx GU (.inr a.h0)))
theorem Q9.ok {a : Jp} {r : (UU ⊕ Qf)} (h : Q9 a = some r) : lw 1 207 (loopAt pp 207 2) (Yb a) = some (GU r) := by
 refine lpP h QfX fun a => ?_
 exact ⟨rfl, fun q0 => fun r1 h => ⟨Y4.ok h, ⟨rfl, fun q1 => Qj 5 (q1) (⟨rfl, fun q2 => Qj 2 (q2) (fun r2 h => ⟨Us.ok h, ⟨q2, ⟨rfl, fun q3 => rfl, fun q3 => rfl⟩⟩⟩), fun q2 => noN_ok 3 (q2) (⟨rfl, rfl⟩)⟩), fun q1 => noN_ok 5 (q1) (noN_ok 5 (rfl) (rfl))⟩⟩, fun q0 => rfl⟩
def GC (L0 : Qam) (a1 : Int) (h0 : Qf) : Option (Int × Qf) := ((L0 (Jp.mk a1 (5 : Int) h0)).bind fun x => Sum.elim (fun (o1 : UU) => (some (o1.x4, o1.h0))) (fun (o2 : Qf) => (some ((0 : Int), o2))) x)
noncomputable def Vp : GX := GC Q9
theorem Vp.eq (a1 : Int) (h0 : Qf) : Vp a1 h0 = GC Q9 a1 h0 := rfl
noncomputable def Qjp (a1 : Int) (h0 : Qf) : Tr (Int × Qf) AH := (QfW (Jp.mk a1 (zi 5) h0) (fun o1 => (rt GB (o1.x4, o1.h0))) (fun o2 => (rt GB (i0, o2))))
theorem Vp.ok {a1 : Int} {h0 : Qf} {r : (Int × Qf)} (h : Vp a1 h0 = some r) : ww 207 [.ptr 0 0, xi a1] [(0, .box [] (Jh h0))] = some (GB r) := by
 refine fnP (Qjp a1 h0) ?_ h
 exact ⟨fun o1 h => ⟨Q9.ok (r := (.inl _)) h, rfl⟩, fun o2 h => ⟨Q9.ok (r := (.inr _)) h, rfl⟩⟩
noncomputable abbrev Qjq {ρ R : Type} (a1 : Int) (h0 : Qf) (k : (Int × Qf) → Tr ρ R) : Tr ρ R := .call (ww 207 [.ptr 0 0, xi a1] [(0, .box [] (Jh h0))]) (Vp a1 h0) GB k
abbrev Yj := Bool → Qf → Option (Qa × Qf)
abbrev Qjr (c : Yj) : Prop := ∀ (a1 : Bool) (h0 : Qf) (r : (Qa × Qf)), c a1 h0 = some r → ww 234 [.ptr 0 0, xo a1] [(0, .box [] (Jh h0))] = some (QE r)
abbrev WL := Qf → Option (Qa × Qf)
abbrev Qlk (c : WL) : Prop := ∀ (h0 : Qf) (r : (Qa × Qf)), c h0 = some r → ww 206 [.ptr 0 0] [(0, .box [] (Jh h0))] = some (QE r)
abbrev Jv := Int → Qf → Option (Qa × Qf)
abbrev Qd4 (c : Jv) : Prop := ∀ (a1 : Int) (h0 : Qf) (r : (Qa × Qf)), c a1 h0 = some r → ww 159 [.ptr 0 0, xi a1] [(0, .box [] (Jh h0))] = some (QE r)
noncomputable abbrev QaO {ρ R : Type} (c : Yj) (a1 : Bool) (h0 : Qf) (k : (Qa × Qf) → Tr ρ R) : Tr ρ R := .call (ww 234 [.ptr 0 0, xo a1] [(0, .box [] (Jh h0))]) (c a1 h0) QE k
noncomputable abbrev QcE {ρ R : Type} (c : WL) (h0 : Qf) (k : (Qa × Qf) → Tr ρ R) : Tr ρ R := .call (ww 206 [.ptr 0 0] [(0, .box [] (Jh h0))]) (c h0) QE k
noncomputable abbrev GY {ρ R : Type} (c : Jv) (a1 : Int) (h0 : Qf) (k : (Qa × Qf) → Tr ρ R) : Tr ρ R := .call (ww 159 [.ptr 0 0, xi a1] [(0, .box [] (Jh h0))]) (c a1 h0) QE k
def WP (C0 : Jv) (C1 : X4) (C2 : WL) (a1 : Bool) (h0 : Qf) : Option (Qa × Qf) := (bif (decide (h0.Deep ≥ 12)) then (some ((Qa.mk (0 : Int) (0 : Int) s_ ([] : List Qa)), (Qf.mk h0.S h0.P h0.Deep true))) else (bif a1 then ((C0 (0 : Int) (Qf.mk h0.S h0.P (w64 (h0.Deep + 1)) h0.Bad)).bind fun r1 => ((C1 h_29 r1.2).bind fun r2 => (bif (!r2.1) then (some (r1.1, (Qf.mk r2.2.S r2.2.P (w64 (r2.2.Deep - 1)) true))) else (some (r1.1, (Qf.mk r2.2.S r2.2.P (w64 (r2.2.Deep - 1)) r2.2.Bad)))))) else ((C2 (Qf.mk h0.S h0.P (w64 (h0.Deep + 1)) h0.Bad)).bind fun r3 => (some ((Qa.mk (4 : Int) (0 : Int) s_ [r3.1]), (Qf.mk r3.2.S r3.2.P (w64 (r3.2.Deep - 1)) r3.2.Bad))))))
theorem QaP {C0 : Nat → Jv} {D0 : Jv} (H0 : Cv2 C0 D0) {C1 : Nat → X4} {D1 : X4} (H1 : Cv2 C1 D1) {C2 : Nat → WL} {D2 : WL} (H2 : Cv1 C2 D2) (a1 : Bool) (h0 : Qf) : Cv (fun k => WP (C0 k) (C1 k) (C2 k) a1 h0) (WP D0 D1 D2 a1 h0) := by
 unfold WP
 exact .cond cst (.cond (.bind (H0 _ _) fun r1 => .bind (H1 _ _) fun r2 => by exact .const _) (.bind (H2 _) fun r3 => by exact .const _))
noncomputable def Qh8 (C0 : Jv) (C1 : WL) (a1 : Bool) (h0 : Qf) : Tr (Qa × Qf) AH := (.as (decide (h0.Deep ≥ 12)) (rt QE ((Qa.mk i0 i0 s_ ([] : List Qa)), (Qf.mk h0.S h0.P h0.Deep true))) (.as a1 (GY C0 i0 (Qf.mk h0.S h0.P (w64 (h0.Deep + 1)) h0.Bad) fun r1 => (Y3 h_29 r1.2 fun r2 => (.as (!r2.1) (rt QE (r1.1, (Qf.mk r2.2.S r2.2.P (w64 (r2.2.Deep - 1)) true))) (rt QE (r1.1, (Qf.mk r2.2.S r2.2.P (w64 (r2.2.Deep - 1)) r2.2.Bad)))))) (QcE C1 (Qf.mk h0.S h0.P (w64 (h0.Deep + 1)) h0.Bad) fun r3 => (.rows [[xi r3.1.Kind, xi r3.1.N, xs r3.1.Name, .sl (QK r3.1.L)]] (QK [r3.1]) (rt QE ((Qa.mk (zi 4) i0 s_ [r3.1]), (Qf.mk r3.2.S r3.2.P (w64 (r3.2.Deep - 1)) r3.2.Bad)))))))
def WT (C0 : X4) (C1 : Yj) (C2 : Z6) (C3 : Qaj) (C4 : GW) (h0 : Qf) : Option (Qa × Qf) := (bif h0.Bad then (some ((Qa.mk (0 : Int) (0 : Int) s_ ([] : List Qa)), h0)) else ((C0 h_28 h0).bind fun r1 => (bif r1.1 then ((C1 true r1.2).bind fun r2 => (some (r2.1, r2.2))) else ((C0 h_2d r1.2).bind fun r3 => (bif r3.1 then ((C1 false r3.2).bind fun r4 => (some (r4.1, r4.2))) else ((C0 h_2e r3.2).bind fun r5 => (bif r5.1 then (some ((Qa.mk (3 : Int) (0 : Int) s_ ([] : List Qa)), r5.2)) else ((C0 s_0x r5.2).bind fun r6 => (bif r6.1 then ((C2 (16 : Int) r6.2).bind fun r7 => (some (r7.1, r7.2))) else (bif (decide (r6.2.P < ((r6.2.S.size : Nat) : Int))) then (bif (decide (0 ≤ r6.2.P ∧ r6.2.P < ((r6.2.S.size : Nat) : Int))) then ((C3 ((r6.2.S.data.getD (Int.toNat r6.2.P) 0).toNat : Int) (10 : Int)).bind fun r8 => (bif (decide (r8 ≥ 0)) then ((C2 (10 : Int) r6.2).bind fun r9 => (some (r9.1, r9.2))) else ((C4 r6.2).bind fun r10 => (some (r10.1, r10.2))))) else none) else ((C4 r6.2).bind fun r11 => (some (r11.1, r11.2)))))))))))))
theorem QcF {C0 : Nat → X4} {D0 : X4} (H0 : Cv2 C0 D0) {C1 : Nat → Yj} {D1 : Yj} (H1 : Cv2 C1 D1) {C2 : Nat → Z6} {D2 : Z6} (H2 : Cv2 C2 D2) {C3 : Nat → Qaj} {D3 : Qaj} (H3 : Cv2 C3 D3) {C4 : Nat → GW} {D4 : GW} (H4 : Cv1 C4 D4) (h0 : Qf) : Cv (fun k => WT (C0 k) (C1 k) (C2 k) (C3 k) (C4 k) h0) (WT D0 D1 D2 D3 D4 h0) := by
 unfold WT
 exact .cond cst (.bind (H0 _ _) fun r1 => .cond (.bind (H1 _ _) fun r2 => by exact .const _) (.bind (H0 _ _) fun r3 => .cond (.bind (H1 _ _) fun r4 => by exact .const _) (.bind (H0 _ _) fun r5 => .cond cst (.bind (H0 _ _) fun r6 => .cond (.bind (H2 _ _) fun r7 => by exact .const _) (.cond (.cond (.bind (H3 _ _) fun r8 => .cond (.bind (H2 _ _) fun r9 => by exact .const _) (.bind (H4 _) fun r10 => by exact .const _)) cst) (.bind (H4 _) fun r11 => by exact .const _))))))
noncomputable def Qkq (C0 : Yj) (h0 : Qf) : Tr (Qa × Qf) AH := (.as h0.Bad (rt QE ((Qa.mk i0 i0 s_ ([] : List Qa)), h0)) (Y3 h_28 h0 fun r1 => (.as r1.1 (QaO C0 true r1.2 fun r2 => (rt QE (r2.1, r2.2))) (Y3 h_2d r1.2 fun r3 => (.as r3.1 (QaO C0 false r3.2 fun r4 => (rt QE (r4.1, r4.2))) (Y3 h_2e r3.2 fun r5 => (.as r5.1 (rt QE ((Qa.mk (zi 3) i0 s_ ([] : List Qa)), r5.2)) (Y3 s_0x r5.2 fun r6 => (.as r6.1 (Qak (zi 16) r6.2 fun r7 => (rt QE (r7.1, r7.2))) (let u122 := (decide (r6.2.P < (zz r6.2.S))); .as u122 (yesN 8 u122 (.as (in1 r6.2.P (zz r6.2.S)) (.yes u122 (QeG (gb r6.2.S r6.2.P) (zi 10) fun r8 => (yesN 2 u122 (.as (decide (r8 ≥ 0)) (Qak (zi 10) r6.2 fun r9 => (rt QE (r9.1, r9.2))) (Qb2 r6.2 fun r10 => (rt QE (r10.1, r10.2))))))) .fail)) (noN 11 u122 (.no false (Qb2 r6.2 fun r11 => (rt QE (r11.1, r11.2)))))))))))))))
structure JB where
 x1 : Int
 h0 : Qf
 h1 : Qa
 h2 : Qa
structure VD where
 h0 : Qf
 h1 : Qa
def Em (a : JB) : St := { n := 29, nx := 3, env := [(0, .ptr 0 0), (1, xi a.x1), (4, .ptr 1 0), (5, .ptr 2 0)], heap := [(0, .box [] (Jh a.h0)), (1, .box [] (QZ a.h1)), (2, .box [] (QZ a.h2))] }
def En (a : VD) : Ex × St := (.ret, { n := 29, nx := 2, env := [(4, .ptr 1 0)], heap := [(0, .box [] (Jh a.h0)), (1, .box [] (QZ a.h1))] })
abbrev WQ := JB → Option VD
def Wt (C0 : GX) (C1 : Jv) (a : JB) : Option (JB ⊕ VD) := ((C0 a.x1 a.h0).bind fun r1 => (bif (r1.1 == 0) then (some (.inr (VD.mk r1.2 a.h2))) else ((C1 (w64 (a.x1 + 1)) r1.2).bind fun r2 => (some (.inl (JB.mk a.x1 r2.2 a.h1 (Qa.mk r1.1 (0 : Int) s_ [a.h2, r2.1])))))))
theorem Qan {C0 : Nat → GX} {D0 : GX} (H0 : Cv2 C0 D0) {C1 : Nat → Jv} {D1 : Jv} (H1 : Cv2 C1 D1) (a : JB) : Cv (fun k => Wt (C0 k) (C1 k) a) (Wt D0 D1 a) := by
 unfold Wt
 exact .bind (H0 _ _) fun r1 => .cond cst (.bind (H1 _ _) fun r2 => by exact .const _)
noncomputable abbrev Qg1 {ρ R : Type} (l : WQ) (a : JB) (k0 : VD → Tr ρ R) : Tr ρ R := .loop (loopAt pp 159 4) (Em a) (l a) En k0
noncomputable def Qg2 (C0 : Jv) (a : JB) : Tr (JB ⊕ VD) XS := (Qjq a.x1 a.h0 fun r1 => (.as (r1.1 == 0) (rx En (VD.mk r1.2 a.h2)) (GY C0 (w64 (a.x1 + 1)) r1.2 fun r2 => (.rows [[xi a.h2.Kind, xi a.h2.N, xs a.h2.Name, .sl (QK a.h2.L)], [xi r2.1.Kind, xi r2.1.N, xs r2.1.Name, .sl (QK r2.1.L)]] (QK [a.h2, r2.1]) (lf Em (JB.mk a.x1 r2.2 a.h1 (Qa.mk r1.1 i0 s_ [a.h2, r2.1])))))))
noncomputable def Jm.s (k : Nat) (C0 : Jv) : WQ := iter (Wt Vp C0) k
theorem QfY (k : Nat) {C0 : Jv} (i_r3_reader_two : Qd4 C0) {a : JB} {r : VD} (h : Jm.s k C0 a = some r) : lw 1 159 (loopAt pp 159 4) (Em a) = some (En r) := by
 refine lpP (itP h) (Qg2 C0) fun a => ?_
 exact fun r1 h => ⟨Vp.ok h, ⟨rfl, fun q0 => rfl, fun q0 => fun r2 h => ⟨i_r3_reader_two _ _ _ h, ⟨(XF [a.h2, r2.1]), rfl⟩⟩⟩⟩
theorem Jm.m {j k : Nat} (hj : j ≤ k) (C0 : Jv) (D0 : Jv) (H0 : Le2 C0 D0) (a : JB) : Le (Jm.s j C0 a) (Jm.s k D0 a) := Le.iter (fun a => (Qan ks2 (tw2 H0) a).1 0) hj a
noncomputable def Jm.w (C0 : Jv) : WQ := loopW (Wt Vp C0)
theorem Jm.cv (C0 : Nat → Jv) (D0 : Jv) (H0 : Cv2 C0 D0) (a : JB) : Cv (fun k => Jm.s k (C0 k) a) (Jm.w D0 a) := Cv.iter (fun a => Qan ks2 H0 a) a
def XV (C0 : WL) (C1 : Jv) (L2 : WQ) (a1 : Int) (h0 : Qf) : Option (Qa × Qf) := (bif (decide (a1 > 4)) then ((C0 h0).bind fun r1 => (some (r1.1, r1.2))) else ((C1 (w64 (a1 + 1)) h0).bind fun r2 => ((L2 (JB.mk a1 r2.2 (Qa.mk (0 : Int) (0 : Int) s_ ([] : List Qa)) r2.1)).bind (fun (o3 : VD) => (some (o3.h1, o3.h0))))))
theorem QcG {C0 : Nat → WL} {D0 : WL} (H0 : Cv1 C0 D0) {C1 : Nat → Jv} {D1 : Jv} (H1 : Cv2 C1 D1) {L2 : Nat → WQ} {M2 : WQ} (N2 : Cv1 L2 M2) (a1 : Int) (h0 : Qf) : Cv (fun k => XV (C0 k) (C1 k) (L2 k) a1 h0) (XV D0 D1 M2 a1 h0) := by
 unfold XV
 exact .cond (.bind (H0 _) fun r1 => by exact .const _) (.bind (H1 _ _) fun r2 => .bind (N2 _) (fun o3 => by exact .const _))
noncomputable def Qkr (C0 : WL) (C1 : Jv) (L2 : WQ) (a1 : Int) (h0 : Qf) : Tr (Qa × Qf) AH := (.as (decide (a1 > 4)) (QcE C0 h0 fun r1 => (rt QE (r1.1, r1.2))) (GY C1 (w64 (a1 + 1)) h0 fun r2 => (Qg1 L2 (JB.mk a1 r2.2 (Qa.mk i0 i0 s_ ([] : List Qa)) r2.1) (fun o3 => (rt QE (o3.h1, o3.h0))))))
mutual
noncomputable def Q2.s : Nat → Bool → Qf → Option (Qa × Qf)
 | 0, _, _ => none
 | k + 1, a1, h0 => WP (fun a1 h0 => Qw.s k a1 h0) Us (fun h0 => QV.s k h0) a1 h0
termination_by structural k => k
noncomputable def QV.s : Nat → Qf → Option (Qa × Qf)
 | 0, _ => none
 | k + 1, h0 => WT Us (fun a1 h0 => Q2.s k a1 h0) J9 V0 VK h0
termination_by structural k => k
noncomputable def Qw.s : Nat → Int → Qf → Option (Qa × Qf)
 | 0, _, _ => none
 | k + 1, a1, h0 => XV (fun h0 => QV.s k h0) (fun a1 h0 => Qw.s k a1 h0) (Jm.s k (fun a1 h0 => Qw.s k a1 h0)) a1 h0
termination_by structural k => k
end
theorem PT : ∀ (k : Nat), (Qjr (Q2.s k)) ∧ (Qlk (QV.s k)) ∧ (Qd4 (Qw.s k))
 | 0 => ⟨fun _ _ _ h => (nomatch h), fun _ _ h => (nomatch h), fun _ _ _ h => (nomatch h)⟩
 | k + 1 => by
  obtain ⟨i_r3_reader_inner, i_r3_reader_one, i_r3_reader_two⟩ := PT k
  exact ⟨fun a1 h0 r h => by
    refine fnP (Qh8 (Qw.s k) (QV.s k) a1 h0) ?_ h
    exact ⟨rfl, fun q0 => rfl, fun q0 => ⟨rfl, fun q1 => fun r1 h => ⟨i_r3_reader_two _ _ _ h, fun r2 h => ⟨Us.ok h, ⟨rfl, fun q2 => rfl, fun q2 => rfl⟩⟩⟩, fun q1 => fun r3 h => ⟨i_r3_reader_one _ _ h, ⟨(XF [r3.1]), rfl⟩⟩⟩⟩,
   fun h0 r h => by
    refine fnP (Qkq (Q2.s k) h0) ?_ h
    exact ⟨rfl, fun q0 => rfl, fun q0 => fun r1 h => ⟨Us.ok h, ⟨rfl, fun q1 => fun r2 h => ⟨i_r3_reader_inner _ _ _ h, rfl⟩, fun q1 => fun r3 h => ⟨Us.ok h, ⟨rfl, fun q2 => fun r4 h => ⟨i_r3_reader_inner _ _ _ h, rfl⟩, fun q2 => fun r5 h => ⟨Us.ok h, ⟨rfl, fun q3 => rfl, fun q3 => fun r6 h => ⟨Us.ok h, ⟨rfl, fun q4 => fun r7 h => ⟨J9.ok h, rfl⟩, fun q4 => ⟨rfl, fun q5 => Qj 8 (q5) (⟨rfl, fun q6 => ⟨q5, fun r8 h => ⟨V0.ok h, Qj 2 (q5) (⟨rfl, fun q7 => fun r9 h => ⟨J9.ok h, rfl⟩, fun q7 => fun r10 h => ⟨VK.ok h, rfl⟩⟩)⟩⟩, fun q6 => trivial⟩), fun q5 => noN_ok 11 (q5) (⟨rfl, fun r11 h => ⟨VK.ok h, rfl⟩⟩)⟩⟩⟩⟩⟩⟩⟩⟩⟩⟩,
   fun a1 h0 r h => by
    refine fnP (Qkr (QV.s k) (Qw.s k) (Jm.s k (Qw.s k)) a1 h0) ?_ h
    exact ⟨rfl, fun q0 => fun r1 h => ⟨i_r3_reader_one _ _ h, rfl⟩, fun q0 => fun r2 h => ⟨i_r3_reader_two _ _ _ h, fun o3 h => ⟨QfY k i_r3_reader_two h, rfl⟩⟩⟩⟩
theorem YM : ∀ (k : Nat), (∀ (a1 : Bool) (h0 : Qf), Le (Q2.s k a1 h0) (Q2.s (k + 1) a1 h0)) ∧ (∀ (h0 : Qf), Le (QV.s k h0) (QV.s (k + 1) h0)) ∧ (∀ (a1 : Int) (h0 : Qf), Le (Qw.s k a1 h0) (Qw.s (k + 1) a1 h0))
 | 0 => ⟨fun _ _ _ h => (nomatch h), fun _ _ h => (nomatch h), fun _ _ _ h => (nomatch h)⟩
 | k + 1 => by
  obtain ⟨i_r3_reader_inner, i_r3_reader_one, i_r3_reader_two⟩ := YM k
  exact ⟨fun a1 h0 => (QaP (tw2 i_r3_reader_two) ks2 (tw1 i_r3_reader_one) a1 h0).1 0,
   fun h0 => (QcF ks2 (tw2 i_r3_reader_inner) ks2 ks2 ks1 h0).1 0,
   fun a1 h0 => (QcG (tw1 i_r3_reader_one) (tw2 i_r3_reader_two) (tw1 (Jm.m (Nat.le_succ k) (Qw.s k) (Qw.s (k + 1)) i_r3_reader_two)) a1 h0).1 0⟩
noncomputable def Q2 (a1 : Bool) (h0 : Qf) : Option (Qa × Qf) := lim fun k => Q2.s k a1 h0
theorem Q2.cv (a1 : Bool) (h0 : Qf) : Cv (fun k => Q2.s k a1 h0) (Q2 a1 h0) := .lim fun k => (YM k).1 a1 h0
noncomputable def QV (h0 : Qf) : Option (Qa × Qf) := lim fun k => QV.s k h0
theorem QV.cv (h0 : Qf) : Cv (fun k => QV.s k h0) (QV h0) := .lim fun k => (YM k).2.1 h0
noncomputable def Qw (a1 : Int) (h0 : Qf) : Option (Qa × Qf) := lim fun k => Qw.s k a1 h0
theorem Qw.cv (a1 : Int) (h0 : Qf) : Cv (fun k => Qw.s k a1 h0) (Qw a1 h0) := .lim fun k => (YM k).2.2 a1 h0
theorem Qw.ok {a1 : Int} {h0 : Qf} {r : (Qa × Qf)} (h : Qw a1 h0 = some r) : ww 159 [.ptr 0 0, xi a1] [(0, .box [] (Jh h0))] = some (QE r) := let ⟨k, e⟩ := ((Qw.cv a1 h0).2 r).1 h; (PT k).2.2 a1 h0 _ e
noncomputable def Jm : WQ := Jm.w Qw
theorem Jm.eq (a : JB) : Jm a = (Wt Vp Qw a).bind (Sum.elim Jm some) := Ja _ _
theorem Q2.eq (a1 : Bool) (h0 : Qf) : Q2 a1 h0 = WP Qw Us QV a1 h0 := Cv.uniq (Q2.cv a1 h0).shift (QaP Qw.cv ks2 QV.cv a1 h0)
theorem QV.eq (h0 : Qf) : QV h0 = WT Us Q2 J9 V0 VK h0 := Cv.uniq (QV.cv h0).shift (QcF ks2 Q2.cv ks2 ks2 ks1 h0)
theorem Qw.eq (a1 : Int) (h0 : Qf) : Qw a1 h0 = XV QV Qw Jm a1 h0 := Cv.uniq (Qw.cv a1 h0).shift (QcG QV.cv Qw.cv (Jm.cv (fun k => Qw.s k) Qw Qw.cv) a1 h0)
noncomputable abbrev Qks {ρ R : Type} (a1 : Int) (h0 : Qf) (k : (Qa × Qf) → Tr ρ R) : Tr ρ R := GY Qw a1 h0 k
abbrev Qg3 := ByteArray → Option (Qa × Bool)
def Qa3 (C0 : Jv) (C1 : Po) (a0 : ByteArray) : Option (Qa × Bool) := ((C0 (0 : Int) (Qf.mk a0 (0 : Int) (0 : Int) false)).bind fun r1 => ((C1 r1.2).bind fun r2 => (bif r2.Bad then (some ((Qa.mk (0 : Int) (0 : Int) s_ ([] : List Qa)), false)) else (bif (decide (r2.P < ((a0.size : Nat) : Int))) then (some ((Qa.mk (0 : Int) (0 : Int) s_ ([] : List Qa)), false)) else (some (r1.1, true))))))
noncomputable def W1 : Qg3 := Qa3 Qw U3
theorem W1.eq (a0 : ByteArray) : W1 a0 = Qa3 Qw U3 a0 := rfl
noncomputable def Qq6 (a0 : ByteArray) : Tr (Qa × Bool) AH := (Qks i0 (Qf.mk a0 i0 i0 false) fun r1 => (Qb1 r1.2 fun r2 => (.as r2.Bad (yesN 7 r2.Bad (.yes true (rt Xt ((Qa.mk i0 i0 s_ ([] : List Qa)), false)))) (noN 7 r2.Bad (.as (decide (r2.P < (zz a0))) (rt Xt ((Qa.mk i0 i0 s_ ([] : List Qa)), false)) (rt Xt (r1.1, true)))))))
theorem W1.ok {a0 : ByteArray} {r : (Qa × Bool)} (h : W1 a0 = some r) : ww 107 [xs a0] [] = some (Xt r) := by
 refine fnP (Qq6 a0) ?_ h
 exact fun r1 h => ⟨Qw.ok h, fun r2 h => ⟨U3.ok h, ⟨rfl, fun q0 => Qj 7 (q0) (⟨rfl, rfl⟩), fun q0 => noN_ok 7 (q0) (⟨rfl, fun q1 => rfl, fun q1 => rfl⟩)⟩⟩⟩
noncomputable abbrev QeH {ρ R : Type} (a0 : ByteArray) (k : (Qa × Bool) → Tr ρ R) : Tr ρ R := .call (ww 107 [xs a0] []) (W1 a0) Xt k
def XK (r : Qc) : AV × Heap := (.agg (Xi r), [])
abbrev Qfq := QB → ByteArray → Int → Option Qc
def EF (C0 : QgY) (C1 : QiF) (C2 : Ez) (C3 : QhM) (C4 : Qa2) (C5 : XU) (C6 : Qg3) (a0 : QB) (a1 : ByteArray) (a2 : Int) : Option Qc := ((C0 a1).bind fun r1 => (bif r1 then ((C1 a1 a2).bind fun r2 => (some (Qc.mk r2 (Qa.mk (0 : Int) (0 : Int) s_ ([] : List Qa))))) else ((C2 a2 (5 : Int)).bind fun r3 => (bif (r3 == 0) then (bif (decide ((((a0.E.length) : Nat) : Int) > 0)) then ((C3 a0.E).bind fun r4 => (some (Qc.mk (-1 : Int) r4))) else (bif (decide (0 ≤ (0 : Int) ∧ (0 : Int) < ((a1.size : Nat) : Int))) then (bif (((a1.data.getD (Int.toNat 0) 0).toNat : Int) == 84) then ((C4).bind fun r5 => ((C2 a2 (4 : Int)).bind fun r6 => (bif (decide (0 ≤ r6)) then ((r5[(Int.toNat r6)]?).bind fun e7 => (some (Qc.mk (-1 : Int) (Qa.mk (2 : Int) (0 : Int) e7 ([] : List Qa))))) else none))) else ((C1 a1 a2).bind fun r8 => ((C5 r8).bind fun r9 => ((C6 r9).bind fun r10 => (some (Qc.mk (-1 : Int) r10.1)))))) else none)) else (bif (decide (0 ≤ (0 : Int) ∧ (0 : Int) < ((a1.size : Nat) : Int))) then (bif (((a1.data.getD (Int.toNat 0) 0).toNat : Int) == 84) then ((C4).bind fun r11 => ((C2 a2 (4 : Int)).bind fun r12 => (bif (decide (0 ≤ r12)) then ((r11[(Int.toNat r12)]?).bind fun e13 => (some (Qc.mk (-1 : Int) (Qa.mk (2 : Int) (0 : Int) e13 ([] : List Qa))))) else none))) else ((C1 a1 a2).bind fun r14 => ((C5 r14).bind fun r15 => ((C6 r15).bind fun r16 => (some (Qc.mk (-1 : Int) r16.1)))))) else none)))))
noncomputable def Wg : Qfq := EF W6 WA QG Ya JA Jo W1
theorem Wg.eq (a0 : QB) (a1 : ByteArray) (a2 : Int) : Wg a0 a1 a2 = EF W6 WA QG Ya JA Jo W1 a0 a1 a2 := rfl
noncomputable def Qll (a0 : QB) (a1 : ByteArray) (a2 : Int) : Tr Qc AH := (QmS a1 fun r1 => (.as r1 (Qb0 a1 a2 fun r2 => (rt XK (Qc.mk r2 (Qa.mk i0 i0 s_ ([] : List Qa))))) (Jd a2 (zi 5) fun r3 => (let u123 := (r3 == 0); .as u123 (yesN 2 u123 (.num ((U9 a0.E).length) (a0.E.length) (yesN 2 u123 (.as (decide ((((a0.E.length) : Nat) : Int) > 0)) (Qjm a0.E fun r4 => (rt XK (Qc.mk (-1 : Int) r4))) (.as (in1 i0 (zz a1)) (.as ((gb a1 i0) == 84) (VH fun r5 => (Jd a2 (zi 4) fun r6 => (.as (decide (0 ≤ r6)) (.row ((Qg r5)[(Int.toNat r6)]?) (r5[(Int.toNat r6)]?) QW fun (e7 : ByteArray) => (rt XK (Qc.mk (-1 : Int) (Qa.mk (zi 2) i0 e7 ([] : List Qa))))) .fail))) (Qb0 a1 a2 fun r8 => (SK r8 fun r9 => (QeH r9 fun r10 => (rt XK (Qc.mk (-1 : Int) r10.1)))))) .fail))))) (noN 4 u123 (.no false (.as (in1 i0 (zz a1)) (.as ((gb a1 i0) == 84) (VH fun r11 => (Jd a2 (zi 4) fun r12 => (.as (decide (0 ≤ r12)) (.row ((Qg r11)[(Int.toNat r12)]?) (r11[(Int.toNat r12)]?) QW fun (e13 : ByteArray) => (rt XK (Qc.mk (-1 : Int) (Qa.mk (zi 2) i0 e13 ([] : List Qa))))) .fail))) (Qb0 a1 a2 fun r14 => (SK r14 fun r15 => (QeH r15 fun r16 => (rt XK (Qc.mk (-1 : Int) r16.1)))))) .fail)))))))
theorem Wg.ok {a0 : QB} {a1 : ByteArray} {a2 : Int} {r : Qc} (h : Wg a0 a1 a2 = some r) : ww 62 [.agg (V9 a0), xs a1, xi a2] [] = some (XK r) := by
 refine fnP (Qll a0 a1 a2) ?_ h
 exact fun r1 h => ⟨W6.ok h, ⟨rfl, fun q0 => fun r2 h => ⟨WA.ok h, rfl⟩, fun q0 => fun r3 h => ⟨QG.ok h, ⟨rfl, fun q1 => Qj 2 (q1) (⟨(G3 _), Qj 2 (q1) (⟨rfl, fun q2 => fun r4 h => ⟨Ya.ok h, rfl⟩, fun q2 => ⟨rfl, fun q3 => ⟨rfl, fun q4 => fun r5 h => ⟨JA.ok h, fun r6 h => ⟨QG.ok h, ⟨rfl, fun q5 => fun e7 h => ⟨QO h, rfl⟩, fun q5 => trivial⟩⟩⟩, fun q4 => fun r8 h => ⟨WA.ok h, fun r9 h => ⟨Jo.ok h, fun r10 h => ⟨W1.ok h, rfl⟩⟩⟩⟩, fun q3 => trivial⟩⟩)⟩), fun q1 => noN_ok 4 (q1) (⟨rfl, ⟨rfl, fun q2 => ⟨rfl, fun q3 => fun r11 h => ⟨JA.ok h, fun r12 h => ⟨QG.ok h, ⟨rfl, fun q4 => fun e13 h => ⟨QO h, rfl⟩, fun q4 => trivial⟩⟩⟩, fun q3 => fun r14 h => ⟨WA.ok h, fun r15 h => ⟨Jo.ok h, fun r16 h => ⟨W1.ok h, rfl⟩⟩⟩⟩, fun q2 => trivial⟩⟩)⟩⟩⟩⟩
noncomputable abbrev Qlm {ρ R : Type} (a0 : QB) (a1 : ByteArray) (a2 : Int) (k : Qc → Tr ρ R) : Tr ρ R := .call (ww 62 [.agg (V9 a0), xs a1, xi a2] []) (Wg a0 a1 a2) XK k
def Js (r : Qb) : AV × Heap := (.agg (U1 r), [])
abbrev Qfr := QB → Int → Option Qb
structure QY where
 x6 : Int
 h0 : QB
 h1 : Qb
 h2 : Qb
structure UF where
 h0 : Qb
 h1 : Qb
def Xh (a : QY) : St := { n := 59, nx := 5, env := [(2, .ptr 0 0), (4, .ptr 1 0), (5, .ptr 2 0), (6, xi a.x6)], heap := [(0, .box [] (V9 a.h0)), (1, .box [0, 0, 0, 0, 0, 5] [xi a.h1.Line, xs a.h1.Label, xi a.h1.Kind, xi a.h1.Op, xs a.h1.Text, .arr 3]), (2, .box [0, 0, 0, 0, 0, 5] [xi a.h2.Line, xs a.h2.Label, xi a.h2.Kind, xi a.h2.Op, xs a.h2.Text, .arr 4]), (3, .arr true 5 (Qi a.h1.Args)), (4, .arr true 5 (Qi a.h2.Args))] }
def ET (a : UF) : Ex × St := (.exit 0, { n := 59, nx := 4, env := [(4, .ptr 0 0), (5, .ptr 1 0)], heap := [(0, .box [0, 0, 0, 0, 0, 5] [xi a.h0.Line, xs a.h0.Label, xi a.h0.Kind, xi a.h0.Op, xs a.h0.Text, .arr 2]), (1, .box [0, 0, 0, 0, 0, 5] [xi a.h1.Line, xs a.h1.Label, xi a.h1.Kind, xi a.h1.Op, xs a.h1.Text, .arr 3]), (2, .arr true 5 (Qi a.h0.Args)), (3, .arr true 5 (Qi a.h1.Args))] })
abbrev Qb4 := QY → Option UF
def YE (C0 : Ez) (C1 : Sl) (C2 : QhM) (C3 : Qa2) (a : QY) : Option (QY ⊕ UF) := ((C0 a.h0.B (4 : Int)).bind fun r1 => (bif (decide (a.x6 ≤ r1)) then ((C1 a.h0 a.x6).bind fun r2 => ((C0 r2 (6 : Int)).bind fun r3 => (bif (r3 == 0) then (bif (decide ((((a.h0.E.length) : Nat) : Int) > 0)) then ((C2 a.h0.E).bind fun r4 => (bif (decide ((a.h2.Args.length + [(Qc.mk (-1 : Int) r4)].length) * 64 ≤ most)) then (some (.inl (QY.mk (w64 (a.x6 + 1)) a.h0 a.h1 (Qb.mk a.h2.Line a.h2.Label a.h2.Kind a.h2.Op a.h2.Text (a.h2.Args ++ [(Qc.mk (-1 : Int) r4)]))))) else none)) else ((C0 r2 (6 : Int)).bind fun r5 => (bif (r5 == 1) then ((C3).bind fun r6 => ((C0 (w64 (Int.tdiv r2 (6 : Int))) (4 : Int)).bind fun r7 => (bif (decide (0 ≤ r7)) then ((r6[(Int.toNat r7)]?).bind fun e8 => (bif (decide ((a.h2.Args.length + [(Qc.mk (-1 : Int) (Qa.mk (2 : Int) (0 : Int) e8 ([] : List Qa)))].length) * 64 ≤ most)) then (some (.inl (QY.mk (w64 (a.x6 + 1)) a.h0 a.h1 (Qb.mk a.h2.Line a.h2.Label a.h2.Kind a.h2.Op a.h2.Text (a.h2.Args ++ [(Qc.mk (-1 : Int) (Qa.mk (2 : Int) (0 : Int) e8 ([] : List Qa)))]))))) else none)) else none))) else ((C0 r2 (256 : Int)).bind fun r9 => (bif (decide ((a.h2.Args.length + [(Qc.mk (-1 : Int) (Qa.mk (1 : Int) r9 s_ ([] : List Qa)))].length) * 64 ≤ most)) then (some (.inl (QY.mk (w64 (a.x6 + 1)) a.h0 a.h1 (Qb.mk a.h2.Line a.h2.Label a.h2.Kind a.h2.Op a.h2.Text (a.h2.Args ++ [(Qc.mk (-1 : Int) (Qa.mk (1 : Int) r9 s_ ([] : List Qa)))]))))) else none))))) else ((C0 r2 (6 : Int)).bind fun r10 => (bif (r10 == 1) then ((C3).bind fun r11 => ((C0 (w64 (Int.tdiv r2 (6 : Int))) (4 : Int)).bind fun r12 => (bif (decide (0 ≤ r12)) then ((r11[(Int.toNat r12)]?).bind fun e13 => (bif (decide ((a.h2.Args.length + [(Qc.mk (-1 : Int) (Qa.mk (2 : Int) (0 : Int) e13 ([] : List Qa)))].length) * 64 ≤ most)) then (some (.inl (QY.mk (w64 (a.x6 + 1)) a.h0 a.h1 (Qb.mk a.h2.Line a.h2.Label a.h2.Kind a.h2.Op a.h2.Text (a.h2.Args ++ [(Qc.mk (-1 : Int) (Qa.mk (2 : Int) (0 : Int) e13 ([] : List Qa)))]))))) else none)) else none))) else ((C0 r2 (256 : Int)).bind fun r14 => (bif (decide ((a.h2.Args.length + [(Qc.mk (-1 : Int) (Qa.mk (1 : Int) r14 s_ ([] : List Qa)))].length) * 64 ≤ most)) then (some (.inl (QY.mk (w64 (a.x6 + 1)) a.h0 a.h1 (Qb.mk a.h2.Line a.h2.Label a.h2.Kind a.h2.Op a.h2.Text (a.h2.Args ++ [(Qc.mk (-1 : Int) (Qa.mk (1 : Int) r14 s_ ([] : List Qa)))]))))) else none))))))) else (some (.inr (UF.mk a.h1 a.h2)))))
noncomputable def Vr : Qb4 := loopW (YE QG Va Ya JA)
theorem Vr.eq (a : QY) : Vr a = (YE QG Va Ya JA a).bind (Sum.elim Vr some) := Ja _ _
noncomputable abbrev Qh9 {ρ R : Type} (a : QY) (k0 : UF → Tr ρ R) : Tr ρ R := .loop (loopAt pp 65 3) (Xh a) (Vr a) ET k0
noncomputable def Qia (a : QY) : Tr (QY ⊕ UF) XS := (Jd a.h0.B (zi 4) fun r1 => (.as (decide (a.x6 ≤ r1)) (QcB a.h0 a.x6 fun r2 => (Jd r2 (zi 6) fun r3 => (let u124 := (r3 == 0); .as u124 (yesN 2 u124 (.num ((U9 a.h0.E).length) (a.h0.E.length) (yesN 2 u124 (.as (decide ((((a.h0.E.length) : Nat) : Int) > 0)) (Qjm a.h0.E fun r4 => (.rows [[xi (-1 : Int), xi r4.Kind, xi r4.N, xs r4.Name, .sl (QK r4.L)]] (Qi [(Qc.mk (-1 : Int) r4)]) (.yes (decide ((Qi [(Qc.mk (-1 : Int) r4)]).all (fun r => r.length == 5) = true)) (.ask (decide (((Qi a.h2.Args).length + (Qi [(Qc.mk (-1 : Int) r4)]).length) * 64 ≤ most)) (decide ((a.h2.Args.length + [(Qc.mk (-1 : Int) r4)].length) * 64 ≤ most)) (.rows ((Qi a.h2.Args) ++ (Qi [(Qc.mk (-1 : Int) r4)])) (Qi (a.h2.Args ++ [(Qc.mk (-1 : Int) r4)])) (lf Xh (QY.mk (w64 (a.x6 + 1)) a.h0 a.h1 (Qb.mk a.h2.Line a.h2.Label a.h2.Kind a.h2.Op a.h2.Text (a.h2.Args ++ [(Qc.mk (-1 : Int) r4)]))))) .fail)))) (Jd r2 (zi 6) fun r5 => (.as (r5 == 1) (VH fun r6 => (.yes (decide ((zi 6) ≠ 0)) (Jd (w64 (Int.tdiv r2 (zi 6))) (zi 4) fun r7 => (.as (decide (0 ≤ r7)) (.row ((Qg r6)[(Int.toNat r7)]?) (r6[(Int.toNat r7)]?) QW fun (e8 : ByteArray) => (.rows [[xi (-1 : Int), xi (zi 2), xi i0, xs e8, .sl (QK ([] : List Qa))]] (Qi [(Qc.mk (-1 : Int) (Qa.mk (zi 2) i0 e8 ([] : List Qa)))]) (.yes (decide ((Qi [(Qc.mk (-1 : Int) (Qa.mk (zi 2) i0 e8 ([] : List Qa)))]).all (fun r => r.length == 5) = true)) (.ask (decide (((Qi a.h2.Args).length + (Qi [(Qc.mk (-1 : Int) (Qa.mk (zi 2) i0 e8 ([] : List Qa)))]).length) * 64 ≤ most)) (decide ((a.h2.Args.length + [(Qc.mk (-1 : Int) (Qa.mk (zi 2) i0 e8 ([] : List Qa)))].length) * 64 ≤ most)) (.rows ((Qi a.h2.Args) ++ (Qi [(Qc.mk (-1 : Int) (Qa.mk (zi 2) i0 e8 ([] : List Qa)))])) (Qi (a.h2.Args ++ [(Qc.mk (-1 : Int) (Qa.mk (zi 2) i0 e8 ([] : List Qa)))])) (lf Xh (QY.mk (w64 (a.x6 + 1)) a.h0 a.h1 (Qb.mk a.h2.Line a.h2.Label a.h2.Kind a.h2.Op a.h2.Text (a.h2.Args ++ [(Qc.mk (-1 : Int) (Qa.mk (zi 2) i0 e8 ([] : List Qa)))]))))) .fail)))) .fail)))) (Jd r2 (zi 256) fun r9 => (.rows [[xi (-1 : Int), xi (zi 1), xi r9, xs s_, .sl (QK ([] : List Qa))]] (Qi [(Qc.mk (-1 : Int) (Qa.mk (zi 1) r9 s_ ([] : List Qa)))]) (.yes (decide ((Qi [(Qc.mk (-1 : Int) (Qa.mk (zi 1) r9 s_ ([] : List Qa)))]).all (fun r => r.length == 5) = true)) (.ask (decide (((Qi a.h2.Args).length + (Qi [(Qc.mk (-1 : Int) (Qa.mk (zi 1) r9 s_ ([] : List Qa)))]).length) * 64 ≤ most)) (decide ((a.h2.Args.length + [(Qc.mk (-1 : Int) (Qa.mk (zi 1) r9 s_ ([] : List Qa)))].length) * 64 ≤ most)) (.rows ((Qi a.h2.Args) ++ (Qi [(Qc.mk (-1 : Int) (Qa.mk (zi 1) r9 s_ ([] : List Qa)))])) (Qi (a.h2.Args ++ [(Qc.mk (-1 : Int) (Qa.mk (zi 1) r9 s_ ([] : List Qa)))])) (lf Xh (QY.mk (w64 (a.x6 + 1)) a.h0 a.h1 (Qb.mk a.h2.Line a.h2.Label a.h2.Kind a.h2.Op a.h2.Text (a.h2.Args ++ [(Qc.mk (-1 : Int) (Qa.mk (zi 1) r9 s_ ([] : List Qa)))]))))) .fail)))))))))) (noN 4 u124 (.no false (Jd r2 (zi 6) fun r10 => (.as (r10 == 1) (VH fun r11 => (.yes (decide ((zi 6) ≠ 0)) (Jd (w64 (Int.tdiv r2 (zi 6))) (zi 4) fun r12 => (.as (decide (0 ≤ r12)) (.row ((Qg r11)[(Int.toNat r12)]?) (r11[(Int.toNat r12)]?) QW fun (e13 : ByteArray) => (.rows [[xi (-1 : Int), xi (zi 2), xi i0, xs e13, .sl (QK ([] : List Qa))]] (Qi [(Qc.mk (-1 : Int) (Qa.mk (zi 2) i0 e13 ([] : List Qa)))]) (.yes (decide ((Qi [(Qc.mk (-1 : Int) (Qa.mk (zi 2) i0 e13 ([] : List Qa)))]).all (fun r => r.length == 5) = true)) (.ask (decide (((Qi a.h2.Args).length + (Qi [(Qc.mk (-1 : Int) (Qa.mk (zi 2) i0 e13 ([] : List Qa)))]).length) * 64 ≤ most)) (decide ((a.h2.Args.length + [(Qc.mk (-1 : Int) (Qa.mk (zi 2) i0 e13 ([] : List Qa)))].length) * 64 ≤ most)) (.rows ((Qi a.h2.Args) ++ (Qi [(Qc.mk (-1 : Int) (Qa.mk (zi 2) i0 e13 ([] : List Qa)))])) (Qi (a.h2.Args ++ [(Qc.mk (-1 : Int) (Qa.mk (zi 2) i0 e13 ([] : List Qa)))])) (lf Xh (QY.mk (w64 (a.x6 + 1)) a.h0 a.h1 (Qb.mk a.h2.Line a.h2.Label a.h2.Kind a.h2.Op a.h2.Text (a.h2.Args ++ [(Qc.mk (-1 : Int) (Qa.mk (zi 2) i0 e13 ([] : List Qa)))]))))) .fail)))) .fail)))) (Jd r2 (zi 256) fun r14 => (.rows [[xi (-1 : Int), xi (zi 1), xi r14, xs s_, .sl (QK ([] : List Qa))]] (Qi [(Qc.mk (-1 : Int) (Qa.mk (zi 1) r14 s_ ([] : List Qa)))]) (.yes (decide ((Qi [(Qc.mk (-1 : Int) (Qa.mk (zi 1) r14 s_ ([] : List Qa)))]).all (fun r => r.length == 5) = true)) (.ask (decide (((Qi a.h2.Args).length + (Qi [(Qc.mk (-1 : Int) (Qa.mk (zi 1) r14 s_ ([] : List Qa)))]).length) * 64 ≤ most)) (decide ((a.h2.Args.length + [(Qc.mk (-1 : Int) (Qa.mk (zi 1) r14 s_ ([] : List Qa)))].length) * 64 ≤ most)) (.rows ((Qi a.h2.Args) ++ (Qi [(Qc.mk (-1 : Int) (Qa.mk (zi 1) r14 s_ ([] : List Qa)))])) (Qi (a.h2.Args ++ [(Qc.mk (-1 : Int) (Qa.mk (zi 1) r14 s_ ([] : List Qa)))])) (lf Xh (QY.mk (w64 (a.x6 + 1)) a.h0 a.h1 (Qb.mk a.h2.Line a.h2.Label a.h2.Kind a.h2.Op a.h2.Text (a.h2.Args ++ [(Qc.mk (-1 : Int) (Qa.mk (zi 1) r14 s_ ([] : List Qa)))]))))) .fail))))))))))) (rx ET (UF.mk a.h1 a.h2))))
theorem Vr.ok {a : QY} {r : UF} (h : Vr a = some r) : lw 0 65 (loopAt pp 65 3) (Xh a) = some (ET r) := by
 refine lpP h Qia fun a => ?_
 exact fun r1 h => ⟨QG.ok h, ⟨rfl, fun q0 => fun r2 h => ⟨Va.ok h, fun r3 h => ⟨QG.ok h, ⟨rfl, fun q1 => Qj 2 (q1) (⟨(G3 _), Qj 2 (q1) (⟨rfl, fun q2 => fun r4 h => ⟨Ya.ok h, ⟨(JE [(Qc.mk (-1 : Int) r4)]), ⟨(decide_eq_true (V8 _)), ⟨(by rw [Jf, Jf]), fun q3 => ⟨(U8 _ _), rfl⟩, fun q3 => trivial⟩⟩⟩⟩, fun q2 => fun r5 h => ⟨QG.ok h, ⟨rfl, fun q3 => fun r6 h => ⟨JA.ok h, ⟨rfl, fun r7 h => ⟨QG.ok h, ⟨rfl, fun q4 => fun e8 h => ⟨QO h, ⟨(JE [(Qc.mk (-1 : Int) (Qa.mk (2 : Int) (0 : Int) e8 ([] : List Qa)))]), ⟨(decide_eq_true (V8 _)), ⟨(by rw [Jf, Jf]), fun q5 => ⟨(U8 _ _), rfl⟩, fun q5 => trivial⟩⟩⟩⟩, fun q4 => trivial⟩⟩⟩⟩, fun q3 => fun r9 h => ⟨QG.ok h, ⟨(JE [(Qc.mk (-1 : Int) (Qa.mk (1 : Int) r9 s_ ([] : List Qa)))]), ⟨(decide_eq_true (V8 _)), ⟨(by rw [Jf, Jf]), fun q4 => ⟨(U8 _ _), rfl⟩, fun q4 => trivial⟩⟩⟩⟩⟩⟩⟩)⟩), fun q1 => noN_ok 4 (q1) (⟨rfl, fun r10 h => ⟨QG.ok h, ⟨rfl, fun q2 => fun r11 h => ⟨JA.ok h, ⟨rfl, fun r12 h => ⟨QG.ok h, ⟨rfl, fun q3 => fun e13 h => ⟨QO h, ⟨(JE [(Qc.mk (-1 : Int) (Qa.mk (2 : Int) (0 : Int) e13 ([] : List Qa)))]), ⟨(decide_eq_true (V8 _)), ⟨(by rw [Jf, Jf]), fun q4 => ⟨(U8 _ _), rfl⟩, fun q4 => trivial⟩⟩⟩⟩, fun q3 => trivial⟩⟩⟩⟩, fun q2 => fun r14 h => ⟨QG.ok h, ⟨(JE [(Qc.mk (-1 : Int) (Qa.mk (1 : Int) r14 s_ ([] : List Qa)))]), ⟨(decide_eq_true (V8 _)), ⟨(by rw [Jf, Jf]), fun q3 => ⟨(U8 _ _), rfl⟩, fun q3 => trivial⟩⟩⟩⟩⟩⟩⟩)⟩⟩⟩, fun q0 => rfl⟩⟩
def Sn (L0 : Qb4) (a0 : QB) (a1 : Int) : Option Qb := ((L0 (QY.mk (0 : Int) a0 (Qb.mk (0 : Int) s_ (0 : Int) (0 : Int) s_ ([] : List Qc)) (Qb.mk (1 : Int) s_ a1 (0 : Int) s_ ([] : List Qc)))).bind (fun (o1 : UF) => (some o1.h1)))
noncomputable def Xw : Qfr := Sn Vr
theorem Xw.eq (a0 : QB) (a1 : Int) : Xw a0 a1 = Sn Vr a0 a1 := rfl
noncomputable def Qln (a0 : QB) (a1 : Int) : Tr Qb AH := (Qh9 (QY.mk i0 a0 (Qb.mk i0 s_ i0 i0 s_ ([] : List Qc)) (Qb.mk (zi 1) s_ a1 i0 s_ ([] : List Qc))) (fun o1 => (rt Js o1.h1)))
theorem Xw.ok {a0 : QB} {a1 : Int} {r : Qb} (h : Xw a0 a1 = some r) : ww 65 [.agg (V9 a0), xi a1] [] = some (Js r) := by
 refine fnP (Qln a0 a1) ?_ h
 exact fun o1 h => ⟨Vr.ok h, rfl⟩
noncomputable abbrev Qlo {ρ R : Type} (a0 : QB) (a1 : Int) (k : Qb → Tr ρ R) : Tr ρ R := .call (ww 65 [.agg (V9 a0), xi a1] []) (Xw a0 a1) Js k
abbrev Qg4 := QB → Option Qb
structure Ut where
 x5 : (List ByteArray)
 x6 : Int
 h0 : QB
 h1 : Qb
 h2 : Qb
structure VI where
 h0 : QB
 h1 : Qb
 h2 : Qb
def Fs (a : Ut) : St := { n := 156, nx := 5, env := [(1, .ptr 0 0), (2, .ptr 1 0), (3, .ptr 2 0), (5, .sl (Qg a.x5)), (6, xi a.x6)], heap := [(0, .box [] (V9 a.h0)), (1, .box [0, 0, 0, 0, 0, 5] [xi a.h1.Line, xs a.h1.Label, xi a.h1.Kind, xi a.h1.Op, xs a.h1.Text, .arr 3]), (2, .box [0, 0, 0, 0, 0, 5] [xi a.h2.Line, xs a.h2.Label, xi a.h2.Kind, xi a.h2.Op, xs a.h2.Text, .arr 4]), (3, .arr true 5 (Qi a.h1.Args)), (4, .arr true 5 (Qi a.h2.Args))] }
def Ft (a : VI) : Ex × St := (.exit 1, { n := 156, nx := 5, env := [(1, .ptr 0 0), (2, .ptr 1 0), (3, .ptr 2 0)], heap := [(0, .box [] (V9 a.h0)), (1, .box [0, 0, 0, 0, 0, 5] [xi a.h1.Line, xs a.h1.Label, xi a.h1.Kind, xi a.h1.Op, xs a.h1.Text, .arr 3]), (2, .box [0, 0, 0, 0, 0, 5] [xi a.h2.Line, xs a.h2.Label, xi a.h2.Kind, xi a.h2.Op, xs a.h2.Text, .arr 4]), (3, .arr true 5 (Qi a.h1.Args)), (4, .arr true 5 (Qi a.h2.Args))] })
abbrev QcH := Ut → Option VI
def Zf (C0 : Sl) (C1 : Qfq) (a : Ut) : Option (Ut ⊕ VI) := (bif (decide (a.x6 < (((a.x5.length) : Nat) : Int))) then (bif (decide (0 ≤ a.x6)) then ((a.x5[(Int.toNat a.x6)]?).bind fun e1 => ((C0 a.h0 a.x6).bind fun r2 => ((C1 a.h0 e1 r2).bind fun r3 => (bif (decide ((a.h2.Args.length + [r3].length) * 64 ≤ most)) then (some (.inl (Ut.mk a.x5 (w64 (a.x6 + 1)) a.h0 a.h1 (Qb.mk a.h2.Line a.h2.Label a.h2.Kind a.h2.Op a.h2.Text (a.h2.Args ++ [r3]))))) else none)))) else none) else (some (.inr (VI.mk a.h0 a.h1 a.h2))))
noncomputable def VL : QcH := loopW (Zf Va Wg)
theorem VL.eq (a : Ut) : VL a = (Zf Va Wg a).bind (Sum.elim VL some) := Ja _ _
noncomputable abbrev Qjs {ρ R : Type} (a : Ut) (k0 : VI → Tr ρ R) : Tr ρ R := .loop (loopAt pp 25 8) (Fs a) (VL a) Ft k0
noncomputable def Qjt (a : Ut) : Tr (Ut ⊕ VI) XS := (.num ((Qg a.x5).length) (a.x5.length) (.as (decide (a.x6 < (((a.x5.length) : Nat) : Int))) (.as (decide (0 ≤ a.x6)) (.row ((Qg a.x5)[(Int.toNat a.x6)]?) (a.x5[(Int.toNat a.x6)]?) QW fun (e1 : ByteArray) => (QcB a.h0 a.x6 fun r2 => (Qlm a.h0 e1 r2 fun r3 => (.rows [[xi r3.Reg, xi r3.E.Kind, xi r3.E.N, xs r3.E.Name, .sl (QK r3.E.L)]] (Qi [r3]) (.yes (decide ((Qi [r3]).all (fun r => r.length == 5) = true)) (.ask (decide (((Qi a.h2.Args).length + (Qi [r3]).length) * 64 ≤ most)) (decide ((a.h2.Args.length + [r3].length) * 64 ≤ most)) (.rows ((Qi a.h2.Args) ++ (Qi [r3])) (Qi (a.h2.Args ++ [r3])) (lf Fs (Ut.mk a.x5 (w64 (a.x6 + 1)) a.h0 a.h1 (Qb.mk a.h2.Line a.h2.Label a.h2.Kind a.h2.Op a.h2.Text (a.h2.Args ++ [r3]))))) .fail)))))) .fail) (rx Ft (VI.mk a.h0 a.h1 a.h2))))
theorem VL.ok {a : Ut} {r : VI} (h : VL a = some r) : lw 0 25 (loopAt pp 25 8) (Fs a) = some (Ft r) := by
 refine lpP h Qjt fun a => ?_
 exact ⟨(Qo _), ⟨rfl, fun q0 => ⟨rfl, fun q1 => fun e1 h => ⟨QO h, fun r2 h => ⟨Va.ok h, fun r3 h => ⟨Wg.ok h, ⟨(JE [r3]), ⟨(decide_eq_true (V8 _)), ⟨(by rw [Jf, Jf]), fun q2 => ⟨(U8 _ _), rfl⟩, fun q2 => trivial⟩⟩⟩⟩⟩⟩, fun q1 => trivial⟩, fun q0 => rfl⟩⟩
def QaA (C0 : Ez) (C1 : QgW) (C2 : QgX) (C3 : Qa2) (C4 : Qfr) (C5 : QhM) (L6 : QcH) (a0 : QB) : Option Qb := ((C0 a0.K (16 : Int)).bind fun r1 => (bif (decide (r1 < 6)) then ((C0 a0.A (66 : Int)).bind fun r2 => ((C1 r2).bind fun r3 => ((C2 r3).bind fun r4 => ((L6 (Ut.mk r4 (0 : Int) a0 (Qb.mk (0 : Int) s_ (0 : Int) (0 : Int) s_ ([] : List Qc)) (Qb.mk (1 : Int) s_ (1 : Int) r2 s_ ([] : List Qc)))).bind (fun (o5 : VI) => (bif o5.h0.Label then ((C3).bind fun r6 => ((C0 o5.h0.B (4 : Int)).bind fun r7 => (bif (decide (0 ≤ r7)) then ((r6[(Int.toNat r7)]?).bind fun e8 => (some (Qb.mk o5.h2.Line e8 o5.h2.Kind o5.h2.Op o5.h2.Text o5.h2.Args))) else none))) else (bif (o5.h2.Kind == 0) then ((C3).bind fun r9 => ((C0 o5.h0.B (4 : Int)).bind fun r10 => (bif (decide (0 ≤ r10)) then ((r9[(Int.toNat r10)]?).bind fun e11 => (some (Qb.mk o5.h2.Line e11 o5.h2.Kind o5.h2.Op o5.h2.Text o5.h2.Args))) else none))) else (some o5.h2)))))))) else (bif (decide (r1 < 9)) then ((C0 a0.A (3 : Int)).bind fun r12 => (bif (r12 == 2) then ((C0 a0.B (2 : Int)).bind fun r13 => ((C0 (w64 (Int.tdiv a0.B (2 : Int))) (4 : Int)).bind fun r14 => ((C3).bind fun r15 => ((C0 a0.B (4 : Int)).bind fun r16 => (bif (decide (0 ≤ r16)) then ((r15[(Int.toNat r16)]?).bind fun e17 => (bif (decide (([(Qc.mk (-1 : Int) (Qa.mk (1 : Int) r13 s_ ([] : List Qa))), (Qc.mk (-1 : Int) (Qa.mk (1 : Int) r14 s_ ([] : List Qa)))].length + [(Qc.mk (-1 : Int) (Qa.mk (2 : Int) (0 : Int) e17 ([] : List Qa)))].length) * 64 ≤ most)) then (bif a0.Label then ((C3).bind fun r18 => ((C0 a0.B (4 : Int)).bind fun r19 => (bif (decide (0 ≤ r19)) then ((r18[(Int.toNat r19)]?).bind fun e20 => (some (Qb.mk (1 : Int) e20 (2 : Int) r12 s_ ([(Qc.mk (-1 : Int) (Qa.mk (1 : Int) r13 s_ ([] : List Qa))), (Qc.mk (-1 : Int) (Qa.mk (1 : Int) r14 s_ ([] : List Qa)))] ++ [(Qc.mk (-1 : Int) (Qa.mk (2 : Int) (0 : Int) e17 ([] : List Qa)))])))) else none))) else (some (Qb.mk (1 : Int) s_ (2 : Int) r12 s_ ([(Qc.mk (-1 : Int) (Qa.mk (1 : Int) r13 s_ ([] : List Qa))), (Qc.mk (-1 : Int) (Qa.mk (1 : Int) r14 s_ ([] : List Qa)))] ++ [(Qc.mk (-1 : Int) (Qa.mk (2 : Int) (0 : Int) e17 ([] : List Qa)))])))) else none)) else none))))) else ((C3).bind fun r21 => ((C0 a0.B (4 : Int)).bind fun r22 => (bif (decide (0 ≤ r22)) then ((r21[(Int.toNat r22)]?).bind fun e23 => (bif (decide ((([] : List Qc).length + [(Qc.mk (-1 : Int) (Qa.mk (2 : Int) (0 : Int) e23 ([] : List Qa)))].length) * 64 ≤ most)) then (bif a0.Label then ((C3).bind fun r24 => ((C0 a0.B (4 : Int)).bind fun r25 => (bif (decide (0 ≤ r25)) then ((r24[(Int.toNat r25)]?).bind fun e26 => (some (Qb.mk (1 : Int) e26 (2 : Int) r12 s_ (([] : List Qc) ++ [(Qc.mk (-1 : Int) (Qa.mk (2 : Int) (0 : Int) e23 ([] : List Qa)))])))) else none))) else (some (Qb.mk (1 : Int) s_ (2 : Int) r12 s_ (([] : List Qc) ++ [(Qc.mk (-1 : Int) (Qa.mk (2 : Int) (0 : Int) e23 ([] : List Qa)))])))) else none)) else none))))) else (bif (decide (r1 < 12)) then ((C4 a0 (w64 ((w64 ((3 : Int) + r1)) - 9))).bind fun r27 => (bif a0.Label then ((C3).bind fun r28 => ((C0 a0.B (4 : Int)).bind fun r29 => (bif (decide (0 ≤ r29)) then ((r28[(Int.toNat r29)]?).bind fun e30 => (some (Qb.mk r27.Line e30 r27.Kind r27.Op r27.Text r27.Args))) else none))) else (bif (r27.Kind == 0) then ((C3).bind fun r31 => ((C0 a0.B (4 : Int)).bind fun r32 => (bif (decide (0 ≤ r32)) then ((r31[(Int.toNat r32)]?).bind fun e33 => (some (Qb.mk r27.Line e33 r27.Kind r27.Op r27.Text r27.Args))) else none))) else (some r27)))) else (bif (r1 == 12) then ((C0 a0.A (5 : Int)).bind fun r34 => (bif (decide (0 ≤ r34 ∧ r34 < (([s_, s_hi, UW, WY, F5].length : Nat) : Int))) then (([s_, s_hi, UW, WY, F5][(Int.toNat r34)]?).bind fun e35 => (bif a0.Label then ((C3).bind fun r36 => ((C0 a0.B (4 : Int)).bind fun r37 => (bif (decide (0 ≤ r37)) then ((r36[(Int.toNat r37)]?).bind fun e38 => (some (Qb.mk (1 : Int) e38 (6 : Int) (0 : Int) e35 ([] : List Qc)))) else none))) else (some (Qb.mk (1 : Int) s_ (6 : Int) (0 : Int) e35 ([] : List Qc))))) else none)) else (bif (r1 == 13) then ((C0 a0.A (6 : Int)).bind fun r39 => (bif (decide (0 ≤ r39 ∧ r39 < (([(1 : Int), (2 : Int), (4 : Int), (8 : Int), (16 : Int), (3 : Int)].length : Nat) : Int))) then (([(1 : Int), (2 : Int), (4 : Int), (8 : Int), (16 : Int), (3 : Int)][(Int.toNat r39)]?).bind fun e40 => (bif a0.Label then ((C3).bind fun r41 => ((C0 a0.B (4 : Int)).bind fun r42 => (bif (decide (0 ≤ r42)) then ((r41[(Int.toNat r42)]?).bind fun e43 => (some (Qb.mk (1 : Int) e43 (7 : Int) (0 : Int) s_ [(Qc.mk (-1 : Int) (Qa.mk (1 : Int) e40 s_ ([] : List Qa)))]))) else none))) else (some (Qb.mk (1 : Int) s_ (7 : Int) (0 : Int) s_ [(Qc.mk (-1 : Int) (Qa.mk (1 : Int) e40 s_ ([] : List Qa)))])))) else none)) else (bif (r1 == 14) then ((C0 a0.A (8 : Int)).bind fun r44 => (bif (decide (0 ≤ r44 ∧ r44 < (([(0 : Int), (2 : Int), (100 : Int), (250 : Int), (252 : Int), (254 : Int), (256 : Int), (7 : Int)].length : Nat) : Int))) then (([(0 : Int), (2 : Int), (100 : Int), (250 : Int), (252 : Int), (254 : Int), (256 : Int), (7 : Int)][(Int.toNat r44)]?).bind fun e45 => (bif a0.Label then ((C3).bind fun r46 => ((C0 a0.B (4 : Int)).bind fun r47 => (bif (decide (0 ≤ r47)) then ((r46[(Int.toNat r47)]?).bind fun e48 => (some (Qb.mk (1 : Int) e48 (8 : Int) (0 : Int) s_ [(Qc.mk (-1 : Int) (Qa.mk (1 : Int) e45 s_ ([] : List Qa)))]))) else none))) else (some (Qb.mk (1 : Int) s_ (8 : Int) (0 : Int) s_ [(Qc.mk (-1 : Int) (Qa.mk (1 : Int) e45 s_ ([] : List Qa)))])))) else none)) else ((C0 a0.A (3 : Int)).bind fun r49 => (bif (decide (0 ≤ r49 ∧ r49 < (([s_k, G6, s_x].length : Nat) : Int))) then (([s_k, G6, s_x][(Int.toNat r49)]?).bind fun e50 => ((C5 a0.E).bind fun r51 => (bif a0.Label then ((C3).bind fun r52 => ((C0 a0.B (4 : Int)).bind fun r53 => (bif (decide (0 ≤ r53)) then ((r52[(Int.toNat r53)]?).bind fun e54 => (some (Qb.mk (1 : Int) e54 (9 : Int) (0 : Int) e50 [(Qc.mk (-1 : Int) r51)]))) else none))) else (some (Qb.mk (1 : Int) s_ (9 : Int) (0 : Int) e50 [(Qc.mk (-1 : Int) r51)]))))) else none)))))))))
noncomputable def W7 : Qg4 := QaA QG XE We JA Xw Ya VL
theorem W7.eq (a0 : QB) : W7 a0 = QaA QG XE We JA Xw Ya VL a0 := rfl
noncomputable def QmW (a0 : QB) : Tr Qb AH := (Jd a0.K (zi 16) fun r1 => (.as (decide (r1 < 6)) (Jd a0.A (zi 66) fun r2 => (Qkk r2 fun r3 => (Qkl r3 fun r4 => (Qjs (Ut.mk r4 i0 a0 (Qb.mk i0 s_ i0 i0 s_ ([] : List Qc)) (Qb.mk (zi 1) s_ (zi 1) r2 s_ ([] : List Qc))) (fun o5 => (let u125 := o5.h0.Label; .as u125 (yesN 3 u125 (.yes true (VH fun r6 => (Jd o5.h0.B (zi 4) fun r7 => (.as (decide (0 ≤ r7)) (.row ((Qg r6)[(Int.toNat r7)]?) (r6[(Int.toNat r7)]?) QW fun (e8 : ByteArray) => (rt Js (Qb.mk o5.h2.Line e8 o5.h2.Kind o5.h2.Op o5.h2.Text o5.h2.Args))) .fail))))) (noN 3 u125 (.as (o5.h2.Kind == 0) (VH fun r9 => (Jd o5.h0.B (zi 4) fun r10 => (.as (decide (0 ≤ r10)) (.row ((Qg r9)[(Int.toNat r10)]?) (r9[(Int.toNat r10)]?) QW fun (e11 : ByteArray) => (rt Js (Qb.mk o5.h2.Line e11 o5.h2.Kind o5.h2.Op o5.h2.Text o5.h2.Args))) .fail))) (rt Js o5.h2))))))))) (.as (decide (r1 < 9)) (Jd a0.A (zi 3) fun r12 => (.as (r12 == 2) (Jd a0.B (zi 2) fun r13 => (.yes (decide ((zi 2) ≠ 0)) (Jd (w64 (Int.tdiv a0.B (zi 2))) (zi 4) fun r14 => (.rows [[xi (-1 : Int), xi (zi 1), xi r13, xs s_, .sl (QK ([] : List Qa))], [xi (-1 : Int), xi (zi 1), xi r14, xs s_, .sl (QK ([] : List Qa))]] (Qi [(Qc.mk (-1 : Int) (Qa.mk (zi 1) r13 s_ ([] : List Qa))), (Qc.mk (-1 : Int) (Qa.mk (zi 1) r14 s_ ([] : List Qa)))]) (VH fun r15 => (Jd a0.B (zi 4) fun r16 => (.as (decide (0 ≤ r16)) (.row ((Qg r15)[(Int.toNat r16)]?) (r15[(Int.toNat r16)]?) QW fun (e17 : ByteArray) => (.rows [[xi (-1 : Int), xi (zi 2), xi i0, xs e17, .sl (QK ([] : List Qa))]] (Qi [(Qc.mk (-1 : Int) (Qa.mk (zi 2) i0 e17 ([] : List Qa)))]) (.yes (decide ((Qi [(Qc.mk (-1 : Int) (Qa.mk (zi 2) i0 e17 ([] : List Qa)))]).all (fun r => r.length == 5) = true)) (.ask (decide (((Qi [(Qc.mk (-1 : Int) (Qa.mk (zi 1) r13 s_ ([] : List Qa))), (Qc.mk (-1 : Int) (Qa.mk (zi 1) r14 s_ ([] : List Qa)))]).length + (Qi [(Qc.mk (-1 : Int) (Qa.mk (zi 2) i0 e17 ([] : List Qa)))]).length) * 64 ≤ most)) (decide (([(Qc.mk (-1 : Int) (Qa.mk (zi 1) r13 s_ ([] : List Qa))), (Qc.mk (-1 : Int) (Qa.mk (zi 1) r14 s_ ([] : List Qa)))].length + [(Qc.mk (-1 : Int) (Qa.mk (zi 2) i0 e17 ([] : List Qa)))].length) * 64 ≤ most)) (.rows ((Qi [(Qc.mk (-1 : Int) (Qa.mk (zi 1) r13 s_ ([] : List Qa))), (Qc.mk (-1 : Int) (Qa.mk (zi 1) r14 s_ ([] : List Qa)))]) ++ (Qi [(Qc.mk (-1 : Int) (Qa.mk (zi 2) i0 e17 ([] : List Qa)))])) (Qi ([(Qc.mk (-1 : Int) (Qa.mk (zi 1) r13 s_ ([] : List Qa))), (Qc.mk (-1 : Int) (Qa.mk (zi 1) r14 s_ ([] : List Qa)))] ++ [(Qc.mk (-1 : Int) (Qa.mk (zi 2) i0 e17 ([] : List Qa)))])) (.as a0.Label (yesN 3 a0.Label (.yes true (VH fun r18 => (Jd a0.B (zi 4) fun r19 => (.as (decide (0 ≤ r19)) (.row ((Qg r18)[(Int.toNat r19)]?) (r18[(Int.toNat r19)]?) QW fun (e20 : ByteArray) => (rt Js (Qb.mk (zi 1) e20 (zi 2) r12 s_ ([(Qc.mk (-1 : Int) (Qa.mk (zi 1) r13 s_ ([] : List Qa))), (Qc.mk (-1 : Int) (Qa.mk (zi 1) r14 s_ ([] : List Qa)))] ++ [(Qc.mk (-1 : Int) (Qa.mk (zi 2) i0 e17 ([] : List Qa)))])))) .fail))))) (noN 3 a0.Label (.no false (rt Js (Qb.mk (zi 1) s_ (zi 2) r12 s_ ([(Qc.mk (-1 : Int) (Qa.mk (zi 1) r13 s_ ([] : List Qa))), (Qc.mk (-1 : Int) (Qa.mk (zi 1) r14 s_ ([] : List Qa)))] ++ [(Qc.mk (-1 : Int) (Qa.mk (zi 2) i0 e17 ([] : List Qa)))]))))))) .fail)))) .fail))))))) (VH fun r21 => (Jd a0.B (zi 4) fun r22 => (.as (decide (0 ≤ r22)) (.row ((Qg r21)[(Int.toNat r22)]?) (r21[(Int.toNat r22)]?) QW fun (e23 : ByteArray) => (.rows [[xi (-1 : Int), xi (zi 2), xi i0, xs e23, .sl (QK ([] : List Qa))]] (Qi [(Qc.mk (-1 : Int) (Qa.mk (zi 2) i0 e23 ([] : List Qa)))]) (.yes (decide ((Qi [(Qc.mk (-1 : Int) (Qa.mk (zi 2) i0 e23 ([] : List Qa)))]).all (fun r => r.length == 5) = true)) (.ask (decide (((Qi ([] : List Qc)).length + (Qi [(Qc.mk (-1 : Int) (Qa.mk (zi 2) i0 e23 ([] : List Qa)))]).length) * 64 ≤ most)) (decide ((([] : List Qc).length + [(Qc.mk (-1 : Int) (Qa.mk (zi 2) i0 e23 ([] : List Qa)))].length) * 64 ≤ most)) (.rows ((Qi ([] : List Qc)) ++ (Qi [(Qc.mk (-1 : Int) (Qa.mk (zi 2) i0 e23 ([] : List Qa)))])) (Qi (([] : List Qc) ++ [(Qc.mk (-1 : Int) (Qa.mk (zi 2) i0 e23 ([] : List Qa)))])) (.as a0.Label (yesN 3 a0.Label (.yes true (VH fun r24 => (Jd a0.B (zi 4) fun r25 => (.as (decide (0 ≤ r25)) (.row ((Qg r24)[(Int.toNat r25)]?) (r24[(Int.toNat r25)]?) QW fun (e26 : ByteArray) => (rt Js (Qb.mk (zi 1) e26 (zi 2) r12 s_ (([] : List Qc) ++ [(Qc.mk (-1 : Int) (Qa.mk (zi 2) i0 e23 ([] : List Qa)))])))) .fail))))) (noN 3 a0.Label (.no false (rt Js (Qb.mk (zi 1) s_ (zi 2) r12 s_ (([] : List Qc) ++ [(Qc.mk (-1 : Int) (Qa.mk (zi 2) i0 e23 ([] : List Qa)))]))))))) .fail)))) .fail))))) (.as (decide (r1 < 12)) (Qlo a0 (w64 ((w64 ((zi 3) + r1)) - 9)) fun r27 => (.as a0.Label (yesN 3 a0.Label (.yes true (VH fun r28 => (Jd a0.B (zi 4) fun r29 => (.as (decide (0 ≤ r29)) (.row ((Qg r28)[(Int.toNat r29)]?) (r28[(Int.toNat r29)]?) QW fun (e30 : ByteArray) => (rt Js (Qb.mk r27.Line e30 r27.Kind r27.Op r27.Text r27.Args))) .fail))))) (noN 3 a0.Label (.as (r27.Kind == 0) (VH fun r31 => (Jd a0.B (zi 4) fun r32 => (.as (decide (0 ≤ r32)) (.row ((Qg r31)[(Int.toNat r32)]?) (r31[(Int.toNat r32)]?) QW fun (e33 : ByteArray) => (rt Js (Qb.mk r27.Line e33 r27.Kind r27.Op r27.Text r27.Args))) .fail))) (rt Js r27))))) (.as (r1 == 12) (.rows [[xs s_], [xs s_hi], [xs UW], [xs WY], [xs F5]] (Qg [s_, s_hi, UW, WY, F5]) (Jd a0.A (zi 5) fun r34 => (.ask (in1 r34 (((Qg [s_, s_hi, UW, WY, F5]).length : Nat) : Int)) (in1 r34 (([s_, s_hi, UW, WY, F5].length : Nat) : Int)) (.row ((Qg [s_, s_hi, UW, WY, F5])[(Int.toNat r34)]?) ([s_, s_hi, UW, WY, F5][(Int.toNat r34)]?) QW fun (e35 : ByteArray) => (.as a0.Label (yesN 3 a0.Label (.yes true (VH fun r36 => (Jd a0.B (zi 4) fun r37 => (.as (decide (0 ≤ r37)) (.row ((Qg r36)[(Int.toNat r37)]?) (r36[(Int.toNat r37)]?) QW fun (e38 : ByteArray) => (rt Js (Qb.mk (zi 1) e38 (zi 6) i0 e35 ([] : List Qc)))) .fail))))) (noN 3 a0.Label (.no false (rt Js (Qb.mk (zi 1) s_ (zi 6) i0 e35 ([] : List Qc))))))) .fail))) (.as (r1 == 13) (.rows [[xi (zi 1)], [xi (zi 2)], [xi (zi 4)], [xi (zi 8)], [xi (zi 16)], [xi (zi 3)]] (Qy [(zi 1), (zi 2), (zi 4), (zi 8), (zi 16), (zi 3)]) (Jd a0.A (zi 6) fun r39 => (.ask (in1 r39 (((Qy [(zi 1), (zi 2), (zi 4), (zi 8), (zi 16), (zi 3)]).length : Nat) : Int)) (in1 r39 (([(zi 1), (zi 2), (zi 4), (zi 8), (zi 16), (zi 3)].length : Nat) : Int)) (.row ((Qy [(zi 1), (zi 2), (zi 4), (zi 8), (zi 16), (zi 3)])[(Int.toNat r39)]?) ([(zi 1), (zi 2), (zi 4), (zi 8), (zi 16), (zi 3)][(Int.toNat r39)]?) WW fun (e40 : Int) => (.rows [[xi (-1 : Int), xi (zi 1), xi e40, xs s_, .sl (QK ([] : List Qa))]] (Qi [(Qc.mk (-1 : Int) (Qa.mk (zi 1) e40 s_ ([] : List Qa)))]) (.as a0.Label (yesN 3 a0.Label (.yes true (VH fun r41 => (Jd a0.B (zi 4) fun r42 => (.as (decide (0 ≤ r42)) (.row ((Qg r41)[(Int.toNat r42)]?) (r41[(Int.toNat r42)]?) QW fun (e43 : ByteArray) => (rt Js (Qb.mk (zi 1) e43 (zi 7) i0 s_ [(Qc.mk (-1 : Int) (Qa.mk (zi 1) e40 s_ ([] : List Qa)))]))) .fail))))) (noN 3 a0.Label (.no false (rt Js (Qb.mk (zi 1) s_ (zi 7) i0 s_ [(Qc.mk (-1 : Int) (Qa.mk (zi 1) e40 s_ ([] : List Qa)))]))))))) .fail))) (.as (r1 == 14) (.rows [[xi i0], [xi (zi 2)], [xi (zi 100)], [xi (zi 250)], [xi (zi 252)], [xi (zi 254)], [xi (zi 256)], [xi (zi 7)]] (Qy [i0, (zi 2), (zi 100), (zi 250), (zi 252), (zi 254), (zi 256), (zi 7)]) (Jd a0.A (zi 8) fun r44 => (.ask (in1 r44 (((Qy [i0, (zi 2), (zi 100), (zi 250), (zi 252), (zi 254), (zi 256), (zi 7)]).length : Nat) : Int)) (in1 r44 (([i0, (zi 2), (zi 100), (zi 250), (zi 252), (zi 254), (zi 256), (zi 7)].length : Nat) : Int)) (.row ((Qy [i0, (zi 2), (zi 100), (zi 250), (zi 252), (zi 254), (zi 256), (zi 7)])[(Int.toNat r44)]?) ([i0, (zi 2), (zi 100), (zi 250), (zi 252), (zi 254), (zi 256), (zi 7)][(Int.toNat r44)]?) WW fun (e45 : Int) => (.rows [[xi (-1 : Int), xi (zi 1), xi e45, xs s_, .sl (QK ([] : List Qa))]] (Qi [(Qc.mk (-1 : Int) (Qa.mk (zi 1) e45 s_ ([] : List Qa)))]) (.as a0.Label (yesN 3 a0.Label (.yes true (VH fun r46 => (Jd a0.B (zi 4) fun r47 => (.as (decide (0 ≤ r47)) (.row ((Qg r46)[(Int.toNat r47)]?) (r46[(Int.toNat r47)]?) QW fun (e48 : ByteArray) => (rt Js (Qb.mk (zi 1) e48 (zi 8) i0 s_ [(Qc.mk (-1 : Int) (Qa.mk (zi 1) e45 s_ ([] : List Qa)))]))) .fail))))) (noN 3 a0.Label (.no false (rt Js (Qb.mk (zi 1) s_ (zi 8) i0 s_ [(Qc.mk (-1 : Int) (Qa.mk (zi 1) e45 s_ ([] : List Qa)))]))))))) .fail))) (.rows [[xs s_k], [xs G6], [xs s_x]] (Qg [s_k, G6, s_x]) (Jd a0.A (zi 3) fun r49 => (.ask (in1 r49 (((Qg [s_k, G6, s_x]).length : Nat) : Int)) (in1 r49 (([s_k, G6, s_x].length : Nat) : Int)) (.row ((Qg [s_k, G6, s_x])[(Int.toNat r49)]?) ([s_k, G6, s_x][(Int.toNat r49)]?) QW fun (e50 : ByteArray) => (Qjm a0.E fun r51 => (.rows [[xi (-1 : Int), xi r51.Kind, xi r51.N, xs r51.Name, .sl (QK r51.L)]] (Qi [(Qc.mk (-1 : Int) r51)]) (.as a0.Label (yesN 3 a0.Label (.yes true (VH fun r52 => (Jd a0.B (zi 4) fun r53 => (.as (decide (0 ≤ r53)) (.row ((Qg r52)[(Int.toNat r53)]?) (r52[(Int.toNat r53)]?) QW fun (e54 : ByteArray) => (rt Js (Qb.mk (zi 1) e54 (zi 9) i0 e50 [(Qc.mk (-1 : Int) r51)]))) .fail))))) (noN 3 a0.Label (.no false (rt Js (Qb.mk (zi 1) s_ (zi 9) i0 e50 [(Qc.mk (-1 : Int) r51)])))))))) .fail))))))))))
theorem W7.ok {a0 : QB} {r : Qb} (h : W7 a0 = some r) : ww 25 [.agg (V9 a0)] [] = some (Js r) := by
 refine fnP (QmW a0) ?_ h
 exact fun r1 h => ⟨QG.ok h, ⟨rfl, fun q0 => fun r2 h => ⟨QG.ok h, fun r3 h => ⟨XE.ok h, fun r4 h => ⟨We.ok h, fun o5 h => ⟨VL.ok h, ⟨rfl, fun q1 => Qj 3 (q1) (⟨rfl, fun r6 h => ⟨JA.ok h, fun r7 h => ⟨QG.ok h, ⟨rfl, fun q2 => fun e8 h => ⟨QO h, rfl⟩, fun q2 => trivial⟩⟩⟩⟩), fun q1 => noN_ok 3 (q1) (⟨rfl, fun q2 => fun r9 h => ⟨JA.ok h, fun r10 h => ⟨QG.ok h, ⟨rfl, fun q3 => fun e11 h => ⟨QO h, rfl⟩, fun q3 => trivial⟩⟩⟩, fun q2 => rfl⟩)⟩⟩⟩⟩⟩, fun q0 => ⟨rfl, fun q1 => fun r12 h => ⟨QG.ok h, ⟨rfl, fun q2 => fun r13 h => ⟨QG.ok h, ⟨rfl, fun r14 h => ⟨QG.ok h, ⟨(JE [(Qc.mk (-1 : Int) (Qa.mk (1 : Int) r13 s_ ([] : List Qa))), (Qc.mk (-1 : Int) (Qa.mk (1 : Int) r14 s_ ([] : List Qa)))]), fun r15 h => ⟨JA.ok h, fun r16 h => ⟨QG.ok h, ⟨rfl, fun q3 => fun e17 h => ⟨QO h, ⟨(JE [(Qc.mk (-1 : Int) (Qa.mk (2 : Int) (0 : Int) e17 ([] : List Qa)))]), ⟨(decide_eq_true (V8 _)), ⟨(by rw [Jf, Jf]), fun q4 => ⟨(U8 _ _), ⟨rfl, fun q5 => Qj 3 (q5) (⟨rfl, fun r18 h => ⟨JA.ok h, fun r19 h => ⟨QG.ok h, ⟨rfl, fun q6 => fun e20 h => ⟨QO h, rfl⟩, fun q6 => trivial⟩⟩⟩⟩), fun q5 => noN_ok 3 (q5) (⟨rfl, rfl⟩)⟩⟩, fun q4 => trivial⟩⟩⟩⟩, fun q3 => trivial⟩⟩⟩⟩⟩⟩⟩, fun q2 => fun r21 h => ⟨JA.ok h, fun r22 h => ⟨QG.ok h, ⟨rfl, fun q3 => fun e23 h => ⟨QO h, ⟨(JE [(Qc.mk (-1 : Int) (Qa.mk (2 : Int) (0 : Int) e23 ([] : List Qa)))]), ⟨(decide_eq_true (V8 _)), ⟨(by rw [Jf, Jf]), fun q4 => ⟨(U8 _ _), ⟨rfl, fun q5 => Qj 3 (q5) (⟨rfl, fun r24 h => ⟨JA.ok h, fun r25 h => ⟨QG.ok h, ⟨rfl, fun q6 => fun e26 h => ⟨QO h, rfl⟩, fun q6 => trivial⟩⟩⟩⟩), fun q5 => noN_ok 3 (q5) (⟨rfl, rfl⟩)⟩⟩, fun q4 => trivial⟩⟩⟩⟩, fun q3 => trivial⟩⟩⟩⟩⟩, fun q1 => ⟨rfl, fun q2 => fun r27 h => ⟨Xw.ok h, ⟨rfl, fun q3 => Qj 3 (q3) (⟨rfl, fun r28 h => ⟨JA.ok h, fun r29 h => ⟨QG.ok h, ⟨rfl, fun q4 => fun e30 h => ⟨QO h, rfl⟩, fun q4 => trivial⟩⟩⟩⟩), fun q3 => noN_ok 3 (q3) (⟨rfl, fun q4 => fun r31 h => ⟨JA.ok h, fun r32 h => ⟨QG.ok h, ⟨rfl, fun q5 => fun e33 h => ⟨QO h, rfl⟩, fun q5 => trivial⟩⟩⟩, fun q4 => rfl⟩)⟩⟩, fun q2 => ⟨rfl, fun q3 => ⟨(QP [s_, s_hi, UW, WY, F5]), fun r34 h => ⟨QG.ok h, ⟨(by rw [Qo]), fun q4 => fun e35 h => ⟨QO h, ⟨rfl, fun q5 => Qj 3 (q5) (⟨rfl, fun r36 h => ⟨JA.ok h, fun r37 h => ⟨QG.ok h, ⟨rfl, fun q6 => fun e38 h => ⟨QO h, rfl⟩, fun q6 => trivial⟩⟩⟩⟩), fun q5 => noN_ok 3 (q5) (⟨rfl, rfl⟩)⟩⟩, fun q4 => trivial⟩⟩⟩, fun q3 => ⟨rfl, fun q4 => ⟨(JP [(1 : Int), (2 : Int), (4 : Int), (8 : Int), (16 : Int), (3 : Int)]), fun r39 h => ⟨QG.ok h, ⟨(by rw [JU]), fun q5 => fun e40 h => ⟨Vc h, ⟨(JE [(Qc.mk (-1 : Int) (Qa.mk (1 : Int) e40 s_ ([] : List Qa)))]), ⟨rfl, fun q6 => Qj 3 (q6) (⟨rfl, fun r41 h => ⟨JA.ok h, fun r42 h => ⟨QG.ok h, ⟨rfl, fun q7 => fun e43 h => ⟨QO h, rfl⟩, fun q7 => trivial⟩⟩⟩⟩), fun q6 => noN_ok 3 (q6) (⟨rfl, rfl⟩)⟩⟩⟩, fun q5 => trivial⟩⟩⟩, fun q4 => ⟨rfl, fun q5 => ⟨(JP [(0 : Int), (2 : Int), (100 : Int), (250 : Int), (252 : Int), (254 : Int), (256 : Int), (7 : Int)]), fun r44 h => ⟨QG.ok h, ⟨(by rw [JU]), fun q6 => fun e45 h => ⟨Vc h, ⟨(JE [(Qc.mk (-1 : Int) (Qa.mk (1 : Int) e45 s_ ([] : List Qa)))]), ⟨rfl, fun q7 => Qj 3 (q7) (⟨rfl, fun r46 h => ⟨JA.ok h, fun r47 h => ⟨QG.ok h, ⟨rfl, fun q8 => fun e48 h => ⟨QO h, rfl⟩, fun q8 => trivial⟩⟩⟩⟩), fun q7 => noN_ok 3 (q7) (⟨rfl, rfl⟩)⟩⟩⟩, fun q6 => trivial⟩⟩⟩, fun q5 => ⟨(QP [s_k, G6, s_x]), fun r49 h => ⟨QG.ok h, ⟨(by rw [Qo]), fun q6 => fun e50 h => ⟨QO h, fun r51 h => ⟨Ya.ok h, ⟨(JE [(Qc.mk (-1 : Int) r51)]), ⟨rfl, fun q7 => Qj 3 (q7) (⟨rfl, fun r52 h => ⟨JA.ok h, fun r53 h => ⟨QG.ok h, ⟨rfl, fun q8 => fun e54 h => ⟨QO h, rfl⟩, fun q8 => trivial⟩⟩⟩⟩), fun q7 => noN_ok 3 (q7) (⟨rfl, rfl⟩)⟩⟩⟩⟩, fun q6 => trivial⟩⟩⟩⟩⟩⟩⟩⟩⟩⟩
noncomputable abbrev Qfs {ρ R : Type} (a0 : QB) (k : Qb → Tr ρ R) : Tr ρ R := .call (ww 25 [.agg (V9 a0)] []) (W7 a0) Js k
abbrev Qn5 := Int → Option ByteArray
def Qg5 (C0 : QeE) (a0 : Int) : Option ByteArray := ((C0 a0 h_20).bind fun r1 => (some r1.1.Name))
noncomputable def Gm : Qn5 := Qg5 X0
theorem Gm.eq (a0 : Int) : Gm a0 = Qg5 X0 a0 := rfl
noncomputable def QrZ (a0 : Int) : Tr ByteArray AH := (QgV a0 h_20 fun r1 => (rt Qk r1.1.Name))
theorem Gm.ok {a0 : Int} {r : ByteArray} (h : Gm a0 = some r) : ww 38 [xi a0] [] = some (Qk r) := by
 refine fnP (QrZ a0) ?_ h
 exact fun r1 h => ⟨X0.ok h, rfl⟩
noncomputable abbrev Qr0 {ρ R : Type} (a0 : Int) (k : ByteArray → Tr ρ R) : Tr ρ R := .call (ww 38 [xi a0] []) (Gm a0) Qk k
abbrev Qn6 := Qb → Option ByteArray
def Qg6 (C0 : Qn5) (a0 : Qb) : Option ByteArray := (bif (a0.Kind == 1) then ((C0 a0.Op).bind fun r1 => (some r1)) else (bif (a0.Kind == 2) then (bif (decide (0 ≤ a0.Op ∧ a0.Op < (([s_b, s_bl, s_bc].length : Nat) : Int))) then (([s_b, s_bl, s_bc][(Int.toNat a0.Op)]?).bind fun e2 => (some e2)) else none) else (bif (a0.Kind == 3) then (some Q6) else (bif (a0.Kind == 4) then (some Q7) else (bif (a0.Kind == 5) then (some Q8) else (bif (a0.Kind == 6) then (some J2) else (bif (a0.Kind == 7) then (some Q0) else (bif (a0.Kind == 8) then (some Q1) else (some VB)))))))))
noncomputable def Zv : Qn6 := Qg6 Gm
theorem Zv.eq (a0 : Qb) : Zv a0 = Qg6 Gm a0 := rfl
noncomputable def Qr1 (a0 : Qb) : Tr ByteArray AH := (.as (a0.Kind == 1) (Qr0 a0.Op fun r1 => (rt Qk r1)) (.as (a0.Kind == 2) (.rows [[xs s_b], [xs s_bl], [xs s_bc]] (Qg [s_b, s_bl, s_bc]) (.ask (in1 a0.Op (((Qg [s_b, s_bl, s_bc]).length : Nat) : Int)) (in1 a0.Op (([s_b, s_bl, s_bc].length : Nat) : Int)) (.row ((Qg [s_b, s_bl, s_bc])[(Int.toNat a0.Op)]?) ([s_b, s_bl, s_bc][(Int.toNat a0.Op)]?) QW fun (e2 : ByteArray) => (rt Qk e2)) .fail)) (.as (a0.Kind == 3) (rt Qk Q6) (.as (a0.Kind == 4) (rt Qk Q7) (.as (a0.Kind == 5) (rt Qk Q8) (.as (a0.Kind == 6) (rt Qk J2) (.as (a0.Kind == 7) (rt Qk Q0) (.as (a0.Kind == 8) (rt Qk Q1) (rt Qk VB)))))))))
theorem Zv.ok {a0 : Qb} {r : ByteArray} (h : Zv a0 = some r) : ww 59 [.agg (U1 a0)] [] = some (Qk r) := by
 refine fnP (Qr1 a0) ?_ h
 exact ⟨rfl, fun q0 => fun r1 h => ⟨Gm.ok h, rfl⟩, fun q0 => ⟨rfl, fun q1 => ⟨(QP [s_b, s_bl, s_bc]), ⟨(by rw [Qo]), fun q2 => fun e2 h => ⟨QO h, rfl⟩, fun q2 => trivial⟩⟩, fun q1 => ⟨rfl, fun q2 => rfl, fun q2 => ⟨rfl, fun q3 => rfl, fun q3 => ⟨rfl, fun q4 => rfl, fun q4 => ⟨rfl, fun q5 => rfl, fun q5 => ⟨rfl, fun q6 => rfl, fun q6 => ⟨rfl, fun q7 => rfl, fun q7 => rfl⟩⟩⟩⟩⟩⟩⟩⟩
noncomputable abbrev Qg7 {ρ R : Type} (a0 : Qb) (k : ByteArray → Tr ρ R) : Tr ρ R := .call (ww 59 [.agg (U1 a0)] []) (Zv a0) Qk k
abbrev Zw := Qa → Option ByteArray
abbrev QmX (c : Zw) : Prop := ∀ (a0 : Qa) (r : ByteArray), c a0 = some r → ww 103 [.agg (QZ a0)] [] = some (Qk r)
abbrev Fu := Qa → Option ByteArray
abbrev Qs7 (c : Fu) : Prop := ∀ (a0 : Qa) (r : ByteArray), c a0 = some r → ww 60 [.agg (QZ a0)] [] = some (Qk r)
noncomputable abbrev So {ρ R : Type} (c : Zw) (a0 : Qa) (k : ByteArray → Tr ρ R) : Tr ρ R := .call (ww 103 [.agg (QZ a0)] []) (c a0) Qk k
noncomputable abbrev Qg8 {ρ R : Type} (c : Fu) (a0 : Qa) (k : ByteArray → Tr ρ R) : Tr ρ R := .call (ww 60 [.agg (QZ a0)] []) (c a0) Qk k
def Y5 (C0 : Fu) (a0 : Qa) : Option ByteArray := (bif ((((a0.L.length) : Nat) : Int) == 2) then ((C0 a0).bind fun r1 => (bif (decide (((h_28.size + r1.size : Nat) : Int) ≤ IntKind.i64.max)) then (bif (decide ((((h_28 ++ r1).size + h_29.size : Nat) : Int) ≤ IntKind.i64.max)) then (some ((h_28 ++ r1) ++ h_29)) else none) else none)) else ((C0 a0).bind fun r2 => (some r2)))
theorem Qd5 {C0 : Nat → Fu} {D0 : Fu} (H0 : Cv1 C0 D0) (a0 : Qa) : Cv (fun k => Y5 (C0 k) a0) (Y5 D0 a0) := by
 unfold Y5
 exact .cond (.bind (H0 _) fun r1 => by exact .const _) (.bind (H0 _) fun r2 => by exact .const _)
noncomputable def Qlp (C0 : Fu) (a0 : Qa) : Tr ByteArray AH := (.num ((QK a0.L).length) (a0.L.length) (.as ((((a0.L.length) : Nat) : Int) == 2) (Qg8 C0 a0 fun r1 => (.as (decide (((h_28.size + r1.size : Nat) : Int) ≤ IntKind.i64.max)) (.as (decide ((((h_28 ++ r1).size + h_29.size : Nat) : Int) ≤ IntKind.i64.max)) (rt Qk ((h_28 ++ r1) ++ h_29)) .fail) .fail)) (Qg8 C0 a0 fun r2 => (rt Qk r2))))
def ZL (C0 : XU) (C1 : Zw) (C2 : Qb3) (a0 : Qa) : Option ByteArray := (bif (a0.Kind == 1) then ((C0 a0.N).bind fun r1 => (some r1)) else (bif (a0.Kind == 2) then (some a0.Name) else (bif (a0.Kind == 3) then (some h_2e) else (bif (a0.Kind == 4) then ((a0.L[(Int.toNat 0)]?).bind fun e2 => ((C1 e2).bind fun r3 => (bif (decide (((h_2d.size + r3.size : Nat) : Int) ≤ IntKind.i64.max)) then (some (h_2d ++ r3)) else none))) else ((C2 a0.Kind).bind fun r4 => ((a0.L[(Int.toNat 0)]?).bind fun e5 => ((C1 e5).bind fun r6 => (bif (decide (((r6.size + h_20.size : Nat) : Int) ≤ IntKind.i64.max)) then (bif (decide ((((r6 ++ h_20).size + r4.1.size : Nat) : Int) ≤ IntKind.i64.max)) then (bif (decide (((((r6 ++ h_20) ++ r4.1).size + h_20.size : Nat) : Int) ≤ IntKind.i64.max)) then ((a0.L[(Int.toNat 1)]?).bind fun e7 => ((C1 e7).bind fun r8 => (bif (decide ((((((r6 ++ h_20) ++ r4.1) ++ h_20).size + r8.size : Nat) : Int) ≤ IntKind.i64.max)) then (some ((((r6 ++ h_20) ++ r4.1) ++ h_20) ++ r8)) else none))) else none) else none) else none))))))))
theorem Ql2 {C0 : Nat → XU} {D0 : XU} (H0 : Cv1 C0 D0) {C1 : Nat → Zw} {D1 : Zw} (H1 : Cv1 C1 D1) {C2 : Nat → Qb3} {D2 : Qb3} (H2 : Cv1 C2 D2) (a0 : Qa) : Cv (fun k => ZL (C0 k) (C1 k) (C2 k) a0) (ZL D0 D1 D2 a0) := by
 unfold ZL
 exact .cond (.bind (H0 _) fun r1 => by exact .const _) (.cond cst (.cond cst (.cond (.bind (.const _) fun e2 => .bind (H1 _) fun r3 => by exact .const _) (.bind (H2 _) fun r4 => .bind (.const _) fun e5 => .bind (H1 _) fun r6 => .cond (.cond (.cond (.bind (.const _) fun e7 => .bind (H1 _) fun r8 => by exact .const _) cst) cst) cst))))
noncomputable def Qr2 (C0 : Zw) (a0 : Qa) : Tr ByteArray AH := (.as (a0.Kind == 1) (SK a0.N fun r1 => (rt Qk r1)) (.as (a0.Kind == 2) (rt Qk a0.Name) (.as (a0.Kind == 3) (rt Qk h_2e) (.as (a0.Kind == 4) (.yes (decide (0 ≤ i0)) (.row ((QK a0.L)[(Int.toNat 0)]?) (a0.L[(Int.toNat 0)]?) QZ fun (e2 : Qa) => (So C0 e2 fun r3 => (.as (decide (((h_2d.size + r3.size : Nat) : Int) ≤ IntKind.i64.max)) (rt Qk (h_2d ++ r3)) .fail)))) (Ql1 a0.Kind fun r4 => (.yes (decide (0 ≤ i0)) (.row ((QK a0.L)[(Int.toNat 0)]?) (a0.L[(Int.toNat 0)]?) QZ fun (e5 : Qa) => (So C0 e5 fun r6 => (.as (decide (((r6.size + h_20.size : Nat) : Int) ≤ IntKind.i64.max)) (.as (decide ((((r6 ++ h_20).size + r4.1.size : Nat) : Int) ≤ IntKind.i64.max)) (.as (decide (((((r6 ++ h_20) ++ r4.1).size + h_20.size : Nat) : Int) ≤ IntKind.i64.max)) (.yes (decide (0 ≤ (zi 1))) (.row ((QK a0.L)[(Int.toNat 1)]?) (a0.L[(Int.toNat 1)]?) QZ fun (e7 : Qa) => (So C0 e7 fun r8 => (.as (decide ((((((r6 ++ h_20) ++ r4.1) ++ h_20).size + r8.size : Nat) : Int) ≤ IntKind.i64.max)) (rt Qk ((((r6 ++ h_20) ++ r4.1) ++ h_20) ++ r8)) .fail)))) .fail) .fail) .fail)))))))))
mutual
noncomputable def UK.s : Nat → Qa → Option ByteArray
 | 0, _ => none
 | k + 1, a0 => Y5 (fun a0 => Un.s k a0) a0
termination_by structural k => k
noncomputable def Un.s : Nat → Qa → Option ByteArray
 | 0, _ => none
 | k + 1, a0 => ZL Jo (fun a0 => UK.s k a0) Y4 a0
termination_by structural k => k
end
theorem Qb5 : ∀ (k : Nat), (QmX (UK.s k)) ∧ (Qs7 (Un.s k))
 | 0 => ⟨fun _ _ h => (nomatch h), fun _ _ h => (nomatch h)⟩
 | k + 1 => by
  obtain ⟨i_r3_bracketed, i_r3_Text⟩ := Qb5 k
  exact ⟨fun a0 r h => by
    refine fnP (Qlp (Un.s k) a0) ?_ h
    exact ⟨(Ey _), ⟨rfl, fun q0 => fun r1 h => ⟨i_r3_Text _ _ h, ⟨rfl, fun q1 => ⟨rfl, fun q2 => rfl, fun q2 => trivial⟩, fun q1 => trivial⟩⟩, fun q0 => fun r2 h => ⟨i_r3_Text _ _ h, rfl⟩⟩⟩,
   fun a0 r h => by
    refine fnP (Qr2 (UK.s k) a0) ?_ h
    exact ⟨rfl, fun q0 => fun r1 h => ⟨Jo.ok h, rfl⟩, fun q0 => ⟨rfl, fun q1 => rfl, fun q1 => ⟨rfl, fun q2 => rfl, fun q2 => ⟨rfl, fun q3 => ⟨rfl, fun e2 h => ⟨Z7 h, fun r3 h => ⟨i_r3_bracketed _ _ h, ⟨rfl, fun q4 => rfl, fun q4 => trivial⟩⟩⟩⟩, fun q3 => fun r4 h => ⟨Y4.ok h, ⟨rfl, fun e5 h => ⟨Z7 h, fun r6 h => ⟨i_r3_bracketed _ _ h, ⟨rfl, fun q4 => ⟨rfl, fun q5 => ⟨rfl, fun q6 => ⟨rfl, fun e7 h => ⟨Z7 h, fun r8 h => ⟨i_r3_bracketed _ _ h, ⟨rfl, fun q7 => rfl, fun q7 => trivial⟩⟩⟩⟩, fun q6 => trivial⟩, fun q5 => trivial⟩, fun q4 => trivial⟩⟩⟩⟩⟩⟩⟩⟩⟩⟩
theorem EU : ∀ (k : Nat), (∀ (a0 : Qa), Le (UK.s k a0) (UK.s (k + 1) a0)) ∧ (∀ (a0 : Qa), Le (Un.s k a0) (Un.s (k + 1) a0))
 | 0 => ⟨fun _ _ h => (nomatch h), fun _ _ h => (nomatch h)⟩
 | k + 1 => by
  obtain ⟨i_r3_bracketed, i_r3_Text⟩ := EU k
  exact ⟨fun a0 => (Qd5 (tw1 i_r3_Text) a0).1 0,
   fun a0 => (Ql2 ks1 (tw1 i_r3_bracketed) ks1 a0).1 0⟩
noncomputable def UK (a0 : Qa) : Option ByteArray := lim fun k => UK.s k a0
theorem UK.cv (a0 : Qa) : Cv (fun k => UK.s k a0) (UK a0) := .lim fun k => (EU k).1 a0
noncomputable def Un (a0 : Qa) : Option ByteArray := lim fun k => Un.s k a0
theorem Un.cv (a0 : Qa) : Cv (fun k => Un.s k a0) (Un a0) := .lim fun k => (EU k).2 a0
theorem Un.ok {a0 : Qa} {r : ByteArray} (h : Un a0 = some r) : ww 60 [.agg (QZ a0)] [] = some (Qk r) := let ⟨k, e⟩ := ((Un.cv a0).2 r).1 h; (Qb5 k).2 a0 _ e
theorem UK.eq (a0 : Qa) : UK a0 = Y5 Un a0 := Cv.uniq (UK.cv a0).shift (Qd5 Un.cv a0)
theorem Un.eq (a0 : Qa) : Un a0 = ZL Jo UK Y4 a0 := Cv.uniq (Un.cv a0).shift (Ql2 ks1 UK.cv ks1 a0)
noncomputable abbrev Qr3 {ρ R : Type} (a0 : Qa) (k : ByteArray → Tr ρ R) : Tr ρ R := Qg8 Un a0 k
abbrev Qn7 := Qb → Option ByteArray
structure QI where
 x3 : ByteArray
 x5 : Int
 h0 : Qb
 r1 : (List ByteArray)
structure Jr where
 x3 : ByteArray
 r0 : (List ByteArray)
def Pt (a : QI) : St := { n := 101, nx := 2, env := [(1, .ptr 0 0), (3, xs a.x3), (4, .arr 1), (5, xi a.x5)], heap := [(0, .box [0, 0, 0, 0, 0, 5] (U1 a.h0)), (1, .arr true 1 (Qg a.r1))] }
def Qb6 (a : Jr) : Ex × St := (.exit 0, { n := 101, nx := 1, env := [(3, xs a.x3), (4, .arr 0)], heap := [(0, .arr true 1 (Qg a.r0))] })
abbrev QiJ := QI → Option Jr
def Pu (C0 : XU) (C1 : Fu) (a : QI) : Option (QI ⊕ Jr) := (bif (decide (a.x5 < (((a.h0.Args.length) : Nat) : Int))) then (bif (decide (0 ≤ a.x5)) then ((a.h0.Args[(Int.toNat a.x5)]?).bind fun e1 => (bif (decide (e1.Reg ≥ 0)) then ((a.h0.Args[(Int.toNat a.x5)]?).bind fun e2 => ((C0 e2.Reg).bind fun r3 => (bif (decide (((s_r.size + r3.size : Nat) : Int) ≤ IntKind.i64.max)) then (bif (decide ((a.r1.length + [(s_r ++ r3)].length) * 16 ≤ most)) then (some (.inl (QI.mk a.x3 (w64 (a.x5 + 1)) a.h0 (a.r1 ++ [(s_r ++ r3)])))) else none) else none))) else ((a.h0.Args[(Int.toNat a.x5)]?).bind fun e4 => ((C1 e4.E).bind fun r5 => (bif (decide ((a.r1.length + [r5].length) * 16 ≤ most)) then (some (.inl (QI.mk a.x3 (w64 (a.x5 + 1)) a.h0 (a.r1 ++ [r5])))) else none))))) else none) else (some (.inr (Jr.mk a.x3 a.r1))))
noncomputable def Jz : QiJ := loopW (Pu Jo Un)
theorem Jz.eq (a : QI) : Jz a = (Pu Jo Un a).bind (Sum.elim Jz some) := Ja _ _
noncomputable abbrev WE {ρ R : Type} (a : QI) (k0 : Jr → Tr ρ R) : Tr ρ R := .loop (loopAt pp 22 15) (Pt a) (Jz a) Qb6 k0
noncomputable def Qn8 (a : QI) : Tr (QI ⊕ Jr) XS := (.num ((Qi a.h0.Args).length) (a.h0.Args.length) (.as (decide (a.x5 < (((a.h0.Args.length) : Nat) : Int))) (let u126 := (decide (0 ≤ a.x5)); .as u126 (.row ((Qi a.h0.Args)[(Int.toNat a.x5)]?) (a.h0.Args[(Int.toNat a.x5)]?) Xi fun (e1 : Qc) => (.as (decide (e1.Reg ≥ 0)) (.yes u126 (.row ((Qi a.h0.Args)[(Int.toNat a.x5)]?) (a.h0.Args[(Int.toNat a.x5)]?) Xi fun (e2 : Qc) => (SK e2.Reg fun r3 => (.as (decide (((s_r.size + r3.size : Nat) : Int) ≤ IntKind.i64.max)) (.rows [[xs (s_r ++ r3)]] (Qg [(s_r ++ r3)]) (.yes (decide ((Qg [(s_r ++ r3)]).all (fun r => r.length == 1) = true)) (.ask (decide (((Qg a.r1).length + (Qg [(s_r ++ r3)]).length) * 16 ≤ most)) (decide ((a.r1.length + [(s_r ++ r3)].length) * 16 ≤ most)) (.rows ((Qg a.r1) ++ (Qg [(s_r ++ r3)])) (Qg (a.r1 ++ [(s_r ++ r3)])) (lf Pt (QI.mk a.x3 (w64 (a.x5 + 1)) a.h0 (a.r1 ++ [(s_r ++ r3)])))) .fail))) .fail)))) (.yes u126 (.row ((Qi a.h0.Args)[(Int.toNat a.x5)]?) (a.h0.Args[(Int.toNat a.x5)]?) Xi fun (e4 : Qc) => (Qr3 e4.E fun r5 => (.rows [[xs r5]] (Qg [r5]) (.yes (decide ((Qg [r5]).all (fun r => r.length == 1) = true)) (.ask (decide (((Qg a.r1).length + (Qg [r5]).length) * 16 ≤ most)) (decide ((a.r1.length + [r5].length) * 16 ≤ most)) (.rows ((Qg a.r1) ++ (Qg [r5])) (Qg (a.r1 ++ [r5])) (lf Pt (QI.mk a.x3 (w64 (a.x5 + 1)) a.h0 (a.r1 ++ [r5])))) .fail)))))))) .fail) (rx Qb6 (Jr.mk a.x3 a.r1))))
theorem Jz.ok {a : QI} {r : Jr} (h : Jz a = some r) : lw 0 22 (loopAt pp 22 15) (Pt a) = some (Qb6 r) := by
 refine lpP h Qn8 fun a => ?_
 exact ⟨(Jf _), ⟨rfl, fun q0 => ⟨rfl, fun q1 => fun e1 h => ⟨YC h, ⟨rfl, fun q2 => ⟨q1, fun e2 h => ⟨YC h, fun r3 h => ⟨Jo.ok h, ⟨rfl, fun q3 => ⟨(QP [(s_r ++ r3)]), ⟨(decide_eq_true (Uc _)), ⟨(by rw [Qo, Qo]), fun q4 => ⟨(U0 _ _), rfl⟩, fun q4 => trivial⟩⟩⟩, fun q3 => trivial⟩⟩⟩⟩, fun q2 => ⟨q1, fun e4 h => ⟨YC h, fun r5 h => ⟨Un.ok h, ⟨(QP [r5]), ⟨(decide_eq_true (Uc _)), ⟨(by rw [Qo, Qo]), fun q3 => ⟨(U0 _ _), rfl⟩, fun q3 => trivial⟩⟩⟩⟩⟩⟩⟩⟩, fun q1 => trivial⟩, fun q0 => rfl⟩⟩
structure QJ where
 x3 : ByteArray
 x6 : Int
 r0 : (List ByteArray)
def Pv (a : QJ) : St := { n := 101, nx := 1, env := [(3, xs a.x3), (4, .arr 0), (6, xi a.x6)], heap := [(0, .arr true 1 (Qg a.r0))] }
def Qb7 (a : ByteArray) : Ex × St := (.exit 2, { n := 101, nx := 0, env := [(3, xs a)], heap := [] })
abbrev QiK := QJ → Option ByteArray
def Eo (a : QJ) : Option (QJ ⊕ ByteArray) := (bif (decide (a.x6 < (((a.r0.length) : Nat) : Int))) then (bif (a.x6 == 0) then (bif (decide (((a.x3.size + h_20.size : Nat) : Int) ≤ IntKind.i64.max)) then (bif (decide (0 ≤ a.x6 ∧ a.x6 < ((a.r0.length : Nat) : Int))) then ((a.r0[(Int.toNat a.x6)]?).bind fun e1 => (bif (decide ((((a.x3 ++ h_20).size + e1.size : Nat) : Int) ≤ IntKind.i64.max)) then (some (.inl (QJ.mk ((a.x3 ++ h_20) ++ e1) (w64 (a.x6 + 1)) a.r0))) else none)) else none) else none) else (bif (decide (((a.x3.size + Qbm.size : Nat) : Int) ≤ IntKind.i64.max)) then (bif (decide (0 ≤ a.x6 ∧ a.x6 < ((a.r0.length : Nat) : Int))) then ((a.r0[(Int.toNat a.x6)]?).bind fun e2 => (bif (decide ((((a.x3 ++ Qbm).size + e2.size : Nat) : Int) ≤ IntKind.i64.max)) then (some (.inl (QJ.mk ((a.x3 ++ Qbm) ++ e2) (w64 (a.x6 + 1)) a.r0))) else none)) else none) else none)) else (some (.inr a.x3)))
noncomputable def Jt : QiK := loopW (Eo )
theorem Jt.eq (a : QJ) : Jt a = (Eo a).bind (Sum.elim Jt some) := Ja _ _
noncomputable abbrev WF {ρ R : Type} (a : QJ) (k0 : ByteArray → Tr ρ R) : Tr ρ R := .loop (loopAt pp 22 21) (Pv a) (Jt a) Qb7 k0
noncomputable def Qn9 (a : QJ) : Tr (QJ ⊕ ByteArray) XS := (.num ((Qg a.r0).length) (a.r0.length) (.as (decide (a.x6 < (((a.r0.length) : Nat) : Int))) (.as (a.x6 == 0) (.as (decide (((a.x3.size + h_20.size : Nat) : Int) ≤ IntKind.i64.max)) (.ask (in1 a.x6 (((Qg a.r0).length : Nat) : Int)) (in1 a.x6 ((a.r0.length : Nat) : Int)) (.row ((Qg a.r0)[(Int.toNat a.x6)]?) (a.r0[(Int.toNat a.x6)]?) QW fun (e1 : ByteArray) => (.as (decide ((((a.x3 ++ h_20).size + e1.size : Nat) : Int) ≤ IntKind.i64.max)) (lf Pv (QJ.mk ((a.x3 ++ h_20) ++ e1) (w64 (a.x6 + 1)) a.r0)) .fail)) .fail) .fail) (.as (decide (((a.x3.size + Qbm.size : Nat) : Int) ≤ IntKind.i64.max)) (.ask (in1 a.x6 (((Qg a.r0).length : Nat) : Int)) (in1 a.x6 ((a.r0.length : Nat) : Int)) (.row ((Qg a.r0)[(Int.toNat a.x6)]?) (a.r0[(Int.toNat a.x6)]?) QW fun (e2 : ByteArray) => (.as (decide ((((a.x3 ++ Qbm).size + e2.size : Nat) : Int) ≤ IntKind.i64.max)) (lf Pv (QJ.mk ((a.x3 ++ Qbm) ++ e2) (w64 (a.x6 + 1)) a.r0)) .fail)) .fail) .fail)) (rx Qb7 a.x3)))
theorem Jt.ok {a : QJ} {r : ByteArray} (h : Jt a = some r) : lw 0 22 (loopAt pp 22 21) (Pv a) = some (Qb7 r) := by
 refine lpP h Qn9 fun a => ?_
 exact ⟨(Qo _), ⟨rfl, fun q0 => ⟨rfl, fun q1 => ⟨rfl, fun q2 => ⟨(by rw [Qo]), fun q3 => fun e1 h => ⟨QO h, ⟨rfl, fun q4 => rfl, fun q4 => trivial⟩⟩, fun q3 => trivial⟩, fun q2 => trivial⟩, fun q1 => ⟨rfl, fun q2 => ⟨(by rw [Qo]), fun q3 => fun e2 h => ⟨QO h, ⟨rfl, fun q4 => rfl, fun q4 => trivial⟩⟩, fun q3 => trivial⟩, fun q2 => trivial⟩⟩, fun q0 => rfl⟩⟩
def Qg9 (C0 : Qn6) (L1 : QiJ) (L2 : QiK) (a0 : Qb) : Option ByteArray := (bif (!(eqS a0.Label s_)) then (bif (decide (((a0.Label.size + h_3a.size : Nat) : Int) ≤ IntKind.i64.max)) then (bif (a0.Kind == 0) then (some (a0.Label ++ h_3a)) else (bif (!(eqS (a0.Label ++ h_3a) s_)) then (bif (decide ((((a0.Label ++ h_3a).size + h_20.size : Nat) : Int) ≤ IntKind.i64.max)) then ((C0 a0).bind fun r1 => (bif (decide (((((a0.Label ++ h_3a) ++ h_20).size + r1.size : Nat) : Int) ≤ IntKind.i64.max)) then (bif (a0.Kind == 6) then (bif (decide (((h_22.size + a0.Text.size : Nat) : Int) ≤ IntKind.i64.max)) then (bif (decide ((((h_22 ++ a0.Text).size + h_22.size : Nat) : Int) ≤ IntKind.i64.max)) then (bif (decide ([((h_22 ++ a0.Text) ++ h_22)].length * 16 ≤ most)) then (bif (a0.Kind == 9) then (bif (decide (([((h_22 ++ a0.Text) ++ h_22)].length + [a0.Text].length) * 16 ≤ most)) then ((L1 (QI.mk (((a0.Label ++ h_3a) ++ h_20) ++ r1) (0 : Int) a0 ([((h_22 ++ a0.Text) ++ h_22)] ++ [a0.Text]))).bind (fun (o2 : Jr) => ((L2 (QJ.mk o2.x3 (0 : Int) o2.r0)).bind (fun (o3 : ByteArray) => (some o3))))) else none) else ((L1 (QI.mk (((a0.Label ++ h_3a) ++ h_20) ++ r1) (0 : Int) a0 [((h_22 ++ a0.Text) ++ h_22)])).bind (fun (o4 : Jr) => ((L2 (QJ.mk o4.x3 (0 : Int) o4.r0)).bind (fun (o5 : ByteArray) => (some o5)))))) else none) else none) else none) else (bif (a0.Kind == 9) then (bif (decide ([a0.Text].length * 16 ≤ most)) then ((L1 (QI.mk (((a0.Label ++ h_3a) ++ h_20) ++ r1) (0 : Int) a0 [a0.Text])).bind (fun (o6 : Jr) => ((L2 (QJ.mk o6.x3 (0 : Int) o6.r0)).bind (fun (o7 : ByteArray) => (some o7))))) else none) else ((L1 (QI.mk (((a0.Label ++ h_3a) ++ h_20) ++ r1) (0 : Int) a0 ([] : List ByteArray))).bind (fun (o8 : Jr) => ((L2 (QJ.mk o8.x3 (0 : Int) o8.r0)).bind (fun (o9 : ByteArray) => (some o9))))))) else none)) else none) else ((C0 a0).bind fun r10 => (bif (decide ((((a0.Label ++ h_3a).size + r10.size : Nat) : Int) ≤ IntKind.i64.max)) then (bif (a0.Kind == 6) then (bif (decide (((h_22.size + a0.Text.size : Nat) : Int) ≤ IntKind.i64.max)) then (bif (decide ((((h_22 ++ a0.Text).size + h_22.size : Nat) : Int) ≤ IntKind.i64.max)) then (bif (decide ([((h_22 ++ a0.Text) ++ h_22)].length * 16 ≤ most)) then (bif (a0.Kind == 9) then (bif (decide (([((h_22 ++ a0.Text) ++ h_22)].length + [a0.Text].length) * 16 ≤ most)) then ((L1 (QI.mk ((a0.Label ++ h_3a) ++ r10) (0 : Int) a0 ([((h_22 ++ a0.Text) ++ h_22)] ++ [a0.Text]))).bind (fun (o11 : Jr) => ((L2 (QJ.mk o11.x3 (0 : Int) o11.r0)).bind (fun (o12 : ByteArray) => (some o12))))) else none) else ((L1 (QI.mk ((a0.Label ++ h_3a) ++ r10) (0 : Int) a0 [((h_22 ++ a0.Text) ++ h_22)])).bind (fun (o13 : Jr) => ((L2 (QJ.mk o13.x3 (0 : Int) o13.r0)).bind (fun (o14 : ByteArray) => (some o14)))))) else none) else none) else none) else (bif (a0.Kind == 9) then (bif (decide ([a0.Text].length * 16 ≤ most)) then ((L1 (QI.mk ((a0.Label ++ h_3a) ++ r10) (0 : Int) a0 [a0.Text])).bind (fun (o15 : Jr) => ((L2 (QJ.mk o15.x3 (0 : Int) o15.r0)).bind (fun (o16 : ByteArray) => (some o16))))) else none) else ((L1 (QI.mk ((a0.Label ++ h_3a) ++ r10) (0 : Int) a0 ([] : List ByteArray))).bind (fun (o17 : Jr) => ((L2 (QJ.mk o17.x3 (0 : Int) o17.r0)).bind (fun (o18 : ByteArray) => (some o18))))))) else none)))) else none) else (bif (a0.Kind == 0) then (some s_) else ((C0 a0).bind fun r19 => (bif (decide (((s_.size + r19.size : Nat) : Int) ≤ IntKind.i64.max)) then (bif (a0.Kind == 6) then (bif (decide (((h_22.size + a0.Text.size : Nat) : Int) ≤ IntKind.i64.max)) then (bif (decide ((((h_22 ++ a0.Text).size + h_22.size : Nat) : Int) ≤ IntKind.i64.max)) then (bif (decide ([((h_22 ++ a0.Text) ++ h_22)].length * 16 ≤ most)) then (bif (a0.Kind == 9) then (bif (decide (([((h_22 ++ a0.Text) ++ h_22)].length + [a0.Text].length) * 16 ≤ most)) then ((L1 (QI.mk (s_ ++ r19) (0 : Int) a0 ([((h_22 ++ a0.Text) ++ h_22)] ++ [a0.Text]))).bind (fun (o20 : Jr) => ((L2 (QJ.mk o20.x3 (0 : Int) o20.r0)).bind (fun (o21 : ByteArray) => (some o21))))) else none) else ((L1 (QI.mk (s_ ++ r19) (0 : Int) a0 [((h_22 ++ a0.Text) ++ h_22)])).bind (fun (o22 : Jr) => ((L2 (QJ.mk o22.x3 (0 : Int) o22.r0)).bind (fun (o23 : ByteArray) => (some o23)))))) else none) else none) else none) else (bif (a0.Kind == 9) then (bif (decide ([a0.Text].length * 16 ≤ most)) then ((L1 (QI.mk (s_ ++ r19) (0 : Int) a0 [a0.Text])).bind (fun (o24 : Jr) => ((L2 (QJ.mk o24.x3 (0 : Int) o24.r0)).bind (fun (o25 : ByteArray) => (some o25))))) else none) else ((L1 (QI.mk (s_ ++ r19) (0 : Int) a0 ([] : List ByteArray))).bind (fun (o26 : Jr) => ((L2 (QJ.mk o26.x3 (0 : Int) o26.r0)).bind (fun (o27 : ByteArray) => (some o27))))))) else none))))
noncomputable def Zx : Qn7 := Qg9 Zv Jz Jt
theorem Zx.eq (a0 : Qb) : Zx a0 = Qg9 Zv Jz Jt a0 := rfl
noncomputable def Qr4 (a0 : Qb) : Tr ByteArray AH := (.as (!(eqS a0.Label s_)) (.as (decide (((a0.Label.size + h_3a.size : Nat) : Int) ≤ IntKind.i64.max)) (.as (a0.Kind == 0) (rt Qk (a0.Label ++ h_3a)) (.as (!(eqS (a0.Label ++ h_3a) s_)) (.as (decide ((((a0.Label ++ h_3a).size + h_20.size : Nat) : Int) ≤ IntKind.i64.max)) (Qg7 a0 fun r1 => (.as (decide (((((a0.Label ++ h_3a) ++ h_20).size + r1.size : Nat) : Int) ≤ IntKind.i64.max)) (.as (a0.Kind == 6) (.as (decide (((h_22.size + a0.Text.size : Nat) : Int) ≤ IntKind.i64.max)) (.as (decide ((((h_22 ++ a0.Text).size + h_22.size : Nat) : Int) ≤ IntKind.i64.max)) (.rows [[xs ((h_22 ++ a0.Text) ++ h_22)]] (Qg [((h_22 ++ a0.Text) ++ h_22)]) (.yes (decide ((Qg [((h_22 ++ a0.Text) ++ h_22)]).all (fun r => r.length == 1) = true)) (.ask (decide ((Qg [((h_22 ++ a0.Text) ++ h_22)]).length * 16 ≤ most)) (decide ([((h_22 ++ a0.Text) ++ h_22)].length * 16 ≤ most)) (.rows (Qg [((h_22 ++ a0.Text) ++ h_22)]) (Qg [((h_22 ++ a0.Text) ++ h_22)]) (.as (a0.Kind == 9) (.rows [[xs a0.Text]] (Qg [a0.Text]) (.yes (decide ((Qg [a0.Text]).all (fun r => r.length == 1) = true)) (.ask (decide (((Qg [((h_22 ++ a0.Text) ++ h_22)]).length + (Qg [a0.Text]).length) * 16 ≤ most)) (decide (([((h_22 ++ a0.Text) ++ h_22)].length + [a0.Text].length) * 16 ≤ most)) (.rows ((Qg [((h_22 ++ a0.Text) ++ h_22)]) ++ (Qg [a0.Text])) (Qg ([((h_22 ++ a0.Text) ++ h_22)] ++ [a0.Text])) (WE (QI.mk (((a0.Label ++ h_3a) ++ h_20) ++ r1) i0 a0 ([((h_22 ++ a0.Text) ++ h_22)] ++ [a0.Text])) (fun o2 => (WF (QJ.mk o2.x3 i0 o2.r0) (fun o3 => (rt Qk o3)))))) .fail))) (WE (QI.mk (((a0.Label ++ h_3a) ++ h_20) ++ r1) i0 a0 [((h_22 ++ a0.Text) ++ h_22)]) (fun o4 => (WF (QJ.mk o4.x3 i0 o4.r0) (fun o5 => (rt Qk o5))))))) .fail))) .fail) .fail) (.as (a0.Kind == 9) (.rows [[xs a0.Text]] (Qg [a0.Text]) (.yes (decide ((Qg [a0.Text]).all (fun r => r.length == 1) = true)) (.ask (decide ((Qg [a0.Text]).length * 16 ≤ most)) (decide ([a0.Text].length * 16 ≤ most)) (.rows (Qg [a0.Text]) (Qg [a0.Text]) (WE (QI.mk (((a0.Label ++ h_3a) ++ h_20) ++ r1) i0 a0 [a0.Text]) (fun o6 => (WF (QJ.mk o6.x3 i0 o6.r0) (fun o7 => (rt Qk o7)))))) .fail))) (WE (QI.mk (((a0.Label ++ h_3a) ++ h_20) ++ r1) i0 a0 ([] : List ByteArray)) (fun o8 => (WF (QJ.mk o8.x3 i0 o8.r0) (fun o9 => (rt Qk o9))))))) .fail)) .fail) (Qg7 a0 fun r10 => (.as (decide ((((a0.Label ++ h_3a).size + r10.size : Nat) : Int) ≤ IntKind.i64.max)) (.as (a0.Kind == 6) (.as (decide (((h_22.size + a0.Text.size : Nat) : Int) ≤ IntKind.i64.max)) (.as (decide ((((h_22 ++ a0.Text).size + h_22.size : Nat) : Int) ≤ IntKind.i64.max)) (.rows [[xs ((h_22 ++ a0.Text) ++ h_22)]] (Qg [((h_22 ++ a0.Text) ++ h_22)]) (.yes (decide ((Qg [((h_22 ++ a0.Text) ++ h_22)]).all (fun r => r.length == 1) = true)) (.ask (decide ((Qg [((h_22 ++ a0.Text) ++ h_22)]).length * 16 ≤ most)) (decide ([((h_22 ++ a0.Text) ++ h_22)].length * 16 ≤ most)) (.rows (Qg [((h_22 ++ a0.Text) ++ h_22)]) (Qg [((h_22 ++ a0.Text) ++ h_22)]) (.as (a0.Kind == 9) (.rows [[xs a0.Text]] (Qg [a0.Text]) (.yes (decide ((Qg [a0.Text]).all (fun r => r.length == 1) = true)) (.ask (decide (((Qg [((h_22 ++ a0.Text) ++ h_22)]).length + (Qg [a0.Text]).length) * 16 ≤ most)) (decide (([((h_22 ++ a0.Text) ++ h_22)].length + [a0.Text].length) * 16 ≤ most)) (.rows ((Qg [((h_22 ++ a0.Text) ++ h_22)]) ++ (Qg [a0.Text])) (Qg ([((h_22 ++ a0.Text) ++ h_22)] ++ [a0.Text])) (WE (QI.mk ((a0.Label ++ h_3a) ++ r10) i0 a0 ([((h_22 ++ a0.Text) ++ h_22)] ++ [a0.Text])) (fun o11 => (WF (QJ.mk o11.x3 i0 o11.r0) (fun o12 => (rt Qk o12)))))) .fail))) (WE (QI.mk ((a0.Label ++ h_3a) ++ r10) i0 a0 [((h_22 ++ a0.Text) ++ h_22)]) (fun o13 => (WF (QJ.mk o13.x3 i0 o13.r0) (fun o14 => (rt Qk o14))))))) .fail))) .fail) .fail) (.as (a0.Kind == 9) (.rows [[xs a0.Text]] (Qg [a0.Text]) (.yes (decide ((Qg [a0.Text]).all (fun r => r.length == 1) = true)) (.ask (decide ((Qg [a0.Text]).length * 16 ≤ most)) (decide ([a0.Text].length * 16 ≤ most)) (.rows (Qg [a0.Text]) (Qg [a0.Text]) (WE (QI.mk ((a0.Label ++ h_3a) ++ r10) i0 a0 [a0.Text]) (fun o15 => (WF (QJ.mk o15.x3 i0 o15.r0) (fun o16 => (rt Qk o16)))))) .fail))) (WE (QI.mk ((a0.Label ++ h_3a) ++ r10) i0 a0 ([] : List ByteArray)) (fun o17 => (WF (QJ.mk o17.x3 i0 o17.r0) (fun o18 => (rt Qk o18))))))) .fail)))) .fail) (.as (a0.Kind == 0) (rt Qk s_) (.no false (Qg7 a0 fun r19 => (.as (decide (((s_.size + r19.size : Nat) : Int) ≤ IntKind.i64.max)) (.as (a0.Kind == 6) (.as (decide (((h_22.size + a0.Text.size : Nat) : Int) ≤ IntKind.i64.max)) (.as (decide ((((h_22 ++ a0.Text).size + h_22.size : Nat) : Int) ≤ IntKind.i64.max)) (.rows [[xs ((h_22 ++ a0.Text) ++ h_22)]] (Qg [((h_22 ++ a0.Text) ++ h_22)]) (.yes (decide ((Qg [((h_22 ++ a0.Text) ++ h_22)]).all (fun r => r.length == 1) = true)) (.ask (decide ((Qg [((h_22 ++ a0.Text) ++ h_22)]).length * 16 ≤ most)) (decide ([((h_22 ++ a0.Text) ++ h_22)].length * 16 ≤ most)) (.rows (Qg [((h_22 ++ a0.Text) ++ h_22)]) (Qg [((h_22 ++ a0.Text) ++ h_22)]) (.as (a0.Kind == 9) (.rows [[xs a0.Text]] (Qg [a0.Text]) (.yes (decide ((Qg [a0.Text]).all (fun r => r.length == 1) = true)) (.ask (decide (((Qg [((h_22 ++ a0.Text) ++ h_22)]).length + (Qg [a0.Text]).length) * 16 ≤ most)) (decide (([((h_22 ++ a0.Text) ++ h_22)].length + [a0.Text].length) * 16 ≤ most)) (.rows ((Qg [((h_22 ++ a0.Text) ++ h_22)]) ++ (Qg [a0.Text])) (Qg ([((h_22 ++ a0.Text) ++ h_22)] ++ [a0.Text])) (WE (QI.mk (s_ ++ r19) i0 a0 ([((h_22 ++ a0.Text) ++ h_22)] ++ [a0.Text])) (fun o20 => (WF (QJ.mk o20.x3 i0 o20.r0) (fun o21 => (rt Qk o21)))))) .fail))) (WE (QI.mk (s_ ++ r19) i0 a0 [((h_22 ++ a0.Text) ++ h_22)]) (fun o22 => (WF (QJ.mk o22.x3 i0 o22.r0) (fun o23 => (rt Qk o23))))))) .fail))) .fail) .fail) (.as (a0.Kind == 9) (.rows [[xs a0.Text]] (Qg [a0.Text]) (.yes (decide ((Qg [a0.Text]).all (fun r => r.length == 1) = true)) (.ask (decide ((Qg [a0.Text]).length * 16 ≤ most)) (decide ([a0.Text].length * 16 ≤ most)) (.rows (Qg [a0.Text]) (Qg [a0.Text]) (WE (QI.mk (s_ ++ r19) i0 a0 [a0.Text]) (fun o24 => (WF (QJ.mk o24.x3 i0 o24.r0) (fun o25 => (rt Qk o25)))))) .fail))) (WE (QI.mk (s_ ++ r19) i0 a0 ([] : List ByteArray)) (fun o26 => (WF (QJ.mk o26.x3 i0 o26.r0) (fun o27 => (rt Qk o27))))))) .fail)))))
theorem Zx.ok {a0 : Qb} {r : ByteArray} (h : Zx a0 = some r) : ww 22 [.agg (U1 a0)] [] = some (Qk r) := by
 refine fnP (Qr4 a0) ?_ h
 exact ⟨rfl, fun q0 => ⟨rfl, fun q1 => ⟨rfl, fun q2 => rfl, fun q2 => ⟨rfl, fun q3 => ⟨rfl, fun q4 => fun r1 h => ⟨Zv.ok h, ⟨rfl, fun q5 => ⟨rfl, fun q6 => ⟨rfl, fun q7 => ⟨rfl, fun q8 => ⟨(QP [((h_22 ++ a0.Text) ++ h_22)]), ⟨(decide_eq_true (Uc _)), ⟨(by rw [Qo]), fun q9 => ⟨rfl, ⟨rfl, fun q10 => ⟨(QP [a0.Text]), ⟨(decide_eq_true (Uc _)), ⟨(by rw [Qo, Qo]), fun q11 => ⟨(U0 _ _), fun o2 h => ⟨Jz.ok h, fun o3 h => ⟨Jt.ok h, rfl⟩⟩⟩, fun q11 => trivial⟩⟩⟩, fun q10 => fun o4 h => ⟨Jz.ok h, fun o5 h => ⟨Jt.ok h, rfl⟩⟩⟩⟩, fun q9 => trivial⟩⟩⟩, fun q8 => trivial⟩, fun q7 => trivial⟩, fun q6 => ⟨rfl, fun q7 => ⟨(QP [a0.Text]), ⟨(decide_eq_true (Uc _)), ⟨(by rw [Qo]), fun q8 => ⟨rfl, fun o6 h => ⟨Jz.ok h, fun o7 h => ⟨Jt.ok h, rfl⟩⟩⟩, fun q8 => trivial⟩⟩⟩, fun q7 => fun o8 h => ⟨Jz.ok h, fun o9 h => ⟨Jt.ok h, rfl⟩⟩⟩⟩, fun q5 => trivial⟩⟩, fun q4 => trivial⟩, fun q3 => fun r10 h => ⟨Zv.ok h, ⟨rfl, fun q4 => ⟨rfl, fun q5 => ⟨rfl, fun q6 => ⟨rfl, fun q7 => ⟨(QP [((h_22 ++ a0.Text) ++ h_22)]), ⟨(decide_eq_true (Uc _)), ⟨(by rw [Qo]), fun q8 => ⟨rfl, ⟨rfl, fun q9 => ⟨(QP [a0.Text]), ⟨(decide_eq_true (Uc _)), ⟨(by rw [Qo, Qo]), fun q10 => ⟨(U0 _ _), fun o11 h => ⟨Jz.ok h, fun o12 h => ⟨Jt.ok h, rfl⟩⟩⟩, fun q10 => trivial⟩⟩⟩, fun q9 => fun o13 h => ⟨Jz.ok h, fun o14 h => ⟨Jt.ok h, rfl⟩⟩⟩⟩, fun q8 => trivial⟩⟩⟩, fun q7 => trivial⟩, fun q6 => trivial⟩, fun q5 => ⟨rfl, fun q6 => ⟨(QP [a0.Text]), ⟨(decide_eq_true (Uc _)), ⟨(by rw [Qo]), fun q7 => ⟨rfl, fun o15 h => ⟨Jz.ok h, fun o16 h => ⟨Jt.ok h, rfl⟩⟩⟩, fun q7 => trivial⟩⟩⟩, fun q6 => fun o17 h => ⟨Jz.ok h, fun o18 h => ⟨Jt.ok h, rfl⟩⟩⟩⟩, fun q4 => trivial⟩⟩⟩⟩, fun q1 => trivial⟩, fun q0 => ⟨rfl, fun q1 => rfl, fun q1 => ⟨rfl, fun r19 h => ⟨Zv.ok h, ⟨rfl, fun q2 => ⟨rfl, fun q3 => ⟨rfl, fun q4 => ⟨rfl, fun q5 => ⟨(QP [((h_22 ++ a0.Text) ++ h_22)]), ⟨(decide_eq_true (Uc _)), ⟨(by rw [Qo]), fun q6 => ⟨rfl, ⟨rfl, fun q7 => ⟨(QP [a0.Text]), ⟨(decide_eq_true (Uc _)), ⟨(by rw [Qo, Qo]), fun q8 => ⟨(U0 _ _), fun o20 h => ⟨Jz.ok h, fun o21 h => ⟨Jt.ok h, rfl⟩⟩⟩, fun q8 => trivial⟩⟩⟩, fun q7 => fun o22 h => ⟨Jz.ok h, fun o23 h => ⟨Jt.ok h, rfl⟩⟩⟩⟩, fun q6 => trivial⟩⟩⟩, fun q5 => trivial⟩, fun q4 => trivial⟩, fun q3 => ⟨rfl, fun q4 => ⟨(QP [a0.Text]), ⟨(decide_eq_true (Uc _)), ⟨(by rw [Qo]), fun q5 => ⟨rfl, fun o24 h => ⟨Jz.ok h, fun o25 h => ⟨Jt.ok h, rfl⟩⟩⟩, fun q5 => trivial⟩⟩⟩, fun q4 => fun o26 h => ⟨Jz.ok h, fun o27 h => ⟨Jt.ok h, rfl⟩⟩⟩⟩, fun q2 => trivial⟩⟩⟩⟩⟩
noncomputable abbrev Ql3 {ρ R : Type} (a0 : Qb) (k : ByteArray → Tr ρ R) : Tr ρ R := .call (ww 22 [.agg (U1 a0)] []) (Zx a0) Qk k
abbrev Qoa := ByteArray → Option ByteArray
structure Uu where
 x0 : ByteArray
 x3 : Bool
 x4 : Int
def Gn (a : Uu) : St := { n := 29, nx := 0, env := [(0, xs a.x0), (3, xo a.x3), (4, xi a.x4)], heap := [] }
def Qft (a : ByteArray) : Ex × St := (.ret, { n := 29, nx := 0, env := [(2, xs a)], heap := [] })
def Qfu (a : ByteArray) : Ex × St := (.exit 0, { n := 29, nx := 0, env := [(0, xs a)], heap := [] })
def Pw (a : (ByteArray ⊕ ByteArray)) : Ex × St := Sum.elim Qft Qfu a
abbrev QiL := Uu → Option (ByteArray ⊕ ByteArray)
def Px (a : Uu) : Option (Uu ⊕ (ByteArray ⊕ ByteArray)) := (bif (decide (a.x4 < ((a.x0.size : Nat) : Int))) then (bif (decide (0 ≤ a.x4 ∧ a.x4 < ((a.x0.size : Nat) : Int))) then (bif (((a.x0.data.getD (Int.toNat a.x4) 0).toNat : Int) == 34) then (bif (((a.x0.data.getD (Int.toNat a.x4) 0).toNat : Int) == 35) then (bif (!(!a.x3)) then (bif (decide (0 ≤ (0 : Int) ∧ (0 : Int) ≤ a.x4 ∧ a.x4 ≤ ((a.x0.size : Nat) : Int))) then (some (.inr (.inl (a.x0.extract (Int.toNat 0) (Int.toNat a.x4))))) else none) else (some (.inl (Uu.mk a.x0 (!a.x3) (w64 (a.x4 + 1)))))) else (some (.inl (Uu.mk a.x0 (!a.x3) (w64 (a.x4 + 1)))))) else (bif (((a.x0.data.getD (Int.toNat a.x4) 0).toNat : Int) == 35) then (bif (!a.x3) then (bif (decide (0 ≤ (0 : Int) ∧ (0 : Int) ≤ a.x4 ∧ a.x4 ≤ ((a.x0.size : Nat) : Int))) then (some (.inr (.inl (a.x0.extract (Int.toNat 0) (Int.toNat a.x4))))) else none) else (some (.inl (Uu.mk a.x0 a.x3 (w64 (a.x4 + 1)))))) else (some (.inl (Uu.mk a.x0 a.x3 (w64 (a.x4 + 1))))))) else none) else (some (.inr (.inr a.x0))))
noncomputable def WB : QiL := loopW (Px )
theorem WB.eq (a : Uu) : WB a = (Px a).bind (Sum.elim WB some) := Ja _ _
noncomputable abbrev Qob {ρ R : Type} (a : Uu) (k0 : ByteArray → Tr ρ R) (k1 : ByteArray → Tr ρ R) : Tr ρ R := .loop2 (loopAt pp 54 3) (Gn a) (WB a) Qft Qfu k0 k1
noncomputable def Qoc (a : Uu) : Tr (Uu ⊕ (ByteArray ⊕ ByteArray)) XS := (.as (decide (a.x4 < (zz a.x0))) (let u129 := (in1 a.x4 (zz a.x0)); .as u129 (.as ((gb a.x0 a.x4) == 34) (.yes u129 (let u127 := ((gb a.x0 a.x4) == 35); .as u127 (yesN 2 u127 (.as (!(!a.x3)) (.as (in2 i0 a.x4 (zz a.x0)) (rx Pw (.inl (cu a.x0 i0 a.x4))) .fail) (lf Gn (Uu.mk a.x0 (!a.x3) (w64 (a.x4 + 1)))))) (noN 2 u127 (.no false (lf Gn (Uu.mk a.x0 (!a.x3) (w64 (a.x4 + 1)))))))) (.yes u129 (let u128 := ((gb a.x0 a.x4) == 35); .as u128 (yesN 2 u128 (.as (!a.x3) (.as (in2 i0 a.x4 (zz a.x0)) (rx Pw (.inl (cu a.x0 i0 a.x4))) .fail) (lf Gn (Uu.mk a.x0 a.x3 (w64 (a.x4 + 1)))))) (noN 2 u128 (.no false (lf Gn (Uu.mk a.x0 a.x3 (w64 (a.x4 + 1))))))))) .fail) (rx Pw (.inr a.x0)))
theorem WB.ok {a : Uu} {r : (ByteArray ⊕ ByteArray)} (h : WB a = some r) : lw 0 54 (loopAt pp 54 3) (Gn a) = some (Pw r) := by
 refine lpP h Qoc fun a => ?_
 exact ⟨rfl, fun q0 => ⟨rfl, fun q1 => ⟨rfl, fun q2 => ⟨q1, ⟨rfl, fun q3 => Qj 2 (q3) (⟨rfl, fun q4 => ⟨rfl, fun q5 => rfl, fun q5 => trivial⟩, fun q4 => rfl⟩), fun q3 => noN_ok 2 (q3) (⟨rfl, rfl⟩)⟩⟩, fun q2 => ⟨q1, ⟨rfl, fun q3 => Qj 2 (q3) (⟨rfl, fun q4 => ⟨rfl, fun q5 => rfl, fun q5 => trivial⟩, fun q4 => rfl⟩), fun q3 => noN_ok 2 (q3) (⟨rfl, rfl⟩)⟩⟩⟩, fun q1 => trivial⟩, fun q0 => rfl⟩
def Qha (L0 : QiL) (a0 : ByteArray) : Option ByteArray := ((L0 (Uu.mk a0 false (0 : Int))).bind fun x => Sum.elim (fun (o1 : ByteArray) => (some o1)) (fun (o2 : ByteArray) => (some o2)) x)
noncomputable def GL : Qoa := Qha WB
theorem GL.eq (a0 : ByteArray) : GL a0 = Qha WB a0 := rfl
noncomputable def Qr5 (a0 : ByteArray) : Tr ByteArray AH := (Qob (Uu.mk a0 false i0) (fun o1 => (rt Qk o1)) (fun o2 => (rt Qk o2)))
theorem GL.ok {a0 : ByteArray} {r : ByteArray} (h : GL a0 = some r) : ww 54 [xs a0] [] = some (Qk r) := by
 refine fnP (Qr5 a0) ?_ h
 exact ⟨fun o1 h => ⟨WB.ok (r := (.inl _)) h, rfl⟩, fun o2 h => ⟨WB.ok (r := (.inr _)) h, rfl⟩⟩
noncomputable abbrev Qr6 {ρ R : Type} (a0 : ByteArray) (k : ByteArray → Tr ρ R) : Tr ρ R := .call (ww 54 [xs a0] []) (GL a0) Qk k
abbrev QeI := ByteArray → Option ByteArray
def Py (a : ByteArray) : St := { n := 43, nx := 0, env := [(0, xs a)], heap := [] }
def Pz (a : ByteArray) : Ex × St := (.exit 0, { n := 43, nx := 0, env := [(0, xs a)], heap := [] })
abbrev QiM := ByteArray → Option ByteArray
def Qb8 (a : ByteArray) : Option (ByteArray ⊕ ByteArray) := (bif (decide (((a.size : Nat) : Int) > 0)) then (bif (decide (0 ≤ (0 : Int) ∧ (0 : Int) < ((a.size : Nat) : Int))) then (bif (((a.data.getD (Int.toNat 0) 0).toNat : Int) == 32) then (bif (decide (0 ≤ (1 : Int) ∧ (1 : Int) ≤ ((a.size : Nat) : Int) ∧ ((a.size : Nat) : Int) ≤ ((a.size : Nat) : Int))) then (some (.inl (a.extract (Int.toNat 1) (Int.toNat ((a.size : Nat) : Int))))) else none) else (bif (((a.data.getD (Int.toNat 0) 0).toNat : Int) == 9) then (bif (decide (0 ≤ (1 : Int) ∧ (1 : Int) ≤ ((a.size : Nat) : Int) ∧ ((a.size : Nat) : Int) ≤ ((a.size : Nat) : Int))) then (some (.inl (a.extract (Int.toNat 1) (Int.toNat ((a.size : Nat) : Int))))) else none) else (some (.inr a)))) else none) else (some (.inr a)))
noncomputable def XA : QiM := loopW (Qb8 )
theorem XA.eq (a : ByteArray) : XA a = (Qb8 a).bind (Sum.elim XA some) := Ja _ _
noncomputable abbrev Qod {ρ R : Type} (a : ByteArray) (k0 : ByteArray → Tr ρ R) : Tr ρ R := .loop (loopAt pp 53 1) (Py a) (XA a) Pz k0
noncomputable def Qoe (a : ByteArray) : Tr (ByteArray ⊕ ByteArray) XS := (let u132 := (decide ((zz a) > 0)); .as u132 (.yes u132 (let u131 := (in1 i0 (zz a)); .as u131 (yesN 2 u132 (let u130 := ((gb a i0) == 32); .as u130 (yesN 2 u130 (.yes u132 (.yes u130 (.yes u132 (.yes true (.as (in2 (zi 1) (zz a) (zz a)) (lf Py (cu a (zi 1) (zz a))) .fail)))))) (.no u130 (.yes u131 (.no u130 (.yes u132 (.no u130 (.yes u132 (.as ((gb a i0) == 9) (.as (in2 (zi 1) (zz a) (zz a)) (lf Py (cu a (zi 1) (zz a))) .fail) (rx Pz a)))))))))) .fail)) (noN 5 u132 (.no false (rx Pz a))))
theorem XA.ok {a : ByteArray} {r : ByteArray} (h : XA a = some r) : lw 0 53 (loopAt pp 53 1) (Py a) = some (Pz r) := by
 refine lpP h Qoe fun a => ?_
 exact ⟨rfl, fun q0 => ⟨q0, ⟨rfl, fun q1 => Qj 2 (q0) (⟨rfl, fun q2 => Qj 2 (q2) (⟨q0, ⟨q2, ⟨q0, ⟨rfl, ⟨rfl, fun q3 => rfl, fun q3 => trivial⟩⟩⟩⟩⟩), fun q2 => ⟨q2, ⟨q1, ⟨q2, ⟨q0, ⟨q2, ⟨q0, ⟨rfl, fun q3 => ⟨rfl, fun q4 => rfl, fun q4 => trivial⟩, fun q3 => rfl⟩⟩⟩⟩⟩⟩⟩⟩), fun q1 => trivial⟩⟩, fun q0 => noN_ok 5 (q0) (⟨rfl, rfl⟩)⟩
def PB (a : ByteArray) : St := { n := 43, nx := 0, env := [(0, xs a)], heap := [] }
def PC (a : ByteArray) : Ex × St := (.exit 2, { n := 43, nx := 0, env := [(0, xs a)], heap := [] })
abbrev QiN := ByteArray → Option ByteArray
def Qb9 (a : ByteArray) : Option (ByteArray ⊕ ByteArray) := (bif (decide (((a.size : Nat) : Int) > 0)) then (bif (decide (0 ≤ (w64 (((a.size : Nat) : Int) - 1)) ∧ (w64 (((a.size : Nat) : Int) - 1)) < ((a.size : Nat) : Int))) then (bif (((a.data.getD (Int.toNat (w64 (((a.size : Nat) : Int) - 1))) 0).toNat : Int) == 32) then (bif (decide (0 ≤ (0 : Int) ∧ (0 : Int) ≤ (w64 (((a.size : Nat) : Int) - 1)) ∧ (w64 (((a.size : Nat) : Int) - 1)) ≤ ((a.size : Nat) : Int))) then (some (.inl (a.extract (Int.toNat 0) (Int.toNat (w64 (((a.size : Nat) : Int) - 1)))))) else none) else (bif (((a.data.getD (Int.toNat (w64 (((a.size : Nat) : Int) - 1))) 0).toNat : Int) == 9) then (bif (decide (0 ≤ (0 : Int) ∧ (0 : Int) ≤ (w64 (((a.size : Nat) : Int) - 1)) ∧ (w64 (((a.size : Nat) : Int) - 1)) ≤ ((a.size : Nat) : Int))) then (some (.inl (a.extract (Int.toNat 0) (Int.toNat (w64 (((a.size : Nat) : Int) - 1)))))) else none) else (some (.inr a)))) else none) else (some (.inr a)))
noncomputable def XB : QiN := loopW (Qb9 )
theorem XB.eq (a : ByteArray) : XB a = (Qb9 a).bind (Sum.elim XB some) := Ja _ _
noncomputable abbrev Qof {ρ R : Type} (a : ByteArray) (k0 : ByteArray → Tr ρ R) : Tr ρ R := .loop (loopAt pp 53 3) (PB a) (XB a) PC k0
noncomputable def Qog (a : ByteArray) : Tr (ByteArray ⊕ ByteArray) XS := (let u135 := (decide ((zz a) > 0)); .as u135 (yesN 4 u135 (let u134 := (in1 (w64 ((zz a) - 1)) (zz a)); .as u134 (yesN 2 u135 (let u133 := ((gb a (w64 ((zz a) - 1))) == 32); .as u133 (yesN 5 u133 (.yes u135 (.yes u133 (.yes u135 (.yes true (.as (in2 i0 (w64 ((zz a) - 1)) (zz a)) (lf PB (cu a i0 (w64 ((zz a) - 1)))) .fail)))))) (noN 4 u133 (.yes u134 (.no u133 (.yes u135 (.no u133 (.yes u135 (.as ((gb a (w64 ((zz a) - 1))) == 9) (.as (in2 i0 (w64 ((zz a) - 1)) (zz a)) (lf PB (cu a i0 (w64 ((zz a) - 1)))) .fail) (rx PC a)))))))))) .fail)) (noN 8 u135 (.no false (rx PC a))))
theorem XB.ok {a : ByteArray} {r : ByteArray} (h : XB a = some r) : lw 0 53 (loopAt pp 53 3) (PB a) = some (PC r) := by
 refine lpP h Qog fun a => ?_
 exact ⟨rfl, fun q0 => Qj 4 (q0) (⟨rfl, fun q1 => Qj 2 (q0) (⟨rfl, fun q2 => Qj 5 (q2) (⟨q0, ⟨q2, ⟨q0, ⟨rfl, ⟨rfl, fun q3 => rfl, fun q3 => trivial⟩⟩⟩⟩⟩), fun q2 => noN_ok 4 (q2) (⟨q1, ⟨q2, ⟨q0, ⟨q2, ⟨q0, ⟨rfl, fun q3 => ⟨rfl, fun q4 => rfl, fun q4 => trivial⟩, fun q3 => rfl⟩⟩⟩⟩⟩⟩)⟩), fun q1 => trivial⟩), fun q0 => noN_ok 8 (q0) (⟨rfl, rfl⟩)⟩
def Qhb (L0 : QiM) (L1 : QiN) (a0 : ByteArray) : Option ByteArray := ((L0 a0).bind (fun (o1 : ByteArray) => ((L1 o1).bind (fun (o2 : ByteArray) => (some o2)))))
noncomputable def Wh : QeI := Qhb XA XB
theorem Wh.eq (a0 : ByteArray) : Wh a0 = Qhb XA XB a0 := rfl
noncomputable def Qr7 (a0 : ByteArray) : Tr ByteArray AH := (Qod a0 (fun o1 => (Qof o1 (fun o2 => (rt Qk o2)))))
theorem Wh.ok {a0 : ByteArray} {r : ByteArray} (h : Wh a0 = some r) : ww 53 [xs a0] [] = some (Qk r) := by
 refine fnP (Qr7 a0) ?_ h
 exact fun o1 h => ⟨XA.ok h, fun o2 h => ⟨XB.ok h, rfl⟩⟩
noncomputable abbrev ZM {ρ R : Type} (a0 : ByteArray) (k : ByteArray → Tr ρ R) : Tr ρ R := .call (ww 53 [xs a0] []) (Wh a0) Qk k
def Qa4 (r : (ByteArray × ByteArray)) : AV × Heap := (.tup [xs r.1, xs r.2], [])
abbrev Ql4 := ByteArray → Option (ByteArray × ByteArray)
structure Vb where
 x0 : ByteArray
 x4 : Int
structure Wi where
 x2 : ByteArray
 x3 : ByteArray
def Fh (a : Vb) : St := { n := 30, nx := 0, env := [(0, xs a.x0), (4, xi a.x4)], heap := [] }
def Qd6 (a : Wi) : Ex × St := (.ret, { n := 30, nx := 0, env := [(2, xs a.x2), (3, xs a.x3)], heap := [] })
def Qd7 (a : ByteArray) : Ex × St := (.exit 0, { n := 30, nx := 0, env := [(0, xs a)], heap := [] })
def QaB (a : (Wi ⊕ ByteArray)) : Ex × St := Sum.elim Qd6 Qd7 a
abbrev Qhc := Vb → Option (Wi ⊕ ByteArray)
def Fi (C0 : Qjd) (C1 : QeI) (a : Vb) : Option (Vb ⊕ (Wi ⊕ ByteArray)) := (bif (decide (a.x4 < ((a.x0.size : Nat) : Int))) then (bif (decide (0 ≤ a.x4 ∧ a.x4 < ((a.x0.size : Nat) : Int))) then (bif (((a.x0.data.getD (Int.toNat a.x4) 0).toNat : Int) == 58) then (bif (decide (0 ≤ (0 : Int) ∧ (0 : Int) ≤ a.x4 ∧ a.x4 ≤ ((a.x0.size : Nat) : Int))) then ((C0 (a.x0.extract (Int.toNat 0) (Int.toNat a.x4))).bind fun r1 => (bif r1 then (bif (decide (0 ≤ (w64 (a.x4 + 1)) ∧ (w64 (a.x4 + 1)) ≤ ((a.x0.size : Nat) : Int) ∧ ((a.x0.size : Nat) : Int) ≤ ((a.x0.size : Nat) : Int))) then ((C1 (a.x0.extract (Int.toNat (w64 (a.x4 + 1))) (Int.toNat ((a.x0.size : Nat) : Int)))).bind fun r2 => (some (.inr (.inl (Wi.mk (a.x0.extract (Int.toNat 0) (Int.toNat a.x4)) r2))))) else none) else (some (.inl (Vb.mk a.x0 (w64 (a.x4 + 1))))))) else none) else (some (.inl (Vb.mk a.x0 (w64 (a.x4 + 1)))))) else none) else (some (.inr (.inr a.x0))))
noncomputable def V1 : Qhc := loopW (Fi Y0 Wh)
theorem V1.eq (a : Vb) : V1 a = (Fi Y0 Wh a).bind (Sum.elim V1 some) := Ja _ _
noncomputable abbrev QmY {ρ R : Type} (a : Vb) (k0 : Wi → Tr ρ R) (k1 : ByteArray → Tr ρ R) : Tr ρ R := .loop2 (loopAt pp 52 2) (Fh a) (V1 a) Qd6 Qd7 k0 k1
noncomputable def QmZ (a : Vb) : Tr (Vb ⊕ (Wi ⊕ ByteArray)) XS := (.as (decide (a.x4 < (zz a.x0))) (.as (in1 a.x4 (zz a.x0)) (let u137 := ((gb a.x0 a.x4) == 58); .as u137 (yesN 2 u137 (let u136 := (in2 i0 a.x4 (zz a.x0)); .as u136 (.yes u137 (QlU (cu a.x0 i0 a.x4) fun r1 => (.yes u137 (.as r1 (.yes u136 (.as (in2 (w64 (a.x4 + 1)) (zz a.x0) (zz a.x0)) (ZM (cu a.x0 (w64 (a.x4 + 1)) (zz a.x0)) fun r2 => (rx QaB (.inl (Wi.mk (cu a.x0 i0 a.x4) r2)))) .fail)) (lf Fh (Vb.mk a.x0 (w64 (a.x4 + 1)))))))) .fail)) (noN 4 u137 (.no false (lf Fh (Vb.mk a.x0 (w64 (a.x4 + 1))))))) .fail) (rx QaB (.inr a.x0)))
theorem V1.ok {a : Vb} {r : (Wi ⊕ ByteArray)} (h : V1 a = some r) : lw 0 52 (loopAt pp 52 2) (Fh a) = some (QaB r) := by
 refine lpP h QmZ fun a => ?_
 exact ⟨rfl, fun q0 => ⟨rfl, fun q1 => ⟨rfl, fun q2 => Qj 2 (q2) (⟨rfl, fun q3 => ⟨q2, fun r1 h => ⟨Y0.ok h, ⟨q2, ⟨rfl, fun q4 => ⟨q3, ⟨rfl, fun q5 => fun r2 h => ⟨Wh.ok h, rfl⟩, fun q5 => trivial⟩⟩, fun q4 => rfl⟩⟩⟩⟩, fun q3 => trivial⟩), fun q2 => noN_ok 4 (q2) (⟨rfl, rfl⟩)⟩, fun q1 => trivial⟩, fun q0 => rfl⟩
def QeJ (L0 : Qhc) (a0 : ByteArray) : Option (ByteArray × ByteArray) := ((L0 (Vb.mk a0 (0 : Int))).bind fun x => Sum.elim (fun (o1 : Wi) => (some (o1.x2, o1.x3))) (fun (o2 : ByteArray) => (some (s_, o2))) x)
noncomputable def ZY : Ql4 := QeJ V1
theorem ZY.eq (a0 : ByteArray) : ZY a0 = QeJ V1 a0 := rfl
noncomputable def Qq7 (a0 : ByteArray) : Tr (ByteArray × ByteArray) AH := (QmY (Vb.mk a0 i0) (fun o1 => (rt Qa4 (o1.x2, o1.x3))) (fun o2 => (rt Qa4 (s_, o2))))
theorem ZY.ok {a0 : ByteArray} {r : (ByteArray × ByteArray)} (h : ZY a0 = some r) : ww 52 [xs a0] [] = some (Qa4 r) := by
 refine fnP (Qq7 a0) ?_ h
 exact ⟨fun o1 h => ⟨V1.ok (r := (.inl _)) h, rfl⟩, fun o2 h => ⟨V1.ok (r := (.inr _)) h, rfl⟩⟩
noncomputable abbrev Qq8 {ρ R : Type} (a0 : ByteArray) (k : (ByteArray × ByteArray) → Tr ρ R) : Tr ρ R := .call (ww 52 [xs a0] []) (ZY a0) Qa4 k
abbrev Ql5 := ByteArray → Option (List ByteArray)
structure QQ where
 x0 : ByteArray
 x4 : Bool
 x5 : Int
 x6 : Int
 r0 : (List ByteArray)
def Vs (a : QQ) : St := { n := 50, nx := 1, env := [(0, xs a.x0), (3, .arr 0), (4, xo a.x4), (5, xi a.x5), (6, xi a.x6)], heap := [(0, .arr true 1 (Qg a.r0))] }
def QaC (a : (List ByteArray)) : Ex × St := (.exit 0, { n := 50, nx := 1, env := [(3, .arr 0)], heap := [(0, .arr true 1 (Qg a))] })
abbrev Qhd := QQ → Option (List ByteArray)
def GF (C0 : QeI) (a : QQ) : Option (QQ ⊕ (List ByteArray)) := (bif (decide (a.x6 ≤ ((a.x0.size : Nat) : Int))) then (bif (decide (a.x6 < ((a.x0.size : Nat) : Int))) then (bif (decide (0 ≤ a.x6 ∧ a.x6 < ((a.x0.size : Nat) : Int))) then (bif (((a.x0.data.getD (Int.toNat a.x6) 0).toNat : Int) == 34) then (bif (a.x6 == ((a.x0.size : Nat) : Int)) then (bif (decide (0 ≤ a.x5 ∧ a.x5 ≤ a.x6 ∧ a.x6 ≤ ((a.x0.size : Nat) : Int))) then ((C0 (a.x0.extract (Int.toNat a.x5) (Int.toNat a.x6))).bind fun r1 => (bif (decide ((a.r0.length + [r1].length) * 16 ≤ most)) then (some (.inl (QQ.mk a.x0 (!a.x4) (w64 (a.x6 + 1)) (w64 (a.x6 + 1)) (a.r0 ++ [r1])))) else none)) else none) else (bif (((a.x0.data.getD (Int.toNat a.x6) 0).toNat : Int) == 44) then (bif (!(!a.x4)) then (bif (decide (0 ≤ a.x5 ∧ a.x5 ≤ a.x6 ∧ a.x6 ≤ ((a.x0.size : Nat) : Int))) then ((C0 (a.x0.extract (Int.toNat a.x5) (Int.toNat a.x6))).bind fun r2 => (bif (decide ((a.r0.length + [r2].length) * 16 ≤ most)) then (some (.inl (QQ.mk a.x0 (!a.x4) (w64 (a.x6 + 1)) (w64 (a.x6 + 1)) (a.r0 ++ [r2])))) else none)) else none) else (some (.inl (QQ.mk a.x0 (!a.x4) a.x5 (w64 (a.x6 + 1)) a.r0)))) else (some (.inl (QQ.mk a.x0 (!a.x4) a.x5 (w64 (a.x6 + 1)) a.r0))))) else (bif (a.x6 == ((a.x0.size : Nat) : Int)) then (bif (decide (0 ≤ a.x5 ∧ a.x5 ≤ a.x6 ∧ a.x6 ≤ ((a.x0.size : Nat) : Int))) then ((C0 (a.x0.extract (Int.toNat a.x5) (Int.toNat a.x6))).bind fun r3 => (bif (decide ((a.r0.length + [r3].length) * 16 ≤ most)) then (some (.inl (QQ.mk a.x0 a.x4 (w64 (a.x6 + 1)) (w64 (a.x6 + 1)) (a.r0 ++ [r3])))) else none)) else none) else (bif (((a.x0.data.getD (Int.toNat a.x6) 0).toNat : Int) == 44) then (bif (!a.x4) then (bif (decide (0 ≤ a.x5 ∧ a.x5 ≤ a.x6 ∧ a.x6 ≤ ((a.x0.size : Nat) : Int))) then ((C0 (a.x0.extract (Int.toNat a.x5) (Int.toNat a.x6))).bind fun r4 => (bif (decide ((a.r0.length + [r4].length) * 16 ≤ most)) then (some (.inl (QQ.mk a.x0 a.x4 (w64 (a.x6 + 1)) (w64 (a.x6 + 1)) (a.r0 ++ [r4])))) else none)) else none) else (some (.inl (QQ.mk a.x0 a.x4 a.x5 (w64 (a.x6 + 1)) a.r0)))) else (some (.inl (QQ.mk a.x0 a.x4 a.x5 (w64 (a.x6 + 1)) a.r0)))))) else none) else (bif (a.x6 == ((a.x0.size : Nat) : Int)) then (bif (decide (0 ≤ a.x5 ∧ a.x5 ≤ a.x6 ∧ a.x6 ≤ ((a.x0.size : Nat) : Int))) then ((C0 (a.x0.extract (Int.toNat a.x5) (Int.toNat a.x6))).bind fun r5 => (bif (decide ((a.r0.length + [r5].length) * 16 ≤ most)) then (some (.inl (QQ.mk a.x0 a.x4 (w64 (a.x6 + 1)) (w64 (a.x6 + 1)) (a.r0 ++ [r5])))) else none)) else none) else (bif (decide (0 ≤ a.x6 ∧ a.x6 < ((a.x0.size : Nat) : Int))) then (bif (((a.x0.data.getD (Int.toNat a.x6) 0).toNat : Int) == 44) then (bif (!a.x4) then (bif (decide (0 ≤ a.x5 ∧ a.x5 ≤ a.x6 ∧ a.x6 ≤ ((a.x0.size : Nat) : Int))) then ((C0 (a.x0.extract (Int.toNat a.x5) (Int.toNat a.x6))).bind fun r6 => (bif (decide ((a.r0.length + [r6].length) * 16 ≤ most)) then (some (.inl (QQ.mk a.x0 a.x4 (w64 (a.x6 + 1)) (w64 (a.x6 + 1)) (a.r0 ++ [r6])))) else none)) else none) else (some (.inl (QQ.mk a.x0 a.x4 a.x5 (w64 (a.x6 + 1)) a.r0)))) else (some (.inl (QQ.mk a.x0 a.x4 a.x5 (w64 (a.x6 + 1)) a.r0)))) else none))) else (some (.inr a.r0)))
noncomputable def Vl : Qhd := loopW (GF Wh)
theorem Vl.eq (a : QQ) : Vl a = (GF Wh a).bind (Sum.elim Vl some) := Ja _ _
noncomputable abbrev Qm0 {ρ R : Type} (a : QQ) (k0 : (List ByteArray) → Tr ρ R) : Tr ρ R := .loop (loopAt pp 55 4) (Vs a) (Vl a) QaC k0
noncomputable def Qm1 (a : QQ) : Tr (QQ ⊕ (List ByteArray)) XS := (.as (decide (a.x6 ≤ (zz a.x0))) (let u145 := (decide (a.x6 < (zz a.x0))); .as u145 (yesN 2 u145 (let u142 := (in1 a.x6 (zz a.x0)); .as u142 (yesN 2 u145 (.as ((gb a.x0 a.x6) == 34) (let u139 := (a.x6 == (zz a.x0)); .as u139 (yesN 6 u139 (.yes true (.as (in2 a.x5 a.x6 (zz a.x0)) (ZM (cu a.x0 a.x5 a.x6) fun r1 => (.rows [[xs r1]] (Qg [r1]) (.yes (decide ((Qg [r1]).all (fun r => r.length == 1) = true)) (.ask (decide (((Qg a.r0).length + (Qg [r1]).length) * 16 ≤ most)) (decide ((a.r0.length + [r1].length) * 16 ≤ most)) (.rows ((Qg a.r0) ++ (Qg [r1])) (Qg (a.r0 ++ [r1])) (lf Vs (QQ.mk a.x0 (!a.x4) (w64 (a.x6 + 1)) (w64 (a.x6 + 1)) (a.r0 ++ [r1])))) .fail)))) .fail))) (noN 2 u139 (.yes u142 (noN 2 u139 (let u138 := ((gb a.x0 a.x6) == 44); .as u138 (.yes u138 (.no u139 (.yes u138 (.no u139 (.as (!(!a.x4)) (.as (in2 a.x5 a.x6 (zz a.x0)) (ZM (cu a.x0 a.x5 a.x6) fun r2 => (.rows [[xs r2]] (Qg [r2]) (.yes (decide ((Qg [r2]).all (fun r => r.length == 1) = true)) (.ask (decide (((Qg a.r0).length + (Qg [r2]).length) * 16 ≤ most)) (decide ((a.r0.length + [r2].length) * 16 ≤ most)) (.rows ((Qg a.r0) ++ (Qg [r2])) (Qg (a.r0 ++ [r2])) (lf Vs (QQ.mk a.x0 (!a.x4) (w64 (a.x6 + 1)) (w64 (a.x6 + 1)) (a.r0 ++ [r2])))) .fail)))) .fail) (lf Vs (QQ.mk a.x0 (!a.x4) a.x5 (w64 (a.x6 + 1)) a.r0))))))) (.no u138 (.no u139 (.no u138 (.no u139 (.no false (lf Vs (QQ.mk a.x0 (!a.x4) a.x5 (w64 (a.x6 + 1)) a.r0)))))))))))) (let u141 := (a.x6 == (zz a.x0)); .as u141 (yesN 6 u141 (.yes true (.as (in2 a.x5 a.x6 (zz a.x0)) (ZM (cu a.x0 a.x5 a.x6) fun r3 => (.rows [[xs r3]] (Qg [r3]) (.yes (decide ((Qg [r3]).all (fun r => r.length == 1) = true)) (.ask (decide (((Qg a.r0).length + (Qg [r3]).length) * 16 ≤ most)) (decide ((a.r0.length + [r3].length) * 16 ≤ most)) (.rows ((Qg a.r0) ++ (Qg [r3])) (Qg (a.r0 ++ [r3])) (lf Vs (QQ.mk a.x0 a.x4 (w64 (a.x6 + 1)) (w64 (a.x6 + 1)) (a.r0 ++ [r3])))) .fail)))) .fail))) (noN 2 u141 (.yes u142 (noN 2 u141 (let u140 := ((gb a.x0 a.x6) == 44); .as u140 (.yes u140 (.no u141 (.yes u140 (.no u141 (.as (!a.x4) (.as (in2 a.x5 a.x6 (zz a.x0)) (ZM (cu a.x0 a.x5 a.x6) fun r4 => (.rows [[xs r4]] (Qg [r4]) (.yes (decide ((Qg [r4]).all (fun r => r.length == 1) = true)) (.ask (decide (((Qg a.r0).length + (Qg [r4]).length) * 16 ≤ most)) (decide ((a.r0.length + [r4].length) * 16 ≤ most)) (.rows ((Qg a.r0) ++ (Qg [r4])) (Qg (a.r0 ++ [r4])) (lf Vs (QQ.mk a.x0 a.x4 (w64 (a.x6 + 1)) (w64 (a.x6 + 1)) (a.r0 ++ [r4])))) .fail)))) .fail) (lf Vs (QQ.mk a.x0 a.x4 a.x5 (w64 (a.x6 + 1)) a.r0))))))) (.no u140 (.no u141 (.no u140 (.no u141 (.no false (lf Vs (QQ.mk a.x0 a.x4 a.x5 (w64 (a.x6 + 1)) a.r0)))))))))))))) .fail)) (noN 4 u145 (.no false (let u144 := (a.x6 == (zz a.x0)); .as u144 (yesN 6 u144 (.yes true (.as (in2 a.x5 a.x6 (zz a.x0)) (ZM (cu a.x0 a.x5 a.x6) fun r5 => (.rows [[xs r5]] (Qg [r5]) (.yes (decide ((Qg [r5]).all (fun r => r.length == 1) = true)) (.ask (decide (((Qg a.r0).length + (Qg [r5]).length) * 16 ≤ most)) (decide ((a.r0.length + [r5].length) * 16 ≤ most)) (.rows ((Qg a.r0) ++ (Qg [r5])) (Qg (a.r0 ++ [r5])) (lf Vs (QQ.mk a.x0 a.x4 (w64 (a.x6 + 1)) (w64 (a.x6 + 1)) (a.r0 ++ [r5])))) .fail)))) .fail))) (noN 2 u144 (.as (in1 a.x6 (zz a.x0)) (noN 2 u144 (let u143 := ((gb a.x0 a.x6) == 44); .as u143 (.yes u143 (.no u144 (.yes u143 (.no u144 (.as (!a.x4) (.as (in2 a.x5 a.x6 (zz a.x0)) (ZM (cu a.x0 a.x5 a.x6) fun r6 => (.rows [[xs r6]] (Qg [r6]) (.yes (decide ((Qg [r6]).all (fun r => r.length == 1) = true)) (.ask (decide (((Qg a.r0).length + (Qg [r6]).length) * 16 ≤ most)) (decide ((a.r0.length + [r6].length) * 16 ≤ most)) (.rows ((Qg a.r0) ++ (Qg [r6])) (Qg (a.r0 ++ [r6])) (lf Vs (QQ.mk a.x0 a.x4 (w64 (a.x6 + 1)) (w64 (a.x6 + 1)) (a.r0 ++ [r6])))) .fail)))) .fail) (lf Vs (QQ.mk a.x0 a.x4 a.x5 (w64 (a.x6 + 1)) a.r0))))))) (.no u143 (.no u144 (.no u143 (.no u144 (.no false (lf Vs (QQ.mk a.x0 a.x4 a.x5 (w64 (a.x6 + 1)) a.r0))))))))) .fail)))))) (rx QaC a.r0))
theorem Vl.ok {a : QQ} {r : (List ByteArray)} (h : Vl a = some r) : lw 0 55 (loopAt pp 55 4) (Vs a) = some (QaC r) := by
 refine lpP h Qm1 fun a => ?_
 exact ⟨rfl, fun q0 => ⟨rfl, fun q1 => Qj 2 (q1) (⟨rfl, fun q2 => Qj 2 (q1) (⟨rfl, fun q3 => ⟨rfl, fun q4 => Qj 6 (q4) (⟨rfl, ⟨rfl, fun q5 => fun r1 h => ⟨Wh.ok h, ⟨(QP [r1]), ⟨(decide_eq_true (Uc _)), ⟨(by rw [Qo, Qo]), fun q6 => ⟨(U0 _ _), rfl⟩, fun q6 => trivial⟩⟩⟩⟩, fun q5 => trivial⟩⟩), fun q4 => noN_ok 2 (q4) (⟨q2, noN_ok 2 (q4) (⟨rfl, fun q5 => ⟨q5, ⟨q4, ⟨q5, ⟨q4, ⟨rfl, fun q6 => ⟨rfl, fun q7 => fun r2 h => ⟨Wh.ok h, ⟨(QP [r2]), ⟨(decide_eq_true (Uc _)), ⟨(by rw [Qo, Qo]), fun q8 => ⟨(U0 _ _), rfl⟩, fun q8 => trivial⟩⟩⟩⟩, fun q7 => trivial⟩, fun q6 => rfl⟩⟩⟩⟩⟩, fun q5 => ⟨q5, ⟨q4, ⟨q5, ⟨q4, ⟨rfl, rfl⟩⟩⟩⟩⟩⟩)⟩)⟩, fun q3 => ⟨rfl, fun q4 => Qj 6 (q4) (⟨rfl, ⟨rfl, fun q5 => fun r3 h => ⟨Wh.ok h, ⟨(QP [r3]), ⟨(decide_eq_true (Uc _)), ⟨(by rw [Qo, Qo]), fun q6 => ⟨(U0 _ _), rfl⟩, fun q6 => trivial⟩⟩⟩⟩, fun q5 => trivial⟩⟩), fun q4 => noN_ok 2 (q4) (⟨q2, noN_ok 2 (q4) (⟨rfl, fun q5 => ⟨q5, ⟨q4, ⟨q5, ⟨q4, ⟨rfl, fun q6 => ⟨rfl, fun q7 => fun r4 h => ⟨Wh.ok h, ⟨(QP [r4]), ⟨(decide_eq_true (Uc _)), ⟨(by rw [Qo, Qo]), fun q8 => ⟨(U0 _ _), rfl⟩, fun q8 => trivial⟩⟩⟩⟩, fun q7 => trivial⟩, fun q6 => rfl⟩⟩⟩⟩⟩, fun q5 => ⟨q5, ⟨q4, ⟨q5, ⟨q4, ⟨rfl, rfl⟩⟩⟩⟩⟩⟩)⟩)⟩⟩), fun q2 => trivial⟩), fun q1 => noN_ok 4 (q1) (⟨rfl, ⟨rfl, fun q2 => Qj 6 (q2) (⟨rfl, ⟨rfl, fun q3 => fun r5 h => ⟨Wh.ok h, ⟨(QP [r5]), ⟨(decide_eq_true (Uc _)), ⟨(by rw [Qo, Qo]), fun q4 => ⟨(U0 _ _), rfl⟩, fun q4 => trivial⟩⟩⟩⟩, fun q3 => trivial⟩⟩), fun q2 => noN_ok 2 (q2) (⟨rfl, fun q3 => noN_ok 2 (q2) (⟨rfl, fun q4 => ⟨q4, ⟨q2, ⟨q4, ⟨q2, ⟨rfl, fun q5 => ⟨rfl, fun q6 => fun r6 h => ⟨Wh.ok h, ⟨(QP [r6]), ⟨(decide_eq_true (Uc _)), ⟨(by rw [Qo, Qo]), fun q7 => ⟨(U0 _ _), rfl⟩, fun q7 => trivial⟩⟩⟩⟩, fun q6 => trivial⟩, fun q5 => rfl⟩⟩⟩⟩⟩, fun q4 => ⟨q4, ⟨q2, ⟨q4, ⟨q2, ⟨rfl, rfl⟩⟩⟩⟩⟩⟩), fun q3 => trivial⟩)⟩⟩)⟩, fun q0 => rfl⟩
def QeK (L0 : Qhd) (a0 : ByteArray) : Option (List ByteArray) := ((L0 (QQ.mk a0 false (0 : Int) (0 : Int) ([] : List ByteArray))).bind (fun (o1 : (List ByteArray)) => (some o1)))
noncomputable def Zg : Ql5 := QeK Vl
theorem Zg.eq (a0 : ByteArray) : Zg a0 = QeK Vl a0 := rfl
noncomputable def Qq9 (a0 : ByteArray) : Tr (List ByteArray) AH := (Qm0 (QQ.mk a0 false i0 i0 ([] : List ByteArray)) (fun o1 => (rt Jg o1)))
theorem Zg.ok {a0 : ByteArray} {r : (List ByteArray)} (h : Zg a0 = some r) : ww 55 [xs a0] [] = some (Jg r) := by
 refine fnP (Qq9 a0) ?_ h
 exact fun o1 h => ⟨Vl.ok h, rfl⟩
noncomputable abbrev Qra {ρ R : Type} (a0 : ByteArray) (k : (List ByteArray) → Tr ρ R) : Tr ρ R := .call (ww 55 [xs a0] []) (Zg a0) Jg k
abbrev QpW := ByteArray → Option Int
structure V2 where
 x0 : ByteArray
 x3 : Int
 x4 : Int
def Qdb (a : V2) : St := { n := 55, nx := 0, env := [(0, xs a.x0), (3, xi a.x3), (4, xi a.x4)], heap := [] }
def Qhe (a : Int) : Ex × St := (.ret, { n := 55, nx := 0, env := [(2, xi a)], heap := [] })
def Qhf (a : Int) : Ex × St := (.exit 0, { n := 55, nx := 0, env := [(3, xi a)], heap := [] })
def SL (a : (Int ⊕ Int)) : Ex × St := Sum.elim Qhe Qhf a
abbrev Qkt := V2 → Option (Int ⊕ Int)
def SM (a : V2) : Option (V2 ⊕ (Int ⊕ Int)) := (bif (decide (a.x4 < ((a.x0.size : Nat) : Int))) then (bif (decide (0 ≤ a.x4 ∧ a.x4 < ((a.x0.size : Nat) : Int))) then (bif (decide (((a.x0.data.getD (Int.toNat a.x4) 0).toNat : Int) < 48)) then (some (.inr (.inl (-1 : Int)))) else (bif (decide (((a.x0.data.getD (Int.toNat a.x4) 0).toNat : Int) > 57)) then (some (.inr (.inl (-1 : Int)))) else (some (.inl (V2.mk a.x0 (w64 ((w64 ((10 : Int) * a.x3)) + (w64 (IntKind.u8.wrap (((a.x0.data.getD (Int.toNat a.x4) 0).toNat : Int) - 48))))) (w64 (a.x4 + 1))))))) else none) else (some (.inr (.inr a.x3))))
noncomputable def UY : Qkt := loopW (SM )
theorem UY.eq (a : V2) : UY a = (SM a).bind (Sum.elim UY some) := Ja _ _
noncomputable abbrev QiO {ρ R : Type} (a : V2) (k0 : Int → Tr ρ R) (k1 : Int → Tr ρ R) : Tr ρ R := .loop2 (loopAt pp 205 5) (Qdb a) (UY a) Qhe Qhf k0 k1
noncomputable def Qpu (a : V2) : Tr (V2 ⊕ (Int ⊕ Int)) XS := (.as (decide (a.x4 < (zz a.x0))) (let u147 := (in1 a.x4 (zz a.x0)); .as u147 (let u146 := (decide ((gb a.x0 a.x4) < 48)); .as u146 (yesN 4 u146 (.yes true (rx SL (.inl (-1 : Int))))) (noN 2 u146 (.yes u147 (noN 2 u146 (.as (decide ((gb a.x0 a.x4) > 57)) (rx SL (.inl (-1 : Int))) (.yes u147 (lf Qdb (V2.mk a.x0 (w64 ((w64 ((zi 10) * a.x3)) + (w64 (IntKind.u8.wrap ((gb a.x0 a.x4) - 48))))) (w64 (a.x4 + 1)))))))))) .fail) (rx SL (.inr a.x3)))
theorem UY.ok {a : V2} {r : (Int ⊕ Int)} (h : UY a = some r) : lw 0 205 (loopAt pp 205 5) (Qdb a) = some (SL r) := by
 refine lpP h Qpu fun a => ?_
 exact ⟨rfl, fun q0 => ⟨rfl, fun q1 => ⟨rfl, fun q2 => Qj 4 (q2) (⟨rfl, rfl⟩), fun q2 => noN_ok 2 (q2) (⟨q1, noN_ok 2 (q2) (⟨rfl, fun q3 => rfl, fun q3 => ⟨q1, rfl⟩⟩)⟩)⟩, fun q1 => trivial⟩, fun q0 => rfl⟩
def Qju (L0 : Qkt) (a0 : ByteArray) : Option Int := (bif (decide (((a0.size : Nat) : Int) < 2)) then (some (-1 : Int)) else (bif (decide (((a0.size : Nat) : Int) > 3)) then (some (-1 : Int)) else (bif (decide (0 ≤ (0 : Int) ∧ (0 : Int) < ((a0.size : Nat) : Int))) then (bif (((a0.data.getD (Int.toNat 0) 0).toNat : Int) != 114) then (some (-1 : Int)) else (bif (decide (0 ≤ (1 : Int) ∧ (1 : Int) < ((a0.size : Nat) : Int))) then (bif (((a0.data.getD (Int.toNat 1) 0).toNat : Int) == 48) then (bif (decide (((a0.size : Nat) : Int) > 2)) then (some (-1 : Int)) else ((L0 (V2.mk a0 (0 : Int) (1 : Int))).bind fun x => Sum.elim (fun (o1 : Int) => (some o1)) (fun (o2 : Int) => (bif (decide (o2 > 31)) then (some (-1 : Int)) else (some o2))) x)) else ((L0 (V2.mk a0 (0 : Int) (1 : Int))).bind fun x => Sum.elim (fun (o3 : Int) => (some o3)) (fun (o4 : Int) => (bif (decide (o4 > 31)) then (some (-1 : Int)) else (some o4))) x)) else none)) else none)))
noncomputable def Fa : QpW := Qju UY
theorem Fa.eq (a0 : ByteArray) : Fa a0 = Qju UY a0 := rfl
noncomputable def Qs8 (a0 : ByteArray) : Tr Int AH := (let u151 := (decide ((zz a0) < 2)); .as u151 (yesN 3 u151 (yesN 11 true (rt Qm (-1 : Int)))) (noN 3 u151 (let u150 := (decide ((zz a0) > 3)); .as u150 (yesN 3 u150 (yesN 7 true (rt Qm (-1 : Int)))) (.no u150 (.as (in1 i0 (zz a0)) (noN 2 u150 (let u149 := ((gb a0 i0) != 114); .as u149 (yesN 5 u149 (.yes true (rt Qm (-1 : Int)))) (.no u149 (.as (in1 (zi 1) (zz a0)) (noN 2 u149 (let u148 := ((gb a0 (zi 1)) == 48); .as u148 (yesN 2 u148 (.no u149 (.yes u148 (.no u149 (.as (decide ((zz a0) > 2)) (rt Qm (-1 : Int)) (QiO (V2.mk a0 i0 (zi 1)) (fun o1 => (rt Qm o1)) (fun o2 => (.as (decide (o2 > 31)) (rt Qm (-1 : Int)) (rt Qm o2))))))))) (noN 2 u148 (.no u149 (.no u148 (.no u149 (.no false (QiO (V2.mk a0 i0 (zi 1)) (fun o3 => (rt Qm o3)) (fun o4 => (.as (decide (o4 > 31)) (rt Qm (-1 : Int)) (rt Qm o4))))))))))) .fail)))) .fail)))))
theorem Fa.ok {a0 : ByteArray} {r : Int} (h : Fa a0 = some r) : ww 205 [xs a0] [] = some (Qm r) := by
 refine fnP (Qs8 a0) ?_ h
 exact ⟨rfl, fun q0 => Qj 3 (q0) (Qj 11 (rfl) (rfl)), fun q0 => noN_ok 3 (q0) (⟨rfl, fun q1 => Qj 3 (q1) (Qj 7 (rfl) (rfl)), fun q1 => ⟨q1, ⟨rfl, fun q2 => noN_ok 2 (q1) (⟨rfl, fun q3 => Qj 5 (q3) (⟨rfl, rfl⟩), fun q3 => ⟨q3, ⟨rfl, fun q4 => noN_ok 2 (q3) (⟨rfl, fun q5 => Qj 2 (q5) (⟨q3, ⟨q5, ⟨q3, ⟨rfl, fun q6 => rfl, fun q6 => ⟨fun o1 h => ⟨UY.ok (r := (.inl _)) h, rfl⟩, fun o2 h => ⟨UY.ok (r := (.inr _)) h, ⟨rfl, fun q7 => rfl, fun q7 => rfl⟩⟩⟩⟩⟩⟩⟩), fun q5 => noN_ok 2 (q5) (⟨q3, ⟨q5, ⟨q3, ⟨rfl, ⟨fun o3 h => ⟨UY.ok (r := (.inl _)) h, rfl⟩, fun o4 h => ⟨UY.ok (r := (.inr _)) h, ⟨rfl, fun q6 => rfl, fun q6 => rfl⟩⟩⟩⟩⟩⟩⟩)⟩), fun q4 => trivial⟩⟩⟩), fun q2 => trivial⟩⟩⟩)⟩
noncomputable abbrev Qs9 {ρ R : Type} (a0 : ByteArray) (k : Int → Tr ρ R) : Tr ρ R := .call (ww 205 [xs a0] []) (Fa a0) Qm k
def QeL (r : (Qc × Bool)) : AV × Heap := (.tup [.agg (Xi r.1), xo r.2], [])
abbrev QpX := ByteArray → Bool → Option (Qc × Bool)
def Qjv (C0 : QpW) (C1 : Qg3) (a0 : ByteArray) (a1 : Bool) : Option (Qc × Bool) := (bif a1 then ((C0 a0).bind fun r1 => (some ((Qc.mk (if (0 : Int) > r1 then (0 : Int) else r1) (Qa.mk (0 : Int) (0 : Int) s_ ([] : List Qa))), (decide (r1 ≥ 0))))) else ((C1 a0).bind fun r2 => (some ((Qc.mk (-1 : Int) r2.1), r2.2))))
noncomputable def Ep : QpX := Qjv Fa W1
theorem Ep.eq (a0 : ByteArray) (a1 : Bool) : Ep a0 a1 = Qjv Fa W1 a0 a1 := rfl
noncomputable def Qta (a0 : ByteArray) (a1 : Bool) : Tr (Qc × Bool) AH := (.as a1 (Qs9 a0 fun r1 => (rt QeL ((Qc.mk (if i0 > r1 then i0 else r1) (Qa.mk i0 i0 s_ ([] : List Qa))), (decide (r1 ≥ 0))))) (QeH a0 fun r2 => (rt QeL ((Qc.mk (-1 : Int) r2.1), r2.2))))
theorem Ep.ok {a0 : ByteArray} {a1 : Bool} {r : (Qc × Bool)} (h : Ep a0 a1 = some r) : ww 158 [xs a0, xo a1] [] = some (QeL r) := by
 refine fnP (Qta a0 a1) ?_ h
 exact ⟨rfl, fun q0 => fun r1 h => ⟨Fa.ok h, rfl⟩, fun q0 => fun r2 h => ⟨W1.ok h, rfl⟩⟩
noncomputable abbrev Qoh {ρ R : Type} (a0 : ByteArray) (a1 : Bool) (k : (Qc × Bool) → Tr ρ R) : Tr ρ R := .call (ww 158 [xs a0, xo a1] []) (Ep a0 a1) QeL k
def QcI (r : ((List Qc) × Bool)) : AV × Heap := (.tup [.sl (Qi r.1), xo r.2], [])
abbrev Qjw := (List ByteArray) → (List ByteArray) → Option ((List Qc) × Bool)
structure UZ where
 x0 : (List ByteArray)
 x1 : (List ByteArray)
 x7 : Int
 r0 : (List Qc)
structure Vt where
 x4 : (List Qc)
 x5 : Bool
def PD (a : UZ) : St := { n := 42, nx := 1, env := [(0, .sl (Qg a.x0)), (1, .sl (Qg a.x1)), (6, .arr 0), (7, xi a.x7)], heap := [(0, .arr true 5 (Qi a.r0))] }
def Qfv (a : Vt) : Ex × St := (.ret, { n := 42, nx := 0, env := [(4, .sl (Qi a.x4)), (5, xo a.x5)], heap := [] })
def Qfw (a : (List Qc)) : Ex × St := (.exit 0, { n := 42, nx := 1, env := [(6, .arr 0)], heap := [(0, .arr true 5 (Qi a))] })
def PE (a : (Vt ⊕ (List Qc))) : Ex × St := Sum.elim Qfv Qfw a
abbrev QiP := UZ → Option (Vt ⊕ (List Qc))
def PF (C0 : QbZ) (C1 : QpX) (a : UZ) : Option (UZ ⊕ (Vt ⊕ (List Qc))) := (bif (decide (a.x7 < (((a.x0.length) : Nat) : Int))) then (bif (decide (a.x7 < (((a.x1.length) : Nat) : Int))) then (bif (decide (0 ≤ a.x7)) then ((a.x1[(Int.toNat a.x7)]?).bind fun e1 => ((C0 e1).bind fun r2 => ((a.x0[(Int.toNat a.x7)]?).bind fun e3 => ((C1 e3 r2).bind fun r4 => (bif (!r4.2) then (some (.inr (.inl (Vt.mk ([] : List Qc) false)))) else (bif (decide ((a.r0.length + [r4.1].length) * 64 ≤ most)) then (some (.inl (UZ.mk a.x0 a.x1 (w64 (a.x7 + 1)) (a.r0 ++ [r4.1])))) else none)))))) else none) else (bif (decide (0 ≤ a.x7)) then ((a.x0[(Int.toNat a.x7)]?).bind fun e5 => ((C1 e5 false).bind fun r6 => (bif (!r6.2) then (some (.inr (.inl (Vt.mk ([] : List Qc) false)))) else (bif (decide ((a.r0.length + [r6.1].length) * 64 ≤ most)) then (some (.inl (UZ.mk a.x0 a.x1 (w64 (a.x7 + 1)) (a.r0 ++ [r6.1])))) else none)))) else none)) else (some (.inr (.inr a.r0))))
noncomputable def V6 : QiP := loopW (PF JG Ep)
theorem V6.eq (a : UZ) : V6 a = (PF JG Ep a).bind (Sum.elim V6 some) := Ja _ _
noncomputable abbrev Qoi {ρ R : Type} (a : UZ) (k0 : Vt → Tr ρ R) (k1 : (List Qc) → Tr ρ R) : Tr ρ R := .loop2 (loopAt pp 101 3) (PD a) (V6 a) Qfv Qfw k0 k1
noncomputable def Qoj (a : UZ) : Tr (UZ ⊕ (Vt ⊕ (List Qc))) XS := (.num ((Qg a.x0).length) (a.x0.length) (.as (decide (a.x7 < (((a.x0.length) : Nat) : Int))) (.num ((Qg a.x1).length) (a.x1.length) (.as (decide (a.x7 < (((a.x1.length) : Nat) : Int))) (let u152 := (decide (0 ≤ a.x7)); .as u152 (.row ((Qg a.x1)[(Int.toNat a.x7)]?) (a.x1[(Int.toNat a.x7)]?) QW fun (e1 : ByteArray) => (Qfl e1 fun r2 => (.yes u152 (.row ((Qg a.x0)[(Int.toNat a.x7)]?) (a.x0[(Int.toNat a.x7)]?) QW fun (e3 : ByteArray) => (Qoh e3 r2 fun r4 => (.as (!r4.2) (rx PE (.inl (Vt.mk ([] : List Qc) false))) (.rows [[xi r4.1.Reg, xi r4.1.E.Kind, xi r4.1.E.N, xs r4.1.E.Name, .sl (QK r4.1.E.L)]] (Qi [r4.1]) (.yes (decide ((Qi [r4.1]).all (fun r => r.length == 5) = true)) (.ask (decide (((Qi a.r0).length + (Qi [r4.1]).length) * 64 ≤ most)) (decide ((a.r0.length + [r4.1].length) * 64 ≤ most)) (.rows ((Qi a.r0) ++ (Qi [r4.1])) (Qi (a.r0 ++ [r4.1])) (lf PD (UZ.mk a.x0 a.x1 (w64 (a.x7 + 1)) (a.r0 ++ [r4.1])))) .fail))))))))) .fail) (.as (decide (0 ≤ a.x7)) (.row ((Qg a.x0)[(Int.toNat a.x7)]?) (a.x0[(Int.toNat a.x7)]?) QW fun (e5 : ByteArray) => (Qoh e5 false fun r6 => (.as (!r6.2) (rx PE (.inl (Vt.mk ([] : List Qc) false))) (.rows [[xi r6.1.Reg, xi r6.1.E.Kind, xi r6.1.E.N, xs r6.1.E.Name, .sl (QK r6.1.E.L)]] (Qi [r6.1]) (.yes (decide ((Qi [r6.1]).all (fun r => r.length == 5) = true)) (.ask (decide (((Qi a.r0).length + (Qi [r6.1]).length) * 64 ≤ most)) (decide ((a.r0.length + [r6.1].length) * 64 ≤ most)) (.rows ((Qi a.r0) ++ (Qi [r6.1])) (Qi (a.r0 ++ [r6.1])) (lf PD (UZ.mk a.x0 a.x1 (w64 (a.x7 + 1)) (a.r0 ++ [r6.1])))) .fail)))))) .fail))) (rx PE (.inr a.r0))))
theorem V6.ok {a : UZ} {r : (Vt ⊕ (List Qc))} (h : V6 a = some r) : lw 0 101 (loopAt pp 101 3) (PD a) = some (PE r) := by
 refine lpP h Qoj fun a => ?_
 exact ⟨(Qo _), ⟨rfl, fun q0 => ⟨(Qo _), ⟨rfl, fun q1 => ⟨rfl, fun q2 => fun e1 h => ⟨QO h, fun r2 h => ⟨JG.ok h, ⟨q2, fun e3 h => ⟨QO h, fun r4 h => ⟨Ep.ok h, ⟨rfl, fun q3 => rfl, fun q3 => ⟨(JE [r4.1]), ⟨(decide_eq_true (V8 _)), ⟨(by rw [Jf, Jf]), fun q4 => ⟨(U8 _ _), rfl⟩, fun q4 => trivial⟩⟩⟩⟩⟩⟩⟩⟩⟩, fun q2 => trivial⟩, fun q1 => ⟨rfl, fun q2 => fun e5 h => ⟨QO h, fun r6 h => ⟨Ep.ok h, ⟨rfl, fun q3 => rfl, fun q3 => ⟨(JE [r6.1]), ⟨(decide_eq_true (V8 _)), ⟨(by rw [Jf, Jf]), fun q4 => ⟨(U8 _ _), rfl⟩, fun q4 => trivial⟩⟩⟩⟩⟩⟩, fun q2 => trivial⟩⟩⟩, fun q0 => rfl⟩⟩
def Qhg (L0 : QiP) (a0 : (List ByteArray)) (a1 : (List ByteArray)) : Option ((List Qc) × Bool) := ((L0 (UZ.mk a0 a1 (0 : Int) ([] : List Qc))).bind fun x => Sum.elim (fun (o1 : Vt) => (some (o1.x4, o1.x5))) (fun (o2 : (List Qc)) => (some (o2, true))) x)
noncomputable def VM : Qjw := Qhg V6
theorem VM.eq (a0 : (List ByteArray)) (a1 : (List ByteArray)) : VM a0 a1 = Qhg V6 a0 a1 := rfl
noncomputable def Qr8 (a0 : (List ByteArray)) (a1 : (List ByteArray)) : Tr ((List Qc) × Bool) AH := (Qoi (UZ.mk a0 a1 i0 ([] : List Qc)) (fun o1 => (rt QcI (o1.x4, o1.x5))) (fun o2 => (rt QcI (o2, true))))
theorem VM.ok {a0 : (List ByteArray)} {a1 : (List ByteArray)} {r : ((List Qc) × Bool)} (h : VM a0 a1 = some r) : ww 101 [.sl (Qg a0), .sl (Qg a1)] [] = some (QcI r) := by
 refine fnP (Qr8 a0 a1) ?_ h
 exact ⟨fun o1 h => ⟨V6.ok (r := (.inl _)) h, rfl⟩, fun o2 h => ⟨V6.ok (r := (.inr _)) h, rfl⟩⟩
noncomputable abbrev YU {ρ R : Type} (a0 : (List ByteArray)) (a1 : (List ByteArray)) (k : ((List Qc) × Bool) → Tr ρ R) : Tr ρ R := .call (ww 101 [.sl (Qg a0), .sl (Qg a1)] []) (VM a0 a1) QcI k
def YV (r : (ByteArray × Bool)) : AV × Heap := (.tup [xs r.1, xo r.2], [])
abbrev Qku := ByteArray → Option (ByteArray × Bool)
structure Vq where
 x0 : ByteArray
 x4 : Int
structure UL where
 x2 : ByteArray
 x3 : Bool
def Sq (a : Vq) : St := { n := 54, nx := 0, env := [(0, xs a.x0), (4, xi a.x4)], heap := [] }
def QcJ (a : UL) : Ex × St := (.ret, { n := 54, nx := 0, env := [(2, xs a.x2), (3, xo a.x3)], heap := [] })
def QcK (a : ByteArray) : Ex × St := (.exit 0, { n := 54, nx := 0, env := [(0, xs a)], heap := [] })
def Gp (a : (UL ⊕ ByteArray)) : Ex × St := Sum.elim QcJ QcK a
abbrev Qfx := Vq → Option (UL ⊕ ByteArray)
def EG (a : Vq) : Option (Vq ⊕ (UL ⊕ ByteArray)) := (bif (decide (a.x4 < (w64 (((a.x0.size : Nat) : Int) - 1)))) then (bif (decide (0 ≤ a.x4 ∧ a.x4 < ((a.x0.size : Nat) : Int))) then (bif (decide (((a.x0.data.getD (Int.toNat a.x4) 0).toNat : Int) < 32)) then (some (.inr (.inl (UL.mk s_ false)))) else (bif (decide (((a.x0.data.getD (Int.toNat a.x4) 0).toNat : Int) > 126)) then (some (.inr (.inl (UL.mk s_ false)))) else (bif (((a.x0.data.getD (Int.toNat a.x4) 0).toNat : Int) == 34) then (some (.inr (.inl (UL.mk s_ false)))) else (some (.inl (Vq.mk a.x0 (w64 (a.x4 + 1)))))))) else none) else (some (.inr (.inr a.x0))))
noncomputable def VA : Qfx := loopW (EG )
theorem VA.eq (a : Vq) : VA a = (EG a).bind (Sum.elim VA some) := Ja _ _
noncomputable abbrev Qlq {ρ R : Type} (a : Vq) (k0 : UL → Tr ρ R) (k1 : ByteArray → Tr ρ R) : Tr ρ R := .loop2 (loopAt pp 100 4) (Sq a) (VA a) QcJ QcK k0 k1
noncomputable def Qlr (a : Vq) : Tr (Vq ⊕ (UL ⊕ ByteArray)) XS := (.as (decide (a.x4 < (w64 ((zz a.x0) - 1)))) (let u155 := (in1 a.x4 (zz a.x0)); .as u155 (let u154 := (decide ((gb a.x0 a.x4) < 32)); .as u154 (yesN 4 u154 (yesN 6 true (rx Gp (.inl (UL.mk s_ false))))) (noN 2 u154 (.yes u155 (noN 2 u154 (let u153 := (decide ((gb a.x0 a.x4) > 126)); .as u153 (yesN 4 u153 (.yes true (rx Gp (.inl (UL.mk s_ false))))) (noN 2 u153 (.yes u155 (noN 2 u153 (.as ((gb a.x0 a.x4) == 34) (rx Gp (.inl (UL.mk s_ false))) (lf Sq (Vq.mk a.x0 (w64 (a.x4 + 1))))))))))))) .fail) (rx Gp (.inr a.x0)))
theorem VA.ok {a : Vq} {r : (UL ⊕ ByteArray)} (h : VA a = some r) : lw 0 100 (loopAt pp 100 4) (Sq a) = some (Gp r) := by
 refine lpP h Qlr fun a => ?_
 exact ⟨rfl, fun q0 => ⟨rfl, fun q1 => ⟨rfl, fun q2 => Qj 4 (q2) (Qj 6 (rfl) (rfl)), fun q2 => noN_ok 2 (q2) (⟨q1, noN_ok 2 (q2) (⟨rfl, fun q3 => Qj 4 (q3) (⟨rfl, rfl⟩), fun q3 => noN_ok 2 (q3) (⟨q1, noN_ok 2 (q3) (⟨rfl, fun q4 => rfl, fun q4 => rfl⟩)⟩)⟩)⟩)⟩, fun q1 => trivial⟩, fun q0 => rfl⟩
def Qdc (L0 : Qfx) (a0 : ByteArray) : Option (ByteArray × Bool) := (bif (decide (((a0.size : Nat) : Int) < 2)) then (some (s_, false)) else (bif (decide (0 ≤ (0 : Int) ∧ (0 : Int) < ((a0.size : Nat) : Int))) then (bif (((a0.data.getD (Int.toNat 0) 0).toNat : Int) != 34) then (some (s_, false)) else (bif (decide (0 ≤ (w64 (((a0.size : Nat) : Int) - 1)) ∧ (w64 (((a0.size : Nat) : Int) - 1)) < ((a0.size : Nat) : Int))) then (bif (((a0.data.getD (Int.toNat (w64 (((a0.size : Nat) : Int) - 1))) 0).toNat : Int) != 34) then (some (s_, false)) else (bif (decide (((a0.size : Nat) : Int) > 62)) then (some (s_, false)) else ((L0 (Vq.mk a0 (1 : Int))).bind fun x => Sum.elim (fun (o1 : UL) => (some (o1.x2, o1.x3))) (fun (o2 : ByteArray) => (bif (decide (0 ≤ (1 : Int) ∧ (1 : Int) ≤ (w64 (((o2.size : Nat) : Int) - 1)) ∧ (w64 (((o2.size : Nat) : Int) - 1)) ≤ ((o2.size : Nat) : Int))) then (some ((o2.extract (Int.toNat 1) (Int.toNat (w64 (((o2.size : Nat) : Int) - 1)))), true)) else none)) x))) else none)) else none))
noncomputable def Yx : Qku := Qdc VA
theorem Yx.eq (a0 : ByteArray) : Yx a0 = Qdc VA a0 := rfl
noncomputable def Qpv (a0 : ByteArray) : Tr (ByteArray × Bool) AH := (let u158 := (decide ((zz a0) < 2)); .as u158 (yesN 3 u158 (yesN 12 true (rt YV (s_, false)))) (.no u158 (.as (in1 i0 (zz a0)) (noN 2 u158 (let u157 := ((gb a0 i0) != 34); .as u157 (yesN 6 u157 (yesN 5 true (rt YV (s_, false)))) (noN 4 u157 (.as (in1 (w64 ((zz a0) - 1)) (zz a0)) (noN 2 u157 (let u156 := ((gb a0 (w64 ((zz a0) - 1))) != 34); .as u156 (yesN 3 u156 (.yes true (rt YV (s_, false)))) (noN 3 u156 (.as (decide ((zz a0) > 62)) (rt YV (s_, false)) (Qlq (Vq.mk a0 (zi 1)) (fun o1 => (rt YV (o1.x2, o1.x3))) (fun o2 => (.as (in2 (zi 1) (w64 ((zz o2) - 1)) (zz o2)) (rt YV ((cu o2 (zi 1) (w64 ((zz o2) - 1))), true)) .fail))))))) .fail)))) .fail)))
theorem Yx.ok {a0 : ByteArray} {r : (ByteArray × Bool)} (h : Yx a0 = some r) : ww 100 [xs a0] [] = some (YV r) := by
 refine fnP (Qpv a0) ?_ h
 exact ⟨rfl, fun q0 => Qj 3 (q0) (Qj 12 (rfl) (rfl)), fun q0 => ⟨q0, ⟨rfl, fun q1 => noN_ok 2 (q0) (⟨rfl, fun q2 => Qj 6 (q2) (Qj 5 (rfl) (rfl)), fun q2 => noN_ok 4 (q2) (⟨rfl, fun q3 => noN_ok 2 (q2) (⟨rfl, fun q4 => Qj 3 (q4) (⟨rfl, rfl⟩), fun q4 => noN_ok 3 (q4) (⟨rfl, fun q5 => rfl, fun q5 => ⟨fun o1 h => ⟨VA.ok (r := (.inl _)) h, rfl⟩, fun o2 h => ⟨VA.ok (r := (.inr _)) h, ⟨rfl, fun q6 => rfl, fun q6 => trivial⟩⟩⟩⟩)⟩), fun q3 => trivial⟩)⟩), fun q1 => trivial⟩⟩⟩
noncomputable abbrev Qpw {ρ R : Type} (a0 : ByteArray) (k : (ByteArray × Bool) → Tr ρ R) : Tr ρ R := .call (ww 100 [xs a0] []) (Yx a0) YV k
abbrev Ql6 := ByteArray → (List ByteArray) → Option (Qb × Bool)
def QeM (C0 : Qjw) (C1 : Qku) (C2 : Qjd) (a0 : ByteArray) (a1 : (List ByteArray)) : Option (Qb × Bool) := (bif (eqS a0 Q6) then (bif (decide ((((a1.length) : Nat) : Int) < 1)) then (some ((Qb.mk (0 : Int) s_ (3 : Int) (0 : Int) s_ ([] : List Qc)), false)) else (bif (decide ((((a1.length) : Nat) : Int) > 16)) then (some ((Qb.mk (0 : Int) s_ (3 : Int) (0 : Int) s_ ([] : List Qc)), false)) else ((C0 a1 ([] : List ByteArray)).bind fun r1 => (some ((Qb.mk (0 : Int) s_ (3 : Int) (0 : Int) s_ r1.1), r1.2))))) else (bif (eqS a0 Q7) then (bif (decide ((((a1.length) : Nat) : Int) < 1)) then (some ((Qb.mk (0 : Int) s_ (4 : Int) (0 : Int) s_ ([] : List Qc)), false)) else (bif (decide ((((a1.length) : Nat) : Int) > 16)) then (some ((Qb.mk (0 : Int) s_ (4 : Int) (0 : Int) s_ ([] : List Qc)), false)) else ((C0 a1 ([] : List ByteArray)).bind fun r2 => (some ((Qb.mk (0 : Int) s_ (4 : Int) (0 : Int) s_ r2.1), r2.2))))) else (bif (eqS a0 Q8) then (bif (decide ((((a1.length) : Nat) : Int) < 1)) then (some ((Qb.mk (0 : Int) s_ (5 : Int) (0 : Int) s_ ([] : List Qc)), false)) else (bif (decide ((((a1.length) : Nat) : Int) > 16)) then (some ((Qb.mk (0 : Int) s_ (5 : Int) (0 : Int) s_ ([] : List Qc)), false)) else ((C0 a1 ([] : List ByteArray)).bind fun r3 => (some ((Qb.mk (0 : Int) s_ (5 : Int) (0 : Int) s_ r3.1), r3.2))))) else (bif (eqS a0 Q0) then (bif (decide ((((a1.length) : Nat) : Int) < 1)) then (some ((Qb.mk (0 : Int) s_ (7 : Int) (0 : Int) s_ ([] : List Qc)), false)) else (bif (decide ((((a1.length) : Nat) : Int) > 1)) then (some ((Qb.mk (0 : Int) s_ (7 : Int) (0 : Int) s_ ([] : List Qc)), false)) else ((C0 a1 ([] : List ByteArray)).bind fun r4 => (some ((Qb.mk (0 : Int) s_ (7 : Int) (0 : Int) s_ r4.1), r4.2))))) else (bif (eqS a0 Q1) then (bif (decide ((((a1.length) : Nat) : Int) < 1)) then (some ((Qb.mk (0 : Int) s_ (8 : Int) (0 : Int) s_ ([] : List Qc)), false)) else (bif (decide ((((a1.length) : Nat) : Int) > 1)) then (some ((Qb.mk (0 : Int) s_ (8 : Int) (0 : Int) s_ ([] : List Qc)), false)) else ((C0 a1 ([] : List ByteArray)).bind fun r5 => (some ((Qb.mk (0 : Int) s_ (8 : Int) (0 : Int) s_ r5.1), r5.2))))) else (bif (eqS a0 J2) then (bif ((((a1.length) : Nat) : Int) != 1) then (some ((Qb.mk (0 : Int) s_ (0 : Int) (0 : Int) s_ ([] : List Qc)), false)) else ((a1[(Int.toNat 0)]?).bind fun e6 => ((C1 e6).bind fun r7 => (some ((Qb.mk (0 : Int) s_ (6 : Int) (0 : Int) r7.1 ([] : List Qc)), r7.2))))) else (bif (eqS a0 VB) then (bif ((((a1.length) : Nat) : Int) != 2) then (some ((Qb.mk (0 : Int) s_ (0 : Int) (0 : Int) s_ ([] : List Qc)), false)) else ((a1[(Int.toNat 0)]?).bind fun e8 => ((C2 e8).bind fun r9 => (bif (!r9) then (some ((Qb.mk (0 : Int) s_ (0 : Int) (0 : Int) s_ ([] : List Qc)), false)) else (bif (decide (0 ≤ (1 : Int) ∧ (1 : Int) ≤ ((a1.length : Nat) : Int) ∧ ((a1.length : Nat) : Int) ≤ ((a1.length : Nat) : Int))) then ((C0 ((a1.drop (Int.toNat 1)).take (Int.toNat (((a1.length : Nat) : Int) - 1))) ([] : List ByteArray)).bind fun r10 => ((a1[(Int.toNat 0)]?).bind fun e11 => (some ((Qb.mk (0 : Int) s_ (9 : Int) (0 : Int) e11 r10.1), r10.2)))) else none))))) else (some ((Qb.mk (0 : Int) s_ (0 : Int) (0 : Int) s_ ([] : List Qc)), false)))))))))
noncomputable def XW : Ql6 := QeM VM Yx Y0
theorem XW.eq (a0 : ByteArray) (a1 : (List ByteArray)) : XW a0 a1 = QeM VM Yx Y0 a0 a1 := rfl
noncomputable def Qrb (a0 : ByteArray) (a1 : (List ByteArray)) : Tr (Qb × Bool) AH := (.as (eqS a0 Q6) (.num ((Qg a1).length) (a1.length) (let u159 := (decide ((((a1.length) : Nat) : Int) < 1)); .as u159 (yesN 4 u159 (.yes true (rt QA ((Qb.mk i0 s_ (zi 3) i0 s_ ([] : List Qc)), false)))) (.no u159 (.num ((Qg a1).length) (a1.length) (noN 3 u159 (.as (decide ((((a1.length) : Nat) : Int) > 16)) (rt QA ((Qb.mk i0 s_ (zi 3) i0 s_ ([] : List Qc)), false)) (YU a1 ([] : List ByteArray) fun r1 => (rt QA ((Qb.mk i0 s_ (zi 3) i0 s_ r1.1), r1.2))))))))) (.as (eqS a0 Q7) (.num ((Qg a1).length) (a1.length) (let u160 := (decide ((((a1.length) : Nat) : Int) < 1)); .as u160 (yesN 4 u160 (.yes true (rt QA ((Qb.mk i0 s_ (zi 4) i0 s_ ([] : List Qc)), false)))) (.no u160 (.num ((Qg a1).length) (a1.length) (noN 3 u160 (.as (decide ((((a1.length) : Nat) : Int) > 16)) (rt QA ((Qb.mk i0 s_ (zi 4) i0 s_ ([] : List Qc)), false)) (YU a1 ([] : List ByteArray) fun r2 => (rt QA ((Qb.mk i0 s_ (zi 4) i0 s_ r2.1), r2.2))))))))) (.as (eqS a0 Q8) (.num ((Qg a1).length) (a1.length) (let u161 := (decide ((((a1.length) : Nat) : Int) < 1)); .as u161 (yesN 4 u161 (.yes true (rt QA ((Qb.mk i0 s_ (zi 5) i0 s_ ([] : List Qc)), false)))) (.no u161 (.num ((Qg a1).length) (a1.length) (noN 3 u161 (.as (decide ((((a1.length) : Nat) : Int) > 16)) (rt QA ((Qb.mk i0 s_ (zi 5) i0 s_ ([] : List Qc)), false)) (YU a1 ([] : List ByteArray) fun r3 => (rt QA ((Qb.mk i0 s_ (zi 5) i0 s_ r3.1), r3.2))))))))) (.as (eqS a0 Q0) (.num ((Qg a1).length) (a1.length) (let u162 := (decide ((((a1.length) : Nat) : Int) < 1)); .as u162 (yesN 4 u162 (.yes true (rt QA ((Qb.mk i0 s_ (zi 7) i0 s_ ([] : List Qc)), false)))) (.no u162 (.num ((Qg a1).length) (a1.length) (noN 3 u162 (.as (decide ((((a1.length) : Nat) : Int) > 1)) (rt QA ((Qb.mk i0 s_ (zi 7) i0 s_ ([] : List Qc)), false)) (YU a1 ([] : List ByteArray) fun r4 => (rt QA ((Qb.mk i0 s_ (zi 7) i0 s_ r4.1), r4.2))))))))) (.as (eqS a0 Q1) (.num ((Qg a1).length) (a1.length) (let u163 := (decide ((((a1.length) : Nat) : Int) < 1)); .as u163 (yesN 4 u163 (.yes true (rt QA ((Qb.mk i0 s_ (zi 8) i0 s_ ([] : List Qc)), false)))) (.no u163 (.num ((Qg a1).length) (a1.length) (noN 3 u163 (.as (decide ((((a1.length) : Nat) : Int) > 1)) (rt QA ((Qb.mk i0 s_ (zi 8) i0 s_ ([] : List Qc)), false)) (YU a1 ([] : List ByteArray) fun r5 => (rt QA ((Qb.mk i0 s_ (zi 8) i0 s_ r5.1), r5.2))))))))) (.as (eqS a0 J2) (.num ((Qg a1).length) (a1.length) (.as ((((a1.length) : Nat) : Int) != 1) (rt QA ((Qb.mk i0 s_ i0 i0 s_ ([] : List Qc)), false)) (.yes (decide (0 ≤ i0)) (.row ((Qg a1)[(Int.toNat 0)]?) (a1[(Int.toNat 0)]?) QW fun (e6 : ByteArray) => (Qpw e6 fun r7 => (rt QA ((Qb.mk i0 s_ (zi 6) i0 r7.1 ([] : List Qc)), r7.2))))))) (.as (eqS a0 VB) (.num ((Qg a1).length) (a1.length) (let u164 := ((((a1.length) : Nat) : Int) != 2); .as u164 (yesN 5 u164 (.yes true (rt QA ((Qb.mk i0 s_ i0 i0 s_ ([] : List Qc)), false)))) (.no u164 (.yes (decide (0 ≤ i0)) (.row ((Qg a1)[(Int.toNat 0)]?) (a1[(Int.toNat 0)]?) QW fun (e8 : ByteArray) => (noN 2 u164 (QlU e8 fun r9 => (noN 2 u164 (.as (!r9) (rt QA ((Qb.mk i0 s_ i0 i0 s_ ([] : List Qc)), false)) (.yes (decide ((Qg a1).all (fun r => r.length == 1) = true)) (.ask (in2 (zi 1) (((Qg a1).length : Nat) : Int) (((Qg a1).length : Nat) : Int)) (in2 (zi 1) ((a1.length : Nat) : Int) ((a1.length : Nat) : Int)) (.rows (((Qg a1).drop (Int.toNat 1)).take (Int.toNat ((((Qg a1).length : Nat) : Int) - 1))) (Qg ((a1.drop (Int.toNat 1)).take (Int.toNat (((a1.length : Nat) : Int) - 1)))) (YU ((a1.drop (Int.toNat 1)).take (Int.toNat (((a1.length : Nat) : Int) - 1))) ([] : List ByteArray) fun r10 => (.yes (decide (0 ≤ i0)) (.row ((Qg a1)[(Int.toNat 0)]?) (a1[(Int.toNat 0)]?) QW fun (e11 : ByteArray) => (rt QA ((Qb.mk i0 s_ (zi 9) i0 e11 r10.1), r10.2)))))) .fail))))))))))) (rt QA ((Qb.mk i0 s_ i0 i0 s_ ([] : List Qc)), false)))))))))
theorem XW.ok {a0 : ByteArray} {a1 : (List ByteArray)} {r : (Qb × Bool)} (h : XW a0 a1 = some r) : ww 56 [xs a0, .sl (Qg a1)] [] = some (QA r) := by
 refine fnP (Qrb a0 a1) ?_ h
 exact ⟨rfl, fun q0 => ⟨(Qo _), ⟨rfl, fun q1 => Qj 4 (q1) (⟨rfl, rfl⟩), fun q1 => ⟨q1, ⟨(Qo _), noN_ok 3 (q1) (⟨rfl, fun q2 => rfl, fun q2 => fun r1 h => ⟨VM.ok h, rfl⟩⟩)⟩⟩⟩⟩, fun q0 => ⟨rfl, fun q1 => ⟨(Qo _), ⟨rfl, fun q2 => Qj 4 (q2) (⟨rfl, rfl⟩), fun q2 => ⟨q2, ⟨(Qo _), noN_ok 3 (q2) (⟨rfl, fun q3 => rfl, fun q3 => fun r2 h => ⟨VM.ok h, rfl⟩⟩)⟩⟩⟩⟩, fun q1 => ⟨rfl, fun q2 => ⟨(Qo _), ⟨rfl, fun q3 => Qj 4 (q3) (⟨rfl, rfl⟩), fun q3 => ⟨q3, ⟨(Qo _), noN_ok 3 (q3) (⟨rfl, fun q4 => rfl, fun q4 => fun r3 h => ⟨VM.ok h, rfl⟩⟩)⟩⟩⟩⟩, fun q2 => ⟨rfl, fun q3 => ⟨(Qo _), ⟨rfl, fun q4 => Qj 4 (q4) (⟨rfl, rfl⟩), fun q4 => ⟨q4, ⟨(Qo _), noN_ok 3 (q4) (⟨rfl, fun q5 => rfl, fun q5 => fun r4 h => ⟨VM.ok h, rfl⟩⟩)⟩⟩⟩⟩, fun q3 => ⟨rfl, fun q4 => ⟨(Qo _), ⟨rfl, fun q5 => Qj 4 (q5) (⟨rfl, rfl⟩), fun q5 => ⟨q5, ⟨(Qo _), noN_ok 3 (q5) (⟨rfl, fun q6 => rfl, fun q6 => fun r5 h => ⟨VM.ok h, rfl⟩⟩)⟩⟩⟩⟩, fun q4 => ⟨rfl, fun q5 => ⟨(Qo _), ⟨rfl, fun q6 => rfl, fun q6 => ⟨rfl, fun e6 h => ⟨QO h, fun r7 h => ⟨Yx.ok h, rfl⟩⟩⟩⟩⟩, fun q5 => ⟨rfl, fun q6 => ⟨(Qo _), ⟨rfl, fun q7 => Qj 5 (q7) (⟨rfl, rfl⟩), fun q7 => ⟨q7, ⟨rfl, fun e8 h => ⟨QO h, noN_ok 2 (q7) (fun r9 h => ⟨Y0.ok h, noN_ok 2 (q7) (⟨rfl, fun q8 => rfl, fun q8 => ⟨(decide_eq_true (Uc _)), ⟨(by rw [Qo]), fun q9 => ⟨(by rw [Qk5, Qo]), fun r10 h => ⟨VM.ok h, ⟨rfl, fun e11 h => ⟨QO h, rfl⟩⟩⟩⟩, fun q9 => trivial⟩⟩⟩)⟩)⟩⟩⟩⟩⟩, fun q6 => rfl⟩⟩⟩⟩⟩⟩⟩
noncomputable abbrev Qkv {ρ R : Type} (a0 : ByteArray) (a1 : (List ByteArray)) (k : (Qb × Bool) → Tr ρ R) : Tr ρ R := .call (ww 56 [xs a0, .sl (Qg a1)] []) (XW a0 a1) QA k
abbrev Qok := ByteArray → Option (Int × Bool)
def Qhh (C0 : QeE) (a0 : ByteArray) : Option (Int × Bool) := ((C0 (-1 : Int) a0).bind fun r1 => (some (r1.2.1, r1.2.2)))
noncomputable def Gq : Qok := Qhh X0
theorem Gq.eq (a0 : ByteArray) : Gq a0 = Qhh X0 a0 := rfl
noncomputable def Qr9 (a0 : ByteArray) : Tr (Int × Bool) AH := (QgV (-1 : Int) a0 fun r1 => (rt Ww (r1.2.1, r1.2.2)))
theorem Gq.ok {a0 : ByteArray} {r : (Int × Bool)} (h : Gq a0 = some r) : ww 102 [xs a0] [] = some (Ww r) := by
 refine fnP (Qr9 a0) ?_ h
 exact fun r1 h => ⟨X0.ok h, rfl⟩
noncomputable abbrev Qsa {ρ R : Type} (a0 : ByteArray) (k : (Int × Bool) → Tr ρ R) : Tr ρ R := .call (ww 102 [xs a0] []) (Gq a0) Ww k
abbrev Qol := ByteArray → (List ByteArray) → Option (Qb × Bool)
def Qhi (C0 : Qjw) (C1 : Qok) (C2 : QgW) (C3 : QgX) (a0 : ByteArray) (a1 : (List ByteArray)) : Option (Qb × Bool) := (bif (eqS a0 s_b) then (bif ((((a1.length) : Nat) : Int) != 1) then (some ((Qb.mk (0 : Int) s_ (2 : Int) (0 : Int) s_ ([] : List Qc)), false)) else ((C0 a1 ([] : List ByteArray)).bind fun r1 => (some ((Qb.mk (0 : Int) s_ (2 : Int) (0 : Int) s_ r1.1), r1.2)))) else (bif (eqS a0 s_bl) then (bif ((((a1.length) : Nat) : Int) != 1) then (some ((Qb.mk (0 : Int) s_ (2 : Int) (1 : Int) s_ ([] : List Qc)), false)) else ((C0 a1 ([] : List ByteArray)).bind fun r2 => (some ((Qb.mk (0 : Int) s_ (2 : Int) (1 : Int) s_ r2.1), r2.2)))) else (bif (eqS a0 s_bc) then (bif ((((a1.length) : Nat) : Int) != 3) then (some ((Qb.mk (0 : Int) s_ (2 : Int) (2 : Int) s_ ([] : List Qc)), false)) else ((C0 a1 ([] : List ByteArray)).bind fun r3 => (some ((Qb.mk (0 : Int) s_ (2 : Int) (2 : Int) s_ r3.1), r3.2)))) else ((C1 a0).bind fun r4 => (bif (!r4.2) then (some ((Qb.mk (0 : Int) s_ (2 : Int) (0 : Int) s_ ([] : List Qc)), false)) else ((C2 r4.1).bind fun r5 => ((C3 r5).bind fun r6 => (bif ((((a1.length) : Nat) : Int) != (((r6.length) : Nat) : Int)) then (some ((Qb.mk (0 : Int) s_ (1 : Int) r4.1 s_ ([] : List Qc)), false)) else ((C0 a1 r6).bind fun r7 => (some ((Qb.mk (0 : Int) s_ (1 : Int) r4.1 s_ r7.1), r7.2)))))))))))
noncomputable def YB : Qol := Qhi VM Gq XE We
theorem YB.eq (a0 : ByteArray) (a1 : (List ByteArray)) : YB a0 a1 = Qhi VM Gq XE We a0 a1 := rfl
noncomputable def Qsb (a0 : ByteArray) (a1 : (List ByteArray)) : Tr (Qb × Bool) AH := (.as (eqS a0 s_b) (.num ((Qg a1).length) (a1.length) (.as ((((a1.length) : Nat) : Int) != 1) (rt QA ((Qb.mk i0 s_ (zi 2) i0 s_ ([] : List Qc)), false)) (YU a1 ([] : List ByteArray) fun r1 => (rt QA ((Qb.mk i0 s_ (zi 2) i0 s_ r1.1), r1.2))))) (.as (eqS a0 s_bl) (.num ((Qg a1).length) (a1.length) (.as ((((a1.length) : Nat) : Int) != 1) (rt QA ((Qb.mk i0 s_ (zi 2) (zi 1) s_ ([] : List Qc)), false)) (YU a1 ([] : List ByteArray) fun r2 => (rt QA ((Qb.mk i0 s_ (zi 2) (zi 1) s_ r2.1), r2.2))))) (.as (eqS a0 s_bc) (.num ((Qg a1).length) (a1.length) (.as ((((a1.length) : Nat) : Int) != 3) (rt QA ((Qb.mk i0 s_ (zi 2) (zi 2) s_ ([] : List Qc)), false)) (YU a1 ([] : List ByteArray) fun r3 => (rt QA ((Qb.mk i0 s_ (zi 2) (zi 2) s_ r3.1), r3.2))))) (Qsa a0 fun r4 => (.as (!r4.2) (rt QA ((Qb.mk i0 s_ (zi 2) i0 s_ ([] : List Qc)), false)) (Qkk r4.1 fun r5 => (Qkl r5 fun r6 => (.num ((Qg r6).length) (r6.length) (.num ((Qg a1).length) (a1.length) (.as ((((a1.length) : Nat) : Int) != (((r6.length) : Nat) : Int)) (rt QA ((Qb.mk i0 s_ (zi 1) r4.1 s_ ([] : List Qc)), false)) (YU a1 r6 fun r7 => (rt QA ((Qb.mk i0 s_ (zi 1) r4.1 s_ r7.1), r7.2)))))))))))))
theorem YB.ok {a0 : ByteArray} {a1 : (List ByteArray)} {r : (Qb × Bool)} (h : YB a0 a1 = some r) : ww 57 [xs a0, .sl (Qg a1)] [] = some (QA r) := by
 refine fnP (Qsb a0 a1) ?_ h
 exact ⟨rfl, fun q0 => ⟨(Qo _), ⟨rfl, fun q1 => rfl, fun q1 => fun r1 h => ⟨VM.ok h, rfl⟩⟩⟩, fun q0 => ⟨rfl, fun q1 => ⟨(Qo _), ⟨rfl, fun q2 => rfl, fun q2 => fun r2 h => ⟨VM.ok h, rfl⟩⟩⟩, fun q1 => ⟨rfl, fun q2 => ⟨(Qo _), ⟨rfl, fun q3 => rfl, fun q3 => fun r3 h => ⟨VM.ok h, rfl⟩⟩⟩, fun q2 => fun r4 h => ⟨Gq.ok h, ⟨rfl, fun q3 => rfl, fun q3 => fun r5 h => ⟨XE.ok h, fun r6 h => ⟨We.ok h, ⟨(Qo _), ⟨(Qo _), ⟨rfl, fun q4 => rfl, fun q4 => fun r7 h => ⟨VM.ok h, rfl⟩⟩⟩⟩⟩⟩⟩⟩⟩⟩⟩
noncomputable abbrev Ql7 {ρ R : Type} (a0 : ByteArray) (a1 : (List ByteArray)) (k : (Qb × Bool) → Tr ρ R) : Tr ρ R := .call (ww 57 [xs a0, .sl (Qg a1)] []) (YB a0 a1) QA k
abbrev QpY := ByteArray → Option (Qb × Bool)
structure WM where
 x0 : ByteArray
 x4 : Int
 h0 : Qb
structure Xx where
 x3 : Bool
 h0 : Qb
structure Xy where
 x0 : ByteArray
 h0 : Qb
def Qdd (a : WM) : St := { n := 89, nx := 2, env := [(0, xs a.x0), (2, .ptr 0 0), (4, xi a.x4)], heap := [(0, .box [0, 0, 0, 0, 0, 5] [xi a.h0.Line, xs a.h0.Label, xi a.h0.Kind, xi a.h0.Op, xs a.h0.Text, .arr 1]), (1, .arr true 5 (Qi a.h0.Args))] }
def Qhj (a : Xx) : Ex × St := (.ret, { n := 89, nx := 2, env := [(2, .ptr 0 0), (3, xo a.x3)], heap := [(0, .box [0, 0, 0, 0, 0, 5] [xi a.h0.Line, xs a.h0.Label, xi a.h0.Kind, xi a.h0.Op, xs a.h0.Text, .arr 1]), (1, .arr true 5 (Qi a.h0.Args))] })
def Qhk (a : Xy) : Ex × St := (.exit 0, { n := 89, nx := 2, env := [(0, xs a.x0), (2, .ptr 0 0)], heap := [(0, .box [0, 0, 0, 0, 0, 5] [xi a.h0.Line, xs a.h0.Label, xi a.h0.Kind, xi a.h0.Op, xs a.h0.Text, .arr 1]), (1, .arr true 5 (Qi a.h0.Args))] })
def Qde (a : (Xx ⊕ Xy)) : Ex × St := Sum.elim Qhj Qhk a
abbrev Qkw := WM → Option (Xx ⊕ Xy)
def SN (a : WM) : Option (WM ⊕ (Xx ⊕ Xy)) := (bif (decide (a.x4 < ((a.x0.size : Nat) : Int))) then (bif (decide (0 ≤ a.x4 ∧ a.x4 < ((a.x0.size : Nat) : Int))) then (bif (((a.x0.data.getD (Int.toNat a.x4) 0).toNat : Int) == 10) then (some (.inr (.inl (Xx.mk false (Qb.mk (0 : Int) s_ (0 : Int) (0 : Int) s_ ([] : List Qc)))))) else (some (.inl (WM.mk a.x0 (w64 (a.x4 + 1)) a.h0)))) else none) else (some (.inr (.inr (Xy.mk a.x0 a.h0)))))
noncomputable def W2 : Qkw := loopW (SN )
theorem W2.eq (a : WM) : W2 a = (SN a).bind (Sum.elim W2 some) := Ja _ _
noncomputable abbrev Qpx {ρ R : Type} (a : WM) (k0 : Xx → Tr ρ R) (k1 : Xy → Tr ρ R) : Tr ρ R := .loop2 (loopAt pp 20 2) (Qdd a) (W2 a) Qhj Qhk k0 k1
noncomputable def Qpy (a : WM) : Tr (WM ⊕ (Xx ⊕ Xy)) XS := (.as (decide (a.x4 < (zz a.x0))) (.as (in1 a.x4 (zz a.x0)) (.as ((gb a.x0 a.x4) == 10) (rx Qde (.inl (Xx.mk false (Qb.mk i0 s_ i0 i0 s_ ([] : List Qc))))) (lf Qdd (WM.mk a.x0 (w64 (a.x4 + 1)) a.h0))) .fail) (rx Qde (.inr (Xy.mk a.x0 a.h0))))
theorem W2.ok {a : WM} {r : (Xx ⊕ Xy)} (h : W2 a = some r) : lw 0 20 (loopAt pp 20 2) (Qdd a) = some (Qde r) := by
 refine lpP h Qpy fun a => ?_
 exact ⟨rfl, fun q0 => ⟨rfl, fun q1 => ⟨rfl, fun q2 => rfl, fun q2 => rfl⟩, fun q1 => trivial⟩, fun q0 => rfl⟩
structure Wn where
 x5 : ByteArray
 x6 : ByteArray
 x7 : Int
 h0 : Qb
structure VS where
 x5 : ByteArray
 x6 : ByteArray
 x7 : Int
 h0 : Qb
def Qdf (a : Wn) : St := { n := 89, nx := 2, env := [(2, .ptr 0 0), (5, xs a.x5), (6, xs a.x6), (7, xi a.x7)], heap := [(0, .box [0, 0, 0, 0, 0, 5] [xi a.h0.Line, xs a.h0.Label, xi a.h0.Kind, xi a.h0.Op, xs a.h0.Text, .arr 1]), (1, .arr true 5 (Qi a.h0.Args))] }
def Fb (a : VS) : Ex × St := (.exit 2, { n := 89, nx := 2, env := [(2, .ptr 0 0), (5, xs a.x5), (6, xs a.x6), (7, xi a.x7)], heap := [(0, .box [0, 0, 0, 0, 0, 5] [xi a.h0.Line, xs a.h0.Label, xi a.h0.Kind, xi a.h0.Op, xs a.h0.Text, .arr 1]), (1, .arr true 5 (Qi a.h0.Args))] })
abbrev Qkx := Wn → Option VS
def SO (a : Wn) : Option (Wn ⊕ VS) := (bif (decide (a.x7 < ((a.x6.size : Nat) : Int))) then (bif (decide (0 ≤ a.x7 ∧ a.x7 < ((a.x6.size : Nat) : Int))) then (bif (((a.x6.data.getD (Int.toNat a.x7) 0).toNat : Int) != 32) then (bif (((a.x6.data.getD (Int.toNat a.x7) 0).toNat : Int) != 9) then (some (.inl (Wn.mk a.x5 a.x6 (w64 (a.x7 + 1)) a.h0))) else (some (.inr (VS.mk a.x5 a.x6 a.x7 a.h0)))) else (some (.inr (VS.mk a.x5 a.x6 a.x7 a.h0)))) else none) else (some (.inr (VS.mk a.x5 a.x6 a.x7 a.h0))))
noncomputable def Xm : Qkx := loopW (SO )
theorem Xm.eq (a : Wn) : Xm a = (SO a).bind (Sum.elim Xm some) := Ja _ _
noncomputable abbrev Qpz {ρ R : Type} (a : Wn) (k0 : VS → Tr ρ R) : Tr ρ R := .loop (loopAt pp 20 12) (Qdf a) (Xm a) Fb k0
noncomputable def QpA (a : Wn) : Tr (Wn ⊕ VS) XS := (let u167 := (decide (a.x7 < (zz a.x6))); .as u167 (yesN 2 u167 (let u166 := (in1 a.x7 (zz a.x6)); .as u166 (yesN 2 u167 (let u165 := ((gb a.x6 a.x7) != 32); .as u165 (yesN 2 u165 (.yes u166 (yesN 2 u165 (.as ((gb a.x6 a.x7) != 9) (lf Qdf (Wn.mk a.x5 a.x6 (w64 (a.x7 + 1)) a.h0)) (rx Fb (VS.mk a.x5 a.x6 a.x7 a.h0)))))) (noN 4 u165 (.no false (rx Fb (VS.mk a.x5 a.x6 a.x7 a.h0)))))) .fail)) (noN 4 u167 (noN 6 false (rx Fb (VS.mk a.x5 a.x6 a.x7 a.h0)))))
theorem Xm.ok {a : Wn} {r : VS} (h : Xm a = some r) : lw 0 20 (loopAt pp 20 12) (Qdf a) = some (Fb r) := by
 refine lpP h QpA fun a => ?_
 exact ⟨rfl, fun q0 => Qj 2 (q0) (⟨rfl, fun q1 => Qj 2 (q0) (⟨rfl, fun q2 => Qj 2 (q2) (⟨q1, Qj 2 (q2) (⟨rfl, fun q3 => rfl, fun q3 => rfl⟩)⟩), fun q2 => noN_ok 4 (q2) (⟨rfl, rfl⟩)⟩), fun q1 => trivial⟩), fun q0 => noN_ok 4 (q0) (noN_ok 6 (rfl) (rfl))⟩
def Qjx (C0 : Qoa) (C1 : QeI) (C2 : Ql4) (C3 : Ql5) (C4 : Ql6) (C5 : Qol) (L6 : Qkw) (L7 : Qkx) (a0 : ByteArray) : Option (Qb × Bool) := ((L6 (WM.mk a0 (0 : Int) (Qb.mk (0 : Int) s_ (0 : Int) (0 : Int) s_ ([] : List Qc)))).bind fun x => Sum.elim (fun (o1 : Xx) => (some (o1.h0, o1.x3))) (fun (o2 : Xy) => ((C0 o2.x0).bind fun r3 => ((C1 r3).bind fun r4 => ((C2 r4).bind fun r5 => (bif (eqS r5.2 s_) then (bif (eqS r5.1 s_) then (some ((Qb.mk (0 : Int) s_ (0 : Int) (0 : Int) s_ ([] : List Qc)), true)) else (some ((Qb.mk (1 : Int) r5.1 (0 : Int) (0 : Int) s_ ([] : List Qc)), true))) else ((L7 (Wn.mk r5.1 r5.2 (0 : Int) o2.h0)).bind (fun (o6 : VS) => (bif (decide (0 ≤ (0 : Int) ∧ (0 : Int) ≤ o6.x7 ∧ o6.x7 ≤ ((o6.x6.size : Nat) : Int))) then (bif (decide (0 ≤ o6.x7 ∧ o6.x7 ≤ ((o6.x6.size : Nat) : Int) ∧ ((o6.x6.size : Nat) : Int) ≤ ((o6.x6.size : Nat) : Int))) then ((C1 (o6.x6.extract (Int.toNat o6.x7) (Int.toNat ((o6.x6.size : Nat) : Int)))).bind fun r7 => (bif (!(eqS r7 s_)) then ((C3 (o6.x6.extract (Int.toNat o6.x7) (Int.toNat ((o6.x6.size : Nat) : Int)))).bind fun r8 => (bif (decide (0 ≤ (0 : Int) ∧ (0 : Int) < (((o6.x6.extract (Int.toNat 0) (Int.toNat o6.x7)).size : Nat) : Int))) then (bif ((((o6.x6.extract (Int.toNat 0) (Int.toNat o6.x7)).data.getD (Int.toNat 0) 0).toNat : Int) == 46) then ((C4 (o6.x6.extract (Int.toNat 0) (Int.toNat o6.x7)) r8).bind fun r9 => (bif (!r9.2) then (some ((Qb.mk (0 : Int) s_ (0 : Int) (0 : Int) s_ ([] : List Qc)), false)) else (some ((Qb.mk (1 : Int) o6.x5 r9.1.Kind r9.1.Op r9.1.Text r9.1.Args), true)))) else ((C5 (o6.x6.extract (Int.toNat 0) (Int.toNat o6.x7)) r8).bind fun r10 => (bif (!r10.2) then (some ((Qb.mk (0 : Int) s_ (0 : Int) (0 : Int) s_ ([] : List Qc)), false)) else (some ((Qb.mk (1 : Int) o6.x5 r10.1.Kind r10.1.Op r10.1.Text r10.1.Args), true))))) else none)) else (bif (decide (0 ≤ (0 : Int) ∧ (0 : Int) < (((o6.x6.extract (Int.toNat 0) (Int.toNat o6.x7)).size : Nat) : Int))) then (bif ((((o6.x6.extract (Int.toNat 0) (Int.toNat o6.x7)).data.getD (Int.toNat 0) 0).toNat : Int) == 46) then ((C4 (o6.x6.extract (Int.toNat 0) (Int.toNat o6.x7)) ([] : List ByteArray)).bind fun r11 => (bif (!r11.2) then (some ((Qb.mk (0 : Int) s_ (0 : Int) (0 : Int) s_ ([] : List Qc)), false)) else (some ((Qb.mk (1 : Int) o6.x5 r11.1.Kind r11.1.Op r11.1.Text r11.1.Args), true)))) else ((C5 (o6.x6.extract (Int.toNat 0) (Int.toNat o6.x7)) ([] : List ByteArray)).bind fun r12 => (bif (!r12.2) then (some ((Qb.mk (0 : Int) s_ (0 : Int) (0 : Int) s_ ([] : List Qc)), false)) else (some ((Qb.mk (1 : Int) o6.x5 r12.1.Kind r12.1.Op r12.1.Text r12.1.Args), true))))) else none))) else none) else none)))))))) x)
noncomputable def GG : QpY := Qjx GL Wh ZY Zg XW YB W2 Xm
theorem GG.eq (a0 : ByteArray) : GG a0 = Qjx GL Wh ZY Zg XW YB W2 Xm a0 := rfl
noncomputable def Qtb (a0 : ByteArray) : Tr (Qb × Bool) AH := (Qpx (WM.mk a0 i0 (Qb.mk i0 s_ i0 i0 s_ ([] : List Qc))) (fun o1 => (rt QA (o1.h0, o1.x3))) (fun o2 => (Qr6 o2.x0 fun r3 => (ZM r3 fun r4 => (Qq8 r4 fun r5 => (.as (eqS r5.2 s_) (.as (eqS r5.1 s_) (rt QA ((Qb.mk i0 s_ i0 i0 s_ ([] : List Qc)), true)) (rt QA ((Qb.mk (zi 1) r5.1 i0 i0 s_ ([] : List Qc)), true))) (Qpz (Wn.mk r5.1 r5.2 i0 o2.h0) (fun o6 => (.as (in2 i0 o6.x7 (zz o6.x6)) (let u168 := (in2 o6.x7 (zz o6.x6) (zz o6.x6)); .as u168 (ZM (cu o6.x6 o6.x7 (zz o6.x6)) fun r7 => (.as (!(eqS r7 s_)) (.yes u168 (Qra (cu o6.x6 o6.x7 (zz o6.x6)) fun r8 => (.as (in1 i0 (zz (cu o6.x6 i0 o6.x7))) (.as ((gb (cu o6.x6 i0 o6.x7) i0) == 46) (Qkv (cu o6.x6 i0 o6.x7) r8 fun r9 => (.as (!r9.2) (rt QA ((Qb.mk i0 s_ i0 i0 s_ ([] : List Qc)), false)) (rt QA ((Qb.mk (zi 1) o6.x5 r9.1.Kind r9.1.Op r9.1.Text r9.1.Args), true)))) (Ql7 (cu o6.x6 i0 o6.x7) r8 fun r10 => (.as (!r10.2) (rt QA ((Qb.mk i0 s_ i0 i0 s_ ([] : List Qc)), false)) (rt QA ((Qb.mk (zi 1) o6.x5 r10.1.Kind r10.1.Op r10.1.Text r10.1.Args), true))))) .fail))) (.as (in1 i0 (zz (cu o6.x6 i0 o6.x7))) (.as ((gb (cu o6.x6 i0 o6.x7) i0) == 46) (Qkv (cu o6.x6 i0 o6.x7) ([] : List ByteArray) fun r11 => (.as (!r11.2) (rt QA ((Qb.mk i0 s_ i0 i0 s_ ([] : List Qc)), false)) (rt QA ((Qb.mk (zi 1) o6.x5 r11.1.Kind r11.1.Op r11.1.Text r11.1.Args), true)))) (Ql7 (cu o6.x6 i0 o6.x7) ([] : List ByteArray) fun r12 => (.as (!r12.2) (rt QA ((Qb.mk i0 s_ i0 i0 s_ ([] : List Qc)), false)) (rt QA ((Qb.mk (zi 1) o6.x5 r12.1.Kind r12.1.Op r12.1.Text r12.1.Args), true))))) .fail))) .fail) .fail)))))))))
theorem GG.ok {a0 : ByteArray} {r : (Qb × Bool)} (h : GG a0 = some r) : ww 20 [xs a0] [] = some (QA r) := by
 refine fnP (Qtb a0) ?_ h
 exact ⟨fun o1 h => ⟨W2.ok (r := (.inl _)) h, rfl⟩, fun o2 h => ⟨W2.ok (r := (.inr _)) h, fun r3 h => ⟨GL.ok h, fun r4 h => ⟨Wh.ok h, fun r5 h => ⟨ZY.ok h, ⟨rfl, fun q0 => ⟨rfl, fun q1 => rfl, fun q1 => rfl⟩, fun q0 => fun o6 h => ⟨Xm.ok h, ⟨rfl, fun q1 => ⟨rfl, fun q2 => fun r7 h => ⟨Wh.ok h, ⟨rfl, fun q3 => ⟨q2, fun r8 h => ⟨Zg.ok h, ⟨rfl, fun q4 => ⟨rfl, fun q5 => fun r9 h => ⟨XW.ok h, ⟨rfl, fun q6 => rfl, fun q6 => rfl⟩⟩, fun q5 => fun r10 h => ⟨YB.ok h, ⟨rfl, fun q6 => rfl, fun q6 => rfl⟩⟩⟩, fun q4 => trivial⟩⟩⟩, fun q3 => ⟨rfl, fun q4 => ⟨rfl, fun q5 => fun r11 h => ⟨XW.ok h, ⟨rfl, fun q6 => rfl, fun q6 => rfl⟩⟩, fun q5 => fun r12 h => ⟨YB.ok h, ⟨rfl, fun q6 => rfl, fun q6 => rfl⟩⟩⟩, fun q4 => trivial⟩⟩⟩, fun q2 => trivial⟩, fun q1 => trivial⟩⟩⟩⟩⟩⟩⟩⟩
noncomputable abbrev Qom {ρ R : Type} (a0 : ByteArray) (k : (Qb × Bool) → Tr ρ R) : Tr ρ R := .call (ww 20 [xs a0] []) (GG a0) QA k
abbrev XX := Qa → Qa → Option Bool
abbrev Qjy (c : XX) : Prop := ∀ (a0 : Qa) (a1 : Qa) (r : Bool), c a0 a1 = some r → ww 78 [.agg (QZ a0), .agg (QZ a1)] [] = some (Ql r)
noncomputable abbrev Ql8 {ρ R : Type} (c : XX) (a0 : Qa) (a1 : Qa) (k : Bool → Tr ρ R) : Tr ρ R := .call (ww 78 [.agg (QZ a0), .agg (QZ a1)] []) (c a0 a1) Ql k
structure Vf where
 x5 : Int
 h0 : Qa
 h1 : Qa
def Qca (a : Vf) : St := { n := 53, nx := 2, env := [(2, .ptr 0 0), (3, .ptr 1 0), (5, xi a.x5)], heap := [(0, .box [] (QZ a.h0)), (1, .box [] (QZ a.h1))] }
def Qfy (a : Bool) : Ex × St := (.ret, { n := 53, nx := 0, env := [(4, xo a)], heap := [] })
def Qfz (a : Unit) : Ex × St := (.exit 0, { n := 53, nx := 0, env := [], heap := [] })
def Qcb (a : (Bool ⊕ Unit)) : Ex × St := Sum.elim Qfy Qfz a
abbrev YW := Vf → Option (Bool ⊕ Unit)
def XY (C0 : XX) (a : Vf) : Option (Vf ⊕ (Bool ⊕ Unit)) := (bif (decide (a.x5 < (((a.h0.L.length) : Nat) : Int))) then (bif (decide (0 ≤ a.x5)) then ((a.h0.L[(Int.toNat a.x5)]?).bind fun e1 => ((a.h1.L[(Int.toNat a.x5)]?).bind fun e2 => ((C0 e1 e2).bind fun r3 => (bif (!r3) then (some (.inr (.inl false))) else (some (.inl (Vf.mk (w64 (a.x5 + 1)) a.h0 a.h1))))))) else none) else (some (.inr (.inr ()))))
theorem Qhl {C0 : Nat → XX} {D0 : XX} (H0 : Cv2 C0 D0) (a : Vf) : Cv (fun k => XY (C0 k) a) (XY D0 a) := by
 unfold XY
 exact .cond (.cond (.bind (.const _) fun e1 => .bind (.const _) fun e2 => .bind (H0 _ _) fun r3 => by exact .const _) cst) cst
noncomputable abbrev Qon {ρ R : Type} (l : YW) (a : Vf) (k0 : Bool → Tr ρ R) (k1 : Unit → Tr ρ R) : Tr ρ R := .loop2 (loopAt pp 78 4) (Qca a) (l a) Qfy Qfz k0 k1
noncomputable def Qoo (C0 : XX) (a : Vf) : Tr (Vf ⊕ (Bool ⊕ Unit)) XS := (.num ((QK a.h0.L).length) (a.h0.L.length) (.as (decide (a.x5 < (((a.h0.L.length) : Nat) : Int))) (let u169 := (decide (0 ≤ a.x5)); .as u169 (.row ((QK a.h0.L)[(Int.toNat a.x5)]?) (a.h0.L[(Int.toNat a.x5)]?) QZ fun (e1 : Qa) => (.yes u169 (.row ((QK a.h1.L)[(Int.toNat a.x5)]?) (a.h1.L[(Int.toNat a.x5)]?) QZ fun (e2 : Qa) => (Ql8 C0 e1 e2 fun r3 => (.as (!r3) (rx Qcb (.inl false)) (lf Qca (Vf.mk (w64 (a.x5 + 1)) a.h0 a.h1))))))) .fail) (rx Qcb (.inr ()))))
noncomputable def Ju.s (k : Nat) (C0 : XX) : YW := iter (XY C0) k
theorem QfA (k : Nat) {C0 : XX} (i_r3_Same : Qjy C0) {a : Vf} {r : (Bool ⊕ Unit)} (h : Ju.s k C0 a = some r) : lw 0 78 (loopAt pp 78 4) (Qca a) = some (Qcb r) := by
 refine lpP (itP h) (Qoo C0) fun a => ?_
 exact ⟨(Ey _), ⟨rfl, fun q0 => ⟨rfl, fun q1 => fun e1 h => ⟨Z7 h, ⟨q1, fun e2 h => ⟨Z7 h, fun r3 h => ⟨i_r3_Same _ _ _ h, ⟨rfl, fun q2 => rfl, fun q2 => rfl⟩⟩⟩⟩⟩, fun q1 => trivial⟩, fun q0 => rfl⟩⟩
theorem Ju.m {j k : Nat} (hj : j ≤ k) (C0 : XX) (D0 : XX) (H0 : Le2 C0 D0) (a : Vf) : Le (Ju.s j C0 a) (Ju.s k D0 a) := Le.iter (fun a => (Qhl (tw2 H0) a).1 0) hj a
noncomputable def Ju.w (C0 : XX) : YW := loopW (XY C0)
theorem Ju.cv (C0 : Nat → XX) (D0 : XX) (H0 : Cv2 C0 D0) (a : Vf) : Cv (fun k => Ju.s k (C0 k) a) (Ju.w D0 a) := Cv.iter (fun a => Qhl H0 a) a
def Eq (L0 : YW) (a0 : Qa) (a1 : Qa) : Option Bool := (bif (a0.Kind != a1.Kind) then (some false) else (bif (a0.N != a1.N) then (some false) else (bif (!(eqS a0.Name a1.Name)) then (some false) else (bif ((((a0.L.length) : Nat) : Int) != (((a1.L.length) : Nat) : Int)) then (some false) else ((L0 (Vf.mk (0 : Int) a0 a1)).bind fun x => Sum.elim (fun (o1 : Bool) => (some o1)) (fun (o2 : Unit) => (some true)) x)))))
theorem Ql9 {L0 : Nat → YW} {M0 : YW} (N0 : Cv1 L0 M0) (a0 : Qa) (a1 : Qa) : Cv (fun k => Eq (L0 k) a0 a1) (Eq M0 a0 a1) := by
 unfold Eq
 exact .cond cst (.cond cst (.cond cst (.cond cst (.bind (N0 _) fun x => .sum (fun o1 => by exact .const _) (fun o2 => by exact .const _) x))))
noncomputable def Qsc (L0 : YW) (a0 : Qa) (a1 : Qa) : Tr Bool AH := (let u172 := (a0.Kind != a1.Kind); .as u172 (yesN 5 u172 (yesN 15 true (rt Ql false))) (noN 5 u172 (let u171 := (a0.N != a1.N); .as u171 (yesN 5 u171 (yesN 9 true (rt Ql false))) (noN 5 u171 (let u170 := (!(eqS a0.Name a1.Name)); .as u170 (yesN 7 u170 (.yes true (rt Ql false))) (noN 2 u170 (.num ((QK a0.L).length) (a0.L.length) (noN 3 u170 (.num ((QK a1.L).length) (a1.L.length) (noN 2 u170 (.as ((((a0.L.length) : Nat) : Int) != (((a1.L.length) : Nat) : Int)) (rt Ql false) (Qon L0 (Vf.mk i0 a0 a1) (fun o1 => (rt Ql o1)) (fun o2 => (rt Ql true))))))))))))))
noncomputable def J8.s : Nat → Qa → Qa → Option Bool
 | 0, _, _ => none
 | k + 1, a0, a1 => Eq (Ju.s k (fun a0 a1 => J8.s k a0 a1)) a0 a1
termination_by structural k => k
theorem QiQ : ∀ (k : Nat), (Qjy (J8.s k))
 | 0 => fun _ _ _ h => (nomatch h)
 | k + 1 => by
  have i_r3_Same : Qjy (J8.s k) := QiQ k
  exact fun a0 a1 r h => by
    refine fnP (Qsc (Ju.s k (J8.s k)) a0 a1) ?_ h
    exact ⟨rfl, fun q0 => Qj 5 (q0) (Qj 15 (rfl) (rfl)), fun q0 => noN_ok 5 (q0) (⟨rfl, fun q1 => Qj 5 (q1) (Qj 9 (rfl) (rfl)), fun q1 => noN_ok 5 (q1) (⟨rfl, fun q2 => Qj 7 (q2) (⟨rfl, rfl⟩), fun q2 => noN_ok 2 (q2) (⟨(Ey _), noN_ok 3 (q2) (⟨(Ey _), noN_ok 2 (q2) (⟨rfl, fun q3 => rfl, fun q3 => ⟨fun o1 h => ⟨QfA k i_r3_Same (r := (.inl _)) h, rfl⟩, fun o2 h => ⟨QfA k i_r3_Same (r := (.inr _)) h, rfl⟩⟩⟩)⟩)⟩)⟩)⟩)⟩
theorem Qhm : ∀ (k : Nat), (∀ (a0 : Qa) (a1 : Qa), Le (J8.s k a0 a1) (J8.s (k + 1) a0 a1))
 | 0 => fun _ _ _ h => (nomatch h)
 | k + 1 => by
  have i_r3_Same : ∀ (a0 : Qa) (a1 : Qa), Le (J8.s k a0 a1) (J8.s (k + 1) a0 a1) := Qhm k
  exact fun a0 a1 => (Ql9 (tw1 (Ju.m (Nat.le_succ k) (J8.s k) (J8.s (k + 1)) i_r3_Same)) a0 a1).1 0
noncomputable def J8 (a0 : Qa) (a1 : Qa) : Option Bool := lim fun k => J8.s k a0 a1
theorem J8.cv (a0 : Qa) (a1 : Qa) : Cv (fun k => J8.s k a0 a1) (J8 a0 a1) := .lim fun k => (Qhm k) a0 a1
theorem J8.ok {a0 : Qa} {a1 : Qa} {r : Bool} (h : J8 a0 a1 = some r) : ww 78 [.agg (QZ a0), .agg (QZ a1)] [] = some (Ql r) := let ⟨k, e⟩ := ((J8.cv a0 a1).2 r).1 h; (QiQ k) a0 a1 _ e
noncomputable def Ju : YW := Ju.w J8
theorem Ju.eq (a : Vf) : Ju a = (XY J8 a).bind (Sum.elim Ju some) := Ja _ _
theorem J8.eq (a0 : Qa) (a1 : Qa) : J8 a0 a1 = Eq Ju a0 a1 := Cv.uniq (J8.cv a0 a1).shift (Ql9 (Ju.cv (fun k => J8.s k) J8 J8.cv) a0 a1)
noncomputable abbrev Qsd {ρ R : Type} (a0 : Qa) (a1 : Qa) (k : Bool → Tr ρ R) : Tr ρ R := Ql8 J8 a0 a1 k
abbrev Qop := Qb → Qb → Option Bool
structure Wj where
 x5 : Int
 h0 : Qb
 h1 : Qb
def Qcc (a : Wj) : St := { n := 84, nx := 2, env := [(2, .ptr 0 0), (3, .ptr 1 0), (5, xi a.x5)], heap := [(0, .box [0, 0, 0, 0, 0, 5] (U1 a.h0)), (1, .box [0, 0, 0, 0, 0, 5] (U1 a.h1))] }
def QfB (a : Bool) : Ex × St := (.ret, { n := 84, nx := 0, env := [(4, xo a)], heap := [] })
def QfC (a : Unit) : Ex × St := (.exit 0, { n := 84, nx := 0, env := [], heap := [] })
def PG (a : (Bool ⊕ Unit)) : Ex × St := Sum.elim QfB QfC a
abbrev QiR := Wj → Option (Bool ⊕ Unit)
def PH (C0 : XX) (a : Wj) : Option (Wj ⊕ (Bool ⊕ Unit)) := (bif (decide (a.x5 < (((a.h0.Args.length) : Nat) : Int))) then (bif (decide (0 ≤ a.x5)) then ((a.h0.Args[(Int.toNat a.x5)]?).bind fun e1 => ((a.h1.Args[(Int.toNat a.x5)]?).bind fun e2 => (bif (e1.Reg != e2.Reg) then (some (.inr (.inl false))) else ((a.h0.Args[(Int.toNat a.x5)]?).bind fun e3 => ((a.h1.Args[(Int.toNat a.x5)]?).bind fun e4 => ((C0 e3.E e4.E).bind fun r5 => (bif (!r5) then (some (.inr (.inl false))) else (some (.inl (Wj.mk (w64 (a.x5 + 1)) a.h0 a.h1)))))))))) else none) else (some (.inr (.inr ()))))
noncomputable def WU : QiR := loopW (PH J8)
theorem WU.eq (a : Wj) : WU a = (PH J8 a).bind (Sum.elim WU some) := Ja _ _
noncomputable abbrev Qoq {ρ R : Type} (a : Wj) (k0 : Bool → Tr ρ R) (k1 : Unit → Tr ρ R) : Tr ρ R := .loop2 (loopAt pp 28 4) (Qcc a) (WU a) QfB QfC k0 k1
noncomputable def Qor (a : Wj) : Tr (Wj ⊕ (Bool ⊕ Unit)) XS := (.num ((Qi a.h0.Args).length) (a.h0.Args.length) (.as (decide (a.x5 < (((a.h0.Args.length) : Nat) : Int))) (let u174 := (decide (0 ≤ a.x5)); .as u174 (.row ((Qi a.h0.Args)[(Int.toNat a.x5)]?) (a.h0.Args[(Int.toNat a.x5)]?) Xi fun (e1 : Qc) => (.yes u174 (.row ((Qi a.h1.Args)[(Int.toNat a.x5)]?) (a.h1.Args[(Int.toNat a.x5)]?) Xi fun (e2 : Qc) => (let u173 := (e1.Reg != e2.Reg); .as u173 (yesN 14 u173 (.yes true (rx PG (.inl false)))) (noN 3 u173 (.yes u174 (.row ((Qi a.h0.Args)[(Int.toNat a.x5)]?) (a.h0.Args[(Int.toNat a.x5)]?) Xi fun (e3 : Qc) => (noN 6 u173 (.yes u174 (.row ((Qi a.h1.Args)[(Int.toNat a.x5)]?) (a.h1.Args[(Int.toNat a.x5)]?) Xi fun (e4 : Qc) => (noN 3 u173 (Qsd e3.E e4.E fun r5 => (noN 2 u173 (.as (!r5) (rx PG (.inl false)) (lf Qcc (Wj.mk (w64 (a.x5 + 1)) a.h0 a.h1)))))))))))))))) .fail) (rx PG (.inr ()))))
theorem WU.ok {a : Wj} {r : (Bool ⊕ Unit)} (h : WU a = some r) : lw 0 28 (loopAt pp 28 4) (Qcc a) = some (PG r) := by
 refine lpP h Qor fun a => ?_
 exact ⟨(Jf _), ⟨rfl, fun q0 => ⟨rfl, fun q1 => fun e1 h => ⟨YC h, ⟨q1, fun e2 h => ⟨YC h, ⟨rfl, fun q2 => Qj 14 (q2) (⟨rfl, rfl⟩), fun q2 => noN_ok 3 (q2) (⟨q1, fun e3 h => ⟨YC h, noN_ok 6 (q2) (⟨q1, fun e4 h => ⟨YC h, noN_ok 3 (q2) (fun r5 h => ⟨J8.ok h, noN_ok 2 (q2) (⟨rfl, fun q3 => rfl, fun q3 => rfl⟩)⟩)⟩⟩)⟩⟩)⟩⟩⟩⟩, fun q1 => trivial⟩, fun q0 => rfl⟩⟩
def Qhn (L0 : QiR) (a0 : Qb) (a1 : Qb) : Option Bool := (bif (a0.Line != a1.Line) then (some false) else (bif (!(eqS a0.Label a1.Label)) then (some false) else (bif (a0.Kind != a1.Kind) then (some false) else (bif (a0.Op != a1.Op) then (some false) else (bif (!(eqS a0.Text a1.Text)) then (some false) else (bif ((((a0.Args.length) : Nat) : Int) != (((a1.Args.length) : Nat) : Int)) then (some false) else ((L0 (Wj.mk (0 : Int) a0 a1)).bind fun x => Sum.elim (fun (o1 : Bool) => (some o1)) (fun (o2 : Unit) => (some true)) x)))))))
noncomputable def Zy : Qop := Qhn WU
theorem Zy.eq (a0 : Qb) (a1 : Qb) : Zy a0 a1 = Qhn WU a0 a1 := rfl
noncomputable def Qse (a0 : Qb) (a1 : Qb) : Tr Bool AH := (let u179 := (a0.Line != a1.Line); .as u179 (yesN 5 u179 (yesN 27 true (rt Ql false))) (noN 5 u179 (let u178 := (!(eqS a0.Label a1.Label)); .as u178 (yesN 5 u178 (yesN 21 true (rt Ql false))) (noN 5 u178 (let u177 := (a0.Kind != a1.Kind); .as u177 (yesN 5 u177 (yesN 15 true (rt Ql false))) (noN 5 u177 (let u176 := (a0.Op != a1.Op); .as u176 (yesN 5 u176 (yesN 9 true (rt Ql false))) (noN 5 u176 (let u175 := (!(eqS a0.Text a1.Text)); .as u175 (yesN 7 u175 (.yes true (rt Ql false))) (noN 2 u175 (.num ((Qi a0.Args).length) (a0.Args.length) (noN 3 u175 (.num ((Qi a1.Args).length) (a1.Args.length) (noN 2 u175 (.as ((((a0.Args.length) : Nat) : Int) != (((a1.Args.length) : Nat) : Int)) (rt Ql false) (Qoq (Wj.mk i0 a0 a1) (fun o1 => (rt Ql o1)) (fun o2 => (rt Ql true))))))))))))))))))
theorem Zy.ok {a0 : Qb} {a1 : Qb} {r : Bool} (h : Zy a0 a1 = some r) : ww 28 [.agg (U1 a0), .agg (U1 a1)] [] = some (Ql r) := by
 refine fnP (Qse a0 a1) ?_ h
 exact ⟨rfl, fun q0 => Qj 5 (q0) (Qj 27 (rfl) (rfl)), fun q0 => noN_ok 5 (q0) (⟨rfl, fun q1 => Qj 5 (q1) (Qj 21 (rfl) (rfl)), fun q1 => noN_ok 5 (q1) (⟨rfl, fun q2 => Qj 5 (q2) (Qj 15 (rfl) (rfl)), fun q2 => noN_ok 5 (q2) (⟨rfl, fun q3 => Qj 5 (q3) (Qj 9 (rfl) (rfl)), fun q3 => noN_ok 5 (q3) (⟨rfl, fun q4 => Qj 7 (q4) (⟨rfl, rfl⟩), fun q4 => noN_ok 2 (q4) (⟨(Jf _), noN_ok 3 (q4) (⟨(Jf _), noN_ok 2 (q4) (⟨rfl, fun q5 => rfl, fun q5 => ⟨fun o1 h => ⟨WU.ok (r := (.inl _)) h, rfl⟩, fun o2 h => ⟨WU.ok (r := (.inr _)) h, rfl⟩⟩⟩)⟩)⟩)⟩)⟩)⟩)⟩)⟩
noncomputable abbrev Qsf {ρ R : Type} (a0 : Qb) (a1 : Qb) (k : Bool → Tr ρ R) : Tr ρ R := .call (ww 28 [.agg (U1 a0), .agg (U1 a1)] []) (Zy a0 a1) Ql k
abbrev Qos := (List QB) → (List Int) → Int → Option ByteArray
structure JQ where
 x0 : (List QB)
 x1 : (List Int)
 x2 : Int
 x7 : ByteArray
 x8 : Int
def Zh (a : JQ) : St := { n := 57, nx := 0, env := [(0, .sl (WX a.x0)), (1, .sl (Qy a.x1)), (2, xi a.x2), (7, xs a.x7), (8, xi a.x8)], heap := [] }
def Yy (a : ByteArray) : Ex × St := (.exit 0, { n := 57, nx := 0, env := [(7, xs a)], heap := [] })
abbrev QiS := JQ → Option ByteArray
def PI (C0 : Ez) (C1 : Qg4) (C2 : Qn7) (a : JQ) : Option (JQ ⊕ ByteArray) := (bif (decide (a.x8 < (((a.x0.length) : Nat) : Int))) then (bif (decide (a.x8 < (((a.x1.length) : Nat) : Int))) then (bif (decide (0 ≤ a.x8)) then ((a.x1[(Int.toNat a.x8)]?).bind fun e1 => ((C0 e1 (24 : Int)).bind fun r2 => ((a.x0[(Int.toNat a.x8)]?).bind fun e3 => ((C1 e3).bind fun r4 => ((C2 r4).bind fun r5 => (bif (r2 == 0) then (bif (decide ((w64 ((w64 (((a.x7.size : Nat) : Int) + 0)) + 1)) > a.x2)) then (some (.inr a.x7)) else (bif (decide (((a.x7.size + s_.size : Nat) : Int) ≤ IntKind.i64.max)) then (bif (decide ((((a.x7 ++ s_).size + h_0a.size : Nat) : Int) ≤ IntKind.i64.max)) then (some (.inl (JQ.mk a.x0 a.x1 a.x2 ((a.x7 ++ s_) ++ h_0a) (w64 (a.x8 + 1))))) else none) else none)) else (bif (r2 == 1) then (bif (decide (((ZC.size + r5.size : Nat) : Int) ≤ IntKind.i64.max)) then (bif (decide ((w64 ((w64 (((a.x7.size : Nat) : Int) + (((ZC ++ r5).size : Nat) : Int))) + 1)) > a.x2)) then (some (.inr a.x7)) else (bif (decide (((a.x7.size + (ZC ++ r5).size : Nat) : Int) ≤ IntKind.i64.max)) then (bif (decide ((((a.x7 ++ (ZC ++ r5)).size + h_0a.size : Nat) : Int) ≤ IntKind.i64.max)) then (some (.inl (JQ.mk a.x0 a.x1 a.x2 ((a.x7 ++ (ZC ++ r5)) ++ h_0a) (w64 (a.x8 + 1))))) else none) else none)) else none) else (bif (r2 == 2) then (bif (decide (((X9.size + r5.size : Nat) : Int) ≤ IntKind.i64.max)) then (bif (decide ((((X9 ++ r5).size + Ur.size : Nat) : Int) ≤ IntKind.i64.max)) then (bif (decide ((w64 ((w64 (((a.x7.size : Nat) : Int) + ((((X9 ++ r5) ++ Ur).size : Nat) : Int))) + 1)) > a.x2)) then (some (.inr a.x7)) else (bif (decide (((a.x7.size + ((X9 ++ r5) ++ Ur).size : Nat) : Int) ≤ IntKind.i64.max)) then (bif (decide ((((a.x7 ++ ((X9 ++ r5) ++ Ur)).size + h_0a.size : Nat) : Int) ≤ IntKind.i64.max)) then (some (.inl (JQ.mk a.x0 a.x1 a.x2 ((a.x7 ++ ((X9 ++ r5) ++ Ur)) ++ h_0a) (w64 (a.x8 + 1))))) else none) else none)) else none) else none) else (bif (decide ((w64 ((w64 (((a.x7.size : Nat) : Int) + ((r5.size : Nat) : Int))) + 1)) > a.x2)) then (some (.inr a.x7)) else (bif (decide (((a.x7.size + r5.size : Nat) : Int) ≤ IntKind.i64.max)) then (bif (decide ((((a.x7 ++ r5).size + h_0a.size : Nat) : Int) ≤ IntKind.i64.max)) then (some (.inl (JQ.mk a.x0 a.x1 a.x2 ((a.x7 ++ r5) ++ h_0a) (w64 (a.x8 + 1))))) else none) else none)))))))))) else none) else (bif (decide (0 ≤ a.x8)) then ((a.x0[(Int.toNat a.x8)]?).bind fun e6 => ((C1 e6).bind fun r7 => ((C2 r7).bind fun r8 => (bif (decide ((w64 ((w64 (((a.x7.size : Nat) : Int) + ((r8.size : Nat) : Int))) + 1)) > a.x2)) then (some (.inr a.x7)) else (bif (decide (((a.x7.size + r8.size : Nat) : Int) ≤ IntKind.i64.max)) then (bif (decide ((((a.x7 ++ r8).size + h_0a.size : Nat) : Int) ≤ IntKind.i64.max)) then (some (.inl (JQ.mk a.x0 a.x1 a.x2 ((a.x7 ++ r8) ++ h_0a) (w64 (a.x8 + 1))))) else none) else none))))) else none)) else (some (.inr a.x7)))
noncomputable def V7 : QiS := loopW (PI QG W7 Zx)
theorem V7.eq (a : JQ) : V7 a = (PI QG W7 Zx a).bind (Sum.elim V7 some) := Ja _ _
noncomputable abbrev Qot {ρ R : Type} (a : JQ) (k0 : ByteArray → Tr ρ R) : Tr ρ R := .loop (loopAt pp 30 3) (Zh a) (V7 a) Yy k0
noncomputable def Qou (a : JQ) : Tr (JQ ⊕ ByteArray) XS := (.num ((WX a.x0).length) (a.x0.length) (.as (decide (a.x8 < (((a.x0.length) : Nat) : Int))) (.num ((Qy a.x1).length) (a.x1.length) (.as (decide (a.x8 < (((a.x1.length) : Nat) : Int))) (let u180 := (decide (0 ≤ a.x8)); .as u180 (.row ((Qy a.x1)[(Int.toNat a.x8)]?) (a.x1[(Int.toNat a.x8)]?) WW fun (e1 : Int) => (Jd e1 (zi 24) fun r2 => (.yes u180 (.row ((WX a.x0)[(Int.toNat a.x8)]?) (a.x0[(Int.toNat a.x8)]?) V9 fun (e3 : QB) => (Qfs e3 fun r4 => (Ql3 r4 fun r5 => (.as (r2 == 0) (.as (decide ((w64 ((w64 ((zz a.x7) + 0)) + 1)) > a.x2)) (rx Yy a.x7) (.as (decide (((a.x7.size + s_.size : Nat) : Int) ≤ IntKind.i64.max)) (.as (decide ((((a.x7 ++ s_).size + h_0a.size : Nat) : Int) ≤ IntKind.i64.max)) (lf Zh (JQ.mk a.x0 a.x1 a.x2 ((a.x7 ++ s_) ++ h_0a) (w64 (a.x8 + 1)))) .fail) .fail)) (.as (r2 == 1) (.as (decide (((ZC.size + r5.size : Nat) : Int) ≤ IntKind.i64.max)) (.as (decide ((w64 ((w64 ((zz a.x7) + (zz (ZC ++ r5)))) + 1)) > a.x2)) (rx Yy a.x7) (.as (decide (((a.x7.size + (ZC ++ r5).size : Nat) : Int) ≤ IntKind.i64.max)) (.as (decide ((((a.x7 ++ (ZC ++ r5)).size + h_0a.size : Nat) : Int) ≤ IntKind.i64.max)) (lf Zh (JQ.mk a.x0 a.x1 a.x2 ((a.x7 ++ (ZC ++ r5)) ++ h_0a) (w64 (a.x8 + 1)))) .fail) .fail)) .fail) (.as (r2 == 2) (.as (decide (((X9.size + r5.size : Nat) : Int) ≤ IntKind.i64.max)) (.as (decide ((((X9 ++ r5).size + Ur.size : Nat) : Int) ≤ IntKind.i64.max)) (.as (decide ((w64 ((w64 ((zz a.x7) + (zz ((X9 ++ r5) ++ Ur)))) + 1)) > a.x2)) (rx Yy a.x7) (.as (decide (((a.x7.size + ((X9 ++ r5) ++ Ur).size : Nat) : Int) ≤ IntKind.i64.max)) (.as (decide ((((a.x7 ++ ((X9 ++ r5) ++ Ur)).size + h_0a.size : Nat) : Int) ≤ IntKind.i64.max)) (lf Zh (JQ.mk a.x0 a.x1 a.x2 ((a.x7 ++ ((X9 ++ r5) ++ Ur)) ++ h_0a) (w64 (a.x8 + 1)))) .fail) .fail)) .fail) .fail) (.as (decide ((w64 ((w64 ((zz a.x7) + (zz r5))) + 1)) > a.x2)) (rx Yy a.x7) (.as (decide (((a.x7.size + r5.size : Nat) : Int) ≤ IntKind.i64.max)) (.as (decide ((((a.x7 ++ r5).size + h_0a.size : Nat) : Int) ≤ IntKind.i64.max)) (lf Zh (JQ.mk a.x0 a.x1 a.x2 ((a.x7 ++ r5) ++ h_0a) (w64 (a.x8 + 1)))) .fail) .fail))))))))))) .fail) (.as (decide (0 ≤ a.x8)) (.row ((WX a.x0)[(Int.toNat a.x8)]?) (a.x0[(Int.toNat a.x8)]?) V9 fun (e6 : QB) => (Qfs e6 fun r7 => (Ql3 r7 fun r8 => (noN 3 false (.as (decide ((w64 ((w64 ((zz a.x7) + (zz r8))) + 1)) > a.x2)) (rx Yy a.x7) (.as (decide (((a.x7.size + r8.size : Nat) : Int) ≤ IntKind.i64.max)) (.as (decide ((((a.x7 ++ r8).size + h_0a.size : Nat) : Int) ≤ IntKind.i64.max)) (lf Zh (JQ.mk a.x0 a.x1 a.x2 ((a.x7 ++ r8) ++ h_0a) (w64 (a.x8 + 1)))) .fail) .fail)))))) .fail))) (rx Yy a.x7)))
theorem V7.ok {a : JQ} {r : ByteArray} (h : V7 a = some r) : lw 0 30 (loopAt pp 30 3) (Zh a) = some (Yy r) := by
 refine lpP h Qou fun a => ?_
 exact ⟨(Qgk _), ⟨rfl, fun q0 => ⟨(JU _), ⟨rfl, fun q1 => ⟨rfl, fun q2 => fun e1 h => ⟨Vc h, fun r2 h => ⟨QG.ok h, ⟨q2, fun e3 h => ⟨FP h, fun r4 h => ⟨W7.ok h, fun r5 h => ⟨Zx.ok h, ⟨rfl, fun q3 => ⟨rfl, fun q4 => rfl, fun q4 => ⟨rfl, fun q5 => ⟨rfl, fun q6 => rfl, fun q6 => trivial⟩, fun q5 => trivial⟩⟩, fun q3 => ⟨rfl, fun q4 => ⟨rfl, fun q5 => ⟨rfl, fun q6 => rfl, fun q6 => ⟨rfl, fun q7 => ⟨rfl, fun q8 => rfl, fun q8 => trivial⟩, fun q7 => trivial⟩⟩, fun q5 => trivial⟩, fun q4 => ⟨rfl, fun q5 => ⟨rfl, fun q6 => ⟨rfl, fun q7 => ⟨rfl, fun q8 => rfl, fun q8 => ⟨rfl, fun q9 => ⟨rfl, fun q10 => rfl, fun q10 => trivial⟩, fun q9 => trivial⟩⟩, fun q7 => trivial⟩, fun q6 => trivial⟩, fun q5 => ⟨rfl, fun q6 => rfl, fun q6 => ⟨rfl, fun q7 => ⟨rfl, fun q8 => rfl, fun q8 => trivial⟩, fun q7 => trivial⟩⟩⟩⟩⟩⟩⟩⟩⟩⟩⟩, fun q2 => trivial⟩, fun q1 => ⟨rfl, fun q2 => fun e6 h => ⟨FP h, fun r7 h => ⟨W7.ok h, fun r8 h => ⟨Zx.ok h, noN_ok 3 (rfl) (⟨rfl, fun q3 => rfl, fun q3 => ⟨rfl, fun q4 => ⟨rfl, fun q5 => rfl, fun q5 => trivial⟩, fun q4 => trivial⟩⟩)⟩⟩⟩, fun q2 => trivial⟩⟩⟩, fun q0 => rfl⟩⟩
def Qho (L0 : QiS) (a0 : (List QB)) (a1 : (List Int)) (a2 : Int) : Option ByteArray := ((L0 (JQ.mk a0 a1 a2 s_ (0 : Int))).bind (fun (o1 : ByteArray) => (some o1)))
noncomputable def GM : Qos := Qho V7
theorem GM.eq (a0 : (List QB)) (a1 : (List Int)) (a2 : Int) : GM a0 a1 a2 = Qho V7 a0 a1 a2 := rfl
noncomputable def Qsg (a0 : (List QB)) (a1 : (List Int)) (a2 : Int) : Tr ByteArray AH := (Qot (JQ.mk a0 a1 a2 s_ i0) (fun o1 => (rt Qk o1)))
theorem GM.ok {a0 : (List QB)} {a1 : (List Int)} {a2 : Int} {r : ByteArray} (h : GM a0 a1 a2 = some r) : ww 30 [.sl (WX a0), .sl (Qy a1), xi a2] [] = some (Qk r) := by
 refine fnP (Qsg a0 a1 a2) ?_ h
 exact fun o1 h => ⟨V7.ok h, rfl⟩
noncomputable abbrev Qsh {ρ R : Type} (a0 : (List QB)) (a1 : (List Int)) (a2 : Int) (k : ByteArray → Tr ρ R) : Tr ρ R := .call (ww 30 [.sl (WX a0), .sl (Qy a1), xi a2] []) (GM a0 a1 a2) Qk k
def Qcd (r : (List Qb)) : AV × Heap := (.sl (QX r), [])
abbrev Qky := (List Qb) → Option (List Qb)
noncomputable def XL (a0 : (List Qb)) : Option (List Qb) := cloneT 80 a0
noncomputable abbrev Qjz {ρ R : Type} (a0 : (List Qb)) (k : (List Qb) → Tr ρ R) : Tr ρ R := .call (ww 80 [.sl (QX a0)] []) (XL a0) Qcd k
theorem XL.ok {a0 : (List Qb)} {r : (List Qb)} (h : XL a0 = some r) : ww 80 [.sl (QX a0)] [] = some (Qcd r) := (GJ rfl _ _).trans (QlR U1 (fun _ => rfl) (fun _ => rfl) (W9 _) (W9 _) h)
def Qce (r : (List Int)) : AV × Heap := (.sl (Qy r), [])
abbrev Qkz := (List Int) → Option (List Int)
noncomputable def Yk (a0 : (List Int)) : Option (List Int) := cloneB 8 a0
noncomputable abbrev QjA {ρ R : Type} (a0 : (List Int)) (k : (List Int) → Tr ρ R) : Tr ρ R := .call (ww 81 [.sl (Qy a0)] []) (Yk a0) Qce k
theorem Yk.ok {a0 : (List Int)} {r : (List Int)} (h : Yk a0 = some r) : ww 81 [.sl (Qy a0)] [] = some (Qce r) := (GJ rfl _ _).trans (QrN (.int .i64) (fun _ => rfl) h)
def Gr (r : ((List Qb) × (List Int))) : AV × Heap := (.tup [.sl (QX r.1), .sl (Qy r.2)], [])
abbrev QiT := ByteArray → Option ((List Qb) × (List Int))
structure J1 where
 x9 : (List ByteArray)
 x10 : Int
 x11 : Int
 r0 : (List Qb)
 r1 : (List Int)
structure WC where
 r0 : (List Qb)
 r1 : (List Int)
def ZN (a : J1) : St := { n := 45, nx := 2, env := [(2, .arr 0), (3, .arr 1), (9, .sl (Qg a.x9)), (10, xi a.x10), (11, xi a.x11)], heap := [(0, .arr true 6 (QX a.r0)), (1, .arr true 1 (Qy a.r1))] }
def PJ (a : WC) : Ex × St := (.exit 0, { n := 45, nx := 2, env := [(2, .arr 0), (3, .arr 1)], heap := [(0, .arr true 6 (QX a.r0)), (1, .arr true 1 (Qy a.r1))] })
abbrev Qd8 := J1 → Option WC
def GZ (C0 : QlY) (a : J1) : Option (J1 ⊕ WC) := (bif (decide (a.x11 < a.x10)) then (bif (decide (0 ≤ a.x11)) then ((a.x9[(Int.toNat a.x11)]?).bind fun e1 => ((C0 e1).bind fun r2 => (bif (!r2.2) then (bif (decide ((a.r1.length + [(w64 (a.x11 + 1))].length) * 8 ≤ most)) then (some (.inl (J1.mk a.x9 a.x10 (w64 (a.x11 + 1)) a.r0 (a.r1 ++ [(w64 (a.x11 + 1))])))) else none) else (bif (decide (r2.1.Line > 0)) then (bif (decide ((a.r0.length + [(Qb.mk (w64 (a.x11 + 1)) r2.1.Label r2.1.Kind r2.1.Op r2.1.Text r2.1.Args)].length) * 80 ≤ most)) then (some (.inl (J1.mk a.x9 a.x10 (w64 (a.x11 + 1)) (a.r0 ++ [(Qb.mk (w64 (a.x11 + 1)) r2.1.Label r2.1.Kind r2.1.Op r2.1.Text r2.1.Args)]) a.r1))) else none) else (some (.inl (J1.mk a.x9 a.x10 (w64 (a.x11 + 1)) a.r0 a.r1))))))) else none) else (some (.inr (WC.mk a.r0 a.r1))))
noncomputable def Vu : Qd8 := loopW (GZ ZV)
theorem Vu.eq (a : J1) : Vu a = (GZ ZV a).bind (Sum.elim Vu some) := Ja _ _
noncomputable abbrev QkA {ρ R : Type} (a : J1) (k0 : WC → Tr ρ R) : Tr ρ R := .loop (loopAt pp 31 2) (ZN a) (Vu a) PJ k0
noncomputable def QkB (a : J1) : Tr (J1 ⊕ WC) XS := (.as (decide (a.x11 < a.x10)) (.as (decide (0 ≤ a.x11)) (.row ((Qg a.x9)[(Int.toNat a.x11)]?) (a.x9[(Int.toNat a.x11)]?) QW fun (e1 : ByteArray) => (QqZ e1 fun r2 => (.as (!r2.2) (.rows [[xi (w64 (a.x11 + 1))]] (Qy [(w64 (a.x11 + 1))]) (.yes (decide ((Qy [(w64 (a.x11 + 1))]).all (fun r => r.length == 1) = true)) (.ask (decide (((Qy a.r1).length + (Qy [(w64 (a.x11 + 1))]).length) * 8 ≤ most)) (decide ((a.r1.length + [(w64 (a.x11 + 1))].length) * 8 ≤ most)) (.rows ((Qy a.r1) ++ (Qy [(w64 (a.x11 + 1))])) (Qy (a.r1 ++ [(w64 (a.x11 + 1))])) (lf ZN (J1.mk a.x9 a.x10 (w64 (a.x11 + 1)) a.r0 (a.r1 ++ [(w64 (a.x11 + 1))])))) .fail))) (.as (decide (r2.1.Line > 0)) (.rows [[xi (w64 (a.x11 + 1)), xs r2.1.Label, xi r2.1.Kind, xi r2.1.Op, xs r2.1.Text, .sl (Qi r2.1.Args)]] (QX [(Qb.mk (w64 (a.x11 + 1)) r2.1.Label r2.1.Kind r2.1.Op r2.1.Text r2.1.Args)]) (.yes (decide ((QX [(Qb.mk (w64 (a.x11 + 1)) r2.1.Label r2.1.Kind r2.1.Op r2.1.Text r2.1.Args)]).all (fun r => r.length == 6) = true)) (.ask (decide (((QX a.r0).length + (QX [(Qb.mk (w64 (a.x11 + 1)) r2.1.Label r2.1.Kind r2.1.Op r2.1.Text r2.1.Args)]).length) * 80 ≤ most)) (decide ((a.r0.length + [(Qb.mk (w64 (a.x11 + 1)) r2.1.Label r2.1.Kind r2.1.Op r2.1.Text r2.1.Args)].length) * 80 ≤ most)) (.rows ((QX a.r0) ++ (QX [(Qb.mk (w64 (a.x11 + 1)) r2.1.Label r2.1.Kind r2.1.Op r2.1.Text r2.1.Args)])) (QX (a.r0 ++ [(Qb.mk (w64 (a.x11 + 1)) r2.1.Label r2.1.Kind r2.1.Op r2.1.Text r2.1.Args)])) (lf ZN (J1.mk a.x9 a.x10 (w64 (a.x11 + 1)) (a.r0 ++ [(Qb.mk (w64 (a.x11 + 1)) r2.1.Label r2.1.Kind r2.1.Op r2.1.Text r2.1.Args)]) a.r1))) .fail))) (lf ZN (J1.mk a.x9 a.x10 (w64 (a.x11 + 1)) a.r0 a.r1)))))) .fail) (rx PJ (WC.mk a.r0 a.r1)))
theorem Vu.ok {a : J1} {r : WC} (h : Vu a = some r) : lw 0 31 (loopAt pp 31 2) (ZN a) = some (PJ r) := by
 refine lpP h QkB fun a => ?_
 exact ⟨rfl, fun q0 => ⟨rfl, fun q1 => fun e1 h => ⟨QO h, fun r2 h => ⟨ZV.ok h, ⟨rfl, fun q2 => ⟨(JP [(w64 (a.x11 + (1 : Int)))]), ⟨(decide_eq_true (Qgh _)), ⟨(by rw [JU, JU]), fun q3 => ⟨(Qbj _ _), rfl⟩, fun q3 => trivial⟩⟩⟩, fun q2 => ⟨rfl, fun q3 => ⟨(W9 [(Qb.mk (w64 (a.x11 + (1 : Int))) r2.1.Label r2.1.Kind r2.1.Op r2.1.Text r2.1.Args)]), ⟨(decide_eq_true (P4 _)), ⟨(by rw [Xa, Xa]), fun q4 => ⟨(EK _ _), rfl⟩, fun q4 => trivial⟩⟩⟩, fun q3 => rfl⟩⟩⟩⟩, fun q1 => trivial⟩, fun q0 => rfl⟩
def Qcf (C0 : QdL) (C1 : Qky) (C2 : Qkz) (L3 : Qd8) (a0 : ByteArray) : Option ((List Qb) × (List Int)) := ((C0 a0 h_0a).bind fun r1 => ((L3 (J1.mk r1 (((r1.length) : Nat) : Int) (0 : Int) ([] : List Qb) ([] : List Int))).bind (fun (o2 : WC) => ((C1 o2.r0).bind fun r3 => ((C2 o2.r1).bind fun r4 => (some (r3, r4)))))))
noncomputable def Yr : QiT := Qcf WD XL Yk Vu
theorem Yr.eq (a0 : ByteArray) : Yr a0 = Qcf WD XL Yk Vu a0 := rfl
noncomputable def Qov (a0 : ByteArray) : Tr ((List Qb) × (List Int)) AH := (Qcv a0 h_0a fun r1 => (.num ((Qg r1).length) (r1.length) (QkA (J1.mk r1 (((r1.length) : Nat) : Int) i0 ([] : List Qb) ([] : List Int)) (fun o2 => (Qjz o2.r0 fun r3 => (QjA o2.r1 fun r4 => (rt Gr (r3, r4))))))))
theorem Yr.ok {a0 : ByteArray} {r : ((List Qb) × (List Int))} (h : Yr a0 = some r) : ww 31 [xs a0] [] = some (Gr r) := by
 refine fnP (Qov a0) ?_ h
 exact fun r1 h => ⟨WD.ok h, ⟨(Qo _), fun o2 h => ⟨Vu.ok h, fun r3 h => ⟨XL.ok h, fun r4 h => ⟨Yk.ok h, rfl⟩⟩⟩⟩⟩
noncomputable abbrev Qow {ρ R : Type} (a0 : ByteArray) (k : ((List Qb) × (List Int)) → Tr ρ R) : Tr ρ R := .call (ww 31 [xs a0] []) (Yr a0) Gr k
abbrev Qma := ByteArray → Option ((List Qb) × (List Int))
structure Jc where
 x0 : ByteArray
 x6 : Int
 x7 : Int
 x8 : Int
 r0 : (List Qb)
 r1 : (List Int)
structure WN where
 r0 : (List Qb)
 r1 : (List Int)
def XC (a : Jc) : St := { n := 56, nx := 2, env := [(0, xs a.x0), (4, .arr 0), (5, .arr 1), (6, xi a.x6), (7, xi a.x7), (8, xi a.x8)], heap := [(0, .arr true 6 (QX a.r0)), (1, .arr true 1 (Qy a.r1))] }
def QaD (a : WN) : Ex × St := (.exit 0, { n := 56, nx := 2, env := [(4, .arr 0), (5, .arr 1)], heap := [(0, .arr true 6 (QX a.r0)), (1, .arr true 1 (Qy a.r1))] })
abbrev Qhp := Jc → Option WN
def GH (C0 : QpY) (a : Jc) : Option (Jc ⊕ WN) := (bif (decide (a.x8 ≤ ((a.x0.size : Nat) : Int))) then (bif (decide (a.x8 < ((a.x0.size : Nat) : Int))) then (bif (decide (0 ≤ a.x8 ∧ a.x8 < ((a.x0.size : Nat) : Int))) then (bif (((a.x0.data.getD (Int.toNat a.x8) 0).toNat : Int) != 10) then (some (.inl (Jc.mk a.x0 a.x6 a.x7 (w64 (a.x8 + 1)) a.r0 a.r1))) else (bif (decide (0 ≤ a.x6 ∧ a.x6 ≤ a.x8 ∧ a.x8 ≤ ((a.x0.size : Nat) : Int))) then ((C0 (a.x0.extract (Int.toNat a.x6) (Int.toNat a.x8))).bind fun r1 => (bif (!r1.2) then (bif (decide ((a.r1.length + [(w64 (a.x7 + 1))].length) * 8 ≤ most)) then (some (.inl (Jc.mk a.x0 (w64 (a.x8 + 1)) (w64 (a.x7 + 1)) (w64 (a.x8 + 1)) a.r0 (a.r1 ++ [(w64 (a.x7 + 1))])))) else none) else (bif (decide (r1.1.Line > 0)) then (bif (decide ((a.r0.length + [(Qb.mk (w64 (a.x7 + 1)) r1.1.Label r1.1.Kind r1.1.Op r1.1.Text r1.1.Args)].length) * 80 ≤ most)) then (some (.inl (Jc.mk a.x0 (w64 (a.x8 + 1)) (w64 (a.x7 + 1)) (w64 (a.x8 + 1)) (a.r0 ++ [(Qb.mk (w64 (a.x7 + 1)) r1.1.Label r1.1.Kind r1.1.Op r1.1.Text r1.1.Args)]) a.r1))) else none) else (some (.inl (Jc.mk a.x0 (w64 (a.x8 + 1)) (w64 (a.x7 + 1)) (w64 (a.x8 + 1)) a.r0 a.r1)))))) else none)) else none) else (bif (decide (0 ≤ a.x6 ∧ a.x6 ≤ a.x8 ∧ a.x8 ≤ ((a.x0.size : Nat) : Int))) then ((C0 (a.x0.extract (Int.toNat a.x6) (Int.toNat a.x8))).bind fun r2 => (bif (!r2.2) then (bif (decide ((a.r1.length + [(w64 (a.x7 + 1))].length) * 8 ≤ most)) then (some (.inl (Jc.mk a.x0 (w64 (a.x8 + 1)) (w64 (a.x7 + 1)) (w64 (a.x8 + 1)) a.r0 (a.r1 ++ [(w64 (a.x7 + 1))])))) else none) else (bif (decide (r2.1.Line > 0)) then (bif (decide ((a.r0.length + [(Qb.mk (w64 (a.x7 + 1)) r2.1.Label r2.1.Kind r2.1.Op r2.1.Text r2.1.Args)].length) * 80 ≤ most)) then (some (.inl (Jc.mk a.x0 (w64 (a.x8 + 1)) (w64 (a.x7 + 1)) (w64 (a.x8 + 1)) (a.r0 ++ [(Qb.mk (w64 (a.x7 + 1)) r2.1.Label r2.1.Kind r2.1.Op r2.1.Text r2.1.Args)]) a.r1))) else none) else (some (.inl (Jc.mk a.x0 (w64 (a.x8 + 1)) (w64 (a.x7 + 1)) (w64 (a.x8 + 1)) a.r0 a.r1)))))) else none)) else (some (.inr (WN.mk a.r0 a.r1))))
noncomputable def VJ : Qhp := loopW (GH GG)
theorem VJ.eq (a : Jc) : VJ a = (GH GG a).bind (Sum.elim VJ some) := Ja _ _
noncomputable abbrev Qm2 {ρ R : Type} (a : Jc) (k0 : WN → Tr ρ R) : Tr ρ R := .loop (loopAt pp 32 5) (XC a) (VJ a) QaD k0
noncomputable def Qm3 (a : Jc) : Tr (Jc ⊕ WN) XS := (.as (decide (a.x8 ≤ (zz a.x0))) (let u181 := (decide (a.x8 < (zz a.x0))); .as u181 (yesN 2 u181 (.as (in1 a.x8 (zz a.x0)) (yesN 2 u181 (.as ((gb a.x0 a.x8) != 10) (lf XC (Jc.mk a.x0 a.x6 a.x7 (w64 (a.x8 + 1)) a.r0 a.r1)) (.as (in2 a.x6 a.x8 (zz a.x0)) (Qom (cu a.x0 a.x6 a.x8) fun r1 => (.as (!r1.2) (.rows [[xi (w64 (a.x7 + 1))]] (Qy [(w64 (a.x7 + 1))]) (.yes (decide ((Qy [(w64 (a.x7 + 1))]).all (fun r => r.length == 1) = true)) (.ask (decide (((Qy a.r1).length + (Qy [(w64 (a.x7 + 1))]).length) * 8 ≤ most)) (decide ((a.r1.length + [(w64 (a.x7 + 1))].length) * 8 ≤ most)) (.rows ((Qy a.r1) ++ (Qy [(w64 (a.x7 + 1))])) (Qy (a.r1 ++ [(w64 (a.x7 + 1))])) (lf XC (Jc.mk a.x0 (w64 (a.x8 + 1)) (w64 (a.x7 + 1)) (w64 (a.x8 + 1)) a.r0 (a.r1 ++ [(w64 (a.x7 + 1))])))) .fail))) (.as (decide (r1.1.Line > 0)) (.rows [[xi (w64 (a.x7 + 1)), xs r1.1.Label, xi r1.1.Kind, xi r1.1.Op, xs r1.1.Text, .sl (Qi r1.1.Args)]] (QX [(Qb.mk (w64 (a.x7 + 1)) r1.1.Label r1.1.Kind r1.1.Op r1.1.Text r1.1.Args)]) (.yes (decide ((QX [(Qb.mk (w64 (a.x7 + 1)) r1.1.Label r1.1.Kind r1.1.Op r1.1.Text r1.1.Args)]).all (fun r => r.length == 6) = true)) (.ask (decide (((QX a.r0).length + (QX [(Qb.mk (w64 (a.x7 + 1)) r1.1.Label r1.1.Kind r1.1.Op r1.1.Text r1.1.Args)]).length) * 80 ≤ most)) (decide ((a.r0.length + [(Qb.mk (w64 (a.x7 + 1)) r1.1.Label r1.1.Kind r1.1.Op r1.1.Text r1.1.Args)].length) * 80 ≤ most)) (.rows ((QX a.r0) ++ (QX [(Qb.mk (w64 (a.x7 + 1)) r1.1.Label r1.1.Kind r1.1.Op r1.1.Text r1.1.Args)])) (QX (a.r0 ++ [(Qb.mk (w64 (a.x7 + 1)) r1.1.Label r1.1.Kind r1.1.Op r1.1.Text r1.1.Args)])) (lf XC (Jc.mk a.x0 (w64 (a.x8 + 1)) (w64 (a.x7 + 1)) (w64 (a.x8 + 1)) (a.r0 ++ [(Qb.mk (w64 (a.x7 + 1)) r1.1.Label r1.1.Kind r1.1.Op r1.1.Text r1.1.Args)]) a.r1))) .fail))) (lf XC (Jc.mk a.x0 (w64 (a.x8 + 1)) (w64 (a.x7 + 1)) (w64 (a.x8 + 1)) a.r0 a.r1))))) .fail))) .fail)) (noN 4 u181 (.no false (.as (in2 a.x6 a.x8 (zz a.x0)) (Qom (cu a.x0 a.x6 a.x8) fun r2 => (.as (!r2.2) (.rows [[xi (w64 (a.x7 + 1))]] (Qy [(w64 (a.x7 + 1))]) (.yes (decide ((Qy [(w64 (a.x7 + 1))]).all (fun r => r.length == 1) = true)) (.ask (decide (((Qy a.r1).length + (Qy [(w64 (a.x7 + 1))]).length) * 8 ≤ most)) (decide ((a.r1.length + [(w64 (a.x7 + 1))].length) * 8 ≤ most)) (.rows ((Qy a.r1) ++ (Qy [(w64 (a.x7 + 1))])) (Qy (a.r1 ++ [(w64 (a.x7 + 1))])) (lf XC (Jc.mk a.x0 (w64 (a.x8 + 1)) (w64 (a.x7 + 1)) (w64 (a.x8 + 1)) a.r0 (a.r1 ++ [(w64 (a.x7 + 1))])))) .fail))) (.as (decide (r2.1.Line > 0)) (.rows [[xi (w64 (a.x7 + 1)), xs r2.1.Label, xi r2.1.Kind, xi r2.1.Op, xs r2.1.Text, .sl (Qi r2.1.Args)]] (QX [(Qb.mk (w64 (a.x7 + 1)) r2.1.Label r2.1.Kind r2.1.Op r2.1.Text r2.1.Args)]) (.yes (decide ((QX [(Qb.mk (w64 (a.x7 + 1)) r2.1.Label r2.1.Kind r2.1.Op r2.1.Text r2.1.Args)]).all (fun r => r.length == 6) = true)) (.ask (decide (((QX a.r0).length + (QX [(Qb.mk (w64 (a.x7 + 1)) r2.1.Label r2.1.Kind r2.1.Op r2.1.Text r2.1.Args)]).length) * 80 ≤ most)) (decide ((a.r0.length + [(Qb.mk (w64 (a.x7 + 1)) r2.1.Label r2.1.Kind r2.1.Op r2.1.Text r2.1.Args)].length) * 80 ≤ most)) (.rows ((QX a.r0) ++ (QX [(Qb.mk (w64 (a.x7 + 1)) r2.1.Label r2.1.Kind r2.1.Op r2.1.Text r2.1.Args)])) (QX (a.r0 ++ [(Qb.mk (w64 (a.x7 + 1)) r2.1.Label r2.1.Kind r2.1.Op r2.1.Text r2.1.Args)])) (lf XC (Jc.mk a.x0 (w64 (a.x8 + 1)) (w64 (a.x7 + 1)) (w64 (a.x8 + 1)) (a.r0 ++ [(Qb.mk (w64 (a.x7 + 1)) r2.1.Label r2.1.Kind r2.1.Op r2.1.Text r2.1.Args)]) a.r1))) .fail))) (lf XC (Jc.mk a.x0 (w64 (a.x8 + 1)) (w64 (a.x7 + 1)) (w64 (a.x8 + 1)) a.r0 a.r1))))) .fail)))) (rx QaD (WN.mk a.r0 a.r1)))
theorem VJ.ok {a : Jc} {r : WN} (h : VJ a = some r) : lw 0 32 (loopAt pp 32 5) (XC a) = some (QaD r) := by
 refine lpP h Qm3 fun a => ?_
 exact ⟨rfl, fun q0 => ⟨rfl, fun q1 => Qj 2 (q1) (⟨rfl, fun q2 => Qj 2 (q1) (⟨rfl, fun q3 => rfl, fun q3 => ⟨rfl, fun q4 => fun r1 h => ⟨GG.ok h, ⟨rfl, fun q5 => ⟨(JP [(w64 (a.x7 + (1 : Int)))]), ⟨(decide_eq_true (Qgh _)), ⟨(by rw [JU, JU]), fun q6 => ⟨(Qbj _ _), rfl⟩, fun q6 => trivial⟩⟩⟩, fun q5 => ⟨rfl, fun q6 => ⟨(W9 [(Qb.mk (w64 (a.x7 + (1 : Int))) r1.1.Label r1.1.Kind r1.1.Op r1.1.Text r1.1.Args)]), ⟨(decide_eq_true (P4 _)), ⟨(by rw [Xa, Xa]), fun q7 => ⟨(EK _ _), rfl⟩, fun q7 => trivial⟩⟩⟩, fun q6 => rfl⟩⟩⟩, fun q4 => trivial⟩⟩), fun q2 => trivial⟩), fun q1 => noN_ok 4 (q1) (⟨rfl, ⟨rfl, fun q2 => fun r2 h => ⟨GG.ok h, ⟨rfl, fun q3 => ⟨(JP [(w64 (a.x7 + (1 : Int)))]), ⟨(decide_eq_true (Qgh _)), ⟨(by rw [JU, JU]), fun q4 => ⟨(Qbj _ _), rfl⟩, fun q4 => trivial⟩⟩⟩, fun q3 => ⟨rfl, fun q4 => ⟨(W9 [(Qb.mk (w64 (a.x7 + (1 : Int))) r2.1.Label r2.1.Kind r2.1.Op r2.1.Text r2.1.Args)]), ⟨(decide_eq_true (P4 _)), ⟨(by rw [Xa, Xa]), fun q5 => ⟨(EK _ _), rfl⟩, fun q5 => trivial⟩⟩⟩, fun q4 => rfl⟩⟩⟩, fun q2 => trivial⟩⟩)⟩, fun q0 => rfl⟩
def QeN (L0 : Qhp) (a0 : ByteArray) : Option ((List Qb) × (List Int)) := ((L0 (Jc.mk a0 (0 : Int) (0 : Int) (0 : Int) ([] : List Qb) ([] : List Int))).bind (fun (o1 : WN) => (some (o1.r0, o1.r1))))
noncomputable def ZZ : Qma := QeN VJ
theorem ZZ.eq (a0 : ByteArray) : ZZ a0 = QeN VJ a0 := rfl
noncomputable def Qrc (a0 : ByteArray) : Tr ((List Qb) × (List Int)) AH := (Qm2 (Jc.mk a0 i0 i0 i0 ([] : List Qb) ([] : List Int)) (fun o1 => (rt Gr (o1.r0, o1.r1))))
theorem ZZ.ok {a0 : ByteArray} {r : ((List Qb) × (List Int))} (h : ZZ a0 = some r) : ww 32 [xs a0] [] = some (Gr r) := by
 refine fnP (Qrc a0) ?_ h
 exact fun o1 h => ⟨VJ.ok h, rfl⟩
noncomputable abbrev Qrd {ρ R : Type} (a0 : ByteArray) (k : ((List Qb) × (List Int)) → Tr ρ R) : Tr ρ R := .call (ww 32 [xs a0] []) (ZZ a0) Gr k
abbrev Qls := (List QB) → (List Int) → Int → Int → ByteArray → Option Bool
structure Ui where
 x13 : (List ByteArray)
 x14 : Int
 x15 : (List Qb)
 x16 : (List Int)
 x17 : (List Qb)
 x18 : (List Int)
 x19 : Int
structure U6 where
 x13 : (List ByteArray)
 x14 : Int
 x16 : (List Int)
 x18 : (List Int)
def Er (a : Ui) : St := { n := 122, nx := 0, env := [(13, .sl (Qg a.x13)), (14, xi a.x14), (15, .sl (QX a.x15)), (16, .sl (Qy a.x16)), (17, .sl (QX a.x17)), (18, .sl (Qy a.x18)), (19, xi a.x19)], heap := [] }
def PU (a : Bool) : Ex × St := (.ret, { n := 122, nx := 0, env := [(10, xo a)], heap := [] })
def PV (a : U6) : Ex × St := (.exit 2, { n := 122, nx := 0, env := [(13, .sl (Qg a.x13)), (14, xi a.x14), (16, .sl (Qy a.x16)), (18, .sl (Qy a.x18))], heap := [] })
def Es (a : (Bool ⊕ U6)) : Ex × St := Sum.elim PU PV a
abbrev QaQ := Ui → Option (Bool ⊕ U6)
def ZO (C0 : Qop) (a : Ui) : Option (Ui ⊕ (Bool ⊕ U6)) := (bif (decide (a.x19 < (((a.x15.length) : Nat) : Int))) then (bif (decide (0 ≤ a.x19)) then ((a.x15[(Int.toNat a.x19)]?).bind fun e1 => ((a.x17[(Int.toNat a.x19)]?).bind fun e2 => ((C0 e1 e2).bind fun r3 => (bif (!r3) then (some (.inr (.inl false))) else (some (.inl (Ui.mk a.x13 a.x14 a.x15 a.x16 a.x17 a.x18 (w64 (a.x19 + 1))))))))) else none) else (some (.inr (.inr (U6.mk a.x13 a.x14 a.x16 a.x18)))))
noncomputable def Uv : QaQ := loopW (ZO Zy)
theorem Uv.eq (a : Ui) : Uv a = (ZO Zy a).bind (Sum.elim Uv some) := Ja _ _
noncomputable abbrev Qhq {ρ R : Type} (a : Ui) (k0 : Bool → Tr ρ R) (k1 : U6 → Tr ρ R) : Tr ρ R := .loop2 (loopAt pp 7 17) (Er a) (Uv a) PU PV k0 k1
noncomputable def Qhr (a : Ui) : Tr (Ui ⊕ (Bool ⊕ U6)) XS := (.num ((QX a.x15).length) (a.x15.length) (.as (decide (a.x19 < (((a.x15.length) : Nat) : Int))) (let u182 := (decide (0 ≤ a.x19)); .as u182 (.row ((QX a.x15)[(Int.toNat a.x19)]?) (a.x15[(Int.toNat a.x19)]?) U1 fun (e1 : Qb) => (.yes u182 (.row ((QX a.x17)[(Int.toNat a.x19)]?) (a.x17[(Int.toNat a.x19)]?) U1 fun (e2 : Qb) => (Qsf e1 e2 fun r3 => (.as (!r3) (rx Es (.inl false)) (lf Er (Ui.mk a.x13 a.x14 a.x15 a.x16 a.x17 a.x18 (w64 (a.x19 + 1))))))))) .fail) (rx Es (.inr (U6.mk a.x13 a.x14 a.x16 a.x18)))))
theorem Uv.ok {a : Ui} {r : (Bool ⊕ U6)} (h : Uv a = some r) : lw 0 7 (loopAt pp 7 17) (Er a) = some (Es r) := by
 refine lpP h Qhr fun a => ?_
 exact ⟨(Xa _), ⟨rfl, fun q0 => ⟨rfl, fun q1 => fun e1 h => ⟨Qds h, ⟨q1, fun e2 h => ⟨Qds h, fun r3 h => ⟨Zy.ok h, ⟨rfl, fun q2 => rfl, fun q2 => rfl⟩⟩⟩⟩⟩, fun q1 => trivial⟩, fun q0 => rfl⟩⟩
structure Uj where
 x13 : (List ByteArray)
 x14 : Int
 x16 : (List Int)
 x18 : (List Int)
 x20 : Int
structure U7 where
 x13 : (List ByteArray)
 x14 : Int
def Et (a : Uj) : St := { n := 122, nx := 0, env := [(13, .sl (Qg a.x13)), (14, xi a.x14), (16, .sl (Qy a.x16)), (18, .sl (Qy a.x18)), (20, xi a.x20)], heap := [] }
def PW (a : Bool) : Ex × St := (.ret, { n := 122, nx := 0, env := [(10, xo a)], heap := [] })
def PX (a : U7) : Ex × St := (.exit 4, { n := 122, nx := 0, env := [(13, .sl (Qg a.x13)), (14, xi a.x14)], heap := [] })
def Eu (a : (Bool ⊕ U7)) : Ex × St := Sum.elim PW PX a
abbrev QaR := Uj → Option (Bool ⊕ U7)
def ZP (a : Uj) : Option (Uj ⊕ (Bool ⊕ U7)) := (bif (decide (a.x20 < (((a.x16.length) : Nat) : Int))) then (bif (decide (0 ≤ a.x20)) then ((a.x16[(Int.toNat a.x20)]?).bind fun e1 => ((a.x18[(Int.toNat a.x20)]?).bind fun e2 => (bif (e1 != e2) then (some (.inr (.inl false))) else (some (.inl (Uj.mk a.x13 a.x14 a.x16 a.x18 (w64 (a.x20 + 1)))))))) else none) else (some (.inr (.inr (U7.mk a.x13 a.x14)))))
noncomputable def Uw : QaR := loopW (ZP )
theorem Uw.eq (a : Uj) : Uw a = (ZP a).bind (Sum.elim Uw some) := Ja _ _
noncomputable abbrev Qhs {ρ R : Type} (a : Uj) (k0 : Bool → Tr ρ R) (k1 : U7 → Tr ρ R) : Tr ρ R := .loop2 (loopAt pp 7 22) (Et a) (Uw a) PW PX k0 k1
noncomputable def Qht (a : Uj) : Tr (Uj ⊕ (Bool ⊕ U7)) XS := (.num ((Qy a.x16).length) (a.x16.length) (.as (decide (a.x20 < (((a.x16.length) : Nat) : Int))) (let u183 := (decide (0 ≤ a.x20)); .as u183 (.row ((Qy a.x16)[(Int.toNat a.x20)]?) (a.x16[(Int.toNat a.x20)]?) WW fun (e1 : Int) => (.yes u183 (.row ((Qy a.x18)[(Int.toNat a.x20)]?) (a.x18[(Int.toNat a.x20)]?) WW fun (e2 : Int) => (.as (e1 != e2) (rx Eu (.inl false)) (lf Et (Uj.mk a.x13 a.x14 a.x16 a.x18 (w64 (a.x20 + 1)))))))) .fail) (rx Eu (.inr (U7.mk a.x13 a.x14)))))
theorem Uw.ok {a : Uj} {r : (Bool ⊕ U7)} (h : Uw a = some r) : lw 0 7 (loopAt pp 7 22) (Et a) = some (Eu r) := by
 refine lpP h Qht fun a => ?_
 exact ⟨(JU _), ⟨rfl, fun q0 => ⟨rfl, fun q1 => fun e1 h => ⟨Vc h, ⟨q1, fun e2 h => ⟨Vc h, ⟨rfl, fun q2 => rfl, fun q2 => rfl⟩⟩⟩⟩, fun q1 => trivial⟩, fun q0 => rfl⟩⟩
structure Uk where
 x13 : (List ByteArray)
 x14 : Int
def Ev (a : Uk) : St := { n := 122, nx := 0, env := [(13, .sl (Qg a.x13)), (14, xi a.x14)], heap := [] }
def PY (a : Bool) : Ex × St := (.ret, { n := 122, nx := 0, env := [(10, xo a)], heap := [] })
def PZ (a : Unit) : Ex × St := (.exit 0, { n := 122, nx := 0, env := [], heap := [] })
def XM (a : (Bool ⊕ Unit)) : Ex × St := Sum.elim PY PZ a
abbrev QaS := Uk → Option (Bool ⊕ Unit)
def ZQ (C0 : QiT) (C1 : Qma) (L2 : QaQ) (L3 : QaR) (a : Uk) : Option (Uk ⊕ (Bool ⊕ Unit)) := (bif (decide (a.x14 < (((a.x13.length) : Nat) : Int))) then (bif (decide (0 ≤ a.x14)) then ((a.x13[(Int.toNat a.x14)]?).bind fun e1 => ((C0 e1).bind fun r2 => ((a.x13[(Int.toNat a.x14)]?).bind fun e3 => ((C1 e3).bind fun r4 => (bif ((((r2.1.length) : Nat) : Int) != (((r4.1.length) : Nat) : Int)) then (some (.inr (.inl false))) else (bif ((((r2.2.length) : Nat) : Int) != (((r4.2.length) : Nat) : Int)) then (some (.inr (.inl false))) else ((L2 (Ui.mk a.x13 a.x14 r2.1 r2.2 r4.1 r4.2 (0 : Int))).bind fun x => Sum.elim (fun (o5 : Bool) => (some (.inr (.inl o5)))) (fun (o6 : U6) => ((L3 (Uj.mk o6.x13 o6.x14 o6.x16 o6.x18 (0 : Int))).bind fun x => Sum.elim (fun (o7 : Bool) => (some (.inr (.inl o7)))) (fun (o8 : U7) => (some (.inl (Uk.mk o8.x13 (w64 (o8.x14 + 1)))))) x)) x))))))) else none) else (some (.inr (.inr ()))))
noncomputable def Ux : QaS := loopW (ZQ Yr ZZ Uv Uw)
theorem Ux.eq (a : Uk) : Ux a = (ZQ Yr ZZ Uv Uw a).bind (Sum.elim Ux some) := Ja _ _
noncomputable abbrev Qhu {ρ R : Type} (a : Uk) (k0 : Bool → Tr ρ R) (k1 : Unit → Tr ρ R) : Tr ρ R := .loop2 (loopAt pp 7 10) (Ev a) (Ux a) PY PZ k0 k1
noncomputable def Qhv (a : Uk) : Tr (Uk ⊕ (Bool ⊕ Unit)) XS := (.num ((Qg a.x13).length) (a.x13.length) (.as (decide (a.x14 < (((a.x13.length) : Nat) : Int))) (let u185 := (decide (0 ≤ a.x14)); .as u185 (.row ((Qg a.x13)[(Int.toNat a.x14)]?) (a.x13[(Int.toNat a.x14)]?) QW fun (e1 : ByteArray) => (Qow e1 fun r2 => (.yes u185 (.row ((Qg a.x13)[(Int.toNat a.x14)]?) (a.x13[(Int.toNat a.x14)]?) QW fun (e3 : ByteArray) => (Qrd e3 fun r4 => (.num ((QX r2.1).length) (r2.1.length) (.num ((QX r4.1).length) (r4.1.length) (let u184 := ((((r2.1.length) : Nat) : Int) != (((r4.1.length) : Nat) : Int)); .as u184 (yesN 5 u184 (.yes true (rx XM (.inl false)))) (.no u184 (.num ((Qy r2.2).length) (r2.2.length) (noN 2 u184 (.num ((Qy r4.2).length) (r4.2.length) (noN 2 u184 (.as ((((r2.2.length) : Nat) : Int) != (((r4.2.length) : Nat) : Int)) (rx XM (.inl false)) (Qhq (Ui.mk a.x13 a.x14 r2.1 r2.2 r4.1 r4.2 i0) (fun o5 => (rx XM (.inl o5))) (fun o6 => (Qhs (Uj.mk o6.x13 o6.x14 o6.x16 o6.x18 i0) (fun o7 => (rx XM (.inl o7))) (fun o8 => (lf Ev (Uk.mk o8.x13 (w64 (o8.x14 + 1)))))))))))))))))))))) .fail) (rx XM (.inr ()))))
theorem Ux.ok {a : Uk} {r : (Bool ⊕ Unit)} (h : Ux a = some r) : lw 0 7 (loopAt pp 7 10) (Ev a) = some (XM r) := by
 refine lpP h Qhv fun a => ?_
 exact ⟨(Qo _), ⟨rfl, fun q0 => ⟨rfl, fun q1 => fun e1 h => ⟨QO h, fun r2 h => ⟨Yr.ok h, ⟨q1, fun e3 h => ⟨QO h, fun r4 h => ⟨ZZ.ok h, ⟨(Xa _), ⟨(Xa _), ⟨rfl, fun q2 => Qj 5 (q2) (⟨rfl, rfl⟩), fun q2 => ⟨q2, ⟨(JU _), noN_ok 2 (q2) (⟨(JU _), noN_ok 2 (q2) (⟨rfl, fun q3 => rfl, fun q3 => ⟨fun o5 h => ⟨Uv.ok (r := (.inl _)) h, rfl⟩, fun o6 h => ⟨Uv.ok (r := (.inr _)) h, ⟨fun o7 h => ⟨Uw.ok (r := (.inl _)) h, rfl⟩, fun o8 h => ⟨Uw.ok (r := (.inr _)) h, rfl⟩⟩⟩⟩⟩)⟩)⟩⟩⟩⟩⟩⟩⟩⟩⟩⟩, fun q1 => trivial⟩, fun q0 => rfl⟩⟩
def PK (C0 : QrR) (C1 : QpV) (C2 : Qos) (C3 : Ez) (L4 : QaS) (a0 : (List QB)) (a1 : (List Int)) (a2 : Int) (a3 : Int) (a4 : ByteArray) : Option Bool := ((C0).bind fun r1 => (bif (!r1) then (some false) else ((C1 a0).bind fun r2 => (bif (!r2) then (some true) else (bif (decide (((a4.size : Nat) : Int) > 300)) then (some true) else ((C2 a0 a1 (2000 : Int)).bind fun r3 => (bif (decide (((r3.size + h_20.size : Nat) : Int) ≤ IntKind.i64.max)) then ((C3 a2 ((((bytesL (r3 ++ h_20)).length) : Nat) : Int)).bind fun r4 => (bif (decide (0 ≤ r4 ∧ r4 < (((bytesL (r3 ++ h_20)).length : Nat) : Int))) then (((bytesL (r3 ++ h_20))[(Int.toNat r4)]?).bind fun e5 => (((bytesL (r3 ++ h_20))[(Int.toNat r4)]?).bind fun e6 => ((some (listB ((bytesL (r3 ++ h_20)).set (Int.toNat r4) (IntKind.u8.wrap (e5 + a3))))).bind fun e7 => (bif (decide (((r3.size + a4.size : Nat) : Int) ≤ IntKind.i64.max)) then (bif (decide (((h_0a.size + r3.size : Nat) : Int) ≤ IntKind.i64.max)) then ((L4 (Uk.mk [r3, (⟨e7.toArray⟩ : ByteArray), a4, (r3 ++ a4), (h_0a ++ r3)] (0 : Int))).bind fun x => Sum.elim (fun (o8 : Bool) => (some o8)) (fun (o9 : Unit) => (some true)) x) else none) else none)))) else none)) else none)))))))
noncomputable def W8 : Qls := PK Fk E7 GM QG Ux
theorem W8.eq (a0 : (List QB)) (a1 : (List Int)) (a2 : Int) (a3 : Int) (a4 : ByteArray) : W8 a0 a1 a2 a3 a4 = PK Fk E7 GM QG Ux a0 a1 a2 a3 a4 := rfl
noncomputable def QkC (a0 : (List QB)) (a1 : (List Int)) (a2 : Int) (a3 : Int) (a4 : ByteArray) : Tr Bool AH := (QqS fun r1 => (.as (!r1) (rt Ql false) (Qs5 a0 fun r2 => (.as (!r2) (yesN 3 (!r2) (.yes true (rt Ql true))) (noN 3 (!r2) (.as (decide ((zz a4) > 300)) (rt Ql true) (Qsh a0 a1 (zi 2000) fun r3 => (.as (decide (((r3.size + h_20.size : Nat) : Int) ≤ IntKind.i64.max)) (.rows (byteRows (r3 ++ h_20).data.toList) (R_u8 (bytesL (r3 ++ h_20))) (.num ((R_u8 (bytesL (r3 ++ h_20))).length) ((bytesL (r3 ++ h_20)).length) (Jd a2 ((((bytesL (r3 ++ h_20)).length) : Nat) : Int) fun r4 => (let u186 := (in1 r4 (((R_u8 (bytesL (r3 ++ h_20))).length : Nat) : Int)); .ask u186 (in1 r4 (((bytesL (r3 ++ h_20)).length : Nat) : Int)) (.row ((R_u8 (bytesL (r3 ++ h_20)))[(Int.toNat r4)]?) ((bytesL (r3 ++ h_20))[(Int.toNat r4)]?) C_u8 fun (e5 : Int) => (.yes u186 (.row ((R_u8 (bytesL (r3 ++ h_20)))[(Int.toNat r4)]?) ((bytesL (r3 ++ h_20))[(Int.toNat r4)]?) C_u8 fun (e6 : Int) => (.rows ((R_u8 (bytesL (r3 ++ h_20))).set (Int.toNat r4) [xb (IntKind.u8.wrap (e5 + a3))]) (R_u8 ((bytesL (r3 ++ h_20)).set (Int.toNat r4) (IntKind.u8.wrap (e5 + a3)))) (.byt (bytesOfRows (R_u8 ((bytesL (r3 ++ h_20)).set (Int.toNat r4) (IntKind.u8.wrap (e5 + a3))))) (some (listB ((bytesL (r3 ++ h_20)).set (Int.toNat r4) (IntKind.u8.wrap (e5 + a3))))) fun (e7 : List UInt8) => (.as (decide (((r3.size + a4.size : Nat) : Int) ≤ IntKind.i64.max)) (.as (decide (((h_0a.size + r3.size : Nat) : Int) ≤ IntKind.i64.max)) (.rows [[xs r3], [xs (⟨e7.toArray⟩ : ByteArray)], [xs a4], [xs (r3 ++ a4)], [xs (h_0a ++ r3)]] (Qg [r3, (⟨e7.toArray⟩ : ByteArray), a4, (r3 ++ a4), (h_0a ++ r3)]) (Qhu (Uk.mk [r3, (⟨e7.toArray⟩ : ByteArray), a4, (r3 ++ a4), (h_0a ++ r3)] i0) (fun o8 => (rt Ql o8)) (fun o9 => (rt Ql true)))) .fail) .fail)))))) .fail)))) .fail))))))))
theorem W8.ok {a0 : (List QB)} {a1 : (List Int)} {a2 : Int} {a3 : Int} {a4 : ByteArray} {r : Bool} (h : W8 a0 a1 a2 a3 a4 = some r) : ww 7 [.sl (WX a0), .sl (Qy a1), xi a2, xb a3, xs a4] [] = some (Ql r) := by
 refine fnP (QkC a0 a1 a2 a3 a4) ?_ h
 exact fun r1 h => ⟨Fk.ok h, ⟨rfl, fun q0 => rfl, fun q0 => fun r2 h => ⟨E7.ok h, ⟨rfl, fun q1 => Qj 3 (q1) (⟨rfl, rfl⟩), fun q1 => noN_ok 3 (q1) (⟨rfl, fun q2 => rfl, fun q2 => fun r3 h => ⟨GM.ok h, ⟨rfl, fun q3 => ⟨(QqQ _), ⟨(Qjb _), fun r4 h => ⟨QG.ok h, ⟨(by rw [Qjb]), fun q4 => fun e5 h => ⟨QnA h, ⟨(show (decide (0 ≤ r4 ∧ r4 < (((R_u8 (bytesL (r3 ++ h_20))).length : Nat) : Int))) = (decide (0 ≤ r4 ∧ r4 < (((bytesL (r3 ++ h_20)).length : Nat) : Int))) from (by rw [Qjb])).trans q4, fun e6 h => ⟨QnA h, ⟨(QsY (bytesL (r3 ++ h_20)) (Int.toNat r4) (IntKind.u8.wrap (e5 + a3))), fun e7 h => ⟨(QlS _).trans h, ⟨rfl, fun q5 => ⟨rfl, fun q6 => ⟨(QP [r3, (⟨e7.toArray⟩ : ByteArray), a4, (r3 ++ a4), (h_0a ++ r3)]), ⟨fun o8 h => ⟨Ux.ok (r := (.inl _)) h, rfl⟩, fun o9 h => ⟨Ux.ok (r := (.inr _)) h, rfl⟩⟩⟩, fun q6 => trivial⟩, fun q5 => trivial⟩⟩⟩⟩⟩⟩, fun q4 => trivial⟩⟩⟩⟩, fun q3 => trivial⟩⟩⟩)⟩⟩⟩⟩
theorem W8.run (a0 : (List QB)) (a1 : (List Int)) (a2 : Int) (a3 : Int) (a4 : ByteArray) {r : Bool} (h : W8 a0 a1 a2 a3 a4 = some r) : ∃ k, evalFn Tryz.prog G k 7 [.sl (WX a0), .sl (Qy a1), .sc (.int .i64 a2), .sc (.int .u8 a3), .sc (.string a4)] [] = some (Ql r) := runP (W8.ok h)

end Go.Ab
namespace Go.Proofs.YtblfhkldljfhiaaGreatDoor
open Go Go.Ab Go.RowKit Go.Shelf
theorem gPow : Tryz.prog.globalNamed "internal/strconv.uint64pow10" = some 5 := by kernel_rfl
theorem tPow : (Tryz.prog.globals[5]?).map (·.type) = some 287 := by kernel_rfl
theorem Qsi : Tryz.prog.cellsOf 255 = 1 := by kernel_rfl
theorem Qsj : Tryz.prog.cellsOf 287 = 20 := by kernel_rfl
theorem datumP {H : Type} : (Rows.laid_internal_strconv_uint64pow10 : DataW H) = Lib.tabData .u64 Lib.pow10Tab := by kernel_rfl
theorem gSp : Tryz.prog.globalNamed "strings.asciiSpace" = some 0 := by kernel_rfl
theorem tSp : (Tryz.prog.globals[0]?).map (·.type) = some 234 := by kernel_rfl
theorem Qtc : Tryz.prog.cellsOf 5 = 1 := by kernel_rfl
theorem Qtd : Tryz.prog.cellsOf 234 = 256 := by kernel_rfl
theorem datumS {H : Type} : (Rows.laid_strings_asciiSpace : DataW H) = Lib.tabData .u8 Lib.asciiSpaceTab := by kernel_rfl
def told : Ab.Told := ((told1 Tryz.prog "internal/strconv.uint64pow10" 5 (Lib.pow10Tab.map fun z => Value.int .u64 z).toArray).both (told1 Tryz.prog "strings.asciiSpace" 0 (Lib.asciiSpaceTab.map fun z => Value.int .u8 z).toArray)).both (cellT 1)
theorem Qt7 {W : World} (h : laidMetH Tryz.prog [("math/bits.deBruijn32tab", Rows.laid_math_bits_deBruijn32tab), ("math/bits.deBruijn64tab", Rows.laid_math_bits_deBruijn64tab), ("internal/strconv.uint64pow10", Rows.laid_internal_strconv_uint64pow10), ("unicode/utf8.acceptRanges", Rows.laid_unicode_utf8_acceptRanges), ("strconv.ErrRange", Rows.laid_strconv_ErrRange), ("strconv.ErrSyntax", Rows.laid_strconv_ErrSyntax), ("unicode.White_Space", Rows.laid_unicode_White_Space), ("strings.asciiSpace", Rows.laid_strings_asciiSpace), ("unicode/utf8.first", Rows.laid_unicode_utf8_first)] W ∧ W.ShapedOpen Tryz.prog) : told.T (oldCtx W).Z W := by
 obtain ⟨h, hs⟩ := h
 rw [MakeChecks.laidMetH_plain _ _ _ (by kernel_rfl)] at h
 obtain ⟨ps, ⟨g0, t0, cs0, f0, p0, q0, hg0, ht0, hv0, hd0, ⟨g1, t1, cs1, f1, p1, q1, hg1, ht1, hv1, hd1, ⟨g2, t2, cs2, f2, p2, q2, hg2, ht2, hv2, hd2, ⟨g3, t3, cs3, f3, p3, q3, hg3, ht3, hv3, hd3, ⟨g4, t4, cs4, f4, p4, q4, hg4, ht4, hv4, hd4, ⟨g5, t5, cs5, f5, p5, q5, hg5, ht5, hv5, hd5, ⟨g6, t6, cs6, f6, p6, q6, hg6, ht6, hv6, hd6, ⟨g7, t7, cs7, f7, p7, q7, hg7, ht7, hv7, hd7, ⟨g8, t8, cs8, f8, p8, q8, hg8, ht8, hv8, hd8, _⟩, _⟩, _⟩, _⟩, _⟩, _⟩, _⟩, _⟩, _⟩, _⟩ := h
 refine ⟨⟨?_, ?_⟩, ?_⟩
 ·obtain rfl := Option.some.inj (gPow.symm.trans hg2)
  obtain rfl := Option.some.inj (tPow.symm.trans ht2)
  rw [datumP] at hd2
  refine Qnt gPow (hv2.trans ?_) (by decide)
  have := Lib.cells_of_tab Tryz.underlying287 Tryz.underlying255 Qsi Qsj hd2
  rw [← this]
 ·obtain rfl := Option.some.inj (gSp.symm.trans hg7)
  obtain rfl := Option.some.inj (tSp.symm.trans ht7)
  rw [datumS] at hd7
  refine Qnt gSp (hv7.trans ?_) (of_decide_eq_true (by kernel_rfl))
  have := Lib.cells_of_tab Tryz.underlying234 Tryz.underlying5 Qtc Qtd hd7
  rw [← this]
 ·exact QrO (cell_of_shapedOpen_int (P := Tryz.prog) (t := 3) (zero := #[.int .i64 0]) hs (by decide +kernel) (by kernel_rfl) rfl (by kernel_rfl) (by kernel_rfl) Tryz.underlying3)
set_option maxHeartbeats 2000000 in
set_option maxRecDepth 100000 in
theorem Qt8 (n c : Nat) (w : World) : Calls Tryz.prog 81 #[.slice none n c] w fun e w' => e = .returned (.slice none 0 0) ∧ w' = w := by
 have mixed : Tryz.prog.follows .mixedOrders = true := by kernel_rfl
 have t0 := Tryz.underlying3; have a0 := Tryz.isAgg3; have z0 := Tryz.sizeOf3; have v0 := Tryz.zeroValue3; have t1 := Tryz.underlying22; have a1 := Tryz.isAgg22; have z1 := Tryz.sizeOf22; have v1 := Tryz.zeroValue22; have t2 := Tryz.underlying4; have a2 := Tryz.isAgg4; have z2 := Tryz.sizeOf4; have v2 := Tryz.zeroValue4
 have q22 : ∀ (w : World) (a : Option Addr) (n c n' c' : Nat), (binOp .eql 22 (.slice a n c) (.slice none n' c')).run Tryz.prog w = .ok (.bool a.isNone) w := fun w a n c n' c' => Lib.run_eql_slice_nil w _ _ a n c n' c' t1
 go_enter Tryz.func81, Tryz.ntmps81
 go_wp2
 go_ret
 exact ⟨rfl, rfl⟩
set_option maxHeartbeats 2000000 in
set_option maxRecDepth 100000 in
theorem Qte (a : Addr) (c : Nat) (w : World) : Calls Tryz.prog 81 #[.slice (some a) 0 c] w fun e w' => ∃ v', e = .returned v' ∧ w'.ownsRow w.heap.size 3 1 v' 0 [] ∧ Below w.heap.size w w' := by
 have mixed : Tryz.prog.follows .mixedOrders = true := by kernel_rfl
 have t0 := Tryz.underlying3; have a0 := Tryz.isAgg3; have z0 := Tryz.sizeOf3; have v0 := Tryz.zeroValue3; have t1 := Tryz.underlying22; have a1 := Tryz.isAgg22; have z1 := Tryz.sizeOf22; have v1 := Tryz.zeroValue22; have t2 := Tryz.underlying4; have a2 := Tryz.isAgg4; have z2 := Tryz.sizeOf4; have v2 := Tryz.zeroValue4
 have q22 : ∀ (w : World) (a : Option Addr) (n c n' c' : Nat), (binOp .eql 22 (.slice a n c) (.slice none n' c')).run Tryz.prog w = .ok (.bool a.isNone) w := fun w a n c n' c' => Lib.run_eql_slice_nil w _ _ a n c n' c' t1
 have hinfo : (Tryz.prog.info? 3).map (fun i => (i.zero, i.size, i.bytes)) = some (some (.int .i64 0), 1, 8) := by kernel_rfl
 obtain ⟨i0, hi, hz0, hz1, hz2⟩ := info_parts hinfo
 have u22 : ∀ w, Sem.run Tryz.prog (underlying 22) w = .ok (TypeDesc.slice 3) w := run_underlying t1
 go_enter Tryz.func81, Tryz.ntmps81
 go_wp2_with (at_builtin; refine wpList_append_own _ rfl _ _ 22 rfl w.heap.size 3 i0 (.int .i64 0) 1 8 t1 hi hz0 hz1 hz2 rfl (by decide) _ _ _ rfl (World.ownsRow_made w #[] 0 (Nat.le_refl _) (Nat.zero_le _) rfl) a 0 c [] rfl rfl (by intro j u hj; simp at hj) (by intro u hu; cases hu) (by unfold maxLen; omega) (by omega) (by simp) ?_)
 intro v' w1 hown hgrow hnil
 go_wp2
 go_ret
 refine ⟨v', rfl, by simpa using hown, ?_⟩
 exact ((Below.refl _ w).alloc (Nat.le_refl _) _).grown hgrow (by simp) (by intro k hk; simp [Value.ownBlock] at hk; omega)
set_option maxHeartbeats 2000000 in
set_option maxRecDepth 100000 in
theorem Qtf (b off c : Nat) (zs : List Value) (w : World) (hbig : zs.length * 8 ≤ 140737488355328) (hsc : zs.all scal = true) (hc : ∀ (j : Nat) z, zs[j]? = some z → w.cell? ⟨b, off + j, none⟩ = some z) :
  Calls Tryz.prog 81 #[.slice (some ⟨b, off, none⟩) zs.length c] w fun e w' => ∃ v', e = .returned v' ∧ w'.ownsRow w.heap.size 3 1 v' zs.length zs ∧ Below w.heap.size w w' := by
 have mixed : Tryz.prog.follows .mixedOrders = true := by kernel_rfl
 have t0 := Tryz.underlying3; have a0 := Tryz.isAgg3; have z0 := Tryz.sizeOf3; have v0 := Tryz.zeroValue3; have t1 := Tryz.underlying22; have a1 := Tryz.isAgg22; have z1 := Tryz.sizeOf22; have v1 := Tryz.zeroValue22; have t2 := Tryz.underlying4; have a2 := Tryz.isAgg4; have z2 := Tryz.sizeOf4; have v2 := Tryz.zeroValue4
 have q22 : ∀ (w : World) (a : Option Addr) (n c n' c' : Nat), (binOp .eql 22 (.slice a n c) (.slice none n' c')).run Tryz.prog w = .ok (.bool a.isNone) w := fun w a n c n' c' => Lib.run_eql_slice_nil w _ _ a n c n' c' t1
 have hinfo : (Tryz.prog.info? 3).map (fun i => (i.zero, i.size, i.bytes)) = some (some (.int .i64 0), 1, 8) := by kernel_rfl
 obtain ⟨i0, hi, hz0, hz1, hz2⟩ := info_parts hinfo
 have u22 : ∀ w, Sem.run Tryz.prog (underlying 22) w = .ok (TypeDesc.slice 3) w := run_underlying t1
 have A : Aside (∀ (j : Nat) z, zs[j]? = some z → w.cell? ⟨b, off + j, none⟩ = some z) := hc
 clear hc
 go_enter Tryz.func81, Tryz.ntmps81
 go_wp2_with (at_builtin; refine wpList_append_own _ rfl _ _ 22 rfl w.heap.size 3 i0 (.int .i64 0) 1 8 t1 hi hz0 hz1 hz2 rfl (by decide) _ _ _ rfl (World.ownsRow_made w #[] 0 (Nat.le_refl _) (Nat.zero_le _) rfl) ⟨b, off, none⟩ zs.length c zs rfl ?qc1 ?qc2 ?qc3 ?qc4 ?qc5 ?qc6 ?_)
 case qc1 => simp
 case qc2 =>
  intro j u hj
  rw [Addr.add_lit]
  exact Lib.cell?_alloc_some _ (A.out j u hj)
 case qc3 => intro u hu; exact Y6 (c := oldCtx w) (w := w) (.sc u (List.all_eq_true.1 hsc u hu)) rfl
 case qc4 => unfold maxLen; omega
 case qc5 => omega
 case qc6 => simp
 intro v' w1 hown hgrow hnil
 go_wp2
 go_ret
 refine ⟨v', rfl, by simpa using hown, ?_⟩
 exact ((Below.refl _ w).alloc (Nat.le_refl _) _).grown hgrow (by simp) (by intro k hk; simp [Value.ownBlock] at hk; omega)

set_option maxHeartbeats 2000000 in
set_option maxRecDepth 100000 in
theorem Qsk (n c : Nat) (w : World) : Calls Tryz.prog 77 #[.slice none n c] w fun e w' => e = .returned (.slice none 0 0) ∧ w' = w := by
 have mixed : Tryz.prog.follows .mixedOrders = true := by kernel_rfl
 have t0 := Tryz.underlying68; have a0 := Tryz.isAgg68; have z0 := Tryz.sizeOf68; have v0 := Tryz.zeroValue68; have t1 := Tryz.underlying35; have a1 := Tryz.isAgg35; have z1 := Tryz.sizeOf35; have v1 := Tryz.zeroValue35; have t2 := Tryz.underlying4; have a2 := Tryz.isAgg4; have z2 := Tryz.sizeOf4; have v2 := Tryz.zeroValue4
 have q22 : ∀ (w : World) (a : Option Addr) (n c n' c' : Nat), (binOp .eql 35 (.slice a n c) (.slice none n' c')).run Tryz.prog w = .ok (.bool a.isNone) w := fun w a n c n' c' => Lib.run_eql_slice_nil w _ _ a n c n' c' t1
 go_enter Tryz.func77, Tryz.ntmps77
 go_wp2
 go_ret
 exact ⟨rfl, rfl⟩
set_option maxHeartbeats 2000000 in
set_option maxRecDepth 100000 in
theorem Qre (a : Addr) (c : Nat) (w : World) : Calls Tryz.prog 77 #[.slice (some a) 0 c] w fun e w' => ∃ v', e = .returned v' ∧ w'.ownsRow w.heap.size 68 5 v' 0 [] ∧ Below w.heap.size w w' := by
 have mixed : Tryz.prog.follows .mixedOrders = true := by kernel_rfl
 have t0 := Tryz.underlying68; have a0 := Tryz.isAgg68; have z0 := Tryz.sizeOf68; have v0 := Tryz.zeroValue68; have t1 := Tryz.underlying35; have a1 := Tryz.isAgg35; have z1 := Tryz.sizeOf35; have v1 := Tryz.zeroValue35; have t2 := Tryz.underlying4; have a2 := Tryz.isAgg4; have z2 := Tryz.sizeOf4; have v2 := Tryz.zeroValue4
 have q22 : ∀ (w : World) (a : Option Addr) (n c n' c' : Nat), (binOp .eql 35 (.slice a n c) (.slice none n' c')).run Tryz.prog w = .ok (.bool a.isNone) w := fun w a n c n' c' => Lib.run_eql_slice_nil w _ _ a n c n' c' t1
 have hinfo : (Tryz.prog.info? 68).map (fun i => (i.zero, i.size, i.bytes)) = some (some (.agg #[.int .i64 0, .int .i64 0, .int .i64 0, .string ByteArray.empty, .slice none 0 0]), 5, 64) := by kernel_rfl
 obtain ⟨i0, hi, hz0, hz1, hz2⟩ := info_parts hinfo
 have u22 : ∀ w, Sem.run Tryz.prog (underlying 35) w = .ok (TypeDesc.slice 68) w := run_underlying t1
 go_enter Tryz.func77, Tryz.ntmps77
 go_wp2_with (at_builtin; refine wpList_append_own _ rfl _ _ 35 rfl w.heap.size 68 i0 (.agg #[.int .i64 0, .int .i64 0, .int .i64 0, .string ByteArray.empty, .slice none 0 0]) 5 64 t1 hi hz0 hz1 hz2 rfl (by decide) _ _ _ rfl (World.ownsRow_made w #[] 0 (Nat.le_refl _) (Nat.zero_le _) rfl) a 0 c [] rfl rfl (by intro j u hj; simp at hj) (by intro u hu; cases hu) (by unfold maxLen; omega) (by omega) (by simp) ?_)
 intro v' w1 hown hgrow hnil
 go_wp2
 go_ret
 refine ⟨v', rfl, by simpa using hown, ?_⟩
 exact ((Below.refl _ w).alloc (Nat.le_refl _) _).grown hgrow (by simp) (by intro k hk; simp [Value.ownBlock] at hk; omega)
set_option maxHeartbeats 2000000 in
set_option maxRecDepth 100000 in
theorem Qrf (b off n c : Nat) (zs : List Value) (w : World) (hl : zs.length = n * 5) (hbig : n * 64 ≤ 140737488355328) (hml : n ≤ maxLen) (hsc : ∀ u ∈ zs, u.oneCell' = true) (hc : ∀ (j : Nat) z, zs[j]? = some z → w.cell? ⟨b, off + j, none⟩ = some z) :
  Calls Tryz.prog 77 #[.slice (some ⟨b, off, none⟩) n c] w fun e w' => ∃ v', e = .returned v' ∧ w'.ownsRow w.heap.size 68 5 v' n zs ∧ Below w.heap.size w w' := by
 have mixed : Tryz.prog.follows .mixedOrders = true := by kernel_rfl
 have t0 := Tryz.underlying68; have a0 := Tryz.isAgg68; have z0 := Tryz.sizeOf68; have v0 := Tryz.zeroValue68; have t1 := Tryz.underlying35; have a1 := Tryz.isAgg35; have z1 := Tryz.sizeOf35; have v1 := Tryz.zeroValue35; have t2 := Tryz.underlying4; have a2 := Tryz.isAgg4; have z2 := Tryz.sizeOf4; have v2 := Tryz.zeroValue4
 have q22 : ∀ (w : World) (a : Option Addr) (n c n' c' : Nat), (binOp .eql 35 (.slice a n c) (.slice none n' c')).run Tryz.prog w = .ok (.bool a.isNone) w := fun w a n c n' c' => Lib.run_eql_slice_nil w _ _ a n c n' c' t1
 have hinfo : (Tryz.prog.info? 68).map (fun i => (i.zero, i.size, i.bytes)) = some (some (.agg #[.int .i64 0, .int .i64 0, .int .i64 0, .string ByteArray.empty, .slice none 0 0]), 5, 64) := by kernel_rfl
 obtain ⟨i0, hi, hz0, hz1, hz2⟩ := info_parts hinfo
 have u22 : ∀ w, Sem.run Tryz.prog (underlying 35) w = .ok (TypeDesc.slice 68) w := run_underlying t1
 have A : Aside (∀ (j : Nat) z, zs[j]? = some z → w.cell? ⟨b, off + j, none⟩ = some z) := hc
 clear hc
 go_enter Tryz.func77, Tryz.ntmps77
 go_wp2_with (at_builtin; refine wpList_append_own _ rfl _ _ 35 rfl w.heap.size 68 i0 (.agg #[.int .i64 0, .int .i64 0, .int .i64 0, .string ByteArray.empty, .slice none 0 0]) 5 64 t1 hi hz0 hz1 hz2 rfl (by decide) _ _ _ rfl (World.ownsRow_made w #[] 0 (Nat.le_refl _) (Nat.zero_le _) rfl) ⟨b, off, none⟩ n c zs rfl ?qc1 ?qc2 ?qc3 ?qc4 ?qc5 ?qc6 ?_)
 case qc1 => exact hl
 case qc2 =>
  intro j u hj
  rw [Addr.add_lit]
  exact Lib.cell?_alloc_some _ (A.out j u hj)
 case qc3 => intro u hu; exact hsc u hu
 case qc4 => omega
 case qc5 => omega
 case qc6 => simp
 intro v' w1 hown hgrow hnil
 go_wp2
 go_ret
 refine ⟨v', rfl, by simpa using hown, ?_⟩
 exact ((Below.refl _ w).alloc (Nat.le_refl _) _).grown hgrow (by simp) (by intro k hk; simp [Value.ownBlock] at hk; omega)

set_option maxHeartbeats 2000000 in
set_option maxRecDepth 100000 in
theorem Qrg (n c : Nat) (w : World) : Calls Tryz.prog 80 #[.slice none n c] w fun e w' => e = .returned (.slice none 0 0) ∧ w' = w := by
 have mixed : Tryz.prog.follows .mixedOrders = true := by kernel_rfl
 have t0 := Tryz.underlying37; have a0 := Tryz.isAgg37; have z0 := Tryz.sizeOf37; have v0 := Tryz.zeroValue37; have t1 := Tryz.underlying52; have a1 := Tryz.isAgg52; have z1 := Tryz.sizeOf52; have v1 := Tryz.zeroValue52; have t2 := Tryz.underlying4; have a2 := Tryz.isAgg4; have z2 := Tryz.sizeOf4; have v2 := Tryz.zeroValue4
 have q22 : ∀ (w : World) (a : Option Addr) (n c n' c' : Nat), (binOp .eql 52 (.slice a n c) (.slice none n' c')).run Tryz.prog w = .ok (.bool a.isNone) w := fun w a n c n' c' => Lib.run_eql_slice_nil w _ _ a n c n' c' t1
 go_enter Tryz.func80, Tryz.ntmps80
 go_wp2
 go_ret
 exact ⟨rfl, rfl⟩
set_option maxHeartbeats 2000000 in
set_option maxRecDepth 100000 in
theorem QpB (a : Addr) (c : Nat) (w : World) : Calls Tryz.prog 80 #[.slice (some a) 0 c] w fun e w' => ∃ v', e = .returned v' ∧ w'.ownsRow w.heap.size 37 6 v' 0 [] ∧ Below w.heap.size w w' := by
 have mixed : Tryz.prog.follows .mixedOrders = true := by kernel_rfl
 have t0 := Tryz.underlying37; have a0 := Tryz.isAgg37; have z0 := Tryz.sizeOf37; have v0 := Tryz.zeroValue37; have t1 := Tryz.underlying52; have a1 := Tryz.isAgg52; have z1 := Tryz.sizeOf52; have v1 := Tryz.zeroValue52; have t2 := Tryz.underlying4; have a2 := Tryz.isAgg4; have z2 := Tryz.sizeOf4; have v2 := Tryz.zeroValue4
 have q22 : ∀ (w : World) (a : Option Addr) (n c n' c' : Nat), (binOp .eql 52 (.slice a n c) (.slice none n' c')).run Tryz.prog w = .ok (.bool a.isNone) w := fun w a n c n' c' => Lib.run_eql_slice_nil w _ _ a n c n' c' t1
 have hinfo : (Tryz.prog.info? 37).map (fun i => (i.zero, i.size, i.bytes)) = some (some (.agg #[.int .i64 0, .string ByteArray.empty, .int .i64 0, .int .i64 0, .string ByteArray.empty, .slice none 0 0]), 6, 80) := by kernel_rfl
 obtain ⟨i0, hi, hz0, hz1, hz2⟩ := info_parts hinfo
 have u22 : ∀ w, Sem.run Tryz.prog (underlying 52) w = .ok (TypeDesc.slice 37) w := run_underlying t1
 go_enter Tryz.func80, Tryz.ntmps80
 go_wp2_with (at_builtin; refine wpList_append_own _ rfl _ _ 52 rfl w.heap.size 37 i0 (.agg #[.int .i64 0, .string ByteArray.empty, .int .i64 0, .int .i64 0, .string ByteArray.empty, .slice none 0 0]) 6 80 t1 hi hz0 hz1 hz2 rfl (by decide) _ _ _ rfl (World.ownsRow_made w #[] 0 (Nat.le_refl _) (Nat.zero_le _) rfl) a 0 c [] rfl rfl (by intro j u hj; simp at hj) (by intro u hu; cases hu) (by unfold maxLen; omega) (by omega) (by simp) ?_)
 intro v' w1 hown hgrow hnil
 go_wp2
 go_ret
 refine ⟨v', rfl, by simpa using hown, ?_⟩
 exact ((Below.refl _ w).alloc (Nat.le_refl _) _).grown hgrow (by simp) (by intro k hk; simp [Value.ownBlock] at hk; omega)
set_option maxHeartbeats 2000000 in
set_option maxRecDepth 100000 in
theorem QpC (b off n c : Nat) (zs : List Value) (w : World) (hl : zs.length = n * 6) (hbig : n * 80 ≤ 140737488355328) (hml : n ≤ maxLen) (hsc : ∀ u ∈ zs, u.oneCell' = true) (hc : ∀ (j : Nat) z, zs[j]? = some z → w.cell? ⟨b, off + j, none⟩ = some z) :
  Calls Tryz.prog 80 #[.slice (some ⟨b, off, none⟩) n c] w fun e w' => ∃ v', e = .returned v' ∧ w'.ownsRow w.heap.size 37 6 v' n zs ∧ Below w.heap.size w w' := by
 have mixed : Tryz.prog.follows .mixedOrders = true := by kernel_rfl
 have t0 := Tryz.underlying37; have a0 := Tryz.isAgg37; have z0 := Tryz.sizeOf37; have v0 := Tryz.zeroValue37; have t1 := Tryz.underlying52; have a1 := Tryz.isAgg52; have z1 := Tryz.sizeOf52; have v1 := Tryz.zeroValue52; have t2 := Tryz.underlying4; have a2 := Tryz.isAgg4; have z2 := Tryz.sizeOf4; have v2 := Tryz.zeroValue4
 have q22 : ∀ (w : World) (a : Option Addr) (n c n' c' : Nat), (binOp .eql 52 (.slice a n c) (.slice none n' c')).run Tryz.prog w = .ok (.bool a.isNone) w := fun w a n c n' c' => Lib.run_eql_slice_nil w _ _ a n c n' c' t1
 have hinfo : (Tryz.prog.info? 37).map (fun i => (i.zero, i.size, i.bytes)) = some (some (.agg #[.int .i64 0, .string ByteArray.empty, .int .i64 0, .int .i64 0, .string ByteArray.empty, .slice none 0 0]), 6, 80) := by kernel_rfl
 obtain ⟨i0, hi, hz0, hz1, hz2⟩ := info_parts hinfo
 have u22 : ∀ w, Sem.run Tryz.prog (underlying 52) w = .ok (TypeDesc.slice 37) w := run_underlying t1
 have A : Aside (∀ (j : Nat) z, zs[j]? = some z → w.cell? ⟨b, off + j, none⟩ = some z) := hc
 clear hc
 go_enter Tryz.func80, Tryz.ntmps80
 go_wp2_with (at_builtin; refine wpList_append_own _ rfl _ _ 52 rfl w.heap.size 37 i0 (.agg #[.int .i64 0, .string ByteArray.empty, .int .i64 0, .int .i64 0, .string ByteArray.empty, .slice none 0 0]) 6 80 t1 hi hz0 hz1 hz2 rfl (by decide) _ _ _ rfl (World.ownsRow_made w #[] 0 (Nat.le_refl _) (Nat.zero_le _) rfl) ⟨b, off, none⟩ n c zs rfl ?qc1 ?qc2 ?qc3 ?qc4 ?qc5 ?qc6 ?_)
 case qc1 => exact hl
 case qc2 =>
  intro j u hj
  rw [Addr.add_lit]
  exact Lib.cell?_alloc_some _ (A.out j u hj)
 case qc3 => intro u hu; exact hsc u hu
 case qc4 => omega
 case qc5 => omega
 case qc6 => simp
 intro v' w1 hown hgrow hnil
 go_wp2
 go_ret
 refine ⟨v', rfl, by simpa using hown, ?_⟩
 exact ((Below.refl _ w).alloc (Nat.le_refl _) _).grown hgrow (by simp) (by intro k hk; simp [Value.ownBlock] at hk; omega)

theorem ok_cli : FnOK1 told Tryz.prog 81 (cloneV 8) := Qnw (e_ := 3) Qt8 Qte Qtf
theorem Qox : FnOK1 told Tryz.prog 77 (cloneF 5 64) := Qgg (e_ := 68) Qsk Qre Qrf
theorem Qmb : FnOK1 told Tryz.prog 80 (cloneF 6 80) := Qgg (e_ := 37) Qrg QpB QpC
theorem QpZ : FnOK1 told Tryz.prog 93 itoaX := by
 refine QqH fun n Z w h0 h1 hT => ?_
 refine (Tryz.strconv_Itoa n h0 h1 w hT.1.1.2.2.1).mono ?_
 rintro e w' ⟨rfl, k, os, rfl⟩
 exact ⟨rfl, Lib.below_grow _ _ (Nat.le_refl _) _ _⟩
theorem Qmc : FnOK1 told Tryz.prog 145 fieldsX := Qnu fun s Z w h1 h2 hT => Tryz.strings_Fields_laid s w h1 h2 hT.1.2.2.2.1
theorem QiU : FnOK1 told Tryz.prog 177 containsX := Qk3 fun s t Z w h1 hT => by
 obtain ⟨_, m, hm⟩ := hT.2
 exact Tryz.strings_Contains s t m w h1 hm
theorem Qp0 : FnOK1 told Tryz.prog 69 joinX := QqJ (fun a c sep w => Tryz.strings_Join_none a c sep w) (fun bk o c xs sep w h1 h2 h3 h4 h5 => Tryz.strings_Join bk o c xs sep w h1 h2 h3 h4 h5)
theorem Qhw : FnOK1 told Tryz.prog 70 indexByteX := Qj0 fun s c w => Tryz.strings_IndexByte s c w
theorem Qoy : FnOK1 told Tryz.prog 79 splitX := Qpa fun s sep Z w h1 h2 hT => by
 obtain ⟨_, m, hm⟩ := hT.2
 exact Tryz.strings_Split s sep m w h1 hm h2
theorem Qp1 : FnOK1 told Tryz.prog 74 trimX := QqL fun s w hs => Any.strings_Trim_laid Tryz.lays160 (by kernel_rfl) s ⟨#[32, 9]⟩ w hs (by decide) (ascii_of_all (by decide))
theorem Qp2 : FnOK1 told Tryz.prog 241 atoiX := QqN fun s n w hs hn => by
 refine (Tryz.strconv_Atoi s n hs hn w).mono ?_
 rintro e w' ⟨rfl, t, rfl⟩
 exact ⟨rfl, Go.Joins.below_bytesWorld _ _ _ _ (Nat.le_refl _)⟩
theorem Qt9 (f : FuncId) (x : List AV → Heap → Option (AV × Heap)) (h : G0.ext f = some x) : FnOK1 told Tryz.prog f x := by
 have h' : Go.Ab.get f extT0 = some x := h
 simp only [extT0, Go.Ab.get] at h'
 repeat' split at h'
 all_goals first
  | cases h'; done
  | (rename_i e; subst e; cases h'; first | exact ok_cli | exact Qox | exact Qmb | exact QpZ | exact Qmc | exact QiU | exact Qp0 | exact Qhw | exact Qoy | exact Qp1 | exact Qp2)
theorem Qtg : FnOK1 told Tryz.prog 23 knownX := Qpb (Qk0 (T := told) (by kernel_rfl) Qt9 2000) QqR
theorem ext_ok (f : FuncId) (x : List AV → Heap → Option (AV × Heap)) (h : G.ext f = some x) : FnOK1 told Tryz.prog f x := by
 have h' : Go.Ab.get f extT = some x := h
 simp only [extT, Go.Ab.get] at h'
 repeat' split at h'
 all_goals first
  | cases h'; done
  | (rename_i e; subst e; cases h'; first | exact Qtg | exact ok_cli | exact Qox | exact Qmb | exact QpZ | exact Qmc | exact QiU | exact Qp0 | exact Qhw | exact Qoy | exact Qp1 | exact Qp2)
end Go.Proofs.YtblfhkldljfhiaaGreatDoor
namespace Go.Ab
def ba (l : List UInt8) : ByteArray := ⟨l.toArray⟩
theorem bl_ba (l : List UInt8) : bl (ba l) = l := by simp [bl, ba]
theorem ba_bl (s : ByteArray) : ba (bl s) = s := by cases s; simp [bl, ba]
theorem Qq (l : List UInt8) : (ba l).size = l.length := by rw [P2, bl_ba]
theorem ba_inj {a b : List UInt8} (h : ba a = ba b) : a = b := by rw [← bl_ba a, ← bl_ba b, h]
theorem JD (l : List UInt8) (i j : Nat) : (ba l).extract i j = ba ((l.take j).drop i) := by rw [← ba_bl ((ba l).extract i j), QqF, bl_ba]
theorem VT (a b : List UInt8) : ba a ++ ba b = ba (a ++ b) := by rw [← ba_bl (ba a ++ ba b), QrF, bl_ba, bl_ba]
theorem XN (l : List UInt8) (i : Nat) (d : UInt8) : (ba l).data.getD i d = l.getD i d := by rw [Qt1, bl_ba]
theorem eqS_ba (a b : List UInt8) : eqS (ba a) (ba b) = decide (a = b) := by rw [QqE, bl_ba, bl_ba]
def isD (b : UInt8) : Bool := decide (48 ≤ b.toNat ∧ b.toNat ≤ 57)
def isS (b : UInt8) : Bool := decide (97 ≤ b.toNat ∧ b.toNat ≤ 122 ∨ b.toNat = 95)
def isI (b : UInt8) : Bool := isS b || isD b
def isH (b : UInt8) : Bool := isD b || decide (97 ≤ b.toNat ∧ b.toNat ≤ 102)
theorem J6 {p : UInt8 → Bool} : ∀ (s : List UInt8) (i : Nat) (hi : i ≤ s.length), (s.take i).all p = true → (∀ h : i < s.length, p s[i] = false) → s.takeWhile p = s.take i
 | s, 0, _, _, h => by
  cases s with
  | nil => rfl
  | cons b s => have := h (by simp); simp at this; simp [this]
 | [], i + 1, hi, _, _ => by simp at hi
 | b :: s, i + 1, hi, ha, h => by
  simp only [List.take_succ_cons, List.all_cons, Bool.and_eq_true] at ha
  simp only [List.take_succ_cons, List.takeWhile_cons, ha.1, if_true]
  rw [J6 s i (by simpa using hi) ha.2 (fun hl => h (by simp only [List.length_cons]; omega))]
theorem X5 {p : UInt8 → Bool} {s : List UInt8} {i : Nat} (h : i < s.length) (ha : (s.take i).all p = true) (hp : p s[i] = true) : (s.take (i + 1)).all p = true := by
 rw [List.take_succ_eq_append_getElem h, List.all_append, ha]; simp [hp]
theorem i32_in {n : Int} (h1 : 0 ≤ n) (h2 : n ≤ 2147483647) : IntKind.i32.wrap n = n := by
 have e : n % 4294967296 = n := Int.emod_eq_of_lt h1 (by omega)
 unfold IntKind.wrap
 simp [IntKind.bits, IntKind.signed, e]
 omega
def wordB (w : List UInt8) : Bool := match w with
 | [] => false
 | c :: t => decide (t.length < 12) && (!isD c && (decide ((c :: t).takeWhile isI = c :: t) && (decide (c ≠ 114) || (decide (t = []) || !decide (t.takeWhile isD = t)))))
theorem Qao {p : UInt8 → Bool} {a r : List UInt8} (ha : a.all p = true) (hr : ∀ c t, r = c :: t → p c = false) : (a ++ r).takeWhile p = a ∧ (a ++ r).dropWhile p = r := by
 induction a with
 | nil =>
  cases r with
  | nil => exact ⟨rfl, rfl⟩
  | cons c t => have := hr c t rfl; simp [List.takeWhile_cons, List.dropWhile_cons, this]
 | cons c a ih =>
  simp only [List.all_cons, Bool.and_eq_true] at ha
  obtain ⟨h1, h2⟩ := ih ha.2
  simp [List.takeWhile_cons, List.dropWhile_cons, ha.1, h1, h2]
theorem Qlt (c : UInt8) : isI c = (isS c || isD c) := rfl
theorem Qp3 {c : UInt8} : isS c = (isI c && !isD c) := by
 rw [Qlt]
 cases hd : isD c with
 | false => simp
 | true =>
  have : isS c = false := by
   unfold isD at hd; unfold isS
   have := of_decide_eq_true hd
   exact decide_eq_false (by omega)
  rw [this]; rfl
theorem QeO {p : UInt8 → Bool} {l : List UInt8} : decide (l.takeWhile p = l) = l.all p := by
 rw [Bool.eq_iff_iff, decide_eq_true_iff]
 constructor
 ·intro e; rw [← e]; exact List.all_takeWhile
 ·intro h
  have := (Qao (r := []) h (fun c t e => by cases e)).1
  rwa [List.append_nil] at this
end Go.Ab
namespace Go.Ab
theorem Qoz (a n : Int) (hn : 0 < n) (hn2 : n ≤ 4611686018427387904) : VE a n = some (a % n) := by
 rw [VE.eq]; exact QaV a n hn hn2
end Go.Ab
namespace Go.Ab
abbrev S0 : ByteArray := s_
inductive X3 where
 | num (n : Int)
 | nm (s : ByteArray)
 | here
 | neg (x : X3)
 | bin (k : Nat) (x y : X3)
namespace X3
def t : X3 → Qa
 | num n => ⟨1, n, S0, []⟩
 | nm s => ⟨2, 0, s, []⟩
 | here => ⟨3, 0, S0, []⟩
 | neg x => ⟨4, 0, S0, [x.t]⟩
 | bin k x y => ⟨k, 0, S0, [x.t, y.t]⟩
def d : X3 → Nat
 | neg x => x.d + 1
 | bin _ x y => max x.d y.d + 1
 | _ => 0
def ok (p : ByteArray → Prop) : X3 → Prop
 | num n => 0 ≤ n ∧ n < 4294967296
 | nm s => p s
 | here => True
 | neg x => x.ok p
 | bin k x y => 5 ≤ k ∧ k ≤ 11 ∧ x.ok p ∧ y.ok p
end X3
theorem eqS_ne {x y : ByteArray} (h : x ≠ y) : eqS x y = false := by rw [Bool.eq_false_iff]; exact fun e => h (Xn.1 e)
end Go.Ab
namespace Go.Ab
theorem QeP : ∀ (g d : Nat), g + d = 8 → ∀ l : List QC, l.length ≤ maxLen → (∀ r ∈ l, YQ r) → ∃ n : Int, JX l d = some n ∧ 0 ≤ n ∧ n ≤ 1000 + 20 * g ∧
  (n ≤ 16 → d ≤ 7 ∧ ∀ r ∈ l, ∃ m, JX r.L (d + 1 : Nat) = some m ∧ m ≤ 16)
 | 0, d, hd, l, hl, hw => by
  obtain rfl : d = 8 := by omega
  refine ⟨1000, ?_, by omega, by omega, by omega⟩
  rw [JX.eq]; simp [Ej]
 | g + 1, d, hd, l, hl, hw => by
  rw [QrK] at hl
  obtain ⟨r, h1, h2⟩ := Za Vj.eq
   (fun a => ∃ i : Nat, ∃ n : Int, i ≤ l.length ∧ a = ⟨l, d, n, i⟩ ∧ 0 ≤ n ∧ n ≤ 1000 + 20 * (g + 1 : Nat) ∧ (n ≤ 16 → ∀ r ∈ l.take i, ∃ m, JX r.L (d + 1 : Nat) = some m ∧ m ≤ 16))
   (fun a n => 0 ≤ n ∧ n ≤ 1000 + 20 * (g + 1 : Nat) ∧ (n ≤ 16 → ∀ r ∈ l, ∃ m, JX r.L (d + 1 : Nat) = some m ∧ m ≤ 16))
   (fun a => l.length - a.x6.toNat) (by
    rintro a ⟨i, n, hi, rfl, h0, hn, hall⟩
    simp only [Zd, Int.toNat_natCast]
    by_cases h : i < l.length
    ·have e2 : (i : Int) < (l.length : Int) := by omega
     by_cases h16 : n ≤ 16
     ·have hwi := hw l[i] (List.getElem_mem h)
      obtain ⟨_, _, _, hL, hLw⟩ := hwi
      obtain ⟨m, hm, hm0, hm1, _⟩ := QeP g (d + 1) (by omega) l[i].L hL hLw
      refine .inl ⟨⟨l, d, n + 1 + m, (i + 1 : Nat)⟩, ?_, ⟨i + 1, n + 1 + m, by omega, rfl, by omega, by omega, ?_⟩, ?_, fun r hr => hr⟩
      ·have ed : w64 ((d : Int) + 1) = ((d + 1 : Nat) : Int) := by rw [w64_in (by omega) (by omega)]; rfl
       rw [List.getElem?_eq_getElem h]
       simp only [e2, h16, decide_true, cond_true, Option.bind_some, Int.natCast_nonneg, ed, hm]
       rw [w64_in (n := n + 1) (by omega) (by omega), w64_in (n := n + 1 + m) (by omega) (by omega), w64_in (n := (i : Int) + 1) (by omega) (by omega)]
       rfl
      ·intro hle r hr
       rw [List.take_succ_eq_append_getElem h, List.mem_append] at hr
       rcases hr with hr | hr
       ·exact hall h16 r hr
       ·simp only [List.mem_singleton] at hr; subst hr
        exact ⟨m, hm, by omega⟩
      ·simp only [Int.toNat_natCast]; omega
     ·exact .inr ⟨n, by simp [h, h16], h0, hn, fun h => absurd h h16⟩
    ·refine .inr ⟨n, by simp [h], h0, hn, fun hle => ?_⟩
     have := hall hle
     rwa [List.take_of_length_le (by omega)] at this) ⟨l, d, 0, 0⟩ ⟨0, 0, by omega, rfl, by omega, by omega, by simp⟩
  refine ⟨r, ?_, h2.1, h2.2.1, fun h => ⟨by omega, h2.2.2 h⟩⟩
  rw [JX.eq]; unfold Ej
  have : decide ((d : Int) > 7) = false := by simp; omega
  rw [this, cond_false, h1]; rfl
def isNm (s : ByteArray) : Prop := s = ST ∨ s = s_x ∨ s = Fy ∨ s = s_r
theorem names4 {i : Nat} (h : i < 4) : ∃ s, [ST, s_x, Fy, s_r][i]? = some s ∧ isNm s := by
 have : i = 0 ∨ i = 1 ∨ i = 2 ∨ i = 3 := by omega
 rcases this with rfl | rfl | rfl | rfl <;> exact ⟨_, rfl, by simp [isNm]⟩
theorem QpD : ZW = some [ST, s_x, Fy, s_r] := by rw [ZW.eq]; rfl
theorem Qa5 (a : Int) (n : Nat) (hn : 0 < n) (hn2 : n ≤ 4611686018427387904) : ∃ i : Nat, i < n ∧ VE a n = some (i : Int) := by
 have h1 := Int.emod_nonneg a (by omega : (n : Int) ≠ 0)
 have h2 := Int.emod_lt_of_pos a (by omega : (0 : Int) < n)
 exact ⟨(a % n).toNat, by omega, by rw [Qoz a n (by omega) (by omega), Int.toNat_of_nonneg h1]⟩
theorem Qua {P : Int → Prop} (l : List Int) (h : ∀ x ∈ l, P x) {i : Nat} (hi : i < l.length) : ∃ v, l[i]? = some v ∧ P v := ⟨l[i], List.getElem?_eq_getElem hi, h _ (List.getElem_mem hi)⟩
theorem Qmd : ∀ (g d : Nat), g + d = 7 → ∀ r : QC, YQ r → (∃ m, JX r.L (d + 1 : Nat) = some m ∧ m ≤ 16) → ∃ x : X3, JV r = some x.t ∧ x.ok isNm ∧ x.d ≤ g
 | 0, d, hd, r, hw, ⟨m, hm, hm2⟩ => by
  obtain rfl : d = 7 := by omega
  obtain ⟨_, _, _, hL, hLw⟩ := hw
  obtain ⟨n, h1, _, _, h2⟩ := QeP 0 8 rfl r.L hL hLw
  rw [h1] at hm; cases hm
  exact absurd (h2 hm2).1 (by omega)
 | g + 1, d, hd, r, hw, ⟨m, hm, hm2⟩ => by
  obtain ⟨hK, hN, _, hL, hLw⟩ := hw
  obtain ⟨n, h1, _, _, h2⟩ := QeP (g + 1) (d + 1) (by omega) r.L hL hLw
  rw [h1] at hm; cases hm
  obtain ⟨_, h3⟩ := h2 hm2
  have part : ∀ i : Nat, i < 2 → ∃ x : X3, UT r i = some x.t ∧ x.ok isNm ∧ x.d ≤ g := by
   intro i hi
   rw [UT.eq]; unfold Zt
   by_cases h : i < r.L.length
   ·obtain ⟨x, e1, e2, e3⟩ := Qmd g (d + 1) (by omega) r.L[i] (hLw _ (List.getElem_mem h)) (h3 _ (List.getElem_mem h))
    refine ⟨x, ?_, e2, e3⟩
    have e2 : (i : Int) < (r.L.length : Int) := by omega
    rw [Qt3 _ h]
    simp only [e2, decide_true, cond_true, Option.bind_some, Int.natCast_nonneg, e1]
   ·obtain ⟨j, hj, e⟩ := Qa5 (w64 (r.N + i)) 5 (by decide) (by decide)
    have hj2 : (0 : Int) ≤ (j : Int) ∧ (j : Int) < 4294967296 := by omega
    refine ⟨.num j, ?_, hj2, by simp [X3.d]⟩
    have e2 : ¬ (i : Int) < (r.L.length : Int) := by omega
    have e' : VE (w64 (r.N + i)) 5 = some (j : Int) := e
    simp only [e2, decide_false, cond_false, e', Option.bind_some]; rfl
  obtain ⟨x0, p0, q0, r0⟩ := part 0 (by omega)
  obtain ⟨x1, p1, q1, r1⟩ := part 1 (by omega)
  have p0 : UT r 0 = some x0.t := p0
  have p1 : UT r 1 = some x1.t := p1
  obtain ⟨k, hk, ek⟩ := Qa5 r.K 18 (by decide) (by decide)
  have ek : VE r.K 18 = some (k : Int) := ek
  rw [JV.eq]; unfold Zu
  rw [ek]
  simp only [Option.bind_some]
  by_cases k4 : k < 4
  ·obtain ⟨j, hj, ej⟩ := Qa5 r.N 8 (by decide) (by decide)
   have ej : VE r.N 8 = some (j : Int) := ej
   obtain ⟨v, hv, hv2⟩ := Qua (P := fun x => 0 ≤ x ∧ x < 4294967296) [0, 1, 2, 255, 65536, 4294967295, 40, 7] (by decide) (i := j) (by simpa using hj)
   refine ⟨.num v, ?_, hv2, by simp [X3.d]⟩
   have e1 : decide ((k : Int) < 4) = true := by simp; omega
   have e3 : decide (0 ≤ (j : Int) ∧ (j : Int) < (([(0 : Int), (1 : Int), (2 : Int), (255 : Int), (65536 : Int), (4294967295 : Int), (40 : Int), (7 : Int)].length : Nat) : Int)) = true := by simp; omega
   simp only [e1, cond_true, ej, Option.bind_some, e3, Int.toNat_natCast, hv]; rfl
  ·have e1 : decide ((k : Int) < 4) = false := by simp; omega
   by_cases k8 : k < 8
   ·obtain ⟨j, hj, ej⟩ := Qa5 r.N 4 (by decide) (by decide)
    have ej : VE r.N 4 = some (j : Int) := ej
    obtain ⟨s, hs, hs2⟩ := names4 hj
    refine ⟨.nm s, ?_, hs2, by simp [X3.d]⟩
    have e2 : decide ((k : Int) < 8) = true := by simp; omega
    simp only [e1, cond_false, e2, cond_true, QpD, Option.bind_some, ej, Int.natCast_nonneg, decide_true, Int.toNat_natCast, hs]; rfl
   ·have e2 : decide ((k : Int) < 8) = false := by simp; omega
    by_cases kh : k = 8
    ·subst kh
     exact ⟨.here, rfl, trivial, by simp [X3.d]⟩
    ·have e3 : ((k : Int) == 8) = false := by simp; omega
     by_cases k11 : k < 11
     ·have e4 : decide ((k : Int) < 11) = true := by simp; omega
      refine ⟨.neg x0, ?_, q0, by simp only [X3.d]; omega⟩
      simp only [e1, e2, e3, e4, cond_false, cond_true, p0, Option.bind_some]; rfl
     ·have e4 : decide ((k : Int) < 11) = false := by simp; omega
      refine ⟨.bin (k - 6) x0 x1, ?_, ⟨by omega, by omega, q0, q1⟩, by simp only [X3.d]; omega⟩
      simp only [e1, e2, e3, e4, cond_false, p0, p1, Option.bind_some]
      rw [w64_in (n := 5 + (k : Int)) (by omega) (by omega), w64_in (n := 5 + (k : Int) - 11) (by omega) (by omega)]
      simp only [X3.t]
      rw [show (5 : Int) + k - 11 = ((k - 6 : Nat) : Int) from by omega]
theorem Qub (l : List QC) (hl : l.length ≤ maxLen) (hw : ∀ r ∈ l, YQ r) : ∃ b, E6 l = some b ∧ (b = true → ∃ x : X3, Ya l = some x.t ∧ x.ok isNm ∧ x.d ≤ 7) := by
 obtain ⟨n, h1, _, _, h2⟩ := QeP 8 0 rfl l hl hw
 have h1 : JX l 0 = some n := h1
 refine ⟨decide (n ≤ 16), by rw [E6.eq]; simp [Qjh, h1], fun h => ?_⟩
 have h := of_decide_eq_true h
 obtain ⟨_, h3⟩ := h2 h
 rw [Ya.eq]; unfold Qjl
 cases l with
 | nil => exact ⟨.num 1, rfl, by simp [X3.ok], by simp [X3.d]⟩
 | cons r l =>
  obtain ⟨x, e1, e2, e3⟩ := Qmd 7 0 rfl r (hw r (by simp)) (h3 r (by simp))
  refine ⟨x, ?_, e2, e3⟩
  have : ((((r :: l).length : Nat) : Int) == 0) = false := by simp; omega
  rw [this, cond_false]
  simp [e1]
end Go.Ab
namespace Go.Ab
theorem Qp4 (s : ByteArray) (i : Nat) (h : i < s.size) : s.get! i = (bl s)[i]'h := by
 simp only [ByteArray.get!, bl]
 have h' : i < s.data.size := h
 simp [getElem!_def, Array.getElem?_eq_getElem h']
theorem QcL (s : List UInt8) {i : Nat} (h : i < s.length) (hb : s[i].toNat < 128) : Utf8.decode (ba s) i = (s[i].toNat, 1) := by
 have hg : ((ba s).get! (i + 0)).toNat = s[i].toNat := by
  rw [Nat.add_zero, Qp4 _ _ (by rw [Qq]; exact h)]; simp [bl_ba]
 unfold Utf8.decode
 simp only [hg]
 rw [if_pos hb]
theorem Qhx (s : List UInt8) {i : Nat} (h : i < s.length) (hb : ¬ s[i].toNat < 128) : 128 ≤ (Utf8.decode (ba s) i).1 := by
 have hg : ((ba s).get! (i + 0)).toNat = s[i].toNat := by
  rw [Nat.add_zero, Qp4 _ _ (by rw [Qq]; exact h)]; simp [bl_ba]
 unfold Utf8.decode
 simp only [hg]
 rw [if_neg hb]
 have he : Utf8.runeError = 65533 := rfl
 repeat' split
 all_goals simp_all
 all_goals omega
theorem GI (n : Nat) : Vh n = some (decide (48 ≤ n ∧ n ≤ 57)) := by
 rw [Vh.eq]; unfold QbO
 have c1 : decide ((n : Int) ≥ 48) = decide (48 ≤ n) := decide_eq_decide.2 (by omega)
 have c2 : decide ((n : Int) ≤ 57) = decide (n ≤ 57) := decide_eq_decide.2 (by omega)
 rw [c1, c2, Bool.decide_and]
 cases decide (48 ≤ n) <;> rfl
theorem Qm4 (n : Nat) : Yn n = some (decide (97 ≤ n ∧ n ≤ 122 ∨ n = 95)) := by
 rw [Yn.eq]; unfold QbS
 have c1 : decide ((n : Int) ≥ 97) = decide (97 ≤ n) := decide_eq_decide.2 (by omega)
 have c2 : decide ((n : Int) ≤ 122) = decide (n ≤ 122) := decide_eq_decide.2 (by omega)
 have c3 : (((n : Nat) : Int) == 95) = decide (n = 95) := by rw [Bool.eq_iff_iff, beq_iff_eq, decide_eq_true_iff]; omega
 rw [c1, c2, c3, Bool.decide_or, Bool.decide_and]
 cases decide (97 ≤ n) <;> cases decide (n ≤ 122) <;> rfl
theorem QfD (n : Nat) : Yo n = some (decide (97 ≤ n ∧ n ≤ 122 ∨ n = 95) || decide (48 ≤ n ∧ n ≤ 57)) := by
 rw [Yo.eq]; unfold QbT
 rw [Qm4, GI]
 simp only [Option.bind_some]
 cases decide (97 ≤ n ∧ n ≤ 122 ∨ n = 95) <;> rfl
theorem QiV (n : Nat) : ZT n = some (decide (48 ≤ n ∧ n ≤ 57) || decide (97 ≤ n ∧ n ≤ 102)) := by
 rw [ZT.eq]; unfold Qev
 have c1 : decide ((n : Int) ≥ 97) = decide (97 ≤ n) := decide_eq_decide.2 (by omega)
 have c2 : decide ((n : Int) ≤ 102) = decide (n ≤ 102) := decide_eq_decide.2 (by omega)
 rw [GI, c1, c2]
 simp only [Option.bind_some]
 rw [Bool.decide_and (97 ≤ n)]
 cases decide (48 ≤ n ∧ n ≤ 57) <;> cases decide (97 ≤ n) <;> rfl
theorem Qrh (s : List UInt8) : Ge (ba s) = some (ba (s.takeWhile isH)) := by
 obtain ⟨r, h1, h2⟩ := Za XQ.eq (fun a => ∃ i : Nat, i ≤ s.length ∧ a = ⟨ba s, ba s, i⟩ ∧ (s.take i).all isH = true) (fun _ r => r = .inl (ba (s.takeWhile isH)) ∨ r = .inr (ba (s.takeWhile isH))) (fun a => s.length - a.i0p) (by
  rintro a ⟨i, hi, rfl, ha⟩
  simp only [QbR, Qq]
  by_cases h : i < s.length
  ·have c1 : decide (i < s.length) = true := by simp [h]
   by_cases hb : s[i].toNat < 128
   ·rw [QcL s h hb, c1, cond_true]
    simp only [QiV, Option.bind_some]
    have hp : isH s[i] = (decide (48 ≤ s[i].toNat ∧ s[i].toNat ≤ 57) || decide (97 ≤ s[i].toNat ∧ s[i].toNat ≤ 102)) := by simp [isH, isS, isD, isI]
    rw [← hp]
    cases hq : isH s[i] with
    | true => exact .inl ⟨⟨ba s, ba s, i + 1⟩, rfl, ⟨i + 1, by omega, rfl, X5 h ha hq⟩, by simp only; omega, fun r hr => hr⟩
    | false =>
     refine .inr ⟨_, ?_, .inl rfl⟩
     rw [J6 s i hi ha (fun _ => hq)]
     have c2 : decide (0 ≤ (0 : Int) ∧ (0 : Int) ≤ ((i : Nat) : Int) ∧ ((i : Nat) : Int) ≤ ((s.length : Nat) : Int)) = true := by simp; omega
     simp only [Bool.not_false, cond_true, c2, Int.toNat_natCast, Int.toNat_zero, JD, List.drop_zero]
   ·have hd := Qhx s h hb
    have hq : isH s[i] = false := by simp [isH, isS, isD, isI]; omega
    rw [c1, cond_true]
    simp only [QiV, Option.bind_some]
    generalize (Utf8.decode (ba s) i).1 = r at hd
    have hp : (decide (48 ≤ r ∧ r ≤ 57) || decide (97 ≤ r ∧ r ≤ 102)) = false := by simp; omega
    rw [hp]
    refine .inr ⟨_, ?_, .inl rfl⟩
    rw [J6 s i hi ha (fun _ => hq)]
    have c2 : decide (0 ≤ (0 : Int) ∧ (0 : Int) ≤ ((i : Nat) : Int) ∧ ((i : Nat) : Int) ≤ ((s.length : Nat) : Int)) = true := by simp; omega
    simp only [Bool.not_false, cond_true, c2, Int.toNat_natCast, Int.toNat_zero, JD, List.drop_zero]
  ·have c1 : decide (i < s.length) = false := by simp; omega
   refine .inr ⟨_, by rw [c1]; rfl, .inr ?_⟩
   rw [J6 s i hi ha (fun h' => absurd h' h), List.take_of_length_le (by omega)]) ⟨ba s, ba s, 0⟩ ⟨0, by omega, rfl, by simp⟩
 rw [Ge.eq]; unfold QgG
 rw [h1]
 rcases h2 with rfl | rfl <;> rfl
theorem Qcg (s : List UInt8) : Wq (ba s) = some (ba (s.takeWhile isI)) := by
 obtain ⟨r, h1, h2⟩ := Za WZ.eq (fun a => ∃ i : Nat, i ≤ s.length ∧ a = ⟨ba s, ba s, i⟩ ∧ (s.take i).all isI = true) (fun _ r => r = .inl (ba (s.takeWhile isI)) ∨ r = .inr (ba (s.takeWhile isI))) (fun a => s.length - a.i0p) (by
  rintro a ⟨i, hi, rfl, ha⟩
  simp only [Sa, Qq]
  by_cases h : i < s.length
  ·have c1 : decide (i < s.length) = true := by simp [h]
   by_cases hb : s[i].toNat < 128
   ·rw [QcL s h hb, c1, cond_true]
    simp only [QfD, Option.bind_some]
    have hp : isI s[i] = (decide (97 ≤ s[i].toNat ∧ s[i].toNat ≤ 122 ∨ s[i].toNat = 95) || decide (48 ≤ s[i].toNat ∧ s[i].toNat ≤ 57)) := by simp [isI, isS, isD, isI]
    rw [← hp]
    cases hq : isI s[i] with
    | true => exact .inl ⟨⟨ba s, ba s, i + 1⟩, rfl, ⟨i + 1, by omega, rfl, X5 h ha hq⟩, by simp only; omega, fun r hr => hr⟩
    | false =>
     refine .inr ⟨_, ?_, .inl rfl⟩
     rw [J6 s i hi ha (fun _ => hq)]
     have c2 : decide (0 ≤ (0 : Int) ∧ (0 : Int) ≤ ((i : Nat) : Int) ∧ ((i : Nat) : Int) ≤ ((s.length : Nat) : Int)) = true := by simp; omega
     simp only [Bool.not_false, cond_true, c2, Int.toNat_natCast, Int.toNat_zero, JD, List.drop_zero]
   ·have hd := Qhx s h hb
    have hq : isI s[i] = false := by simp [isI, isS, isD, isI]; omega
    rw [c1, cond_true]
    simp only [QfD, Option.bind_some]
    generalize (Utf8.decode (ba s) i).1 = r at hd
    have hp : (decide (97 ≤ r ∧ r ≤ 122 ∨ r = 95) || decide (48 ≤ r ∧ r ≤ 57)) = false := by simp; omega
    rw [hp]
    refine .inr ⟨_, ?_, .inl rfl⟩
    rw [J6 s i hi ha (fun _ => hq)]
    have c2 : decide (0 ≤ (0 : Int) ∧ (0 : Int) ≤ ((i : Nat) : Int) ∧ ((i : Nat) : Int) ≤ ((s.length : Nat) : Int)) = true := by simp; omega
    simp only [Bool.not_false, cond_true, c2, Int.toNat_natCast, Int.toNat_zero, JD, List.drop_zero]
  ·have c1 : decide (i < s.length) = false := by simp; omega
   refine .inr ⟨_, by rw [c1]; rfl, .inr ?_⟩
   rw [J6 s i hi ha (fun h' => absurd h' h), List.take_of_length_le (by omega)]) ⟨ba s, ba s, 0⟩ ⟨0, by omega, rfl, by simp⟩
 rw [Wq.eq]; unfold Qc0
 rw [h1]
 rcases h2 with rfl | rfl <;> rfl
theorem Qhy (s : List UInt8) : Xk (ba s) = some (ba (s.takeWhile isD)) := by
 obtain ⟨r, h1, h2⟩ := Za W0.eq (fun a => ∃ i : Nat, i ≤ s.length ∧ a = ⟨ba s, ba s, i⟩ ∧ (s.take i).all isD = true) (fun _ r => r = .inl (ba (s.takeWhile isD)) ∨ r = .inr (ba (s.takeWhile isD))) (fun a => s.length - a.i0p) (by
  rintro a ⟨i, hi, rfl, ha⟩
  simp only [Sd, Qq]
  by_cases h : i < s.length
  ·have c1 : decide (i < s.length) = true := by simp [h]
   by_cases hb : s[i].toNat < 128
   ·rw [QcL s h hb, c1, cond_true]
    simp only [GI, Option.bind_some]
    have hp : isD s[i] = decide (48 ≤ s[i].toNat ∧ s[i].toNat ≤ 57) := by simp [isD, isS, isD, isI]
    rw [← hp]
    cases hq : isD s[i] with
    | true => exact .inl ⟨⟨ba s, ba s, i + 1⟩, rfl, ⟨i + 1, by omega, rfl, X5 h ha hq⟩, by simp only; omega, fun r hr => hr⟩
    | false =>
     refine .inr ⟨_, ?_, .inl rfl⟩
     rw [J6 s i hi ha (fun _ => hq)]
     have c2 : decide (0 ≤ (0 : Int) ∧ (0 : Int) ≤ ((i : Nat) : Int) ∧ ((i : Nat) : Int) ≤ ((s.length : Nat) : Int)) = true := by simp; omega
     simp only [Bool.not_false, cond_true, c2, Int.toNat_natCast, Int.toNat_zero, JD, List.drop_zero]
   ·have hd := Qhx s h hb
    have hq : isD s[i] = false := by simp [isD, isS, isD, isI]; omega
    rw [c1, cond_true]
    simp only [GI, Option.bind_some]
    generalize (Utf8.decode (ba s) i).1 = r at hd
    have hp : (decide (48 ≤ r ∧ r ≤ 57)) = false := by simp; omega
    rw [hp]
    refine .inr ⟨_, ?_, .inl rfl⟩
    rw [J6 s i hi ha (fun _ => hq)]
    have c2 : decide (0 ≤ (0 : Int) ∧ (0 : Int) ≤ ((i : Nat) : Int) ∧ ((i : Nat) : Int) ≤ ((s.length : Nat) : Int)) = true := by simp; omega
    simp only [Bool.not_false, cond_true, c2, Int.toNat_natCast, Int.toNat_zero, JD, List.drop_zero]
  ·have c1 : decide (i < s.length) = false := by simp; omega
   refine .inr ⟨_, by rw [c1]; rfl, .inr ?_⟩
   rw [J6 s i hi ha (fun h' => absurd h' h), List.take_of_length_le (by omega)]) ⟨ba s, ba s, 0⟩ ⟨0, by omega, rfl, by simp⟩
 rw [Xk.eq]; unfold Qc1
 rw [h1]
 rcases h2 with rfl | rfl <;> rfl
end Go.Ab
namespace Go.Ab
def dropB (s : List UInt8) : List UInt8 := s.dropWhile (· == 32)
theorem EH (s : List UInt8) : dropB (dropB s) = dropB s := by
 unfold dropB
 induction s with
 | nil => rfl
 | cons b s ih =>
  by_cases h : b = 32
  ·simp [List.dropWhile_cons, h, ih]
  ·simp [List.dropWhile_cons, h]
theorem QoA (s : List UInt8) : (dropB s).length ≤ s.length := by unfold dropB; exact (List.dropWhile_sublist _).length_le
abbrev PS (s : List UInt8) (d : Int) (b : Bool) : Qd := ⟨ba s, d, b⟩
theorem QpE (s : List UInt8) : VV (ba s) = some (ba (dropB s)) := by
 have loop : ∀ s : List UInt8, JF ⟨ba s, 32⟩ = some (ba (dropB s)) := by
  intro s
  induction s with
  | nil => rw [JF.eq]; rfl
  | cons b s ih =>
   rw [JF.eq]; unfold YI
   have c1 : decide (((b :: s).length : Int) > 0) = true := by simp only [List.length_cons, decide_eq_true_eq]; omega
   have c2 : decide (0 ≤ (0 : Int) ∧ (0 : Int) < ((b :: s).length : Int)) = true := by simp only [List.length_cons, decide_eq_true_eq]; omega
   have c4 : decide (0 ≤ (1 : Int) ∧ (1 : Int) ≤ (((b :: s).length : Nat) : Int) ∧ (((b :: s).length : Nat) : Int) ≤ (((b :: s).length : Nat) : Int)) = true := by simp only [List.length_cons, decide_eq_true_eq]; omega
   simp only [Qq, c1, c2, cond_true, XN]
   by_cases h : b = 32
   ·have c3 : ((((b :: s).getD (Int.toNat 0) 0).toNat : Int) == 32) = true := by subst h; rfl
    rw [c3, cond_true, c4, cond_true]
    simp only [Option.bind_some, Sum.elim_inl, JD, Int.toNat_natCast]
    rw [show List.drop (Int.toNat 1) (List.take (b :: s).length (b :: s)) = s from by rw [List.take_length]; rfl, ih]
    simp [dropB, List.dropWhile_cons, h]
   ·have c3 : ((((b :: s).getD (Int.toNat 0) 0).toNat : Int) == 32) = false := by
     rw [beq_eq_false_iff_ne]
     intro e
     apply h
     have e : (b.toNat : Int) = 32 := e
     exact UInt8.toNat_inj.1 (by have : (32 : UInt8).toNat = 32 := rfl; omega)
    rw [c3, cond_false]
    simp only [Option.bind_some, Sum.elim_inr]
    simp [dropB, List.dropWhile_cons, h]
 rw [VV.eq]; unfold Ec
 by_cases h : s = []
 ·subst h; have : eqS (ba []) s_ = true := Xn.2 rfl
  rw [this]; rfl
 ·have : eqS (ba s) s_ = false := by
   rw [show s_ = ba [] from rfl, eqS_ba]; simp [h]
  rw [this, cond_false, Vg.eq]; unfold ZR
  rw [loop s]; rfl
theorem Qhz (s : List UInt8) (d : Int) (b : Bool) : Uf (PS s d b) = some (PS (dropB s) d b) := by
 rw [Uf.eq]; unfold Gv
 simp only [QpE, Option.bind_some]
def pre (a s : List UInt8) : Bool := decide (s.take a.length = a)
theorem QhA (s a : List UInt8) : Vd (ba s) (ba a) = some (pre a s) := by
 rw [Vd.eq]; unfold Zi
 rw [JW.eq]; unfold Zo
 simp only [Qq, JD, eqS_ba, Int.toNat_natCast]
 by_cases h : a.length ≤ s.length
 ·have c1 : decide ((s.length : Int) ≥ (a.length : Int)) = true := by simp; omega
  have c2 : decide (0 ≤ (0 : Int) ∧ (0 : Int) ≤ (a.length : Int) ∧ (a.length : Int) ≤ (s.length : Int)) = true := by simp; omega
  rw [c1, cond_true, c2, cond_true]; rfl
 ·have c1 : decide ((s.length : Int) ≥ (a.length : Int)) = false := by simp; omega
  rw [c1, cond_false]
  simp only [Option.bind_some, pre]
  rw [decide_eq_false]
  intro e
  have := congrArg List.length e
  simp at this; omega
theorem Qm5 (s : List UInt8) : U4 (ba s) = some (pre [48, 120] s) := by
 rw [U4.eq]; unfold Gd
 have h := QhA s [48, 120]
 rw [Vd.eq] at h; unfold Zi at h
 exact h
theorem QhN {a s : List UInt8} (h : pre a s = true) : a.length ≤ s.length ∧ s = a ++ s.drop a.length := by
 have e : s.take a.length = a := of_decide_eq_true h
 refine ⟨?_, ?_⟩
 ·have := congrArg List.length e; simp at this; omega
 ·conv => lhs; rw [← List.take_append_drop a.length s, e]
theorem GN (a s : List UInt8) (d : Int) (b : Bool) : JC (ba a) (PS s d b) = some (bif b then (false, PS (dropB s) d b) else bif pre a (dropB s) then (true, PS ((dropB s).drop a.length) d b) else (false, PS (dropB s) d b)) := by
 rw [JC.eq]; unfold Ed
 simp only [Qhz, Option.bind_some]
 cases b with
 | true => rfl
 | false =>
  simp only [cond_false, QhA, Option.bind_some]
  cases h : pre a (dropB s) with
  | false => rfl
  | true =>
   obtain ⟨h1, h2⟩ := QhN h
   simp only [Bool.not_true, cond_false, Qq, JD, Int.toNat_natCast, cond_true]
   have c2 : decide (0 ≤ (a.length : Int) ∧ (a.length : Int) ≤ ((dropB s).length : Int) ∧ ((dropB s).length : Int) ≤ ((dropB s).length : Int)) = true := by simp; omega
   rw [c2, cond_true, List.take_length]
def sg (k : Nat) : List UInt8 := match k with
 | 5 => [43] | 6 => [45] | 7 => [42] | 8 => [38] | 9 => [124] | 10 => [60, 60] | 11 => [62, 62] | _ => []
theorem Qth : Yp = some [s_, s_, s_, h_2e, h_2d, ba (sg 5), ba (sg 6), ba (sg 7), ba (sg 8), ba (sg 9), ba (sg 10), ba (sg 11)] := by rw [Yp.eq]; rfl
theorem Qti {k : Nat} (h : 5 ≤ k ∧ k ≤ 11) : [s_, s_, s_, h_2e, h_2d, ba (sg 5), ba (sg 6), ba (sg 7), ba (sg 8), ba (sg 9), ba (sg 10), ba (sg 11)][k]? = some (ba (sg k)) := by
 have : k = 5 ∨ k = 6 ∨ k = 7 ∨ k = 8 ∨ k = 9 ∨ k = 10 ∨ k = 11 := by omega
 rcases this with rfl | rfl | rfl | rfl | rfl | rfl | rfl <;> rfl
def lv (l : Nat) : List Nat := match l with
 | 0 => [9] | 1 => [8] | 2 => [10, 11] | 3 => [5, 6] | _ => [7]
theorem lv_ok {l k : Nat} (h : k ∈ lv l) : 5 ≤ k ∧ k ≤ 11 := by
 unfold lv at h; split at h <;> simp at h <;> omega
def kindS (ks : List Nat) (t : List UInt8) : Option Nat := ks.find? fun k => pre (sg k) t
theorem Qp5 (ks : List Nat) (hk : ∀ k ∈ ks, 5 ≤ k ∧ k ≤ 11) (hne : ks ≠ []) (hl : ks.length ≤ 1000) (s : List UInt8) (d : Int) (b : Bool) : JZ (ks.map fun k : Nat => (k : Int)) (PS s d b) =
  some (bif b then (0, PS (dropB s) d b) else match kindS ks (dropB s) with | some k => ((k : Int), PS ((dropB s).drop (sg k).length) d b) | none => (0, PS (dropB s) d b)) := by
 obtain ⟨r, h1, h2⟩ := Za UJ.eq
  (fun a => ∃ i : Nat, ∃ s' : List UInt8, i ≤ ks.length ∧ dropB s' = dropB s ∧ (i = ks.length → s' = dropB s) ∧ a = ⟨ks.map fun k : Nat => (k : Int), ks.length, i, PS s' d b⟩ ∧ (b = false → kindS (ks.drop i) (dropB s) = kindS ks (dropB s)))
  (fun _ r => r = bif b then .inr (PS (dropB s) d b) else match kindS ks (dropB s) with | some k => .inl ⟨(k : Int), PS ((dropB s).drop (sg k).length) d b⟩ | none => .inr (PS (dropB s) d b)) (fun a => ks.length - a.x9.toNat) (by
  rintro a ⟨i, s', hi, hs, hend, rfl, hq⟩
  simp only [Gh, Int.toNat_natCast]
  by_cases h : i < ks.length
  ·have c1 : decide ((i : Int) < (ks.length : Int)) = true := by simp; omega
   have hd : ks.drop i = ks[i] :: ks.drop (i + 1) := List.drop_eq_getElem_cons h
   have hki := hk ks[i] (List.getElem_mem h)
   rw [c1, cond_true, List.getElem?_map, List.getElem?_eq_getElem h]
   simp only [Int.natCast_nonneg, decide_true, cond_true, Option.map_some, Option.bind_some, Qth, Int.toNat_natCast, Qti hki, GN, hs]
   cases b with
   | true =>
    refine .inl ⟨⟨ks.map fun k : Nat => (k : Int), ks.length, (i + 1 : Nat), PS (dropB s) d true⟩, ?_, ⟨i + 1, dropB s, by omega, EH s, fun _ => rfl, rfl, fun e => by cases e⟩, by simp only [Int.toNat_natCast]; omega, fun r hr => hr⟩
    simp only [cond_true, cond_false]
    rw [w64_in (n := (i : Int) + 1) (by omega) (by omega)]; rfl
   | false =>
    simp only [cond_false]
    have hq := hq rfl
    cases hp : pre (sg ks[i]) (dropB s) with
    | true =>
     have : kindS ks (dropB s) = some ks[i] := by rw [← hq, hd]; simp only [kindS, List.find?_cons, hp]
     refine .inr ⟨_, rfl, ?_⟩
     rw [this]; rfl
    | false =>
     refine .inl ⟨⟨ks.map fun k : Nat => (k : Int), ks.length, (i + 1 : Nat), PS (dropB s) d false⟩, ?_, ⟨i + 1, dropB s, by omega, EH s, fun _ => rfl, rfl, fun _ => ?_⟩, by simp only [Int.toNat_natCast]; omega, fun r hr => hr⟩
     ·simp only [cond_false]
      rw [w64_in (n := (i : Int) + 1) (by omega) (by omega)]; rfl
     ·rw [← hq, hd]; simp only [kindS, List.find?_cons, hp]
  ·have c1 : decide ((i : Int) < (ks.length : Int)) = false := by simp; omega
   have he := hend (by omega)
   subst he
   refine .inr ⟨_, by rw [c1]; rfl, ?_⟩
   cases b with
   | true => rfl
   | false =>
    have hq := hq rfl
    rw [List.drop_eq_nil_of_le (by omega)] at hq
    rw [← hq]; rfl)
  ⟨ks.map fun k : Nat => (k : Int), ks.length, 0, PS s d b⟩ ⟨0, s, by omega, rfl, fun e => by cases ks with | nil => exact absurd rfl hne | cons => simp at e, rfl, fun _ => rfl⟩
 rw [JZ.eq]; unfold Eg
 rw [List.length_map, h1, h2]
 cases b with
 | true => rfl
 | false =>
  simp only [cond_false]
  cases kindS ks (dropB s) <;> rfl
end Go.Ab
namespace Go.Ab
abbrev E0 : Qa := ⟨0, 0, s_, []⟩
def dg (b : UInt8) : Nat := if 97 ≤ b.toNat then b.toNat - 97 + 10 else b.toNat - 48
def numv (base : Nat) : List UInt8 → Nat → Option Nat
 | [], n => some n
 | b :: l, n => if n * base + dg b ≥ 4294967296 then none else numv base l (n * base + dg b)
theorem dg_lt {b : UInt8} (h : isH b = true) : dg b < 16 := by
 unfold isH isD at h; unfold dg
 simp only [Bool.or_eq_true, decide_eq_true_eq] at h
 split <;> omega
theorem Sr (s : List UInt8) (d : Int) (b : Bool) : QS (PS s d b) = some (E0, PS s d true) := by rw [QS.eq]; rfl
theorem Qsl (ds r : List UInt8) (hds : ds.all isH = true) (base : Nat) (hb : base ≤ 16) (d : Int) (b : Bool) : J0 (ba ds) base (PS (ds ++ r) d b) =
  some (match numv base ds 0 with | some n => (⟨1, n, s_, []⟩, PS r d b) | none => (E0, PS (ds ++ r) d true)) := by
 obtain ⟨x, h1, h2⟩ := Za Ug.eq
  (fun a => ∃ i n : Nat, i ≤ ds.length ∧ n < 4294967296 ∧ a = ⟨ba ds, base, n, PS (ds ++ r) d b, E0, ba ds, i⟩ ∧ numv base (ds.drop i) n = numv base ds 0)
  (fun _ x => match numv base ds 0 with | some n => x = .inr ⟨ba ds, n, PS (ds ++ r) d b, E0⟩ | none => x = .inl ⟨PS (ds ++ r) d true, E0⟩)
  (fun a => ds.length - a.i2p) (by
  rintro a ⟨i, n, hi, hn, rfl, hq⟩
  simp only [Zp, Qq]
  by_cases h : i < ds.length
  ·have c1 : decide (i < ds.length) = true := decide_eq_true h
   have hH : isH ds[i] = true := List.all_eq_true.1 hds _ (List.getElem_mem h)
   have hH2 := hH
   unfold isH isD at hH2
   simp only [Bool.or_eq_true, decide_eq_true_eq] at hH2
   have hdg := dg_lt hH
   have hd : ds.drop i = ds[i] :: ds.drop (i + 1) := List.drop_eq_getElem_cons h
   rw [hd] at hq
   simp only [numv] at hq
   rw [c1, cond_true, QcL ds h (by omega)]
   simp only [Sr, Option.bind_some]
   have hmul : n * base ≤ 4294967296 * 16 := Nat.mul_le_mul (by omega) hb
   have em : w64 ((n : Int) * (base : Int)) = ((n * base : Nat) : Int) := by rw [← Int.natCast_mul]; exact w64_in (by omega) (by omega)
   have key : ∀ x : Int, x = (dg ds[i] : Int) → w64 (w64 ((n : Int) * (base : Int)) + w64 x) = ((n * base + dg ds[i] : Nat) : Int) := by
    intro x hx
    rw [em, hx, w64_in (n := (dg ds[i] : Int)) (by omega) (by omega), w64_in (by omega) (by omega)]; omega
   by_cases h97 : 97 ≤ ds[i].toNat
   ·have c2 : decide ((ds[i].toNat : Int) ≥ 97) = true := decide_eq_true (by omega)
    have hdv : dg ds[i] = ds[i].toNat - 97 + 10 := by unfold dg; rw [if_pos h97]
    have e1 : w64 (IntKind.i32.wrap ((ds[i].toNat : Int) - 97)) + 10 = (dg ds[i] : Int) := by
     rw [i32_in (by omega) (by omega), w64_in (by omega) (by omega)]; omega
    rw [c2, cond_true, key _ e1]
    by_cases hbig : n * base + dg ds[i] ≥ 4294967296
    ·rw [if_pos hbig] at hq
     have c3 : decide (((n * base + dg ds[i] : Nat) : Int) ≥ 4294967296) = true := decide_eq_true (by omega)
     rw [c3, cond_true]
     exact .inr ⟨_, rfl, by rw [← hq]⟩
    ·rw [if_neg hbig] at hq
     have c3 : decide (((n * base + dg ds[i] : Nat) : Int) ≥ 4294967296) = false := decide_eq_false (by omega)
     rw [c3, cond_false]
     exact .inl ⟨_, rfl, ⟨i + 1, _, by omega, by omega, rfl, hq⟩, by simp only; omega, fun x hx => hx⟩
   ·have c2 : decide ((ds[i].toNat : Int) ≥ 97) = false := decide_eq_false (by omega)
    have hdv : dg ds[i] = ds[i].toNat - 48 := by unfold dg; rw [if_neg h97]
    have e1 : IntKind.i32.wrap ((ds[i].toNat : Int) - 48) = (dg ds[i] : Int) := by
     rw [i32_in (by omega) (by omega)]; omega
    rw [c2, cond_false, key _ e1]
    by_cases hbig : n * base + dg ds[i] ≥ 4294967296
    ·rw [if_pos hbig] at hq
     have c3 : decide (((n * base + dg ds[i] : Nat) : Int) ≥ 4294967296) = true := decide_eq_true (by omega)
     rw [c3, cond_true]
     exact .inr ⟨_, rfl, by rw [← hq]⟩
    ·rw [if_neg hbig] at hq
     have c3 : decide (((n * base + dg ds[i] : Nat) : Int) ≥ 4294967296) = false := decide_eq_false (by omega)
     rw [c3, cond_false]
     exact .inl ⟨_, rfl, ⟨i + 1, _, by omega, by omega, rfl, hq⟩, by simp only; omega, fun x hx => hx⟩
  ·have c1 : decide (i < ds.length) = false := decide_eq_false h
   rw [List.drop_eq_nil_of_le (by omega)] at hq
   refine .inr ⟨_, by rw [c1]; rfl, ?_⟩
   rw [← hq]; rfl) ⟨ba ds, base, 0, PS (ds ++ r) d b, E0, ba ds, 0⟩ ⟨0, 0, by omega, by omega, rfl, rfl⟩
 rw [J0.eq]; unfold Gw
 rw [h1]
 cases hv : numv base ds 0 with
 | none => rw [hv] at h2; simp only at h2; subst h2; rfl
 | some n =>
  rw [hv] at h2; simp only at h2; subst h2
  simp only [Option.bind_some, Sum.elim_inr, Qq, JD, Int.toNat_natCast, List.length_append]
  have c2 : decide (0 ≤ (ds.length : Int) ∧ (ds.length : Int) ≤ ((ds.length + r.length : Nat) : Int) ∧ ((ds.length + r.length : Nat) : Int) ≤ ((ds.length + r.length : Nat) : Int)) = true := decide_eq_true (by omega)
  rw [c2, cond_true, List.take_of_length_le (by simp), List.drop_left]
theorem QoB (x : Qa) (s : List UInt8) (d : Int) (b : Bool) : Ua x (PS s d b) = some (if s.takeWhile isI = [] then (x, PS s d b) else (E0, PS s d true)) := by
 rw [Ua.eq]; unfold GP
 simp only [Qcg, Option.bind_some, Sr]
 rw [show s_ = ba [] from rfl, eqS_ba]
 by_cases h : s.takeWhile isI = []
 ·rw [if_pos h]; simp [h]
 ·rw [if_neg h]; simp [h]
theorem Quc (w : List UInt8) : Yw (ba w) = some (wordB w) := by
 rw [Yw.eq]; unfold Qc3
 rw [show s_ = ba [] from rfl, eqS_ba]
 cases w with
 | nil => rfl
 | cons c t =>
  simp only [Qq, XN, Qcg, JD, Qhy, Option.bind_some, eqS_ba]
  have c0 : decide (c :: t = []) = false := by simp
  have c2 : decide (0 ≤ (0 : Int) ∧ (0 : Int) < (((c :: t).length : Nat) : Int)) = true := decide_eq_true (by simp only [List.length_cons]; omega)
  have c3 : decide (0 ≤ (1 : Int) ∧ (1 : Int) ≤ (((c :: t).length : Nat) : Int) ∧ (((c :: t).length : Nat) : Int) ≤ (((c :: t).length : Nat) : Int)) = true := decide_eq_true (by simp only [List.length_cons]; omega)
  have c4 : IntKind.i32.wrap (((((c :: t).getD (Int.toNat 0) 0).toNat : Nat) : Int)) = (c.toNat : Int) := by
   show IntKind.i32.wrap (c.toNat : Int) = _
   exact i32_in (by omega) (by have := c.toNat_lt; omega)
  have e1 : ((c :: t).take (Int.toNat (((c :: t).length : Nat) : Int))).drop (Int.toNat 1) = t := by rw [Int.toNat_natCast, List.take_length]; rfl
  rw [c0, cond_false, c2, cond_true, c4, GI, c3, e1]
  simp only [Option.bind_some, eqS_ba, cond_true]
  have c1 : decide ((((c :: t).length : Nat) : Int) > 12) = !decide (t.length < 12) := by
   by_cases h : t.length < 12
   ·rw [decide_eq_true h, decide_eq_false (by simp only [List.length_cons]; omega)]; rfl
   ·rw [decide_eq_false h, decide_eq_true (by simp only [List.length_cons]; omega)]; rfl
  have c5 : ((((c :: t).getD (Int.toNat 0) 0).toNat : Int) != 114) = decide (c ≠ 114) := by
   show ((c.toNat : Int) != 114) = _
   rw [Bool.eq_iff_iff, bne_iff_ne, decide_eq_true_iff]
   have : (114 : UInt8).toNat = 114 := rfl
   constructor
   ·intro h e; subst e; exact h rfl
   ·intro h e; exact h (UInt8.toNat_inj.1 (by omega))
  have c6 : ((((c :: t).length : Nat) : Int) == 1) = decide (t = []) := by
   rw [Bool.eq_iff_iff, beq_iff_eq, decide_eq_true_iff]
   cases t <;> simp <;> omega
  rw [c1, c5, c6]
  have hw : wordB (c :: t) = (decide (t.length < 12) && (!isD c && (decide ((c :: t).takeWhile isI = c :: t) && (decide (c ≠ 114) || (decide (t = []) || !decide (t.takeWhile isD = t)))))) := rfl
  rw [hw]
  have c7 : decide (48 ≤ c.toNat ∧ c.toNat ≤ 57) = isD c := rfl
  rw [c7]
  cases decide (t.length < 12) <;> cases isD c <;> cases decide ((c :: t).takeWhile isI = c :: t) <;> cases decide (c ≠ 114) <;> cases decide (t = []) <;> rfl
end Go.Ab
namespace Go.Ab
theorem Qud {p : UInt8 → Bool} (t : List UInt8) : t.drop (t.takeWhile p).length = t.dropWhile p := by
 conv => lhs; rw [← List.takeWhile_append_dropWhile (p := p) (l := t)]
 rw [List.takeWhile_append_dropWhile, ]
 conv => lhs; arg 2; rw [← List.takeWhile_append_dropWhile (p := p) (l := t)]
 exact List.drop_left
def tailA (base : Nat) (h r : List UInt8) : Option (X3 × List UInt8) := match numv base h 0 with
 | some n => if r.takeWhile isI = [] then some (.num n, r) else none
 | none => none
def atomS (t : List UInt8) : Option (X3 × List UInt8) :=
 bif pre [48, 120] t && !decide ((t.drop 2).takeWhile isH = []) then tailA 16 ((t.drop 2).takeWhile isH) ((t.drop 2).dropWhile isH)
 else bif !decide (t.takeWhile isD = []) then tailA 10 (t.takeWhile isD) (t.dropWhile isD)
 else bif wordB (t.takeWhile isI) then some (.nm (ba (t.takeWhile isI)), t.dropWhile isI) else none
def PR (f : Option (Qa × Qd)) (d : Int) (o : Option (X3 × List UInt8)) : Prop := match o with
 | some (x, r) => f = some (x.t, PS r d false)
 | none => ∃ e r, f = some (e, PS r d true)
theorem all_tw {p q : UInt8 → Bool} (hpq : ∀ b, p b = true → q b = true) (t : List UInt8) : (t.takeWhile p).all q = true := by
 rw [List.all_eq_true]; intro b hb; exact hpq b (List.all_eq_true.1 List.all_takeWhile b hb)
theorem Qp6 (base : Nat) (hb : base ≤ 16) (h r : List UInt8) (hh : h.all isH = true) (d : Int) :
  PR ((J0 (ba h) base (PS (h ++ r) d false)).bind fun q => (Ua q.1 q.2).bind fun q => some (q.1, q.2)) d (tailA base h r) := by
 rw [Qsl h r hh base hb]
 unfold tailA
 cases hv : numv base h 0 with
 | none =>
  simp only [Option.bind_some, QoB]
  split <;> exact ⟨_, _, rfl⟩
 | some n =>
  simp only [Option.bind_some, QoB]
  split
  ·rfl
  ·exact ⟨_, _, rfl⟩
theorem QjB {s r : List UInt8} (h : dropB s = 40 :: r) (d : Int) : QF (PS s d false) = Q5 (PS r d false) := by
 rw [QF.eq]; unfold V5
 simp only [show h_28 = ba [40] from rfl, GN, cond_true, Option.bind_some, cond_false, h]
 rw [show pre [40] (40 :: r) = true from by simp [pre]]
 simp only [cond_true]
 show (Q5 (PS r d false)).bind (fun r2 => some (r2.1, r2.2)) = _
 cases Q5 (PS r d false) <;> rfl
theorem Qbb {a : UInt8} {t : List UInt8} (h : ∀ r, t ≠ a :: r) : pre [a] t = false := by
 cases t with
 | nil => simp [pre]
 | cons b t =>
  have : b ≠ a := fun e => h t (by rw [e])
  simp [pre, this]
theorem QhB {s r : List UInt8} (h : dropB s = 45 :: r) (d : Int) : QF (PS s d false) = QR (PS r d false) := by
 rw [QF.eq]; unfold V5
 simp only [show h_28 = ba [40] from rfl, show h_2d = ba [45] from rfl, GN, cond_true, Option.bind_some, cond_false, h]
 rw [show pre [40] (45 :: r) = false from by simp [pre]]
 simp only [cond_false, GN]
 rw [show dropB (45 :: r) = 45 :: r from by simp [dropB, List.dropWhile_cons], show pre [45] (45 :: r) = true from by simp [pre]]
 simp only [cond_true, Option.bind_some]
 show (QR (PS r d false)).bind (fun r2 => some (r2.1, r2.2)) = _
 cases QR (PS r d false) <;> rfl
theorem Qp7 {s r : List UInt8} (h : dropB s = 46 :: r) (d : Int) : QF (PS s d false) = some (X3.here.t, PS r d false) := by
 rw [QF.eq]; unfold V5
 simp only [show h_28 = ba [40] from rfl, show h_2d = ba [45] from rfl, show h_2e = ba [46] from rfl, GN, cond_true, Option.bind_some, cond_false, h]
 rw [show pre [40] (46 :: r) = false from by simp [pre]]
 simp only [cond_false, GN]
 rw [show dropB (46 :: r) = 46 :: r from by simp [dropB, List.dropWhile_cons], show pre [45] (46 :: r) = false from by simp [pre]]
 simp only [cond_false, Option.bind_some, GN]
 rw [show dropB (46 :: r) = 46 :: r from by simp [dropB, List.dropWhile_cons], show pre [46] (46 :: r) = true from by simp [pre]]
 rfl
theorem QjC {s t : List UInt8} (h : dropB s = t) (h1 : ∀ r, t ≠ 40 :: r) (h2 : ∀ r, t ≠ 45 :: r) (h3 : ∀ r, t ≠ 46 :: r) (d : Int) : PR (QF (PS s d false)) d (atomS t) := by
 have ht : dropB t = t := by rw [← h, EH]
 rw [QF.eq]; unfold V5
 simp only [show h_28 = ba [40] from rfl, show h_2d = ba [45] from rfl, show h_2e = ba [46] from rfl, GN, cond_true, Option.bind_some, cond_false, h, ht, Qbb h1, Qbb h2, Qbb h3, Qm5, Qrh, Qcg, Qhy, Qq, JD, Quc, Sr]
 have rest : ∀ (P : Prop), (PR (bif !eqS (ba (t.takeWhile isD)) s_ then (J0 (ba (t.takeWhile isD)) 10 (PS t d false)).bind fun r18 => (Ua r18.1 r18.2).bind fun r19 => some (r19.1, r19.2)
   else bif wordB (t.takeWhile isI) then (bif decide (0 ≤ (((t.takeWhile isI).length : Nat) : Int) ∧ (((t.takeWhile isI).length : Nat) : Int) ≤ ((t.length : Nat) : Int) ∧ ((t.length : Nat) : Int) ≤ ((t.length : Nat) : Int)) then
    some ((⟨2, 0, ba (t.takeWhile isI), []⟩ : Qa), (⟨ba ((t.take (Int.toNat ((t.length : Nat) : Int))).drop (Int.toNat (((t.takeWhile isI).length : Nat) : Int))), d, false⟩ : Qd)) else none) else some ((⟨0, 0, s_, []⟩ : Qa), (⟨ba t, d, true⟩ : Qd))) d
   (bif !decide (t.takeWhile isD = []) then tailA 10 (t.takeWhile isD) (t.dropWhile isD) else bif wordB (t.takeWhile isI) then some (.nm (ba (t.takeWhile isI)), t.dropWhile isI) else none) → P) → P := by
  intro P k
  apply k
  rw [show s_ = ba [] from rfl, eqS_ba]
  cases hD : decide (t.takeWhile isD = []) with
  | false =>
   simp only [Bool.not_false, cond_true]
   have := Qp6 10 (by decide) (t.takeWhile isD) (t.dropWhile isD) (all_tw (fun b hb => by simp [isH, hb]) t) d
   rw [List.takeWhile_append_dropWhile] at this
   exact this
  | true =>
   simp only [Bool.not_true, cond_false]
   cases hw : wordB (t.takeWhile isI) with
   | false => exact ⟨_, _, rfl⟩
   | true =>
    simp only [cond_true]
    have hl : (t.takeWhile isI).length ≤ t.length := (List.takeWhile_sublist _).length_le
    have c1 : decide (0 ≤ (((t.takeWhile isI).length : Nat) : Int) ∧ (((t.takeWhile isI).length : Nat) : Int) ≤ ((t.length : Nat) : Int) ∧ ((t.length : Nat) : Int) ≤ ((t.length : Nat) : Int)) = true := decide_eq_true (by omega)
    rw [c1, cond_true, Int.toNat_natCast, Int.toNat_natCast, List.take_length, Qud]
    rfl
 unfold atomS
 cases hp : pre [48, 120] t with
 | false =>
  simp only [Bool.false_and, cond_false]
  exact rest _ id
 | true =>
  have hlen := (QhN hp).1
  have c1 : decide (0 ≤ (2 : Int) ∧ (2 : Int) ≤ ((t.length : Nat) : Int) ∧ ((t.length : Nat) : Int) ≤ ((t.length : Nat) : Int)) = true := decide_eq_true (by simp at hlen; omega)
  have e2 : (t.take (Int.toNat ((t.length : Nat) : Int))).drop (Int.toNat 2) = t.drop 2 := by rw [Int.toNat_natCast, List.take_length]; rfl
  simp only [Bool.true_and, cond_true]
  rw [c1, cond_true, e2]
  cases hH : decide ((t.drop 2).takeWhile isH = []) with
  | true =>
   have : eqS (ba ((t.drop 2).takeWhile isH)) s_ = true := by rw [show s_ = ba [] from rfl, eqS_ba, hH]
   rw [this]
   simp only [Bool.not_true, cond_false]
   exact rest _ id
  | false =>
   have : eqS (ba ((t.drop 2).takeWhile isH)) s_ = false := by rw [show s_ = ba [] from rfl, eqS_ba, hH]
   rw [this]
   simp only [Bool.not_false, cond_true]
   have := Qp6 16 (by decide) ((t.drop 2).takeWhile isH) ((t.drop 2).dropWhile isH) (all_tw (fun b hb => hb) _) d
   rw [List.takeWhile_append_dropWhile] at this
   exact this
end Go.Ab
namespace Go.Ab
theorem QhC : VU = some [[9], [8], [10, 11], [5, 6], [7]] := by rw [VU.eq]; rfl
theorem Qme {l : Nat} (h : l < 5) : ([[9], [8], [10, 11], [5, 6], [7]] : List (List Int))[l]? = some ((lv l).map fun k : Nat => (k : Int)) := by
 have : l = 0 ∨ l = 1 ∨ l = 2 ∨ l = 3 ∨ l = 4 := by omega
 rcases this with rfl | rfl | rfl | rfl | rfl <;> rfl
theorem lv_ne (l : Nat) : lv l ≠ [] := by unfold lv; split <;> simp
theorem lv_len (l : Nat) : (lv l).length ≤ 1000 := by unfold lv; split <;> simp
theorem two5 (p : Qd) : Qp 5 p = QF p := by
 rw [Qp.eq]; unfold Xg
 simp only [QhC, Option.bind_some]
 show (QF p).bind (fun r2 => some (r2.1, r2.2)) = _
 cases QF p <;> rfl
noncomputable def PL (l : Nat) (p : Qd) (x : Qa) : Option (Qa × Qd) :=
 (JZ ((lv l).map fun k : Nat => (k : Int)) p).bind fun r6 => (Q4 ⟨(l : Int), r6.1, r6.2, E0, x⟩).bind fun o => some (o.h2, o.h0)
theorem two_lt {l : Nat} (h : l < 5) (p : Qd) : Qp (l : Int) p = (Qp ((l + 1 : Nat) : Int) p).bind fun r => PL l r.2 r.1 := by
 rw [Qp.eq]; unfold Xg
 simp only [QhC, Option.bind_some]
 have c1 : ((l : Int) == (([[9], [8], [10, 11], [5, 6], [7]] : List (List Int)).length : Nat)) = false := by
  rw [beq_eq_false_iff_ne]; simp; omega
 have c2 : decide (0 ≤ (l : Int)) = true := decide_eq_true (by omega)
 rw [c1, cond_false, w64_in (n := (l : Int) + 1) (by omega) (by omega), c2]
 simp only [cond_true, Int.toNat_natCast, Qme h, Option.bind_some]
 rfl
theorem PL_bad {l : Nat} (s : List UInt8) (d : Int) (x : Qa) : PL l (PS s d true) x = some (x, PS (dropB s) d true) := by
 unfold PL
 rw [Qp5 _ (fun k hk => lv_ok hk) (lv_ne l) (lv_len l)]
 simp only [cond_true, Option.bind_some]
 rw [Q4.eq]; rfl
theorem PL_eq {l : Nat} (h : l < 5) (s : List UInt8) (d : Int) (x : Qa) : PL l (PS s d false) x = match kindS (lv l) (dropB s) with
  | none => some (x, PS (dropB s) d false)
  | some k => (Qp ((l + 1 : Nat) : Int) (PS ((dropB s).drop (sg k).length) d false)).bind fun r => PL l r.2 ⟨k, 0, s_, [x, r.1]⟩ := by
 conv => lhs; unfold PL
 rw [Qp5 _ (fun k hk => lv_ok hk) (lv_ne l) (lv_len l)]
 simp only [cond_false, Option.bind_some]
 cases hk : kindS (lv l) (dropB s) with
 | none => simp only; rw [Q4.eq]; rfl
 | some k =>
  have h5 := lv_ok (List.mem_of_find?_eq_some hk)
  have c1 : ((k : Int) != 0) = true := by rw [bne_iff_ne]; omega
  have c2 : decide (0 ≤ (l : Int)) = true := decide_eq_true (by omega)
  simp only
  rw [Q4.eq]; unfold Wy
  simp only [c1, cond_true, Bool.not_false, c2, QhC, Option.bind_some, Int.toNat_natCast, Qme h]
  rw [w64_in (n := (l : Int) + 1) (by omega) (by omega)]
  show Option.bind (Option.bind (Option.bind (Qp ((l + 1 : Nat) : Int) (PS ((dropB s).drop (sg k).length) d false)) _) _) _ = _
  cases Qp ((l + 1 : Nat) : Int) (PS ((dropB s).drop (sg k).length) d false) with
  | none => rfl
  | some r =>
   simp only [Option.bind_some]
   unfold PL
   cases JZ ((lv l).map fun k : Nat => (k : Int)) r.2 <;> rfl
theorem QkD {d : Int} (h : d ≥ 12) (s : List UInt8) : Q5 (PS s d false) = some (E0, PS s d true) ∧ QR (PS s d false) = some (E0, PS s d true) := by
 constructor
 ·rw [Q5.eq]; unfold Wx
  simp only [Sr, decide_eq_true h, cond_true, Option.bind_some]
 ·rw [QR.eq]; unfold VX
  simp only [Sr, decide_eq_true h, cond_true, Option.bind_some]
theorem Qmf {d : Int} (h0 : 0 ≤ d) (h : d < 12) (s : List UInt8) {o : Option (X3 × List UInt8)} (ho : PR (Qp 0 (PS s (d + 1) false)) (d + 1) o) :
  PR (Q5 (PS s d false)) d (o.bind fun xr => bif pre [41] (dropB xr.2) then some (xr.1, (dropB xr.2).drop 1) else none) := by
 rw [Q5.eq]; unfold Wx
 have c1 : decide (d ≥ 12) = false := decide_eq_false (by omega)
 simp only [c1, cond_false]
 rw [w64_in (n := d + 1) (by omega) (by omega), JN.eq]; unfold Xp
 have wd : w64 (d + 1 - 1) = d := by rw [w64_in (by omega) (by omega)]; omega
 cases o with
 | none =>
  obtain ⟨e, r, he⟩ := ho
  have he : Qp 0 ⟨ba s, d + 1, false⟩ = some (e, PS r (d + 1) true) := he
  simp only [he, Option.bind_some, show h_29 = ba [41] from rfl, GN, cond_true, Bool.not_false, Sr, Option.bind_none, wd]
  exact ⟨_, _, rfl⟩
 | some xr =>
  obtain ⟨x, r⟩ := xr
  have ho : Qp 0 ⟨ba s, d + 1, false⟩ = some (x.t, PS r (d + 1) false) := ho
  simp only [ho, Option.bind_some, show h_29 = ba [41] from rfl, GN, cond_false]
  cases hp : pre [41] (dropB r) with
  | false =>
   simp only [cond_false, Bool.not_false, cond_true, Sr, Option.bind_some, wd]
   exact ⟨_, _, rfl⟩
  | true =>
   simp only [cond_true, Bool.not_true, cond_false, Option.bind_some, wd]
   rfl
theorem QoC {d : Int} (h0 : 0 ≤ d) (h : d < 12) (s : List UInt8) {o : Option (X3 × List UInt8)} (ho : PR (QF (PS s (d + 1) false)) (d + 1) o) :
  PR (QR (PS s d false)) d (o.bind fun xr => some (.neg xr.1, xr.2)) := by
 rw [QR.eq]; unfold VX
 have c1 : decide (d ≥ 12) = false := decide_eq_false (by omega)
 simp only [c1, cond_false]
 rw [w64_in (n := d + 1) (by omega) (by omega), JO.eq]; unfold Xq
 have wd : w64 (d + 1 - 1) = d := by rw [w64_in (by omega) (by omega)]; omega
 cases o with
 | none =>
  obtain ⟨e, r, he⟩ := ho
  have he : QF ⟨ba s, d + 1, false⟩ = some (e, PS r (d + 1) true) := he
  simp only [he, Option.bind_some, wd, Option.bind_none]
  exact ⟨_, _, rfl⟩
 | some xr =>
  obtain ⟨x, r⟩ := xr
  have ho : QF ⟨ba s, d + 1, false⟩ = some (x.t, PS r (d + 1) false) := ho
  simp only [ho, Option.bind_some, wd]
  rfl
theorem QjD (s : List UInt8) {o : Option (X3 × List UInt8)} (ho : PR (Qp 0 (PS s 0 false)) 0 o) :
  Wz (ba s) = some (match o with | some (x, r) => if dropB r = [] then (x.t, true) else (E0, false) | none => (E0, false)) := by
 rw [Wz.eq]; unfold QbV
 cases o with
 | none =>
  obtain ⟨e, r, he⟩ := ho
  have he : Qp 0 ⟨ba s, 0, false⟩ = some (e, PS r 0 true) := he
  simp only [he, Option.bind_some, Qhz, cond_true]
 | some xr =>
  obtain ⟨x, r⟩ := xr
  have ho : Qp 0 ⟨ba s, 0, false⟩ = some (x.t, PS r 0 false) := ho
  simp only [ho, Option.bind_some, Qhz, cond_false]
  rw [show s_ = ba [] from rfl, eqS_ba]
  by_cases h : dropB r = []
  ·simp [h]
  ·simp [h]; rfl
end Go.Ab
