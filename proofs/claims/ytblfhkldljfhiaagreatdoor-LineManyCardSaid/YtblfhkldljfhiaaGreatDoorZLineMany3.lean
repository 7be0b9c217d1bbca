/- LineMany: part 3 of the proof that, whatever the input, the law returns true and the input reads as it did; its conditions are those of the given row. -/
import Derived.Test.YtblfhkldljfhiaaGreatDoorZLineMany2
import Derived.Shelf.Strings.SlTrimAscii
import Derived.Tactics
import Derived.WalkLawsBesides
import Derived.RowKit3
import Derived.Laws.BitsLemmas
import Derived.Test.YtblfhkldljfhiaaGreatDoorSh
import Derived.Test.YtblfhkldljfhiaaGreatDoorRows
import Derived.LaidMore
import Derived.MakeChecks
import Derived.Lib.AppendIntMem
import Derived.Shelf.Vars
import Derived.WalkKit
import Derived.Deep.LoopGhost
import Derived.Lib.Walk
import Derived.Lib.SliceRun
set_option linter.unusedVariables false
set_option linter.unusedSimpArgs false
namespace Go.Ab
open Go.Proofs
def Po  (a : Qt) : Option (Qt ⊕ (QI ⊕ QA)) := (bif (decide (a.x11 < 1212)) then (bif (decide (0 ≤ a.x11 ∧ a.x11 < ((Qj.size : Nat) : Int))) then (bif (((Qj.data.getD (Int.toNat a.x11) 0).toNat : Int) != 58) then (bif (((Qj.data.getD (Int.toNat a.x11) 0).toNat : Int) != 124) then (some (.inl (Qt.mk a.x0 a.x1 a.x7 a.x8 a.x10 (w64 (a.x11 + 1)) a.h0 a.h1_0 a.h1_1 a.h1_2))) else (bif (decide (0 ≤ a.x8 ∧ a.x8 ≤ a.x11 ∧ a.x11 ≤ ((Qj.size : Nat) : Int))) then (bif (decide (a.x10 = 0)) then (bif (((Qj.data.getD (Int.toNat a.x11) 0).toNat : Int) == 124) then (bif (a.x7 == a.x0) then (some (.inr (.inl (QI.mk a.x7 true (QA.mk (Qj.extract (Int.toNat a.x8) (Int.toNat a.x11)) a.h1_1 a.h1_2))))) else (bif (eqS (Qj.extract (Int.toNat a.x8) (Int.toNat a.x11)) a.x1) then (some (.inr (.inl (QI.mk a.x7 true (QA.mk (Qj.extract (Int.toNat a.x8) (Int.toNat a.x11)) a.h1_1 a.h1_2))))) else (some (.inl (Qt.mk a.x0 a.x1 (w64 (a.x7 + 1)) (w64 (a.x11 + 1)) (0 : Int) (w64 (a.x11 + 1)) a.h0 (Qj.extract (Int.toNat a.x8) (Int.toNat a.x11)) a.h1_1 a.h1_2))))) else (some (.inl (Qt.mk a.x0 a.x1 a.x7 (w64 (a.x11 + 1)) (w64 (a.x10 + 1)) (w64 (a.x11 + 1)) a.h0 (Qj.extract (Int.toNat a.x8) (Int.toNat a.x11)) a.h1_1 a.h1_2)))) else (bif (decide (a.x10 = 1)) then (bif (((Qj.data.getD (Int.toNat a.x11) 0).toNat : Int) == 124) then (bif (a.x7 == a.x0) then (some (.inr (.inl (QI.mk a.x7 true (QA.mk a.h1_0 (Qj.extract (Int.toNat a.x8) (Int.toNat a.x11)) a.h1_2))))) else (bif (eqS a.h1_0 a.x1) then (some (.inr (.inl (QI.mk a.x7 true (QA.mk a.h1_0 (Qj.extract (Int.toNat a.x8) (Int.toNat a.x11)) a.h1_2))))) else (some (.inl (Qt.mk a.x0 a.x1 (w64 (a.x7 + 1)) (w64 (a.x11 + 1)) (0 : Int) (w64 (a.x11 + 1)) a.h0 a.h1_0 (Qj.extract (Int.toNat a.x8) (Int.toNat a.x11)) a.h1_2))))) else (some (.inl (Qt.mk a.x0 a.x1 a.x7 (w64 (a.x11 + 1)) (w64 (a.x10 + 1)) (w64 (a.x11 + 1)) a.h0 a.h1_0 (Qj.extract (Int.toNat a.x8) (Int.toNat a.x11)) a.h1_2)))) else (bif (decide (a.x10 = 2)) then (bif (((Qj.data.getD (Int.toNat a.x11) 0).toNat : Int) == 124) then (bif (a.x7 == a.x0) then (some (.inr (.inl (QI.mk a.x7 true (QA.mk a.h1_0 a.h1_1 (Qj.extract (Int.toNat a.x8) (Int.toNat a.x11))))))) else (bif (eqS a.h1_0 a.x1) then (some (.inr (.inl (QI.mk a.x7 true (QA.mk a.h1_0 a.h1_1 (Qj.extract (Int.toNat a.x8) (Int.toNat a.x11))))))) else (some (.inl (Qt.mk a.x0 a.x1 (w64 (a.x7 + 1)) (w64 (a.x11 + 1)) (0 : Int) (w64 (a.x11 + 1)) a.h0 a.h1_0 a.h1_1 (Qj.extract (Int.toNat a.x8) (Int.toNat a.x11))))))) else (some (.inl (Qt.mk a.x0 a.x1 a.x7 (w64 (a.x11 + 1)) (w64 (a.x10 + 1)) (w64 (a.x11 + 1)) a.h0 a.h1_0 a.h1_1 (Qj.extract (Int.toNat a.x8) (Int.toNat a.x11)))))) else none))) else none)) else (bif (decide (0 ≤ a.x8 ∧ a.x8 ≤ a.x11 ∧ a.x11 ≤ ((Qj.size : Nat) : Int))) then (bif (decide (a.x10 = 0)) then (bif (((Qj.data.getD (Int.toNat a.x11) 0).toNat : Int) == 124) then (bif (a.x7 == a.x0) then (some (.inr (.inl (QI.mk a.x7 true (QA.mk (Qj.extract (Int.toNat a.x8) (Int.toNat a.x11)) a.h1_1 a.h1_2))))) else (bif (eqS (Qj.extract (Int.toNat a.x8) (Int.toNat a.x11)) a.x1) then (some (.inr (.inl (QI.mk a.x7 true (QA.mk (Qj.extract (Int.toNat a.x8) (Int.toNat a.x11)) a.h1_1 a.h1_2))))) else (some (.inl (Qt.mk a.x0 a.x1 (w64 (a.x7 + 1)) (w64 (a.x11 + 1)) (0 : Int) (w64 (a.x11 + 1)) a.h0 (Qj.extract (Int.toNat a.x8) (Int.toNat a.x11)) a.h1_1 a.h1_2))))) else (some (.inl (Qt.mk a.x0 a.x1 a.x7 (w64 (a.x11 + 1)) (w64 (a.x10 + 1)) (w64 (a.x11 + 1)) a.h0 (Qj.extract (Int.toNat a.x8) (Int.toNat a.x11)) a.h1_1 a.h1_2)))) else (bif (decide (a.x10 = 1)) then (bif (((Qj.data.getD (Int.toNat a.x11) 0).toNat : Int) == 124) then (bif (a.x7 == a.x0) then (some (.inr (.inl (QI.mk a.x7 true (QA.mk a.h1_0 (Qj.extract (Int.toNat a.x8) (Int.toNat a.x11)) a.h1_2))))) else (bif (eqS a.h1_0 a.x1) then (some (.inr (.inl (QI.mk a.x7 true (QA.mk a.h1_0 (Qj.extract (Int.toNat a.x8) (Int.toNat a.x11)) a.h1_2))))) else (some (.inl (Qt.mk a.x0 a.x1 (w64 (a.x7 + 1)) (w64 (a.x11 + 1)) (0 : Int) (w64 (a.x11 + 1)) a.h0 a.h1_0 (Qj.extract (Int.toNat a.x8) (Int.toNat a.x11)) a.h1_2))))) else (some (.inl (Qt.mk a.x0 a.x1 a.x7 (w64 (a.x11 + 1)) (w64 (a.x10 + 1)) (w64 (a.x11 + 1)) a.h0 a.h1_0 (Qj.extract (Int.toNat a.x8) (Int.toNat a.x11)) a.h1_2)))) else (bif (decide (a.x10 = 2)) then (bif (((Qj.data.getD (Int.toNat a.x11) 0).toNat : Int) == 124) then (bif (a.x7 == a.x0) then (some (.inr (.inl (QI.mk a.x7 true (QA.mk a.h1_0 a.h1_1 (Qj.extract (Int.toNat a.x8) (Int.toNat a.x11))))))) else (bif (eqS a.h1_0 a.x1) then (some (.inr (.inl (QI.mk a.x7 true (QA.mk a.h1_0 a.h1_1 (Qj.extract (Int.toNat a.x8) (Int.toNat a.x11))))))) else (some (.inl (Qt.mk a.x0 a.x1 (w64 (a.x7 + 1)) (w64 (a.x11 + 1)) (0 : Int) (w64 (a.x11 + 1)) a.h0 a.h1_0 a.h1_1 (Qj.extract (Int.toNat a.x8) (Int.toNat a.x11))))))) else (some (.inl (Qt.mk a.x0 a.x1 a.x7 (w64 (a.x11 + 1)) (w64 (a.x10 + 1)) (w64 (a.x11 + 1)) a.h0 a.h1_0 a.h1_1 (Qj.extract (Int.toNat a.x8) (Int.toNat a.x11)))))) else none))) else none)) else none) else (some (.inr (.inr a.h0))))
def Qcm (P : Pg) (w : Cf)  (a : Qt) : Tr (Qt ⊕ (QI ⊕ QA)) XS := (.as (decide (a.x11 < 1212)) (let u91 := (in1 a.x11 (zz Qj)); .as u91 (let u90 := ((gb Qj a.x11) != 58); .as u90 (.yes u90 (.yes u91 (yesN 2 u90 (.as ((gb Qj a.x11) != 124) (lf Vc (Qt.mk a.x0 a.x1 a.x7 a.x8 a.x10 (w64 (a.x11 + 1)) a.h0 a.h1_0 a.h1_1 a.h1_2)) (.as (in2 a.x8 a.x11 (zz Qj)) (.ask (decide (a.x10 = ((0 : Nat) : Int))) (decide (a.x10 = 0)) (.yes u91 (.as ((gb Qj a.x11) == 124) (let u84 := (a.x7 == a.x0); .as u84 (yesN 4 u84 (.yes true (.yes (decide ((zi 0) = ((0 : Nat) : Int))) (.no (decide ((zi 1) = ((0 : Nat) : Int))) (.yes (decide ((zi 1) = ((1 : Nat) : Int))) (.no (decide ((zi 2) = ((0 : Nat) : Int))) (.no (decide ((zi 2) = ((1 : Nat) : Int))) (.yes (decide ((zi 2) = ((2 : Nat) : Int))) (rx VH (.inl (QI.mk a.x7 true (QA.mk (cu Qj a.x8 a.x11) a.h1_1 a.h1_2)))))))))))) (.yes (decide ((zi 0) = ((0 : Nat) : Int))) (noN 4 u84 (.as (eqS (cu Qj a.x8 a.x11) a.x1) (.yes (decide ((zi 0) = ((0 : Nat) : Int))) (.no (decide ((zi 1) = ((0 : Nat) : Int))) (.yes (decide ((zi 1) = ((1 : Nat) : Int))) (.no (decide ((zi 2) = ((0 : Nat) : Int))) (.no (decide ((zi 2) = ((1 : Nat) : Int))) (.yes (decide ((zi 2) = ((2 : Nat) : Int))) (rx VH (.inl (QI.mk a.x7 true (QA.mk (cu Qj a.x8 a.x11) a.h1_1 a.h1_2)))))))))) (lf Vc (Qt.mk a.x0 a.x1 (w64 (a.x7 + 1)) (w64 (a.x11 + 1)) (zi 0) (w64 (a.x11 + 1)) a.h0 (cu Qj a.x8 a.x11) a.h1_1 a.h1_2)))))) (lf Vc (Qt.mk a.x0 a.x1 a.x7 (w64 (a.x11 + 1)) (w64 (a.x10 + 1)) (w64 (a.x11 + 1)) a.h0 (cu Qj a.x8 a.x11) a.h1_1 a.h1_2)))) (.ask (decide (a.x10 = ((1 : Nat) : Int))) (decide (a.x10 = 1)) (.yes u91 (.as ((gb Qj a.x11) == 124) (let u85 := (a.x7 == a.x0); .as u85 (yesN 4 u85 (.yes true (.yes (decide ((zi 0) = ((0 : Nat) : Int))) (.no (decide ((zi 1) = ((0 : Nat) : Int))) (.yes (decide ((zi 1) = ((1 : Nat) : Int))) (.no (decide ((zi 2) = ((0 : Nat) : Int))) (.no (decide ((zi 2) = ((1 : Nat) : Int))) (.yes (decide ((zi 2) = ((2 : Nat) : Int))) (rx VH (.inl (QI.mk a.x7 true (QA.mk a.h1_0 (cu Qj a.x8 a.x11) a.h1_2)))))))))))) (.yes (decide ((zi 0) = ((0 : Nat) : Int))) (noN 4 u85 (.as (eqS a.h1_0 a.x1) (.yes (decide ((zi 0) = ((0 : Nat) : Int))) (.no (decide ((zi 1) = ((0 : Nat) : Int))) (.yes (decide ((zi 1) = ((1 : Nat) : Int))) (.no (decide ((zi 2) = ((0 : Nat) : Int))) (.no (decide ((zi 2) = ((1 : Nat) : Int))) (.yes (decide ((zi 2) = ((2 : Nat) : Int))) (rx VH (.inl (QI.mk a.x7 true (QA.mk a.h1_0 (cu Qj a.x8 a.x11) a.h1_2)))))))))) (lf Vc (Qt.mk a.x0 a.x1 (w64 (a.x7 + 1)) (w64 (a.x11 + 1)) (zi 0) (w64 (a.x11 + 1)) a.h0 a.h1_0 (cu Qj a.x8 a.x11) a.h1_2)))))) (lf Vc (Qt.mk a.x0 a.x1 a.x7 (w64 (a.x11 + 1)) (w64 (a.x10 + 1)) (w64 (a.x11 + 1)) a.h0 a.h1_0 (cu Qj a.x8 a.x11) a.h1_2)))) (.ask (decide (a.x10 = ((2 : Nat) : Int))) (decide (a.x10 = 2)) (.yes u91 (.as ((gb Qj a.x11) == 124) (let u86 := (a.x7 == a.x0); .as u86 (yesN 4 u86 (.yes true (.yes (decide ((zi 0) = ((0 : Nat) : Int))) (.no (decide ((zi 1) = ((0 : Nat) : Int))) (.yes (decide ((zi 1) = ((1 : Nat) : Int))) (.no (decide ((zi 2) = ((0 : Nat) : Int))) (.no (decide ((zi 2) = ((1 : Nat) : Int))) (.yes (decide ((zi 2) = ((2 : Nat) : Int))) (rx VH (.inl (QI.mk a.x7 true (QA.mk a.h1_0 a.h1_1 (cu Qj a.x8 a.x11))))))))))))) (.yes (decide ((zi 0) = ((0 : Nat) : Int))) (noN 4 u86 (.as (eqS a.h1_0 a.x1) (.yes (decide ((zi 0) = ((0 : Nat) : Int))) (.no (decide ((zi 1) = ((0 : Nat) : Int))) (.yes (decide ((zi 1) = ((1 : Nat) : Int))) (.no (decide ((zi 2) = ((0 : Nat) : Int))) (.no (decide ((zi 2) = ((1 : Nat) : Int))) (.yes (decide ((zi 2) = ((2 : Nat) : Int))) (rx VH (.inl (QI.mk a.x7 true (QA.mk a.h1_0 a.h1_1 (cu Qj a.x8 a.x11))))))))))) (lf Vc (Qt.mk a.x0 a.x1 (w64 (a.x7 + 1)) (w64 (a.x11 + 1)) (zi 0) (w64 (a.x11 + 1)) a.h0 a.h1_0 a.h1_1 (cu Qj a.x8 a.x11))))))) (lf Vc (Qt.mk a.x0 a.x1 a.x7 (w64 (a.x11 + 1)) (w64 (a.x10 + 1)) (w64 (a.x11 + 1)) a.h0 a.h1_0 a.h1_1 (cu Qj a.x8 a.x11))))) .fail))) .fail))))) (noN 3 u90 (.no false (.as (in2 a.x8 a.x11 (zz Qj)) (.ask (decide (a.x10 = ((0 : Nat) : Int))) (decide (a.x10 = 0)) (.yes u91 (.as ((gb Qj a.x11) == 124) (let u87 := (a.x7 == a.x0); .as u87 (yesN 4 u87 (.yes true (.yes (decide ((zi 0) = ((0 : Nat) : Int))) (.no (decide ((zi 1) = ((0 : Nat) : Int))) (.yes (decide ((zi 1) = ((1 : Nat) : Int))) (.no (decide ((zi 2) = ((0 : Nat) : Int))) (.no (decide ((zi 2) = ((1 : Nat) : Int))) (.yes (decide ((zi 2) = ((2 : Nat) : Int))) (rx VH (.inl (QI.mk a.x7 true (QA.mk (cu Qj a.x8 a.x11) a.h1_1 a.h1_2)))))))))))) (.yes (decide ((zi 0) = ((0 : Nat) : Int))) (noN 4 u87 (.as (eqS (cu Qj a.x8 a.x11) a.x1) (.yes (decide ((zi 0) = ((0 : Nat) : Int))) (.no (decide ((zi 1) = ((0 : Nat) : Int))) (.yes (decide ((zi 1) = ((1 : Nat) : Int))) (.no (decide ((zi 2) = ((0 : Nat) : Int))) (.no (decide ((zi 2) = ((1 : Nat) : Int))) (.yes (decide ((zi 2) = ((2 : Nat) : Int))) (rx VH (.inl (QI.mk a.x7 true (QA.mk (cu Qj a.x8 a.x11) a.h1_1 a.h1_2)))))))))) (lf Vc (Qt.mk a.x0 a.x1 (w64 (a.x7 + 1)) (w64 (a.x11 + 1)) (zi 0) (w64 (a.x11 + 1)) a.h0 (cu Qj a.x8 a.x11) a.h1_1 a.h1_2)))))) (lf Vc (Qt.mk a.x0 a.x1 a.x7 (w64 (a.x11 + 1)) (w64 (a.x10 + 1)) (w64 (a.x11 + 1)) a.h0 (cu Qj a.x8 a.x11) a.h1_1 a.h1_2)))) (.ask (decide (a.x10 = ((1 : Nat) : Int))) (decide (a.x10 = 1)) (.yes u91 (.as ((gb Qj a.x11) == 124) (let u88 := (a.x7 == a.x0); .as u88 (yesN 4 u88 (.yes true (.yes (decide ((zi 0) = ((0 : Nat) : Int))) (.no (decide ((zi 1) = ((0 : Nat) : Int))) (.yes (decide ((zi 1) = ((1 : Nat) : Int))) (.no (decide ((zi 2) = ((0 : Nat) : Int))) (.no (decide ((zi 2) = ((1 : Nat) : Int))) (.yes (decide ((zi 2) = ((2 : Nat) : Int))) (rx VH (.inl (QI.mk a.x7 true (QA.mk a.h1_0 (cu Qj a.x8 a.x11) a.h1_2)))))))))))) (.yes (decide ((zi 0) = ((0 : Nat) : Int))) (noN 4 u88 (.as (eqS a.h1_0 a.x1) (.yes (decide ((zi 0) = ((0 : Nat) : Int))) (.no (decide ((zi 1) = ((0 : Nat) : Int))) (.yes (decide ((zi 1) = ((1 : Nat) : Int))) (.no (decide ((zi 2) = ((0 : Nat) : Int))) (.no (decide ((zi 2) = ((1 : Nat) : Int))) (.yes (decide ((zi 2) = ((2 : Nat) : Int))) (rx VH (.inl (QI.mk a.x7 true (QA.mk a.h1_0 (cu Qj a.x8 a.x11) a.h1_2)))))))))) (lf Vc (Qt.mk a.x0 a.x1 (w64 (a.x7 + 1)) (w64 (a.x11 + 1)) (zi 0) (w64 (a.x11 + 1)) a.h0 a.h1_0 (cu Qj a.x8 a.x11) a.h1_2)))))) (lf Vc (Qt.mk a.x0 a.x1 a.x7 (w64 (a.x11 + 1)) (w64 (a.x10 + 1)) (w64 (a.x11 + 1)) a.h0 a.h1_0 (cu Qj a.x8 a.x11) a.h1_2)))) (.ask (decide (a.x10 = ((2 : Nat) : Int))) (decide (a.x10 = 2)) (.yes u91 (.as ((gb Qj a.x11) == 124) (let u89 := (a.x7 == a.x0); .as u89 (yesN 4 u89 (.yes true (.yes (decide ((zi 0) = ((0 : Nat) : Int))) (.no (decide ((zi 1) = ((0 : Nat) : Int))) (.yes (decide ((zi 1) = ((1 : Nat) : Int))) (.no (decide ((zi 2) = ((0 : Nat) : Int))) (.no (decide ((zi 2) = ((1 : Nat) : Int))) (.yes (decide ((zi 2) = ((2 : Nat) : Int))) (rx VH (.inl (QI.mk a.x7 true (QA.mk a.h1_0 a.h1_1 (cu Qj a.x8 a.x11))))))))))))) (.yes (decide ((zi 0) = ((0 : Nat) : Int))) (noN 4 u89 (.as (eqS a.h1_0 a.x1) (.yes (decide ((zi 0) = ((0 : Nat) : Int))) (.no (decide ((zi 1) = ((0 : Nat) : Int))) (.yes (decide ((zi 1) = ((1 : Nat) : Int))) (.no (decide ((zi 2) = ((0 : Nat) : Int))) (.no (decide ((zi 2) = ((1 : Nat) : Int))) (.yes (decide ((zi 2) = ((2 : Nat) : Int))) (rx VH (.inl (QI.mk a.x7 true (QA.mk a.h1_0 a.h1_1 (cu Qj a.x8 a.x11))))))))))) (lf Vc (Qt.mk a.x0 a.x1 (w64 (a.x7 + 1)) (w64 (a.x11 + 1)) (zi 0) (w64 (a.x11 + 1)) a.h0 a.h1_0 a.h1_1 (cu Qj a.x8 a.x11))))))) (lf Vc (Qt.mk a.x0 a.x1 a.x7 (w64 (a.x11 + 1)) (w64 (a.x10 + 1)) (w64 (a.x11 + 1)) a.h0 a.h1_0 a.h1_1 (cu Qj a.x8 a.x11))))) .fail))) .fail)))) .fail) (rx VH (.inr a.h0)))
theorem QmZ (w : Cf)  (a : Qt) : (Qcm pp w  a).norm (roundT pp G.kd w 0 (G.an 58) (loopAt pp 58 5) (Vc a)) = Qcm pp w  a := by kernel_rfl
theorem Qm0 (P : Pg) (w : Cf) (lp : Lo)   (a : Qt) : (Qcm P w  a).ok lp (Sum.elim (fun a => (.norm, Vc a)) VH) := ⟨rfl, fun hq0 => ⟨rfl, fun hq1 => ⟨rfl, fun hq2 => ⟨hq2, ⟨hq1, yesN_ok 2 (hq2) (⟨rfl, fun hq3 => rfl, fun hq3 => ⟨rfl, fun hq4 => ⟨rfl, fun hq5 => ⟨hq1, ⟨rfl, fun hq6 => ⟨rfl, fun hq7 => yesN_ok 4 (hq7) (⟨rfl, ⟨rfl, ⟨rfl, ⟨rfl, ⟨rfl, ⟨rfl, ⟨rfl, rfl⟩⟩⟩⟩⟩⟩⟩), fun hq7 => ⟨rfl, noN_ok 4 (hq7) (⟨rfl, fun hq8 => ⟨rfl, ⟨rfl, ⟨rfl, ⟨rfl, ⟨rfl, ⟨rfl, rfl⟩⟩⟩⟩⟩⟩, fun hq8 => rfl⟩)⟩⟩, fun hq6 => rfl⟩⟩, fun hq5 => ⟨rfl, fun hq6 => ⟨hq1, ⟨rfl, fun hq7 => ⟨rfl, fun hq8 => yesN_ok 4 (hq8) (⟨rfl, ⟨rfl, ⟨rfl, ⟨rfl, ⟨rfl, ⟨rfl, ⟨rfl, rfl⟩⟩⟩⟩⟩⟩⟩), fun hq8 => ⟨rfl, noN_ok 4 (hq8) (⟨rfl, fun hq9 => ⟨rfl, ⟨rfl, ⟨rfl, ⟨rfl, ⟨rfl, ⟨rfl, rfl⟩⟩⟩⟩⟩⟩, fun hq9 => rfl⟩)⟩⟩, fun hq7 => rfl⟩⟩, fun hq6 => ⟨rfl, fun hq7 => ⟨hq1, ⟨rfl, fun hq8 => ⟨rfl, fun hq9 => yesN_ok 4 (hq9) (⟨rfl, ⟨rfl, ⟨rfl, ⟨rfl, ⟨rfl, ⟨rfl, ⟨rfl, rfl⟩⟩⟩⟩⟩⟩⟩), fun hq9 => ⟨rfl, noN_ok 4 (hq9) (⟨rfl, fun hq10 => ⟨rfl, ⟨rfl, ⟨rfl, ⟨rfl, ⟨rfl, ⟨rfl, rfl⟩⟩⟩⟩⟩⟩, fun hq10 => rfl⟩)⟩⟩, fun hq8 => rfl⟩⟩, fun hq7 => trivial⟩⟩⟩, fun hq4 => trivial⟩⟩)⟩⟩, fun hq2 => noN_ok 3 (hq2) (⟨rfl, ⟨rfl, fun hq3 => ⟨rfl, fun hq4 => ⟨hq1, ⟨rfl, fun hq5 => ⟨rfl, fun hq6 => yesN_ok 4 (hq6) (⟨rfl, ⟨rfl, ⟨rfl, ⟨rfl, ⟨rfl, ⟨rfl, ⟨rfl, rfl⟩⟩⟩⟩⟩⟩⟩), fun hq6 => ⟨rfl, noN_ok 4 (hq6) (⟨rfl, fun hq7 => ⟨rfl, ⟨rfl, ⟨rfl, ⟨rfl, ⟨rfl, ⟨rfl, rfl⟩⟩⟩⟩⟩⟩, fun hq7 => rfl⟩)⟩⟩, fun hq5 => rfl⟩⟩, fun hq4 => ⟨rfl, fun hq5 => ⟨hq1, ⟨rfl, fun hq6 => ⟨rfl, fun hq7 => yesN_ok 4 (hq7) (⟨rfl, ⟨rfl, ⟨rfl, ⟨rfl, ⟨rfl, ⟨rfl, ⟨rfl, rfl⟩⟩⟩⟩⟩⟩⟩), fun hq7 => ⟨rfl, noN_ok 4 (hq7) (⟨rfl, fun hq8 => ⟨rfl, ⟨rfl, ⟨rfl, ⟨rfl, ⟨rfl, ⟨rfl, rfl⟩⟩⟩⟩⟩⟩, fun hq8 => rfl⟩)⟩⟩, fun hq6 => rfl⟩⟩, fun hq5 => ⟨rfl, fun hq6 => ⟨hq1, ⟨rfl, fun hq7 => ⟨rfl, fun hq8 => yesN_ok 4 (hq8) (⟨rfl, ⟨rfl, ⟨rfl, ⟨rfl, ⟨rfl, ⟨rfl, ⟨rfl, rfl⟩⟩⟩⟩⟩⟩⟩), fun hq8 => ⟨rfl, noN_ok 4 (hq8) (⟨rfl, fun hq9 => ⟨rfl, ⟨rfl, ⟨rfl, ⟨rfl, ⟨rfl, ⟨rfl, rfl⟩⟩⟩⟩⟩⟩, fun hq9 => rfl⟩)⟩⟩, fun hq7 => rfl⟩⟩, fun hq6 => trivial⟩⟩⟩, fun hq3 => trivial⟩⟩)⟩, fun hq1 => trivial⟩, fun hq0 => rfl⟩
def UP.s (k : Nat)  : Qt → Option (QI ⊕ QA) := iter (Po ) k
theorem Ql2 (w : Cf) (k : Nat)   (a : Qt) (r : (QI ⊕ QA)) (h : UP.s k  a = some r) : loopsF pp G.kd w 0 (G.an 58) k (loopAt pp 58 5) (Vc a) = some (VH r) :=
  loop_ok (fun a => Qcm pp w  a) (fun _ => rfl) (fun a => QmZ w  a) (fun a => Qm0 _ w _   a) (fun r => by cases r <;> nofun) h
noncomputable def UP.w  : Qt → Option (QI ⊕ QA) := loopW (Po )
theorem UP.cv    (a : Qt) : Cv (fun k => UP.s k  a) (UP.w  a) := Cv.iter (fun a => by exact .const _) a
def SW (L0 : FR) (a0 : Int) (a1 : ByteArray) : Option (QA × Int × Bool) := ((L0 (Qt.mk a0 a1 (0 : Int) (0 : Int) (0 : Int) (0 : Int) (QA.mk s_ s_ s_) s_ s_ s_)).bind fun x => Sum.elim (fun (o1 : QI) => (some (o1.h0, o1.x5, o1.x6))) (fun (o2 : QA) => (some ((QA.mk s_ s_ s_), (0 : Int), false))) x)
def QfJ (P : Pg) (w : Cf) (L0 : FR) (a0 : Int) (a1 : ByteArray) : Tr (QA × Int × Bool) AH := (.loop2 (loopAt P 58 5) (Vc (Qt.mk a0 a1 (zi 0) (zi 0) (zi 0) (zi 0) (QA.mk s_ s_ s_) s_ s_ s_)) (L0 (Qt.mk a0 a1 (zi 0) (zi 0) (zi 0) (zi 0) (QA.mk s_ s_ s_) s_ s_ s_)) QhO QhP (fun (o1 : QI) => (rt Qbv (o1.h0, o1.x5, o1.x6))) (fun (o2 : QA) => (rt Qbv ((QA.mk s_ s_ s_), (zi 0), false))))
theorem Qo2 (w : Cf) (L0 : FR) (a0 : Int) (a1 : ByteArray) : (QfJ pp w L0 a0 a1).norm (bodyT pp w G 58 (QfI a0 a1).1 (QfI a0 a1).2) = QfJ pp w L0 a0 a1 := by kernel_rfl
theorem Qo3 (P : Pg) (w : Cf) (lp : Lo) (L0 : FR) (N0 : QnS P lp L0) (a0 : Int) (a1 : ByteArray) : (QfJ P w L0 a0 a1).ok lp Qbv := ⟨fun o1 ho1 => ⟨N0 _ (.inl _) ho1, rfl⟩, fun o2 ho2 => ⟨N0 _ (.inr _) ho2, rfl⟩⟩
theorem Qo4 {L0 : Nat → FR} {M0 : FR} (N0 : Cv1 L0 M0) (a0 : Int) (a1 : ByteArray) : Cv (fun k => SW (L0 k) a0 a1) (SW M0 a0 a1) := by
  unfold SW
  exact .bind (N0 _) fun x => .sum (fun o1 => by exact .const _) (fun o2 => by exact .const _) x
def WU.s : Nat → Int → ByteArray → Option (QA × Int × Bool)
  | 0, _, _ => none
  | k + 1, a0, a1 => SW (UP.s k) a0 a1
theorem WU.ok : ∀ (k : Nat), Qj1 (ev k) (WU.s k)
  | 0, _, _, _, h => (nomatch h)
  | k + 1, a0, a1, r, h => fn_ok rfl (QfJ pp (ev k) (UP.s k) a0 a1) (Qo2 _ _ a0 a1) (Qo3 _ _ _ _  (Ql2 _ k) a0 a1) h
noncomputable def UP : Qt → Option (QI ⊕ QA) := UP.w 
theorem UP.eq (a : Qt) : UP a = (Po  a).bind (Sum.elim UP some) := loopW_eq _ _
noncomputable def WU (a0 : Int) (a1 : ByteArray) : Option (QA × Int × Bool) := SW UP a0 a1
theorem WU.cv (a0 : Int) (a1 : ByteArray) : Cv (fun k => WU.s k a0 a1) (WU a0 a1) := .un rfl (Qo4 (UP.cv) a0 a1)
theorem WU.eq (a0 : Int) (a1 : ByteArray) : WU a0 a1 = SW UP a0 a1 := rfl
def Qey (r : ByteArray) : AV × Heap := (xs r, [])
abbrev SX := Int → Option ByteArray
abbrev Qez (a0 : Int) : List AV × Heap := ([xi a0], [])
abbrev QkO (w : Cf) (a0 : Int) : Option AH := w 37 (Qez a0).1 (Qez a0).2
abbrev QlF (w : Cf) (c : SX) : Prop := ∀ (a0 : Int) (r : ByteArray), c a0 = some r → QkO w a0 = some (Qey r)
def PJ (C0 : ZZ) (a0 : Int) : Option ByteArray := ((C0 a0 h_20).bind fun r1 => (some r1.1.Kinds))
def QeA (P : Pg) (w : Cf) (C0 : ZZ) (a0 : Int) : Tr ByteArray AH := (.call (Qjc w a0 h_20) (C0 a0 h_20) Qbv fun r1 => (rt Qey r1.1.Kinds))
theorem Qot (w : Cf) (C0 : ZZ) (a0 : Int) : (QeA pp w C0 a0).norm (bodyT pp w G 37 (Qez a0).1 (Qez a0).2) = QeA pp w C0 a0 := by kernel_rfl
theorem Qou (P : Pg) (w : Cf) (lp : Lo) (C0 : ZZ) (K0 : Qj1 w C0) (a0 : Int) : (QeA P w C0 a0).ok lp Qey := fun r1 hr1 => ⟨K0 _ _ _ hr1, rfl⟩
theorem Qov {C0 : Nat → ZZ} {D0 : ZZ} (H0 : Cv2 C0 D0) (a0 : Int) : Cv (fun k => PJ (C0 k) a0) (PJ D0 a0) := by
  unfold PJ
  exact .bind (H0 _ _) fun r1 => by exact .const _
def XQ.s : Nat → Int → Option ByteArray
  | 0, _ => none
  | k + 1, a0 => PJ (WU.s k) a0
theorem XQ.ok : ∀ (k : Nat), QlF (ev k) (XQ.s k)
  | 0, _, _, h => (nomatch h)
  | k + 1, a0, r, h => fn_ok rfl (QeA pp (ev k) (WU.s k) a0) (Qot _ _ a0) (Qou _ _ _ _ (WU.ok k)  a0) h
noncomputable def XQ (a0 : Int) : Option ByteArray := PJ WU a0
theorem XQ.cv (a0 : Int) : Cv (fun k => XQ.s k a0) (XQ a0) := .un rfl (Qov WU.cv a0)
theorem XQ.eq (a0 : Int) : XQ a0 = PJ WU a0 := rfl
def QeB (r : (List ByteArray)) : AV × Heap := (.sl (Qh r), [])
abbrev SY := ByteArray → Option (List ByteArray)
abbrev QeC (a0 : ByteArray) : List AV × Heap := ([xs a0], [])
abbrev QkP (w : Cf) (a0 : ByteArray) : Option AH := w 36 (QeC a0).1 (QeC a0).2
abbrev QlG (w : Cf) (c : SY) : Prop := ∀ (a0 : ByteArray) (r : (List ByteArray)), c a0 = some r → QkP w a0 = some (QeB r)
structure Jq where
  x0 : ByteArray
  x4 : Int
  x5 : Int
  r0 : (List ByteArray)
def X6 (a : Jq) : St := { n := 35, nx := 1, env := [(0, xs a.x0), (3, .arr 0), (4, xi a.x4), (5, xi a.x5)], heap := [(0, .arr true 1 (Qh a.r0))] }
def P5 (a : (List ByteArray)) : Ex × St := (.exit 0, { n := 35, nx := 1, env := [(3, .arr 0)], heap := [(0, .arr true 1 (Qh a))] })
abbrev EB := Jq → Option (List ByteArray)
abbrev Qm1 (P : Pg) (lp : Lo) (l : EB) : Prop := ∀ (a : Jq) (r : (List ByteArray)), l a = some r → lp (loopAt P 36 4) (X6 a) = some (P5 r)
def QhQ  (a : Jq) : Option (Jq ⊕ (List ByteArray)) := (bif (decide (a.x5 ≤ ((a.x0.size : Nat) : Int))) then (bif (a.x5 == ((a.x0.size : Nat) : Int)) then (bif (decide (a.x5 > a.x4)) then (bif (decide (0 ≤ a.x4 ∧ a.x4 ≤ a.x5 ∧ a.x5 ≤ ((a.x0.size : Nat) : Int))) then (bif (decide ((a.r0.length + [(a.x0.extract (Int.toNat a.x4) (Int.toNat a.x5))].length) * 16 ≤ most)) then (some (.inl (Jq.mk a.x0 (w64 (a.x5 + 1)) (w64 (a.x5 + 1)) (a.r0 ++ [(a.x0.extract (Int.toNat a.x4) (Int.toNat a.x5))])))) else none) else none) else (some (.inl (Jq.mk a.x0 (w64 (a.x5 + 1)) (w64 (a.x5 + 1)) a.r0)))) else (bif (decide (0 ≤ a.x5 ∧ a.x5 < ((a.x0.size : Nat) : Int))) then (bif (((a.x0.data.getD (Int.toNat a.x5) 0).toNat : Int) == 32) then (bif (decide (a.x5 > a.x4)) then (bif (decide (0 ≤ a.x4 ∧ a.x4 ≤ a.x5 ∧ a.x5 ≤ ((a.x0.size : Nat) : Int))) then (bif (decide ((a.r0.length + [(a.x0.extract (Int.toNat a.x4) (Int.toNat a.x5))].length) * 16 ≤ most)) then (some (.inl (Jq.mk a.x0 (w64 (a.x5 + 1)) (w64 (a.x5 + 1)) (a.r0 ++ [(a.x0.extract (Int.toNat a.x4) (Int.toNat a.x5))])))) else none) else none) else (some (.inl (Jq.mk a.x0 (w64 (a.x5 + 1)) (w64 (a.x5 + 1)) a.r0)))) else (some (.inl (Jq.mk a.x0 a.x4 (w64 (a.x5 + 1)) a.r0)))) else none)) else (some (.inr a.r0)))
def Qa7 (P : Pg) (w : Cf)  (a : Jq) : Tr (Jq ⊕ (List ByteArray)) XS := (.as (decide (a.x5 ≤ (zz a.x0))) (let u92 := (a.x5 == (zz a.x0)); .as u92 (yesN 4 u92 (.yes true (.as (decide (a.x5 > a.x4)) (.as (in2 a.x4 a.x5 (zz a.x0)) (.rows [[xs (cu a.x0 a.x4 a.x5)]] (Qh [(cu a.x0 a.x4 a.x5)]) (.yes (decide ((Qh [(cu a.x0 a.x4 a.x5)]).all (fun r => r.length == 1) = true)) (.ask (decide (((Qh a.r0).length + (Qh [(cu a.x0 a.x4 a.x5)]).length) * 16 ≤ most)) (decide ((a.r0.length + [(cu a.x0 a.x4 a.x5)].length) * 16 ≤ most)) (.rows ((Qh a.r0) ++ (Qh [(cu a.x0 a.x4 a.x5)])) (Qh (a.r0 ++ [(cu a.x0 a.x4 a.x5)])) (lf X6 (Jq.mk a.x0 (w64 (a.x5 + 1)) (w64 (a.x5 + 1)) (a.r0 ++ [(cu a.x0 a.x4 a.x5)])))) .fail))) .fail) (lf X6 (Jq.mk a.x0 (w64 (a.x5 + 1)) (w64 (a.x5 + 1)) a.r0))))) (noN 2 u92 (.as (in1 a.x5 (zz a.x0)) (noN 2 u92 (.as ((gb a.x0 a.x5) == 32) (.as (decide (a.x5 > a.x4)) (.as (in2 a.x4 a.x5 (zz a.x0)) (.rows [[xs (cu a.x0 a.x4 a.x5)]] (Qh [(cu a.x0 a.x4 a.x5)]) (.yes (decide ((Qh [(cu a.x0 a.x4 a.x5)]).all (fun r => r.length == 1) = true)) (.ask (decide (((Qh a.r0).length + (Qh [(cu a.x0 a.x4 a.x5)]).length) * 16 ≤ most)) (decide ((a.r0.length + [(cu a.x0 a.x4 a.x5)].length) * 16 ≤ most)) (.rows ((Qh a.r0) ++ (Qh [(cu a.x0 a.x4 a.x5)])) (Qh (a.r0 ++ [(cu a.x0 a.x4 a.x5)])) (lf X6 (Jq.mk a.x0 (w64 (a.x5 + 1)) (w64 (a.x5 + 1)) (a.r0 ++ [(cu a.x0 a.x4 a.x5)])))) .fail))) .fail) (lf X6 (Jq.mk a.x0 (w64 (a.x5 + 1)) (w64 (a.x5 + 1)) a.r0))) (lf X6 (Jq.mk a.x0 a.x4 (w64 (a.x5 + 1)) a.r0)))) .fail))) (rx P5 a.r0))
theorem Ql3 (w : Cf)  (a : Jq) : (Qa7 pp w  a).norm (roundT pp G.kd w 0 (G.an 36) (loopAt pp 36 4) (X6 a)) = Qa7 pp w  a := by kernel_rfl
theorem Ql4 (P : Pg) (w : Cf) (lp : Lo)   (a : Jq) : (Qa7 P w  a).ok lp (Sum.elim (fun a => (.norm, X6 a)) P5) := ⟨rfl, fun hq0 => ⟨rfl, fun hq1 => yesN_ok 4 (hq1) (⟨rfl, ⟨rfl, fun hq2 => ⟨rfl, fun hq3 => ⟨(Un [(a.x0.extract (Int.toNat a.x4) (Int.toNat a.x5))]), ⟨(decide_eq_true (Y8 _)), ⟨(by rw [Qr, Qr]), fun hq4 => ⟨(Yt _ _), rfl⟩, fun hq4 => trivial⟩⟩⟩, fun hq3 => trivial⟩, fun hq2 => rfl⟩⟩), fun hq1 => noN_ok 2 (hq1) (⟨rfl, fun hq2 => noN_ok 2 (hq1) (⟨rfl, fun hq3 => ⟨rfl, fun hq4 => ⟨rfl, fun hq5 => ⟨(Un [(a.x0.extract (Int.toNat a.x4) (Int.toNat a.x5))]), ⟨(decide_eq_true (Y8 _)), ⟨(by rw [Qr, Qr]), fun hq6 => ⟨(Yt _ _), rfl⟩, fun hq6 => trivial⟩⟩⟩, fun hq5 => trivial⟩, fun hq4 => rfl⟩, fun hq3 => rfl⟩), fun hq2 => trivial⟩)⟩, fun hq0 => rfl⟩
def YE.s (k : Nat)  : Jq → Option (List ByteArray) := iter (QhQ ) k
theorem Qlt (w : Cf) (k : Nat)   (a : Jq) (r : (List ByteArray)) (h : YE.s k  a = some r) : loopsF pp G.kd w 0 (G.an 36) k (loopAt pp 36 4) (X6 a) = some (P5 r) :=
  loop_ok (fun a => Qa7 pp w  a) (fun _ => rfl) (fun a => Ql3 w  a) (fun a => Ql4 _ w _   a) (fun r => nofun) h
noncomputable def YE.w  : Jq → Option (List ByteArray) := loopW (QhQ )
theorem YE.cv    (a : Jq) : Cv (fun k => YE.s k  a) (YE.w  a) := Cv.iter (fun a => by exact .const _) a
def Qcn (L0 : EB) (a0 : ByteArray) : Option (List ByteArray) := ((L0 (Jq.mk a0 (0 : Int) (0 : Int) ([] : List ByteArray))).bind (fun (o1 : (List ByteArray)) => (some o1)))
def QeD (P : Pg) (w : Cf) (L0 : EB) (a0 : ByteArray) : Tr (List ByteArray) AH := (.loop (loopAt P 36 4) (X6 (Jq.mk a0 (zi 0) (zi 0) ([] : List ByteArray))) (L0 (Jq.mk a0 (zi 0) (zi 0) ([] : List ByteArray))) P5 (fun (o1 : (List ByteArray)) => (rt QeB o1)))
theorem Qow (w : Cf) (L0 : EB) (a0 : ByteArray) : (QeD pp w L0 a0).norm (bodyT pp w G 36 (QeC a0).1 (QeC a0).2) = QeD pp w L0 a0 := by kernel_rfl
theorem Qox (P : Pg) (w : Cf) (lp : Lo) (L0 : EB) (N0 : Qm1 P lp L0) (a0 : ByteArray) : (QeD P w L0 a0).ok lp QeB := fun o1 ho1 => ⟨N0 _ _ ho1, rfl⟩
theorem Qoy {L0 : Nat → EB} {M0 : EB} (N0 : Cv1 L0 M0) (a0 : ByteArray) : Cv (fun k => Qcn (L0 k) a0) (Qcn M0 a0) := by
  unfold Qcn
  exact .bind (N0 _) (fun o1 => by exact .const _)
def Yp.s : Nat → ByteArray → Option (List ByteArray)
  | 0, _ => none
  | k + 1, a0 => Qcn (YE.s k) a0
theorem Yp.ok : ∀ (k : Nat), QlG (ev k) (Yp.s k)
  | 0, _, _, h => (nomatch h)
  | k + 1, a0, r, h => fn_ok rfl (QeD pp (ev k) (YE.s k) a0) (Qow _ _ a0) (Qox _ _ _ _  (Qlt _ k) a0) h
noncomputable def YE : Jq → Option (List ByteArray) := YE.w 
noncomputable def Yp (a0 : ByteArray) : Option (List ByteArray) := Qcn YE a0
theorem Yp.cv (a0 : ByteArray) : Cv (fun k => Yp.s k a0) (Yp a0) := .un rfl (Qoy (YE.cv) a0)
def P6 (r : Bool) : AV × Heap := (xo r, [])
abbrev W8 := ByteArray → Option Bool
abbrev Qa8 (a0 : ByteArray) : List AV × Heap := ([xs a0], [])
abbrev QhR (w : Cf) (a0 : ByteArray) : Option AH := w 39 (Qa8 a0).1 (Qa8 a0).2
abbrev Qfg (w : Cf) (c : W8) : Prop := ∀ (a0 : ByteArray) (r : Bool), c a0 = some r → QhR w a0 = some (P6 r)
structure J0 where
  x0 : ByteArray
  x3 : Int
def Z0 (a : J0) : St := { n := 28, nx := 0, env := [(0, xs a.x0), (3, xi a.x3)], heap := [] }
def Qee (a : Bool) : Ex × St := (.ret, { n := 28, nx := 0, env := [(2, xo a)], heap := [] })
def Qef (a : Unit) : Ex × St := (.exit 0, { n := 28, nx := 0, env := [], heap := [] })
def Z1 (a : (Bool ⊕ Unit)) : Ex × St := Sum.elim Qee Qef a
abbrev Zg := J0 → Option (Bool ⊕ Unit)
abbrev QkQ (P : Pg) (lp : Lo) (l : Zg) : Prop := ∀ (a : J0) (r : (Bool ⊕ Unit)), l a = some r → lp (loopAt P 39 2) (Z0 a) = some (Z1 r)
def Qfh  (a : J0) : Option (J0 ⊕ (Bool ⊕ Unit)) := (bif (decide ((w64 ((w64 (a.x3 + ((a.x0.size : Nat) : Int))) + 2)) ≤ 11)) then (bif (decide (((a.x0.size : Nat) : Int) > 0)) then (bif (decide (0 ≤ a.x3 ∧ a.x3 ≤ (w64 ((w64 (a.x3 + ((a.x0.size : Nat) : Int))) + 2)) ∧ (w64 ((w64 (a.x3 + ((a.x0.size : Nat) : Int))) + 2)) ≤ ((UV.size : Nat) : Int))) then (bif (decide (((h_20.size + a.x0.size : Nat) : Int) ≤ IntKind.i64.max)) then (bif (decide ((((h_20 ++ a.x0).size + h_20.size : Nat) : Int) ≤ IntKind.i64.max)) then (bif (eqS (UV.extract (Int.toNat a.x3) (Int.toNat (w64 ((w64 (a.x3 + ((a.x0.size : Nat) : Int))) + 2)))) ((h_20 ++ a.x0) ++ h_20)) then (some (.inr (.inl true))) else (some (.inl (J0.mk a.x0 (w64 (a.x3 + 1)))))) else none) else none) else none) else (some (.inr (.inr ())))) else (some (.inr (.inr ()))))
def PK (P : Pg) (w : Cf)  (a : J0) : Tr (J0 ⊕ (Bool ⊕ Unit)) XS := (let u93 := (decide ((w64 ((w64 (a.x3 + (zz a.x0))) + 2)) ≤ 11)); .as u93 (yesN 3 u93 (.as (decide ((zz a.x0) > 0)) (.as (in2 a.x3 (w64 ((w64 (a.x3 + (zz a.x0))) + 2)) (zz UV)) (.as (decide (((h_20.size + a.x0.size : Nat) : Int) ≤ IntKind.i64.max)) (.as (decide ((((h_20 ++ a.x0).size + h_20.size : Nat) : Int) ≤ IntKind.i64.max)) (.as (eqS (cu UV a.x3 (w64 ((w64 (a.x3 + (zz a.x0))) + 2))) ((h_20 ++ a.x0) ++ h_20)) (rx Z1 (.inl true)) (lf Z0 (J0.mk a.x0 (w64 (a.x3 + 1))))) .fail) .fail) .fail) (rx Z1 (.inr ())))) (noN 3 u93 (.no false (rx Z1 (.inr ())))))
theorem Qj2 (w : Cf)  (a : J0) : (PK pp w  a).norm (roundT pp G.kd w 0 (G.an 39) (loopAt pp 39 2) (Z0 a)) = PK pp w  a := by kernel_rfl
theorem Qj3 (P : Pg) (w : Cf) (lp : Lo)   (a : J0) : (PK P w  a).ok lp (Sum.elim (fun a => (.norm, Z0 a)) Z1) := ⟨rfl, fun hq0 => yesN_ok 3 (hq0) (⟨rfl, fun hq1 => ⟨rfl, fun hq2 => ⟨rfl, fun hq3 => ⟨rfl, fun hq4 => ⟨rfl, fun hq5 => rfl, fun hq5 => rfl⟩, fun hq4 => trivial⟩, fun hq3 => trivial⟩, fun hq2 => trivial⟩, fun hq1 => rfl⟩), fun hq0 => noN_ok 3 (hq0) (⟨rfl, rfl⟩)⟩
def WK.s (k : Nat)  : J0 → Option (Bool ⊕ Unit) := iter (Qfh ) k
theorem QjH (w : Cf) (k : Nat)   (a : J0) (r : (Bool ⊕ Unit)) (h : WK.s k  a = some r) : loopsF pp G.kd w 0 (G.an 39) k (loopAt pp 39 2) (Z0 a) = some (Z1 r) :=
  loop_ok (fun a => PK pp w  a) (fun _ => rfl) (fun a => Qj2 w  a) (fun a => Qj3 _ w _   a) (fun r => by cases r <;> nofun) h
noncomputable def WK.w  : J0 → Option (Bool ⊕ Unit) := loopW (Qfh )
theorem WK.cv    (a : J0) : Cv (fun k => WK.s k  a) (WK.w  a) := Cv.iter (fun a => by exact .const _) a
def P7 (L0 : Zg) (a0 : ByteArray) : Option Bool := ((L0 (J0.mk a0 (0 : Int))).bind fun x => Sum.elim (fun (o1 : Bool) => (some o1)) (fun (o2 : Unit) => (some false)) x)
def Qa9 (P : Pg) (w : Cf) (L0 : Zg) (a0 : ByteArray) : Tr Bool AH := (.loop2 (loopAt P 39 2) (Z0 (J0.mk a0 (zi 0))) (L0 (J0.mk a0 (zi 0))) Qee Qef (fun (o1 : Bool) => (rt P6 o1)) (fun (o2 : Unit) => (rt P6 false)))
theorem Ql5 (w : Cf) (L0 : Zg) (a0 : ByteArray) : (Qa9 pp w L0 a0).norm (bodyT pp w G 39 (Qa8 a0).1 (Qa8 a0).2) = Qa9 pp w L0 a0 := by kernel_rfl
theorem Ql6 (P : Pg) (w : Cf) (lp : Lo) (L0 : Zg) (N0 : QkQ P lp L0) (a0 : ByteArray) : (Qa9 P w L0 a0).ok lp P6 := ⟨fun o1 ho1 => ⟨N0 _ (.inl _) ho1, rfl⟩, fun o2 ho2 => ⟨N0 _ (.inr _) ho2, rfl⟩⟩
theorem Ql7 {L0 : Nat → Zg} {M0 : Zg} (N0 : Cv1 L0 M0) (a0 : ByteArray) : Cv (fun k => P7 (L0 k) a0) (P7 M0 a0) := by
  unfold P7
  exact .bind (N0 _) fun x => .sum (fun o1 => by exact .const _) (fun o2 => by exact .const _) x
def U4.s : Nat → ByteArray → Option Bool
  | 0, _ => none
  | k + 1, a0 => P7 (WK.s k) a0
theorem U4.ok : ∀ (k : Nat), Qfg (ev k) (U4.s k)
  | 0, _, _, h => (nomatch h)
  | k + 1, a0, r, h => fn_ok rfl (Qa9 pp (ev k) (WK.s k) a0) (Ql5 _ _ a0) (Ql6 _ _ _ _  (QjH _ k) a0) h
noncomputable def WK : J0 → Option (Bool ⊕ Unit) := WK.w 
noncomputable def U4 (a0 : ByteArray) : Option Bool := P7 WK a0
theorem U4.cv (a0 : ByteArray) : Cv (fun k => U4.s k a0) (U4 a0) := .un rfl (Ql7 (WK.cv) a0)
def Y7 (r : ByteArray) : AV × Heap := (xs r, [])
abbrev V0 := Int → Option ByteArray
abbrev Qdq (a0 : Int) : List AV × Heap := ([xi a0], [])
abbrev Sd (w : Cf) (a0 : Int) : Option AH := w 40 (Qdq a0).1 (Qdq a0).2
abbrev Qco (w : Cf) (c : V0) : Prop := ∀ (a0 : Int) (r : ByteArray), c a0 = some r → Sd w a0 = some (Y7 r)
def Qdr (C0 : V0) (a0 : Int) : Option ByteArray := (bif (decide (a0 < 0)) then ((C0 (w64 ((0 : Int) - a0))).bind fun r1 => (bif (decide (((h_2d.size + r1.size : Nat) : Int) ≤ IntKind.i64.max)) then (some (h_2d ++ r1)) else none)) else (bif (decide (a0 ≥ 10)) then ((C0 (w64 (Int.tdiv a0 (10 : Int)))).bind fun r2 => ((C0 (Int.tmod a0 (10 : Int))).bind fun r3 => (bif (decide (((r2.size + r3.size : Nat) : Int) ≤ IntKind.i64.max)) then (some (r2 ++ r3)) else none))) else ((some (listB [(IntKind.u8.wrap (w64 ((48 : Int) + a0)))])).bind fun e4 => (some (⟨e4.toArray⟩ : ByteArray)))))
def Qds (P : Pg) (w : Cf) (C0 : V0) (a0 : Int) : Tr ByteArray AH := (.as (decide (a0 < 0)) (.call (Sd w (w64 ((zi 0) - a0))) (C0 (w64 ((zi 0) - a0))) Y7 fun r1 => (.as (decide (((h_2d.size + r1.size : Nat) : Int) ≤ IntKind.i64.max)) (rt Y7 (h_2d ++ r1)) .fail)) (.as (decide (a0 ≥ 10)) (.yes (decide ((zi 10) ≠ 0)) (.call (Sd w (w64 (Int.tdiv a0 (zi 10)))) (C0 (w64 (Int.tdiv a0 (zi 10)))) Y7 fun r2 => (.yes (decide ((zi 10) ≠ 0)) (.call (Sd w (Int.tmod a0 (zi 10))) (C0 (Int.tmod a0 (zi 10))) Y7 fun r3 => (.as (decide (((r2.size + r3.size : Nat) : Int) ≤ IntKind.i64.max)) (rt Y7 (r2 ++ r3)) .fail))))) (.rows [[xb (IntKind.u8.wrap (w64 ((zi 48) + a0)))]] (R_u8 [(IntKind.u8.wrap (w64 ((zi 48) + a0)))]) (.byt (bytesOfRows (R_u8 [(IntKind.u8.wrap (w64 ((zi 48) + a0)))])) (some (listB [(IntKind.u8.wrap (w64 ((zi 48) + a0)))])) fun (e4 : List UInt8) => (rt Y7 (⟨e4.toArray⟩ : ByteArray))))))
theorem QnT (w : Cf) (C0 : V0) (a0 : Int) : (Qds pp w C0 a0).norm (bodyT pp w G 40 (Qdq a0).1 (Qdq a0).2) = Qds pp w C0 a0 := by kernel_rfl
theorem QnU (P : Pg) (w : Cf) (lp : Lo) (C0 : V0) (K0 : Qco w C0) (a0 : Int) : (Qds P w C0 a0).ok lp Y7 := ⟨rfl, fun hq0 => fun r1 hr1 => ⟨K0 _ _ hr1, ⟨rfl, fun hq1 => rfl, fun hq1 => trivial⟩⟩, fun hq0 => ⟨rfl, fun hq1 => ⟨rfl, fun r2 hr2 => ⟨K0 _ _ hr2, ⟨rfl, fun r3 hr3 => ⟨K0 _ _ hr3, ⟨rfl, fun hq2 => rfl, fun hq2 => trivial⟩⟩⟩⟩⟩, fun hq1 => ⟨(Qmq [(IntKind.u8.wrap (w64 ((48 : Int) + a0)))]), fun e4 he4 => ⟨(QlC _).trans he4, rfl⟩⟩⟩⟩
theorem QnV {C0 : Nat → V0} {D0 : V0} (H0 : Cv1 C0 D0) (a0 : Int) : Cv (fun k => Qdr (C0 k) a0) (Qdr D0 a0) := by
  unfold Qdr
  exact .cond (.bind (H0 _) fun r1 => by exact .const _) (.cond (.bind (H0 _) fun r2 => .bind (H0 _) fun r3 => by exact .const _) (by exact .const _))
def UB.s : Nat → Int → Option ByteArray
  | 0, _ => none
  | k + 1, a0 => Qdr (fun a0 => UB.s k a0) a0
termination_by structural k => k
theorem QhS : ∀ (k : Nat), Qco (ev k) (UB.s k)
  | 0 => fun _ _ h => (nomatch h)
  | k + 1 => by
    have i_r3_Digits := QhS k
    exact fun a0 r h => fn_ok rfl (Qds pp (ev k) (UB.s k) a0) (QnT _ _ a0) (QnU _ _ _ _ (i_r3_Digits)  a0) h
theorem UB.ok (k : Nat) : Qco (ev k) (UB.s k) := (QhS k)
theorem Qg4 : ∀ (k : Nat), (∀ (a0 : Int), Le (UB.s k a0) (UB.s (k + 1) a0))
  | 0 => fun _ _ h => (nomatch h)
  | k + 1 => by
    have i_r3_Digits := Qg4 k
    exact fun a0 => (QnV (tw1 (i_r3_Digits)) a0).1 0
theorem UB.mono (k : Nat) : ∀ (a0 : Int), Le (UB.s k a0) (UB.s (k + 1) a0) := (Qg4 k)
noncomputable def UB (a0 : Int) : Option ByteArray := lim fun k => UB.s k a0
theorem UB.cv (a0 : Int) : Cv (fun k => UB.s k a0) (UB a0) := .lim fun k => UB.mono k a0
def EC (r : Qd) : AV × Heap := (.tup [], [(0, .box [] (J1 r))])
abbrev Vy := Qd → Option Qd
abbrev PM (h0 : Qd) : List AV × Heap := ([.ptr 0 0], [(0, .box [] (J1 h0))])
abbrev Qbg (w : Cf) (h0 : Qd) : Option AH := w 160 (PM h0).1 (PM h0).2
abbrev Qcp (w : Cf) (c : Vy) : Prop := ∀ (h0 : Qd) (r : Qd), c h0 = some r → Qbg w h0 = some (EC r)
def Yy (a : Qd) : St := { n := 31, nx := 1, env := [(0, .ptr 0 0)], heap := [(0, .box [] (J1 a))] }
def Yz (a : Qd) : Ex × St := (.exit 0, { n := 31, nx := 1, env := [], heap := [(0, .box [] (J1 a))] })
abbrev XR := Qd → Option Qd
abbrev Qjd (P : Pg) (lp : Lo) (l : XR) : Prop := ∀ (a : Qd) (r : Qd), l a = some r → lp (loopAt P 160 0) (Yy a) = some (Yz r)
def ZK  (a : Qd) : Option (Qd ⊕ Qd) := (bif (decide (a.P < ((a.S.size : Nat) : Int))) then (bif (decide (0 ≤ a.P ∧ a.P < ((a.S.size : Nat) : Int))) then (bif (((a.S.data.getD (Int.toNat a.P) 0).toNat : Int) == 32) then (some (.inl (Qd.mk a.S (w64 (a.P + 1)) a.Deep a.Bad))) else (some (.inr a))) else none) else (some (.inr a)))
def E4 (P : Pg) (w : Cf)  (a : Qd) : Tr (Qd ⊕ Qd) XS := (let u94 := (decide (a.P < (zz a.S))); .as u94 (yesN 8 u94 (.as (in1 a.P (zz a.S)) (yesN 2 u94 (.as ((gb a.S a.P) == 32) (lf Yy (Qd.mk a.S (w64 (a.P + 1)) a.Deep a.Bad)) (rx Yz a))) .fail)) (noN 10 u94 (.no false (rx Yz a))))
theorem Qij (w : Cf)  (a : Qd) : (E4 pp w  a).norm (roundT pp G.kd w 1 (G.an 160) (loopAt pp 160 0) (Yy a)) = E4 pp w  a := by kernel_rfl
theorem Qik (P : Pg) (w : Cf) (lp : Lo)   (a : Qd) : (E4 P w  a).ok lp (Sum.elim (fun a => (.norm, Yy a)) Yz) := ⟨rfl, fun hq0 => yesN_ok 8 (hq0) (⟨rfl, fun hq1 => yesN_ok 2 (hq0) (⟨rfl, fun hq2 => rfl, fun hq2 => rfl⟩), fun hq1 => trivial⟩), fun hq0 => noN_ok 10 (hq0) (⟨rfl, rfl⟩)⟩
def JW.s (k : Nat)  : Qd → Option Qd := iter (ZK ) k
theorem Qhw (w : Cf) (k : Nat)   (a : Qd) (r : Qd) (h : JW.s k  a = some r) : loopsF pp G.kd w 1 (G.an 160) k (loopAt pp 160 0) (Yy a) = some (Yz r) :=
  loop_ok (fun a => E4 pp w  a) (fun _ => rfl) (fun a => Qij w  a) (fun a => Qik _ w _   a) (fun r => nofun) h
noncomputable def JW.w  : Qd → Option Qd := loopW (ZK )
theorem JW.cv    (a : Qd) : Cv (fun k => JW.s k  a) (JW.w  a) := Cv.iter (fun a => by exact .const _) a
def YL (L0 : XR) (h0 : Qd) : Option Qd := ((L0 h0).bind (fun (o1 : Qd) => (some o1)))
def PN (P : Pg) (w : Cf) (L0 : XR) (h0 : Qd) : Tr Qd AH := (.loop (loopAt P 160 0) (Yy h0) (L0 h0) Yz (fun (o1 : Qd) => (rt EC o1)))
theorem Qj4 (w : Cf) (L0 : XR) (h0 : Qd) : (PN pp w L0 h0).norm (bodyT pp w G 160 (PM h0).1 (PM h0).2) = PN pp w L0 h0 := by kernel_rfl
theorem Qj5 (P : Pg) (w : Cf) (lp : Lo) (L0 : XR) (N0 : Qjd P lp L0) (h0 : Qd) : (PN P w L0 h0).ok lp EC := fun o1 ho1 => ⟨N0 _ _ ho1, rfl⟩
theorem Qj6 {L0 : Nat → XR} {M0 : XR} (N0 : Cv1 L0 M0) (h0 : Qd) : Cv (fun k => YL (L0 k) h0) (YL M0 h0) := by
  unfold YL
  exact .bind (N0 _) (fun o1 => by exact .const _)
def JF.s : Nat → Qd → Option Qd
  | 0, _ => none
  | k + 1, h0 => YL (JW.s k) h0
theorem JF.ok : ∀ (k : Nat), Qcp (ev k) (JF.s k)
  | 0, _, _, h => (nomatch h)
  | k + 1, h0, r, h => fn_ok rfl (PN pp (ev k) (JW.s k) h0) (Qj4 _ _ h0) (Qj5 _ _ _ _  (Qhw _ k) h0) h
noncomputable def JW : Qd → Option Qd := JW.w 
theorem JW.eq (a : Qd) : JW a = (ZK  a).bind (Sum.elim JW some) := loopW_eq _ _
noncomputable def JF (h0 : Qd) : Option Qd := YL JW h0
theorem JF.cv (h0 : Qd) : Cv (fun k => JF.s k h0) (JF h0) := .un rfl (Qj6 (JW.cv) h0)
theorem JF.eq (h0 : Qd) : JF h0 = YL JW h0 := rfl
def WL (r : (Bool × Qd)) : AV × Heap := (xo r.1, [(0, .box [] (J1 r.2))])
abbrev JQ := ByteArray → Qd → Option (Bool × Qd)
abbrev QaA (a1 : ByteArray) (h0 : Qd) : List AV × Heap := ([.ptr 0 0, xs a1], [(0, .box [] (J1 h0))])
abbrev Z2 (w : Cf) (a1 : ByteArray) (h0 : Qd) : Option AH := w 233 (QaA a1 h0).1 (QaA a1 h0).2
abbrev P8 (w : Cf) (c : JQ) : Prop := ∀ (a1 : ByteArray) (h0 : Qd) (r : (Bool × Qd)), c a1 h0 = some r → Z2 w a1 h0 = some (WL r)
def Z3 (C0 : Vy) (a1 : ByteArray) (h0 : Qd) : Option (Bool × Qd) := ((C0 h0).bind fun r1 => (bif (decide ((w64 (r1.P + ((a1.size : Nat) : Int))) > ((r1.S.size : Nat) : Int))) then (some (false, r1)) else (bif (decide (0 ≤ r1.P ∧ r1.P ≤ (w64 (r1.P + ((a1.size : Nat) : Int))) ∧ (w64 (r1.P + ((a1.size : Nat) : Int))) ≤ ((r1.S.size : Nat) : Int))) then (bif (!(eqS (r1.S.extract (Int.toNat r1.P) (Int.toNat (w64 (r1.P + ((a1.size : Nat) : Int))))) a1)) then (some (false, r1)) else (some (true, (Qd.mk r1.S (w64 (r1.P + ((a1.size : Nat) : Int))) r1.Deep r1.Bad)))) else none)))
def QaB (P : Pg) (w : Cf) (C0 : Vy) (a1 : ByteArray) (h0 : Qd) : Tr (Bool × Qd) AH := (.call (Qbg w h0) (C0 h0) EC fun r1 => (let u95 := (decide ((w64 (r1.P + (zz a1))) > (zz r1.S))); .as u95 (yesN 18 u95 (.yes true (rt WL (false, r1)))) (noN 15 u95 (.as (in2 r1.P (w64 (r1.P + (zz a1))) (zz r1.S)) (noN 3 u95 (.as (!(eqS (cu r1.S r1.P (w64 (r1.P + (zz a1)))) a1)) (rt WL (false, r1)) (rt WL (true, (Qd.mk r1.S (w64 (r1.P + (zz a1))) r1.Deep r1.Bad))))) .fail))))
theorem Qlu (w : Cf) (C0 : Vy) (a1 : ByteArray) (h0 : Qd) : (QaB pp w C0 a1 h0).norm (bodyT pp w G 233 (QaA a1 h0).1 (QaA a1 h0).2) = QaB pp w C0 a1 h0 := by kernel_rfl
theorem Qlv (P : Pg) (w : Cf) (lp : Lo) (C0 : Vy) (K0 : Qcp w C0) (a1 : ByteArray) (h0 : Qd) : (QaB P w C0 a1 h0).ok lp WL := fun r1 hr1 => ⟨K0 _ _ hr1, ⟨rfl, fun hq0 => yesN_ok 18 (hq0) (⟨rfl, rfl⟩), fun hq0 => noN_ok 15 (hq0) (⟨rfl, fun hq1 => noN_ok 3 (hq0) (⟨rfl, fun hq2 => rfl, fun hq2 => rfl⟩), fun hq1 => trivial⟩)⟩⟩
theorem Qlw {C0 : Nat → Vy} {D0 : Vy} (H0 : Cv1 C0 D0) (a1 : ByteArray) (h0 : Qd) : Cv (fun k => Z3 (C0 k) a1 h0) (Z3 D0 a1 h0) := by
  unfold Z3
  exact .bind (H0 _) fun r1 => by exact .const _
def Jn.s : Nat → ByteArray → Qd → Option (Bool × Qd)
  | 0, _, _ => none
  | k + 1, a1, h0 => Z3 (JF.s k) a1 h0
theorem Jn.ok : ∀ (k : Nat), P8 (ev k) (Jn.s k)
  | 0, _, _, _, h => (nomatch h)
  | k + 1, a1, h0, r, h => fn_ok rfl (QaB pp (ev k) (JF.s k) a1 h0) (Qlu _ _ a1 h0) (Qlv _ _ _ _ (JF.ok k)  a1 h0) h
noncomputable def Jn (a1 : ByteArray) (h0 : Qd) : Option (Bool × Qd) := Z3 JF a1 h0
theorem Jn.cv (a1 : ByteArray) (h0 : Qd) : Cv (fun k => Jn.s k a1 h0) (Jn a1 h0) := .un rfl (Qlw JF.cv a1 h0)
theorem Jn.eq (a1 : ByteArray) (h0 : Qd) : Jn a1 h0 = Z3 JF a1 h0 := rfl
def Xx (r : Int) : AV × Heap := (xi r, [])
abbrev Ww := Int → Int → Option Int
abbrev QeE (a0 : Int) (a1 : Int) : List AV × Heap := ([xb a0, xi a1], [])
abbrev QeF (w : Cf) (a0 : Int) (a1 : Int) : Option AH := w 236 (QeE a0 a1).1 (QeE a0 a1).2
abbrev QfK (w : Cf) (c : Ww) : Prop := ∀ (a0 : Int) (a1 : Int) (r : Int), c a0 a1 = some r → QeF w a0 a1 = some (Xx r)
def QaC  (a0 : Int) (a1 : Int) : Option Int := (bif (decide (a0 ≥ 48)) then (bif (decide (a0 ≤ (57 : Int))) then (some (w64 (IntKind.u8.wrap (a0 - 48)))) else (bif (a1 == 16) then (bif (decide (a0 ≥ 97)) then (bif (decide (a0 ≤ (102 : Int))) then (some (w64 ((w64 (IntKind.u8.wrap (a0 - 97))) + 10))) else (some (-1 : Int))) else (some (-1 : Int))) else (some (-1 : Int)))) else (bif (a1 == 16) then (bif (decide (a0 ≥ 97)) then (bif (decide (a0 ≤ (102 : Int))) then (some (w64 ((w64 (IntKind.u8.wrap (a0 - 97))) + 10))) else (some (-1 : Int))) else (some (-1 : Int))) else (some (-1 : Int))))
def QeG (P : Pg) (w : Cf)  (a0 : Int) (a1 : Int) : Tr Int AH := (let u100 := (decide (a0 ≥ 48)); .as u100 (yesN 2 u100 (.as (decide (a0 ≤ (zi 57))) (rt Xx (w64 (IntKind.u8.wrap (a0 - 48)))) (let u97 := (a1 == 16); .as u97 (yesN 2 u97 (let u96 := (decide (a0 ≥ 97)); .as u96 (yesN 2 u96 (.as (decide (a0 ≤ (zi 102))) (rt Xx (w64 ((w64 (IntKind.u8.wrap (a0 - 97))) + 10))) (rt Xx (-1 : Int)))) (noN 2 u96 (.no false (rt Xx (-1 : Int)))))) (noN 2 u97 (noN 4 false (rt Xx (-1 : Int))))))) (noN 2 u100 (.no false (let u99 := (a1 == 16); .as u99 (yesN 2 u99 (let u98 := (decide (a0 ≥ 97)); .as u98 (yesN 2 u98 (.as (decide (a0 ≤ (zi 102))) (rt Xx (w64 ((w64 (IntKind.u8.wrap (a0 - 97))) + 10))) (rt Xx (-1 : Int)))) (noN 2 u98 (.no false (rt Xx (-1 : Int)))))) (noN 2 u99 (noN 4 false (rt Xx (-1 : Int))))))))
theorem Qoz (w : Cf)  (a0 : Int) (a1 : Int) : (QeG pp w  a0 a1).norm (bodyT pp w G 236 (QeE a0 a1).1 (QeE a0 a1).2) = QeG pp w  a0 a1 := by kernel_rfl
theorem QoA (P : Pg) (w : Cf) (lp : Lo)   (a0 : Int) (a1 : Int) : (QeG P w  a0 a1).ok lp Xx := ⟨rfl, fun hq0 => yesN_ok 2 (hq0) (⟨rfl, fun hq1 => rfl, fun hq1 => ⟨rfl, fun hq2 => yesN_ok 2 (hq2) (⟨rfl, fun hq3 => yesN_ok 2 (hq3) (⟨rfl, fun hq4 => rfl, fun hq4 => rfl⟩), fun hq3 => noN_ok 2 (hq3) (⟨rfl, rfl⟩)⟩), fun hq2 => noN_ok 2 (hq2) (noN_ok 4 (rfl) (rfl))⟩⟩), fun hq0 => noN_ok 2 (hq0) (⟨rfl, ⟨rfl, fun hq1 => yesN_ok 2 (hq1) (⟨rfl, fun hq2 => yesN_ok 2 (hq2) (⟨rfl, fun hq3 => rfl, fun hq3 => rfl⟩), fun hq2 => noN_ok 2 (hq2) (⟨rfl, rfl⟩)⟩), fun hq1 => noN_ok 2 (hq1) (noN_ok 4 (rfl) (rfl))⟩⟩)⟩
def UF.s : Nat → Int → Int → Option Int
  | 0, _, _ => none
  | k + 1, a0, a1 => QaC  a0 a1
theorem UF.ok : ∀ (k : Nat), QfK (ev k) (UF.s k)
  | 0, _, _, _, h => (nomatch h)
  | k + 1, a0, a1, r, h => fn_ok rfl (QeG pp (ev k)  a0 a1) (Qoz _  a0 a1) (QoA _ _ _    a0 a1) h
noncomputable def UF (a0 : Int) (a1 : Int) : Option Int := QaC  a0 a1
theorem UF.cv (a0 : Int) (a1 : Int) : Cv (fun k => UF.s k a0 a1) (UF a0 a1) := .un rfl (by exact .const _)
theorem UF.eq (a0 : Int) (a1 : Int) : UF a0 a1 = QaC  a0 a1 := rfl
def XT (r : (Qb × Qd)) : AV × Heap := (.agg (Q7 r.1), [(0, .box [] (J1 r.2))])
abbrev Yq := Int → Qd → Option (Qb × Qd)
abbrev Fw (a1 : Int) (h0 : Qd) : List AV × Heap := ([.ptr 0 0, xi a1], [(0, .box [] (J1 h0))])
abbrev SZ (w : Cf) (a1 : Int) (h0 : Qd) : Option AH := w 235 (Fw a1 h0).1 (Fw a1 h0).2
abbrev Qeg (w : Cf) (c : Yq) : Prop := ∀ (a1 : Int) (h0 : Qd) (r : (Qb × Qd)), c a1 h0 = some r → SZ w a1 h0 = some (XT r)
structure QV where
  x1 : Int
  x5 : Int
  x6 : Int
  h0 : Qd
  h1 : Qb
structure JO where
  h0 : Qd
  h1 : Qb
structure Jm where
  x5 : Int
  x6 : Int
  h0 : Qd
  h1 : Qb
def XC (a : QV) : St := { n := 74, nx := 2, env := [(0, .ptr 0 0), (1, xi a.x1), (4, .ptr 1 0), (5, xi a.x5), (6, xi a.x6)], heap := [(0, .box [] (J1 a.h0)), (1, .box [] (Q7 a.h1))] }
def QaV (a : JO) : Ex × St := (.ret, { n := 74, nx := 2, env := [(4, .ptr 1 0)], heap := [(0, .box [] (J1 a.h0)), (1, .box [] (Q7 a.h1))] })
def QaW (a : Jm) : Ex × St := (.exit 0, { n := 74, nx := 2, env := [(0, .ptr 0 0), (4, .ptr 1 0), (5, xi a.x5), (6, xi a.x6)], heap := [(0, .box [] (J1 a.h0)), (1, .box [] (Q7 a.h1))] })
def XD (a : (JO ⊕ Jm)) : Ex × St := Sum.elim QaV QaW a
abbrev W5 := QV → Option (JO ⊕ Jm)
abbrev Qhx (P : Pg) (lp : Lo) (l : W5) : Prop := ∀ (a : QV) (r : (JO ⊕ Jm)), l a = some r → lp (loopAt P 235 2) (XC a) = some (XD r)
def Vz (C0 : Ww) (a : QV) : Option (QV ⊕ (JO ⊕ Jm)) := (bif (decide (a.h0.P < ((a.h0.S.size : Nat) : Int))) then (bif (decide (0 ≤ a.h0.P ∧ a.h0.P < ((a.h0.S.size : Nat) : Int))) then ((C0 ((a.h0.S.data.getD (Int.toNat a.h0.P) 0).toNat : Int) a.x1).bind fun r1 => (bif (decide (r1 ≥ 0)) then ((C0 ((a.h0.S.data.getD (Int.toNat a.h0.P) 0).toNat : Int) a.x1).bind fun r2 => (bif (decide ((w64 ((w64 (a.x1 * a.x5)) + r2)) ≥ 4294967296)) then (some (.inr (.inl (JO.mk (Qd.mk a.h0.S (w64 (a.h0.P + 1)) a.h0.Deep true) (Qb.mk (0 : Int) (0 : Int) s_ ([] : List Qb)))))) else (some (.inl (QV.mk a.x1 (w64 ((w64 (a.x1 * a.x5)) + r2)) a.x6 (Qd.mk a.h0.S (w64 (a.h0.P + 1)) a.h0.Deep a.h0.Bad) a.h1))))) else (some (.inr (.inr (Jm.mk a.x5 a.x6 a.h0 a.h1)))))) else none) else (some (.inr (.inr (Jm.mk a.x5 a.x6 a.h0 a.h1)))))
def GJ (P : Pg) (w : Cf) (C0 : Ww) (a : QV) : Tr (QV ⊕ (JO ⊕ Jm)) XS := (let u102 := (decide (a.h0.P < (zz a.h0.S))); .as u102 (yesN 8 u102 (let u101 := (in1 a.h0.P (zz a.h0.S)); .as u101 (yesN 2 u102 (.call (QeF w (gb a.h0.S a.h0.P) a.x1) (C0 (gb a.h0.S a.h0.P) a.x1) Xx fun r1 => (yesN 2 u102 (.as (decide (r1 ≥ 0)) (.yes u101 (.call (QeF w (gb a.h0.S a.h0.P) a.x1) (C0 (gb a.h0.S a.h0.P) a.x1) Xx fun r2 => (.as (decide ((w64 ((w64 (a.x1 * a.x5)) + r2)) ≥ 4294967296)) (rx XD (.inl (JO.mk (Qd.mk a.h0.S (w64 (a.h0.P + 1)) a.h0.Deep true) (Qb.mk (zi 0) (zi 0) s_ ([] : List Qb))))) (lf XC (QV.mk a.x1 (w64 ((w64 (a.x1 * a.x5)) + r2)) a.x6 (Qd.mk a.h0.S (w64 (a.h0.P + 1)) a.h0.Deep a.h0.Bad) a.h1))))) (rx XD (.inr (Jm.mk a.x5 a.x6 a.h0 a.h1))))))) .fail)) (noN 12 u102 (.no false (rx XD (.inr (Jm.mk a.x5 a.x6 a.h0 a.h1))))))
theorem Qg5 (w : Cf) (C0 : Ww) (a : QV) : (GJ pp w C0 a).norm (roundT pp G.kd w 1 (G.an 235) (loopAt pp 235 2) (XC a)) = GJ pp w C0 a := by kernel_rfl
theorem Qg6 (P : Pg) (w : Cf) (lp : Lo) (C0 : Ww) (K0 : QfK w C0) (a : QV) : (GJ P w C0 a).ok lp (Sum.elim (fun a => (.norm, XC a)) XD) := ⟨rfl, fun hq0 => yesN_ok 8 (hq0) (⟨rfl, fun hq1 => yesN_ok 2 (hq0) (fun r1 hr1 => ⟨K0 _ _ _ hr1, yesN_ok 2 (hq0) (⟨rfl, fun hq2 => ⟨hq1, fun r2 hr2 => ⟨K0 _ _ _ hr2, ⟨rfl, fun hq3 => rfl, fun hq3 => rfl⟩⟩⟩, fun hq2 => rfl⟩)⟩), fun hq1 => trivial⟩), fun hq0 => noN_ok 12 (hq0) (⟨rfl, rfl⟩)⟩
theorem Qg7 {C0 : Nat → Ww} {D0 : Ww} (H0 : Cv2 C0 D0) (a : QV) : Cv (fun k => Vz (C0 k) a) (Vz D0 a) := by
  unfold Vz
  exact .cond (.cond (.bind (H0 _ _) fun r1 => .cond (.bind (H0 _ _) fun r2 => by exact .const _) (by exact .const _)) (by exact .const _)) (by exact .const _)
def QP.s (k : Nat) (C0 : Ww) : QV → Option (JO ⊕ Jm) := iter (Vz C0) k
theorem Qgu (w : Cf) (k : Nat) (C0 : Ww) (K0 : QfK w C0) (a : QV) (r : (JO ⊕ Jm)) (h : QP.s k C0 a = some r) : loopsF pp G.kd w 1 (G.an 235) k (loopAt pp 235 2) (XC a) = some (XD r) :=
  loop_ok (fun a => GJ pp w C0 a) (fun _ => rfl) (fun a => Qg5 w _ a) (fun a => Qg6 _ w _ _ K0 a) (fun r => by cases r <;> nofun) h
noncomputable def QP.w (C0 : Ww) : QV → Option (JO ⊕ Jm) := loopW (Vz C0)
theorem QP.cv (C0 : Nat → Ww) (D0 : Ww) (H0 : Cv2 C0 D0) (a : QV) : Cv (fun k => QP.s k (C0 k) a) (QP.w D0 a) := Cv.iter (fun a => Qg7 H0 a) a
def WO (L0 : W5) (a1 : Int) (h0 : Qd) : Option (Qb × Qd) := ((L0 (QV.mk a1 (0 : Int) h0.P h0 (Qb.mk (0 : Int) (0 : Int) s_ ([] : List Qb)))).bind fun x => Sum.elim (fun (o1 : JO) => (some (o1.h1, o1.h0))) (fun (o2 : Jm) => (bif (o2.x6 == o2.h0.P) then (some ((Qb.mk (1 : Int) o2.x5 s_ ([] : List Qb)), (Qd.mk o2.h0.S o2.h0.P o2.h0.Deep true))) else (some ((Qb.mk (1 : Int) o2.x5 s_ ([] : List Qb)), o2.h0)))) x)
def Fx (P : Pg) (w : Cf) (L0 : W5) (a1 : Int) (h0 : Qd) : Tr (Qb × Qd) AH := (.loop2 (loopAt P 235 2) (XC (QV.mk a1 (zi 0) h0.P h0 (Qb.mk (zi 0) (zi 0) s_ ([] : List Qb)))) (L0 (QV.mk a1 (zi 0) h0.P h0 (Qb.mk (zi 0) (zi 0) s_ ([] : List Qb)))) QaV QaW (fun (o1 : JO) => (rt XT (o1.h1, o1.h0))) (fun (o2 : Jm) => (.as (o2.x6 == o2.h0.P) (rt XT ((Qb.mk (zi 1) o2.x5 s_ ([] : List Qb)), (Qd.mk o2.h0.S o2.h0.P o2.h0.Deep true))) (rt XT ((Qb.mk (zi 1) o2.x5 s_ ([] : List Qb)), o2.h0)))))
theorem Qje (w : Cf) (L0 : W5) (a1 : Int) (h0 : Qd) : (Fx pp w L0 a1 h0).norm (bodyT pp w G 235 (Fw a1 h0).1 (Fw a1 h0).2) = Fx pp w L0 a1 h0 := by kernel_rfl
theorem Qjf (P : Pg) (w : Cf) (lp : Lo) (L0 : W5) (N0 : Qhx P lp L0) (a1 : Int) (h0 : Qd) : (Fx P w L0 a1 h0).ok lp XT := ⟨fun o1 ho1 => ⟨N0 _ (.inl _) ho1, rfl⟩, fun o2 ho2 => ⟨N0 _ (.inr _) ho2, ⟨rfl, fun hq0 => rfl, fun hq0 => rfl⟩⟩⟩
theorem Qjg {L0 : Nat → W5} {M0 : W5} (N0 : Cv1 L0 M0) (a1 : Int) (h0 : Qd) : Cv (fun k => WO (L0 k) a1 h0) (WO M0 a1 h0) := by
  unfold WO
  exact .bind (N0 _) fun x => .sum (fun o1 => by exact .const _) (fun o2 => by exact .const _) x
def JG.s : Nat → Int → Qd → Option (Qb × Qd)
  | 0, _, _ => none
  | k + 1, a1, h0 => WO (QP.s k (UF.s k)) a1 h0
theorem JG.ok : ∀ (k : Nat), Qeg (ev k) (JG.s k)
  | 0, _, _, _, h => (nomatch h)
  | k + 1, a1, h0, r, h => fn_ok rfl (Fx pp (ev k) (QP.s k (UF.s k)) a1 h0) (Qje _ _ a1 h0) (Qjf _ _ _ _  (Qgu _ k _ (UF.ok k)) a1 h0) h
noncomputable def QP : QV → Option (JO ⊕ Jm) := QP.w UF
theorem QP.eq (a : QV) : QP a = (Vz UF a).bind (Sum.elim QP some) := loopW_eq _ _
noncomputable def JG (a1 : Int) (h0 : Qd) : Option (Qb × Qd) := WO QP a1 h0
theorem JG.cv (a1 : Int) (h0 : Qd) : Cv (fun k => JG.s k a1 h0) (JG a1 h0) := .un rfl (Qjg (QP.cv (fun k => UF.s k) UF UF.cv) a1 h0)
theorem JG.eq (a1 : Int) (h0 : Qd) : JG a1 h0 = WO QP a1 h0 := rfl
def Z4 (r : (Qb × Qd)) : AV × Heap := (.agg (Q7 r.1), [(0, .box [] (J1 r.2))])
abbrev Zh := Qd → Option (Qb × Qd)
abbrev PO (h0 : Qd) : List AV × Heap := ([.ptr 0 0], [(0, .box [] (J1 h0))])
abbrev Qbh (w : Cf) (h0 : Qd) : Option AH := w 237 (PO h0).1 (PO h0).2
abbrev QfL (w : Cf) (c : Zh) : Prop := ∀ (h0 : Qd) (r : (Qb × Qd)), c h0 = some r → Qbh w h0 = some (Z4 r)
structure Qs where
  x3 : Int
  h0 : Qd
  h1 : Qb
structure QY where
  x3 : Int
  h0 : Qd
  h1 : Qb
def UQ (a : Qs) : St := { n := 111, nx := 2, env := [(0, .ptr 0 0), (2, .ptr 1 0), (3, xi a.x3)], heap := [(0, .box [] (J1 a.h0)), (1, .box [] (Q7 a.h1))] }
def V1 (a : QY) : Ex × St := (.exit 0, { n := 111, nx := 2, env := [(0, .ptr 0 0), (2, .ptr 1 0), (3, xi a.x3)], heap := [(0, .box [] (J1 a.h0)), (1, .box [] (Q7 a.h1))] })
abbrev XU := Qs → Option QY
abbrev Qjh (P : Pg) (lp : Lo) (l : XU) : Prop := ∀ (a : Qs) (r : QY), l a = some r → lp (loopAt P 237 2) (UQ a) = some (V1 r)
def ZL  (a : Qs) : Option (Qs ⊕ QY) := (bif (decide (a.h0.P < ((a.h0.S.size : Nat) : Int))) then (bif (decide (0 ≤ a.h0.P ∧ a.h0.P < ((a.h0.S.size : Nat) : Int))) then (bif (decide (((a.h0.S.data.getD (Int.toNat a.h0.P) 0).toNat : Int) ≥ 97)) then (bif (decide (((a.h0.S.data.getD (Int.toNat a.h0.P) 0).toNat : Int) ≤ 122)) then (some (.inl (Qs.mk a.x3 (Qd.mk a.h0.S (w64 (a.h0.P + 1)) a.h0.Deep a.h0.Bad) a.h1))) else (bif (decide (((a.h0.S.data.getD (Int.toNat a.h0.P) 0).toNat : Int) ≥ 48)) then (bif (decide (((a.h0.S.data.getD (Int.toNat a.h0.P) 0).toNat : Int) ≤ 57)) then (some (.inl (Qs.mk a.x3 (Qd.mk a.h0.S (w64 (a.h0.P + 1)) a.h0.Deep a.h0.Bad) a.h1))) else (bif (((a.h0.S.data.getD (Int.toNat a.h0.P) 0).toNat : Int) == 95) then (some (.inl (Qs.mk a.x3 (Qd.mk a.h0.S (w64 (a.h0.P + 1)) a.h0.Deep a.h0.Bad) a.h1))) else (some (.inr (QY.mk a.x3 a.h0 a.h1))))) else (bif (((a.h0.S.data.getD (Int.toNat a.h0.P) 0).toNat : Int) == 95) then (some (.inl (Qs.mk a.x3 (Qd.mk a.h0.S (w64 (a.h0.P + 1)) a.h0.Deep a.h0.Bad) a.h1))) else (some (.inr (QY.mk a.x3 a.h0 a.h1)))))) else (bif (decide (((a.h0.S.data.getD (Int.toNat a.h0.P) 0).toNat : Int) ≥ 48)) then (bif (decide (((a.h0.S.data.getD (Int.toNat a.h0.P) 0).toNat : Int) ≤ 57)) then (some (.inl (Qs.mk a.x3 (Qd.mk a.h0.S (w64 (a.h0.P + 1)) a.h0.Deep a.h0.Bad) a.h1))) else (bif (((a.h0.S.data.getD (Int.toNat a.h0.P) 0).toNat : Int) == 95) then (some (.inl (Qs.mk a.x3 (Qd.mk a.h0.S (w64 (a.h0.P + 1)) a.h0.Deep a.h0.Bad) a.h1))) else (some (.inr (QY.mk a.x3 a.h0 a.h1))))) else (bif (((a.h0.S.data.getD (Int.toNat a.h0.P) 0).toNat : Int) == 95) then (some (.inl (Qs.mk a.x3 (Qd.mk a.h0.S (w64 (a.h0.P + 1)) a.h0.Deep a.h0.Bad) a.h1))) else (some (.inr (QY.mk a.x3 a.h0 a.h1)))))) else none) else (some (.inr (QY.mk a.x3 a.h0 a.h1))))
def E5 (P : Pg) (w : Cf)  (a : Qs) : Tr (Qs ⊕ QY) XS := (let u110 := (decide (a.h0.P < (zz a.h0.S))); .as u110 (yesN 8 u110 (let u109 := (in1 a.h0.P (zz a.h0.S)); .as u109 (yesN 2 u110 (let u108 := (decide ((gb a.h0.S a.h0.P) ≥ 97)); .as u108 (yesN 8 u108 (.yes u109 (.yes u108 (.yes u110 (.yes u108 (.yes u110 (let u105 := (decide ((gb a.h0.S a.h0.P) ≤ 122)); .as u105 (yesN 11 u105 (.yes u110 (.yes u105 (.yes u110 (yesN 10 true (.yes u110 (.yes true (.yes u110 (.yes true (lf UQ (Qs.mk a.x3 (Qd.mk a.h0.S (w64 (a.h0.P + 1)) a.h0.Deep a.h0.Bad) a.h1))))))))))) (noN 8 u105 (.yes u109 (noN 2 u105 (let u104 := (decide ((gb a.h0.S a.h0.P) ≥ 48)); .as u104 (yesN 8 u104 (.yes u109 (.yes u104 (.no u105 (.yes u104 (.yes u110 (.no u105 (.yes u110 (let u103 := (decide ((gb a.h0.S a.h0.P) ≤ 57)); .as u103 (yesN 9 u103 (.yes u110 (.yes u103 (.yes u110 (.yes true (lf UQ (Qs.mk a.x3 (Qd.mk a.h0.S (w64 (a.h0.P + 1)) a.h0.Deep a.h0.Bad) a.h1))))))) (noN 8 u103 (.yes u109 (.no u103 (.yes u110 (.no u103 (.yes u110 (.as ((gb a.h0.S a.h0.P) == 95) (lf UQ (Qs.mk a.x3 (Qd.mk a.h0.S (w64 (a.h0.P + 1)) a.h0.Deep a.h0.Bad) a.h1)) (rx V1 (QY.mk a.x3 a.h0 a.h1)))))))))))))))))) (noN 9 u104 (.no u105 (.no u104 (.yes u110 (.no u105 (.yes u110 (noN 9 false (.yes u109 (.no false (.yes u110 (.no false (.yes u110 (.as ((gb a.h0.S a.h0.P) == 95) (lf UQ (Qs.mk a.x3 (Qd.mk a.h0.S (w64 (a.h0.P + 1)) a.h0.Deep a.h0.Bad) a.h1)) (rx V1 (QY.mk a.x3 a.h0 a.h1)))))))))))))))))))))))))) (noN 9 u108 (.yes u110 (.no u108 (.yes u110 (noN 9 false (.yes u109 (noN 2 false (let u107 := (decide ((gb a.h0.S a.h0.P) ≥ 48)); .as u107 (yesN 8 u107 (.yes u109 (.yes u107 (.no false (.yes u107 (.yes u110 (.no false (.yes u110 (let u106 := (decide ((gb a.h0.S a.h0.P) ≤ 57)); .as u106 (yesN 9 u106 (.yes u110 (.yes u106 (.yes u110 (.yes true (lf UQ (Qs.mk a.x3 (Qd.mk a.h0.S (w64 (a.h0.P + 1)) a.h0.Deep a.h0.Bad) a.h1))))))) (noN 8 u106 (.yes u109 (.no u106 (.yes u110 (.no u106 (.yes u110 (.as ((gb a.h0.S a.h0.P) == 95) (lf UQ (Qs.mk a.x3 (Qd.mk a.h0.S (w64 (a.h0.P + 1)) a.h0.Deep a.h0.Bad) a.h1)) (rx V1 (QY.mk a.x3 a.h0 a.h1)))))))))))))))))) (noN 9 u107 (.no false (.no u107 (.yes u110 (.no false (.yes u110 (noN 9 false (.yes u109 (.no false (.yes u110 (.no false (.yes u110 (.as ((gb a.h0.S a.h0.P) == 95) (lf UQ (Qs.mk a.x3 (Qd.mk a.h0.S (w64 (a.h0.P + 1)) a.h0.Deep a.h0.Bad) a.h1)) (rx V1 (QY.mk a.x3 a.h0 a.h1))))))))))))))))))))))))) .fail)) (noN 16 u110 (.no false (rx V1 (QY.mk a.x3 a.h0 a.h1)))))
theorem Qil (w : Cf)  (a : Qs) : (E5 pp w  a).norm (roundT pp G.kd w 1 (G.an 237) (loopAt pp 237 2) (UQ a)) = E5 pp w  a := by kernel_rfl
theorem Qim (P : Pg) (w : Cf) (lp : Lo)   (a : Qs) : (E5 P w  a).ok lp (Sum.elim (fun a => (.norm, UQ a)) V1) := ⟨rfl, fun hq0 => yesN_ok 8 (hq0) (⟨rfl, fun hq1 => yesN_ok 2 (hq0) (⟨rfl, fun hq2 => yesN_ok 8 (hq2) (⟨hq1, ⟨hq2, ⟨hq0, ⟨hq2, ⟨hq0, ⟨rfl, fun hq3 => yesN_ok 11 (hq3) (⟨hq0, ⟨hq3, ⟨hq0, yesN_ok 10 (rfl) (⟨hq0, ⟨rfl, ⟨hq0, ⟨rfl, rfl⟩⟩⟩⟩)⟩⟩⟩), fun hq3 => noN_ok 8 (hq3) (⟨hq1, noN_ok 2 (hq3) (⟨rfl, fun hq4 => yesN_ok 8 (hq4) (⟨hq1, ⟨hq4, ⟨hq3, ⟨hq4, ⟨hq0, ⟨hq3, ⟨hq0, ⟨rfl, fun hq5 => yesN_ok 9 (hq5) (⟨hq0, ⟨hq5, ⟨hq0, ⟨rfl, rfl⟩⟩⟩⟩), fun hq5 => noN_ok 8 (hq5) (⟨hq1, ⟨hq5, ⟨hq0, ⟨hq5, ⟨hq0, ⟨rfl, fun hq6 => rfl, fun hq6 => rfl⟩⟩⟩⟩⟩⟩)⟩⟩⟩⟩⟩⟩⟩⟩), fun hq4 => noN_ok 9 (hq4) (⟨hq3, ⟨hq4, ⟨hq0, ⟨hq3, ⟨hq0, noN_ok 9 (rfl) (⟨hq1, ⟨rfl, ⟨hq0, ⟨rfl, ⟨hq0, ⟨rfl, fun hq5 => rfl, fun hq5 => rfl⟩⟩⟩⟩⟩⟩)⟩⟩⟩⟩⟩)⟩)⟩)⟩⟩⟩⟩⟩⟩), fun hq2 => noN_ok 9 (hq2) (⟨hq0, ⟨hq2, ⟨hq0, noN_ok 9 (rfl) (⟨hq1, noN_ok 2 (rfl) (⟨rfl, fun hq3 => yesN_ok 8 (hq3) (⟨hq1, ⟨hq3, ⟨rfl, ⟨hq3, ⟨hq0, ⟨rfl, ⟨hq0, ⟨rfl, fun hq4 => yesN_ok 9 (hq4) (⟨hq0, ⟨hq4, ⟨hq0, ⟨rfl, rfl⟩⟩⟩⟩), fun hq4 => noN_ok 8 (hq4) (⟨hq1, ⟨hq4, ⟨hq0, ⟨hq4, ⟨hq0, ⟨rfl, fun hq5 => rfl, fun hq5 => rfl⟩⟩⟩⟩⟩⟩)⟩⟩⟩⟩⟩⟩⟩⟩), fun hq3 => noN_ok 9 (hq3) (⟨rfl, ⟨hq3, ⟨hq0, ⟨rfl, ⟨hq0, noN_ok 9 (rfl) (⟨hq1, ⟨rfl, ⟨hq0, ⟨rfl, ⟨hq0, ⟨rfl, fun hq4 => rfl, fun hq4 => rfl⟩⟩⟩⟩⟩⟩)⟩⟩⟩⟩⟩)⟩)⟩)⟩⟩⟩)⟩), fun hq1 => trivial⟩), fun hq0 => noN_ok 16 (hq0) (⟨rfl, rfl⟩)⟩
def JC.s (k : Nat)  : Qs → Option QY := iter (ZL ) k
theorem Qhy (w : Cf) (k : Nat)   (a : Qs) (r : QY) (h : JC.s k  a = some r) : loopsF pp G.kd w 1 (G.an 237) k (loopAt pp 237 2) (UQ a) = some (V1 r) :=
  loop_ok (fun a => E5 pp w  a) (fun _ => rfl) (fun a => Qil w  a) (fun a => Qim _ w _   a) (fun r => nofun) h
noncomputable def JC.w  : Qs → Option QY := loopW (ZL )
theorem JC.cv    (a : Qs) : Cv (fun k => JC.s k  a) (JC.w  a) := Cv.iter (fun a => by exact .const _) a
def YM (C0 : ZQ) (L1 : XU) (h0 : Qd) : Option (Qb × Qd) := ((L1 (Qs.mk h0.P h0 (Qb.mk (0 : Int) (0 : Int) s_ ([] : List Qb)))).bind (fun (o1 : QY) => (bif (decide (0 ≤ o1.x3 ∧ o1.x3 ≤ o1.h0.P ∧ o1.h0.P ≤ ((o1.h0.S.size : Nat) : Int))) then ((C0 (o1.h0.S.extract (Int.toNat o1.x3) (Int.toNat o1.h0.P))).bind fun r2 => (bif (!r2) then (some ((Qb.mk (2 : Int) (0 : Int) (o1.h0.S.extract (Int.toNat o1.x3) (Int.toNat o1.h0.P)) ([] : List Qb)), (Qd.mk o1.h0.S o1.h0.P o1.h0.Deep true))) else (some ((Qb.mk (2 : Int) (0 : Int) (o1.h0.S.extract (Int.toNat o1.x3) (Int.toNat o1.h0.P)) ([] : List Qb)), o1.h0)))) else none)))
def PP (P : Pg) (w : Cf) (C0 : ZQ) (L1 : XU) (h0 : Qd) : Tr (Qb × Qd) AH := (.loop (loopAt P 237 2) (UQ (Qs.mk h0.P h0 (Qb.mk (zi 0) (zi 0) s_ ([] : List Qb)))) (L1 (Qs.mk h0.P h0 (Qb.mk (zi 0) (zi 0) s_ ([] : List Qb)))) V1 (fun (o1 : QY) => (let u111 := (in2 o1.x3 o1.h0.P (zz o1.h0.S)); .as u111 (.call (QiA w (cu o1.h0.S o1.x3 o1.h0.P)) (C0 (cu o1.h0.S o1.x3 o1.h0.P)) Eg fun r2 => (.as (!r2) (.yes u111 (rt Z4 ((Qb.mk (zi 2) (zi 0) (cu o1.h0.S o1.x3 o1.h0.P) ([] : List Qb)), (Qd.mk o1.h0.S o1.h0.P o1.h0.Deep true)))) (.yes u111 (rt Z4 ((Qb.mk (zi 2) (zi 0) (cu o1.h0.S o1.x3 o1.h0.P) ([] : List Qb)), o1.h0))))) .fail)))
theorem Qj7 (w : Cf) (C0 : ZQ) (L1 : XU) (h0 : Qd) : (PP pp w C0 L1 h0).norm (bodyT pp w G 237 (PO h0).1 (PO h0).2) = PP pp w C0 L1 h0 := by kernel_rfl
theorem Qj8 (P : Pg) (w : Cf) (lp : Lo) (C0 : ZQ) (L1 : XU) (K0 : QjX w C0) (N1 : Qjh P lp L1) (h0 : Qd) : (PP P w C0 L1 h0).ok lp Z4 := fun o1 ho1 => ⟨N1 _ _ ho1, ⟨rfl, fun hq0 => fun r2 hr2 => ⟨K0 _ _ hr2, ⟨rfl, fun hq1 => ⟨hq0, rfl⟩, fun hq1 => ⟨hq0, rfl⟩⟩⟩, fun hq0 => trivial⟩⟩
theorem Qj9 {C0 : Nat → ZQ} {D0 : ZQ} (H0 : Cv1 C0 D0) {L1 : Nat → XU} {M1 : XU} (N1 : Cv1 L1 M1) (h0 : Qd) : Cv (fun k => YM (C0 k) (L1 k) h0) (YM D0 M1 h0) := by
  unfold YM
  exact .bind (N1 _) (fun o1 => .cond (.bind (H0 _) fun r2 => by exact .const _) (by exact .const _))
def UN.s : Nat → Qd → Option (Qb × Qd)
  | 0, _ => none
  | k + 1, h0 => YM (WR.s k) (JC.s k) h0
theorem UN.ok : ∀ (k : Nat), QfL (ev k) (UN.s k)
  | 0, _, _, h => (nomatch h)
  | k + 1, h0, r, h => fn_ok rfl (PP pp (ev k) (WR.s k) (JC.s k) h0) (Qj7 _ _ _ h0) (Qj8 _ _ _ _ _ (WR.ok k) (Qhy _ k) h0) h
noncomputable def JC : Qs → Option QY := JC.w 
theorem JC.eq (a : Qs) : JC a = (ZL  a).bind (Sum.elim JC some) := loopW_eq _ _
noncomputable def UN (h0 : Qd) : Option (Qb × Qd) := YM WR JC h0
theorem UN.cv (h0 : Qd) : Cv (fun k => UN.s k h0) (UN h0) := .un rfl (Qj9 WR.cv (JC.cv) h0)
theorem UN.eq (h0 : Qd) : UN h0 = YM WR JC h0 := rfl
def Ei (r : (ByteArray × Int)) : AV × Heap := (.tup [xs r.1, xi r.2], [])
abbrev GT := Int → Option (ByteArray × Int)
abbrev QfM (a0 : Int) : List AV × Heap := ([xi a0], [])
abbrev QlH (w : Cf) (a0 : Int) : Option AH := w 104 (QfM a0).1 (QfM a0).2
abbrev Qka (w : Cf) (c : GT) : Prop := ∀ (a0 : Int) (r : (ByteArray × Int)), c a0 = some r → QlH w a0 = some (Ei r)
def QfN  (a0 : Int) : Option (ByteArray × Int) := (bif (a0 == 5) then (some (h_2b, (3 : Int))) else (bif (a0 == 6) then (some (h_2d, (3 : Int))) else (bif (a0 == 7) then (some (h_2a, (4 : Int))) else (bif (a0 == 8) then (some (h_26, (1 : Int))) else (bif (a0 == 9) then (some (h_7c, (0 : Int))) else (bif (a0 == 10) then (some (QeQ, (2 : Int))) else (some (QeR, (2 : Int)))))))))
def QfO (P : Pg) (w : Cf)  (a0 : Int) : Tr (ByteArray × Int) AH := (.as (a0 == 5) (rt Ei (h_2b, (zi 3))) (.as (a0 == 6) (rt Ei (h_2d, (zi 3))) (.as (a0 == 7) (rt Ei (h_2a, (zi 4))) (.as (a0 == 8) (rt Ei (h_26, (zi 1))) (.as (a0 == 9) (rt Ei (h_7c, (zi 0))) (.as (a0 == 10) (rt Ei (QeQ, (zi 2))) (rt Ei (QeR, (zi 2)))))))))
theorem Qo5 (w : Cf)  (a0 : Int) : (QfO pp w  a0).norm (bodyT pp w G 104 (QfM a0).1 (QfM a0).2) = QfO pp w  a0 := by kernel_rfl
theorem Qo6 (P : Pg) (w : Cf) (lp : Lo)   (a0 : Int) : (QfO P w  a0).ok lp Ei := ⟨rfl, fun hq0 => rfl, fun hq0 => ⟨rfl, fun hq1 => rfl, fun hq1 => ⟨rfl, fun hq2 => rfl, fun hq2 => ⟨rfl, fun hq3 => rfl, fun hq3 => ⟨rfl, fun hq4 => rfl, fun hq4 => ⟨rfl, fun hq5 => rfl, fun hq5 => rfl⟩⟩⟩⟩⟩⟩
def YA.s : Nat → Int → Option (ByteArray × Int)
  | 0, _ => none
  | k + 1, a0 => QfN  a0
theorem YA.ok : ∀ (k : Nat), Qka (ev k) (YA.s k)
  | 0, _, _, h => (nomatch h)
  | k + 1, a0, r, h => fn_ok rfl (QfO pp (ev k)  a0) (Qo5 _  a0) (Qo6 _ _ _    a0) h
noncomputable def YA (a0 : Int) : Option (ByteArray × Int) := QfN  a0
theorem YA.cv (a0 : Int) : Cv (fun k => YA.s k a0) (YA a0) := .un rfl (by exact .const _)
theorem YA.eq (a0 : Int) : YA a0 = QfN  a0 := rfl
def ED (r : (Int × Qd)) : AV × Heap := (xi r.1, [(0, .box [] (J1 r.2))])
abbrev Ve := Int → Qd → Option (Int × Qd)
abbrev PQ (a1 : Int) (h0 : Qd) : List AV × Heap := ([.ptr 0 0, xi a1], [(0, .box [] (J1 h0))])
abbrev Qfi (w : Cf) (a1 : Int) (h0 : Qd) : Option AH := w 207 (PQ a1 h0).1 (PQ a1 h0).2
abbrev Qcq (w : Cf) (c : Ve) : Prop := ∀ (a1 : Int) (h0 : Qd) (r : (Int × Qd)), c a1 h0 = some r → Qfi w a1 h0 = some (ED r)
structure QJ where
  x1 : Int
  x5 : Int
  h0 : Qd
structure Uf where
  x4 : Int
  h0 : Qd
def Wx (a : QJ) : St := { n := 33, nx := 1, env := [(0, .ptr 0 0), (1, xi a.x1), (5, xi a.x5)], heap := [(0, .box [] (J1 a.h0))] }
def Qcr (a : Uf) : Ex × St := (.ret, { n := 33, nx := 1, env := [(4, xi a.x4)], heap := [(0, .box [] (J1 a.h0))] })
def Qcs (a : Qd) : Ex × St := (.exit 0, { n := 33, nx := 1, env := [], heap := [(0, .box [] (J1 a))] })
def ZM (a : (Uf ⊕ Qd)) : Ex × St := Sum.elim Qcr Qcs a
abbrev XV := QJ → Option (Uf ⊕ Qd)
abbrev Qji (P : Pg) (lp : Lo) (l : XV) : Prop := ∀ (a : QJ) (r : (Uf ⊕ Qd)), l a = some r → lp (loopAt P 207 2) (Wx a) = some (ZM r)
def V2 (C0 : GT) (C1 : JQ) (a : QJ) : Option (QJ ⊕ (Uf ⊕ Qd)) := (bif (decide (a.x5 ≤ 11)) then ((C0 a.x5).bind fun r1 => (bif (r1.2 == a.x1) then (bif (!a.h0.Bad) then ((C1 r1.1 a.h0).bind fun r2 => (bif r2.1 then (some (.inr (.inl (Uf.mk a.x5 r2.2)))) else (some (.inl (QJ.mk a.x1 (w64 (a.x5 + 1)) r2.2))))) else (some (.inl (QJ.mk a.x1 (w64 (a.x5 + 1)) a.h0)))) else (some (.inl (QJ.mk a.x1 (w64 (a.x5 + 1)) a.h0))))) else (some (.inr (.inr a.h0))))
def E6 (P : Pg) (w : Cf) (C0 : GT) (C1 : JQ) (a : QJ) : Tr (QJ ⊕ (Uf ⊕ Qd)) XS := (.as (decide (a.x5 ≤ 11)) (.call (QlH w a.x5) (C0 a.x5) Ei fun r1 => (let u113 := (r1.2 == a.x1); .as u113 (yesN 5 u113 (let u112 := (!a.h0.Bad); .as u112 (yesN 2 u112 (.call (Z2 w r1.1 a.h0) (C1 r1.1 a.h0) WL fun r2 => (.yes u112 (.as r2.1 (rx ZM (.inl (Uf.mk a.x5 r2.2))) (lf Wx (QJ.mk a.x1 (w64 (a.x5 + 1)) r2.2)))))) (noN 3 u112 (.no false (lf Wx (QJ.mk a.x1 (w64 (a.x5 + 1)) a.h0)))))) (noN 5 u113 (noN 5 false (lf Wx (QJ.mk a.x1 (w64 (a.x5 + 1)) a.h0)))))) (rx ZM (.inr a.h0)))
theorem Qin (w : Cf) (C0 : GT) (C1 : JQ) (a : QJ) : (E6 pp w C0 C1 a).norm (roundT pp G.kd w 1 (G.an 207) (loopAt pp 207 2) (Wx a)) = E6 pp w C0 C1 a := by kernel_rfl
theorem Qio (P : Pg) (w : Cf) (lp : Lo) (C0 : GT) (C1 : JQ) (K0 : Qka w C0) (K1 : P8 w C1) (a : QJ) : (E6 P w C0 C1 a).ok lp (Sum.elim (fun a => (.norm, Wx a)) ZM) := ⟨rfl, fun hq0 => fun r1 hr1 => ⟨K0 _ _ hr1, ⟨rfl, fun hq1 => yesN_ok 5 (hq1) (⟨rfl, fun hq2 => yesN_ok 2 (hq2) (fun r2 hr2 => ⟨K1 _ _ _ hr2, ⟨hq2, ⟨rfl, fun hq3 => rfl, fun hq3 => rfl⟩⟩⟩), fun hq2 => noN_ok 3 (hq2) (⟨rfl, rfl⟩)⟩), fun hq1 => noN_ok 5 (hq1) (noN_ok 5 (rfl) (rfl))⟩⟩, fun hq0 => rfl⟩
theorem Qip {C0 : Nat → GT} {D0 : GT} (H0 : Cv1 C0 D0) {C1 : Nat → JQ} {D1 : JQ} (H1 : Cv2 C1 D1) (a : QJ) : Cv (fun k => V2 (C0 k) (C1 k) a) (V2 D0 D1 a) := by
  unfold V2
  exact .cond (.bind (H0 _) fun r1 => .cond (.cond (.bind (H1 _ _) fun r2 => by exact .const _) (by exact .const _)) (by exact .const _)) (by exact .const _)
def QL.s (k : Nat) (C0 : GT) (C1 : JQ) : QJ → Option (Uf ⊕ Qd) := iter (V2 C0 C1) k
theorem Qhz (w : Cf) (k : Nat) (C0 : GT) (C1 : JQ) (K0 : Qka w C0) (K1 : P8 w C1) (a : QJ) (r : (Uf ⊕ Qd)) (h : QL.s k C0 C1 a = some r) : loopsF pp G.kd w 1 (G.an 207) k (loopAt pp 207 2) (Wx a) = some (ZM r) :=
  loop_ok (fun a => E6 pp w C0 C1 a) (fun _ => rfl) (fun a => Qin w _ _ a) (fun a => Qio _ w _ _ _ K0 K1 a) (fun r => by cases r <;> nofun) h
noncomputable def QL.w (C0 : GT) (C1 : JQ) : QJ → Option (Uf ⊕ Qd) := loopW (V2 C0 C1)
theorem QL.cv (C0 : Nat → GT) (C1 : Nat → JQ) (D0 : GT) (D1 : JQ) (H0 : Cv1 C0 D0) (H1 : Cv2 C1 D1) (a : QJ) : Cv (fun k => QL.s k (C0 k) (C1 k) a) (QL.w D0 D1 a) := Cv.iter (fun a => Qip H0 H1 a) a
def XW (L0 : XV) (a1 : Int) (h0 : Qd) : Option (Int × Qd) := ((L0 (QJ.mk a1 (5 : Int) h0)).bind fun x => Sum.elim (fun (o1 : Uf) => (some (o1.x4, o1.h0))) (fun (o2 : Qd) => (some ((0 : Int), o2))) x)
def PT (P : Pg) (w : Cf) (L0 : XV) (a1 : Int) (h0 : Qd) : Tr (Int × Qd) AH := (.loop2 (loopAt P 207 2) (Wx (QJ.mk a1 (zi 5) h0)) (L0 (QJ.mk a1 (zi 5) h0)) Qcr Qcs (fun (o1 : Uf) => (rt ED (o1.x4, o1.h0))) (fun (o2 : Qd) => (rt ED ((zi 0), o2))))
theorem Qkb (w : Cf) (L0 : XV) (a1 : Int) (h0 : Qd) : (PT pp w L0 a1 h0).norm (bodyT pp w G 207 (PQ a1 h0).1 (PQ a1 h0).2) = PT pp w L0 a1 h0 := by kernel_rfl
theorem Qkc (P : Pg) (w : Cf) (lp : Lo) (L0 : XV) (N0 : Qji P lp L0) (a1 : Int) (h0 : Qd) : (PT P w L0 a1 h0).ok lp ED := ⟨fun o1 ho1 => ⟨N0 _ (.inl _) ho1, rfl⟩, fun o2 ho2 => ⟨N0 _ (.inr _) ho2, rfl⟩⟩
theorem Qkd {L0 : Nat → XV} {M0 : XV} (N0 : Cv1 L0 M0) (a1 : Int) (h0 : Qd) : Cv (fun k => XW (L0 k) a1 h0) (XW M0 a1 h0) := by
  unfold XW
  exact .bind (N0 _) fun x => .sum (fun o1 => by exact .const _) (fun o2 => by exact .const _) x
def JH.s : Nat → Int → Qd → Option (Int × Qd)
  | 0, _, _ => none
  | k + 1, a1, h0 => XW (QL.s k (YA.s k) (Jn.s k)) a1 h0
theorem JH.ok : ∀ (k : Nat), Qcq (ev k) (JH.s k)
  | 0, _, _, _, h => (nomatch h)
  | k + 1, a1, h0, r, h => fn_ok rfl (PT pp (ev k) (QL.s k (YA.s k) (Jn.s k)) a1 h0) (Qkb _ _ a1 h0) (Qkc _ _ _ _  (Qhz _ k _ _ (YA.ok k) (Jn.ok k)) a1 h0) h
noncomputable def QL : QJ → Option (Uf ⊕ Qd) := QL.w YA Jn
theorem QL.eq (a : QJ) : QL a = (V2 YA Jn a).bind (Sum.elim QL some) := loopW_eq _ _
noncomputable def JH (a1 : Int) (h0 : Qd) : Option (Int × Qd) := XW QL a1 h0
theorem JH.cv (a1 : Int) (h0 : Qd) : Cv (fun k => JH.s k a1 h0) (JH a1 h0) := .un rfl (Qkd (QL.cv (fun k => YA.s k) (fun k => Jn.s k) YA Jn YA.cv Jn.cv) a1 h0)
theorem JH.eq (a1 : Int) (h0 : Qd) : JH a1 h0 = XW QL a1 h0 := rfl
def Xk (r : (Qb × Qd)) : AV × Heap := (.agg (Q7 r.1), [(0, .box [] (J1 r.2))])
def VO (r : (Qb × Qd)) : AV × Heap := (.agg (Q7 r.1), [(0, .box [] (J1 r.2))])
def Yu (r : (Qb × Qd)) : AV × Heap := (.agg (Q7 r.1), [(0, .box [] (J1 r.2))])
abbrev YN := Bool → Qd → Option (Qb × Qd)
abbrev Pa (a1 : Bool) (h0 : Qd) : List AV × Heap := ([.ptr 0 0, xo a1], [(0, .box [] (J1 h0))])
abbrev QaH (w : Cf) (a1 : Bool) (h0 : Qd) : Option AH := w 234 (Pa a1 h0).1 (Pa a1 h0).2
abbrev Qfj (w : Cf) (c : YN) : Prop := ∀ (a1 : Bool) (h0 : Qd) (r : (Qb × Qd)), c a1 h0 = some r → QaH w a1 h0 = some (Xk r)
abbrev VN := Qd → Option (Qb × Qd)
abbrev Sr (h0 : Qd) : List AV × Heap := ([.ptr 0 0], [(0, .box [] (J1 h0))])
abbrev Qct (w : Cf) (h0 : Qd) : Option AH := w 206 (Sr h0).1 (Sr h0).2
abbrev QcY (w : Cf) (c : VN) : Prop := ∀ (h0 : Qd) (r : (Qb × Qd)), c h0 = some r → Qct w h0 = some (VO r)
abbrev QW := Int → Qd → Option (Qb × Qd)
abbrev Ss (a1 : Int) (h0 : Qd) : List AV × Heap := ([.ptr 0 0, xi a1], [(0, .box [] (J1 h0))])
abbrev Fy (w : Cf) (a1 : Int) (h0 : Qd) : Option AH := w 159 (Ss a1 h0).1 (Ss a1 h0).2
abbrev Z5 (w : Cf) (c : QW) : Prop := ∀ (a1 : Int) (h0 : Qd) (r : (Qb × Qd)), c a1 h0 = some r → Fy w a1 h0 = some (Yu r)
def Xl (C0 : QW) (C1 : JQ) (C2 : VN) (a1 : Bool) (h0 : Qd) : Option (Qb × Qd) := (bif (decide (h0.Deep ≥ 12)) then (some ((Qb.mk (0 : Int) (0 : Int) s_ ([] : List Qb)), (Qd.mk h0.S h0.P h0.Deep true))) else (bif a1 then ((C0 (0 : Int) (Qd.mk h0.S h0.P (w64 (h0.Deep + 1)) h0.Bad)).bind fun r1 => ((C1 h_29 r1.2).bind fun r2 => (bif (!r2.1) then (some (r1.1, (Qd.mk r2.2.S r2.2.P (w64 (r2.2.Deep - 1)) true))) else (some (r1.1, (Qd.mk r2.2.S r2.2.P (w64 (r2.2.Deep - 1)) r2.2.Bad)))))) else ((C2 (Qd.mk h0.S h0.P (w64 (h0.Deep + 1)) h0.Bad)).bind fun r3 => (some ((Qb.mk (4 : Int) (0 : Int) s_ [r3.1]), (Qd.mk r3.2.S r3.2.P (w64 (r3.2.Deep - 1)) r3.2.Bad))))))
def Pb (P : Pg) (w : Cf) (C0 : QW) (C1 : JQ) (C2 : VN) (a1 : Bool) (h0 : Qd) : Tr (Qb × Qd) AH := (.as (decide (h0.Deep ≥ 12)) (rt Xk ((Qb.mk (zi 0) (zi 0) s_ ([] : List Qb)), (Qd.mk h0.S h0.P h0.Deep true))) (.as a1 (.call (Fy w (zi 0) (Qd.mk h0.S h0.P (w64 (h0.Deep + 1)) h0.Bad)) (C0 (zi 0) (Qd.mk h0.S h0.P (w64 (h0.Deep + 1)) h0.Bad)) Yu fun r1 => (.call (Z2 w h_29 r1.2) (C1 h_29 r1.2) WL fun r2 => (.as (!r2.1) (rt Xk (r1.1, (Qd.mk r2.2.S r2.2.P (w64 (r2.2.Deep - 1)) true))) (rt Xk (r1.1, (Qd.mk r2.2.S r2.2.P (w64 (r2.2.Deep - 1)) r2.2.Bad)))))) (.call (Qct w (Qd.mk h0.S h0.P (w64 (h0.Deep + 1)) h0.Bad)) (C2 (Qd.mk h0.S h0.P (w64 (h0.Deep + 1)) h0.Bad)) VO fun r3 => (.rows [[xi r3.1.Kind, xi r3.1.N, xs r3.1.Name, .sl (Uj r3.1.L)]] (Uj [r3.1]) (rt Xk ((Qb.mk (zi 4) (zi 0) s_ [r3.1]), (Qd.mk r3.2.S r3.2.P (w64 (r3.2.Deep - 1)) r3.2.Bad)))))))
theorem QjI (w : Cf) (C0 : QW) (C1 : JQ) (C2 : VN) (a1 : Bool) (h0 : Qd) : (Pb pp w C0 C1 C2 a1 h0).norm (bodyT pp w G 234 (Pa a1 h0).1 (Pa a1 h0).2) = Pb pp w C0 C1 C2 a1 h0 := by kernel_rfl
theorem QjJ (P : Pg) (w : Cf) (lp : Lo) (C0 : QW) (C1 : JQ) (C2 : VN) (K0 : Z5 w C0) (K1 : P8 w C1) (K2 : QcY w C2) (a1 : Bool) (h0 : Qd) : (Pb P w C0 C1 C2 a1 h0).ok lp Xk := ⟨rfl, fun hq0 => rfl, fun hq0 => ⟨rfl, fun hq1 => fun r1 hr1 => ⟨K0 _ _ _ hr1, fun r2 hr2 => ⟨K1 _ _ _ hr2, ⟨rfl, fun hq2 => rfl, fun hq2 => rfl⟩⟩⟩, fun hq1 => fun r3 hr3 => ⟨K2 _ _ hr3, ⟨(El [r3.1]), rfl⟩⟩⟩⟩
theorem Qeh {C0 : Nat → QW} {D0 : QW} (H0 : Cv2 C0 D0) {C1 : Nat → JQ} {D1 : JQ} (H1 : Cv2 C1 D1) {C2 : Nat → VN} {D2 : VN} (H2 : Cv1 C2 D2) (a1 : Bool) (h0 : Qd) : Cv (fun k => Xl (C0 k) (C1 k) (C2 k) a1 h0) (Xl D0 D1 D2 a1 h0) := by
  unfold Xl
  exact .cond (by exact .const _) (.cond (.bind (H0 _ _) fun r1 => .bind (H1 _ _) fun r2 => by exact .const _) (.bind (H2 _) fun r3 => by exact .const _))
def Xy (C0 : JQ) (C1 : YN) (C2 : Yq) (C3 : Ww) (C4 : Zh) (h0 : Qd) : Option (Qb × Qd) := (bif h0.Bad then (some ((Qb.mk (0 : Int) (0 : Int) s_ ([] : List Qb)), h0)) else ((C0 h_28 h0).bind fun r1 => (bif r1.1 then ((C1 true r1.2).bind fun r2 => (some (r2.1, r2.2))) else ((C0 h_2d r1.2).bind fun r3 => (bif r3.1 then ((C1 false r3.2).bind fun r4 => (some (r4.1, r4.2))) else ((C0 h_2e r3.2).bind fun r5 => (bif r5.1 then (some ((Qb.mk (3 : Int) (0 : Int) s_ ([] : List Qb)), r5.2)) else ((C0 s_0x r5.2).bind fun r6 => (bif r6.1 then ((C2 (16 : Int) r6.2).bind fun r7 => (some (r7.1, r7.2))) else (bif (decide (r6.2.P < ((r6.2.S.size : Nat) : Int))) then (bif (decide (0 ≤ r6.2.P ∧ r6.2.P < ((r6.2.S.size : Nat) : Int))) then ((C3 ((r6.2.S.data.getD (Int.toNat r6.2.P) 0).toNat : Int) (10 : Int)).bind fun r8 => (bif (decide (r8 ≥ 0)) then ((C2 (10 : Int) r6.2).bind fun r9 => (some (r9.1, r9.2))) else ((C4 r6.2).bind fun r10 => (some (r10.1, r10.2))))) else none) else ((C4 r6.2).bind fun r11 => (some (r11.1, r11.2)))))))))))))
def Su (P : Pg) (w : Cf) (C0 : JQ) (C1 : YN) (C2 : Yq) (C3 : Ww) (C4 : Zh) (h0 : Qd) : Tr (Qb × Qd) AH := (.as h0.Bad (rt VO ((Qb.mk (zi 0) (zi 0) s_ ([] : List Qb)), h0)) (.call (Z2 w h_28 h0) (C0 h_28 h0) WL fun r1 => (.as r1.1 (.call (QaH w true r1.2) (C1 true r1.2) Xk fun r2 => (rt VO (r2.1, r2.2))) (.call (Z2 w h_2d r1.2) (C0 h_2d r1.2) WL fun r3 => (.as r3.1 (.call (QaH w false r3.2) (C1 false r3.2) Xk fun r4 => (rt VO (r4.1, r4.2))) (.call (Z2 w h_2e r3.2) (C0 h_2e r3.2) WL fun r5 => (.as r5.1 (rt VO ((Qb.mk (zi 3) (zi 0) s_ ([] : List Qb)), r5.2)) (.call (Z2 w s_0x r5.2) (C0 s_0x r5.2) WL fun r6 => (.as r6.1 (.call (SZ w (zi 16) r6.2) (C2 (zi 16) r6.2) XT fun r7 => (rt VO (r7.1, r7.2))) (let u114 := (decide (r6.2.P < (zz r6.2.S))); .as u114 (yesN 8 u114 (.as (in1 r6.2.P (zz r6.2.S)) (.yes u114 (.call (QeF w (gb r6.2.S r6.2.P) (zi 10)) (C3 (gb r6.2.S r6.2.P) (zi 10)) Xx fun r8 => (yesN 2 u114 (.as (decide (r8 ≥ 0)) (.call (SZ w (zi 10) r6.2) (C2 (zi 10) r6.2) XT fun r9 => (rt VO (r9.1, r9.2))) (.call (Qbh w r6.2) (C4 r6.2) Z4 fun r10 => (rt VO (r10.1, r10.2))))))) .fail)) (noN 11 u114 (.no false (.call (Qbh w r6.2) (C4 r6.2) Z4 fun r11 => (rt VO (r11.1, r11.2)))))))))))))))
theorem QkR (w : Cf) (C0 : JQ) (C1 : YN) (C2 : Yq) (C3 : Ww) (C4 : Zh) (h0 : Qd) : (Su pp w C0 C1 C2 C3 C4 h0).norm (bodyT pp w G 206 (Sr h0).1 (Sr h0).2) = Su pp w C0 C1 C2 C3 C4 h0 := by kernel_rfl
theorem QkS (P : Pg) (w : Cf) (lp : Lo) (C0 : JQ) (C1 : YN) (C2 : Yq) (C3 : Ww) (C4 : Zh) (K0 : P8 w C0) (K1 : Qfj w C1) (K2 : Qeg w C2) (K3 : QfK w C3) (K4 : QfL w C4) (h0 : Qd) : (Su P w C0 C1 C2 C3 C4 h0).ok lp VO := ⟨rfl, fun hq0 => rfl, fun hq0 => fun r1 hr1 => ⟨K0 _ _ _ hr1, ⟨rfl, fun hq1 => fun r2 hr2 => ⟨K1 _ _ _ hr2, rfl⟩, fun hq1 => fun r3 hr3 => ⟨K0 _ _ _ hr3, ⟨rfl, fun hq2 => fun r4 hr4 => ⟨K1 _ _ _ hr4, rfl⟩, fun hq2 => fun r5 hr5 => ⟨K0 _ _ _ hr5, ⟨rfl, fun hq3 => rfl, fun hq3 => fun r6 hr6 => ⟨K0 _ _ _ hr6, ⟨rfl, fun hq4 => fun r7 hr7 => ⟨K2 _ _ _ hr7, rfl⟩, fun hq4 => ⟨rfl, fun hq5 => yesN_ok 8 (hq5) (⟨rfl, fun hq6 => ⟨hq5, fun r8 hr8 => ⟨K3 _ _ _ hr8, yesN_ok 2 (hq5) (⟨rfl, fun hq7 => fun r9 hr9 => ⟨K2 _ _ _ hr9, rfl⟩, fun hq7 => fun r10 hr10 => ⟨K4 _ _ hr10, rfl⟩⟩)⟩⟩, fun hq6 => trivial⟩), fun hq5 => noN_ok 11 (hq5) (⟨rfl, fun r11 hr11 => ⟨K4 _ _ hr11, rfl⟩⟩)⟩⟩⟩⟩⟩⟩⟩⟩⟩⟩
theorem QfP {C0 : Nat → JQ} {D0 : JQ} (H0 : Cv2 C0 D0) {C1 : Nat → YN} {D1 : YN} (H1 : Cv2 C1 D1) {C2 : Nat → Yq} {D2 : Yq} (H2 : Cv2 C2 D2) {C3 : Nat → Ww} {D3 : Ww} (H3 : Cv2 C3 D3) {C4 : Nat → Zh} {D4 : Zh} (H4 : Cv1 C4 D4) (h0 : Qd) : Cv (fun k => Xy (C0 k) (C1 k) (C2 k) (C3 k) (C4 k) h0) (Xy D0 D1 D2 D3 D4 h0) := by
  unfold Xy
  exact .cond (by exact .const _) (.bind (H0 _ _) fun r1 => .cond (.bind (H1 _ _) fun r2 => by exact .const _) (.bind (H0 _ _) fun r3 => .cond (.bind (H1 _ _) fun r4 => by exact .const _) (.bind (H0 _ _) fun r5 => .cond (by exact .const _) (.bind (H0 _ _) fun r6 => .cond (.bind (H2 _ _) fun r7 => by exact .const _) (.cond (.cond (.bind (H3 _ _) fun r8 => .cond (.bind (H2 _ _) fun r9 => by exact .const _) (.bind (H4 _) fun r10 => by exact .const _)) (by exact .const _)) (.bind (H4 _) fun r11 => by exact .const _))))))
structure Q6 where
  x1 : Int
  h0 : Qd
  h1 : Qb
  h2 : Qb
structure Uv where
  h0 : Qd
  h1 : Qb
def YY (a : Q6) : St := { n := 29, nx := 3, env := [(0, .ptr 0 0), (1, xi a.x1), (4, .ptr 1 0), (5, .ptr 2 0)], heap := [(0, .box [] (J1 a.h0)), (1, .box [] (Q7 a.h1)), (2, .box [] (Q7 a.h2))] }
def Gu (a : Uv) : Ex × St := (.ret, { n := 29, nx := 2, env := [(4, .ptr 1 0)], heap := [(0, .box [] (J1 a.h0)), (1, .box [] (Q7 a.h1))] })
abbrev Yr := Q6 → Option Uv
abbrev QjK (P : Pg) (lp : Lo) (l : Yr) : Prop := ∀ (a : Q6) (r : Uv), l a = some r → lp (loopAt P 159 4) (YY a) = some (Gu r)
def WP (C0 : Ve) (C1 : QW) (a : Q6) : Option (Q6 ⊕ Uv) := ((C0 a.x1 a.h0).bind fun r1 => (bif (r1.1 == 0) then (some (.inr (Uv.mk r1.2 a.h2))) else ((C1 (w64 (a.x1 + 1)) r1.2).bind fun r2 => (some (.inl (Q6.mk a.x1 r2.2 a.h1 (Qb.mk r1.1 (0 : Int) s_ [a.h2, r2.1])))))))
def Fz (P : Pg) (w : Cf) (C0 : Ve) (C1 : QW) (a : Q6) : Tr (Q6 ⊕ Uv) XS := (.call (Qfi w a.x1 a.h0) (C0 a.x1 a.h0) ED fun r1 => (.as (r1.1 == 0) (rx Gu (Uv.mk r1.2 a.h2)) (.call (Fy w (w64 (a.x1 + 1)) r1.2) (C1 (w64 (a.x1 + 1)) r1.2) Yu fun r2 => (.rows [[xi a.h2.Kind, xi a.h2.N, xs a.h2.Name, .sl (Uj a.h2.L)], [xi r2.1.Kind, xi r2.1.N, xs r2.1.Name, .sl (Uj r2.1.L)]] (Uj [a.h2, r2.1]) (lf YY (Q6.mk a.x1 r2.2 a.h1 (Qb.mk r1.1 (zi 0) s_ [a.h2, r2.1])))))))
theorem Qjj (w : Cf) (C0 : Ve) (C1 : QW) (a : Q6) : (Fz pp w C0 C1 a).norm (roundT pp G.kd w 1 (G.an 159) (loopAt pp 159 4) (YY a)) = Fz pp w C0 C1 a := by kernel_rfl
theorem Qjk (P : Pg) (w : Cf) (lp : Lo) (C0 : Ve) (C1 : QW) (K0 : Qcq w C0) (K1 : Z5 w C1) (a : Q6) : (Fz P w C0 C1 a).ok lp (Sum.elim (fun a => (.norm, YY a)) Gu) := fun r1 hr1 => ⟨K0 _ _ _ hr1, ⟨rfl, fun hq0 => rfl, fun hq0 => fun r2 hr2 => ⟨K1 _ _ _ hr2, ⟨(El [a.h2, r2.1]), rfl⟩⟩⟩⟩
theorem QdZ {C0 : Nat → Ve} {D0 : Ve} (H0 : Cv2 C0 D0) {C1 : Nat → QW} {D1 : QW} (H1 : Cv2 C1 D1) (a : Q6) : Cv (fun k => WP (C0 k) (C1 k) a) (WP D0 D1 a) := by
  unfold WP
  exact .bind (H0 _ _) fun r1 => .cond (by exact .const _) (.bind (H1 _ _) fun r2 => by exact .const _)
def Jy.s (k : Nat) (C0 : Ve) (C1 : QW) : Q6 → Option Uv := iter (WP C0 C1) k
theorem Qiq (w : Cf) (k : Nat) (C0 : Ve) (C1 : QW) (K0 : Qcq w C0) (K1 : Z5 w C1) (a : Q6) (r : Uv) (h : Jy.s k C0 C1 a = some r) : loopsF pp G.kd w 1 (G.an 159) k (loopAt pp 159 4) (YY a) = some (Gu r) :=
  loop_ok (fun a => Fz pp w C0 C1 a) (fun _ => rfl) (fun a => Qjj w _ _ a) (fun a => Qjk _ w _ _ _ K0 K1 a) (fun r => nofun) h
theorem Jy.m {j k : Nat} (hj : j ≤ k) (C0 : Ve) (C1 : QW) (D0 : Ve) (D1 : QW) (H0 : Le2 C0 D0) (H1 : Le2 C1 D1) (a : Q6) : Le (Jy.s j C0 C1 a) (Jy.s k D0 D1 a) := Le.iter (fun a => (QdZ (tw2 H0) (tw2 H1) a).1 0) hj a
noncomputable def Jy.w (C0 : Ve) (C1 : QW) : Q6 → Option Uv := loopW (WP C0 C1)
theorem Jy.cv (C0 : Nat → Ve) (C1 : Nat → QW) (D0 : Ve) (D1 : QW) (H0 : Cv2 C0 D0) (H1 : Cv2 C1 D1) (a : Q6) : Cv (fun k => Jy.s k (C0 k) (C1 k) a) (Jy.w D0 D1 a) := Cv.iter (fun a => QdZ H0 H1 a) a
def Zi (C0 : VN) (C1 : QW) (L2 : Yr) (a1 : Int) (h0 : Qd) : Option (Qb × Qd) := (bif (decide (a1 > 4)) then ((C0 h0).bind fun r1 => (some (r1.1, r1.2))) else ((C1 (w64 (a1 + 1)) h0).bind fun r2 => ((L2 (Q6.mk a1 r2.2 (Qb.mk (0 : Int) (0 : Int) s_ ([] : List Qb)) r2.1)).bind (fun (o3 : Uv) => (some (o3.h1, o3.h0))))))
def Sv (P : Pg) (w : Cf) (C0 : VN) (C1 : QW) (L2 : Yr) (a1 : Int) (h0 : Qd) : Tr (Qb × Qd) AH := (.as (decide (a1 > 4)) (.call (Qct w h0) (C0 h0) VO fun r1 => (rt Yu (r1.1, r1.2))) (.call (Fy w (w64 (a1 + 1)) h0) (C1 (w64 (a1 + 1)) h0) Yu fun r2 => (.loop (loopAt P 159 4) (YY (Q6.mk a1 r2.2 (Qb.mk (zi 0) (zi 0) s_ ([] : List Qb)) r2.1)) (L2 (Q6.mk a1 r2.2 (Qb.mk (zi 0) (zi 0) s_ ([] : List Qb)) r2.1)) Gu (fun (o3 : Uv) => (rt Yu (o3.h1, o3.h0))))))
theorem QkT (w : Cf) (C0 : VN) (C1 : QW) (L2 : Yr) (a1 : Int) (h0 : Qd) : (Sv pp w C0 C1 L2 a1 h0).norm (bodyT pp w G 159 (Ss a1 h0).1 (Ss a1 h0).2) = Sv pp w C0 C1 L2 a1 h0 := by kernel_rfl
theorem QkU (P : Pg) (w : Cf) (lp : Lo) (C0 : VN) (C1 : QW) (L2 : Yr) (K0 : QcY w C0) (K1 : Z5 w C1) (N2 : QjK P lp L2) (a1 : Int) (h0 : Qd) : (Sv P w C0 C1 L2 a1 h0).ok lp Yu := ⟨rfl, fun hq0 => fun r1 hr1 => ⟨K0 _ _ hr1, rfl⟩, fun hq0 => fun r2 hr2 => ⟨K1 _ _ _ hr2, fun o3 ho3 => ⟨N2 _ _ ho3, rfl⟩⟩⟩
theorem QfQ {C0 : Nat → VN} {D0 : VN} (H0 : Cv1 C0 D0) {C1 : Nat → QW} {D1 : QW} (H1 : Cv2 C1 D1) {L2 : Nat → Yr} {M2 : Yr} (N2 : Cv1 L2 M2) (a1 : Int) (h0 : Qd) : Cv (fun k => Zi (C0 k) (C1 k) (L2 k) a1 h0) (Zi D0 D1 M2 a1 h0) := by
  unfold Zi
  exact .cond (.bind (H0 _) fun r1 => by exact .const _) (.bind (H1 _ _) fun r2 => .bind (N2 _) (fun o3 => by exact .const _))
mutual
def QO.s : Nat → Bool → Qd → Option (Qb × Qd)
  | 0, _, _ => none
  | k + 1, a1, h0 => Xl (fun a1 h0 => Ql.s k a1 h0) (Jn.s k) (fun h0 => QK.s k h0) a1 h0
termination_by structural k => k
def QK.s : Nat → Qd → Option (Qb × Qd)
  | 0, _ => none
  | k + 1, h0 => Xy (Jn.s k) (fun a1 h0 => QO.s k a1 h0) (JG.s k) (UF.s k) (UN.s k) h0
termination_by structural k => k
def Ql.s : Nat → Int → Qd → Option (Qb × Qd)
  | 0, _, _ => none
  | k + 1, a1, h0 => Zi (fun h0 => QK.s k h0) (fun a1 h0 => Ql.s k a1 h0) (Jy.s k (JH.s k) (fun a1 h0 => Ql.s k a1 h0)) a1 h0
termination_by structural k => k
end
theorem QcP : ∀ (k : Nat), (Qfj (ev k) (QO.s k)) ∧ (QcY (ev k) (QK.s k)) ∧ (Z5 (ev k) (Ql.s k))
  | 0 => ⟨fun _ _ _ h => (nomatch h), fun _ _ h => (nomatch h), fun _ _ _ h => (nomatch h)⟩
  | k + 1 => by
    obtain ⟨i_r3_reader_inner, i_r3_reader_one, i_r3_reader_two⟩ := QcP k
    exact ⟨fun a1 h0 r h => fn_ok rfl (Pb pp (ev k) (Ql.s k) (Jn.s k) (QK.s k) a1 h0) (QjI _ _ _ _ a1 h0) (QjJ _ _ _ _ _ _ (i_r3_reader_two) (Jn.ok k) (i_r3_reader_one)  a1 h0) h,
      fun h0 r h => fn_ok rfl (Su pp (ev k) (Jn.s k) (QO.s k) (JG.s k) (UF.s k) (UN.s k) h0) (QkR _ _ _ _ _ _ h0) (QkS _ _ _ _ _ _ _ _ (Jn.ok k) (i_r3_reader_inner) (JG.ok k) (UF.ok k) (UN.ok k)  h0) h,
      fun a1 h0 r h => fn_ok rfl (Sv pp (ev k) (QK.s k) (Ql.s k) (Jy.s k (JH.s k) (Ql.s k)) a1 h0) (QkT _ _ _ _ a1 h0) (QkU _ _ _ _ _ _ (i_r3_reader_one) (i_r3_reader_two) (Qiq _ k _ _ (JH.ok k) (i_r3_reader_two)) a1 h0) h⟩
theorem Ql.ok (k : Nat) : Z5 (ev k) (Ql.s k) := (QcP k).2.2
theorem Ee : ∀ (k : Nat), (∀ (a1 : Bool) (h0 : Qd), Le (QO.s k a1 h0) (QO.s (k + 1) a1 h0)) ∧ (∀ (h0 : Qd), Le (QK.s k h0) (QK.s (k + 1) h0)) ∧ (∀ (a1 : Int) (h0 : Qd), Le (Ql.s k a1 h0) (Ql.s (k + 1) a1 h0))
  | 0 => ⟨fun _ _ _ h => (nomatch h), fun _ _ h => (nomatch h), fun _ _ _ h => (nomatch h)⟩
  | k + 1 => by
    obtain ⟨i_r3_reader_inner, i_r3_reader_one, i_r3_reader_two⟩ := Ee k
    exact ⟨fun a1 h0 => (Qeh (tw2 (i_r3_reader_two)) (tw2 (fun a1 h0 => (Jn.cv a1 h0).1 k)) (tw1 (i_r3_reader_one)) a1 h0).1 0,
      fun h0 => (QfP (tw2 (fun a1 h0 => (Jn.cv a1 h0).1 k)) (tw2 (i_r3_reader_inner)) (tw2 (fun a1 h0 => (JG.cv a1 h0).1 k)) (tw2 (fun a0 a1 => (UF.cv a0 a1).1 k)) (tw1 (fun h0 => (UN.cv h0).1 k)) h0).1 0,
      fun a1 h0 => (QfQ (tw1 (i_r3_reader_one)) (tw2 (i_r3_reader_two)) (tw1 (Jy.m (Nat.le_succ k) (JH.s k) (Ql.s k) (JH.s (k + 1)) (Ql.s (k + 1)) (fun a1 h0 => (JH.cv a1 h0).1 k) (i_r3_reader_two))) a1 h0).1 0⟩
theorem QO.mono (k : Nat) : ∀ (a1 : Bool) (h0 : Qd), Le (QO.s k a1 h0) (QO.s (k + 1) a1 h0) := (Ee k).1
theorem QK.mono (k : Nat) : ∀ (h0 : Qd), Le (QK.s k h0) (QK.s (k + 1) h0) := (Ee k).2.1
theorem Ql.mono (k : Nat) : ∀ (a1 : Int) (h0 : Qd), Le (Ql.s k a1 h0) (Ql.s (k + 1) a1 h0) := (Ee k).2.2
noncomputable def QO (a1 : Bool) (h0 : Qd) : Option (Qb × Qd) := lim fun k => QO.s k a1 h0
theorem QO.cv (a1 : Bool) (h0 : Qd) : Cv (fun k => QO.s k a1 h0) (QO a1 h0) := .lim fun k => QO.mono k a1 h0
noncomputable def QK (h0 : Qd) : Option (Qb × Qd) := lim fun k => QK.s k h0
theorem QK.cv (h0 : Qd) : Cv (fun k => QK.s k h0) (QK h0) := .lim fun k => QK.mono k h0
noncomputable def Ql (a1 : Int) (h0 : Qd) : Option (Qb × Qd) := lim fun k => Ql.s k a1 h0
theorem Ql.cv (a1 : Int) (h0 : Qd) : Cv (fun k => Ql.s k a1 h0) (Ql a1 h0) := .lim fun k => Ql.mono k a1 h0
noncomputable def Jy : Q6 → Option Uv := Jy.w JH Ql
theorem Jy.eq (a : Q6) : Jy a = (WP JH Ql a).bind (Sum.elim Jy some) := loopW_eq _ _
theorem QO.eq (a1 : Bool) (h0 : Qd) : QO a1 h0 = Xl Ql Jn QK a1 h0 := Cv.uniq (QO.cv a1 h0).shift (Qeh Ql.cv Jn.cv QK.cv a1 h0)
theorem QK.eq (h0 : Qd) : QK h0 = Xy Jn QO JG UF UN h0 := Cv.uniq (QK.cv h0).shift (QfP Jn.cv QO.cv JG.cv UF.cv UN.cv h0)
theorem Ql.eq (a1 : Int) (h0 : Qd) : Ql a1 h0 = Zi QK Ql Jy a1 h0 := Cv.uniq (Ql.cv a1 h0).shift (QfQ QK.cv Ql.cv (Jy.cv (fun k => JH.s k) (fun k => Ql.s k) JH Ql JH.cv Ql.cv) a1 h0)
def QaD (r : (Qb × Bool)) : AV × Heap := (.tup [.agg (Q7 r.1), xo r.2], [])
abbrev S6 := ByteArray → Option (Qb × Bool)
abbrev QeH (a0 : ByteArray) : List AV × Heap := ([xs a0], [])
abbrev QkV (w : Cf) (a0 : ByteArray) : Option AH := w 107 (QeH a0).1 (QeH a0).2
abbrev QlI (w : Cf) (c : S6) : Prop := ∀ (a0 : ByteArray) (r : (Qb × Bool)), c a0 = some r → QkV w a0 = some (QaD r)
def FA (C0 : QW) (C1 : Vy) (a0 : ByteArray) : Option (Qb × Bool) := ((C0 (0 : Int) (Qd.mk a0 (0 : Int) (0 : Int) false)).bind fun r1 => ((C1 r1.2).bind fun r2 => (bif r2.Bad then (some ((Qb.mk (0 : Int) (0 : Int) s_ ([] : List Qb)), false)) else (bif (decide (r2.P < ((a0.size : Nat) : Int))) then (some ((Qb.mk (0 : Int) (0 : Int) s_ ([] : List Qb)), false)) else (some (r1.1, true))))))
def QeI (P : Pg) (w : Cf) (C0 : QW) (C1 : Vy) (a0 : ByteArray) : Tr (Qb × Bool) AH := (.call (Fy w (zi 0) (Qd.mk a0 (zi 0) (zi 0) false)) (C0 (zi 0) (Qd.mk a0 (zi 0) (zi 0) false)) Yu fun r1 => (.call (Qbg w r1.2) (C1 r1.2) EC fun r2 => (.as r2.Bad (yesN 7 r2.Bad (.yes true (rt QaD ((Qb.mk (zi 0) (zi 0) s_ ([] : List Qb)), false)))) (noN 7 r2.Bad (.as (decide (r2.P < (zz a0))) (rt QaD ((Qb.mk (zi 0) (zi 0) s_ ([] : List Qb)), false)) (rt QaD (r1.1, true)))))))
theorem QoB (w : Cf) (C0 : QW) (C1 : Vy) (a0 : ByteArray) : (QeI pp w C0 C1 a0).norm (bodyT pp w G 107 (QeH a0).1 (QeH a0).2) = QeI pp w C0 C1 a0 := by kernel_rfl
theorem QoC (P : Pg) (w : Cf) (lp : Lo) (C0 : QW) (C1 : Vy) (K0 : Z5 w C0) (K1 : Qcp w C1) (a0 : ByteArray) : (QeI P w C0 C1 a0).ok lp QaD := fun r1 hr1 => ⟨K0 _ _ _ hr1, fun r2 hr2 => ⟨K1 _ _ hr2, ⟨rfl, fun hq0 => yesN_ok 7 (hq0) (⟨rfl, rfl⟩), fun hq0 => noN_ok 7 (hq0) (⟨rfl, fun hq1 => rfl, fun hq1 => rfl⟩)⟩⟩⟩
theorem QoD {C0 : Nat → QW} {D0 : QW} (H0 : Cv2 C0 D0) {C1 : Nat → Vy} {D1 : Vy} (H1 : Cv1 C1 D1) (a0 : ByteArray) : Cv (fun k => FA (C0 k) (C1 k) a0) (FA D0 D1 a0) := by
  unfold FA
  exact .bind (H0 _ _) fun r1 => .bind (H1 _) fun r2 => by exact .const _
def Xv.s : Nat → ByteArray → Option (Qb × Bool)
  | 0, _ => none
  | k + 1, a0 => FA (Ql.s k) (JF.s k) a0
theorem Xv.ok : ∀ (k : Nat), QlI (ev k) (Xv.s k)
  | 0, _, _, h => (nomatch h)
  | k + 1, a0, r, h => fn_ok rfl (QeI pp (ev k) (Ql.s k) (JF.s k) a0) (QoB _ _ _ a0) (QoC _ _ _ _ _ (Ql.ok k) (JF.ok k)  a0) h
noncomputable def Xv (a0 : ByteArray) : Option (Qb × Bool) := FA Ql JF a0
theorem Xv.cv (a0 : ByteArray) : Cv (fun k => Xv.s k a0) (Xv a0) := .un rfl (QoD Ql.cv JF.cv a0)
theorem Xv.eq (a0 : ByteArray) : Xv a0 = FA Ql JF a0 := rfl
def Qd0 (r : ByteArray) : AV × Heap := (xs r, [])
abbrev Qbi := ByteArray → Option ByteArray
abbrev QfR (a0 : ByteArray) : List AV × Heap := ([xs a0], [])
abbrev QlJ (w : Cf) (a0 : ByteArray) : Option AH := w 54 (QfR a0).1 (QfR a0).2
abbrev Qm2 (w : Cf) (c : Qbi) : Prop := ∀ (a0 : ByteArray) (r : ByteArray), c a0 = some r → QlJ w a0 = some (Qd0 r)
structure JR where
  x0 : ByteArray
  x3 : Bool
  x4 : Int
def Zj (a : JR) : St := { n := 29, nx := 0, env := [(0, xs a.x0), (3, xo a.x3), (4, xi a.x4)], heap := [] }
def QhT (a : ByteArray) : Ex × St := (.ret, { n := 29, nx := 0, env := [(2, xs a)], heap := [] })
def QhU (a : ByteArray) : Ex × St := (.exit 0, { n := 29, nx := 0, env := [(0, xs a)], heap := [] })
def Pp (a : (ByteArray ⊕ ByteArray)) : Ex × St := Sum.elim QhT QhU a
abbrev FS := JR → Option (ByteArray ⊕ ByteArray)
abbrev QnW (P : Pg) (lp : Lo) (l : FS) : Prop := ∀ (a : JR) (r : (ByteArray ⊕ ByteArray)), l a = some r → lp (loopAt P 54 3) (Zj a) = some (Pp r)
def S7  (a : JR) : Option (JR ⊕ (ByteArray ⊕ ByteArray)) := (bif (decide (a.x4 < ((a.x0.size : Nat) : Int))) then (bif (decide (0 ≤ a.x4 ∧ a.x4 < ((a.x0.size : Nat) : Int))) then (bif (((a.x0.data.getD (Int.toNat a.x4) 0).toNat : Int) == 34) then (bif (((a.x0.data.getD (Int.toNat a.x4) 0).toNat : Int) == 35) then (bif (!(!a.x3)) then (bif (decide (0 ≤ (0 : Int) ∧ (0 : Int) ≤ a.x4 ∧ a.x4 ≤ ((a.x0.size : Nat) : Int))) then (some (.inr (.inl (a.x0.extract (Int.toNat 0) (Int.toNat a.x4))))) else none) else (some (.inl (JR.mk a.x0 (!a.x3) (w64 (a.x4 + 1)))))) else (some (.inl (JR.mk a.x0 (!a.x3) (w64 (a.x4 + 1)))))) else (bif (((a.x0.data.getD (Int.toNat a.x4) 0).toNat : Int) == 35) then (bif (!a.x3) then (bif (decide (0 ≤ (0 : Int) ∧ (0 : Int) ≤ a.x4 ∧ a.x4 ≤ ((a.x0.size : Nat) : Int))) then (some (.inr (.inl (a.x0.extract (Int.toNat 0) (Int.toNat a.x4))))) else none) else (some (.inl (JR.mk a.x0 a.x3 (w64 (a.x4 + 1)))))) else (some (.inl (JR.mk a.x0 a.x3 (w64 (a.x4 + 1))))))) else none) else (some (.inr (.inr a.x0))))
def Qcu (P : Pg) (w : Cf)  (a : JR) : Tr (JR ⊕ (ByteArray ⊕ ByteArray)) XS := (.as (decide (a.x4 < (zz a.x0))) (let u117 := (in1 a.x4 (zz a.x0)); .as u117 (.as ((gb a.x0 a.x4) == 34) (.yes u117 (let u115 := ((gb a.x0 a.x4) == 35); .as u115 (yesN 2 u115 (.as (!(!a.x3)) (.as (in2 (zi 0) a.x4 (zz a.x0)) (rx Pp (.inl (cu a.x0 (zi 0) a.x4))) .fail) (lf Zj (JR.mk a.x0 (!a.x3) (w64 (a.x4 + 1)))))) (noN 2 u115 (.no false (lf Zj (JR.mk a.x0 (!a.x3) (w64 (a.x4 + 1)))))))) (.yes u117 (let u116 := ((gb a.x0 a.x4) == 35); .as u116 (yesN 2 u116 (.as (!a.x3) (.as (in2 (zi 0) a.x4 (zz a.x0)) (rx Pp (.inl (cu a.x0 (zi 0) a.x4))) .fail) (lf Zj (JR.mk a.x0 a.x3 (w64 (a.x4 + 1)))))) (noN 2 u116 (.no false (lf Zj (JR.mk a.x0 a.x3 (w64 (a.x4 + 1))))))))) .fail) (rx Pp (.inr a.x0)))
theorem Qm3 (w : Cf)  (a : JR) : (Qcu pp w  a).norm (roundT pp G.kd w 0 (G.an 54) (loopAt pp 54 3) (Zj a)) = Qcu pp w  a := by kernel_rfl
theorem Qm4 (P : Pg) (w : Cf) (lp : Lo)   (a : JR) : (Qcu P w  a).ok lp (Sum.elim (fun a => (.norm, Zj a)) Pp) := ⟨rfl, fun hq0 => ⟨rfl, fun hq1 => ⟨rfl, fun hq2 => ⟨hq1, ⟨rfl, fun hq3 => yesN_ok 2 (hq3) (⟨rfl, fun hq4 => ⟨rfl, fun hq5 => rfl, fun hq5 => trivial⟩, fun hq4 => rfl⟩), fun hq3 => noN_ok 2 (hq3) (⟨rfl, rfl⟩)⟩⟩, fun hq2 => ⟨hq1, ⟨rfl, fun hq3 => yesN_ok 2 (hq3) (⟨rfl, fun hq4 => ⟨rfl, fun hq5 => rfl, fun hq5 => trivial⟩, fun hq4 => rfl⟩), fun hq3 => noN_ok 2 (hq3) (⟨rfl, rfl⟩)⟩⟩⟩, fun hq1 => trivial⟩, fun hq0 => rfl⟩
def VA.s (k : Nat)  : JR → Option (ByteArray ⊕ ByteArray) := iter (S7 ) k
theorem Ql8 (w : Cf) (k : Nat)   (a : JR) (r : (ByteArray ⊕ ByteArray)) (h : VA.s k  a = some r) : loopsF pp G.kd w 0 (G.an 54) k (loopAt pp 54 3) (Zj a) = some (Pp r) :=
  loop_ok (fun a => Qcu pp w  a) (fun _ => rfl) (fun a => Qm3 w  a) (fun a => Qm4 _ w _   a) (fun r => by cases r <;> nofun) h
noncomputable def VA.w  : JR → Option (ByteArray ⊕ ByteArray) := loopW (S7 )
theorem VA.cv    (a : JR) : Cv (fun k => VA.s k  a) (VA.w  a) := Cv.iter (fun a => by exact .const _) a
def S8 (L0 : FS) (a0 : ByteArray) : Option ByteArray := ((L0 (JR.mk a0 false (0 : Int))).bind fun x => Sum.elim (fun (o1 : ByteArray) => (some o1)) (fun (o2 : ByteArray) => (some o2)) x)
def QfS (P : Pg) (w : Cf) (L0 : FS) (a0 : ByteArray) : Tr ByteArray AH := (.loop2 (loopAt P 54 3) (Zj (JR.mk a0 false (zi 0))) (L0 (JR.mk a0 false (zi 0))) QhT QhU (fun (o1 : ByteArray) => (rt Qd0 o1)) (fun (o2 : ByteArray) => (rt Qd0 o2)))
theorem Qo7 (w : Cf) (L0 : FS) (a0 : ByteArray) : (QfS pp w L0 a0).norm (bodyT pp w G 54 (QfR a0).1 (QfR a0).2) = QfS pp w L0 a0 := by kernel_rfl
theorem Qo8 (P : Pg) (w : Cf) (lp : Lo) (L0 : FS) (N0 : QnW P lp L0) (a0 : ByteArray) : (QfS P w L0 a0).ok lp Qd0 := ⟨fun o1 ho1 => ⟨N0 _ (.inl _) ho1, rfl⟩, fun o2 ho2 => ⟨N0 _ (.inr _) ho2, rfl⟩⟩
theorem Qo9 {L0 : Nat → FS} {M0 : FS} (N0 : Cv1 L0 M0) (a0 : ByteArray) : Cv (fun k => S8 (L0 k) a0) (S8 M0 a0) := by
  unfold S8
  exact .bind (N0 _) fun x => .sum (fun o1 => by exact .const _) (fun o2 => by exact .const _) x
def Zx.s : Nat → ByteArray → Option ByteArray
  | 0, _ => none
  | k + 1, a0 => S8 (VA.s k) a0
theorem Zx.ok : ∀ (k : Nat), Qm2 (ev k) (Zx.s k)
  | 0, _, _, h => (nomatch h)
  | k + 1, a0, r, h => fn_ok rfl (QfS pp (ev k) (VA.s k) a0) (Qo7 _ _ a0) (Qo8 _ _ _ _  (Ql8 _ k) a0) h
noncomputable def VA : JR → Option (ByteArray ⊕ ByteArray) := VA.w 
theorem VA.eq (a : JR) : VA a = (S7  a).bind (Sum.elim VA some) := loopW_eq _ _
noncomputable def Zx (a0 : ByteArray) : Option ByteArray := S8 VA a0
theorem Zx.cv (a0 : ByteArray) : Cv (fun k => Zx.s k a0) (Zx a0) := .un rfl (Qo9 (VA.cv) a0)
theorem Zx.eq (a0 : ByteArray) : Zx a0 = S8 VA a0 := rfl
def ZA (r : ByteArray) : AV × Heap := (xs r, [])
abbrev UX := ByteArray → Option ByteArray
abbrev QfT (a0 : ByteArray) : List AV × Heap := ([xs a0], [])
abbrev Ej (w : Cf) (a0 : ByteArray) : Option AH := w 53 (QfT a0).1 (QfT a0).2
abbrev QcZ (w : Cf) (c : UX) : Prop := ∀ (a0 : ByteArray) (r : ByteArray), c a0 = some r → Ej w a0 = some (ZA r)
def EE (a : ByteArray) : St := { n := 43, nx := 0, env := [(0, xs a)], heap := [] }
def Pq (a : ByteArray) : Ex × St := (.exit 0, { n := 43, nx := 0, env := [(0, xs a)], heap := [] })
abbrev FT := ByteArray → Option ByteArray
abbrev QnX (P : Pg) (lp : Lo) (l : FT) : Prop := ∀ (a : ByteArray) (r : ByteArray), l a = some r → lp (loopAt P 53 1) (EE a) = some (Pq r)
def Qcv  (a : ByteArray) : Option (ByteArray ⊕ ByteArray) := (bif (decide (((a.size : Nat) : Int) > 0)) then (bif (decide (0 ≤ (0 : Int) ∧ (0 : Int) < ((a.size : Nat) : Int))) then (bif (((a.data.getD (Int.toNat 0) 0).toNat : Int) == 32) then (bif (decide (0 ≤ (1 : Int) ∧ (1 : Int) ≤ ((a.size : Nat) : Int) ∧ ((a.size : Nat) : Int) ≤ ((a.size : Nat) : Int))) then (some (.inl (a.extract (Int.toNat 1) (Int.toNat ((a.size : Nat) : Int))))) else none) else (bif (((a.data.getD (Int.toNat 0) 0).toNat : Int) == 9) then (bif (decide (0 ≤ (1 : Int) ∧ (1 : Int) ≤ ((a.size : Nat) : Int) ∧ ((a.size : Nat) : Int) ≤ ((a.size : Nat) : Int))) then (some (.inl (a.extract (Int.toNat 1) (Int.toNat ((a.size : Nat) : Int))))) else none) else (some (.inr a)))) else none) else (some (.inr a)))
def Qcw (P : Pg) (w : Cf)  (a : ByteArray) : Tr (ByteArray ⊕ ByteArray) XS := (let u120 := (decide ((zz a) > 0)); .as u120 (.yes u120 (let u119 := (in1 (zi 0) (zz a)); .as u119 (yesN 2 u120 (let u118 := ((gb a (zi 0)) == 32); .as u118 (yesN 2 u118 (.yes u120 (.yes u118 (.yes u120 (.yes true (.as (in2 (zi 1) (zz a) (zz a)) (lf EE (cu a (zi 1) (zz a))) .fail)))))) (.no u118 (.yes u119 (.no u118 (.yes u120 (.no u118 (.yes u120 (.as ((gb a (zi 0)) == 9) (.as (in2 (zi 1) (zz a) (zz a)) (lf EE (cu a (zi 1) (zz a))) .fail) (rx Pq a)))))))))) .fail)) (noN 5 u120 (.no false (rx Pq a))))
theorem Qm5 (w : Cf)  (a : ByteArray) : (Qcw pp w  a).norm (roundT pp G.kd w 0 (G.an 53) (loopAt pp 53 1) (EE a)) = Qcw pp w  a := by kernel_rfl
theorem Qm6 (P : Pg) (w : Cf) (lp : Lo)   (a : ByteArray) : (Qcw P w  a).ok lp (Sum.elim (fun a => (.norm, EE a)) Pq) := ⟨rfl, fun hq0 => ⟨hq0, ⟨rfl, fun hq1 => yesN_ok 2 (hq0) (⟨rfl, fun hq2 => yesN_ok 2 (hq2) (⟨hq0, ⟨hq2, ⟨hq0, ⟨rfl, ⟨rfl, fun hq3 => rfl, fun hq3 => trivial⟩⟩⟩⟩⟩), fun hq2 => ⟨hq2, ⟨hq1, ⟨hq2, ⟨hq0, ⟨hq2, ⟨hq0, ⟨rfl, fun hq3 => ⟨rfl, fun hq4 => rfl, fun hq4 => trivial⟩, fun hq3 => rfl⟩⟩⟩⟩⟩⟩⟩⟩), fun hq1 => trivial⟩⟩, fun hq0 => noN_ok 5 (hq0) (⟨rfl, rfl⟩)⟩
def V3.s (k : Nat)  : ByteArray → Option ByteArray := iter (Qcv ) k
theorem Ql9 (w : Cf) (k : Nat)   (a : ByteArray) (r : ByteArray) (h : V3.s k  a = some r) : loopsF pp G.kd w 0 (G.an 53) k (loopAt pp 53 1) (EE a) = some (Pq r) :=
  loop_ok (fun a => Qcw pp w  a) (fun _ => rfl) (fun a => Qm5 w  a) (fun a => Qm6 _ w _   a) (fun r => nofun) h
noncomputable def V3.w  : ByteArray → Option ByteArray := loopW (Qcv )
theorem V3.cv    (a : ByteArray) : Cv (fun k => V3.s k  a) (V3.w  a) := Cv.iter (fun a => by exact .const _) a
def EF (a : ByteArray) : St := { n := 43, nx := 0, env := [(0, xs a)], heap := [] }
def Pr (a : ByteArray) : Ex × St := (.exit 2, { n := 43, nx := 0, env := [(0, xs a)], heap := [] })
abbrev FU := ByteArray → Option ByteArray
abbrev QnY (P : Pg) (lp : Lo) (l : FU) : Prop := ∀ (a : ByteArray) (r : ByteArray), l a = some r → lp (loopAt P 53 3) (EF a) = some (Pr r)
def Qcx  (a : ByteArray) : Option (ByteArray ⊕ ByteArray) := (bif (decide (((a.size : Nat) : Int) > 0)) then (bif (decide (0 ≤ (w64 (((a.size : Nat) : Int) - 1)) ∧ (w64 (((a.size : Nat) : Int) - 1)) < ((a.size : Nat) : Int))) then (bif (((a.data.getD (Int.toNat (w64 (((a.size : Nat) : Int) - 1))) 0).toNat : Int) == 32) then (bif (decide (0 ≤ (0 : Int) ∧ (0 : Int) ≤ (w64 (((a.size : Nat) : Int) - 1)) ∧ (w64 (((a.size : Nat) : Int) - 1)) ≤ ((a.size : Nat) : Int))) then (some (.inl (a.extract (Int.toNat 0) (Int.toNat (w64 (((a.size : Nat) : Int) - 1)))))) else none) else (bif (((a.data.getD (Int.toNat (w64 (((a.size : Nat) : Int) - 1))) 0).toNat : Int) == 9) then (bif (decide (0 ≤ (0 : Int) ∧ (0 : Int) ≤ (w64 (((a.size : Nat) : Int) - 1)) ∧ (w64 (((a.size : Nat) : Int) - 1)) ≤ ((a.size : Nat) : Int))) then (some (.inl (a.extract (Int.toNat 0) (Int.toNat (w64 (((a.size : Nat) : Int) - 1)))))) else none) else (some (.inr a)))) else none) else (some (.inr a)))
def Qcy (P : Pg) (w : Cf)  (a : ByteArray) : Tr (ByteArray ⊕ ByteArray) XS := (let u123 := (decide ((zz a) > 0)); .as u123 (yesN 4 u123 (let u122 := (in1 (w64 ((zz a) - 1)) (zz a)); .as u122 (yesN 2 u123 (let u121 := ((gb a (w64 ((zz a) - 1))) == 32); .as u121 (yesN 5 u121 (.yes u123 (.yes u121 (.yes u123 (.yes true (.as (in2 (zi 0) (w64 ((zz a) - 1)) (zz a)) (lf EF (cu a (zi 0) (w64 ((zz a) - 1)))) .fail)))))) (noN 4 u121 (.yes u122 (.no u121 (.yes u123 (.no u121 (.yes u123 (.as ((gb a (w64 ((zz a) - 1))) == 9) (.as (in2 (zi 0) (w64 ((zz a) - 1)) (zz a)) (lf EF (cu a (zi 0) (w64 ((zz a) - 1)))) .fail) (rx Pr a)))))))))) .fail)) (noN 8 u123 (.no false (rx Pr a))))
theorem Qm7 (w : Cf)  (a : ByteArray) : (Qcy pp w  a).norm (roundT pp G.kd w 0 (G.an 53) (loopAt pp 53 3) (EF a)) = Qcy pp w  a := by kernel_rfl
theorem Qm8 (P : Pg) (w : Cf) (lp : Lo)   (a : ByteArray) : (Qcy P w  a).ok lp (Sum.elim (fun a => (.norm, EF a)) Pr) := ⟨rfl, fun hq0 => yesN_ok 4 (hq0) (⟨rfl, fun hq1 => yesN_ok 2 (hq0) (⟨rfl, fun hq2 => yesN_ok 5 (hq2) (⟨hq0, ⟨hq2, ⟨hq0, ⟨rfl, ⟨rfl, fun hq3 => rfl, fun hq3 => trivial⟩⟩⟩⟩⟩), fun hq2 => noN_ok 4 (hq2) (⟨hq1, ⟨hq2, ⟨hq0, ⟨hq2, ⟨hq0, ⟨rfl, fun hq3 => ⟨rfl, fun hq4 => rfl, fun hq4 => trivial⟩, fun hq3 => rfl⟩⟩⟩⟩⟩⟩)⟩), fun hq1 => trivial⟩), fun hq0 => noN_ok 8 (hq0) (⟨rfl, rfl⟩)⟩
def V4.s (k : Nat)  : ByteArray → Option ByteArray := iter (Qcx ) k
theorem Qma (w : Cf) (k : Nat)   (a : ByteArray) (r : ByteArray) (h : V4.s k  a = some r) : loopsF pp G.kd w 0 (G.an 53) k (loopAt pp 53 3) (EF a) = some (Pr r) :=
  loop_ok (fun a => Qcy pp w  a) (fun _ => rfl) (fun a => Qm7 w  a) (fun a => Qm8 _ w _   a) (fun r => nofun) h
noncomputable def V4.w  : ByteArray → Option ByteArray := loopW (Qcx )
theorem V4.cv    (a : ByteArray) : Cv (fun k => V4.s k  a) (V4.w  a) := Cv.iter (fun a => by exact .const _) a
def S9 (L0 : FT) (L1 : FU) (a0 : ByteArray) : Option ByteArray := ((L0 a0).bind (fun (o1 : ByteArray) => ((L1 o1).bind (fun (o2 : ByteArray) => (some o2)))))
def QfU (P : Pg) (w : Cf) (L0 : FT) (L1 : FU) (a0 : ByteArray) : Tr ByteArray AH := (.loop (loopAt P 53 1) (EE a0) (L0 a0) Pq (fun (o1 : ByteArray) => (.loop (loopAt P 53 3) (EF o1) (L1 o1) Pr (fun (o2 : ByteArray) => (rt ZA o2)))))
theorem Qpa (w : Cf) (L0 : FT) (L1 : FU) (a0 : ByteArray) : (QfU pp w L0 L1 a0).norm (bodyT pp w G 53 (QfT a0).1 (QfT a0).2) = QfU pp w L0 L1 a0 := by kernel_rfl
theorem Qpb (P : Pg) (w : Cf) (lp : Lo) (L0 : FT) (L1 : FU) (N0 : QnX P lp L0) (N1 : QnY P lp L1) (a0 : ByteArray) : (QfU P w L0 L1 a0).ok lp ZA := fun o1 ho1 => ⟨N0 _ _ ho1, fun o2 ho2 => ⟨N1 _ _ ho2, rfl⟩⟩
theorem Qpc {L0 : Nat → FT} {M0 : FT} (N0 : Cv1 L0 M0) {L1 : Nat → FU} {M1 : FU} (N1 : Cv1 L1 M1) (a0 : ByteArray) : Cv (fun k => S9 (L0 k) (L1 k) a0) (S9 M0 M1 a0) := by
  unfold S9
  exact .bind (N0 _) (fun o1 => .bind (N1 _) (fun o2 => by exact .const _))
def UY.s : Nat → ByteArray → Option ByteArray
  | 0, _ => none
  | k + 1, a0 => S9 (V3.s k) (V4.s k) a0
theorem UY.ok : ∀ (k : Nat), QcZ (ev k) (UY.s k)
  | 0, _, _, h => (nomatch h)
  | k + 1, a0, r, h => fn_ok rfl (QfU pp (ev k) (V3.s k) (V4.s k) a0) (Qpa _ _ _ a0) (Qpb _ _ _ _ _  (Ql9 _ k) (Qma _ k) a0) h
noncomputable def V3 : ByteArray → Option ByteArray := V3.w 
theorem V3.eq (a : ByteArray) : V3 a = (Qcv  a).bind (Sum.elim V3 some) := loopW_eq _ _
noncomputable def V4 : ByteArray → Option ByteArray := V4.w 
theorem V4.eq (a : ByteArray) : V4 a = (Qcx  a).bind (Sum.elim V4 some) := loopW_eq _ _
noncomputable def UY (a0 : ByteArray) : Option ByteArray := S9 V3 V4 a0
theorem UY.cv (a0 : ByteArray) : Cv (fun k => UY.s k a0) (UY a0) := .un rfl (Qpc (V3.cv) (V4.cv) a0)
theorem UY.eq (a0 : ByteArray) : UY a0 = S9 V3 V4 a0 := rfl
def Qcz (r : (ByteArray × ByteArray)) : AV × Heap := (.tup [xs r.1, xs r.2], [])
abbrev Qaa := ByteArray → Option (ByteArray × ByteArray)
abbrev QeJ (a0 : ByteArray) : List AV × Heap := ([xs a0], [])
abbrev QkW (w : Cf) (a0 : ByteArray) : Option AH := w 52 (QeJ a0).1 (QeJ a0).2
abbrev QlK (w : Cf) (c : Qaa) : Prop := ∀ (a0 : ByteArray) (r : (ByteArray × ByteArray)), c a0 = some r → QkW w a0 = some (Qcz r)
structure J3 where
  x0 : ByteArray
  x4 : Int
structure Vl where
  x2 : ByteArray
  x3 : ByteArray
def GU (a : J3) : St := { n := 30, nx := 0, env := [(0, xs a.x0), (4, xi a.x4)], heap := [] }
def Qg8 (a : Vl) : Ex × St := (.ret, { n := 30, nx := 0, env := [(2, xs a.x2), (3, xs a.x3)], heap := [] })
def Qg9 (a : ByteArray) : Ex × St := (.exit 0, { n := 30, nx := 0, env := [(0, xs a)], heap := [] })
def P9 (a : (Vl ⊕ ByteArray)) : Ex × St := Sum.elim Qg8 Qg9 a
abbrev EG := J3 → Option (Vl ⊕ ByteArray)
abbrev Qm9 (P : Pg) (lp : Lo) (l : EG) : Prop := ∀ (a : J3) (r : (Vl ⊕ ByteArray)), l a = some r → lp (loopAt P 52 2) (GU a) = some (P9 r)
def ZB (C0 : Xm) (C1 : UX) (a : J3) : Option (J3 ⊕ (Vl ⊕ ByteArray)) := (bif (decide (a.x4 < ((a.x0.size : Nat) : Int))) then (bif (decide (0 ≤ a.x4 ∧ a.x4 < ((a.x0.size : Nat) : Int))) then (bif (((a.x0.data.getD (Int.toNat a.x4) 0).toNat : Int) == 58) then (bif (decide (0 ≤ (0 : Int) ∧ (0 : Int) ≤ a.x4 ∧ a.x4 ≤ ((a.x0.size : Nat) : Int))) then ((C0 (a.x0.extract (Int.toNat 0) (Int.toNat a.x4))).bind fun r1 => (bif r1 then (bif (decide (0 ≤ (w64 (a.x4 + 1)) ∧ (w64 (a.x4 + 1)) ≤ ((a.x0.size : Nat) : Int) ∧ ((a.x0.size : Nat) : Int) ≤ ((a.x0.size : Nat) : Int))) then ((C1 (a.x0.extract (Int.toNat (w64 (a.x4 + 1))) (Int.toNat ((a.x0.size : Nat) : Int)))).bind fun r2 => (some (.inr (.inl (Vl.mk (a.x0.extract (Int.toNat 0) (Int.toNat a.x4)) r2))))) else none) else (some (.inl (J3.mk a.x0 (w64 (a.x4 + 1))))))) else none) else (some (.inl (J3.mk a.x0 (w64 (a.x4 + 1)))))) else none) else (some (.inr (.inr a.x0))))
def Qba (P : Pg) (w : Cf) (C0 : Xm) (C1 : UX) (a : J3) : Tr (J3 ⊕ (Vl ⊕ ByteArray)) XS := (.as (decide (a.x4 < (zz a.x0))) (.as (in1 a.x4 (zz a.x0)) (let u125 := ((gb a.x0 a.x4) == 58); .as u125 (yesN 2 u125 (let u124 := (in2 (zi 0) a.x4 (zz a.x0)); .as u124 (.yes u125 (.call (QiB w (cu a.x0 (zi 0) a.x4)) (C0 (cu a.x0 (zi 0) a.x4)) QdJ fun r1 => (.yes u125 (.as r1 (.yes u124 (.as (in2 (w64 (a.x4 + 1)) (zz a.x0) (zz a.x0)) (.call (Ej w (cu a.x0 (w64 (a.x4 + 1)) (zz a.x0))) (C1 (cu a.x0 (w64 (a.x4 + 1)) (zz a.x0))) ZA fun r2 => (rx P9 (.inl (Vl.mk (cu a.x0 (zi 0) a.x4) r2)))) .fail)) (lf GU (J3.mk a.x0 (w64 (a.x4 + 1)))))))) .fail)) (noN 4 u125 (.no false (lf GU (J3.mk a.x0 (w64 (a.x4 + 1))))))) .fail) (rx P9 (.inr a.x0)))
theorem Qmb (w : Cf) (C0 : Xm) (C1 : UX) (a : J3) : (Qba pp w C0 C1 a).norm (roundT pp G.kd w 0 (G.an 52) (loopAt pp 52 2) (GU a)) = Qba pp w C0 C1 a := by kernel_rfl
theorem Qmc (P : Pg) (w : Cf) (lp : Lo) (C0 : Xm) (C1 : UX) (K0 : Qhf w C0) (K1 : QcZ w C1) (a : J3) : (Qba P w C0 C1 a).ok lp (Sum.elim (fun a => (.norm, GU a)) P9) := ⟨rfl, fun hq0 => ⟨rfl, fun hq1 => ⟨rfl, fun hq2 => yesN_ok 2 (hq2) (⟨rfl, fun hq3 => ⟨hq2, fun r1 hr1 => ⟨K0 _ _ hr1, ⟨hq2, ⟨rfl, fun hq4 => ⟨hq3, ⟨rfl, fun hq5 => fun r2 hr2 => ⟨K1 _ _ hr2, rfl⟩, fun hq5 => trivial⟩⟩, fun hq4 => rfl⟩⟩⟩⟩, fun hq3 => trivial⟩), fun hq2 => noN_ok 4 (hq2) (⟨rfl, rfl⟩)⟩, fun hq1 => trivial⟩, fun hq0 => rfl⟩
theorem Qmd {C0 : Nat → Xm} {D0 : Xm} (H0 : Cv1 C0 D0) {C1 : Nat → UX} {D1 : UX} (H1 : Cv1 C1 D1) (a : J3) : Cv (fun k => ZB (C0 k) (C1 k) a) (ZB D0 D1 a) := by
  unfold ZB
  exact .cond (.cond (.cond (.cond (.bind (H0 _) fun r1 => .cond (.cond (.bind (H1 _) fun r2 => by exact .const _) (by exact .const _)) (by exact .const _)) (by exact .const _)) (by exact .const _)) (by exact .const _)) (by exact .const _)
def U5.s (k : Nat) (C0 : Xm) (C1 : UX) : J3 → Option (Vl ⊕ ByteArray) := iter (ZB C0 C1) k
theorem Qlx (w : Cf) (k : Nat) (C0 : Xm) (C1 : UX) (K0 : Qhf w C0) (K1 : QcZ w C1) (a : J3) (r : (Vl ⊕ ByteArray)) (h : U5.s k C0 C1 a = some r) : loopsF pp G.kd w 0 (G.an 52) k (loopAt pp 52 2) (GU a) = some (P9 r) :=
  loop_ok (fun a => Qba pp w C0 C1 a) (fun _ => rfl) (fun a => Qmb w _ _ a) (fun a => Qmc _ w _ _ _ K0 K1 a) (fun r => by cases r <;> nofun) h
noncomputable def U5.w (C0 : Xm) (C1 : UX) : J3 → Option (Vl ⊕ ByteArray) := loopW (ZB C0 C1)
theorem U5.cv (C0 : Nat → Xm) (C1 : Nat → UX) (D0 : Xm) (D1 : UX) (H0 : Cv1 C0 D0) (H1 : Cv1 C1 D1) (a : J3) : Cv (fun k => U5.s k (C0 k) (C1 k) a) (U5.w D0 D1 a) := Cv.iter (fun a => Qmd H0 H1 a) a
def PU (L0 : EG) (a0 : ByteArray) : Option (ByteArray × ByteArray) := ((L0 (J3.mk a0 (0 : Int))).bind fun x => Sum.elim (fun (o1 : Vl) => (some (o1.x2, o1.x3))) (fun (o2 : ByteArray) => (some (s_, o2))) x)
def QeK (P : Pg) (w : Cf) (L0 : EG) (a0 : ByteArray) : Tr (ByteArray × ByteArray) AH := (.loop2 (loopAt P 52 2) (GU (J3.mk a0 (zi 0))) (L0 (J3.mk a0 (zi 0))) Qg8 Qg9 (fun (o1 : Vl) => (rt Qcz (o1.x2, o1.x3))) (fun (o2 : ByteArray) => (rt Qcz (s_, o2))))
theorem QoE (w : Cf) (L0 : EG) (a0 : ByteArray) : (QeK pp w L0 a0).norm (bodyT pp w G 52 (QeJ a0).1 (QeJ a0).2) = QeK pp w L0 a0 := by kernel_rfl
theorem QoF (P : Pg) (w : Cf) (lp : Lo) (L0 : EG) (N0 : Qm9 P lp L0) (a0 : ByteArray) : (QeK P w L0 a0).ok lp Qcz := ⟨fun o1 ho1 => ⟨N0 _ (.inl _) ho1, rfl⟩, fun o2 ho2 => ⟨N0 _ (.inr _) ho2, rfl⟩⟩
theorem QoG {L0 : Nat → EG} {M0 : EG} (N0 : Cv1 L0 M0) (a0 : ByteArray) : Cv (fun k => PU (L0 k) a0) (PU M0 a0) := by
  unfold PU
  exact .bind (N0 _) fun x => .sum (fun o1 => by exact .const _) (fun o2 => by exact .const _) x
def Ys.s : Nat → ByteArray → Option (ByteArray × ByteArray)
  | 0, _ => none
  | k + 1, a0 => PU (U5.s k (Wq.s k) (UY.s k)) a0
theorem Ys.ok : ∀ (k : Nat), QlK (ev k) (Ys.s k)
  | 0, _, _, h => (nomatch h)
  | k + 1, a0, r, h => fn_ok rfl (QeK pp (ev k) (U5.s k (Wq.s k) (UY.s k)) a0) (QoE _ _ a0) (QoF _ _ _ _  (Qlx _ k _ _ (Wq.ok k) (UY.ok k)) a0) h
noncomputable def U5 : J3 → Option (Vl ⊕ ByteArray) := U5.w Wq UY
theorem U5.eq (a : J3) : U5 a = (ZB Wq UY a).bind (Sum.elim U5 some) := loopW_eq _ _
noncomputable def Ys (a0 : ByteArray) : Option (ByteArray × ByteArray) := PU U5 a0
theorem Ys.cv (a0 : ByteArray) : Cv (fun k => Ys.s k a0) (Ys a0) := .un rfl (QoG (U5.cv (fun k => Wq.s k) (fun k => UY.s k) Wq UY Wq.cv UY.cv) a0)
theorem Ys.eq (a0 : ByteArray) : Ys a0 = PU U5 a0 := rfl
def QeL (r : (List ByteArray)) : AV × Heap := (.sl (Qh r), [])
abbrev Qab := ByteArray → Option (List ByteArray)
abbrev QeM (a0 : ByteArray) : List AV × Heap := ([xs a0], [])
abbrev QkX (w : Cf) (a0 : ByteArray) : Option AH := w 55 (QeM a0).1 (QeM a0).2
abbrev QlL (w : Cf) (c : Qab) : Prop := ∀ (a0 : ByteArray) (r : (List ByteArray)), c a0 = some r → QkX w a0 = some (QeL r)
structure Qx where
  x0 : ByteArray
  x4 : Bool
  x5 : Int
  x6 : Int
  r0 : (List ByteArray)
def U3 (a : Qx) : St := { n := 50, nx := 1, env := [(0, xs a.x0), (3, .arr 0), (4, xo a.x4), (5, xi a.x5), (6, xi a.x6)], heap := [(0, .arr true 1 (Qh a.r0))] }
def Sa (a : (List ByteArray)) : Ex × St := (.exit 0, { n := 50, nx := 1, env := [(3, .arr 0)], heap := [(0, .arr true 1 (Qh a))] })
abbrev EH := Qx → Option (List ByteArray)
abbrev Qna (P : Pg) (lp : Lo) (l : EH) : Prop := ∀ (a : Qx) (r : (List ByteArray)), l a = some r → lp (loopAt P 55 4) (U3 a) = some (Sa r)
def YF (C0 : UX) (a : Qx) : Option (Qx ⊕ (List ByteArray)) := (bif (decide (a.x6 ≤ ((a.x0.size : Nat) : Int))) then (bif (decide (a.x6 < ((a.x0.size : Nat) : Int))) then (bif (decide (0 ≤ a.x6 ∧ a.x6 < ((a.x0.size : Nat) : Int))) then (bif (((a.x0.data.getD (Int.toNat a.x6) 0).toNat : Int) == 34) then (bif (a.x6 == ((a.x0.size : Nat) : Int)) then (bif (decide (0 ≤ a.x5 ∧ a.x5 ≤ a.x6 ∧ a.x6 ≤ ((a.x0.size : Nat) : Int))) then ((C0 (a.x0.extract (Int.toNat a.x5) (Int.toNat a.x6))).bind fun r1 => (bif (decide ((a.r0.length + [r1].length) * 16 ≤ most)) then (some (.inl (Qx.mk a.x0 (!a.x4) (w64 (a.x6 + 1)) (w64 (a.x6 + 1)) (a.r0 ++ [r1])))) else none)) else none) else (bif (((a.x0.data.getD (Int.toNat a.x6) 0).toNat : Int) == 44) then (bif (!(!a.x4)) then (bif (decide (0 ≤ a.x5 ∧ a.x5 ≤ a.x6 ∧ a.x6 ≤ ((a.x0.size : Nat) : Int))) then ((C0 (a.x0.extract (Int.toNat a.x5) (Int.toNat a.x6))).bind fun r2 => (bif (decide ((a.r0.length + [r2].length) * 16 ≤ most)) then (some (.inl (Qx.mk a.x0 (!a.x4) (w64 (a.x6 + 1)) (w64 (a.x6 + 1)) (a.r0 ++ [r2])))) else none)) else none) else (some (.inl (Qx.mk a.x0 (!a.x4) a.x5 (w64 (a.x6 + 1)) a.r0)))) else (some (.inl (Qx.mk a.x0 (!a.x4) a.x5 (w64 (a.x6 + 1)) a.r0))))) else (bif (a.x6 == ((a.x0.size : Nat) : Int)) then (bif (decide (0 ≤ a.x5 ∧ a.x5 ≤ a.x6 ∧ a.x6 ≤ ((a.x0.size : Nat) : Int))) then ((C0 (a.x0.extract (Int.toNat a.x5) (Int.toNat a.x6))).bind fun r3 => (bif (decide ((a.r0.length + [r3].length) * 16 ≤ most)) then (some (.inl (Qx.mk a.x0 a.x4 (w64 (a.x6 + 1)) (w64 (a.x6 + 1)) (a.r0 ++ [r3])))) else none)) else none) else (bif (((a.x0.data.getD (Int.toNat a.x6) 0).toNat : Int) == 44) then (bif (!a.x4) then (bif (decide (0 ≤ a.x5 ∧ a.x5 ≤ a.x6 ∧ a.x6 ≤ ((a.x0.size : Nat) : Int))) then ((C0 (a.x0.extract (Int.toNat a.x5) (Int.toNat a.x6))).bind fun r4 => (bif (decide ((a.r0.length + [r4].length) * 16 ≤ most)) then (some (.inl (Qx.mk a.x0 a.x4 (w64 (a.x6 + 1)) (w64 (a.x6 + 1)) (a.r0 ++ [r4])))) else none)) else none) else (some (.inl (Qx.mk a.x0 a.x4 a.x5 (w64 (a.x6 + 1)) a.r0)))) else (some (.inl (Qx.mk a.x0 a.x4 a.x5 (w64 (a.x6 + 1)) a.r0)))))) else none) else (bif (a.x6 == ((a.x0.size : Nat) : Int)) then (bif (decide (0 ≤ a.x5 ∧ a.x5 ≤ a.x6 ∧ a.x6 ≤ ((a.x0.size : Nat) : Int))) then ((C0 (a.x0.extract (Int.toNat a.x5) (Int.toNat a.x6))).bind fun r5 => (bif (decide ((a.r0.length + [r5].length) * 16 ≤ most)) then (some (.inl (Qx.mk a.x0 a.x4 (w64 (a.x6 + 1)) (w64 (a.x6 + 1)) (a.r0 ++ [r5])))) else none)) else none) else (bif (decide (0 ≤ a.x6 ∧ a.x6 < ((a.x0.size : Nat) : Int))) then (bif (((a.x0.data.getD (Int.toNat a.x6) 0).toNat : Int) == 44) then (bif (!a.x4) then (bif (decide (0 ≤ a.x5 ∧ a.x5 ≤ a.x6 ∧ a.x6 ≤ ((a.x0.size : Nat) : Int))) then ((C0 (a.x0.extract (Int.toNat a.x5) (Int.toNat a.x6))).bind fun r6 => (bif (decide ((a.r0.length + [r6].length) * 16 ≤ most)) then (some (.inl (Qx.mk a.x0 a.x4 (w64 (a.x6 + 1)) (w64 (a.x6 + 1)) (a.r0 ++ [r6])))) else none)) else none) else (some (.inl (Qx.mk a.x0 a.x4 a.x5 (w64 (a.x6 + 1)) a.r0)))) else (some (.inl (Qx.mk a.x0 a.x4 a.x5 (w64 (a.x6 + 1)) a.r0)))) else none))) else (some (.inr a.r0)))
def Qbb (P : Pg) (w : Cf) (C0 : UX) (a : Qx) : Tr (Qx ⊕ (List ByteArray)) XS := (.as (decide (a.x6 ≤ (zz a.x0))) (let u133 := (decide (a.x6 < (zz a.x0))); .as u133 (yesN 2 u133 (let u130 := (in1 a.x6 (zz a.x0)); .as u130 (yesN 2 u133 (.as ((gb a.x0 a.x6) == 34) (let u127 := (a.x6 == (zz a.x0)); .as u127 (yesN 6 u127 (.yes true (.as (in2 a.x5 a.x6 (zz a.x0)) (.call (Ej w (cu a.x0 a.x5 a.x6)) (C0 (cu a.x0 a.x5 a.x6)) ZA fun r1 => (.rows [[xs r1]] (Qh [r1]) (.yes (decide ((Qh [r1]).all (fun r => r.length == 1) = true)) (.ask (decide (((Qh a.r0).length + (Qh [r1]).length) * 16 ≤ most)) (decide ((a.r0.length + [r1].length) * 16 ≤ most)) (.rows ((Qh a.r0) ++ (Qh [r1])) (Qh (a.r0 ++ [r1])) (lf U3 (Qx.mk a.x0 (!a.x4) (w64 (a.x6 + 1)) (w64 (a.x6 + 1)) (a.r0 ++ [r1])))) .fail)))) .fail))) (noN 2 u127 (.yes u130 (noN 2 u127 (let u126 := ((gb a.x0 a.x6) == 44); .as u126 (.yes u126 (.no u127 (.yes u126 (.no u127 (.as (!(!a.x4)) (.as (in2 a.x5 a.x6 (zz a.x0)) (.call (Ej w (cu a.x0 a.x5 a.x6)) (C0 (cu a.x0 a.x5 a.x6)) ZA fun r2 => (.rows [[xs r2]] (Qh [r2]) (.yes (decide ((Qh [r2]).all (fun r => r.length == 1) = true)) (.ask (decide (((Qh a.r0).length + (Qh [r2]).length) * 16 ≤ most)) (decide ((a.r0.length + [r2].length) * 16 ≤ most)) (.rows ((Qh a.r0) ++ (Qh [r2])) (Qh (a.r0 ++ [r2])) (lf U3 (Qx.mk a.x0 (!a.x4) (w64 (a.x6 + 1)) (w64 (a.x6 + 1)) (a.r0 ++ [r2])))) .fail)))) .fail) (lf U3 (Qx.mk a.x0 (!a.x4) a.x5 (w64 (a.x6 + 1)) a.r0))))))) (.no u126 (.no u127 (.no u126 (.no u127 (.no false (lf U3 (Qx.mk a.x0 (!a.x4) a.x5 (w64 (a.x6 + 1)) a.r0)))))))))))) (let u129 := (a.x6 == (zz a.x0)); .as u129 (yesN 6 u129 (.yes true (.as (in2 a.x5 a.x6 (zz a.x0)) (.call (Ej w (cu a.x0 a.x5 a.x6)) (C0 (cu a.x0 a.x5 a.x6)) ZA fun r3 => (.rows [[xs r3]] (Qh [r3]) (.yes (decide ((Qh [r3]).all (fun r => r.length == 1) = true)) (.ask (decide (((Qh a.r0).length + (Qh [r3]).length) * 16 ≤ most)) (decide ((a.r0.length + [r3].length) * 16 ≤ most)) (.rows ((Qh a.r0) ++ (Qh [r3])) (Qh (a.r0 ++ [r3])) (lf U3 (Qx.mk a.x0 a.x4 (w64 (a.x6 + 1)) (w64 (a.x6 + 1)) (a.r0 ++ [r3])))) .fail)))) .fail))) (noN 2 u129 (.yes u130 (noN 2 u129 (let u128 := ((gb a.x0 a.x6) == 44); .as u128 (.yes u128 (.no u129 (.yes u128 (.no u129 (.as (!a.x4) (.as (in2 a.x5 a.x6 (zz a.x0)) (.call (Ej w (cu a.x0 a.x5 a.x6)) (C0 (cu a.x0 a.x5 a.x6)) ZA fun r4 => (.rows [[xs r4]] (Qh [r4]) (.yes (decide ((Qh [r4]).all (fun r => r.length == 1) = true)) (.ask (decide (((Qh a.r0).length + (Qh [r4]).length) * 16 ≤ most)) (decide ((a.r0.length + [r4].length) * 16 ≤ most)) (.rows ((Qh a.r0) ++ (Qh [r4])) (Qh (a.r0 ++ [r4])) (lf U3 (Qx.mk a.x0 a.x4 (w64 (a.x6 + 1)) (w64 (a.x6 + 1)) (a.r0 ++ [r4])))) .fail)))) .fail) (lf U3 (Qx.mk a.x0 a.x4 a.x5 (w64 (a.x6 + 1)) a.r0))))))) (.no u128 (.no u129 (.no u128 (.no u129 (.no false (lf U3 (Qx.mk a.x0 a.x4 a.x5 (w64 (a.x6 + 1)) a.r0)))))))))))))) .fail)) (noN 4 u133 (.no false (let u132 := (a.x6 == (zz a.x0)); .as u132 (yesN 6 u132 (.yes true (.as (in2 a.x5 a.x6 (zz a.x0)) (.call (Ej w (cu a.x0 a.x5 a.x6)) (C0 (cu a.x0 a.x5 a.x6)) ZA fun r5 => (.rows [[xs r5]] (Qh [r5]) (.yes (decide ((Qh [r5]).all (fun r => r.length == 1) = true)) (.ask (decide (((Qh a.r0).length + (Qh [r5]).length) * 16 ≤ most)) (decide ((a.r0.length + [r5].length) * 16 ≤ most)) (.rows ((Qh a.r0) ++ (Qh [r5])) (Qh (a.r0 ++ [r5])) (lf U3 (Qx.mk a.x0 a.x4 (w64 (a.x6 + 1)) (w64 (a.x6 + 1)) (a.r0 ++ [r5])))) .fail)))) .fail))) (noN 2 u132 (.as (in1 a.x6 (zz a.x0)) (noN 2 u132 (let u131 := ((gb a.x0 a.x6) == 44); .as u131 (.yes u131 (.no u132 (.yes u131 (.no u132 (.as (!a.x4) (.as (in2 a.x5 a.x6 (zz a.x0)) (.call (Ej w (cu a.x0 a.x5 a.x6)) (C0 (cu a.x0 a.x5 a.x6)) ZA fun r6 => (.rows [[xs r6]] (Qh [r6]) (.yes (decide ((Qh [r6]).all (fun r => r.length == 1) = true)) (.ask (decide (((Qh a.r0).length + (Qh [r6]).length) * 16 ≤ most)) (decide ((a.r0.length + [r6].length) * 16 ≤ most)) (.rows ((Qh a.r0) ++ (Qh [r6])) (Qh (a.r0 ++ [r6])) (lf U3 (Qx.mk a.x0 a.x4 (w64 (a.x6 + 1)) (w64 (a.x6 + 1)) (a.r0 ++ [r6])))) .fail)))) .fail) (lf U3 (Qx.mk a.x0 a.x4 a.x5 (w64 (a.x6 + 1)) a.r0))))))) (.no u131 (.no u132 (.no u131 (.no u132 (.no false (lf U3 (Qx.mk a.x0 a.x4 a.x5 (w64 (a.x6 + 1)) a.r0))))))))) .fail)))))) (rx Sa a.r0))
theorem Qme (w : Cf) (C0 : UX) (a : Qx) : (Qbb pp w C0 a).norm (roundT pp G.kd w 0 (G.an 55) (loopAt pp 55 4) (U3 a)) = Qbb pp w C0 a := by kernel_rfl
theorem Qmf (P : Pg) (w : Cf) (lp : Lo) (C0 : UX) (K0 : QcZ w C0) (a : Qx) : (Qbb P w C0 a).ok lp (Sum.elim (fun a => (.norm, U3 a)) Sa) := ⟨rfl, fun hq0 => ⟨rfl, fun hq1 => yesN_ok 2 (hq1) (⟨rfl, fun hq2 => yesN_ok 2 (hq1) (⟨rfl, fun hq3 => ⟨rfl, fun hq4 => yesN_ok 6 (hq4) (⟨rfl, ⟨rfl, fun hq5 => fun r1 hr1 => ⟨K0 _ _ hr1, ⟨(Un [r1]), ⟨(decide_eq_true (Y8 _)), ⟨(by rw [Qr, Qr]), fun hq6 => ⟨(Yt _ _), rfl⟩, fun hq6 => trivial⟩⟩⟩⟩, fun hq5 => trivial⟩⟩), fun hq4 => noN_ok 2 (hq4) (⟨hq2, noN_ok 2 (hq4) (⟨rfl, fun hq5 => ⟨hq5, ⟨hq4, ⟨hq5, ⟨hq4, ⟨rfl, fun hq6 => ⟨rfl, fun hq7 => fun r2 hr2 => ⟨K0 _ _ hr2, ⟨(Un [r2]), ⟨(decide_eq_true (Y8 _)), ⟨(by rw [Qr, Qr]), fun hq8 => ⟨(Yt _ _), rfl⟩, fun hq8 => trivial⟩⟩⟩⟩, fun hq7 => trivial⟩, fun hq6 => rfl⟩⟩⟩⟩⟩, fun hq5 => ⟨hq5, ⟨hq4, ⟨hq5, ⟨hq4, ⟨rfl, rfl⟩⟩⟩⟩⟩⟩)⟩)⟩, fun hq3 => ⟨rfl, fun hq4 => yesN_ok 6 (hq4) (⟨rfl, ⟨rfl, fun hq5 => fun r3 hr3 => ⟨K0 _ _ hr3, ⟨(Un [r3]), ⟨(decide_eq_true (Y8 _)), ⟨(by rw [Qr, Qr]), fun hq6 => ⟨(Yt _ _), rfl⟩, fun hq6 => trivial⟩⟩⟩⟩, fun hq5 => trivial⟩⟩), fun hq4 => noN_ok 2 (hq4) (⟨hq2, noN_ok 2 (hq4) (⟨rfl, fun hq5 => ⟨hq5, ⟨hq4, ⟨hq5, ⟨hq4, ⟨rfl, fun hq6 => ⟨rfl, fun hq7 => fun r4 hr4 => ⟨K0 _ _ hr4, ⟨(Un [r4]), ⟨(decide_eq_true (Y8 _)), ⟨(by rw [Qr, Qr]), fun hq8 => ⟨(Yt _ _), rfl⟩, fun hq8 => trivial⟩⟩⟩⟩, fun hq7 => trivial⟩, fun hq6 => rfl⟩⟩⟩⟩⟩, fun hq5 => ⟨hq5, ⟨hq4, ⟨hq5, ⟨hq4, ⟨rfl, rfl⟩⟩⟩⟩⟩⟩)⟩)⟩⟩), fun hq2 => trivial⟩), fun hq1 => noN_ok 4 (hq1) (⟨rfl, ⟨rfl, fun hq2 => yesN_ok 6 (hq2) (⟨rfl, ⟨rfl, fun hq3 => fun r5 hr5 => ⟨K0 _ _ hr5, ⟨(Un [r5]), ⟨(decide_eq_true (Y8 _)), ⟨(by rw [Qr, Qr]), fun hq4 => ⟨(Yt _ _), rfl⟩, fun hq4 => trivial⟩⟩⟩⟩, fun hq3 => trivial⟩⟩), fun hq2 => noN_ok 2 (hq2) (⟨rfl, fun hq3 => noN_ok 2 (hq2) (⟨rfl, fun hq4 => ⟨hq4, ⟨hq2, ⟨hq4, ⟨hq2, ⟨rfl, fun hq5 => ⟨rfl, fun hq6 => fun r6 hr6 => ⟨K0 _ _ hr6, ⟨(Un [r6]), ⟨(decide_eq_true (Y8 _)), ⟨(by rw [Qr, Qr]), fun hq7 => ⟨(Yt _ _), rfl⟩, fun hq7 => trivial⟩⟩⟩⟩, fun hq6 => trivial⟩, fun hq5 => rfl⟩⟩⟩⟩⟩, fun hq4 => ⟨hq4, ⟨hq2, ⟨hq4, ⟨hq2, ⟨rfl, rfl⟩⟩⟩⟩⟩⟩), fun hq3 => trivial⟩)⟩⟩)⟩, fun hq0 => rfl⟩
theorem Qmg {C0 : Nat → UX} {D0 : UX} (H0 : Cv1 C0 D0) (a : Qx) : Cv (fun k => YF (C0 k) a) (YF D0 a) := by
  unfold YF
  exact .cond (.cond (.cond (.cond (.cond (.cond (.bind (H0 _) fun r1 => by exact .const _) (by exact .const _)) (.cond (.cond (.cond (.bind (H0 _) fun r2 => by exact .const _) (by exact .const _)) (by exact .const _)) (by exact .const _))) (.cond (.cond (.bind (H0 _) fun r3 => by exact .const _) (by exact .const _)) (.cond (.cond (.cond (.bind (H0 _) fun r4 => by exact .const _) (by exact .const _)) (by exact .const _)) (by exact .const _)))) (by exact .const _)) (.cond (.cond (.bind (H0 _) fun r5 => by exact .const _) (by exact .const _)) (.cond (.cond (.cond (.cond (.bind (H0 _) fun r6 => by exact .const _) (by exact .const _)) (by exact .const _)) (by exact .const _)) (by exact .const _)))) (by exact .const _)
def Ux.s (k : Nat) (C0 : UX) : Qx → Option (List ByteArray) := iter (YF C0) k
theorem Qly (w : Cf) (k : Nat) (C0 : UX) (K0 : QcZ w C0) (a : Qx) (r : (List ByteArray)) (h : Ux.s k C0 a = some r) : loopsF pp G.kd w 0 (G.an 55) k (loopAt pp 55 4) (U3 a) = some (Sa r) :=
  loop_ok (fun a => Qbb pp w C0 a) (fun _ => rfl) (fun a => Qme w _ a) (fun a => Qmf _ w _ _ K0 a) (fun r => nofun) h
noncomputable def Ux.w (C0 : UX) : Qx → Option (List ByteArray) := loopW (YF C0)
theorem Ux.cv (C0 : Nat → UX) (D0 : UX) (H0 : Cv1 C0 D0) (a : Qx) : Cv (fun k => Ux.s k (C0 k) a) (Ux.w D0 a) := Cv.iter (fun a => Qmg H0 a) a
def PV (L0 : EH) (a0 : ByteArray) : Option (List ByteArray) := ((L0 (Qx.mk a0 false (0 : Int) (0 : Int) ([] : List ByteArray))).bind (fun (o1 : (List ByteArray)) => (some o1)))
def QeN (P : Pg) (w : Cf) (L0 : EH) (a0 : ByteArray) : Tr (List ByteArray) AH := (.loop (loopAt P 55 4) (U3 (Qx.mk a0 false (zi 0) (zi 0) ([] : List ByteArray))) (L0 (Qx.mk a0 false (zi 0) (zi 0) ([] : List ByteArray))) Sa (fun (o1 : (List ByteArray)) => (rt QeL o1)))
theorem QoH (w : Cf) (L0 : EH) (a0 : ByteArray) : (QeN pp w L0 a0).norm (bodyT pp w G 55 (QeM a0).1 (QeM a0).2) = QeN pp w L0 a0 := by kernel_rfl
theorem QoI (P : Pg) (w : Cf) (lp : Lo) (L0 : EH) (N0 : Qna P lp L0) (a0 : ByteArray) : (QeN P w L0 a0).ok lp QeL := fun o1 ho1 => ⟨N0 _ _ ho1, rfl⟩
theorem QoJ {L0 : Nat → EH} {M0 : EH} (N0 : Cv1 L0 M0) (a0 : ByteArray) : Cv (fun k => PV (L0 k) a0) (PV M0 a0) := by
  unfold PV
  exact .bind (N0 _) (fun o1 => by exact .const _)
def XX.s : Nat → ByteArray → Option (List ByteArray)
  | 0, _ => none
  | k + 1, a0 => PV (Ux.s k (UY.s k)) a0
theorem XX.ok : ∀ (k : Nat), QlL (ev k) (XX.s k)
  | 0, _, _, h => (nomatch h)
  | k + 1, a0, r, h => fn_ok rfl (QeN pp (ev k) (Ux.s k (UY.s k)) a0) (QoH _ _ a0) (QoI _ _ _ _  (Qly _ k _ (UY.ok k)) a0) h
noncomputable def Ux : Qx → Option (List ByteArray) := Ux.w UY
theorem Ux.eq (a : Qx) : Ux a = (YF UY a).bind (Sum.elim Ux some) := loopW_eq _ _
noncomputable def XX (a0 : ByteArray) : Option (List ByteArray) := PV Ux a0
theorem XX.cv (a0 : ByteArray) : Cv (fun k => XX.s k a0) (XX a0) := .un rfl (QoJ (Ux.cv (fun k => UY.s k) UY UY.cv) a0)
theorem XX.eq (a0 : ByteArray) : XX a0 = PV Ux a0 := rfl
def Z6 (r : Int) : AV × Heap := (xi r, [])
abbrev Qc0 := ByteArray → Option Int
abbrev QhA (a0 : ByteArray) : List AV × Heap := ([xs a0], [])
abbrev Qnb (w : Cf) (a0 : ByteArray) : Option AH := w 205 (QhA a0).1 (QhA a0).2
abbrev Qoc (w : Cf) (c : Qc0) : Prop := ∀ (a0 : ByteArray) (r : Int), c a0 = some r → Qnb w a0 = some (Z6 r)
structure Uy where
  x0 : ByteArray
  x3 : Int
  x4 : Int
def FV (a : Uy) : St := { n := 55, nx := 0, env := [(0, xs a.x0), (3, xi a.x3), (4, xi a.x4)], heap := [] }
def Qfk (a : Int) : Ex × St := (.ret, { n := 55, nx := 0, env := [(2, xi a)], heap := [] })
def Qfl (a : Int) : Ex × St := (.exit 0, { n := 55, nx := 0, env := [(3, xi a)], heap := [] })
def Se (a : (Int ⊕ Int)) : Ex × St := Sum.elim Qfk Qfl a
abbrev PW := Uy → Option (Int ⊕ Int)
abbrev QoK (P : Pg) (lp : Lo) (l : PW) : Prop := ∀ (a : Uy) (r : (Int ⊕ Int)), l a = some r → lp (loopAt P 205 5) (FV a) = some (Se r)
def QaX  (a : Uy) : Option (Uy ⊕ (Int ⊕ Int)) := (bif (decide (a.x4 < ((a.x0.size : Nat) : Int))) then (bif (decide (0 ≤ a.x4 ∧ a.x4 < ((a.x0.size : Nat) : Int))) then (bif (decide (((a.x0.data.getD (Int.toNat a.x4) 0).toNat : Int) < 48)) then (some (.inr (.inl (-1 : Int)))) else (bif (decide (((a.x0.data.getD (Int.toNat a.x4) 0).toNat : Int) > 57)) then (some (.inr (.inl (-1 : Int)))) else (some (.inl (Uy.mk a.x0 (w64 ((w64 ((10 : Int) * a.x3)) + (w64 (IntKind.u8.wrap (((a.x0.data.getD (Int.toNat a.x4) 0).toNat : Int) - 48))))) (w64 (a.x4 + 1))))))) else none) else (some (.inr (.inr a.x3))))
def Qdt (P : Pg) (w : Cf)  (a : Uy) : Tr (Uy ⊕ (Int ⊕ Int)) XS := (.as (decide (a.x4 < (zz a.x0))) (let u135 := (in1 a.x4 (zz a.x0)); .as u135 (let u134 := (decide ((gb a.x0 a.x4) < 48)); .as u134 (yesN 4 u134 (.yes true (rx Se (.inl (-1 : Int))))) (noN 2 u134 (.yes u135 (noN 2 u134 (.as (decide ((gb a.x0 a.x4) > 57)) (rx Se (.inl (-1 : Int))) (.yes u135 (lf FV (Uy.mk a.x0 (w64 ((w64 ((zi 10) * a.x3)) + (w64 (IntKind.u8.wrap ((gb a.x0 a.x4) - 48))))) (w64 (a.x4 + 1)))))))))) .fail) (rx Se (.inr a.x3)))
theorem QnZ (w : Cf)  (a : Uy) : (Qdt pp w  a).norm (roundT pp G.kd w 0 (G.an 205) (loopAt pp 205 5) (FV a)) = Qdt pp w  a := by kernel_rfl
theorem Qn0 (P : Pg) (w : Cf) (lp : Lo)   (a : Uy) : (Qdt P w  a).ok lp (Sum.elim (fun a => (.norm, FV a)) Se) := ⟨rfl, fun hq0 => ⟨rfl, fun hq1 => ⟨rfl, fun hq2 => yesN_ok 4 (hq2) (⟨rfl, rfl⟩), fun hq2 => noN_ok 2 (hq2) (⟨hq1, noN_ok 2 (hq2) (⟨rfl, fun hq3 => rfl, fun hq3 => ⟨hq1, rfl⟩⟩)⟩)⟩, fun hq1 => trivial⟩, fun hq0 => rfl⟩
def UT.s (k : Nat)  : Uy → Option (Int ⊕ Int) := iter (QaX ) k
theorem Qnc (w : Cf) (k : Nat)   (a : Uy) (r : (Int ⊕ Int)) (h : UT.s k  a = some r) : loopsF pp G.kd w 0 (G.an 205) k (loopAt pp 205 5) (FV a) = some (Se r) :=
  loop_ok (fun a => Qdt pp w  a) (fun _ => rfl) (fun a => QnZ w  a) (fun a => Qn0 _ w _   a) (fun r => by cases r <;> nofun) h
noncomputable def UT.w  : Uy → Option (Int ⊕ Int) := loopW (QaX )
theorem UT.cv    (a : Uy) : Cv (fun k => UT.s k  a) (UT.w  a) := Cv.iter (fun a => by exact .const _) a
def Qbj (L0 : PW) (a0 : ByteArray) : Option Int := (bif (decide (((a0.size : Nat) : Int) < 2)) then (some (-1 : Int)) else (bif (decide (((a0.size : Nat) : Int) > 3)) then (some (-1 : Int)) else (bif (decide (0 ≤ (0 : Int) ∧ (0 : Int) < ((a0.size : Nat) : Int))) then (bif (((a0.data.getD (Int.toNat 0) 0).toNat : Int) != 114) then (some (-1 : Int)) else (bif (decide (0 ≤ (1 : Int) ∧ (1 : Int) < ((a0.size : Nat) : Int))) then (bif (((a0.data.getD (Int.toNat 1) 0).toNat : Int) == 48) then (bif (decide (((a0.size : Nat) : Int) > 2)) then (some (-1 : Int)) else ((L0 (Uy.mk a0 (0 : Int) (1 : Int))).bind fun x => Sum.elim (fun (o1 : Int) => (some o1)) (fun (o2 : Int) => (bif (decide (o2 > 31)) then (some (-1 : Int)) else (some o2))) x)) else ((L0 (Uy.mk a0 (0 : Int) (1 : Int))).bind fun x => Sum.elim (fun (o3 : Int) => (some o3)) (fun (o4 : Int) => (bif (decide (o4 > 31)) then (some (-1 : Int)) else (some o4))) x)) else none)) else none)))
def QhB (P : Pg) (w : Cf) (L0 : PW) (a0 : ByteArray) : Tr Int AH := (let u139 := (decide ((zz a0) < 2)); .as u139 (yesN 3 u139 (yesN 11 true (rt Z6 (-1 : Int)))) (noN 3 u139 (let u138 := (decide ((zz a0) > 3)); .as u138 (yesN 3 u138 (yesN 7 true (rt Z6 (-1 : Int)))) (.no u138 (.as (in1 (zi 0) (zz a0)) (noN 2 u138 (let u137 := ((gb a0 (zi 0)) != 114); .as u137 (yesN 5 u137 (.yes true (rt Z6 (-1 : Int)))) (.no u137 (.as (in1 (zi 1) (zz a0)) (noN 2 u137 (let u136 := ((gb a0 (zi 1)) == 48); .as u136 (yesN 2 u136 (.no u137 (.yes u136 (.no u137 (.as (decide ((zz a0) > 2)) (rt Z6 (-1 : Int)) (.loop2 (loopAt P 205 5) (FV (Uy.mk a0 (zi 0) (zi 1))) (L0 (Uy.mk a0 (zi 0) (zi 1))) Qfk Qfl (fun (o1 : Int) => (rt Z6 o1)) (fun (o2 : Int) => (.as (decide (o2 > 31)) (rt Z6 (-1 : Int)) (rt Z6 o2))))))))) (noN 2 u136 (.no u137 (.no u136 (.no u137 (.no false (.loop2 (loopAt P 205 5) (FV (Uy.mk a0 (zi 0) (zi 1))) (L0 (Uy.mk a0 (zi 0) (zi 1))) Qfk Qfl (fun (o3 : Int) => (rt Z6 o3)) (fun (o4 : Int) => (.as (decide (o4 > 31)) (rt Z6 (-1 : Int)) (rt Z6 o4))))))))))) .fail)))) .fail)))))
theorem Qpu (w : Cf) (L0 : PW) (a0 : ByteArray) : (QhB pp w L0 a0).norm (bodyT pp w G 205 (QhA a0).1 (QhA a0).2) = QhB pp w L0 a0 := by kernel_rfl
theorem Qpv (P : Pg) (w : Cf) (lp : Lo) (L0 : PW) (N0 : QoK P lp L0) (a0 : ByteArray) : (QhB P w L0 a0).ok lp Z6 := ⟨rfl, fun hq0 => yesN_ok 3 (hq0) (yesN_ok 11 (rfl) (rfl)), fun hq0 => noN_ok 3 (hq0) (⟨rfl, fun hq1 => yesN_ok 3 (hq1) (yesN_ok 7 (rfl) (rfl)), fun hq1 => ⟨hq1, ⟨rfl, fun hq2 => noN_ok 2 (hq1) (⟨rfl, fun hq3 => yesN_ok 5 (hq3) (⟨rfl, rfl⟩), fun hq3 => ⟨hq3, ⟨rfl, fun hq4 => noN_ok 2 (hq3) (⟨rfl, fun hq5 => yesN_ok 2 (hq5) (⟨hq3, ⟨hq5, ⟨hq3, ⟨rfl, fun hq6 => rfl, fun hq6 => ⟨fun o1 ho1 => ⟨N0 _ (.inl _) ho1, rfl⟩, fun o2 ho2 => ⟨N0 _ (.inr _) ho2, ⟨rfl, fun hq7 => rfl, fun hq7 => rfl⟩⟩⟩⟩⟩⟩⟩), fun hq5 => noN_ok 2 (hq5) (⟨hq3, ⟨hq5, ⟨hq3, ⟨rfl, ⟨fun o3 ho3 => ⟨N0 _ (.inl _) ho3, rfl⟩, fun o4 ho4 => ⟨N0 _ (.inr _) ho4, ⟨rfl, fun hq6 => rfl, fun hq6 => rfl⟩⟩⟩⟩⟩⟩⟩)⟩), fun hq4 => trivial⟩⟩⟩), fun hq2 => trivial⟩⟩⟩)⟩
theorem Qpw {L0 : Nat → PW} {M0 : PW} (N0 : Cv1 L0 M0) (a0 : ByteArray) : Cv (fun k => Qbj (L0 k) a0) (Qbj M0 a0) := by
  unfold Qbj
  exact .cond (by exact .const _) (.cond (by exact .const _) (.cond (.cond (by exact .const _) (.cond (.cond (.cond (by exact .const _) (.bind (N0 _) fun x => .sum (fun o1 => by exact .const _) (fun o2 => by exact .const _) x)) (.bind (N0 _) fun x => .sum (fun o3 => by exact .const _) (fun o4 => by exact .const _) x)) (by exact .const _))) (by exact .const _)))
def G3.s : Nat → ByteArray → Option Int
  | 0, _ => none
  | k + 1, a0 => Qbj (UT.s k) a0
theorem G3.ok : ∀ (k : Nat), Qoc (ev k) (G3.s k)
  | 0, _, _, h => (nomatch h)
  | k + 1, a0, r, h => fn_ok rfl (QhB pp (ev k) (UT.s k) a0) (Qpu _ _ a0) (Qpv _ _ _ _  (Qnc _ k) a0) h
noncomputable def UT : Uy → Option (Int ⊕ Int) := UT.w 
theorem UT.eq (a : Uy) : UT a = (QaX  a).bind (Sum.elim UT some) := loopW_eq _ _
noncomputable def G3 (a0 : ByteArray) : Option Int := Qbj UT a0
theorem G3.cv (a0 : ByteArray) : Cv (fun k => G3.s k a0) (G3 a0) := .un rfl (Qpw (UT.cv) a0)
theorem G3.eq (a0 : ByteArray) : G3 a0 = Qbj UT a0 := rfl
def Qc1 (r : (Qg × Bool)) : AV × Heap := (.tup [.agg (Ef r.1), xo r.2], [])
abbrev Fa := ByteArray → Bool → Option (Qg × Bool)
abbrev QhC (a0 : ByteArray) (a1 : Bool) : List AV × Heap := ([xs a0, xo a1], [])
abbrev Qke (w : Cf) (a0 : ByteArray) (a1 : Bool) : Option AH := w 158 (QhC a0 a1).1 (QhC a0 a1).2
abbrev Qlz (w : Cf) (c : Fa) : Prop := ∀ (a0 : ByteArray) (a1 : Bool) (r : (Qg × Bool)), c a0 a1 = some r → Qke w a0 a1 = some (Qc1 r)
def Qbk (C0 : Qc0) (C1 : S6) (a0 : ByteArray) (a1 : Bool) : Option (Qg × Bool) := (bif a1 then ((C0 a0).bind fun r1 => (some ((Qg.mk (if (0 : Int) > r1 then (0 : Int) else r1) (Qb.mk (0 : Int) (0 : Int) s_ ([] : List Qb))), (decide (r1 ≥ 0))))) else ((C1 a0).bind fun r2 => (some ((Qg.mk (-1 : Int) r2.1), r2.2))))
def QhD (P : Pg) (w : Cf) (C0 : Qc0) (C1 : S6) (a0 : ByteArray) (a1 : Bool) : Tr (Qg × Bool) AH := (.as a1 (.call (Qnb w a0) (C0 a0) Z6 fun r1 => (rt Qc1 ((Qg.mk (if (zi 0) > r1 then (zi 0) else r1) (Qb.mk (zi 0) (zi 0) s_ ([] : List Qb))), (decide (r1 ≥ 0))))) (.call (QkV w a0) (C1 a0) QaD fun r2 => (rt Qc1 ((Qg.mk (-1 : Int) r2.1), r2.2))))
theorem Qpx (w : Cf) (C0 : Qc0) (C1 : S6) (a0 : ByteArray) (a1 : Bool) : (QhD pp w C0 C1 a0 a1).norm (bodyT pp w G 158 (QhC a0 a1).1 (QhC a0 a1).2) = QhD pp w C0 C1 a0 a1 := by kernel_rfl
theorem Qpy (P : Pg) (w : Cf) (lp : Lo) (C0 : Qc0) (C1 : S6) (K0 : Qoc w C0) (K1 : QlI w C1) (a0 : ByteArray) (a1 : Bool) : (QhD P w C0 C1 a0 a1).ok lp Qc1 := ⟨rfl, fun hq0 => fun r1 hr1 => ⟨K0 _ _ hr1, rfl⟩, fun hq0 => fun r2 hr2 => ⟨K1 _ _ hr2, rfl⟩⟩
theorem Qpz {C0 : Nat → Qc0} {D0 : Qc0} (H0 : Cv1 C0 D0) {C1 : Nat → S6} {D1 : S6} (H1 : Cv1 C1 D1) (a0 : ByteArray) (a1 : Bool) : Cv (fun k => Qbk (C0 k) (C1 k) a0 a1) (Qbk D0 D1 a0 a1) := by
  unfold Qbk
  exact .cond (.bind (H0 _) fun r1 => by exact .const _) (.bind (H1 _) fun r2 => by exact .const _)
def ZN.s : Nat → ByteArray → Bool → Option (Qg × Bool)
  | 0, _, _ => none
  | k + 1, a0, a1 => Qbk (G3.s k) (Xv.s k) a0 a1
theorem ZN.ok : ∀ (k : Nat), Qlz (ev k) (ZN.s k)
  | 0, _, _, _, h => (nomatch h)
  | k + 1, a0, a1, r, h => fn_ok rfl (QhD pp (ev k) (G3.s k) (Xv.s k) a0 a1) (Qpx _ _ _ a0 a1) (Qpy _ _ _ _ _ (G3.ok k) (Xv.ok k)  a0 a1) h
noncomputable def ZN (a0 : ByteArray) (a1 : Bool) : Option (Qg × Bool) := Qbk G3 Xv a0 a1
theorem ZN.cv (a0 : ByteArray) (a1 : Bool) : Cv (fun k => ZN.s k a0 a1) (ZN a0 a1) := .un rfl (Qpz G3.cv Xv.cv a0 a1)
theorem ZN.eq (a0 : ByteArray) (a1 : Bool) : ZN a0 a1 = Qbk G3 Xv a0 a1 := rfl
def Yv (r : ((List Qg) × Bool)) : AV × Heap := (.tup [.sl (Qo r.1), xo r.2], [])
abbrev Z7 := (List ByteArray) → (List ByteArray) → Option ((List Qg) × Bool)
abbrev QfV (a0 : (List ByteArray)) (a1 : (List ByteArray)) : List AV × Heap := ([.sl (Qh a0), .sl (Qh a1)], [])
abbrev Gv (w : Cf) (a0 : (List ByteArray)) (a1 : (List ByteArray)) : Option AH := w 101 (QfV a0 a1).1 (QfV a0 a1).2
abbrev Qkf (w : Cf) (c : Z7) : Prop := ∀ (a0 : (List ByteArray)) (a1 : (List ByteArray)) (r : ((List Qg) × Bool)), c a0 a1 = some r → Gv w a0 a1 = some (Yv r)
structure J4 where
  x0 : (List ByteArray)
  x1 : (List ByteArray)
  x7 : Int
  r0 : (List Qg)
structure UR where
  x4 : (List Qg)
  x5 : Bool
def EI (a : J4) : St := { n := 42, nx := 1, env := [(0, .sl (Qh a.x0)), (1, .sl (Qh a.x1)), (6, .arr 0), (7, xi a.x7)], heap := [(0, .arr true 5 (Qo a.r0))] }
def QhV (a : UR) : Ex × St := (.ret, { n := 42, nx := 0, env := [(4, .sl (Qo a.x4)), (5, xo a.x5)], heap := [] })
def QhW (a : (List Qg)) : Ex × St := (.exit 0, { n := 42, nx := 1, env := [(6, .arr 0)], heap := [(0, .arr true 5 (Qo a))] })
def Ps (a : (UR ⊕ (List Qg))) : Ex × St := Sum.elim QhV QhW a
abbrev FW := J4 → Option (UR ⊕ (List Qg))
abbrev Qn1 (P : Pg) (lp : Lo) (l : FW) : Prop := ∀ (a : J4) (r : (UR ⊕ (List Qg))), l a = some r → lp (loopAt P 101 3) (EI a) = some (Ps r)
def Gw (C0 : W8) (C1 : Fa) (a : J4) : Option (J4 ⊕ (UR ⊕ (List Qg))) := (bif (decide (a.x7 < (((a.x0.length) : Nat) : Int))) then (bif (decide (a.x7 < (((a.x1.length) : Nat) : Int))) then (bif (decide (0 ≤ a.x7)) then ((a.x1[(Int.toNat a.x7)]?).bind fun e1 => ((C0 e1).bind fun r2 => ((a.x0[(Int.toNat a.x7)]?).bind fun e3 => ((C1 e3 r2).bind fun r4 => (bif (!r4.2) then (some (.inr (.inl (UR.mk ([] : List Qg) false)))) else (bif (decide ((a.r0.length + [r4.1].length) * 64 ≤ most)) then (some (.inl (J4.mk a.x0 a.x1 (w64 (a.x7 + 1)) (a.r0 ++ [r4.1])))) else none)))))) else none) else (bif (decide (0 ≤ a.x7)) then ((a.x0[(Int.toNat a.x7)]?).bind fun e5 => ((C1 e5 false).bind fun r6 => (bif (!r6.2) then (some (.inr (.inl (UR.mk ([] : List Qg) false)))) else (bif (decide ((a.r0.length + [r6.1].length) * 64 ≤ most)) then (some (.inl (J4.mk a.x0 a.x1 (w64 (a.x7 + 1)) (a.r0 ++ [r6.1])))) else none)))) else none)) else (some (.inr (.inr a.r0))))
def QcA (P : Pg) (w : Cf) (C0 : W8) (C1 : Fa) (a : J4) : Tr (J4 ⊕ (UR ⊕ (List Qg))) XS := (.num ((Qh a.x0).length) (a.x0.length) (.as (decide (a.x7 < (((a.x0.length) : Nat) : Int))) (.num ((Qh a.x1).length) (a.x1.length) (.as (decide (a.x7 < (((a.x1.length) : Nat) : Int))) (let u140 := (decide (0 ≤ a.x7)); .as u140 (.row ((Qh a.x1)[(Int.toNat a.x7)]?) (a.x1[(Int.toNat a.x7)]?) Vf fun (e1 : ByteArray) => (.call (QhR w e1) (C0 e1) P6 fun r2 => (.yes u140 (.row ((Qh a.x0)[(Int.toNat a.x7)]?) (a.x0[(Int.toNat a.x7)]?) Vf fun (e3 : ByteArray) => (.call (Qke w e3 r2) (C1 e3 r2) Qc1 fun r4 => (.as (!r4.2) (rx Ps (.inl (UR.mk ([] : List Qg) false))) (.rows [[xi r4.1.Reg, xi r4.1.E.Kind, xi r4.1.E.N, xs r4.1.E.Name, .sl (Uj r4.1.E.L)]] (Qo [r4.1]) (.yes (decide ((Qo [r4.1]).all (fun r => r.length == 5) = true)) (.ask (decide (((Qo a.r0).length + (Qo [r4.1]).length) * 64 ≤ most)) (decide ((a.r0.length + [r4.1].length) * 64 ≤ most)) (.rows ((Qo a.r0) ++ (Qo [r4.1])) (Qo (a.r0 ++ [r4.1])) (lf EI (J4.mk a.x0 a.x1 (w64 (a.x7 + 1)) (a.r0 ++ [r4.1])))) .fail))))))))) .fail) (.as (decide (0 ≤ a.x7)) (.row ((Qh a.x0)[(Int.toNat a.x7)]?) (a.x0[(Int.toNat a.x7)]?) Vf fun (e5 : ByteArray) => (.call (Qke w e5 false) (C1 e5 false) Qc1 fun r6 => (.as (!r6.2) (rx Ps (.inl (UR.mk ([] : List Qg) false))) (.rows [[xi r6.1.Reg, xi r6.1.E.Kind, xi r6.1.E.N, xs r6.1.E.Name, .sl (Uj r6.1.E.L)]] (Qo [r6.1]) (.yes (decide ((Qo [r6.1]).all (fun r => r.length == 5) = true)) (.ask (decide (((Qo a.r0).length + (Qo [r6.1]).length) * 64 ≤ most)) (decide ((a.r0.length + [r6.1].length) * 64 ≤ most)) (.rows ((Qo a.r0) ++ (Qo [r6.1])) (Qo (a.r0 ++ [r6.1])) (lf EI (J4.mk a.x0 a.x1 (w64 (a.x7 + 1)) (a.r0 ++ [r6.1])))) .fail)))))) .fail))) (rx Ps (.inr a.r0))))
theorem Qnd (w : Cf) (C0 : W8) (C1 : Fa) (a : J4) : (QcA pp w C0 C1 a).norm (roundT pp G.kd w 0 (G.an 101) (loopAt pp 101 3) (EI a)) = QcA pp w C0 C1 a := by kernel_rfl
theorem Qne (P : Pg) (w : Cf) (lp : Lo) (C0 : W8) (C1 : Fa) (K0 : Qfg w C0) (K1 : Qlz w C1) (a : J4) : (QcA P w C0 C1 a).ok lp (Sum.elim (fun a => (.norm, EI a)) Ps) := ⟨(Qr _), ⟨rfl, fun hq0 => ⟨(Qr _), ⟨rfl, fun hq1 => ⟨rfl, fun hq2 => fun e1 he1 => ⟨VP he1, fun r2 hr2 => ⟨K0 _ _ hr2, ⟨hq2, fun e3 he3 => ⟨VP he3, fun r4 hr4 => ⟨K1 _ _ _ hr4, ⟨rfl, fun hq3 => rfl, fun hq3 => ⟨(XZ [r4.1]), ⟨(decide_eq_true (Qa2 _)), ⟨(by rw [Wc, Wc]), fun hq4 => ⟨(Px _ _), rfl⟩, fun hq4 => trivial⟩⟩⟩⟩⟩⟩⟩⟩⟩, fun hq2 => trivial⟩, fun hq1 => ⟨rfl, fun hq2 => fun e5 he5 => ⟨VP he5, fun r6 hr6 => ⟨K1 _ _ _ hr6, ⟨rfl, fun hq3 => rfl, fun hq3 => ⟨(XZ [r6.1]), ⟨(decide_eq_true (Qa2 _)), ⟨(by rw [Wc, Wc]), fun hq4 => ⟨(Px _ _), rfl⟩, fun hq4 => trivial⟩⟩⟩⟩⟩⟩, fun hq2 => trivial⟩⟩⟩, fun hq0 => rfl⟩⟩
theorem Qnf {C0 : Nat → W8} {D0 : W8} (H0 : Cv1 C0 D0) {C1 : Nat → Fa} {D1 : Fa} (H1 : Cv2 C1 D1) (a : J4) : Cv (fun k => Gw (C0 k) (C1 k) a) (Gw D0 D1 a) := by
  unfold Gw
  exact .cond (.cond (.cond (.bind (.const _) fun e1 => .bind (H0 _) fun r2 => .bind (.const _) fun e3 => .bind (H1 _ _) fun r4 => by exact .const _) (by exact .const _)) (.cond (.bind (.const _) fun e5 => .bind (H1 _ _) fun r6 => by exact .const _) (by exact .const _))) (by exact .const _)
def Vs.s (k : Nat) (C0 : W8) (C1 : Fa) : J4 → Option (UR ⊕ (List Qg)) := iter (Gw C0 C1) k
theorem Qmh (w : Cf) (k : Nat) (C0 : W8) (C1 : Fa) (K0 : Qfg w C0) (K1 : Qlz w C1) (a : J4) (r : (UR ⊕ (List Qg))) (h : Vs.s k C0 C1 a = some r) : loopsF pp G.kd w 0 (G.an 101) k (loopAt pp 101 3) (EI a) = some (Ps r) :=
  loop_ok (fun a => QcA pp w C0 C1 a) (fun _ => rfl) (fun a => Qnd w _ _ a) (fun a => Qne _ w _ _ _ K0 K1 a) (fun r => by cases r <;> nofun) h
noncomputable def Vs.w (C0 : W8) (C1 : Fa) : J4 → Option (UR ⊕ (List Qg)) := loopW (Gw C0 C1)
theorem Vs.cv (C0 : Nat → W8) (C1 : Nat → Fa) (D0 : W8) (D1 : Fa) (H0 : Cv1 C0 D0) (H1 : Cv2 C1 D1) (a : J4) : Cv (fun k => Vs.s k (C0 k) (C1 k) a) (Vs.w D0 D1 a) := Cv.iter (fun a => Qnf H0 H1 a) a
def Qac (L0 : FW) (a0 : (List ByteArray)) (a1 : (List ByteArray)) : Option ((List Qg) × Bool) := ((L0 (J4.mk a0 a1 (0 : Int) ([] : List Qg))).bind fun x => Sum.elim (fun (o1 : UR) => (some (o1.x4, o1.x5))) (fun (o2 : (List Qg)) => (some (o2, true))) x)
def QfW (P : Pg) (w : Cf) (L0 : FW) (a0 : (List ByteArray)) (a1 : (List ByteArray)) : Tr ((List Qg) × Bool) AH := (.loop2 (loopAt P 101 3) (EI (J4.mk a0 a1 (zi 0) ([] : List Qg))) (L0 (J4.mk a0 a1 (zi 0) ([] : List Qg))) QhV QhW (fun (o1 : UR) => (rt Yv (o1.x4, o1.x5))) (fun (o2 : (List Qg)) => (rt Yv (o2, true))))
theorem Qpd (w : Cf) (L0 : FW) (a0 : (List ByteArray)) (a1 : (List ByteArray)) : (QfW pp w L0 a0 a1).norm (bodyT pp w G 101 (QfV a0 a1).1 (QfV a0 a1).2) = QfW pp w L0 a0 a1 := by kernel_rfl
theorem Qpe (P : Pg) (w : Cf) (lp : Lo) (L0 : FW) (N0 : Qn1 P lp L0) (a0 : (List ByteArray)) (a1 : (List ByteArray)) : (QfW P w L0 a0 a1).ok lp Yv := ⟨fun o1 ho1 => ⟨N0 _ (.inl _) ho1, rfl⟩, fun o2 ho2 => ⟨N0 _ (.inr _) ho2, rfl⟩⟩
theorem Qpf {L0 : Nat → FW} {M0 : FW} (N0 : Cv1 L0 M0) (a0 : (List ByteArray)) (a1 : (List ByteArray)) : Cv (fun k => Qac (L0 k) a0 a1) (Qac M0 a0 a1) := by
  unfold Qac
  exact .bind (N0 _) fun x => .sum (fun o1 => by exact .const _) (fun o2 => by exact .const _) x
def V6.s : Nat → (List ByteArray) → (List ByteArray) → Option ((List Qg) × Bool)
  | 0, _, _ => none
  | k + 1, a0, a1 => Qac (Vs.s k (U4.s k) (ZN.s k)) a0 a1
theorem V6.ok : ∀ (k : Nat), Qkf (ev k) (V6.s k)
  | 0, _, _, _, h => (nomatch h)
  | k + 1, a0, a1, r, h => fn_ok rfl (QfW pp (ev k) (Vs.s k (U4.s k) (ZN.s k)) a0 a1) (Qpd _ _ a0 a1) (Qpe _ _ _ _  (Qmh _ k _ _ (U4.ok k) (ZN.ok k)) a0 a1) h
noncomputable def Vs : J4 → Option (UR ⊕ (List Qg)) := Vs.w U4 ZN
theorem Vs.eq (a : J4) : Vs a = (Gw U4 ZN a).bind (Sum.elim Vs some) := loopW_eq _ _
noncomputable def V6 (a0 : (List ByteArray)) (a1 : (List ByteArray)) : Option ((List Qg) × Bool) := Qac Vs a0 a1
theorem V6.cv (a0 : (List ByteArray)) (a1 : (List ByteArray)) : Cv (fun k => V6.s k a0 a1) (V6 a0 a1) := .un rfl (Qpf (Vs.cv (fun k => U4.s k) (fun k => ZN.s k) U4 ZN U4.cv ZN.cv) a0 a1)
theorem V6.eq (a0 : (List ByteArray)) (a1 : (List ByteArray)) : V6 a0 a1 = Qac Vs a0 a1 := rfl
def Gk (r : (ByteArray × Bool)) : AV × Heap := (.tup [xs r.1, xo r.2], [])
abbrev PX := ByteArray → Option (ByteArray × Bool)
abbrev Qdu (a0 : ByteArray) : List AV × Heap := ([xs a0], [])
abbrev QjT (w : Cf) (a0 : ByteArray) : Option AH := w 100 (Qdu a0).1 (Qdu a0).2
abbrev QkY (w : Cf) (c : PX) : Prop := ∀ (a0 : ByteArray) (r : (ByteArray × Bool)), c a0 = some r → QjT w a0 = some (Gk r)
structure Uh where
  x0 : ByteArray
  x4 : Int
structure Um where
  x2 : ByteArray
  x3 : Bool
def Er (a : Uh) : St := { n := 54, nx := 0, env := [(0, xs a.x0), (4, xi a.x4)], heap := [] }
def QfX (a : Um) : Ex × St := (.ret, { n := 54, nx := 0, env := [(2, xs a.x2), (3, xo a.x3)], heap := [] })
def QfY (a : ByteArray) : Ex × St := (.exit 0, { n := 54, nx := 0, env := [(0, xs a)], heap := [] })
def Z8 (a : (Um ⊕ ByteArray)) : Ex × St := Sum.elim QfX QfY a
abbrev GV := Uh → Option (Um ⊕ ByteArray)
abbrev Qmi (P : Pg) (lp : Lo) (l : GV) : Prop := ∀ (a : Uh) (r : (Um ⊕ ByteArray)), l a = some r → lp (loopAt P 100 4) (Er a) = some (Z8 r)
def Pt  (a : Uh) : Option (Uh ⊕ (Um ⊕ ByteArray)) := (bif (decide (a.x4 < (w64 (((a.x0.size : Nat) : Int) - 1)))) then (bif (decide (0 ≤ a.x4 ∧ a.x4 < ((a.x0.size : Nat) : Int))) then (bif (decide (((a.x0.data.getD (Int.toNat a.x4) 0).toNat : Int) < 32)) then (some (.inr (.inl (Um.mk s_ false)))) else (bif (decide (((a.x0.data.getD (Int.toNat a.x4) 0).toNat : Int) > 126)) then (some (.inr (.inl (Um.mk s_ false)))) else (bif (((a.x0.data.getD (Int.toNat a.x4) 0).toNat : Int) == 34) then (some (.inr (.inl (Um.mk s_ false)))) else (some (.inl (Uh.mk a.x0 (w64 (a.x4 + 1)))))))) else none) else (some (.inr (.inr a.x0))))
def QaE (P : Pg) (w : Cf)  (a : Uh) : Tr (Uh ⊕ (Um ⊕ ByteArray)) XS := (.as (decide (a.x4 < (w64 ((zz a.x0) - 1)))) (let u143 := (in1 a.x4 (zz a.x0)); .as u143 (let u142 := (decide ((gb a.x0 a.x4) < 32)); .as u142 (yesN 4 u142 (yesN 6 true (rx Z8 (.inl (Um.mk s_ false))))) (noN 2 u142 (.yes u143 (noN 2 u142 (let u141 := (decide ((gb a.x0 a.x4) > 126)); .as u141 (yesN 4 u141 (.yes true (rx Z8 (.inl (Um.mk s_ false))))) (noN 2 u141 (.yes u143 (noN 2 u141 (.as ((gb a.x0 a.x4) == 34) (rx Z8 (.inl (Um.mk s_ false))) (lf Er (Uh.mk a.x0 (w64 (a.x4 + 1))))))))))))) .fail) (rx Z8 (.inr a.x0)))
theorem QlA (w : Cf)  (a : Uh) : (QaE pp w  a).norm (roundT pp G.kd w 0 (G.an 100) (loopAt pp 100 4) (Er a)) = QaE pp w  a := by kernel_rfl
theorem QlB (P : Pg) (w : Cf) (lp : Lo)   (a : Uh) : (QaE P w  a).ok lp (Sum.elim (fun a => (.norm, Er a)) Z8) := ⟨rfl, fun hq0 => ⟨rfl, fun hq1 => ⟨rfl, fun hq2 => yesN_ok 4 (hq2) (yesN_ok 6 (rfl) (rfl)), fun hq2 => noN_ok 2 (hq2) (⟨hq1, noN_ok 2 (hq2) (⟨rfl, fun hq3 => yesN_ok 4 (hq3) (⟨rfl, rfl⟩), fun hq3 => noN_ok 2 (hq3) (⟨hq1, noN_ok 2 (hq3) (⟨rfl, fun hq4 => rfl, fun hq4 => rfl⟩)⟩)⟩)⟩)⟩, fun hq1 => trivial⟩, fun hq0 => rfl⟩
def UO.s (k : Nat)  : Uh → Option (Um ⊕ ByteArray) := iter (Pt ) k
theorem QkZ (w : Cf) (k : Nat)   (a : Uh) (r : (Um ⊕ ByteArray)) (h : UO.s k  a = some r) : loopsF pp G.kd w 0 (G.an 100) k (loopAt pp 100 4) (Er a) = some (Z8 r) :=
  loop_ok (fun a => QaE pp w  a) (fun _ => rfl) (fun a => QlA w  a) (fun a => QlB _ w _   a) (fun r => by cases r <;> nofun) h
noncomputable def UO.w  : Uh → Option (Um ⊕ ByteArray) := loopW (Pt )
theorem UO.cv    (a : Uh) : Cv (fun k => UO.s k  a) (UO.w  a) := Cv.iter (fun a => by exact .const _) a
def FX (L0 : GV) (a0 : ByteArray) : Option (ByteArray × Bool) := (bif (decide (((a0.size : Nat) : Int) < 2)) then (some (s_, false)) else (bif (decide (0 ≤ (0 : Int) ∧ (0 : Int) < ((a0.size : Nat) : Int))) then (bif (((a0.data.getD (Int.toNat 0) 0).toNat : Int) != 34) then (some (s_, false)) else (bif (decide (0 ≤ (w64 (((a0.size : Nat) : Int) - 1)) ∧ (w64 (((a0.size : Nat) : Int) - 1)) < ((a0.size : Nat) : Int))) then (bif (((a0.data.getD (Int.toNat (w64 (((a0.size : Nat) : Int) - 1))) 0).toNat : Int) != 34) then (some (s_, false)) else (bif (decide (((a0.size : Nat) : Int) > 62)) then (some (s_, false)) else ((L0 (Uh.mk a0 (1 : Int))).bind fun x => Sum.elim (fun (o1 : Um) => (some (o1.x2, o1.x3))) (fun (o2 : ByteArray) => (bif (decide (0 ≤ (1 : Int) ∧ (1 : Int) ≤ (w64 (((o2.size : Nat) : Int) - 1)) ∧ (w64 (((o2.size : Nat) : Int) - 1)) ≤ ((o2.size : Nat) : Int))) then (some ((o2.extract (Int.toNat 1) (Int.toNat (w64 (((o2.size : Nat) : Int) - 1)))), true)) else none)) x))) else none)) else none))
def Qdv (P : Pg) (w : Cf) (L0 : GV) (a0 : ByteArray) : Tr (ByteArray × Bool) AH := (let u146 := (decide ((zz a0) < 2)); .as u146 (yesN 3 u146 (yesN 12 true (rt Gk (s_, false)))) (.no u146 (.as (in1 (zi 0) (zz a0)) (noN 2 u146 (let u145 := ((gb a0 (zi 0)) != 34); .as u145 (yesN 6 u145 (yesN 5 true (rt Gk (s_, false)))) (noN 4 u145 (.as (in1 (w64 ((zz a0) - 1)) (zz a0)) (noN 2 u145 (let u144 := ((gb a0 (w64 ((zz a0) - 1))) != 34); .as u144 (yesN 3 u144 (.yes true (rt Gk (s_, false)))) (noN 3 u144 (.as (decide ((zz a0) > 62)) (rt Gk (s_, false)) (.loop2 (loopAt P 100 4) (Er (Uh.mk a0 (zi 1))) (L0 (Uh.mk a0 (zi 1))) QfX QfY (fun (o1 : Um) => (rt Gk (o1.x2, o1.x3))) (fun (o2 : ByteArray) => (.as (in2 (zi 1) (w64 ((zz o2) - 1)) (zz o2)) (rt Gk ((cu o2 (zi 1) (w64 ((zz o2) - 1))), true)) .fail))))))) .fail)))) .fail)))
theorem Qn2 (w : Cf) (L0 : GV) (a0 : ByteArray) : (Qdv pp w L0 a0).norm (bodyT pp w G 100 (Qdu a0).1 (Qdu a0).2) = Qdv pp w L0 a0 := by kernel_rfl
theorem Qn3 (P : Pg) (w : Cf) (lp : Lo) (L0 : GV) (N0 : Qmi P lp L0) (a0 : ByteArray) : (Qdv P w L0 a0).ok lp Gk := ⟨rfl, fun hq0 => yesN_ok 3 (hq0) (yesN_ok 12 (rfl) (rfl)), fun hq0 => ⟨hq0, ⟨rfl, fun hq1 => noN_ok 2 (hq0) (⟨rfl, fun hq2 => yesN_ok 6 (hq2) (yesN_ok 5 (rfl) (rfl)), fun hq2 => noN_ok 4 (hq2) (⟨rfl, fun hq3 => noN_ok 2 (hq2) (⟨rfl, fun hq4 => yesN_ok 3 (hq4) (⟨rfl, rfl⟩), fun hq4 => noN_ok 3 (hq4) (⟨rfl, fun hq5 => rfl, fun hq5 => ⟨fun o1 ho1 => ⟨N0 _ (.inl _) ho1, rfl⟩, fun o2 ho2 => ⟨N0 _ (.inr _) ho2, ⟨rfl, fun hq6 => rfl, fun hq6 => trivial⟩⟩⟩⟩)⟩), fun hq3 => trivial⟩)⟩), fun hq1 => trivial⟩⟩⟩
theorem Qn4 {L0 : Nat → GV} {M0 : GV} (N0 : Cv1 L0 M0) (a0 : ByteArray) : Cv (fun k => FX (L0 k) a0) (FX M0 a0) := by
  unfold FX
  exact .cond (by exact .const _) (.cond (.cond (by exact .const _) (.cond (.cond (by exact .const _) (.cond (by exact .const _) (.bind (N0 _) fun x => .sum (fun o1 => by exact .const _) (fun o2 => by exact .const _) x))) (by exact .const _))) (by exact .const _))
def WQ.s : Nat → ByteArray → Option (ByteArray × Bool)
  | 0, _ => none
  | k + 1, a0 => FX (UO.s k) a0
theorem WQ.ok : ∀ (k : Nat), QkY (ev k) (WQ.s k)
  | 0, _, _, h => (nomatch h)
  | k + 1, a0, r, h => fn_ok rfl (Qdv pp (ev k) (UO.s k) a0) (Qn2 _ _ a0) (Qn3 _ _ _ _  (QkZ _ k) a0) h
noncomputable def UO : Uh → Option (Um ⊕ ByteArray) := UO.w 
theorem UO.eq (a : Uh) : UO a = (Pt  a).bind (Sum.elim UO some) := loopW_eq _ _
noncomputable def WQ (a0 : ByteArray) : Option (ByteArray × Bool) := FX UO a0
theorem WQ.cv (a0 : ByteArray) : Cv (fun k => WQ.s k a0) (WQ a0) := .un rfl (Qn4 (UO.cv) a0)
theorem WQ.eq (a0 : ByteArray) : WQ a0 = FX UO a0 := rfl
def UD (r : (Qf × Bool)) : AV × Heap := (.tup [.agg (Ga r.1), xo r.2], [])
abbrev Qad := ByteArray → (List ByteArray) → Option (Qf × Bool)
abbrev QeO (a0 : ByteArray) (a1 : (List ByteArray)) : List AV × Heap := ([xs a0, .sl (Qh a1)], [])
abbrev QhE (w : Cf) (a0 : ByteArray) (a1 : (List ByteArray)) : Option AH := w 56 (QeO a0 a1).1 (QeO a0 a1).2
abbrev QlM (w : Cf) (c : Qad) : Prop := ∀ (a0 : ByteArray) (a1 : (List ByteArray)) (r : (Qf × Bool)), c a0 a1 = some r → QhE w a0 a1 = some (UD r)
def PY (C0 : Z7) (C1 : PX) (C2 : Xm) (a0 : ByteArray) (a1 : (List ByteArray)) : Option (Qf × Bool) := (bif (eqS a0 QD) then (bif (decide ((((a1.length) : Nat) : Int) < 1)) then (some ((Qf.mk (0 : Int) s_ (3 : Int) (0 : Int) s_ ([] : List Qg)), false)) else (bif (decide ((((a1.length) : Nat) : Int) > 16)) then (some ((Qf.mk (0 : Int) s_ (3 : Int) (0 : Int) s_ ([] : List Qg)), false)) else ((C0 a1 ([] : List ByteArray)).bind fun r1 => (some ((Qf.mk (0 : Int) s_ (3 : Int) (0 : Int) s_ r1.1), r1.2))))) else (bif (eqS a0 QE) then (bif (decide ((((a1.length) : Nat) : Int) < 1)) then (some ((Qf.mk (0 : Int) s_ (4 : Int) (0 : Int) s_ ([] : List Qg)), false)) else (bif (decide ((((a1.length) : Nat) : Int) > 16)) then (some ((Qf.mk (0 : Int) s_ (4 : Int) (0 : Int) s_ ([] : List Qg)), false)) else ((C0 a1 ([] : List ByteArray)).bind fun r2 => (some ((Qf.mk (0 : Int) s_ (4 : Int) (0 : Int) s_ r2.1), r2.2))))) else (bif (eqS a0 QF) then (bif (decide ((((a1.length) : Nat) : Int) < 1)) then (some ((Qf.mk (0 : Int) s_ (5 : Int) (0 : Int) s_ ([] : List Qg)), false)) else (bif (decide ((((a1.length) : Nat) : Int) > 16)) then (some ((Qf.mk (0 : Int) s_ (5 : Int) (0 : Int) s_ ([] : List Qg)), false)) else ((C0 a1 ([] : List ByteArray)).bind fun r3 => (some ((Qf.mk (0 : Int) s_ (5 : Int) (0 : Int) s_ r3.1), r3.2))))) else (bif (eqS a0 Jg) then (bif (decide ((((a1.length) : Nat) : Int) < 1)) then (some ((Qf.mk (0 : Int) s_ (7 : Int) (0 : Int) s_ ([] : List Qg)), false)) else (bif (decide ((((a1.length) : Nat) : Int) > 1)) then (some ((Qf.mk (0 : Int) s_ (7 : Int) (0 : Int) s_ ([] : List Qg)), false)) else ((C0 a1 ([] : List ByteArray)).bind fun r4 => (some ((Qf.mk (0 : Int) s_ (7 : Int) (0 : Int) s_ r4.1), r4.2))))) else (bif (eqS a0 Jh) then (bif (decide ((((a1.length) : Nat) : Int) < 1)) then (some ((Qf.mk (0 : Int) s_ (8 : Int) (0 : Int) s_ ([] : List Qg)), false)) else (bif (decide ((((a1.length) : Nat) : Int) > 1)) then (some ((Qf.mk (0 : Int) s_ (8 : Int) (0 : Int) s_ ([] : List Qg)), false)) else ((C0 a1 ([] : List ByteArray)).bind fun r5 => (some ((Qf.mk (0 : Int) s_ (8 : Int) (0 : Int) s_ r5.1), r5.2))))) else (bif (eqS a0 VM) then (bif ((((a1.length) : Nat) : Int) != 1) then (some ((Qf.mk (0 : Int) s_ (0 : Int) (0 : Int) s_ ([] : List Qg)), false)) else ((a1[(Int.toNat 0)]?).bind fun e6 => ((C1 e6).bind fun r7 => (some ((Qf.mk (0 : Int) s_ (6 : Int) (0 : Int) r7.1 ([] : List Qg)), r7.2))))) else (bif (eqS a0 X7) then (bif ((((a1.length) : Nat) : Int) != 2) then (some ((Qf.mk (0 : Int) s_ (0 : Int) (0 : Int) s_ ([] : List Qg)), false)) else ((a1[(Int.toNat 0)]?).bind fun e8 => ((C2 e8).bind fun r9 => (bif (!r9) then (some ((Qf.mk (0 : Int) s_ (0 : Int) (0 : Int) s_ ([] : List Qg)), false)) else (bif (decide (0 ≤ (1 : Int) ∧ (1 : Int) ≤ ((a1.length : Nat) : Int) ∧ ((a1.length : Nat) : Int) ≤ ((a1.length : Nat) : Int))) then ((C0 ((a1.drop (Int.toNat 1)).take (Int.toNat (((a1.length : Nat) : Int) - 1))) ([] : List ByteArray)).bind fun r10 => ((a1[(Int.toNat 0)]?).bind fun e11 => (some ((Qf.mk (0 : Int) s_ (9 : Int) (0 : Int) e11 r10.1), r10.2)))) else none))))) else (some ((Qf.mk (0 : Int) s_ (0 : Int) (0 : Int) s_ ([] : List Qg)), false)))))))))
def QeP (P : Pg) (w : Cf) (C0 : Z7) (C1 : PX) (C2 : Xm) (a0 : ByteArray) (a1 : (List ByteArray)) : Tr (Qf × Bool) AH := (.as (eqS a0 QD) (.num ((Qh a1).length) (a1.length) (let u147 := (decide ((((a1.length) : Nat) : Int) < 1)); .as u147 (yesN 4 u147 (.yes true (rt UD ((Qf.mk (zi 0) s_ (zi 3) (zi 0) s_ ([] : List Qg)), false)))) (.no u147 (.num ((Qh a1).length) (a1.length) (noN 3 u147 (.as (decide ((((a1.length) : Nat) : Int) > 16)) (rt UD ((Qf.mk (zi 0) s_ (zi 3) (zi 0) s_ ([] : List Qg)), false)) (.call (Gv w a1 ([] : List ByteArray)) (C0 a1 ([] : List ByteArray)) Yv fun r1 => (rt UD ((Qf.mk (zi 0) s_ (zi 3) (zi 0) s_ r1.1), r1.2))))))))) (.as (eqS a0 QE) (.num ((Qh a1).length) (a1.length) (let u148 := (decide ((((a1.length) : Nat) : Int) < 1)); .as u148 (yesN 4 u148 (.yes true (rt UD ((Qf.mk (zi 0) s_ (zi 4) (zi 0) s_ ([] : List Qg)), false)))) (.no u148 (.num ((Qh a1).length) (a1.length) (noN 3 u148 (.as (decide ((((a1.length) : Nat) : Int) > 16)) (rt UD ((Qf.mk (zi 0) s_ (zi 4) (zi 0) s_ ([] : List Qg)), false)) (.call (Gv w a1 ([] : List ByteArray)) (C0 a1 ([] : List ByteArray)) Yv fun r2 => (rt UD ((Qf.mk (zi 0) s_ (zi 4) (zi 0) s_ r2.1), r2.2))))))))) (.as (eqS a0 QF) (.num ((Qh a1).length) (a1.length) (let u149 := (decide ((((a1.length) : Nat) : Int) < 1)); .as u149 (yesN 4 u149 (.yes true (rt UD ((Qf.mk (zi 0) s_ (zi 5) (zi 0) s_ ([] : List Qg)), false)))) (.no u149 (.num ((Qh a1).length) (a1.length) (noN 3 u149 (.as (decide ((((a1.length) : Nat) : Int) > 16)) (rt UD ((Qf.mk (zi 0) s_ (zi 5) (zi 0) s_ ([] : List Qg)), false)) (.call (Gv w a1 ([] : List ByteArray)) (C0 a1 ([] : List ByteArray)) Yv fun r3 => (rt UD ((Qf.mk (zi 0) s_ (zi 5) (zi 0) s_ r3.1), r3.2))))))))) (.as (eqS a0 Jg) (.num ((Qh a1).length) (a1.length) (let u150 := (decide ((((a1.length) : Nat) : Int) < 1)); .as u150 (yesN 4 u150 (.yes true (rt UD ((Qf.mk (zi 0) s_ (zi 7) (zi 0) s_ ([] : List Qg)), false)))) (.no u150 (.num ((Qh a1).length) (a1.length) (noN 3 u150 (.as (decide ((((a1.length) : Nat) : Int) > 1)) (rt UD ((Qf.mk (zi 0) s_ (zi 7) (zi 0) s_ ([] : List Qg)), false)) (.call (Gv w a1 ([] : List ByteArray)) (C0 a1 ([] : List ByteArray)) Yv fun r4 => (rt UD ((Qf.mk (zi 0) s_ (zi 7) (zi 0) s_ r4.1), r4.2))))))))) (.as (eqS a0 Jh) (.num ((Qh a1).length) (a1.length) (let u151 := (decide ((((a1.length) : Nat) : Int) < 1)); .as u151 (yesN 4 u151 (.yes true (rt UD ((Qf.mk (zi 0) s_ (zi 8) (zi 0) s_ ([] : List Qg)), false)))) (.no u151 (.num ((Qh a1).length) (a1.length) (noN 3 u151 (.as (decide ((((a1.length) : Nat) : Int) > 1)) (rt UD ((Qf.mk (zi 0) s_ (zi 8) (zi 0) s_ ([] : List Qg)), false)) (.call (Gv w a1 ([] : List ByteArray)) (C0 a1 ([] : List ByteArray)) Yv fun r5 => (rt UD ((Qf.mk (zi 0) s_ (zi 8) (zi 0) s_ r5.1), r5.2))))))))) (.as (eqS a0 VM) (.num ((Qh a1).length) (a1.length) (.as ((((a1.length) : Nat) : Int) != 1) (rt UD ((Qf.mk (zi 0) s_ (zi 0) (zi 0) s_ ([] : List Qg)), false)) (.yes (decide (0 ≤ (zi 0))) (.row ((Qh a1)[(Int.toNat 0)]?) (a1[(Int.toNat 0)]?) Vf fun (e6 : ByteArray) => (.call (QjT w e6) (C1 e6) Gk fun r7 => (rt UD ((Qf.mk (zi 0) s_ (zi 6) (zi 0) r7.1 ([] : List Qg)), r7.2))))))) (.as (eqS a0 X7) (.num ((Qh a1).length) (a1.length) (let u152 := ((((a1.length) : Nat) : Int) != 2); .as u152 (yesN 5 u152 (.yes true (rt UD ((Qf.mk (zi 0) s_ (zi 0) (zi 0) s_ ([] : List Qg)), false)))) (.no u152 (.yes (decide (0 ≤ (zi 0))) (.row ((Qh a1)[(Int.toNat 0)]?) (a1[(Int.toNat 0)]?) Vf fun (e8 : ByteArray) => (noN 2 u152 (.call (QiB w e8) (C2 e8) QdJ fun r9 => (noN 2 u152 (.as (!r9) (rt UD ((Qf.mk (zi 0) s_ (zi 0) (zi 0) s_ ([] : List Qg)), false)) (.yes (decide ((Qh a1).all (fun r => r.length == 1) = true)) (.ask (in2 (zi 1) (((Qh a1).length : Nat) : Int) (((Qh a1).length : Nat) : Int)) (in2 (zi 1) ((a1.length : Nat) : Int) ((a1.length : Nat) : Int)) (.rows (((Qh a1).drop (Int.toNat 1)).take (Int.toNat ((((Qh a1).length : Nat) : Int) - 1))) (Qh ((a1.drop (Int.toNat 1)).take (Int.toNat (((a1.length : Nat) : Int) - 1)))) (.call (Gv w ((a1.drop (Int.toNat 1)).take (Int.toNat (((a1.length : Nat) : Int) - 1))) ([] : List ByteArray)) (C0 ((a1.drop (Int.toNat 1)).take (Int.toNat (((a1.length : Nat) : Int) - 1))) ([] : List ByteArray)) Yv fun r10 => (.yes (decide (0 ≤ (zi 0))) (.row ((Qh a1)[(Int.toNat 0)]?) (a1[(Int.toNat 0)]?) Vf fun (e11 : ByteArray) => (rt UD ((Qf.mk (zi 0) s_ (zi 9) (zi 0) e11 r10.1), r10.2)))))) .fail))))))))))) (rt UD ((Qf.mk (zi 0) s_ (zi 0) (zi 0) s_ ([] : List Qg)), false)))))))))
theorem QoL (w : Cf) (C0 : Z7) (C1 : PX) (C2 : Xm) (a0 : ByteArray) (a1 : (List ByteArray)) : (QeP pp w C0 C1 C2 a0 a1).norm (bodyT pp w G 56 (QeO a0 a1).1 (QeO a0 a1).2) = QeP pp w C0 C1 C2 a0 a1 := by kernel_rfl
theorem QoM (P : Pg) (w : Cf) (lp : Lo) (C0 : Z7) (C1 : PX) (C2 : Xm) (K0 : Qkf w C0) (K1 : QkY w C1) (K2 : Qhf w C2) (a0 : ByteArray) (a1 : (List ByteArray)) : (QeP P w C0 C1 C2 a0 a1).ok lp UD := ⟨rfl, fun hq0 => ⟨(Qr _), ⟨rfl, fun hq1 => yesN_ok 4 (hq1) (⟨rfl, rfl⟩), fun hq1 => ⟨hq1, ⟨(Qr _), noN_ok 3 (hq1) (⟨rfl, fun hq2 => rfl, fun hq2 => fun r1 hr1 => ⟨K0 _ _ _ hr1, rfl⟩⟩)⟩⟩⟩⟩, fun hq0 => ⟨rfl, fun hq1 => ⟨(Qr _), ⟨rfl, fun hq2 => yesN_ok 4 (hq2) (⟨rfl, rfl⟩), fun hq2 => ⟨hq2, ⟨(Qr _), noN_ok 3 (hq2) (⟨rfl, fun hq3 => rfl, fun hq3 => fun r2 hr2 => ⟨K0 _ _ _ hr2, rfl⟩⟩)⟩⟩⟩⟩, fun hq1 => ⟨rfl, fun hq2 => ⟨(Qr _), ⟨rfl, fun hq3 => yesN_ok 4 (hq3) (⟨rfl, rfl⟩), fun hq3 => ⟨hq3, ⟨(Qr _), noN_ok 3 (hq3) (⟨rfl, fun hq4 => rfl, fun hq4 => fun r3 hr3 => ⟨K0 _ _ _ hr3, rfl⟩⟩)⟩⟩⟩⟩, fun hq2 => ⟨rfl, fun hq3 => ⟨(Qr _), ⟨rfl, fun hq4 => yesN_ok 4 (hq4) (⟨rfl, rfl⟩), fun hq4 => ⟨hq4, ⟨(Qr _), noN_ok 3 (hq4) (⟨rfl, fun hq5 => rfl, fun hq5 => fun r4 hr4 => ⟨K0 _ _ _ hr4, rfl⟩⟩)⟩⟩⟩⟩, fun hq3 => ⟨rfl, fun hq4 => ⟨(Qr _), ⟨rfl, fun hq5 => yesN_ok 4 (hq5) (⟨rfl, rfl⟩), fun hq5 => ⟨hq5, ⟨(Qr _), noN_ok 3 (hq5) (⟨rfl, fun hq6 => rfl, fun hq6 => fun r5 hr5 => ⟨K0 _ _ _ hr5, rfl⟩⟩)⟩⟩⟩⟩, fun hq4 => ⟨rfl, fun hq5 => ⟨(Qr _), ⟨rfl, fun hq6 => rfl, fun hq6 => ⟨rfl, fun e6 he6 => ⟨VP he6, fun r7 hr7 => ⟨K1 _ _ hr7, rfl⟩⟩⟩⟩⟩, fun hq5 => ⟨rfl, fun hq6 => ⟨(Qr _), ⟨rfl, fun hq7 => yesN_ok 5 (hq7) (⟨rfl, rfl⟩), fun hq7 => ⟨hq7, ⟨rfl, fun e8 he8 => ⟨VP he8, noN_ok 2 (hq7) (fun r9 hr9 => ⟨K2 _ _ hr9, noN_ok 2 (hq7) (⟨rfl, fun hq8 => rfl, fun hq8 => ⟨(decide_eq_true (Y8 _)), ⟨(by rw [Qr]), fun hq9 => ⟨(by rw [Qk2, Qr]), fun r10 hr10 => ⟨K0 _ _ _ hr10, ⟨rfl, fun e11 he11 => ⟨VP he11, rfl⟩⟩⟩⟩, fun hq9 => trivial⟩⟩⟩)⟩)⟩⟩⟩⟩⟩, fun hq6 => rfl⟩⟩⟩⟩⟩⟩⟩
theorem QoN {C0 : Nat → Z7} {D0 : Z7} (H0 : Cv2 C0 D0) {C1 : Nat → PX} {D1 : PX} (H1 : Cv1 C1 D1) {C2 : Nat → Xm} {D2 : Xm} (H2 : Cv1 C2 D2) (a0 : ByteArray) (a1 : (List ByteArray)) : Cv (fun k => PY (C0 k) (C1 k) (C2 k) a0 a1) (PY D0 D1 D2 a0 a1) := by
  unfold PY
  exact .cond (.cond (by exact .const _) (.cond (by exact .const _) (.bind (H0 _ _) fun r1 => by exact .const _))) (.cond (.cond (by exact .const _) (.cond (by exact .const _) (.bind (H0 _ _) fun r2 => by exact .const _))) (.cond (.cond (by exact .const _) (.cond (by exact .const _) (.bind (H0 _ _) fun r3 => by exact .const _))) (.cond (.cond (by exact .const _) (.cond (by exact .const _) (.bind (H0 _ _) fun r4 => by exact .const _))) (.cond (.cond (by exact .const _) (.cond (by exact .const _) (.bind (H0 _ _) fun r5 => by exact .const _))) (.cond (.cond (by exact .const _) (.bind (.const _) fun e6 => .bind (H1 _) fun r7 => by exact .const _)) (.cond (.cond (by exact .const _) (.bind (.const _) fun e8 => .bind (H2 _) fun r9 => .cond (by exact .const _) (.cond (.bind (H0 _ _) fun r10 => by exact .const _) (by exact .const _)))) (by exact .const _)))))))
def W6.s : Nat → ByteArray → (List ByteArray) → Option (Qf × Bool)
  | 0, _, _ => none
  | k + 1, a0, a1 => PY (V6.s k) (WQ.s k) (Wq.s k) a0 a1
theorem W6.ok : ∀ (k : Nat), QlM (ev k) (W6.s k)
  | 0, _, _, _, h => (nomatch h)
  | k + 1, a0, a1, r, h => fn_ok rfl (QeP pp (ev k) (V6.s k) (WQ.s k) (Wq.s k) a0 a1) (QoL _ _ _ _ a0 a1) (QoM _ _ _ _ _ _ (V6.ok k) (WQ.ok k) (Wq.ok k)  a0 a1) h
noncomputable def W6 (a0 : ByteArray) (a1 : (List ByteArray)) : Option (Qf × Bool) := PY V6 WQ Wq a0 a1
theorem W6.cv (a0 : ByteArray) (a1 : (List ByteArray)) : Cv (fun k => W6.s k a0 a1) (W6 a0 a1) := .un rfl (QoN V6.cv WQ.cv Wq.cv a0 a1)
theorem W6.eq (a0 : ByteArray) (a1 : (List ByteArray)) : W6 a0 a1 = PY V6 WQ Wq a0 a1 := rfl
def QfZ (r : (Int × Bool)) : AV × Heap := (.tup [xi r.1, xo r.2], [])
abbrev Qbl := ByteArray → Option (Int × Bool)
abbrev Qf0 (a0 : ByteArray) : List AV × Heap := ([xs a0], [])
abbrev QlN (w : Cf) (a0 : ByteArray) : Option AH := w 102 (Qf0 a0).1 (Qf0 a0).2
abbrev Qng (w : Cf) (c : Qbl) : Prop := ∀ (a0 : ByteArray) (r : (Int × Bool)), c a0 = some r → QlN w a0 = some (QfZ r)
def Qae (C0 : ZZ) (a0 : ByteArray) : Option (Int × Bool) := ((C0 (-1 : Int) a0).bind fun r1 => (some (r1.2.1, r1.2.2)))
def Qf1 (P : Pg) (w : Cf) (C0 : ZZ) (a0 : ByteArray) : Tr (Int × Bool) AH := (.call (Qjc w (-1 : Int) a0) (C0 (-1 : Int) a0) Qbv fun r1 => (rt QfZ (r1.2.1, r1.2.2)))
theorem Qpg (w : Cf) (C0 : ZZ) (a0 : ByteArray) : (Qf1 pp w C0 a0).norm (bodyT pp w G 102 (Qf0 a0).1 (Qf0 a0).2) = Qf1 pp w C0 a0 := by kernel_rfl
theorem Qph (P : Pg) (w : Cf) (lp : Lo) (C0 : ZZ) (K0 : Qj1 w C0) (a0 : ByteArray) : (Qf1 P w C0 a0).ok lp QfZ := fun r1 hr1 => ⟨K0 _ _ _ hr1, rfl⟩
theorem Qpi {C0 : Nat → ZZ} {D0 : ZZ} (H0 : Cv2 C0 D0) (a0 : ByteArray) : Cv (fun k => Qae (C0 k) a0) (Qae D0 a0) := by
  unfold Qae
  exact .bind (H0 _ _) fun r1 => by exact .const _
def YZ.s : Nat → ByteArray → Option (Int × Bool)
  | 0, _ => none
  | k + 1, a0 => Qae (WU.s k) a0
theorem YZ.ok : ∀ (k : Nat), Qng (ev k) (YZ.s k)
  | 0, _, _, h => (nomatch h)
  | k + 1, a0, r, h => fn_ok rfl (Qf1 pp (ev k) (WU.s k) a0) (Qpg _ _ a0) (Qph _ _ _ _ (WU.ok k)  a0) h
noncomputable def YZ (a0 : ByteArray) : Option (Int × Bool) := Qae WU a0
theorem YZ.cv (a0 : ByteArray) : Cv (fun k => YZ.s k a0) (YZ a0) := .un rfl (Qpi WU.cv a0)
theorem YZ.eq (a0 : ByteArray) : YZ a0 = Qae WU a0 := rfl
def Y0 (r : (Qf × Bool)) : AV × Heap := (.tup [.agg (Ga r.1), xo r.2], [])
abbrev Qbm := ByteArray → (List ByteArray) → Option (Qf × Bool)
abbrev Qf2 (a0 : ByteArray) (a1 : (List ByteArray)) : List AV × Heap := ([xs a0, .sl (Qh a1)], [])
abbrev Qjl (w : Cf) (a0 : ByteArray) (a1 : (List ByteArray)) : Option AH := w 57 (Qf2 a0 a1).1 (Qf2 a0 a1).2
abbrev Qnh (w : Cf) (c : Qbm) : Prop := ∀ (a0 : ByteArray) (a1 : (List ByteArray)) (r : (Qf × Bool)), c a0 a1 = some r → Qjl w a0 a1 = some (Y0 r)
def Qaf (C0 : Z7) (C1 : Qbl) (C2 : SX) (C3 : SY) (a0 : ByteArray) (a1 : (List ByteArray)) : Option (Qf × Bool) := (bif (eqS a0 s_b) then (bif ((((a1.length) : Nat) : Int) != 1) then (some ((Qf.mk (0 : Int) s_ (2 : Int) (0 : Int) s_ ([] : List Qg)), false)) else ((C0 a1 ([] : List ByteArray)).bind fun r1 => (some ((Qf.mk (0 : Int) s_ (2 : Int) (0 : Int) s_ r1.1), r1.2)))) else (bif (eqS a0 s_bl) then (bif ((((a1.length) : Nat) : Int) != 1) then (some ((Qf.mk (0 : Int) s_ (2 : Int) (1 : Int) s_ ([] : List Qg)), false)) else ((C0 a1 ([] : List ByteArray)).bind fun r2 => (some ((Qf.mk (0 : Int) s_ (2 : Int) (1 : Int) s_ r2.1), r2.2)))) else (bif (eqS a0 s_bc) then (bif ((((a1.length) : Nat) : Int) != 3) then (some ((Qf.mk (0 : Int) s_ (2 : Int) (2 : Int) s_ ([] : List Qg)), false)) else ((C0 a1 ([] : List ByteArray)).bind fun r3 => (some ((Qf.mk (0 : Int) s_ (2 : Int) (2 : Int) s_ r3.1), r3.2)))) else ((C1 a0).bind fun r4 => (bif (!r4.2) then (some ((Qf.mk (0 : Int) s_ (2 : Int) (0 : Int) s_ ([] : List Qg)), false)) else ((C2 r4.1).bind fun r5 => ((C3 r5).bind fun r6 => (bif ((((a1.length) : Nat) : Int) != (((r6.length) : Nat) : Int)) then (some ((Qf.mk (0 : Int) s_ (1 : Int) r4.1 s_ ([] : List Qg)), false)) else ((C0 a1 r6).bind fun r7 => (some ((Qf.mk (0 : Int) s_ (1 : Int) r4.1 s_ r7.1), r7.2)))))))))))
def Qf3 (P : Pg) (w : Cf) (C0 : Z7) (C1 : Qbl) (C2 : SX) (C3 : SY) (a0 : ByteArray) (a1 : (List ByteArray)) : Tr (Qf × Bool) AH := (.as (eqS a0 s_b) (.num ((Qh a1).length) (a1.length) (.as ((((a1.length) : Nat) : Int) != 1) (rt Y0 ((Qf.mk (zi 0) s_ (zi 2) (zi 0) s_ ([] : List Qg)), false)) (.call (Gv w a1 ([] : List ByteArray)) (C0 a1 ([] : List ByteArray)) Yv fun r1 => (rt Y0 ((Qf.mk (zi 0) s_ (zi 2) (zi 0) s_ r1.1), r1.2))))) (.as (eqS a0 s_bl) (.num ((Qh a1).length) (a1.length) (.as ((((a1.length) : Nat) : Int) != 1) (rt Y0 ((Qf.mk (zi 0) s_ (zi 2) (zi 1) s_ ([] : List Qg)), false)) (.call (Gv w a1 ([] : List ByteArray)) (C0 a1 ([] : List ByteArray)) Yv fun r2 => (rt Y0 ((Qf.mk (zi 0) s_ (zi 2) (zi 1) s_ r2.1), r2.2))))) (.as (eqS a0 s_bc) (.num ((Qh a1).length) (a1.length) (.as ((((a1.length) : Nat) : Int) != 3) (rt Y0 ((Qf.mk (zi 0) s_ (zi 2) (zi 2) s_ ([] : List Qg)), false)) (.call (Gv w a1 ([] : List ByteArray)) (C0 a1 ([] : List ByteArray)) Yv fun r3 => (rt Y0 ((Qf.mk (zi 0) s_ (zi 2) (zi 2) s_ r3.1), r3.2))))) (.call (QlN w a0) (C1 a0) QfZ fun r4 => (.as (!r4.2) (rt Y0 ((Qf.mk (zi 0) s_ (zi 2) (zi 0) s_ ([] : List Qg)), false)) (.call (QkO w r4.1) (C2 r4.1) Qey fun r5 => (.call (QkP w r5) (C3 r5) QeB fun r6 => (.num ((Qh r6).length) (r6.length) (.num ((Qh a1).length) (a1.length) (.as ((((a1.length) : Nat) : Int) != (((r6.length) : Nat) : Int)) (rt Y0 ((Qf.mk (zi 0) s_ (zi 1) r4.1 s_ ([] : List Qg)), false)) (.call (Gv w a1 r6) (C0 a1 r6) Yv fun r7 => (rt Y0 ((Qf.mk (zi 0) s_ (zi 1) r4.1 s_ r7.1), r7.2)))))))))))))
theorem Qpj (w : Cf) (C0 : Z7) (C1 : Qbl) (C2 : SX) (C3 : SY) (a0 : ByteArray) (a1 : (List ByteArray)) : (Qf3 pp w C0 C1 C2 C3 a0 a1).norm (bodyT pp w G 57 (Qf2 a0 a1).1 (Qf2 a0 a1).2) = Qf3 pp w C0 C1 C2 C3 a0 a1 := by kernel_rfl
theorem Qpk (P : Pg) (w : Cf) (lp : Lo) (C0 : Z7) (C1 : Qbl) (C2 : SX) (C3 : SY) (K0 : Qkf w C0) (K1 : Qng w C1) (K2 : QlF w C2) (K3 : QlG w C3) (a0 : ByteArray) (a1 : (List ByteArray)) : (Qf3 P w C0 C1 C2 C3 a0 a1).ok lp Y0 := ⟨rfl, fun hq0 => ⟨(Qr _), ⟨rfl, fun hq1 => rfl, fun hq1 => fun r1 hr1 => ⟨K0 _ _ _ hr1, rfl⟩⟩⟩, fun hq0 => ⟨rfl, fun hq1 => ⟨(Qr _), ⟨rfl, fun hq2 => rfl, fun hq2 => fun r2 hr2 => ⟨K0 _ _ _ hr2, rfl⟩⟩⟩, fun hq1 => ⟨rfl, fun hq2 => ⟨(Qr _), ⟨rfl, fun hq3 => rfl, fun hq3 => fun r3 hr3 => ⟨K0 _ _ _ hr3, rfl⟩⟩⟩, fun hq2 => fun r4 hr4 => ⟨K1 _ _ hr4, ⟨rfl, fun hq3 => rfl, fun hq3 => fun r5 hr5 => ⟨K2 _ _ hr5, fun r6 hr6 => ⟨K3 _ _ hr6, ⟨(Qr _), ⟨(Qr _), ⟨rfl, fun hq4 => rfl, fun hq4 => fun r7 hr7 => ⟨K0 _ _ _ hr7, rfl⟩⟩⟩⟩⟩⟩⟩⟩⟩⟩⟩
theorem Qpl {C0 : Nat → Z7} {D0 : Z7} (H0 : Cv2 C0 D0) {C1 : Nat → Qbl} {D1 : Qbl} (H1 : Cv1 C1 D1) {C2 : Nat → SX} {D2 : SX} (H2 : Cv1 C2 D2) {C3 : Nat → SY} {D3 : SY} (H3 : Cv1 C3 D3) (a0 : ByteArray) (a1 : (List ByteArray)) : Cv (fun k => Qaf (C0 k) (C1 k) (C2 k) (C3 k) a0 a1) (Qaf D0 D1 D2 D3 a0 a1) := by
  unfold Qaf
  exact .cond (.cond (by exact .const _) (.bind (H0 _ _) fun r1 => by exact .const _)) (.cond (.cond (by exact .const _) (.bind (H0 _ _) fun r2 => by exact .const _)) (.cond (.cond (by exact .const _) (.bind (H0 _ _) fun r3 => by exact .const _)) (.bind (H1 _) fun r4 => .cond (by exact .const _) (.bind (H2 _) fun r5 => .bind (H3 _) fun r6 => .cond (by exact .const _) (.bind (H0 _ _) fun r7 => by exact .const _)))))
def Yg.s : Nat → ByteArray → (List ByteArray) → Option (Qf × Bool)
  | 0, _, _ => none
  | k + 1, a0, a1 => Qaf (V6.s k) (YZ.s k) (XQ.s k) (Yp.s k) a0 a1
theorem Yg.ok : ∀ (k : Nat), Qnh (ev k) (Yg.s k)
  | 0, _, _, _, h => (nomatch h)
  | k + 1, a0, a1, r, h => fn_ok rfl (Qf3 pp (ev k) (V6.s k) (YZ.s k) (XQ.s k) (Yp.s k) a0 a1) (Qpj _ _ _ _ _ a0 a1) (Qpk _ _ _ _ _ _ _ (V6.ok k) (YZ.ok k) (XQ.ok k) (Yp.ok k)  a0 a1) h
noncomputable def Yg (a0 : ByteArray) (a1 : (List ByteArray)) : Option (Qf × Bool) := Qaf V6 YZ XQ Yp a0 a1
theorem Yg.cv (a0 : ByteArray) (a1 : (List ByteArray)) : Cv (fun k => Yg.s k a0 a1) (Yg a0 a1) := .un rfl (Qpl V6.cv YZ.cv XQ.cv Yp.cv a0 a1)
theorem Yg.eq (a0 : ByteArray) (a1 : (List ByteArray)) : Yg a0 a1 = Qaf V6 YZ XQ Yp a0 a1 := rfl
def Zk (r : (Qf × Bool)) : AV × Heap := (.tup [.agg (Ga r.1), xo r.2], [])
abbrev Qc2 := ByteArray → Option (Qf × Bool)
abbrev QhF (a0 : ByteArray) : List AV × Heap := ([xs a0], [])
abbrev Qni (w : Cf) (a0 : ByteArray) : Option AH := w 20 (QhF a0).1 (QhF a0).2
abbrev Qod (w : Cf) (c : Qc2) : Prop := ∀ (a0 : ByteArray) (r : (Qf × Bool)), c a0 = some r → Qni w a0 = some (Zk r)
structure U6 where
  x0 : ByteArray
  x4 : Int
  h0 : Qf
structure Wh where
  x3 : Bool
  h0 : Qf
structure Wi where
  x0 : ByteArray
  h0 : Qf
def Sf (a : U6) : St := { n := 89, nx := 2, env := [(0, xs a.x0), (2, .ptr 0 0), (4, xi a.x4)], heap := [(0, .box [0, 0, 0, 0, 0, 5] [xi a.h0.Line, xs a.h0.Label, xi a.h0.Kind, xi a.h0.Op, xs a.h0.Text, .arr 1]), (1, .arr true 5 (Qo a.h0.Args))] }
def Qjm (a : Wh) : Ex × St := (.ret, { n := 89, nx := 2, env := [(2, .ptr 0 0), (3, xo a.x3)], heap := [(0, .box [0, 0, 0, 0, 0, 5] [xi a.h0.Line, xs a.h0.Label, xi a.h0.Kind, xi a.h0.Op, xs a.h0.Text, .arr 1]), (1, .arr true 5 (Qo a.h0.Args))] })
def Qjn (a : Wi) : Ex × St := (.exit 0, { n := 89, nx := 2, env := [(0, xs a.x0), (2, .ptr 0 0)], heap := [(0, .box [0, 0, 0, 0, 0, 5] [xi a.h0.Line, xs a.h0.Label, xi a.h0.Kind, xi a.h0.Op, xs a.h0.Text, .arr 1]), (1, .arr true 5 (Qo a.h0.Args))] })
def QaY (a : (Wh ⊕ Wi)) : Ex × St := Sum.elim Qjm Qjn a
abbrev PZ := U6 → Option (Wh ⊕ Wi)
abbrev QoO (P : Pg) (lp : Lo) (l : PZ) : Prop := ∀ (a : U6) (r : (Wh ⊕ Wi)), l a = some r → lp (loopAt P 20 2) (Sf a) = some (QaY r)
def QaZ  (a : U6) : Option (U6 ⊕ (Wh ⊕ Wi)) := (bif (decide (a.x4 < ((a.x0.size : Nat) : Int))) then (bif (decide (0 ≤ a.x4 ∧ a.x4 < ((a.x0.size : Nat) : Int))) then (bif (((a.x0.data.getD (Int.toNat a.x4) 0).toNat : Int) == 10) then (some (.inr (.inl (Wh.mk false (Qf.mk (0 : Int) s_ (0 : Int) (0 : Int) s_ ([] : List Qg)))))) else (some (.inl (U6.mk a.x0 (w64 (a.x4 + 1)) a.h0)))) else none) else (some (.inr (.inr (Wi.mk a.x0 a.h0)))))
def Qdw (P : Pg) (w : Cf)  (a : U6) : Tr (U6 ⊕ (Wh ⊕ Wi)) XS := (.as (decide (a.x4 < (zz a.x0))) (.as (in1 a.x4 (zz a.x0)) (.as ((gb a.x0 a.x4) == 10) (rx QaY (.inl (Wh.mk false (Qf.mk (zi 0) s_ (zi 0) (zi 0) s_ ([] : List Qg))))) (lf Sf (U6.mk a.x0 (w64 (a.x4 + 1)) a.h0))) .fail) (rx QaY (.inr (Wi.mk a.x0 a.h0))))
theorem Qn5 (w : Cf)  (a : U6) : (Qdw pp w  a).norm (roundT pp G.kd w 0 (G.an 20) (loopAt pp 20 2) (Sf a)) = Qdw pp w  a := by kernel_rfl
theorem Qn6 (P : Pg) (w : Cf) (lp : Lo)   (a : U6) : (Qdw P w  a).ok lp (Sum.elim (fun a => (.norm, Sf a)) QaY) := ⟨rfl, fun hq0 => ⟨rfl, fun hq1 => ⟨rfl, fun hq2 => rfl, fun hq2 => rfl⟩, fun hq1 => trivial⟩, fun hq0 => rfl⟩
def V7.s (k : Nat)  : U6 → Option (Wh ⊕ Wi) := iter (QaZ ) k
theorem Qnj (w : Cf) (k : Nat)   (a : U6) (r : (Wh ⊕ Wi)) (h : V7.s k  a = some r) : loopsF pp G.kd w 0 (G.an 20) k (loopAt pp 20 2) (Sf a) = some (QaY r) :=
  loop_ok (fun a => Qdw pp w  a) (fun _ => rfl) (fun a => Qn5 w  a) (fun a => Qn6 _ w _   a) (fun r => by cases r <;> nofun) h
noncomputable def V7.w  : U6 → Option (Wh ⊕ Wi) := loopW (QaZ )
theorem V7.cv    (a : U6) : Cv (fun k => V7.s k  a) (V7.w  a) := Cv.iter (fun a => by exact .const _) a
structure UU where
  x5 : ByteArray
  x6 : ByteArray
  x7 : Int
  h0 : Qf
structure Vd where
  x5 : ByteArray
  x6 : ByteArray
  x7 : Int
  h0 : Qf
def Sg (a : UU) : St := { n := 89, nx := 2, env := [(2, .ptr 0 0), (5, xs a.x5), (6, xs a.x6), (7, xi a.x7)], heap := [(0, .box [0, 0, 0, 0, 0, 5] [xi a.h0.Line, xs a.h0.Label, xi a.h0.Kind, xi a.h0.Op, xs a.h0.Text, .arr 1]), (1, .arr true 5 (Qo a.h0.Args))] }
def FY (a : Vd) : Ex × St := (.exit 2, { n := 89, nx := 2, env := [(2, .ptr 0 0), (5, xs a.x5), (6, xs a.x6), (7, xi a.x7)], heap := [(0, .box [0, 0, 0, 0, 0, 5] [xi a.h0.Line, xs a.h0.Label, xi a.h0.Kind, xi a.h0.Op, xs a.h0.Text, .arr 1]), (1, .arr true 5 (Qo a.h0.Args))] })
abbrev P0 := UU → Option Vd
abbrev QoP (P : Pg) (lp : Lo) (l : P0) : Prop := ∀ (a : UU) (r : Vd), l a = some r → lp (loopAt P 20 12) (Sg a) = some (FY r)
def Qa0  (a : UU) : Option (UU ⊕ Vd) := (bif (decide (a.x7 < ((a.x6.size : Nat) : Int))) then (bif (decide (0 ≤ a.x7 ∧ a.x7 < ((a.x6.size : Nat) : Int))) then (bif (((a.x6.data.getD (Int.toNat a.x7) 0).toNat : Int) != 32) then (bif (((a.x6.data.getD (Int.toNat a.x7) 0).toNat : Int) != 9) then (some (.inl (UU.mk a.x5 a.x6 (w64 (a.x7 + 1)) a.h0))) else (some (.inr (Vd.mk a.x5 a.x6 a.x7 a.h0)))) else (some (.inr (Vd.mk a.x5 a.x6 a.x7 a.h0)))) else none) else (some (.inr (Vd.mk a.x5 a.x6 a.x7 a.h0))))
def Qdx (P : Pg) (w : Cf)  (a : UU) : Tr (UU ⊕ Vd) XS := (let u155 := (decide (a.x7 < (zz a.x6))); .as u155 (yesN 2 u155 (let u154 := (in1 a.x7 (zz a.x6)); .as u154 (yesN 2 u155 (let u153 := ((gb a.x6 a.x7) != 32); .as u153 (yesN 2 u153 (.yes u154 (yesN 2 u153 (.as ((gb a.x6 a.x7) != 9) (lf Sg (UU.mk a.x5 a.x6 (w64 (a.x7 + 1)) a.h0)) (rx FY (Vd.mk a.x5 a.x6 a.x7 a.h0)))))) (noN 4 u153 (.no false (rx FY (Vd.mk a.x5 a.x6 a.x7 a.h0)))))) .fail)) (noN 4 u155 (noN 6 false (rx FY (Vd.mk a.x5 a.x6 a.x7 a.h0)))))
theorem Qn7 (w : Cf)  (a : UU) : (Qdx pp w  a).norm (roundT pp G.kd w 0 (G.an 20) (loopAt pp 20 12) (Sg a)) = Qdx pp w  a := by kernel_rfl
theorem Qn8 (P : Pg) (w : Cf) (lp : Lo)   (a : UU) : (Qdx P w  a).ok lp (Sum.elim (fun a => (.norm, Sg a)) FY) := ⟨rfl, fun hq0 => yesN_ok 2 (hq0) (⟨rfl, fun hq1 => yesN_ok 2 (hq0) (⟨rfl, fun hq2 => yesN_ok 2 (hq2) (⟨hq1, yesN_ok 2 (hq2) (⟨rfl, fun hq3 => rfl, fun hq3 => rfl⟩)⟩), fun hq2 => noN_ok 4 (hq2) (⟨rfl, rfl⟩)⟩), fun hq1 => trivial⟩), fun hq0 => noN_ok 4 (hq0) (noN_ok 6 (rfl) (rfl))⟩
def V8.s (k : Nat)  : UU → Option Vd := iter (Qa0 ) k
theorem Qnk (w : Cf) (k : Nat)   (a : UU) (r : Vd) (h : V8.s k  a = some r) : loopsF pp G.kd w 0 (G.an 20) k (loopAt pp 20 12) (Sg a) = some (FY r) :=
  loop_ok (fun a => Qdx pp w  a) (fun _ => rfl) (fun a => Qn7 w  a) (fun a => Qn8 _ w _   a) (fun r => nofun) h
noncomputable def V8.w  : UU → Option Vd := loopW (Qa0 )
theorem V8.cv    (a : UU) : Cv (fun k => V8.s k  a) (V8.w  a) := Cv.iter (fun a => by exact .const _) a
def Qbn (C0 : Qbi) (C1 : UX) (C2 : Qaa) (C3 : Qab) (C4 : Qad) (C5 : Qbm) (L6 : PZ) (L7 : P0) (a0 : ByteArray) : Option (Qf × Bool) := ((L6 (U6.mk a0 (0 : Int) (Qf.mk (0 : Int) s_ (0 : Int) (0 : Int) s_ ([] : List Qg)))).bind fun x => Sum.elim (fun (o1 : Wh) => (some (o1.h0, o1.x3))) (fun (o2 : Wi) => ((C0 o2.x0).bind fun r3 => ((C1 r3).bind fun r4 => ((C2 r4).bind fun r5 => (bif (eqS r5.2 s_) then (bif (eqS r5.1 s_) then (some ((Qf.mk (0 : Int) s_ (0 : Int) (0 : Int) s_ ([] : List Qg)), true)) else (some ((Qf.mk (1 : Int) r5.1 (0 : Int) (0 : Int) s_ ([] : List Qg)), true))) else ((L7 (UU.mk r5.1 r5.2 (0 : Int) o2.h0)).bind (fun (o6 : Vd) => (bif (decide (0 ≤ (0 : Int) ∧ (0 : Int) ≤ o6.x7 ∧ o6.x7 ≤ ((o6.x6.size : Nat) : Int))) then (bif (decide (0 ≤ o6.x7 ∧ o6.x7 ≤ ((o6.x6.size : Nat) : Int) ∧ ((o6.x6.size : Nat) : Int) ≤ ((o6.x6.size : Nat) : Int))) then ((C1 (o6.x6.extract (Int.toNat o6.x7) (Int.toNat ((o6.x6.size : Nat) : Int)))).bind fun r7 => (bif (!(eqS r7 s_)) then ((C3 (o6.x6.extract (Int.toNat o6.x7) (Int.toNat ((o6.x6.size : Nat) : Int)))).bind fun r8 => (bif (decide (0 ≤ (0 : Int) ∧ (0 : Int) < (((o6.x6.extract (Int.toNat 0) (Int.toNat o6.x7)).size : Nat) : Int))) then (bif ((((o6.x6.extract (Int.toNat 0) (Int.toNat o6.x7)).data.getD (Int.toNat 0) 0).toNat : Int) == 46) then ((C4 (o6.x6.extract (Int.toNat 0) (Int.toNat o6.x7)) r8).bind fun r9 => (bif (!r9.2) then (some ((Qf.mk (0 : Int) s_ (0 : Int) (0 : Int) s_ ([] : List Qg)), false)) else (some ((Qf.mk (1 : Int) o6.x5 r9.1.Kind r9.1.Op r9.1.Text r9.1.Args), true)))) else ((C5 (o6.x6.extract (Int.toNat 0) (Int.toNat o6.x7)) r8).bind fun r10 => (bif (!r10.2) then (some ((Qf.mk (0 : Int) s_ (0 : Int) (0 : Int) s_ ([] : List Qg)), false)) else (some ((Qf.mk (1 : Int) o6.x5 r10.1.Kind r10.1.Op r10.1.Text r10.1.Args), true))))) else none)) else (bif (decide (0 ≤ (0 : Int) ∧ (0 : Int) < (((o6.x6.extract (Int.toNat 0) (Int.toNat o6.x7)).size : Nat) : Int))) then (bif ((((o6.x6.extract (Int.toNat 0) (Int.toNat o6.x7)).data.getD (Int.toNat 0) 0).toNat : Int) == 46) then ((C4 (o6.x6.extract (Int.toNat 0) (Int.toNat o6.x7)) ([] : List ByteArray)).bind fun r11 => (bif (!r11.2) then (some ((Qf.mk (0 : Int) s_ (0 : Int) (0 : Int) s_ ([] : List Qg)), false)) else (some ((Qf.mk (1 : Int) o6.x5 r11.1.Kind r11.1.Op r11.1.Text r11.1.Args), true)))) else ((C5 (o6.x6.extract (Int.toNat 0) (Int.toNat o6.x7)) ([] : List ByteArray)).bind fun r12 => (bif (!r12.2) then (some ((Qf.mk (0 : Int) s_ (0 : Int) (0 : Int) s_ ([] : List Qg)), false)) else (some ((Qf.mk (1 : Int) o6.x5 r12.1.Kind r12.1.Op r12.1.Text r12.1.Args), true))))) else none))) else none) else none)))))))) x)
def QhG (P : Pg) (w : Cf) (C0 : Qbi) (C1 : UX) (C2 : Qaa) (C3 : Qab) (C4 : Qad) (C5 : Qbm) (L6 : PZ) (L7 : P0) (a0 : ByteArray) : Tr (Qf × Bool) AH := (.loop2 (loopAt P 20 2) (Sf (U6.mk a0 (zi 0) (Qf.mk (zi 0) s_ (zi 0) (zi 0) s_ ([] : List Qg)))) (L6 (U6.mk a0 (zi 0) (Qf.mk (zi 0) s_ (zi 0) (zi 0) s_ ([] : List Qg)))) Qjm Qjn (fun (o1 : Wh) => (rt Zk (o1.h0, o1.x3))) (fun (o2 : Wi) => (.call (QlJ w o2.x0) (C0 o2.x0) Qd0 fun r3 => (.call (Ej w r3) (C1 r3) ZA fun r4 => (.call (QkW w r4) (C2 r4) Qcz fun r5 => (.as (eqS r5.2 s_) (.as (eqS r5.1 s_) (rt Zk ((Qf.mk (zi 0) s_ (zi 0) (zi 0) s_ ([] : List Qg)), true)) (rt Zk ((Qf.mk (zi 1) r5.1 (zi 0) (zi 0) s_ ([] : List Qg)), true))) (.loop (loopAt P 20 12) (Sg (UU.mk r5.1 r5.2 (zi 0) o2.h0)) (L7 (UU.mk r5.1 r5.2 (zi 0) o2.h0)) FY (fun (o6 : Vd) => (.as (in2 (zi 0) o6.x7 (zz o6.x6)) (let u156 := (in2 o6.x7 (zz o6.x6) (zz o6.x6)); .as u156 (.call (Ej w (cu o6.x6 o6.x7 (zz o6.x6))) (C1 (cu o6.x6 o6.x7 (zz o6.x6))) ZA fun r7 => (.as (!(eqS r7 s_)) (.yes u156 (.call (QkX w (cu o6.x6 o6.x7 (zz o6.x6))) (C3 (cu o6.x6 o6.x7 (zz o6.x6))) QeL fun r8 => (.as (in1 (zi 0) (zz (cu o6.x6 (zi 0) o6.x7))) (.as ((gb (cu o6.x6 (zi 0) o6.x7) (zi 0)) == 46) (.call (QhE w (cu o6.x6 (zi 0) o6.x7) r8) (C4 (cu o6.x6 (zi 0) o6.x7) r8) UD fun r9 => (.as (!r9.2) (rt Zk ((Qf.mk (zi 0) s_ (zi 0) (zi 0) s_ ([] : List Qg)), false)) (rt Zk ((Qf.mk (zi 1) o6.x5 r9.1.Kind r9.1.Op r9.1.Text r9.1.Args), true)))) (.call (Qjl w (cu o6.x6 (zi 0) o6.x7) r8) (C5 (cu o6.x6 (zi 0) o6.x7) r8) Y0 fun r10 => (.as (!r10.2) (rt Zk ((Qf.mk (zi 0) s_ (zi 0) (zi 0) s_ ([] : List Qg)), false)) (rt Zk ((Qf.mk (zi 1) o6.x5 r10.1.Kind r10.1.Op r10.1.Text r10.1.Args), true))))) .fail))) (.as (in1 (zi 0) (zz (cu o6.x6 (zi 0) o6.x7))) (.as ((gb (cu o6.x6 (zi 0) o6.x7) (zi 0)) == 46) (.call (QhE w (cu o6.x6 (zi 0) o6.x7) ([] : List ByteArray)) (C4 (cu o6.x6 (zi 0) o6.x7) ([] : List ByteArray)) UD fun r11 => (.as (!r11.2) (rt Zk ((Qf.mk (zi 0) s_ (zi 0) (zi 0) s_ ([] : List Qg)), false)) (rt Zk ((Qf.mk (zi 1) o6.x5 r11.1.Kind r11.1.Op r11.1.Text r11.1.Args), true)))) (.call (Qjl w (cu o6.x6 (zi 0) o6.x7) ([] : List ByteArray)) (C5 (cu o6.x6 (zi 0) o6.x7) ([] : List ByteArray)) Y0 fun r12 => (.as (!r12.2) (rt Zk ((Qf.mk (zi 0) s_ (zi 0) (zi 0) s_ ([] : List Qg)), false)) (rt Zk ((Qf.mk (zi 1) o6.x5 r12.1.Kind r12.1.Op r12.1.Text r12.1.Args), true))))) .fail))) .fail) .fail)))))))))
theorem QpA (w : Cf) (C0 : Qbi) (C1 : UX) (C2 : Qaa) (C3 : Qab) (C4 : Qad) (C5 : Qbm) (L6 : PZ) (L7 : P0) (a0 : ByteArray) : (QhG pp w C0 C1 C2 C3 C4 C5 L6 L7 a0).norm (bodyT pp w G 20 (QhF a0).1 (QhF a0).2) = QhG pp w C0 C1 C2 C3 C4 C5 L6 L7 a0 := by kernel_rfl
theorem QpB (P : Pg) (w : Cf) (lp : Lo) (C0 : Qbi) (C1 : UX) (C2 : Qaa) (C3 : Qab) (C4 : Qad) (C5 : Qbm) (L6 : PZ) (L7 : P0) (K0 : Qm2 w C0) (K1 : QcZ w C1) (K2 : QlK w C2) (K3 : QlL w C3) (K4 : QlM w C4) (K5 : Qnh w C5) (N6 : QoO P lp L6) (N7 : QoP P lp L7) (a0 : ByteArray) : (QhG P w C0 C1 C2 C3 C4 C5 L6 L7 a0).ok lp Zk := ⟨fun o1 ho1 => ⟨N6 _ (.inl _) ho1, rfl⟩, fun o2 ho2 => ⟨N6 _ (.inr _) ho2, fun r3 hr3 => ⟨K0 _ _ hr3, fun r4 hr4 => ⟨K1 _ _ hr4, fun r5 hr5 => ⟨K2 _ _ hr5, ⟨rfl, fun hq0 => ⟨rfl, fun hq1 => rfl, fun hq1 => rfl⟩, fun hq0 => fun o6 ho6 => ⟨N7 _ _ ho6, ⟨rfl, fun hq1 => ⟨rfl, fun hq2 => fun r7 hr7 => ⟨K1 _ _ hr7, ⟨rfl, fun hq3 => ⟨hq2, fun r8 hr8 => ⟨K3 _ _ hr8, ⟨rfl, fun hq4 => ⟨rfl, fun hq5 => fun r9 hr9 => ⟨K4 _ _ _ hr9, ⟨rfl, fun hq6 => rfl, fun hq6 => rfl⟩⟩, fun hq5 => fun r10 hr10 => ⟨K5 _ _ _ hr10, ⟨rfl, fun hq6 => rfl, fun hq6 => rfl⟩⟩⟩, fun hq4 => trivial⟩⟩⟩, fun hq3 => ⟨rfl, fun hq4 => ⟨rfl, fun hq5 => fun r11 hr11 => ⟨K4 _ _ _ hr11, ⟨rfl, fun hq6 => rfl, fun hq6 => rfl⟩⟩, fun hq5 => fun r12 hr12 => ⟨K5 _ _ _ hr12, ⟨rfl, fun hq6 => rfl, fun hq6 => rfl⟩⟩⟩, fun hq4 => trivial⟩⟩⟩, fun hq2 => trivial⟩, fun hq1 => trivial⟩⟩⟩⟩⟩⟩⟩⟩
theorem QpC {C0 : Nat → Qbi} {D0 : Qbi} (H0 : Cv1 C0 D0) {C1 : Nat → UX} {D1 : UX} (H1 : Cv1 C1 D1) {C2 : Nat → Qaa} {D2 : Qaa} (H2 : Cv1 C2 D2) {C3 : Nat → Qab} {D3 : Qab} (H3 : Cv1 C3 D3) {C4 : Nat → Qad} {D4 : Qad} (H4 : Cv2 C4 D4) {C5 : Nat → Qbm} {D5 : Qbm} (H5 : Cv2 C5 D5) {L6 : Nat → PZ} {M6 : PZ} (N6 : Cv1 L6 M6) {L7 : Nat → P0} {M7 : P0} (N7 : Cv1 L7 M7) (a0 : ByteArray) : Cv (fun k => Qbn (C0 k) (C1 k) (C2 k) (C3 k) (C4 k) (C5 k) (L6 k) (L7 k) a0) (Qbn D0 D1 D2 D3 D4 D5 M6 M7 a0) := by
  unfold Qbn
  exact .bind (N6 _) fun x => .sum (fun o1 => by exact .const _) (fun o2 => .bind (H0 _) fun r3 => .bind (H1 _) fun r4 => .bind (H2 _) fun r5 => .cond (by exact .const _) (.bind (N7 _) (fun o6 => .cond (.cond (.bind (H1 _) fun r7 => .cond (.bind (H3 _) fun r8 => .cond (.cond (.bind (H4 _ _) fun r9 => by exact .const _) (.bind (H5 _ _) fun r10 => by exact .const _)) (by exact .const _)) (.cond (.cond (.bind (H4 _ _) fun r11 => by exact .const _) (.bind (H5 _ _) fun r12 => by exact .const _)) (by exact .const _))) (by exact .const _)) (by exact .const _)))) x
def Gx.s : Nat → ByteArray → Option (Qf × Bool)
  | 0, _ => none
  | k + 1, a0 => Qbn (Zx.s k) (UY.s k) (Ys.s k) (XX.s k) (W6.s k) (Yg.s k) (V7.s k) (V8.s k) a0
theorem Gx.ok : ∀ (k : Nat), Qod (ev k) (Gx.s k)
  | 0, _, _, h => (nomatch h)
  | k + 1, a0, r, h => fn_ok rfl (QhG pp (ev k) (Zx.s k) (UY.s k) (Ys.s k) (XX.s k) (W6.s k) (Yg.s k) (V7.s k) (V8.s k) a0) (QpA _ _ _ _ _ _ _ _ _ a0) (QpB _ _ _ _ _ _ _ _ _ _ _ (Zx.ok k) (UY.ok k) (Ys.ok k) (XX.ok k) (W6.ok k) (Yg.ok k) (Qnj _ k) (Qnk _ k) a0) h
noncomputable def V7 : U6 → Option (Wh ⊕ Wi) := V7.w 
theorem V7.eq (a : U6) : V7 a = (QaZ  a).bind (Sum.elim V7 some) := loopW_eq _ _
noncomputable def V8 : UU → Option Vd := V8.w 
theorem V8.eq (a : UU) : V8 a = (Qa0  a).bind (Sum.elim V8 some) := loopW_eq _ _
noncomputable def Gx (a0 : ByteArray) : Option (Qf × Bool) := Qbn Zx UY Ys XX W6 Yg V7 V8 a0
theorem Gx.cv (a0 : ByteArray) : Cv (fun k => Gx.s k a0) (Gx a0) := .un rfl (QpC Zx.cv UY.cv Ys.cv XX.cv W6.cv Yg.cv (V7.cv) (V8.cv) a0)
theorem Gx.eq (a0 : ByteArray) : Gx a0 = Qbn Zx UY Ys XX W6 Yg V7 V8 a0 := rfl
def Ek (r : Bool) : AV × Heap := (xo r, [])
abbrev VB := Qb → Qb → Option Bool
abbrev Qf4 (a0 : Qb) (a1 : Qb) : List AV × Heap := ([.agg (Q7 a0), .agg (Q7 a1)], [])
abbrev Qjo (w : Cf) (a0 : Qb) (a1 : Qb) : Option AH := w 78 (Qf4 a0 a1).1 (Qf4 a0 a1).2
abbrev Qc3 (w : Cf) (c : VB) : Prop := ∀ (a0 : Qb) (a1 : Qb) (r : Bool), c a0 a1 = some r → Qjo w a0 a1 = some (Ek r)
structure Up where
  x5 : Int
  h0 : Qb
  h1 : Qb
def Pu (a : Up) : St := { n := 53, nx := 2, env := [(2, .ptr 0 0), (3, .ptr 1 0), (5, xi a.x5)], heap := [(0, .box [] (Q7 a.h0)), (1, .box [] (Q7 a.h1))] }
def QhX (a : Bool) : Ex × St := (.ret, { n := 53, nx := 0, env := [(4, xo a)], heap := [] })
def QhY (a : Unit) : Ex × St := (.exit 0, { n := 53, nx := 0, env := [], heap := [] })
def Qag (a : (Bool ⊕ Unit)) : Ex × St := Sum.elim QhX QhY a
abbrev FZ := Up → Option (Bool ⊕ Unit)
abbrev Qn9 (P : Pg) (lp : Lo) (l : FZ) : Prop := ∀ (a : Up) (r : (Bool ⊕ Unit)), l a = some r → lp (loopAt P 78 4) (Pu a) = some (Qag r)
def Zl (C0 : VB) (a : Up) : Option (Up ⊕ (Bool ⊕ Unit)) := (bif (decide (a.x5 < (((a.h0.L.length) : Nat) : Int))) then (bif (decide (0 ≤ a.x5)) then ((a.h0.L[(Int.toNat a.x5)]?).bind fun e1 => ((a.h1.L[(Int.toNat a.x5)]?).bind fun e2 => ((C0 e1 e2).bind fun r3 => (bif (!r3) then (some (.inr (.inl false))) else (some (.inl (Up.mk (w64 (a.x5 + 1)) a.h0 a.h1))))))) else none) else (some (.inr (.inr ()))))
def QcB (P : Pg) (w : Cf) (C0 : VB) (a : Up) : Tr (Up ⊕ (Bool ⊕ Unit)) XS := (.num ((Uj a.h0.L).length) (a.h0.L.length) (.as (decide (a.x5 < (((a.h0.L.length) : Nat) : Int))) (let u157 := (decide (0 ≤ a.x5)); .as u157 (.row ((Uj a.h0.L)[(Int.toNat a.x5)]?) (a.h0.L[(Int.toNat a.x5)]?) Q7 fun (e1 : Qb) => (.yes u157 (.row ((Uj a.h1.L)[(Int.toNat a.x5)]?) (a.h1.L[(Int.toNat a.x5)]?) Q7 fun (e2 : Qb) => (.call (Qjo w e1 e2) (C0 e1 e2) Ek fun r3 => (.as (!r3) (rx Qag (.inl false)) (lf Pu (Up.mk (w64 (a.x5 + 1)) a.h0 a.h1))))))) .fail) (rx Qag (.inr ()))))
theorem Qnl (w : Cf) (C0 : VB) (a : Up) : (QcB pp w C0 a).norm (roundT pp G.kd w 0 (G.an 78) (loopAt pp 78 4) (Pu a)) = QcB pp w C0 a := by kernel_rfl
theorem Qnm (P : Pg) (w : Cf) (lp : Lo) (C0 : VB) (K0 : Qc3 w C0) (a : Up) : (QcB P w C0 a).ok lp (Sum.elim (fun a => (.norm, Pu a)) Qag) := ⟨(QcQ _), ⟨rfl, fun hq0 => ⟨rfl, fun hq1 => fun e1 he1 => ⟨Qgv he1, ⟨hq1, fun e2 he2 => ⟨Qgv he2, fun r3 hr3 => ⟨K0 _ _ _ hr3, ⟨rfl, fun hq2 => rfl, fun hq2 => rfl⟩⟩⟩⟩⟩, fun hq1 => trivial⟩, fun hq0 => rfl⟩⟩
theorem Qjp {C0 : Nat → VB} {D0 : VB} (H0 : Cv2 C0 D0) (a : Up) : Cv (fun k => Zl (C0 k) a) (Zl D0 a) := by
  unfold Zl
  exact .cond (.cond (.bind (.const _) fun e1 => .bind (.const _) fun e2 => .bind (H0 _ _) fun r3 => by exact .const _) (by exact .const _)) (by exact .const _)
def JP.s (k : Nat) (C0 : VB) : Up → Option (Bool ⊕ Unit) := iter (Zl C0) k
theorem Qmj (w : Cf) (k : Nat) (C0 : VB) (K0 : Qc3 w C0) (a : Up) (r : (Bool ⊕ Unit)) (h : JP.s k C0 a = some r) : loopsF pp G.kd w 0 (G.an 78) k (loopAt pp 78 4) (Pu a) = some (Qag r) :=
  loop_ok (fun a => QcB pp w C0 a) (fun _ => rfl) (fun a => Qnl w _ a) (fun a => Qnm _ w _ _ K0 a) (fun r => by cases r <;> nofun) h
theorem JP.m {j k : Nat} (hj : j ≤ k) (C0 : VB) (D0 : VB) (H0 : Le2 C0 D0) (a : Up) : Le (JP.s j C0 a) (JP.s k D0 a) := Le.iter (fun a => (Qjp (tw2 H0) a).1 0) hj a
noncomputable def JP.w (C0 : VB) : Up → Option (Bool ⊕ Unit) := loopW (Zl C0)
theorem JP.cv (C0 : Nat → VB) (D0 : VB) (H0 : Cv2 C0 D0) (a : Up) : Cv (fun k => JP.s k (C0 k) a) (JP.w D0 a) := Cv.iter (fun a => Qjp H0 a) a
def Qah (L0 : FZ) (a0 : Qb) (a1 : Qb) : Option Bool := (bif (a0.Kind != a1.Kind) then (some false) else (bif (a0.N != a1.N) then (some false) else (bif (!(eqS a0.Name a1.Name)) then (some false) else (bif ((((a0.L.length) : Nat) : Int) != (((a1.L.length) : Nat) : Int)) then (some false) else ((L0 (Up.mk (0 : Int) a0 a1)).bind fun x => Sum.elim (fun (o1 : Bool) => (some o1)) (fun (o2 : Unit) => (some true)) x)))))
def Qf5 (P : Pg) (w : Cf) (L0 : FZ) (a0 : Qb) (a1 : Qb) : Tr Bool AH := (let u160 := (a0.Kind != a1.Kind); .as u160 (yesN 5 u160 (yesN 15 true (rt Ek false))) (noN 5 u160 (let u159 := (a0.N != a1.N); .as u159 (yesN 5 u159 (yesN 9 true (rt Ek false))) (noN 5 u159 (let u158 := (!(eqS a0.Name a1.Name)); .as u158 (yesN 7 u158 (.yes true (rt Ek false))) (noN 2 u158 (.num ((Uj a0.L).length) (a0.L.length) (noN 3 u158 (.num ((Uj a1.L).length) (a1.L.length) (noN 2 u158 (.as ((((a0.L.length) : Nat) : Int) != (((a1.L.length) : Nat) : Int)) (rt Ek false) (.loop2 (loopAt P 78 4) (Pu (Up.mk (zi 0) a0 a1)) (L0 (Up.mk (zi 0) a0 a1)) QhX QhY (fun (o1 : Bool) => (rt Ek o1)) (fun (o2 : Unit) => (rt Ek true))))))))))))))
theorem Qpm (w : Cf) (L0 : FZ) (a0 : Qb) (a1 : Qb) : (Qf5 pp w L0 a0 a1).norm (bodyT pp w G 78 (Qf4 a0 a1).1 (Qf4 a0 a1).2) = Qf5 pp w L0 a0 a1 := by kernel_rfl
theorem Qpn (P : Pg) (w : Cf) (lp : Lo) (L0 : FZ) (N0 : Qn9 P lp L0) (a0 : Qb) (a1 : Qb) : (Qf5 P w L0 a0 a1).ok lp Ek := ⟨rfl, fun hq0 => yesN_ok 5 (hq0) (yesN_ok 15 (rfl) (rfl)), fun hq0 => noN_ok 5 (hq0) (⟨rfl, fun hq1 => yesN_ok 5 (hq1) (yesN_ok 9 (rfl) (rfl)), fun hq1 => noN_ok 5 (hq1) (⟨rfl, fun hq2 => yesN_ok 7 (hq2) (⟨rfl, rfl⟩), fun hq2 => noN_ok 2 (hq2) (⟨(QcQ _), noN_ok 3 (hq2) (⟨(QcQ _), noN_ok 2 (hq2) (⟨rfl, fun hq3 => rfl, fun hq3 => ⟨fun o1 ho1 => ⟨N0 _ (.inl _) ho1, rfl⟩, fun o2 ho2 => ⟨N0 _ (.inr _) ho2, rfl⟩⟩⟩)⟩)⟩)⟩)⟩)⟩
theorem QlO {L0 : Nat → FZ} {M0 : FZ} (N0 : Cv1 L0 M0) (a0 : Qb) (a1 : Qb) : Cv (fun k => Qah (L0 k) a0 a1) (Qah M0 a0 a1) := by
  unfold Qah
  exact .cond (by exact .const _) (.cond (by exact .const _) (.cond (by exact .const _) (.cond (by exact .const _) (.bind (N0 _) fun x => .sum (fun o1 => by exact .const _) (fun o2 => by exact .const _) x))))
def Ul.s : Nat → Qb → Qb → Option Bool
  | 0, _, _ => none
  | k + 1, a0, a1 => Qah (JP.s k (fun a0 a1 => Ul.s k a0 a1)) a0 a1
termination_by structural k => k
theorem QjU : ∀ (k : Nat), Qc3 (ev k) (Ul.s k)
  | 0 => fun _ _ _ h => (nomatch h)
  | k + 1 => by
    have i_r3_Same := QjU k
    exact fun a0 a1 r h => fn_ok rfl (Qf5 pp (ev k) (JP.s k (Ul.s k)) a0 a1) (Qpm _ _ a0 a1) (Qpn _ _ _ _  (Qmj _ k _ (i_r3_Same)) a0 a1) h
theorem Ul.ok (k : Nat) : Qc3 (ev k) (Ul.s k) := (QjU k)
theorem Qjq : ∀ (k : Nat), (∀ (a0 : Qb) (a1 : Qb), Le (Ul.s k a0 a1) (Ul.s (k + 1) a0 a1))
  | 0 => fun _ _ _ h => (nomatch h)
  | k + 1 => by
    have i_r3_Same := Qjq k
    exact fun a0 a1 => (QlO (tw1 (JP.m (Nat.le_succ k) (Ul.s k) (Ul.s (k + 1)) (i_r3_Same))) a0 a1).1 0
theorem Ul.mono (k : Nat) : ∀ (a0 : Qb) (a1 : Qb), Le (Ul.s k a0 a1) (Ul.s (k + 1) a0 a1) := (Qjq k)
noncomputable def Ul (a0 : Qb) (a1 : Qb) : Option Bool := lim fun k => Ul.s k a0 a1
theorem Ul.cv (a0 : Qb) (a1 : Qb) : Cv (fun k => Ul.s k a0 a1) (Ul a0 a1) := .lim fun k => Ul.mono k a0 a1
noncomputable def JP : Up → Option (Bool ⊕ Unit) := JP.w Ul
theorem JP.eq (a : Up) : JP a = (Zl Ul a).bind (Sum.elim JP some) := loopW_eq _ _
theorem Ul.eq (a0 : Qb) (a1 : Qb) : Ul a0 a1 = Qah JP a0 a1 := Cv.uniq (Ul.cv a0 a1).shift (QlO (JP.cv (fun k => Ul.s k) Ul Ul.cv) a0 a1)
def Wy (r : Bool) : AV × Heap := (xo r, [])
abbrev Qbo := Qf → Qf → Option Bool
abbrev Qf6 (a0 : Qf) (a1 : Qf) : List AV × Heap := ([.agg (Ga a0), .agg (Ga a1)], [])
abbrev FB (w : Cf) (a0 : Qf) (a1 : Qf) : Option AH := w 28 (Qf6 a0 a1).1 (Qf6 a0 a1).2
abbrev Qnn (w : Cf) (c : Qbo) : Prop := ∀ (a0 : Qf) (a1 : Qf) (r : Bool), c a0 a1 = some r → FB w a0 a1 = some (Wy r)
structure Uz where
  x5 : Int
  h0 : Qf
  h1 : Qf
def Pv (a : Uz) : St := { n := 84, nx := 2, env := [(2, .ptr 0 0), (3, .ptr 1 0), (5, xi a.x5)], heap := [(0, .box [0, 0, 0, 0, 0, 5] (Ga a.h0)), (1, .box [0, 0, 0, 0, 0, 5] (Ga a.h1))] }
def QhZ (a : Bool) : Ex × St := (.ret, { n := 84, nx := 0, env := [(4, xo a)], heap := [] })
def Qh0 (a : Unit) : Ex × St := (.exit 0, { n := 84, nx := 0, env := [], heap := [] })
def Pw (a : (Bool ⊕ Unit)) : Ex × St := Sum.elim QhZ Qh0 a
abbrev F0 := Uz → Option (Bool ⊕ Unit)
abbrev Qoa (P : Pg) (lp : Lo) (l : F0) : Prop := ∀ (a : Uz) (r : (Bool ⊕ Unit)), l a = some r → lp (loopAt P 28 4) (Pv a) = some (Pw r)
def Gy (C0 : VB) (a : Uz) : Option (Uz ⊕ (Bool ⊕ Unit)) := (bif (decide (a.x5 < (((a.h0.Args.length) : Nat) : Int))) then (bif (decide (0 ≤ a.x5)) then ((a.h0.Args[(Int.toNat a.x5)]?).bind fun e1 => ((a.h1.Args[(Int.toNat a.x5)]?).bind fun e2 => (bif (e1.Reg != e2.Reg) then (some (.inr (.inl false))) else ((a.h0.Args[(Int.toNat a.x5)]?).bind fun e3 => ((a.h1.Args[(Int.toNat a.x5)]?).bind fun e4 => ((C0 e3.E e4.E).bind fun r5 => (bif (!r5) then (some (.inr (.inl false))) else (some (.inl (Uz.mk (w64 (a.x5 + 1)) a.h0 a.h1)))))))))) else none) else (some (.inr (.inr ()))))
def QcC (P : Pg) (w : Cf) (C0 : VB) (a : Uz) : Tr (Uz ⊕ (Bool ⊕ Unit)) XS := (.num ((Qo a.h0.Args).length) (a.h0.Args.length) (.as (decide (a.x5 < (((a.h0.Args.length) : Nat) : Int))) (let u162 := (decide (0 ≤ a.x5)); .as u162 (.row ((Qo a.h0.Args)[(Int.toNat a.x5)]?) (a.h0.Args[(Int.toNat a.x5)]?) Ef fun (e1 : Qg) => (.yes u162 (.row ((Qo a.h1.Args)[(Int.toNat a.x5)]?) (a.h1.Args[(Int.toNat a.x5)]?) Ef fun (e2 : Qg) => (let u161 := (e1.Reg != e2.Reg); .as u161 (yesN 14 u161 (.yes true (rx Pw (.inl false)))) (noN 3 u161 (.yes u162 (.row ((Qo a.h0.Args)[(Int.toNat a.x5)]?) (a.h0.Args[(Int.toNat a.x5)]?) Ef fun (e3 : Qg) => (noN 6 u161 (.yes u162 (.row ((Qo a.h1.Args)[(Int.toNat a.x5)]?) (a.h1.Args[(Int.toNat a.x5)]?) Ef fun (e4 : Qg) => (noN 3 u161 (.call (Qjo w e3.E e4.E) (C0 e3.E e4.E) Ek fun r5 => (noN 2 u161 (.as (!r5) (rx Pw (.inl false)) (lf Pv (Uz.mk (w64 (a.x5 + 1)) a.h0 a.h1)))))))))))))))) .fail) (rx Pw (.inr ()))))
theorem Qno (w : Cf) (C0 : VB) (a : Uz) : (QcC pp w C0 a).norm (roundT pp G.kd w 0 (G.an 28) (loopAt pp 28 4) (Pv a)) = QcC pp w C0 a := by kernel_rfl
theorem Qnp (P : Pg) (w : Cf) (lp : Lo) (C0 : VB) (K0 : Qc3 w C0) (a : Uz) : (QcC P w C0 a).ok lp (Sum.elim (fun a => (.norm, Pv a)) Pw) := ⟨(Wc _), ⟨rfl, fun hq0 => ⟨rfl, fun hq1 => fun e1 he1 => ⟨Qa1 he1, ⟨hq1, fun e2 he2 => ⟨Qa1 he2, ⟨rfl, fun hq2 => yesN_ok 14 (hq2) (⟨rfl, rfl⟩), fun hq2 => noN_ok 3 (hq2) (⟨hq1, fun e3 he3 => ⟨Qa1 he3, noN_ok 6 (hq2) (⟨hq1, fun e4 he4 => ⟨Qa1 he4, noN_ok 3 (hq2) (fun r5 hr5 => ⟨K0 _ _ _ hr5, noN_ok 2 (hq2) (⟨rfl, fun hq3 => rfl, fun hq3 => rfl⟩)⟩)⟩⟩)⟩⟩)⟩⟩⟩⟩, fun hq1 => trivial⟩, fun hq0 => rfl⟩⟩
theorem Qnq {C0 : Nat → VB} {D0 : VB} (H0 : Cv2 C0 D0) (a : Uz) : Cv (fun k => Gy (C0 k) a) (Gy D0 a) := by
  unfold Gy
  exact .cond (.cond (.bind (.const _) fun e1 => .bind (.const _) fun e2 => .cond (by exact .const _) (.bind (.const _) fun e3 => .bind (.const _) fun e4 => .bind (H0 _ _) fun r5 => by exact .const _)) (by exact .const _)) (by exact .const _)
def VK.s (k : Nat) (C0 : VB) : Uz → Option (Bool ⊕ Unit) := iter (Gy C0) k
theorem Qmk (w : Cf) (k : Nat) (C0 : VB) (K0 : Qc3 w C0) (a : Uz) (r : (Bool ⊕ Unit)) (h : VK.s k C0 a = some r) : loopsF pp G.kd w 0 (G.an 28) k (loopAt pp 28 4) (Pv a) = some (Pw r) :=
  loop_ok (fun a => QcC pp w C0 a) (fun _ => rfl) (fun a => Qno w _ a) (fun a => Qnp _ w _ _ K0 a) (fun r => by cases r <;> nofun) h
noncomputable def VK.w (C0 : VB) : Uz → Option (Bool ⊕ Unit) := loopW (Gy C0)
theorem VK.cv (C0 : Nat → VB) (D0 : VB) (H0 : Cv2 C0 D0) (a : Uz) : Cv (fun k => VK.s k (C0 k) a) (VK.w D0 a) := Cv.iter (fun a => Qnq H0 a) a
def Qai (L0 : F0) (a0 : Qf) (a1 : Qf) : Option Bool := (bif (a0.Line != a1.Line) then (some false) else (bif (!(eqS a0.Label a1.Label)) then (some false) else (bif (a0.Kind != a1.Kind) then (some false) else (bif (a0.Op != a1.Op) then (some false) else (bif (!(eqS a0.Text a1.Text)) then (some false) else (bif ((((a0.Args.length) : Nat) : Int) != (((a1.Args.length) : Nat) : Int)) then (some false) else ((L0 (Uz.mk (0 : Int) a0 a1)).bind fun x => Sum.elim (fun (o1 : Bool) => (some o1)) (fun (o2 : Unit) => (some true)) x)))))))
def Qf7 (P : Pg) (w : Cf) (L0 : F0) (a0 : Qf) (a1 : Qf) : Tr Bool AH := (let u167 := (a0.Line != a1.Line); .as u167 (yesN 5 u167 (yesN 27 true (rt Wy false))) (noN 5 u167 (let u166 := (!(eqS a0.Label a1.Label)); .as u166 (yesN 5 u166 (yesN 21 true (rt Wy false))) (noN 5 u166 (let u165 := (a0.Kind != a1.Kind); .as u165 (yesN 5 u165 (yesN 15 true (rt Wy false))) (noN 5 u165 (let u164 := (a0.Op != a1.Op); .as u164 (yesN 5 u164 (yesN 9 true (rt Wy false))) (noN 5 u164 (let u163 := (!(eqS a0.Text a1.Text)); .as u163 (yesN 7 u163 (.yes true (rt Wy false))) (noN 2 u163 (.num ((Qo a0.Args).length) (a0.Args.length) (noN 3 u163 (.num ((Qo a1.Args).length) (a1.Args.length) (noN 2 u163 (.as ((((a0.Args.length) : Nat) : Int) != (((a1.Args.length) : Nat) : Int)) (rt Wy false) (.loop2 (loopAt P 28 4) (Pv (Uz.mk (zi 0) a0 a1)) (L0 (Uz.mk (zi 0) a0 a1)) QhZ Qh0 (fun (o1 : Bool) => (rt Wy o1)) (fun (o2 : Unit) => (rt Wy true))))))))))))))))))
theorem Qpo (w : Cf) (L0 : F0) (a0 : Qf) (a1 : Qf) : (Qf7 pp w L0 a0 a1).norm (bodyT pp w G 28 (Qf6 a0 a1).1 (Qf6 a0 a1).2) = Qf7 pp w L0 a0 a1 := by kernel_rfl
theorem Qpp (P : Pg) (w : Cf) (lp : Lo) (L0 : F0) (N0 : Qoa P lp L0) (a0 : Qf) (a1 : Qf) : (Qf7 P w L0 a0 a1).ok lp Wy := ⟨rfl, fun hq0 => yesN_ok 5 (hq0) (yesN_ok 27 (rfl) (rfl)), fun hq0 => noN_ok 5 (hq0) (⟨rfl, fun hq1 => yesN_ok 5 (hq1) (yesN_ok 21 (rfl) (rfl)), fun hq1 => noN_ok 5 (hq1) (⟨rfl, fun hq2 => yesN_ok 5 (hq2) (yesN_ok 15 (rfl) (rfl)), fun hq2 => noN_ok 5 (hq2) (⟨rfl, fun hq3 => yesN_ok 5 (hq3) (yesN_ok 9 (rfl) (rfl)), fun hq3 => noN_ok 5 (hq3) (⟨rfl, fun hq4 => yesN_ok 7 (hq4) (⟨rfl, rfl⟩), fun hq4 => noN_ok 2 (hq4) (⟨(Wc _), noN_ok 3 (hq4) (⟨(Wc _), noN_ok 2 (hq4) (⟨rfl, fun hq5 => rfl, fun hq5 => ⟨fun o1 ho1 => ⟨N0 _ (.inl _) ho1, rfl⟩, fun o2 ho2 => ⟨N0 _ (.inr _) ho2, rfl⟩⟩⟩)⟩)⟩)⟩)⟩)⟩)⟩)⟩
theorem Qpq {L0 : Nat → F0} {M0 : F0} (N0 : Cv1 L0 M0) (a0 : Qf) (a1 : Qf) : Cv (fun k => Qai (L0 k) a0 a1) (Qai M0 a0 a1) := by
  unfold Qai
  exact .cond (by exact .const _) (.cond (by exact .const _) (.cond (by exact .const _) (.cond (by exact .const _) (.cond (by exact .const _) (.cond (by exact .const _) (.bind (N0 _) fun x => .sum (fun o1 => by exact .const _) (fun o2 => by exact .const _) x))))))
def Y1.s : Nat → Qf → Qf → Option Bool
  | 0, _, _ => none
  | k + 1, a0, a1 => Qai (VK.s k (Ul.s k)) a0 a1
theorem Y1.ok : ∀ (k : Nat), Qnn (ev k) (Y1.s k)
  | 0, _, _, _, h => (nomatch h)
  | k + 1, a0, a1, r, h => fn_ok rfl (Qf7 pp (ev k) (VK.s k (Ul.s k)) a0 a1) (Qpo _ _ a0 a1) (Qpp _ _ _ _  (Qmk _ k _ (Ul.ok k)) a0 a1) h
noncomputable def VK : Uz → Option (Bool ⊕ Unit) := VK.w Ul
theorem VK.eq (a : Uz) : VK a = (Gy Ul a).bind (Sum.elim VK some) := loopW_eq _ _
noncomputable def Y1 (a0 : Qf) (a1 : Qf) : Option Bool := Qai VK a0 a1
theorem Y1.cv (a0 : Qf) (a1 : Qf) : Cv (fun k => Y1.s k a0 a1) (Y1 a0 a1) := .un rfl (Qpq (VK.cv (fun k => Ul.s k) Ul Ul.cv) a0 a1)
theorem Y1.eq (a0 : Qf) (a1 : Qf) : Y1 a0 a1 = Qai VK a0 a1 := rfl
def Q1 (r : Bool) : AV × Heap := (.sc (.bool r), [])
structure Je where
  x2 : Int
  x7 : Int
  x8 : ByteArray
  x9 : Int
structure UZ where
  x2 : Int
  x7 : Int
  x8 : ByteArray
def YO (a : Je) : St := { n := 124, nx := 0, env := [(2, xb a.x2), (7, xi a.x7), (8, xs a.x8), (9, xi a.x9)], heap := [] }
def EJ (a : UZ) : Ex × St := (.exit 0, { n := 124, nx := 0, env := [(2, xb a.x2), (7, xi a.x7), (8, xs a.x8)], heap := [] })
abbrev Zm := Je → Option UZ
abbrev Qk0 (P : Pg) (lp : Lo) (l : Zm) : Prop := ∀ (a : Je) (r : UZ), l a = some r → lp (loopAt P 14 6) (YO a) = some (EJ r)
def XY (C0 : V0) (a : Je) : Option (Je ⊕ UZ) := (bif (decide (a.x9 < a.x7)) then (bif (decide (a.x9 > 0)) then (bif (decide (((a.x8.size + h_2c.size : Nat) : Int) ≤ IntKind.i64.max)) then (bif (decide ((((a.x8 ++ h_2c).size + h_20.size : Nat) : Int) ≤ IntKind.i64.max)) then ((C0 a.x9).bind fun r1 => (bif (decide (((((a.x8 ++ h_2c) ++ h_20).size + r1.size : Nat) : Int) ≤ IntKind.i64.max)) then (some (.inl (Je.mk a.x2 a.x7 (((a.x8 ++ h_2c) ++ h_20) ++ r1) (w64 (a.x9 + 1))))) else none)) else none) else none) else (bif (decide (((a.x8.size + h_20.size : Nat) : Int) ≤ IntKind.i64.max)) then ((C0 a.x9).bind fun r2 => (bif (decide ((((a.x8 ++ h_20).size + r2.size : Nat) : Int) ≤ IntKind.i64.max)) then (some (.inl (Je.mk a.x2 a.x7 ((a.x8 ++ h_20) ++ r2) (w64 (a.x9 + 1))))) else none)) else none)) else (some (.inr (UZ.mk a.x2 a.x7 a.x8))))
def P1 (P : Pg) (w : Cf) (C0 : V0) (a : Je) : Tr (Je ⊕ UZ) XS := (.as (decide (a.x9 < a.x7)) (.as (decide (a.x9 > 0)) (.as (decide (((a.x8.size + h_2c.size : Nat) : Int) ≤ IntKind.i64.max)) (.as (decide ((((a.x8 ++ h_2c).size + h_20.size : Nat) : Int) ≤ IntKind.i64.max)) (.call (Sd w a.x9) (C0 a.x9) Y7 fun r1 => (.as (decide (((((a.x8 ++ h_2c) ++ h_20).size + r1.size : Nat) : Int) ≤ IntKind.i64.max)) (lf YO (Je.mk a.x2 a.x7 (((a.x8 ++ h_2c) ++ h_20) ++ r1) (w64 (a.x9 + 1)))) .fail)) .fail) .fail) (.as (decide (((a.x8.size + h_20.size : Nat) : Int) ≤ IntKind.i64.max)) (.call (Sd w a.x9) (C0 a.x9) Y7 fun r2 => (.as (decide ((((a.x8 ++ h_20).size + r2.size : Nat) : Int) ≤ IntKind.i64.max)) (lf YO (Je.mk a.x2 a.x7 ((a.x8 ++ h_20) ++ r2) (w64 (a.x9 + 1)))) .fail)) .fail)) (rx EJ (UZ.mk a.x2 a.x7 a.x8)))
theorem Qkg (w : Cf) (C0 : V0) (a : Je) : (P1 pp w C0 a).norm (roundT pp G.kd w 0 (G.an 14) (loopAt pp 14 6) (YO a)) = P1 pp w C0 a := by kernel_rfl
theorem Qkh (P : Pg) (w : Cf) (lp : Lo) (C0 : V0) (K0 : Qco w C0) (a : Je) : (P1 P w C0 a).ok lp (Sum.elim (fun a => (.norm, YO a)) EJ) := ⟨rfl, fun hq0 => ⟨rfl, fun hq1 => ⟨rfl, fun hq2 => ⟨rfl, fun hq3 => fun r1 hr1 => ⟨K0 _ _ hr1, ⟨rfl, fun hq4 => rfl, fun hq4 => trivial⟩⟩, fun hq3 => trivial⟩, fun hq2 => trivial⟩, fun hq1 => ⟨rfl, fun hq2 => fun r2 hr2 => ⟨K0 _ _ hr2, ⟨rfl, fun hq3 => rfl, fun hq3 => trivial⟩⟩, fun hq2 => trivial⟩⟩, fun hq0 => rfl⟩
theorem Qki {C0 : Nat → V0} {D0 : V0} (H0 : Cv1 C0 D0) (a : Je) : Cv (fun k => XY (C0 k) a) (XY D0 a) := by
  unfold XY
  exact .cond (.cond (.cond (.cond (.bind (H0 _) fun r1 => by exact .const _) (by exact .const _)) (by exact .const _)) (.cond (.bind (H0 _) fun r2 => by exact .const _) (by exact .const _))) (by exact .const _)
def Ub.s (k : Nat) (C0 : V0) : Je → Option UZ := iter (XY C0) k
theorem QjL (w : Cf) (k : Nat) (C0 : V0) (K0 : Qco w C0) (a : Je) (r : UZ) (h : Ub.s k C0 a = some r) : loopsF pp G.kd w 0 (G.an 14) k (loopAt pp 14 6) (YO a) = some (EJ r) :=
  loop_ok (fun a => P1 pp w C0 a) (fun _ => rfl) (fun a => Qkg w _ a) (fun a => Qkh _ w _ _ K0 a) (fun r => nofun) h
noncomputable def Ub.w (C0 : V0) : Je → Option UZ := loopW (XY C0)
theorem Ub.cv (C0 : Nat → V0) (D0 : V0) (H0 : Cv1 C0 D0) (a : Je) : Cv (fun k => Ub.s k (C0 k) a) (Ub.w D0 a) := Cv.iter (fun a => Qki H0 a) a
structure JI where
  x2 : Int
  x7 : Int
  x11 : Bool
  x12 : ByteArray
  x13 : Int
  h0 : Qf
structure U0 where
  x2 : Int
  x7 : Int
  x11 : Bool
  x12 : ByteArray
  h0 : Qf
def Z9 (a : JI) : St := { n := 124, nx := 1, env := [(2, xb a.x2), (7, xi a.x7), (10, .ptr 0 0), (11, xo a.x11), (12, xs a.x12), (13, xi a.x13)], heap := [(0, .box [0, 0, 0, 0, 0, 5] (Ga a.h0))] }
def EK (a : U0) : Ex × St := (.exit 2, { n := 124, nx := 1, env := [(2, xb a.x2), (7, xi a.x7), (10, .ptr 0 0), (11, xo a.x11), (12, xs a.x12)], heap := [(0, .box [0, 0, 0, 0, 0, 5] (Ga a.h0))] })
abbrev Zo := JI → Option U0
abbrev Qk1 (P : Pg) (lp : Lo) (l : Zo) : Prop := ∀ (a : JI) (r : U0), l a = some r → lp (loopAt P 14 14) (Z9 a) = some (EK r)
def EL  (a : JI) : Option (JI ⊕ U0) := (bif (decide (a.x13 < (w64 ((50 : Int) + a.x7)))) then (bif (decide (((a.x12.size + s_a.size : Nat) : Int) ≤ IntKind.i64.max)) then (some (.inl (JI.mk a.x2 a.x7 a.x11 (a.x12 ++ s_a) (w64 (a.x13 + 1)) a.h0))) else none) else (some (.inr (U0.mk a.x2 a.x7 a.x11 a.x12 a.h0))))
def P2 (P : Pg) (w : Cf)  (a : JI) : Tr (JI ⊕ U0) XS := (.as (decide (a.x13 < (w64 ((zi 50) + a.x7)))) (.as (decide (((a.x12.size + s_a.size : Nat) : Int) ≤ IntKind.i64.max)) (lf Z9 (JI.mk a.x2 a.x7 a.x11 (a.x12 ++ s_a) (w64 (a.x13 + 1)) a.h0)) .fail) (rx EK (U0.mk a.x2 a.x7 a.x11 a.x12 a.h0)))
theorem Qkj (w : Cf)  (a : JI) : (P2 pp w  a).norm (roundT pp G.kd w 0 (G.an 14) (loopAt pp 14 14) (Z9 a)) = P2 pp w  a := by kernel_rfl
theorem Qkk (P : Pg) (w : Cf) (lp : Lo)   (a : JI) : (P2 P w  a).ok lp (Sum.elim (fun a => (.norm, Z9 a)) EK) := ⟨rfl, fun hq0 => ⟨rfl, fun hq1 => rfl, fun hq1 => trivial⟩, fun hq0 => rfl⟩
def Ui.s (k : Nat)  : JI → Option U0 := iter (EL ) k
theorem QjM (w : Cf) (k : Nat)   (a : JI) (r : U0) (h : Ui.s k  a = some r) : loopsF pp G.kd w 0 (G.an 14) k (loopAt pp 14 14) (Z9 a) = some (EK r) :=
  loop_ok (fun a => P2 pp w  a) (fun _ => rfl) (fun a => Qkj w  a) (fun a => Qkk _ w _   a) (fun r => nofun) h
noncomputable def Ui.w  : JI → Option U0 := loopW (EL )
theorem Ui.cv    (a : JI) : Cv (fun k => Ui.s k  a) (Ui.w  a) := Cv.iter (fun a => by exact .const _) a
def GW (C0 : SA) (C1 : Py) (C2 : SV) (C3 : Qc2) (C4 : Qbo) (L5 : Zm) (L6 : Zo) (a0 : Int) (a1 : Int) (a2 : Int) : Option Bool := ((C0).bind fun r1 => (bif (!r1) then (some false) else ((C1 a0 (20 : Int)).bind fun r2 => ((C1 a1 (3 : Int)).bind fun r3 => (bif (decide (0 ≤ r3 ∧ r3 < (([QD, QE, QF].length : Nat) : Int))) then (([QD, QE, QF][(Int.toNat r3)]?).bind fun e4 => ((L5 (Je.mk a2 r2 e4 (0 : Int))).bind (fun (o5 : UZ) => ((C2 o5.x8).bind fun r6 => ((L6 (JI.mk o5.x2 o5.x7 r6.2 s_ (0 : Int) r6.1)).bind (fun (o7 : U0) => (bif (decide (((QQ.size + o7.x12.size : Nat) : Int) ≤ IntKind.i64.max)) then (bif (decide ((((QQ ++ o7.x12).size + h_22.size : Nat) : Int) ≤ IntKind.i64.max)) then ((C2 ((QQ ++ o7.x12) ++ h_22)).bind fun r8 => ((some (listB [o7.x2])).bind fun e9 => (bif (decide (((QQ.size + (⟨e9.toArray⟩ : ByteArray).size : Nat) : Int) ≤ IntKind.i64.max)) then (bif (decide ((((QQ ++ (⟨e9.toArray⟩ : ByteArray)).size + h_22.size : Nat) : Int) ≤ IntKind.i64.max)) then ((C2 ((QQ ++ (⟨e9.toArray⟩ : ByteArray)) ++ h_22)).bind fun r10 => ((C3 ((QQ ++ (⟨e9.toArray⟩ : ByteArray)) ++ h_22)).bind fun r11 => (bif (decide (o7.x7 ≥ 1)) then (bif (o7.x11 == (decide (o7.x7 ≤ 16))) then (bif (!o7.x11) then (bif (r8.2 == (decide (o7.x7 ≤ 10))) then (bif (!r8.2) then (bif (r10.2 == r11.2) then ((C4 r10.1 r11.1).bind fun r12 => (some r12)) else (some false)) else (bif (eqS r8.1.Text o7.x12) then (bif (r10.2 == r11.2) then ((C4 r10.1 r11.1).bind fun r13 => (some r13)) else (some false)) else (some false))) else (some false)) else (bif ((((o7.h0.Args.length) : Nat) : Int) == o7.x7) then (bif (r8.2 == (decide (o7.x7 ≤ 10))) then (bif (!r8.2) then (bif (r10.2 == r11.2) then ((C4 r10.1 r11.1).bind fun r14 => (some r14)) else (some false)) else (bif (eqS r8.1.Text o7.x12) then (bif (r10.2 == r11.2) then ((C4 r10.1 r11.1).bind fun r15 => (some r15)) else (some false)) else (some false))) else (some false)) else (some false))) else (some false)) else (bif (o7.x11 == false) then (bif (!o7.x11) then (bif (r8.2 == (decide (o7.x7 ≤ 10))) then (bif (!r8.2) then (bif (r10.2 == r11.2) then ((C4 r10.1 r11.1).bind fun r16 => (some r16)) else (some false)) else (bif (eqS r8.1.Text o7.x12) then (bif (r10.2 == r11.2) then ((C4 r10.1 r11.1).bind fun r17 => (some r17)) else (some false)) else (some false))) else (some false)) else (bif ((((o7.h0.Args.length) : Nat) : Int) == o7.x7) then (bif (r8.2 == (decide (o7.x7 ≤ 10))) then (bif (!r8.2) then (bif (r10.2 == r11.2) then ((C4 r10.1 r11.1).bind fun r18 => (some r18)) else (some false)) else (bif (eqS r8.1.Text o7.x12) then (bif (r10.2 == r11.2) then ((C4 r10.1 r11.1).bind fun r19 => (some r19)) else (some false)) else (some false))) else (some false)) else (some false))) else (some false))))) else none) else none))) else none) else none))))))) else none)))))
def Qbc (P : Pg) (w : Cf) (C0 : SA) (C1 : Py) (C2 : SV) (C3 : Qc2) (C4 : Qbo) (L5 : Zm) (L6 : Zo) (a0 : Int) (a1 : Int) (a2 : Int) : Tr Bool AH := (.call (Qks w) (C0) Qhd fun r1 => (.as (!r1) (rt Q1 false) (.call (Qf8 w a0 (zi 20)) (C1 a0 (zi 20)) Sb fun r2 => (.rows [[xs QD], [xs QE], [xs QF]] (Qh [QD, QE, QF]) (.call (Qf8 w a1 (zi 3)) (C1 a1 (zi 3)) Sb fun r3 => (.ask (in1 r3 (((Qh [QD, QE, QF]).length : Nat) : Int)) (in1 r3 (([QD, QE, QF].length : Nat) : Int)) (.row ((Qh [QD, QE, QF])[(Int.toNat r3)]?) ([QD, QE, QF][(Int.toNat r3)]?) Vf fun (e4 : ByteArray) => (.loop (loopAt P 14 6) (YO (Je.mk a2 r2 e4 (zi 0))) (L5 (Je.mk a2 r2 e4 (zi 0))) EJ (fun (o5 : UZ) => (.call (Qew w o5.x8) (C2 o5.x8) Wg fun r6 => (.loop (loopAt P 14 14) (Z9 (JI.mk o5.x2 o5.x7 r6.2 s_ (zi 0) r6.1)) (L6 (JI.mk o5.x2 o5.x7 r6.2 s_ (zi 0) r6.1)) EK (fun (o7 : U0) => (.as (decide (((QQ.size + o7.x12.size : Nat) : Int) ≤ IntKind.i64.max)) (.as (decide ((((QQ ++ o7.x12).size + h_22.size : Nat) : Int) ≤ IntKind.i64.max)) (.call (Qew w ((QQ ++ o7.x12) ++ h_22)) (C2 ((QQ ++ o7.x12) ++ h_22)) Wg fun r8 => (.rows [[xb o7.x2]] (R_u8 [o7.x2]) (.byt (bytesOfRows (R_u8 [o7.x2])) (some (listB [o7.x2])) fun (e9 : List UInt8) => (.as (decide (((QQ.size + (⟨e9.toArray⟩ : ByteArray).size : Nat) : Int) ≤ IntKind.i64.max)) (.as (decide ((((QQ ++ (⟨e9.toArray⟩ : ByteArray)).size + h_22.size : Nat) : Int) ≤ IntKind.i64.max)) (.call (Qew w ((QQ ++ (⟨e9.toArray⟩ : ByteArray)) ++ h_22)) (C2 ((QQ ++ (⟨e9.toArray⟩ : ByteArray)) ++ h_22)) Wg fun r10 => (.call (Qni w ((QQ ++ (⟨e9.toArray⟩ : ByteArray)) ++ h_22)) (C3 ((QQ ++ (⟨e9.toArray⟩ : ByteArray)) ++ h_22)) Zk fun r11 => (let u188 := (decide (o7.x7 ≥ 1)); .as u188 (yesN 2 u188 (let u177 := (o7.x11 == (decide (o7.x7 ≤ 16))); .as u177 (yesN 2 u177 (.as (!o7.x11) (yesN 4 (!o7.x11) (.yes u177 (.yes (!o7.x11) (.yes u177 (yesN 5 true (let u171 := (r8.2 == (decide (o7.x7 ≤ 10))); .as u171 (yesN 2 u171 (.as (!r8.2) (yesN 3 (!r8.2) (.yes u171 (.yes (!r8.2) (.yes u171 (yesN 4 true (let u168 := (r10.2 == r11.2); .as u168 (yesN 2 u168 (.call (FB w r10.1 r11.1) (C4 r10.1 r11.1) Wy fun r12 => (.yes u168 (rt Q1 r12)))) (noN 3 u168 (rt Q1 false)))))))) (noN 3 (!r8.2) (.yes u171 (.no (!r8.2) (.yes u171 (let u170 := (eqS r8.1.Text o7.x12); .as u170 (yesN 3 u170 (let u169 := (r10.2 == r11.2); .as u169 (yesN 2 u169 (.call (FB w r10.1 r11.1) (C4 r10.1 r11.1) Wy fun r13 => (.yes u169 (rt Q1 r13)))) (noN 3 u169 (rt Q1 false)))) (noN 3 u170 (noN 4 false (rt Q1 false)))))))))) (noN 4 u171 (noN 8 false (rt Q1 false))))))))) (noN 2 (!o7.x11) (.num ((Qo o7.h0.Args).length) (o7.h0.Args.length) (noN 2 (!o7.x11) (.yes u177 (.no (!o7.x11) (.yes u177 (let u176 := ((((o7.h0.Args.length) : Nat) : Int) == o7.x7); .as u176 (yesN 4 u176 (let u175 := (r8.2 == (decide (o7.x7 ≤ 10))); .as u175 (yesN 2 u175 (.as (!r8.2) (yesN 3 (!r8.2) (.yes u175 (.yes (!r8.2) (.yes u175 (yesN 4 true (let u172 := (r10.2 == r11.2); .as u172 (yesN 2 u172 (.call (FB w r10.1 r11.1) (C4 r10.1 r11.1) Wy fun r14 => (.yes u172 (rt Q1 r14)))) (noN 3 u172 (rt Q1 false)))))))) (noN 3 (!r8.2) (.yes u175 (.no (!r8.2) (.yes u175 (let u174 := (eqS r8.1.Text o7.x12); .as u174 (yesN 3 u174 (let u173 := (r10.2 == r11.2); .as u173 (yesN 2 u173 (.call (FB w r10.1 r11.1) (C4 r10.1 r11.1) Wy fun r15 => (.yes u173 (rt Q1 r15)))) (noN 3 u173 (rt Q1 false)))) (noN 3 u174 (noN 4 false (rt Q1 false)))))))))) (noN 4 u175 (noN 8 false (rt Q1 false))))) (noN 4 u176 (noN 13 false (rt Q1 false)))))))))))) (noN 4 u177 (noN 18 false (rt Q1 false))))) (noN 2 u188 (let u187 := (o7.x11 == false); .as u187 (yesN 2 u187 (.as (!o7.x11) (yesN 4 (!o7.x11) (.yes u187 (.yes (!o7.x11) (.yes u187 (yesN 5 true (let u181 := (r8.2 == (decide (o7.x7 ≤ 10))); .as u181 (yesN 2 u181 (.as (!r8.2) (yesN 3 (!r8.2) (.yes u181 (.yes (!r8.2) (.yes u181 (yesN 4 true (let u178 := (r10.2 == r11.2); .as u178 (yesN 2 u178 (.call (FB w r10.1 r11.1) (C4 r10.1 r11.1) Wy fun r16 => (.yes u178 (rt Q1 r16)))) (noN 3 u178 (rt Q1 false)))))))) (noN 3 (!r8.2) (.yes u181 (.no (!r8.2) (.yes u181 (let u180 := (eqS r8.1.Text o7.x12); .as u180 (yesN 3 u180 (let u179 := (r10.2 == r11.2); .as u179 (yesN 2 u179 (.call (FB w r10.1 r11.1) (C4 r10.1 r11.1) Wy fun r17 => (.yes u179 (rt Q1 r17)))) (noN 3 u179 (rt Q1 false)))) (noN 3 u180 (noN 4 false (rt Q1 false)))))))))) (noN 4 u181 (noN 8 false (rt Q1 false))))))))) (noN 2 (!o7.x11) (.num ((Qo o7.h0.Args).length) (o7.h0.Args.length) (noN 2 (!o7.x11) (.yes u187 (.no (!o7.x11) (.yes u187 (let u186 := ((((o7.h0.Args.length) : Nat) : Int) == o7.x7); .as u186 (yesN 4 u186 (let u185 := (r8.2 == (decide (o7.x7 ≤ 10))); .as u185 (yesN 2 u185 (.as (!r8.2) (yesN 3 (!r8.2) (.yes u185 (.yes (!r8.2) (.yes u185 (yesN 4 true (let u182 := (r10.2 == r11.2); .as u182 (yesN 2 u182 (.call (FB w r10.1 r11.1) (C4 r10.1 r11.1) Wy fun r18 => (.yes u182 (rt Q1 r18)))) (noN 3 u182 (rt Q1 false)))))))) (noN 3 (!r8.2) (.yes u185 (.no (!r8.2) (.yes u185 (let u184 := (eqS r8.1.Text o7.x12); .as u184 (yesN 3 u184 (let u183 := (r10.2 == r11.2); .as u183 (yesN 2 u183 (.call (FB w r10.1 r11.1) (C4 r10.1 r11.1) Wy fun r19 => (.yes u183 (rt Q1 r19)))) (noN 3 u183 (rt Q1 false)))) (noN 3 u184 (noN 4 false (rt Q1 false)))))))))) (noN 4 u185 (noN 8 false (rt Q1 false))))) (noN 4 u186 (noN 13 false (rt Q1 false)))))))))))) (noN 4 u187 (noN 18 false (rt Q1 false)))))))) .fail) .fail)))) .fail) .fail))))))) .fail))))))
theorem Qml (w : Cf) (C0 : SA) (C1 : Py) (C2 : SV) (C3 : Qc2) (C4 : Qbo) (L5 : Zm) (L6 : Zo) (a0 : Int) (a1 : Int) (a2 : Int) : (Qbc Tryz.prog w C0 C1 C2 C3 C4 L5 L6 a0 a1 a2).norm (bodyT Tryz.prog w G 14 [.sc (.int .i64 a0), .sc (.int .i64 a1), .sc (.int .u8 a2)] []) = Qbc Tryz.prog w C0 C1 C2 C3 C4 L5 L6 a0 a1 a2 := by kernel_rfl
theorem Qmm (P : Pg) (w : Cf) (lp : Lo) (C0 : SA) (C1 : Py) (C2 : SV) (C3 : Qc2) (C4 : Qbo) (L5 : Zm) (L6 : Zo) (K0 : QoS w C0) (K1 : Qkt w C1) (K2 : QlE w C2) (K3 : Qod w C3) (K4 : Qnn w C4) (N5 : Qk0 P lp L5) (N6 : Qk1 P lp L6) (a0 : Int) (a1 : Int) (a2 : Int) : (Qbc P w C0 C1 C2 C3 C4 L5 L6 a0 a1 a2).ok lp Q1 := fun r1 hr1 => ⟨K0 _ hr1, ⟨rfl, fun hq0 => rfl, fun hq0 => fun r2 hr2 => ⟨K1 _ _ _ hr2, ⟨(Un [QD, QE, QF]), fun r3 hr3 => ⟨K1 _ _ _ hr3, ⟨(by rw [Qr]), fun hq1 => fun e4 he4 => ⟨VP he4, fun o5 ho5 => ⟨N5 _ _ ho5, fun r6 hr6 => ⟨K2 _ _ hr6, fun o7 ho7 => ⟨N6 _ _ ho7, ⟨rfl, fun hq2 => ⟨rfl, fun hq3 => fun r8 hr8 => ⟨K2 _ _ hr8, ⟨(Qmq [o7.x2]), fun e9 he9 => ⟨(QlC _).trans he9, ⟨rfl, fun hq4 => ⟨rfl, fun hq5 => fun r10 hr10 => ⟨K2 _ _ hr10, fun r11 hr11 => ⟨K3 _ _ hr11, ⟨rfl, fun hq6 => yesN_ok 2 (hq6) (⟨rfl, fun hq7 => yesN_ok 2 (hq7) (⟨rfl, fun hq8 => yesN_ok 4 (hq8) (⟨hq7, ⟨hq8, ⟨hq7, yesN_ok 5 (rfl) (⟨rfl, fun hq9 => yesN_ok 2 (hq9) (⟨rfl, fun hq10 => yesN_ok 3 (hq10) (⟨hq9, ⟨hq10, ⟨hq9, yesN_ok 4 (rfl) (⟨rfl, fun hq11 => yesN_ok 2 (hq11) (fun r12 hr12 => ⟨K4 _ _ _ hr12, ⟨hq11, rfl⟩⟩), fun hq11 => noN_ok 3 (hq11) (rfl)⟩)⟩⟩⟩), fun hq10 => noN_ok 3 (hq10) (⟨hq9, ⟨hq10, ⟨hq9, ⟨rfl, fun hq11 => yesN_ok 3 (hq11) (⟨rfl, fun hq12 => yesN_ok 2 (hq12) (fun r13 hr13 => ⟨K4 _ _ _ hr13, ⟨hq12, rfl⟩⟩), fun hq12 => noN_ok 3 (hq12) (rfl)⟩), fun hq11 => noN_ok 3 (hq11) (noN_ok 4 (rfl) (rfl))⟩⟩⟩⟩)⟩), fun hq9 => noN_ok 4 (hq9) (noN_ok 8 (rfl) (rfl))⟩)⟩⟩⟩), fun hq8 => noN_ok 2 (hq8) (⟨(Wc _), noN_ok 2 (hq8) (⟨hq7, ⟨hq8, ⟨hq7, ⟨rfl, fun hq9 => yesN_ok 4 (hq9) (⟨rfl, fun hq10 => yesN_ok 2 (hq10) (⟨rfl, fun hq11 => yesN_ok 3 (hq11) (⟨hq10, ⟨hq11, ⟨hq10, yesN_ok 4 (rfl) (⟨rfl, fun hq12 => yesN_ok 2 (hq12) (fun r14 hr14 => ⟨K4 _ _ _ hr14, ⟨hq12, rfl⟩⟩), fun hq12 => noN_ok 3 (hq12) (rfl)⟩)⟩⟩⟩), fun hq11 => noN_ok 3 (hq11) (⟨hq10, ⟨hq11, ⟨hq10, ⟨rfl, fun hq12 => yesN_ok 3 (hq12) (⟨rfl, fun hq13 => yesN_ok 2 (hq13) (fun r15 hr15 => ⟨K4 _ _ _ hr15, ⟨hq13, rfl⟩⟩), fun hq13 => noN_ok 3 (hq13) (rfl)⟩), fun hq12 => noN_ok 3 (hq12) (noN_ok 4 (rfl) (rfl))⟩⟩⟩⟩)⟩), fun hq10 => noN_ok 4 (hq10) (noN_ok 8 (rfl) (rfl))⟩), fun hq9 => noN_ok 4 (hq9) (noN_ok 13 (rfl) (rfl))⟩⟩⟩⟩)⟩)⟩), fun hq7 => noN_ok 4 (hq7) (noN_ok 18 (rfl) (rfl))⟩), fun hq6 => noN_ok 2 (hq6) (⟨rfl, fun hq7 => yesN_ok 2 (hq7) (⟨rfl, fun hq8 => yesN_ok 4 (hq8) (⟨hq7, ⟨hq8, ⟨hq7, yesN_ok 5 (rfl) (⟨rfl, fun hq9 => yesN_ok 2 (hq9) (⟨rfl, fun hq10 => yesN_ok 3 (hq10) (⟨hq9, ⟨hq10, ⟨hq9, yesN_ok 4 (rfl) (⟨rfl, fun hq11 => yesN_ok 2 (hq11) (fun r16 hr16 => ⟨K4 _ _ _ hr16, ⟨hq11, rfl⟩⟩), fun hq11 => noN_ok 3 (hq11) (rfl)⟩)⟩⟩⟩), fun hq10 => noN_ok 3 (hq10) (⟨hq9, ⟨hq10, ⟨hq9, ⟨rfl, fun hq11 => yesN_ok 3 (hq11) (⟨rfl, fun hq12 => yesN_ok 2 (hq12) (fun r17 hr17 => ⟨K4 _ _ _ hr17, ⟨hq12, rfl⟩⟩), fun hq12 => noN_ok 3 (hq12) (rfl)⟩), fun hq11 => noN_ok 3 (hq11) (noN_ok 4 (rfl) (rfl))⟩⟩⟩⟩)⟩), fun hq9 => noN_ok 4 (hq9) (noN_ok 8 (rfl) (rfl))⟩)⟩⟩⟩), fun hq8 => noN_ok 2 (hq8) (⟨(Wc _), noN_ok 2 (hq8) (⟨hq7, ⟨hq8, ⟨hq7, ⟨rfl, fun hq9 => yesN_ok 4 (hq9) (⟨rfl, fun hq10 => yesN_ok 2 (hq10) (⟨rfl, fun hq11 => yesN_ok 3 (hq11) (⟨hq10, ⟨hq11, ⟨hq10, yesN_ok 4 (rfl) (⟨rfl, fun hq12 => yesN_ok 2 (hq12) (fun r18 hr18 => ⟨K4 _ _ _ hr18, ⟨hq12, rfl⟩⟩), fun hq12 => noN_ok 3 (hq12) (rfl)⟩)⟩⟩⟩), fun hq11 => noN_ok 3 (hq11) (⟨hq10, ⟨hq11, ⟨hq10, ⟨rfl, fun hq12 => yesN_ok 3 (hq12) (⟨rfl, fun hq13 => yesN_ok 2 (hq13) (fun r19 hr19 => ⟨K4 _ _ _ hr19, ⟨hq13, rfl⟩⟩), fun hq13 => noN_ok 3 (hq13) (rfl)⟩), fun hq12 => noN_ok 3 (hq12) (noN_ok 4 (rfl) (rfl))⟩⟩⟩⟩)⟩), fun hq10 => noN_ok 4 (hq10) (noN_ok 8 (rfl) (rfl))⟩), fun hq9 => noN_ok 4 (hq9) (noN_ok 13 (rfl) (rfl))⟩⟩⟩⟩)⟩)⟩), fun hq7 => noN_ok 4 (hq7) (noN_ok 18 (rfl) (rfl))⟩)⟩⟩⟩, fun hq5 => trivial⟩, fun hq4 => trivial⟩⟩⟩⟩, fun hq3 => trivial⟩, fun hq2 => trivial⟩⟩⟩⟩⟩, fun hq1 => trivial⟩⟩⟩⟩⟩⟩
theorem Qmn {C0 : Nat → SA} {D0 : SA} (H0 : Cv C0 D0) {C1 : Nat → Py} {D1 : Py} (H1 : Cv2 C1 D1) {C2 : Nat → SV} {D2 : SV} (H2 : Cv1 C2 D2) {C3 : Nat → Qc2} {D3 : Qc2} (H3 : Cv1 C3 D3) {C4 : Nat → Qbo} {D4 : Qbo} (H4 : Cv2 C4 D4) {L5 : Nat → Zm} {M5 : Zm} (N5 : Cv1 L5 M5) {L6 : Nat → Zo} {M6 : Zo} (N6 : Cv1 L6 M6) (a0 : Int) (a1 : Int) (a2 : Int) : Cv (fun k => GW (C0 k) (C1 k) (C2 k) (C3 k) (C4 k) (L5 k) (L6 k) a0 a1 a2) (GW D0 D1 D2 D3 D4 M5 M6 a0 a1 a2) := by
  unfold GW
  exact .bind (H0) fun r1 => .cond (by exact .const _) (.bind (H1 _ _) fun r2 => .bind (H1 _ _) fun r3 => .cond (.bind (.const _) fun e4 => .bind (N5 _) (fun o5 => .bind (H2 _) fun r6 => .bind (N6 _) (fun o7 => .cond (.cond (.bind (H2 _) fun r8 => .bind (.const _) fun e9 => .cond (.cond (.bind (H2 _) fun r10 => .bind (H3 _) fun r11 => .cond (.cond (.cond (.cond (.cond (.cond (.bind (H4 _ _) fun r12 => by exact .const _) (by exact .const _)) (.cond (.cond (.bind (H4 _ _) fun r13 => by exact .const _) (by exact .const _)) (by exact .const _))) (by exact .const _)) (.cond (.cond (.cond (.cond (.bind (H4 _ _) fun r14 => by exact .const _) (by exact .const _)) (.cond (.cond (.bind (H4 _ _) fun r15 => by exact .const _) (by exact .const _)) (by exact .const _))) (by exact .const _)) (by exact .const _))) (by exact .const _)) (.cond (.cond (.cond (.cond (.cond (.bind (H4 _ _) fun r16 => by exact .const _) (by exact .const _)) (.cond (.cond (.bind (H4 _ _) fun r17 => by exact .const _) (by exact .const _)) (by exact .const _))) (by exact .const _)) (.cond (.cond (.cond (.cond (.bind (H4 _ _) fun r18 => by exact .const _) (by exact .const _)) (.cond (.cond (.bind (H4 _ _) fun r19 => by exact .const _) (by exact .const _)) (by exact .const _))) (by exact .const _)) (by exact .const _))) (by exact .const _))) (by exact .const _)) (by exact .const _)) (by exact .const _)) (by exact .const _)))) (by exact .const _))
def Wp.s : Nat → Int → Int → Int → Option Bool
  | 0, _, _, _ => none
  | k + 1, a0, a1, a2 => GW (XE.s k) (Xe.s k) (VV.s k) (Gx.s k) (Y1.s k) (Ub.s k (UB.s k)) (Ui.s k) a0 a1 a2
theorem Wp.ok : ∀ (k : Nat), ∀ (a0 : Int) (a1 : Int) (a2 : Int) (r : Bool), Wp.s k a0 a1 a2 = some r → evalFn Tryz.prog G k 14 [.sc (.int .i64 a0), .sc (.int .i64 a1), .sc (.int .u8 a2)] [] = some (Q1 r)
  | 0, _, _, _, _, h => (nomatch h)
  | k + 1, a0, a1, a2, r, h => fn_ok rfl (Qbc Tryz.prog (ev k) (XE.s k) (Xe.s k) (VV.s k) (Gx.s k) (Y1.s k) (Ub.s k (UB.s k)) (Ui.s k) a0 a1 a2) (Qml _ _ _ _ _ _ _ _ a0 a1 a2) (Qmm _ _ _ _ _ _ _ _ _ _ (XE.ok k) (Xe.ok k) (VV.ok k) (Gx.ok k) (Y1.ok k) (QjL _ k _ (UB.ok k)) (QjM _ k) a0 a1 a2) h
noncomputable def Ub : Je → Option UZ := Ub.w UB
theorem Ub.eq (a : Je) : Ub a = (XY UB a).bind (Sum.elim Ub some) := loopW_eq _ _
noncomputable def Ui : JI → Option U0 := Ui.w 
theorem Ui.eq (a : JI) : Ui a = (EL  a).bind (Sum.elim Ui some) := loopW_eq _ _
noncomputable def Wp (a0 : Int) (a1 : Int) (a2 : Int) : Option Bool := GW XE Xe VV Gx Y1 Ub Ui a0 a1 a2
theorem Wp.cv (a0 : Int) (a1 : Int) (a2 : Int) : Cv (fun k => Wp.s k a0 a1 a2) (Wp a0 a1 a2) := .un rfl (Qmn XE.cv Xe.cv VV.cv Gx.cv Y1.cv (Ub.cv (fun k => UB.s k) UB UB.cv) (Ui.cv) a0 a1 a2)
theorem Wp.eq (a0 : Int) (a1 : Int) (a2 : Int) : Wp a0 a1 a2 = GW XE Xe VV Gx Y1 Ub Ui a0 a1 a2 := rfl
theorem Wp.run (a0 : Int) (a1 : Int) (a2 : Int) {r : Bool} (h : Wp a0 a1 a2 = some r) : ∃ k, evalFn Tryz.prog G k 14 [.sc (.int .i64 a0), .sc (.int .i64 a1), .sc (.int .u8 a2)] [] = some (Q1 r) :=
  let ⟨k, hk⟩ := ((Wp.cv a0 a1 a2).2 r).1 h
  ⟨k, Wp.ok k a0 a1 a2 r hk⟩

end Go.Ab
namespace Go.Proofs.YtblfhkldljfhiaaGreatDoor
open Go Go.Ab Go.RowKit Go.Shelf
theorem gPow : Tryz.prog.globalNamed "internal/strconv.uint64pow10" = some 5 := by kernel_rfl
theorem tPow : (Tryz.prog.globals[5]?).map (·.type) = some 287 := by kernel_rfl
theorem cells_u64 : Tryz.prog.cellsOf 255 = 1 := by kernel_rfl
theorem cells_pow : Tryz.prog.cellsOf 287 = 20 := by kernel_rfl
theorem datumP {H : Type} : (Rows.laid_internal_strconv_uint64pow10 : DataW H) = Lib.tabData .u64 Lib.pow10Tab := by kernel_rfl
theorem gSp : Tryz.prog.globalNamed "strings.asciiSpace" = some 0 := by kernel_rfl
theorem tSp : (Tryz.prog.globals[0]?).map (·.type) = some 234 := by kernel_rfl
theorem cells_u8 : Tryz.prog.cellsOf 5 = 1 := by kernel_rfl
theorem cells_sp : Tryz.prog.cellsOf 234 = 256 := by kernel_rfl
theorem datumS {H : Type} : (Rows.laid_strings_asciiSpace : DataW H) = Lib.tabData .u8 Lib.asciiSpaceTab := by kernel_rfl
def told : Ab.Told := ((told1 Tryz.prog "internal/strconv.uint64pow10" 5 (Lib.pow10Tab.map fun z => Value.int .u64 z).toArray).both (told1 Tryz.prog "strings.asciiSpace" 0 (Lib.asciiSpaceTab.map fun z => Value.int .u8 z).toArray)).both (cellT 1)
theorem told_of {W : World} (h : laidMetH Tryz.prog [("math/bits.deBruijn32tab", Rows.laid_math_bits_deBruijn32tab), ("math/bits.deBruijn64tab", Rows.laid_math_bits_deBruijn64tab), ("internal/strconv.uint64pow10", Rows.laid_internal_strconv_uint64pow10), ("unicode/utf8.acceptRanges", Rows.laid_unicode_utf8_acceptRanges), ("strconv.ErrRange", Rows.laid_strconv_ErrRange), ("strconv.ErrSyntax", Rows.laid_strconv_ErrSyntax), ("unicode.White_Space", Rows.laid_unicode_White_Space), ("strings.asciiSpace", Rows.laid_strings_asciiSpace), ("unicode/utf8.first", Rows.laid_unicode_utf8_first)] W ∧ W.ShapedOpen Tryz.prog) : told.T (oldCtx W).Z W := by
  obtain ⟨h, hs⟩ := h
  rw [MakeChecks.laidMetH_plain _ _ _ (by kernel_rfl)] at h
  obtain ⟨ps, ⟨g0, t0, cs0, f0, p0, q0, hg0, ht0, hv0, hd0, ⟨g1, t1, cs1, f1, p1, q1, hg1, ht1, hv1, hd1, ⟨g2, t2, cs2, f2, p2, q2, hg2, ht2, hv2, hd2, ⟨g3, t3, cs3, f3, p3, q3, hg3, ht3, hv3, hd3, ⟨g4, t4, cs4, f4, p4, q4, hg4, ht4, hv4, hd4, ⟨g5, t5, cs5, f5, p5, q5, hg5, ht5, hv5, hd5, ⟨g6, t6, cs6, f6, p6, q6, hg6, ht6, hv6, hd6, ⟨g7, t7, cs7, f7, p7, q7, hg7, ht7, hv7, hd7, ⟨g8, t8, cs8, f8, p8, q8, hg8, ht8, hv8, hd8, _⟩, _⟩, _⟩, _⟩, _⟩, _⟩, _⟩, _⟩, _⟩, _⟩ := h
  refine ⟨⟨?_, ?_⟩, ?_⟩
  · obtain rfl := Option.some.inj (gPow.symm.trans hg2)
    obtain rfl := Option.some.inj (tPow.symm.trans ht2)
    rw [datumP] at hd2
    refine tabT_old gPow (hv2.trans ?_) (by decide)
    have := Lib.cells_of_tab Tryz.underlying287 Tryz.underlying255 cells_u64 cells_pow hd2
    rw [← this]
  · obtain rfl := Option.some.inj (gSp.symm.trans hg7)
    obtain rfl := Option.some.inj (tSp.symm.trans ht7)
    rw [datumS] at hd7
    refine tabT_old gSp (hv7.trans ?_) (of_decide_eq_true (by kernel_rfl))
    have := Lib.cells_of_tab Tryz.underlying234 Tryz.underlying5 cells_u8 cells_sp hd7
    rw [← this]
  · exact cellT_old (cell_of_shapedOpen_int (P := Tryz.prog) (t := 3) (zero := #[.int .i64 0]) hs (by decide +kernel) (by kernel_rfl) rfl (by kernel_rfl) (by kernel_rfl) Tryz.underlying3)
set_option maxHeartbeats 2000000 in
set_option maxRecDepth 100000 in
theorem cli_nil (n c : Nat) (w : World) : Calls Tryz.prog 81 #[.slice none n c] w fun e w' => e = .returned (.slice none 0 0) ∧ w' = w := by
  have mixed : Tryz.prog.follows .mixedOrders = true := by kernel_rfl
  have t0 := Tryz.underlying3; have a0 := Tryz.isAgg3; have z0 := Tryz.sizeOf3; have v0 := Tryz.zeroValue3; have t1 := Tryz.underlying22; have a1 := Tryz.isAgg22; have z1 := Tryz.sizeOf22; have v1 := Tryz.zeroValue22; have t2 := Tryz.underlying4; have a2 := Tryz.isAgg4; have z2 := Tryz.sizeOf4; have v2 := Tryz.zeroValue4
  have q22 : ∀ (w : World) (a : Option Addr) (n c n' c' : Nat), (binOp .eql 22 (.slice a n c) (.slice none n' c')).run Tryz.prog w = .ok (.bool a.isNone) w := fun w a n c n' c' => Lib.run_eql_slice_nil w _ _ a n c n' c' t1
  go_enter Tryz.func81, Tryz.ntmps81
  go_wp2
  go_ret
  exact ⟨rfl, rfl⟩
set_option maxHeartbeats 2000000 in
set_option maxRecDepth 100000 in
theorem cli_zero (a : Addr) (c : Nat) (w : World) : Calls Tryz.prog 81 #[.slice (some a) 0 c] w fun e w' => ∃ v', e = .returned v' ∧ w'.ownsRow w.heap.size 3 1 v' 0 [] ∧ Below w.heap.size w w' := by
  have mixed : Tryz.prog.follows .mixedOrders = true := by kernel_rfl
  have t0 := Tryz.underlying3; have a0 := Tryz.isAgg3; have z0 := Tryz.sizeOf3; have v0 := Tryz.zeroValue3; have t1 := Tryz.underlying22; have a1 := Tryz.isAgg22; have z1 := Tryz.sizeOf22; have v1 := Tryz.zeroValue22; have t2 := Tryz.underlying4; have a2 := Tryz.isAgg4; have z2 := Tryz.sizeOf4; have v2 := Tryz.zeroValue4
  have q22 : ∀ (w : World) (a : Option Addr) (n c n' c' : Nat), (binOp .eql 22 (.slice a n c) (.slice none n' c')).run Tryz.prog w = .ok (.bool a.isNone) w := fun w a n c n' c' => Lib.run_eql_slice_nil w _ _ a n c n' c' t1
  have hinfo : (Tryz.prog.info? 3).map (fun i => (i.zero, i.size, i.bytes)) = some (some (.int .i64 0), 1, 8) := by kernel_rfl
  obtain ⟨i0, hi, hz0, hz1, hz2⟩ := info_parts hinfo
  have u22 : ∀ w, Sem.run Tryz.prog (underlying 22) w = .ok (TypeDesc.slice 3) w := run_underlying t1
  go_enter Tryz.func81, Tryz.ntmps81
  go_wp2_with (at_builtin; refine wpList_append_own _ rfl _ _ 22 rfl w.heap.size 3 i0 (.int .i64 0) 1 8 t1 hi hz0 hz1 hz2 rfl (by decide) _ _ _ rfl (World.ownsRow_made w #[] 0 (Nat.le_refl _) (Nat.zero_le _) rfl) a 0 c [] rfl rfl (by intro j u hj; simp at hj) (by intro u hu; cases hu) (by unfold maxLen; omega) (by omega) (by simp) ?_)
  intro v' w1 hown hgrow hnil
  go_wp2
  go_ret
  refine ⟨v', rfl, by simpa using hown, ?_⟩
  exact ((Below.refl _ w).alloc (Nat.le_refl _) _).grown hgrow (by simp) (by intro k hk; simp [Value.ownBlock] at hk; omega)
set_option maxHeartbeats 2000000 in
set_option maxRecDepth 100000 in
theorem cli_some (b off c : Nat) (zs : List Value) (w : World) (hbig : zs.length * 8 ≤ 140737488355328) (hsc : zs.all scal = true) (hc : ∀ (j : Nat) z, zs[j]? = some z → w.cell? ⟨b, off + j, none⟩ = some z) :
    Calls Tryz.prog 81 #[.slice (some ⟨b, off, none⟩) zs.length c] w fun e w' => ∃ v', e = .returned v' ∧ w'.ownsRow w.heap.size 3 1 v' zs.length zs ∧ Below w.heap.size w w' := by
  have mixed : Tryz.prog.follows .mixedOrders = true := by kernel_rfl
  have t0 := Tryz.underlying3; have a0 := Tryz.isAgg3; have z0 := Tryz.sizeOf3; have v0 := Tryz.zeroValue3; have t1 := Tryz.underlying22; have a1 := Tryz.isAgg22; have z1 := Tryz.sizeOf22; have v1 := Tryz.zeroValue22; have t2 := Tryz.underlying4; have a2 := Tryz.isAgg4; have z2 := Tryz.sizeOf4; have v2 := Tryz.zeroValue4
  have q22 : ∀ (w : World) (a : Option Addr) (n c n' c' : Nat), (binOp .eql 22 (.slice a n c) (.slice none n' c')).run Tryz.prog w = .ok (.bool a.isNone) w := fun w a n c n' c' => Lib.run_eql_slice_nil w _ _ a n c n' c' t1
  have hinfo : (Tryz.prog.info? 3).map (fun i => (i.zero, i.size, i.bytes)) = some (some (.int .i64 0), 1, 8) := by kernel_rfl
  obtain ⟨i0, hi, hz0, hz1, hz2⟩ := info_parts hinfo
  have u22 : ∀ w, Sem.run Tryz.prog (underlying 22) w = .ok (TypeDesc.slice 3) w := run_underlying t1
  have A : Aside (∀ (j : Nat) z, zs[j]? = some z → w.cell? ⟨b, off + j, none⟩ = some z) := hc
  clear hc
  go_enter Tryz.func81, Tryz.ntmps81
  go_wp2_with (at_builtin; refine wpList_append_own _ rfl _ _ 22 rfl w.heap.size 3 i0 (.int .i64 0) 1 8 t1 hi hz0 hz1 hz2 rfl (by decide) _ _ _ rfl (World.ownsRow_made w #[] 0 (Nat.le_refl _) (Nat.zero_le _) rfl) ⟨b, off, none⟩ zs.length c zs rfl ?qc1 ?qc2 ?qc3 ?qc4 ?qc5 ?qc6 ?_)
  case qc1 => simp
  case qc2 =>
    intro j u hj
    rw [Addr.add_lit]
    exact Lib.cell?_alloc_some _ (A.out j u hj)
  case qc3 => intro u hu; exact oneCell_leaf (c := oldCtx w) (w := w) (.sc u (List.all_eq_true.1 hsc u hu)) rfl
  case qc4 => unfold maxLen; omega
  case qc5 => omega
  case qc6 => simp
  intro v' w1 hown hgrow hnil
  go_wp2
  go_ret
  refine ⟨v', rfl, by simpa using hown, ?_⟩
  exact ((Below.refl _ w).alloc (Nat.le_refl _) _).grown hgrow (by simp) (by intro k hk; simp [Value.ownBlock] at hk; omega)

set_option maxHeartbeats 2000000 in
set_option maxRecDepth 100000 in
theorem clArg_nil (n c : Nat) (w : World) : Calls Tryz.prog 77 #[.slice none n c] w fun e w' => e = .returned (.slice none 0 0) ∧ w' = w := by
  have mixed : Tryz.prog.follows .mixedOrders = true := by kernel_rfl
  have t0 := Tryz.underlying68; have a0 := Tryz.isAgg68; have z0 := Tryz.sizeOf68; have v0 := Tryz.zeroValue68; have t1 := Tryz.underlying35; have a1 := Tryz.isAgg35; have z1 := Tryz.sizeOf35; have v1 := Tryz.zeroValue35; have t2 := Tryz.underlying4; have a2 := Tryz.isAgg4; have z2 := Tryz.sizeOf4; have v2 := Tryz.zeroValue4
  have q22 : ∀ (w : World) (a : Option Addr) (n c n' c' : Nat), (binOp .eql 35 (.slice a n c) (.slice none n' c')).run Tryz.prog w = .ok (.bool a.isNone) w := fun w a n c n' c' => Lib.run_eql_slice_nil w _ _ a n c n' c' t1
  go_enter Tryz.func77, Tryz.ntmps77
  go_wp2
  go_ret
  exact ⟨rfl, rfl⟩
set_option maxHeartbeats 2000000 in
set_option maxRecDepth 100000 in
theorem clArg_zero (a : Addr) (c : Nat) (w : World) : Calls Tryz.prog 77 #[.slice (some a) 0 c] w fun e w' => ∃ v', e = .returned v' ∧ w'.ownsRow w.heap.size 68 5 v' 0 [] ∧ Below w.heap.size w w' := by
  have mixed : Tryz.prog.follows .mixedOrders = true := by kernel_rfl
  have t0 := Tryz.underlying68; have a0 := Tryz.isAgg68; have z0 := Tryz.sizeOf68; have v0 := Tryz.zeroValue68; have t1 := Tryz.underlying35; have a1 := Tryz.isAgg35; have z1 := Tryz.sizeOf35; have v1 := Tryz.zeroValue35; have t2 := Tryz.underlying4; have a2 := Tryz.isAgg4; have z2 := Tryz.sizeOf4; have v2 := Tryz.zeroValue4
  have q22 : ∀ (w : World) (a : Option Addr) (n c n' c' : Nat), (binOp .eql 35 (.slice a n c) (.slice none n' c')).run Tryz.prog w = .ok (.bool a.isNone) w := fun w a n c n' c' => Lib.run_eql_slice_nil w _ _ a n c n' c' t1
  have hinfo : (Tryz.prog.info? 68).map (fun i => (i.zero, i.size, i.bytes)) = some (some (.agg #[.int .i64 0, .int .i64 0, .int .i64 0, .string ByteArray.empty, .slice none 0 0]), 5, 64) := by kernel_rfl
  obtain ⟨i0, hi, hz0, hz1, hz2⟩ := info_parts hinfo
  have u22 : ∀ w, Sem.run Tryz.prog (underlying 35) w = .ok (TypeDesc.slice 68) w := run_underlying t1
  go_enter Tryz.func77, Tryz.ntmps77
  go_wp2_with (at_builtin; refine wpList_append_own _ rfl _ _ 35 rfl w.heap.size 68 i0 (.agg #[.int .i64 0, .int .i64 0, .int .i64 0, .string ByteArray.empty, .slice none 0 0]) 5 64 t1 hi hz0 hz1 hz2 rfl (by decide) _ _ _ rfl (World.ownsRow_made w #[] 0 (Nat.le_refl _) (Nat.zero_le _) rfl) a 0 c [] rfl rfl (by intro j u hj; simp at hj) (by intro u hu; cases hu) (by unfold maxLen; omega) (by omega) (by simp) ?_)
  intro v' w1 hown hgrow hnil
  go_wp2
  go_ret
  refine ⟨v', rfl, by simpa using hown, ?_⟩
  exact ((Below.refl _ w).alloc (Nat.le_refl _) _).grown hgrow (by simp) (by intro k hk; simp [Value.ownBlock] at hk; omega)
set_option maxHeartbeats 2000000 in
set_option maxRecDepth 100000 in
theorem clArg_some (b off n c : Nat) (zs : List Value) (w : World) (hl : zs.length = n * 5) (hbig : n * 64 ≤ 140737488355328) (hml : n ≤ maxLen) (hsc : ∀ u ∈ zs, u.oneCell' = true) (hc : ∀ (j : Nat) z, zs[j]? = some z → w.cell? ⟨b, off + j, none⟩ = some z) :
    Calls Tryz.prog 77 #[.slice (some ⟨b, off, none⟩) n c] w fun e w' => ∃ v', e = .returned v' ∧ w'.ownsRow w.heap.size 68 5 v' n zs ∧ Below w.heap.size w w' := by
  have mixed : Tryz.prog.follows .mixedOrders = true := by kernel_rfl
  have t0 := Tryz.underlying68; have a0 := Tryz.isAgg68; have z0 := Tryz.sizeOf68; have v0 := Tryz.zeroValue68; have t1 := Tryz.underlying35; have a1 := Tryz.isAgg35; have z1 := Tryz.sizeOf35; have v1 := Tryz.zeroValue35; have t2 := Tryz.underlying4; have a2 := Tryz.isAgg4; have z2 := Tryz.sizeOf4; have v2 := Tryz.zeroValue4
  have q22 : ∀ (w : World) (a : Option Addr) (n c n' c' : Nat), (binOp .eql 35 (.slice a n c) (.slice none n' c')).run Tryz.prog w = .ok (.bool a.isNone) w := fun w a n c n' c' => Lib.run_eql_slice_nil w _ _ a n c n' c' t1
  have hinfo : (Tryz.prog.info? 68).map (fun i => (i.zero, i.size, i.bytes)) = some (some (.agg #[.int .i64 0, .int .i64 0, .int .i64 0, .string ByteArray.empty, .slice none 0 0]), 5, 64) := by kernel_rfl
  obtain ⟨i0, hi, hz0, hz1, hz2⟩ := info_parts hinfo
  have u22 : ∀ w, Sem.run Tryz.prog (underlying 35) w = .ok (TypeDesc.slice 68) w := run_underlying t1
  have A : Aside (∀ (j : Nat) z, zs[j]? = some z → w.cell? ⟨b, off + j, none⟩ = some z) := hc
  clear hc
  go_enter Tryz.func77, Tryz.ntmps77
  go_wp2_with (at_builtin; refine wpList_append_own _ rfl _ _ 35 rfl w.heap.size 68 i0 (.agg #[.int .i64 0, .int .i64 0, .int .i64 0, .string ByteArray.empty, .slice none 0 0]) 5 64 t1 hi hz0 hz1 hz2 rfl (by decide) _ _ _ rfl (World.ownsRow_made w #[] 0 (Nat.le_refl _) (Nat.zero_le _) rfl) ⟨b, off, none⟩ n c zs rfl ?qc1 ?qc2 ?qc3 ?qc4 ?qc5 ?qc6 ?_)
  case qc1 => exact hl
  case qc2 =>
    intro j u hj
    rw [Addr.add_lit]
    exact Lib.cell?_alloc_some _ (A.out j u hj)
  case qc3 => intro u hu; exact hsc u hu
  case qc4 => omega
  case qc5 => omega
  case qc6 => simp
  intro v' w1 hown hgrow hnil
  go_wp2
  go_ret
  refine ⟨v', rfl, by simpa using hown, ?_⟩
  exact ((Below.refl _ w).alloc (Nat.le_refl _) _).grown hgrow (by simp) (by intro k hk; simp [Value.ownBlock] at hk; omega)

set_option maxHeartbeats 2000000 in
set_option maxRecDepth 100000 in
theorem clStmt_nil (n c : Nat) (w : World) : Calls Tryz.prog 80 #[.slice none n c] w fun e w' => e = .returned (.slice none 0 0) ∧ w' = w := by
  have mixed : Tryz.prog.follows .mixedOrders = true := by kernel_rfl
  have t0 := Tryz.underlying37; have a0 := Tryz.isAgg37; have z0 := Tryz.sizeOf37; have v0 := Tryz.zeroValue37; have t1 := Tryz.underlying52; have a1 := Tryz.isAgg52; have z1 := Tryz.sizeOf52; have v1 := Tryz.zeroValue52; have t2 := Tryz.underlying4; have a2 := Tryz.isAgg4; have z2 := Tryz.sizeOf4; have v2 := Tryz.zeroValue4
  have q22 : ∀ (w : World) (a : Option Addr) (n c n' c' : Nat), (binOp .eql 52 (.slice a n c) (.slice none n' c')).run Tryz.prog w = .ok (.bool a.isNone) w := fun w a n c n' c' => Lib.run_eql_slice_nil w _ _ a n c n' c' t1
  go_enter Tryz.func80, Tryz.ntmps80
  go_wp2
  go_ret
  exact ⟨rfl, rfl⟩
set_option maxHeartbeats 2000000 in
set_option maxRecDepth 100000 in
theorem clStmt_zero (a : Addr) (c : Nat) (w : World) : Calls Tryz.prog 80 #[.slice (some a) 0 c] w fun e w' => ∃ v', e = .returned v' ∧ w'.ownsRow w.heap.size 37 6 v' 0 [] ∧ Below w.heap.size w w' := by
  have mixed : Tryz.prog.follows .mixedOrders = true := by kernel_rfl
  have t0 := Tryz.underlying37; have a0 := Tryz.isAgg37; have z0 := Tryz.sizeOf37; have v0 := Tryz.zeroValue37; have t1 := Tryz.underlying52; have a1 := Tryz.isAgg52; have z1 := Tryz.sizeOf52; have v1 := Tryz.zeroValue52; have t2 := Tryz.underlying4; have a2 := Tryz.isAgg4; have z2 := Tryz.sizeOf4; have v2 := Tryz.zeroValue4
  have q22 : ∀ (w : World) (a : Option Addr) (n c n' c' : Nat), (binOp .eql 52 (.slice a n c) (.slice none n' c')).run Tryz.prog w = .ok (.bool a.isNone) w := fun w a n c n' c' => Lib.run_eql_slice_nil w _ _ a n c n' c' t1
  have hinfo : (Tryz.prog.info? 37).map (fun i => (i.zero, i.size, i.bytes)) = some (some (.agg #[.int .i64 0, .string ByteArray.empty, .int .i64 0, .int .i64 0, .string ByteArray.empty, .slice none 0 0]), 6, 80) := by kernel_rfl
  obtain ⟨i0, hi, hz0, hz1, hz2⟩ := info_parts hinfo
  have u22 : ∀ w, Sem.run Tryz.prog (underlying 52) w = .ok (TypeDesc.slice 37) w := run_underlying t1
  go_enter Tryz.func80, Tryz.ntmps80
  go_wp2_with (at_builtin; refine wpList_append_own _ rfl _ _ 52 rfl w.heap.size 37 i0 (.agg #[.int .i64 0, .string ByteArray.empty, .int .i64 0, .int .i64 0, .string ByteArray.empty, .slice none 0 0]) 6 80 t1 hi hz0 hz1 hz2 rfl (by decide) _ _ _ rfl (World.ownsRow_made w #[] 0 (Nat.le_refl _) (Nat.zero_le _) rfl) a 0 c [] rfl rfl (by intro j u hj; simp at hj) (by intro u hu; cases hu) (by unfold maxLen; omega) (by omega) (by simp) ?_)
  intro v' w1 hown hgrow hnil
  go_wp2
  go_ret
  refine ⟨v', rfl, by simpa using hown, ?_⟩
  exact ((Below.refl _ w).alloc (Nat.le_refl _) _).grown hgrow (by simp) (by intro k hk; simp [Value.ownBlock] at hk; omega)
set_option maxHeartbeats 2000000 in
set_option maxRecDepth 100000 in
theorem clStmt_some (b off n c : Nat) (zs : List Value) (w : World) (hl : zs.length = n * 6) (hbig : n * 80 ≤ 140737488355328) (hml : n ≤ maxLen) (hsc : ∀ u ∈ zs, u.oneCell' = true) (hc : ∀ (j : Nat) z, zs[j]? = some z → w.cell? ⟨b, off + j, none⟩ = some z) :
    Calls Tryz.prog 80 #[.slice (some ⟨b, off, none⟩) n c] w fun e w' => ∃ v', e = .returned v' ∧ w'.ownsRow w.heap.size 37 6 v' n zs ∧ Below w.heap.size w w' := by
  have mixed : Tryz.prog.follows .mixedOrders = true := by kernel_rfl
  have t0 := Tryz.underlying37; have a0 := Tryz.isAgg37; have z0 := Tryz.sizeOf37; have v0 := Tryz.zeroValue37; have t1 := Tryz.underlying52; have a1 := Tryz.isAgg52; have z1 := Tryz.sizeOf52; have v1 := Tryz.zeroValue52; have t2 := Tryz.underlying4; have a2 := Tryz.isAgg4; have z2 := Tryz.sizeOf4; have v2 := Tryz.zeroValue4
  have q22 : ∀ (w : World) (a : Option Addr) (n c n' c' : Nat), (binOp .eql 52 (.slice a n c) (.slice none n' c')).run Tryz.prog w = .ok (.bool a.isNone) w := fun w a n c n' c' => Lib.run_eql_slice_nil w _ _ a n c n' c' t1
  have hinfo : (Tryz.prog.info? 37).map (fun i => (i.zero, i.size, i.bytes)) = some (some (.agg #[.int .i64 0, .string ByteArray.empty, .int .i64 0, .int .i64 0, .string ByteArray.empty, .slice none 0 0]), 6, 80) := by kernel_rfl
  obtain ⟨i0, hi, hz0, hz1, hz2⟩ := info_parts hinfo
  have u22 : ∀ w, Sem.run Tryz.prog (underlying 52) w = .ok (TypeDesc.slice 37) w := run_underlying t1
  have A : Aside (∀ (j : Nat) z, zs[j]? = some z → w.cell? ⟨b, off + j, none⟩ = some z) := hc
  clear hc
  go_enter Tryz.func80, Tryz.ntmps80
  go_wp2_with (at_builtin; refine wpList_append_own _ rfl _ _ 52 rfl w.heap.size 37 i0 (.agg #[.int .i64 0, .string ByteArray.empty, .int .i64 0, .int .i64 0, .string ByteArray.empty, .slice none 0 0]) 6 80 t1 hi hz0 hz1 hz2 rfl (by decide) _ _ _ rfl (World.ownsRow_made w #[] 0 (Nat.le_refl _) (Nat.zero_le _) rfl) ⟨b, off, none⟩ n c zs rfl ?qc1 ?qc2 ?qc3 ?qc4 ?qc5 ?qc6 ?_)
  case qc1 => exact hl
  case qc2 =>
    intro j u hj
    rw [Addr.add_lit]
    exact Lib.cell?_alloc_some _ (A.out j u hj)
  case qc3 => intro u hu; exact hsc u hu
  case qc4 => omega
  case qc5 => omega
  case qc6 => simp
  intro v' w1 hown hgrow hnil
  go_wp2
  go_ret
  refine ⟨v', rfl, by simpa using hown, ?_⟩
  exact ((Below.refl _ w).alloc (Nat.le_refl _) _).grown hgrow (by simp) (by intro k hk; simp [Value.ownBlock] at hk; omega)

theorem ok_cli : FnOK1 told Tryz.prog 81 (cloneV 8) := fnOK1_cloneV (e_ := 3) cli_nil cli_zero cli_some
theorem ok_clArg : FnOK1 told Tryz.prog 77 (cloneF 5 64) := fnOK1_cloneF (e_ := 68) clArg_nil clArg_zero clArg_some
theorem ok_clStmt : FnOK1 told Tryz.prog 80 (cloneF 6 80) := fnOK1_cloneF (e_ := 37) clStmt_nil clStmt_zero clStmt_some
theorem ok_itoa : FnOK1 told Tryz.prog 93 itoaX := by
  refine fnOK1_itoa fun n Z w h0 h1 hT => ?_
  refine (Tryz.strconv_Itoa n h0 h1 w hT.1.1.2.2.1).mono ?_
  rintro e w' ⟨rfl, k, os, rfl⟩
  exact ⟨rfl, Lib.below_grow _ _ (Nat.le_refl _) _ _⟩
theorem ok_fields : FnOK1 told Tryz.prog 145 fieldsX := fnOK1_fields fun s Z w h1 h2 hT => Tryz.strings_Fields_laid s w h1 h2 hT.1.2.2.2.1
theorem ok_contains : FnOK1 told Tryz.prog 177 containsX := fnOK1_contains fun s t Z w h1 hT => by
  obtain ⟨_, m, hm⟩ := hT.2
  exact Tryz.strings_Contains s t m w h1 hm
theorem ok_join : FnOK1 told Tryz.prog 69 joinX := fnOK1_join (fun a c sep w => Tryz.strings_Join_none a c sep w) (fun bk o c xs sep w h1 h2 h3 h4 h5 => Tryz.strings_Join bk o c xs sep w h1 h2 h3 h4 h5)
theorem ok_indexByte : FnOK1 told Tryz.prog 70 indexByteX := fnOK1_indexByte fun s c w => Tryz.strings_IndexByte s c w
theorem ok_split : FnOK1 told Tryz.prog 79 splitX := fnOK1_split fun s sep Z w h1 h2 hT => by
  obtain ⟨_, m, hm⟩ := hT.2
  exact Tryz.strings_Split s sep m w h1 hm h2
theorem ok_trim : FnOK1 told Tryz.prog 74 trimX := fnOK1_trim fun s w hs => Any.strings_Trim_laid Tryz.lays160 (by kernel_rfl) s ⟨#[32, 9]⟩ w hs (by decide) (ascii_of_all (by decide))
theorem ok_atoi : FnOK1 told Tryz.prog 241 atoiX := fnOK1_atoi fun s n w hs hn => by
  refine (Tryz.strconv_Atoi s n hs hn w).mono ?_
  rintro e w' ⟨rfl, t, rfl⟩
  exact ⟨rfl, Go.Joins.below_bytesWorld _ _ _ _ (Nat.le_refl _)⟩
theorem ext_ok0 (f : FuncId) (x : List AV → Heap → Option (AV × Heap)) (h : G0.ext f = some x) : FnOK1 told Tryz.prog f x := by
  have h' : Go.Ab.get f extT0 = some x := h
  simp only [extT0, Go.Ab.get] at h'
  repeat' split at h'
  all_goals first
    | cases h'; done
    | (rename_i e; subst e; cases h'; first | exact ok_cli | exact ok_clArg | exact ok_clStmt | exact ok_itoa | exact ok_fields | exact ok_contains | exact ok_join | exact ok_indexByte | exact ok_split | exact ok_trim | exact ok_atoi)
theorem ok_known : FnOK1 told Tryz.prog 23 knownX := fnOK1_known (eval_ok (T := told) (by kernel_rfl) ext_ok0 2000) Qog
theorem ext_ok (f : FuncId) (x : List AV → Heap → Option (AV × Heap)) (h : G.ext f = some x) : FnOK1 told Tryz.prog f x := by
  have h' : Go.Ab.get f extT = some x := h
  simp only [extT, Go.Ab.get] at h'
  repeat' split at h'
  all_goals first
    | cases h'; done
    | (rename_i e; subst e; cases h'; first | exact ok_known | exact ok_cli | exact ok_clArg | exact ok_clStmt | exact ok_itoa | exact ok_fields | exact ok_contains | exact ok_join | exact ok_indexByte | exact ok_split | exact ok_trim | exact ok_atoi)
end Go.Proofs.YtblfhkldljfhiaaGreatDoor
namespace Go.Ab
def ba (l : List UInt8) : ByteArray := ⟨l.toArray⟩
theorem bl_ba (l : List UInt8) : bl (ba l) = l := by simp [bl, ba]
theorem ba_bl (s : ByteArray) : ba (bl s) = s := by cases s; simp [bl, ba]
theorem ba_size (l : List UInt8) : (ba l).size = l.length := by rw [bl_size, bl_ba]
theorem ba_inj {a b : List UInt8} (h : ba a = ba b) : a = b := by rw [← bl_ba a, ← bl_ba b, h]
theorem ba_extract (l : List UInt8) (i j : Nat) : (ba l).extract i j = ba ((l.take j).drop i) := by rw [← ba_bl ((ba l).extract i j), bl_extract, bl_ba]
theorem ba_append (a b : List UInt8) : ba a ++ ba b = ba (a ++ b) := by rw [← ba_bl (ba a ++ ba b), bl_append, bl_ba, bl_ba]
theorem ba_getD (l : List UInt8) (i : Nat) (d : UInt8) : (ba l).data.getD i d = l.getD i d := by rw [bl_getD, bl_ba]
theorem eqS_ba (a b : List UInt8) : eqS (ba a) (ba b) = decide (a = b) := by rw [eqS_decide, bl_ba, bl_ba]
def isD (b : UInt8) : Bool := decide (48 ≤ b.toNat ∧ b.toNat ≤ 57)
def isS (b : UInt8) : Bool := decide (97 ≤ b.toNat ∧ b.toNat ≤ 122 ∨ b.toNat = 95)
def isI (b : UInt8) : Bool := isS b || isD b
def isH (b : UInt8) : Bool := isD b || decide (97 ≤ b.toNat ∧ b.toNat ≤ 102)
theorem takeWhile_at {p : UInt8 → Bool} : ∀ (s : List UInt8) (i : Nat) (hi : i ≤ s.length), (s.take i).all p = true → (∀ h : i < s.length, p s[i] = false) → s.takeWhile p = s.take i
  | s, 0, _, _, h => by
    cases s with
    | nil => rfl
    | cons b s => have := h (by simp); simp at this; simp [this]
  | [], i + 1, hi, _, _ => by simp at hi
  | b :: s, i + 1, hi, ha, h => by
    simp only [List.take_succ_cons, List.all_cons, Bool.and_eq_true] at ha
    simp only [List.take_succ_cons, List.takeWhile_cons, ha.1, if_true]
    rw [takeWhile_at s i (by simpa using hi) ha.2 (fun hl => h (by simp only [List.length_cons]; omega))]
theorem all_take_succ {p : UInt8 → Bool} {s : List UInt8} {i : Nat} (h : i < s.length) (ha : (s.take i).all p = true) (hp : p s[i] = true) : (s.take (i + 1)).all p = true := by
  rw [List.take_succ_eq_append_getElem h, List.all_append, ha]; simp [hp]
theorem i32_in {n : Int} (h1 : 0 ≤ n) (h2 : n ≤ 2147483647) : IntKind.i32.wrap n = n := by
  have e : n % 4294967296 = n := Int.emod_eq_of_lt h1 (by omega)
  unfold IntKind.wrap
  simp [IntKind.bits, IntKind.signed, e]
  omega
def wordB (w : List UInt8) : Bool := match w with
  | [] => false
  | c :: t => decide (t.length < 12) && (!isD c && (decide ((c :: t).takeWhile isI = c :: t) && (decide (c ≠ 114) || (decide (t = []) || !decide (t.takeWhile isD = t)))))
theorem tw_append {p : UInt8 → Bool} {a r : List UInt8} (ha : a.all p = true) (hr : ∀ c t, r = c :: t → p c = false) : (a ++ r).takeWhile p = a ∧ (a ++ r).dropWhile p = r := by
  induction a with
  | nil =>
    cases r with
    | nil => exact ⟨rfl, rfl⟩
    | cons c t => have := hr c t rfl; simp [List.takeWhile_cons, List.dropWhile_cons, this]
  | cons c a ih =>
    simp only [List.all_cons, Bool.and_eq_true] at ha
    obtain ⟨h1, h2⟩ := ih ha.2
    simp [List.takeWhile_cons, List.dropWhile_cons, ha.1, h1, h2]
theorem I_split (c : UInt8) : isI c = (isS c || isD c) := rfl
theorem S_not_D {c : UInt8} : isS c = (isI c && !isD c) := by
  rw [I_split]
  cases hd : isD c with
  | false => simp
  | true =>
    have : isS c = false := by
      unfold isD at hd; unfold isS
      have := of_decide_eq_true hd
      exact decide_eq_false (by omega)
    rw [this]; rfl
theorem all_tw_iff {p : UInt8 → Bool} {l : List UInt8} : decide (l.takeWhile p = l) = l.all p := by
  rw [Bool.eq_iff_iff, decide_eq_true_iff]
  constructor
  · intro e; rw [← e]; exact List.all_takeWhile
  · intro h
    have := (tw_append (r := []) h (fun c t e => by cases e)).1
    rwa [List.append_nil] at this
end Go.Ab
namespace Go.Ab
end Go.Ab
namespace Go.Ab
abbrev S0 : ByteArray := s_
inductive X3 where
  | num (n : Int)
  | nm (s : ByteArray)
  | here
  | neg (x : X3)
  | bin (k : Nat) (x y : X3)
namespace X3
def t : X3 → Qb
  | num n => ⟨1, n, S0, []⟩
  | nm s => ⟨2, 0, s, []⟩
  | here => ⟨3, 0, S0, []⟩
  | neg x => ⟨4, 0, S0, [x.t]⟩
  | bin k x y => ⟨k, 0, S0, [x.t, y.t]⟩
def d : X3 → Nat
  | neg x => x.d + 1
  | bin _ x y => max x.d y.d + 1
  | _ => 0
def ok (p : ByteArray → Prop) : X3 → Prop
  | num n => 0 ≤ n ∧ n < 4294967296
  | nm s => p s
  | here => True
  | neg x => x.ok p
  | bin k x y => 5 ≤ k ∧ k ≤ 11 ∧ x.ok p ∧ y.ok p
end X3
theorem eqS_ne {x y : ByteArray} (h : x ≠ y) : eqS x y = false := by rw [Bool.eq_false_iff]; exact fun e => h (eqS_iff.1 e)
end Go.Ab
namespace Go.Ab
end Go.Ab
namespace Go.Ab
theorem get!_eq (s : ByteArray) (i : Nat) (h : i < s.size) : s.get! i = (bl s)[i]'h := by
  simp only [ByteArray.get!, bl]
  have h' : i < s.data.size := h
  simp [getElem!_def, Array.getElem?_eq_getElem h']
theorem decode_lt (s : List UInt8) {i : Nat} (h : i < s.length) (hb : s[i].toNat < 128) : Utf8.decode (ba s) i = (s[i].toNat, 1) := by
  have hg : ((ba s).get! (i + 0)).toNat = s[i].toNat := by
    rw [Nat.add_zero, get!_eq _ _ (by rw [ba_size]; exact h)]; simp [bl_ba]
  unfold Utf8.decode
  simp only [hg]
  rw [if_pos hb]
theorem decode_ge (s : List UInt8) {i : Nat} (h : i < s.length) (hb : ¬ s[i].toNat < 128) : 128 ≤ (Utf8.decode (ba s) i).1 := by
  have hg : ((ba s).get! (i + 0)).toNat = s[i].toNat := by
    rw [Nat.add_zero, get!_eq _ _ (by rw [ba_size]; exact h)]; simp [bl_ba]
  unfold Utf8.decode
  simp only [hg]
  rw [if_neg hb]
  have he : Utf8.runeError = 65533 := rfl
  repeat' split
  all_goals simp_all
  all_goals omega
theorem expr_digit_eq (n : Nat) : Jo n = some (decide (48 ≤ n ∧ n ≤ 57)) := by
  rw [Jo.eq]; unfold Qb3
  have c1 : decide ((n : Int) ≥ 48) = decide (48 ≤ n) := decide_eq_decide.2 (by omega)
  have c2 : decide ((n : Int) ≤ 57) = decide (n ≤ 57) := decide_eq_decide.2 (by omega)
  rw [c1, c2, Bool.decide_and]
  cases decide (48 ≤ n) <;> rfl
theorem expr_small_eq (n : Nat) : WA n = some (decide (97 ≤ n ∧ n ≤ 122 ∨ n = 95)) := by
  rw [WA.eq]; unfold Qb7
  have c1 : decide ((n : Int) ≥ 97) = decide (97 ≤ n) := decide_eq_decide.2 (by omega)
  have c2 : decide ((n : Int) ≤ 122) = decide (n ≤ 122) := decide_eq_decide.2 (by omega)
  have c3 : (((n : Nat) : Int) == 95) = decide (n = 95) := by rw [Bool.eq_iff_iff, beq_iff_eq, decide_eq_true_iff]; omega
  rw [c1, c2, c3, Bool.decide_or, Bool.decide_and]
  cases decide (97 ≤ n) <;> cases decide (n ≤ 122) <;> rfl
theorem expr_inner_eq (n : Nat) : VY n = some (decide (97 ≤ n ∧ n ≤ 122 ∨ n = 95) || decide (48 ≤ n ∧ n ≤ 57)) := by
  rw [VY.eq]; unfold Ey
  rw [expr_small_eq, expr_digit_eq]
  simp only [Option.bind_some]
  cases decide (97 ≤ n ∧ n ≤ 122 ∨ n = 95) <;> rfl
theorem expr_hex_eq (n : Nat) : Xn n = some (decide (48 ≤ n ∧ n ≤ 57) || decide (97 ≤ n ∧ n ≤ 102)) := by
  rw [Xn.eq]; unfold PE
  have c1 : decide ((n : Int) ≥ 97) = decide (97 ≤ n) := decide_eq_decide.2 (by omega)
  have c2 : decide ((n : Int) ≤ 102) = decide (n ≤ 102) := decide_eq_decide.2 (by omega)
  rw [expr_digit_eq, c1, c2]
  simp only [Option.bind_some]
  rw [Bool.decide_and (97 ≤ n)]
  cases decide (48 ≤ n ∧ n ≤ 57) <;> cases decide (97 ≤ n) <;> rfl
theorem expr_as_eq (s : List UInt8) : Zt (ba s) = some (ba (s.takeWhile isH)) := by
  obtain ⟨r, h1, h2⟩ := loop_ind Wz.eq (fun a => ∃ i : Nat, i ≤ s.length ∧ a = ⟨ba s, ba s, i⟩ ∧ (s.take i).all isH = true) (fun _ r => r = .inl (ba (s.takeWhile isH)) ∨ r = .inr (ba (s.takeWhile isH))) (fun a => s.length - a.i0p) (by
    rintro a ⟨i, hi, rfl, ha⟩
    simp only [Ew, ba_size]
    by_cases h : i < s.length
    · have c1 : decide (i < s.length) = true := by simp [h]
      by_cases hb : s[i].toNat < 128
      · rw [decode_lt s h hb, c1, cond_true]
        simp only [expr_hex_eq, Option.bind_some]
        have hp : isH s[i] = (decide (48 ≤ s[i].toNat ∧ s[i].toNat ≤ 57) || decide (97 ≤ s[i].toNat ∧ s[i].toNat ≤ 102)) := by simp [isH, isS, isD, isI]
        rw [← hp]
        cases hq : isH s[i] with
        | true => exact .inl ⟨⟨ba s, ba s, i + 1⟩, rfl, ⟨i + 1, by omega, rfl, all_take_succ h ha hq⟩, by simp only; omega, fun r hr => hr⟩
        | false =>
          refine .inr ⟨_, ?_, .inl rfl⟩
          rw [takeWhile_at s i hi ha (fun _ => hq)]
          have c2 : decide (0 ≤ (0 : Int) ∧ (0 : Int) ≤ ((i : Nat) : Int) ∧ ((i : Nat) : Int) ≤ ((s.length : Nat) : Int)) = true := by simp; omega
          simp only [Bool.not_false, cond_true, c2, Int.toNat_natCast, Int.toNat_zero, ba_extract, List.drop_zero]
      · have hd := decode_ge s h hb
        have hq : isH s[i] = false := by simp [isH, isS, isD, isI]; omega
        rw [c1, cond_true]
        simp only [expr_hex_eq, Option.bind_some]
        generalize (Utf8.decode (ba s) i).1 = r at hd
        have hp : (decide (48 ≤ r ∧ r ≤ 57) || decide (97 ≤ r ∧ r ≤ 102)) = false := by simp; omega
        rw [hp]
        refine .inr ⟨_, ?_, .inl rfl⟩
        rw [takeWhile_at s i hi ha (fun _ => hq)]
        have c2 : decide (0 ≤ (0 : Int) ∧ (0 : Int) ≤ ((i : Nat) : Int) ∧ ((i : Nat) : Int) ≤ ((s.length : Nat) : Int)) = true := by simp; omega
        simp only [Bool.not_false, cond_true, c2, Int.toNat_natCast, Int.toNat_zero, ba_extract, List.drop_zero]
    · have c1 : decide (i < s.length) = false := by simp; omega
      refine .inr ⟨_, by rw [c1]; rfl, .inr ?_⟩
      rw [takeWhile_at s i hi ha (fun h' => absurd h' h), List.take_of_length_le (by omega)]) ⟨ba s, ba s, 0⟩ ⟨0, by omega, rfl, by simp⟩
  rw [Zt.eq]; unfold SM
  rw [h1]
  rcases h2 with rfl | rfl <;> rfl
theorem expr_as_2_eq (s : List UInt8) : UA (ba s) = some (ba (s.takeWhile isI)) := by
  obtain ⟨r, h1, h2⟩ := loop_ind VE.eq (fun a => ∃ i : Nat, i ≤ s.length ∧ a = ⟨ba s, ba s, i⟩ ∧ (s.take i).all isI = true) (fun _ r => r = .inl (ba (s.takeWhile isI)) ∨ r = .inr (ba (s.takeWhile isI))) (fun a => s.length - a.i0p) (by
    rintro a ⟨i, hi, rfl, ha⟩
    simp only [ZU, ba_size]
    by_cases h : i < s.length
    · have c1 : decide (i < s.length) = true := by simp [h]
      by_cases hb : s[i].toNat < 128
      · rw [decode_lt s h hb, c1, cond_true]
        simp only [expr_inner_eq, Option.bind_some]
        have hp : isI s[i] = (decide (97 ≤ s[i].toNat ∧ s[i].toNat ≤ 122 ∨ s[i].toNat = 95) || decide (48 ≤ s[i].toNat ∧ s[i].toNat ≤ 57)) := by simp [isI, isS, isD, isI]
        rw [← hp]
        cases hq : isI s[i] with
        | true => exact .inl ⟨⟨ba s, ba s, i + 1⟩, rfl, ⟨i + 1, by omega, rfl, all_take_succ h ha hq⟩, by simp only; omega, fun r hr => hr⟩
        | false =>
          refine .inr ⟨_, ?_, .inl rfl⟩
          rw [takeWhile_at s i hi ha (fun _ => hq)]
          have c2 : decide (0 ≤ (0 : Int) ∧ (0 : Int) ≤ ((i : Nat) : Int) ∧ ((i : Nat) : Int) ≤ ((s.length : Nat) : Int)) = true := by simp; omega
          simp only [Bool.not_false, cond_true, c2, Int.toNat_natCast, Int.toNat_zero, ba_extract, List.drop_zero]
      · have hd := decode_ge s h hb
        have hq : isI s[i] = false := by simp [isI, isS, isD, isI]; omega
        rw [c1, cond_true]
        simp only [expr_inner_eq, Option.bind_some]
        generalize (Utf8.decode (ba s) i).1 = r at hd
        have hp : (decide (97 ≤ r ∧ r ≤ 122 ∨ r = 95) || decide (48 ≤ r ∧ r ≤ 57)) = false := by simp; omega
        rw [hp]
        refine .inr ⟨_, ?_, .inl rfl⟩
        rw [takeWhile_at s i hi ha (fun _ => hq)]
        have c2 : decide (0 ≤ (0 : Int) ∧ (0 : Int) ≤ ((i : Nat) : Int) ∧ ((i : Nat) : Int) ≤ ((s.length : Nat) : Int)) = true := by simp; omega
        simp only [Bool.not_false, cond_true, c2, Int.toNat_natCast, Int.toNat_zero, ba_extract, List.drop_zero]
    · have c1 : decide (i < s.length) = false := by simp; omega
      refine .inr ⟨_, by rw [c1]; rfl, .inr ?_⟩
      rw [takeWhile_at s i hi ha (fun h' => absurd h' h), List.take_of_length_le (by omega)]) ⟨ba s, ba s, 0⟩ ⟨0, by omega, rfl, by simp⟩
  rw [UA.eq]; unfold FJ
  rw [h1]
  rcases h2 with rfl | rfl <;> rfl
theorem expr_as_3_eq (s : List UInt8) : VD (ba s) = some (ba (s.takeWhile isD)) := by
  obtain ⟨r, h1, h2⟩ := loop_ind VF.eq (fun a => ∃ i : Nat, i ≤ s.length ∧ a = ⟨ba s, ba s, i⟩ ∧ (s.take i).all isD = true) (fun _ r => r = .inl (ba (s.takeWhile isD)) ∨ r = .inr (ba (s.takeWhile isD))) (fun a => s.length - a.i0p) (by
    rintro a ⟨i, hi, rfl, ha⟩
    simp only [ZV, ba_size]
    by_cases h : i < s.length
    · have c1 : decide (i < s.length) = true := by simp [h]
      by_cases hb : s[i].toNat < 128
      · rw [decode_lt s h hb, c1, cond_true]
        simp only [expr_digit_eq, Option.bind_some]
        have hp : isD s[i] = decide (48 ≤ s[i].toNat ∧ s[i].toNat ≤ 57) := by simp [isD, isS, isD, isI]
        rw [← hp]
        cases hq : isD s[i] with
        | true => exact .inl ⟨⟨ba s, ba s, i + 1⟩, rfl, ⟨i + 1, by omega, rfl, all_take_succ h ha hq⟩, by simp only; omega, fun r hr => hr⟩
        | false =>
          refine .inr ⟨_, ?_, .inl rfl⟩
          rw [takeWhile_at s i hi ha (fun _ => hq)]
          have c2 : decide (0 ≤ (0 : Int) ∧ (0 : Int) ≤ ((i : Nat) : Int) ∧ ((i : Nat) : Int) ≤ ((s.length : Nat) : Int)) = true := by simp; omega
          simp only [Bool.not_false, cond_true, c2, Int.toNat_natCast, Int.toNat_zero, ba_extract, List.drop_zero]
      · have hd := decode_ge s h hb
        have hq : isD s[i] = false := by simp [isD, isS, isD, isI]; omega
        rw [c1, cond_true]
        simp only [expr_digit_eq, Option.bind_some]
        generalize (Utf8.decode (ba s) i).1 = r at hd
        have hp : (decide (48 ≤ r ∧ r ≤ 57)) = false := by simp; omega
        rw [hp]
        refine .inr ⟨_, ?_, .inl rfl⟩
        rw [takeWhile_at s i hi ha (fun _ => hq)]
        have c2 : decide (0 ≤ (0 : Int) ∧ (0 : Int) ≤ ((i : Nat) : Int) ∧ ((i : Nat) : Int) ≤ ((s.length : Nat) : Int)) = true := by simp; omega
        simp only [Bool.not_false, cond_true, c2, Int.toNat_natCast, Int.toNat_zero, ba_extract, List.drop_zero]
    · have c1 : decide (i < s.length) = false := by simp; omega
      refine .inr ⟨_, by rw [c1]; rfl, .inr ?_⟩
      rw [takeWhile_at s i hi ha (fun h' => absurd h' h), List.take_of_length_le (by omega)]) ⟨ba s, ba s, 0⟩ ⟨0, by omega, rfl, by simp⟩
  rw [VD.eq]; unfold FL
  rw [h1]
  rcases h2 with rfl | rfl <;> rfl
end Go.Ab
namespace Go.Ab
def dropB (s : List UInt8) : List UInt8 := s.dropWhile (· == 32)
theorem dropB_idem (s : List UInt8) : dropB (dropB s) = dropB s := by
  unfold dropB
  induction s with
  | nil => rfl
  | cons b s ih =>
    by_cases h : b = 32
    · simp [List.dropWhile_cons, h, ih]
    · simp [List.dropWhile_cons, h]
theorem dropB_le (s : List UInt8) : (dropB s).length ≤ s.length := by unfold dropB; exact (List.dropWhile_sublist _).length_le
abbrev PS (s : List UInt8) (d : Int) (b : Bool) : Qa := ⟨ba s, d, b⟩
theorem trimLeft_eq (s : List UInt8) : Us (ba s) = some (ba (dropB s)) := by
  have loop : ∀ s : List UInt8, QZ ⟨ba s, 32⟩ = some (ba (dropB s)) := by
    intro s
    induction s with
    | nil => rw [QZ.eq]; rfl
    | cons b s ih =>
      rw [QZ.eq]; unfold Y2
      have c1 : decide (((b :: s).length : Int) > 0) = true := by simp only [List.length_cons, decide_eq_true_eq]; omega
      have c2 : decide (0 ≤ (0 : Int) ∧ (0 : Int) < ((b :: s).length : Int)) = true := by simp only [List.length_cons, decide_eq_true_eq]; omega
      have c4 : decide (0 ≤ (1 : Int) ∧ (1 : Int) ≤ (((b :: s).length : Nat) : Int) ∧ (((b :: s).length : Nat) : Int) ≤ (((b :: s).length : Nat) : Int)) = true := by simp only [List.length_cons, decide_eq_true_eq]; omega
      simp only [ba_size, c1, c2, cond_true, ba_getD]
      by_cases h : b = 32
      · have c3 : ((((b :: s).getD (Int.toNat 0) 0).toNat : Int) == 32) = true := by subst h; rfl
        rw [c3, cond_true, c4, cond_true]
        simp only [Option.bind_some, Sum.elim_inl, ba_extract, Int.toNat_natCast]
        rw [show List.drop (Int.toNat 1) (List.take (b :: s).length (b :: s)) = s from by rw [List.take_length]; rfl, ih]
        simp [dropB, List.dropWhile_cons, h]
      · have c3 : ((((b :: s).getD (Int.toNat 0) 0).toNat : Int) == 32) = false := by
          rw [beq_eq_false_iff_ne]
          intro e
          apply h
          have e : (b.toNat : Int) = 32 := e
          exact UInt8.toNat_inj.1 (by have : (32 : UInt8).toNat = 32 := rfl; omega)
        rw [c3, cond_false]
        simp only [Option.bind_some, Sum.elim_inr]
        simp [dropB, List.dropWhile_cons, h]
  rw [Us.eq]; unfold XH
  by_cases h : s = []
  · subst h; have : eqS (ba []) s_ = true := eqS_iff.2 rfl
    rw [this]; rfl
  · have : eqS (ba s) s_ = false := by
      rw [show s_ = ba [] from rfl, eqS_ba]; simp [h]
    rw [this, cond_false, JZ.eq]; unfold Wj
    rw [loop s]; rfl
theorem blanks_eq (s : List UInt8) (d : Int) (b : Bool) : Q4 (PS s d b) = some (PS (dropB s) d b) := by
  rw [Q4.eq]; unfold WY
  simp only [trimLeft_eq, Option.bind_some]
def pre (a s : List UInt8) : Bool := decide (s.take a.length = a)
theorem hasPrefix_eq (s a : List UInt8) : Ud (ba s) (ba a) = some (pre a s) := by
  rw [Ud.eq]; unfold Wt
  rw [QT.eq]; unfold ZD
  simp only [ba_size, ba_extract, eqS_ba, Int.toNat_natCast]
  by_cases h : a.length ≤ s.length
  · have c1 : decide ((s.length : Int) ≥ (a.length : Int)) = true := by simp; omega
    have c2 : decide (0 ≤ (0 : Int) ∧ (0 : Int) ≤ (a.length : Int) ∧ (a.length : Int) ≤ (s.length : Int)) = true := by simp; omega
    rw [c1, cond_true, c2, cond_true]; rfl
  · have c1 : decide ((s.length : Int) ≥ (a.length : Int)) = false := by simp; omega
    rw [c1, cond_false]
    simp only [Option.bind_some, pre]
    rw [decide_eq_false]
    intro e
    have := congrArg List.length e
    simp at this; omega
theorem hasPrefix2_eq (s : List UInt8) : JS (ba s) = some (pre [48, 120] s) := by
  rw [JS.eq]; unfold WG
  have h := hasPrefix_eq s [48, 120]
  rw [Ud.eq] at h; unfold Wt at h
  exact h
theorem pre_len {a s : List UInt8} (h : pre a s = true) : a.length ≤ s.length ∧ s = a ++ s.drop a.length := by
  have e : s.take a.length = a := of_decide_eq_true h
  refine ⟨?_, ?_⟩
  · have := congrArg List.length e; simp at this; omega
  · conv => lhs; rw [← List.take_append_drop a.length s, e]
theorem take_eq (a s : List UInt8) (d : Int) (b : Bool) : QH (ba a) (PS s d b) = some (bif b then (false, PS (dropB s) d b) else bif pre a (dropB s) then (true, PS ((dropB s).drop a.length) d b) else (false, PS (dropB s) d b)) := by
  rw [QH.eq]; unfold XJ
  simp only [blanks_eq, Option.bind_some]
  cases b with
  | true => rfl
  | false =>
    simp only [cond_false, hasPrefix_eq, Option.bind_some]
    cases h : pre a (dropB s) with
    | false => rfl
    | true =>
      obtain ⟨h1, h2⟩ := pre_len h
      simp only [Bool.not_true, cond_false, ba_size, ba_extract, Int.toNat_natCast, cond_true]
      have c2 : decide (0 ≤ (a.length : Int) ∧ (a.length : Int) ≤ ((dropB s).length : Int) ∧ ((dropB s).length : Int) ≤ ((dropB s).length : Int)) = true := by simp; omega
      rw [c2, cond_true, List.take_length]
def sg (k : Nat) : List UInt8 := match k with
  | 5 => [43] | 6 => [45] | 7 => [42] | 8 => [38] | 9 => [124] | 10 => [60, 60] | 11 => [62, 62] | _ => []
theorem signs_eq : VZ = some [s_, s_, s_, h_2e, h_2d, ba (sg 5), ba (sg 6), ba (sg 7), ba (sg 8), ba (sg 9), ba (sg 10), ba (sg 11)] := by rw [VZ.eq]; rfl
theorem signs_at {k : Nat} (h : 5 ≤ k ∧ k ≤ 11) : [s_, s_, s_, h_2e, h_2d, ba (sg 5), ba (sg 6), ba (sg 7), ba (sg 8), ba (sg 9), ba (sg 10), ba (sg 11)][k]? = some (ba (sg k)) := by
  have : k = 5 ∨ k = 6 ∨ k = 7 ∨ k = 8 ∨ k = 9 ∨ k = 10 ∨ k = 11 := by omega
  rcases this with rfl | rfl | rfl | rfl | rfl | rfl | rfl <;> rfl
def lv (l : Nat) : List Nat := match l with
  | 0 => [9] | 1 => [8] | 2 => [10, 11] | 3 => [5, 6] | _ => [7]
theorem lv_ok {l k : Nat} (h : k ∈ lv l) : 5 ≤ k ∧ k ≤ 11 := by
  unfold lv at h; split at h <;> simp at h <;> omega
def kindS (ks : List Nat) (t : List UInt8) : Option Nat := ks.find? fun k => pre (sg k) t
theorem kind_eq (ks : List Nat) (hk : ∀ k ∈ ks, 5 ≤ k ∧ k ≤ 11) (hne : ks ≠ []) (hl : ks.length ≤ 1000) (s : List UInt8) (d : Int) (b : Bool) : QN (ks.map fun k : Nat => (k : Int)) (PS s d b) =
    some (bif b then (0, PS (dropB s) d b) else match kindS ks (dropB s) with | some k => ((k : Int), PS ((dropB s).drop (sg k).length) d b) | none => (0, PS (dropB s) d b)) := by
  obtain ⟨r, h1, h2⟩ := loop_ind JU.eq
    (fun a => ∃ i : Nat, ∃ s' : List UInt8, i ≤ ks.length ∧ dropB s' = dropB s ∧ (i = ks.length → s' = dropB s) ∧ a = ⟨ks.map fun k : Nat => (k : Int), ks.length, i, PS s' d b⟩ ∧ (b = false → kindS (ks.drop i) (dropB s) = kindS ks (dropB s)))
    (fun _ r => r = bif b then .inr (PS (dropB s) d b) else match kindS ks (dropB s) with | some k => .inl ⟨(k : Int), PS ((dropB s).drop (sg k).length) d b⟩ | none => .inr (PS (dropB s) d b)) (fun a => ks.length - a.x9.toNat) (by
    rintro a ⟨i, s', hi, hs, hend, rfl, hq⟩
    simp only [WH, Int.toNat_natCast]
    by_cases h : i < ks.length
    · have c1 : decide ((i : Int) < (ks.length : Int)) = true := by simp; omega
      have hd : ks.drop i = ks[i] :: ks.drop (i + 1) := List.drop_eq_getElem_cons h
      have hki := hk ks[i] (List.getElem_mem h)
      rw [c1, cond_true, List.getElem?_map, List.getElem?_eq_getElem h]
      simp only [Int.natCast_nonneg, decide_true, cond_true, Option.map_some, Option.bind_some, signs_eq, Int.toNat_natCast, signs_at hki, take_eq, hs]
      cases b with
      | true =>
        refine .inl ⟨⟨ks.map fun k : Nat => (k : Int), ks.length, (i + 1 : Nat), PS (dropB s) d true⟩, ?_, ⟨i + 1, dropB s, by omega, dropB_idem s, fun _ => rfl, rfl, fun e => by cases e⟩, by simp only [Int.toNat_natCast]; omega, fun r hr => hr⟩
        simp only [cond_true, cond_false]
        rw [w64_in (n := (i : Int) + 1) (by omega) (by omega)]; rfl
      | false =>
        simp only [cond_false]
        have hq := hq rfl
        cases hp : pre (sg ks[i]) (dropB s) with
        | true =>
          have : kindS ks (dropB s) = some ks[i] := by rw [← hq, hd]; simp only [kindS, List.find?_cons, hp]
          refine .inr ⟨_, rfl, ?_⟩
          rw [this]; rfl
        | false =>
          refine .inl ⟨⟨ks.map fun k : Nat => (k : Int), ks.length, (i + 1 : Nat), PS (dropB s) d false⟩, ?_, ⟨i + 1, dropB s, by omega, dropB_idem s, fun _ => rfl, rfl, fun _ => ?_⟩, by simp only [Int.toNat_natCast]; omega, fun r hr => hr⟩
          · simp only [cond_false]
            rw [w64_in (n := (i : Int) + 1) (by omega) (by omega)]; rfl
          · rw [← hq, hd]; simp only [kindS, List.find?_cons, hp]
    · have c1 : decide ((i : Int) < (ks.length : Int)) = false := by simp; omega
      have he := hend (by omega)
      subst he
      refine .inr ⟨_, by rw [c1]; rfl, ?_⟩
      cases b with
      | true => rfl
      | false =>
        have hq := hq rfl
        rw [List.drop_eq_nil_of_le (by omega)] at hq
        rw [← hq]; rfl)
    ⟨ks.map fun k : Nat => (k : Int), ks.length, 0, PS s d b⟩ ⟨0, s, by omega, rfl, fun e => by cases ks with | nil => exact absurd rfl hne | cons => simp at e, rfl, fun _ => rfl⟩
  rw [QN.eq]; unfold XL
  rw [List.length_map, h1, h2]
  cases b with
  | true => rfl
  | false =>
    simp only [cond_false]
    cases kindS ks (dropB s) <;> rfl
end Go.Ab
namespace Go.Ab
abbrev E0 : Qb := ⟨0, 0, s_, []⟩
def dg (b : UInt8) : Nat := if 97 ≤ b.toNat then b.toNat - 97 + 10 else b.toNat - 48
def numv (base : Nat) : List UInt8 → Nat → Option Nat
  | [], n => some n
  | b :: l, n => if n * base + dg b ≥ 4294967296 then none else numv base l (n * base + dg b)
theorem dg_lt {b : UInt8} (h : isH b = true) : dg b < 16 := by
  unfold isH isD at h; unfold dg
  simp only [Bool.or_eq_true, decide_eq_true_eq] at h
  split <;> omega
theorem fail_eq (s : List UInt8) (d : Int) (b : Bool) : Qk (PS s d b) = some (E0, PS s d true) := by rw [Qk.eq]; rfl
theorem number_eq (ds r : List UInt8) (hds : ds.all isH = true) (base : Nat) (hb : base ≤ 16) (d : Int) (b : Bool) : JA (ba ds) base (PS (ds ++ r) d b) =
    some (match numv base ds 0 with | some n => (⟨1, n, s_, []⟩, PS r d b) | none => (E0, PS (ds ++ r) d true)) := by
  obtain ⟨x, h1, h2⟩ := loop_ind Jt.eq
    (fun a => ∃ i n : Nat, i ≤ ds.length ∧ n < 4294967296 ∧ a = ⟨ba ds, base, n, PS (ds ++ r) d b, E0, ba ds, i⟩ ∧ numv base (ds.drop i) n = numv base ds 0)
    (fun _ x => match numv base ds 0 with | some n => x = .inr ⟨ba ds, n, PS (ds ++ r) d b, E0⟩ | none => x = .inl ⟨PS (ds ++ r) d true, E0⟩)
    (fun a => ds.length - a.i2p) (by
    rintro a ⟨i, n, hi, hn, rfl, hq⟩
    simp only [Wa, ba_size]
    by_cases h : i < ds.length
    · have c1 : decide (i < ds.length) = true := decide_eq_true h
      have hH : isH ds[i] = true := List.all_eq_true.1 hds _ (List.getElem_mem h)
      have hH2 := hH
      unfold isH isD at hH2
      simp only [Bool.or_eq_true, decide_eq_true_eq] at hH2
      have hdg := dg_lt hH
      have hd : ds.drop i = ds[i] :: ds.drop (i + 1) := List.drop_eq_getElem_cons h
      rw [hd] at hq
      simp only [numv] at hq
      rw [c1, cond_true, decode_lt ds h (by omega)]
      simp only [fail_eq, Option.bind_some]
      have hmul : n * base ≤ 4294967296 * 16 := Nat.mul_le_mul (by omega) hb
      have em : w64 ((n : Int) * (base : Int)) = ((n * base : Nat) : Int) := by rw [← Int.natCast_mul]; exact w64_in (by omega) (by omega)
      have key : ∀ x : Int, x = (dg ds[i] : Int) → w64 (w64 ((n : Int) * (base : Int)) + w64 x) = ((n * base + dg ds[i] : Nat) : Int) := by
        intro x hx
        rw [em, hx, w64_in (n := (dg ds[i] : Int)) (by omega) (by omega), w64_in (by omega) (by omega)]; omega
      by_cases h97 : 97 ≤ ds[i].toNat
      · have c2 : decide ((ds[i].toNat : Int) ≥ 97) = true := decide_eq_true (by omega)
        have hdv : dg ds[i] = ds[i].toNat - 97 + 10 := by unfold dg; rw [if_pos h97]
        have e1 : w64 (IntKind.i32.wrap ((ds[i].toNat : Int) - 97)) + 10 = (dg ds[i] : Int) := by
          rw [i32_in (by omega) (by omega), w64_in (by omega) (by omega)]; omega
        rw [c2, cond_true, key _ e1]
        by_cases hbig : n * base + dg ds[i] ≥ 4294967296
        · rw [if_pos hbig] at hq
          have c3 : decide (((n * base + dg ds[i] : Nat) : Int) ≥ 4294967296) = true := decide_eq_true (by omega)
          rw [c3, cond_true]
          exact .inr ⟨_, rfl, by rw [← hq]⟩
        · rw [if_neg hbig] at hq
          have c3 : decide (((n * base + dg ds[i] : Nat) : Int) ≥ 4294967296) = false := decide_eq_false (by omega)
          rw [c3, cond_false]
          exact .inl ⟨_, rfl, ⟨i + 1, _, by omega, by omega, rfl, hq⟩, by simp only; omega, fun x hx => hx⟩
      · have c2 : decide ((ds[i].toNat : Int) ≥ 97) = false := decide_eq_false (by omega)
        have hdv : dg ds[i] = ds[i].toNat - 48 := by unfold dg; rw [if_neg h97]
        have e1 : IntKind.i32.wrap ((ds[i].toNat : Int) - 48) = (dg ds[i] : Int) := by
          rw [i32_in (by omega) (by omega)]; omega
        rw [c2, cond_false, key _ e1]
        by_cases hbig : n * base + dg ds[i] ≥ 4294967296
        · rw [if_pos hbig] at hq
          have c3 : decide (((n * base + dg ds[i] : Nat) : Int) ≥ 4294967296) = true := decide_eq_true (by omega)
          rw [c3, cond_true]
          exact .inr ⟨_, rfl, by rw [← hq]⟩
        · rw [if_neg hbig] at hq
          have c3 : decide (((n * base + dg ds[i] : Nat) : Int) ≥ 4294967296) = false := decide_eq_false (by omega)
          rw [c3, cond_false]
          exact .inl ⟨_, rfl, ⟨i + 1, _, by omega, by omega, rfl, hq⟩, by simp only; omega, fun x hx => hx⟩
    · have c1 : decide (i < ds.length) = false := decide_eq_false h
      rw [List.drop_eq_nil_of_le (by omega)] at hq
      refine .inr ⟨_, by rw [c1]; rfl, ?_⟩
      rw [← hq]; rfl) ⟨ba ds, base, 0, PS (ds ++ r) d b, E0, ba ds, 0⟩ ⟨0, 0, by omega, by omega, rfl, rfl⟩
  rw [JA.eq]; unfold W1
  rw [h1]
  cases hv : numv base ds 0 with
  | none => rw [hv] at h2; simp only at h2; subst h2; rfl
  | some n =>
    rw [hv] at h2; simp only at h2; subst h2
    simp only [Option.bind_some, Sum.elim_inr, ba_size, ba_extract, Int.toNat_natCast, List.length_append]
    have c2 : decide (0 ≤ (ds.length : Int) ∧ (ds.length : Int) ≤ ((ds.length + r.length : Nat) : Int) ∧ ((ds.length + r.length : Nat) : Int) ≤ ((ds.length + r.length : Nat) : Int)) = true := decide_eq_true (by omega)
    rw [c2, cond_true, List.take_of_length_le (by simp), List.drop_left]
theorem apart_eq (x : Qb) (s : List UInt8) (d : Int) (b : Bool) : JT x (PS s d b) = some (if s.takeWhile isI = [] then (x, PS s d b) else (E0, PS s d true)) := by
  rw [JT.eq]; unfold Xq
  simp only [expr_as_2_eq, Option.bind_some, fail_eq]
  rw [show s_ = ba [] from rfl, eqS_ba]
  by_cases h : s.takeWhile isI = []
  · rw [if_pos h]; simp [h]
  · rw [if_neg h]; simp [h]
theorem word_eq (w : List UInt8) : Xi (ba w) = some (wordB w) := by
  rw [Xi.eq]; unfold FM
  rw [show s_ = ba [] from rfl, eqS_ba]
  cases w with
  | nil => rfl
  | cons c t =>
    simp only [ba_size, ba_getD, expr_as_2_eq, ba_extract, expr_as_3_eq, Option.bind_some, eqS_ba]
    have c0 : decide (c :: t = []) = false := by simp
    have c2 : decide (0 ≤ (0 : Int) ∧ (0 : Int) < (((c :: t).length : Nat) : Int)) = true := decide_eq_true (by simp only [List.length_cons]; omega)
    have c3 : decide (0 ≤ (1 : Int) ∧ (1 : Int) ≤ (((c :: t).length : Nat) : Int) ∧ (((c :: t).length : Nat) : Int) ≤ (((c :: t).length : Nat) : Int)) = true := decide_eq_true (by simp only [List.length_cons]; omega)
    have c4 : IntKind.i32.wrap (((((c :: t).getD (Int.toNat 0) 0).toNat : Nat) : Int)) = (c.toNat : Int) := by
      show IntKind.i32.wrap (c.toNat : Int) = _
      exact i32_in (by omega) (by have := c.toNat_lt; omega)
    have e1 : ((c :: t).take (Int.toNat (((c :: t).length : Nat) : Int))).drop (Int.toNat 1) = t := by rw [Int.toNat_natCast, List.take_length]; rfl
    rw [c0, cond_false, c2, cond_true, c4, expr_digit_eq, c3, e1]
    simp only [Option.bind_some, eqS_ba, cond_true]
    have c1 : decide ((((c :: t).length : Nat) : Int) > 12) = !decide (t.length < 12) := by
      by_cases h : t.length < 12
      · rw [decide_eq_true h, decide_eq_false (by simp only [List.length_cons]; omega)]; rfl
      · rw [decide_eq_false h, decide_eq_true (by simp only [List.length_cons]; omega)]; rfl
    have c5 : ((((c :: t).getD (Int.toNat 0) 0).toNat : Int) != 114) = decide (c ≠ 114) := by
      show ((c.toNat : Int) != 114) = _
      rw [Bool.eq_iff_iff, bne_iff_ne, decide_eq_true_iff]
      have : (114 : UInt8).toNat = 114 := rfl
      constructor
      · intro h e; subst e; exact h rfl
      · intro h e; exact h (UInt8.toNat_inj.1 (by omega))
    have c6 : ((((c :: t).length : Nat) : Int) == 1) = decide (t = []) := by
      rw [Bool.eq_iff_iff, beq_iff_eq, decide_eq_true_iff]
      cases t <;> simp <;> omega
    rw [c1, c5, c6]
    have hw : wordB (c :: t) = (decide (t.length < 12) && (!isD c && (decide ((c :: t).takeWhile isI = c :: t) && (decide (c ≠ 114) || (decide (t = []) || !decide (t.takeWhile isD = t)))))) := rfl
    rw [hw]
    have c7 : decide (48 ≤ c.toNat ∧ c.toNat ≤ 57) = isD c := rfl
    rw [c7]
    cases decide (t.length < 12) <;> cases isD c <;> cases decide ((c :: t).takeWhile isI = c :: t) <;> cases decide (c ≠ 114) <;> cases decide (t = []) <;> rfl
end Go.Ab
namespace Go.Ab
theorem drop_tw {p : UInt8 → Bool} (t : List UInt8) : t.drop (t.takeWhile p).length = t.dropWhile p := by
  conv => lhs; rw [← List.takeWhile_append_dropWhile (p := p) (l := t)]
  rw [List.takeWhile_append_dropWhile, ]
  conv => lhs; arg 2; rw [← List.takeWhile_append_dropWhile (p := p) (l := t)]
  exact List.drop_left
def tailA (base : Nat) (h r : List UInt8) : Option (X3 × List UInt8) := match numv base h 0 with
  | some n => if r.takeWhile isI = [] then some (.num n, r) else none
  | none => none
def atomS (t : List UInt8) : Option (X3 × List UInt8) :=
  bif pre [48, 120] t && !decide ((t.drop 2).takeWhile isH = []) then tailA 16 ((t.drop 2).takeWhile isH) ((t.drop 2).dropWhile isH)
  else bif !decide (t.takeWhile isD = []) then tailA 10 (t.takeWhile isD) (t.dropWhile isD)
  else bif wordB (t.takeWhile isI) then some (.nm (ba (t.takeWhile isI)), t.dropWhile isI) else none
def PR (f : Option (Qb × Qa)) (d : Int) (o : Option (X3 × List UInt8)) : Prop := match o with
  | some (x, r) => f = some (x.t, PS r d false)
  | none => ∃ e r, f = some (e, PS r d true)
theorem all_tw {p q : UInt8 → Bool} (hpq : ∀ b, p b = true → q b = true) (t : List UInt8) : (t.takeWhile p).all q = true := by
  rw [List.all_eq_true]; intro b hb; exact hpq b (List.all_eq_true.1 List.all_takeWhile b hb)
theorem tail_PR (base : Nat) (hb : base ≤ 16) (h r : List UInt8) (hh : h.all isH = true) (d : Int) :
    PR ((JA (ba h) base (PS (h ++ r) d false)).bind fun q => (JT q.1 q.2).bind fun q => some (q.1, q.2)) d (tailA base h r) := by
  rw [number_eq h r hh base hb]
  unfold tailA
  cases hv : numv base h 0 with
  | none =>
    simp only [Option.bind_some, apart_eq]
    split <;> exact ⟨_, _, rfl⟩
  | some n =>
    simp only [Option.bind_some, apart_eq]
    split
    · rfl
    · exact ⟨_, _, rfl⟩
theorem one_open {s r : List UInt8} (h : dropB s = 40 :: r) (d : Int) : Qu (PS s d false) = QM (PS r d false) := by
  rw [Qu.eq]; unfold WB
  simp only [show h_28 = ba [40] from rfl, take_eq, cond_true, Option.bind_some, cond_false, h]
  rw [show pre [40] (40 :: r) = true from by simp [pre]]
  simp only [cond_true]
  show (QM (PS r d false)).bind (fun r2 => some (r2.1, r2.2)) = _
  cases QM (PS r d false) <;> rfl
theorem pre1_ne {a : UInt8} {t : List UInt8} (h : ∀ r, t ≠ a :: r) : pre [a] t = false := by
  cases t with
  | nil => simp [pre]
  | cons b t =>
    have : b ≠ a := fun e => h t (by rw [e])
    simp [pre, this]
theorem one_minus {s r : List UInt8} (h : dropB s = 45 :: r) (d : Int) : Qu (PS s d false) = Qz (PS r d false) := by
  rw [Qu.eq]; unfold WB
  simp only [show h_28 = ba [40] from rfl, show h_2d = ba [45] from rfl, take_eq, cond_true, Option.bind_some, cond_false, h]
  rw [show pre [40] (45 :: r) = false from by simp [pre]]
  simp only [cond_false, take_eq]
  rw [show dropB (45 :: r) = 45 :: r from by simp [dropB, List.dropWhile_cons], show pre [45] (45 :: r) = true from by simp [pre]]
  simp only [cond_true, Option.bind_some]
  show (Qz (PS r d false)).bind (fun r2 => some (r2.1, r2.2)) = _
  cases Qz (PS r d false) <;> rfl
theorem one_dot {s r : List UInt8} (h : dropB s = 46 :: r) (d : Int) : Qu (PS s d false) = some (X3.here.t, PS r d false) := by
  rw [Qu.eq]; unfold WB
  simp only [show h_28 = ba [40] from rfl, show h_2d = ba [45] from rfl, show h_2e = ba [46] from rfl, take_eq, cond_true, Option.bind_some, cond_false, h]
  rw [show pre [40] (46 :: r) = false from by simp [pre]]
  simp only [cond_false, take_eq]
  rw [show dropB (46 :: r) = 46 :: r from by simp [dropB, List.dropWhile_cons], show pre [45] (46 :: r) = false from by simp [pre]]
  simp only [cond_false, Option.bind_some, take_eq]
  rw [show dropB (46 :: r) = 46 :: r from by simp [dropB, List.dropWhile_cons], show pre [46] (46 :: r) = true from by simp [pre]]
  rfl
theorem one_atom {s t : List UInt8} (h : dropB s = t) (h1 : ∀ r, t ≠ 40 :: r) (h2 : ∀ r, t ≠ 45 :: r) (h3 : ∀ r, t ≠ 46 :: r) (d : Int) : PR (Qu (PS s d false)) d (atomS t) := by
  have ht : dropB t = t := by rw [← h, dropB_idem]
  rw [Qu.eq]; unfold WB
  simp only [show h_28 = ba [40] from rfl, show h_2d = ba [45] from rfl, show h_2e = ba [46] from rfl, take_eq, cond_true, Option.bind_some, cond_false, h, ht, pre1_ne h1, pre1_ne h2, pre1_ne h3, hasPrefix2_eq, expr_as_eq, expr_as_2_eq, expr_as_3_eq, ba_size, ba_extract, word_eq, fail_eq]
  have rest : ∀ (P : Prop), (PR (bif !eqS (ba (t.takeWhile isD)) s_ then (JA (ba (t.takeWhile isD)) 10 (PS t d false)).bind fun r18 => (JT r18.1 r18.2).bind fun r19 => some (r19.1, r19.2)
      else bif wordB (t.takeWhile isI) then (bif decide (0 ≤ (((t.takeWhile isI).length : Nat) : Int) ∧ (((t.takeWhile isI).length : Nat) : Int) ≤ ((t.length : Nat) : Int) ∧ ((t.length : Nat) : Int) ≤ ((t.length : Nat) : Int)) then
        some ((⟨2, 0, ba (t.takeWhile isI), []⟩ : Qb), (⟨ba ((t.take (Int.toNat ((t.length : Nat) : Int))).drop (Int.toNat (((t.takeWhile isI).length : Nat) : Int))), d, false⟩ : Qa)) else none) else some ((⟨0, 0, s_, []⟩ : Qb), (⟨ba t, d, true⟩ : Qa))) d
      (bif !decide (t.takeWhile isD = []) then tailA 10 (t.takeWhile isD) (t.dropWhile isD) else bif wordB (t.takeWhile isI) then some (.nm (ba (t.takeWhile isI)), t.dropWhile isI) else none) → P) → P := by
    intro P k
    apply k
    rw [show s_ = ba [] from rfl, eqS_ba]
    cases hD : decide (t.takeWhile isD = []) with
    | false =>
      simp only [Bool.not_false, cond_true]
      have := tail_PR 10 (by decide) (t.takeWhile isD) (t.dropWhile isD) (all_tw (fun b hb => by simp [isH, hb]) t) d
      rw [List.takeWhile_append_dropWhile] at this
      exact this
    | true =>
      simp only [Bool.not_true, cond_false]
      cases hw : wordB (t.takeWhile isI) with
      | false => exact ⟨_, _, rfl⟩
      | true =>
        simp only [cond_true]
        have hl : (t.takeWhile isI).length ≤ t.length := (List.takeWhile_sublist _).length_le
        have c1 : decide (0 ≤ (((t.takeWhile isI).length : Nat) : Int) ∧ (((t.takeWhile isI).length : Nat) : Int) ≤ ((t.length : Nat) : Int) ∧ ((t.length : Nat) : Int) ≤ ((t.length : Nat) : Int)) = true := decide_eq_true (by omega)
        rw [c1, cond_true, Int.toNat_natCast, Int.toNat_natCast, List.take_length, drop_tw]
        rfl
  unfold atomS
  cases hp : pre [48, 120] t with
  | false =>
    simp only [Bool.false_and, cond_false]
    exact rest _ id
  | true =>
    have hlen := (pre_len hp).1
    have c1 : decide (0 ≤ (2 : Int) ∧ (2 : Int) ≤ ((t.length : Nat) : Int) ∧ ((t.length : Nat) : Int) ≤ ((t.length : Nat) : Int)) = true := decide_eq_true (by simp at hlen; omega)
    have e2 : (t.take (Int.toNat ((t.length : Nat) : Int))).drop (Int.toNat 2) = t.drop 2 := by rw [Int.toNat_natCast, List.take_length]; rfl
    simp only [Bool.true_and, cond_true]
    rw [c1, cond_true, e2]
    cases hH : decide ((t.drop 2).takeWhile isH = []) with
    | true =>
      have : eqS (ba ((t.drop 2).takeWhile isH)) s_ = true := by rw [show s_ = ba [] from rfl, eqS_ba, hH]
      rw [this]
      simp only [Bool.not_true, cond_false]
      exact rest _ id
    | false =>
      have : eqS (ba ((t.drop 2).takeWhile isH)) s_ = false := by rw [show s_ = ba [] from rfl, eqS_ba, hH]
      rw [this]
      simp only [Bool.not_false, cond_true]
      have := tail_PR 16 (by decide) ((t.drop 2).takeWhile isH) ((t.drop 2).dropWhile isH) (all_tw (fun b hb => hb) _) d
      rw [List.takeWhile_append_dropWhile] at this
      exact this
end Go.Ab
