/- LineBack: part 3 of the proof that, whatever the input, the law returns true and the input reads as it did; its conditions are those of the given row. -/
import Derived.Test.YtblfhkldljfhiaaGreatDoorZLineBack2
import Derived.Shelf.Strings.SlTrimAscii
import Derived.Tactics
import Derived.WalkLawsBesides
import Derived.RowKit3
import Derived.Laws.BitsLemmas
import Derived.Test.YtblfhkldljfhiaaGreatDoorSh
import Derived.Test.YtblfhkldljfhiaaGreatDoorRows
import Derived.LaidMore
import Derived.MakeChecks
import Derived.Lib.AppendIntMem
import Derived.Shelf.Vars
import Derived.WalkKit
import Derived.Deep.LoopGhost
import Derived.Lib.Walk
import Derived.Lib.SliceRun
set_option linter.unusedVariables false
set_option linter.unusedSimpArgs false
namespace Go.Ab
open Go.Proofs
noncomputable def Qll (a0 : ByteArray) (a1 : Int) : Tr Int AH := (Yg a1 (zi 9) fun r1 => (let u104 := (eqS a0 s_X); .as u104 (.yes u104 (.rows [[xi i0], [xi (zi 1)], [xi (zi 7)], [xi (zi 24)], [xi (zi 31)], [xi (zi 5)], [xi (zi 28)], [xi (zi 3)], [xi (zi 30)]] (Ja [i0, (zi 1), (zi 7), (zi 24), (zi 31), (zi 5), (zi 28), (zi 3), (zi 30)]) (.ask (in1 r1 (((Ja [i0, (zi 1), (zi 7), (zi 24), (zi 31), (zi 5), (zi 28), (zi 3), (zi 30)]).length : Nat) : Int)) (in1 r1 (([i0, (zi 1), (zi 7), (zi 24), (zi 31), (zi 5), (zi 28), (zi 3), (zi 30)].length : Nat) : Int)) (.row ((Ja [i0, (zi 1), (zi 7), (zi 24), (zi 31), (zi 5), (zi 28), (zi 3), (zi 30)])[(Int.toNat r1)]?) ([i0, (zi 1), (zi 7), (zi 24), (zi 31), (zi 5), (zi 28), (zi 3), (zi 30)][(Int.toNat r1)]?) Xd fun (e2 : Int) => (rt Qp e2)) .fail))) (.as (eqS a0 s_Y) (.rows [[xi i0], [xi (zi 1)], [xi (zi 7)], [xi (zi 24)], [xi (zi 31)], [xi (zi 5)], [xi (zi 28)], [xi (zi 3)], [xi (zi 30)]] (Ja [i0, (zi 1), (zi 7), (zi 24), (zi 31), (zi 5), (zi 28), (zi 3), (zi 30)]) (.ask (in1 r1 (((Ja [i0, (zi 1), (zi 7), (zi 24), (zi 31), (zi 5), (zi 28), (zi 3), (zi 30)]).length : Nat) : Int)) (in1 r1 (([i0, (zi 1), (zi 7), (zi 24), (zi 31), (zi 5), (zi 28), (zi 3), (zi 30)].length : Nat) : Int)) (.row ((Ja [i0, (zi 1), (zi 7), (zi 24), (zi 31), (zi 5), (zi 28), (zi 3), (zi 30)])[(Int.toNat r1)]?) ([i0, (zi 1), (zi 7), (zi 24), (zi 31), (zi 5), (zi 28), (zi 3), (zi 30)][(Int.toNat r1)]?) Xd fun (e3 : Int) => (rt Qp e3)) .fail)) (let u103 := (eqS a0 s_D); .as u103 (.yes u103 (.rows [[xi i0], [xi (zi 31)], [xi (zi 1)], [xi (zi 15)], [xi (zi 16)], [xi (zi 7)], [xi (zi 30)], [xi (zi 12)], [xi (zi 3)]] (Ja [i0, (zi 31), (zi 1), (zi 15), (zi 16), (zi 7), (zi 30), (zi 12), (zi 3)]) (.ask (in1 r1 (((Ja [i0, (zi 31), (zi 1), (zi 15), (zi 16), (zi 7), (zi 30), (zi 12), (zi 3)]).length : Nat) : Int)) (in1 r1 (([i0, (zi 31), (zi 1), (zi 15), (zi 16), (zi 7), (zi 30), (zi 12), (zi 3)].length : Nat) : Int)) (.row ((Ja [i0, (zi 31), (zi 1), (zi 15), (zi 16), (zi 7), (zi 30), (zi 12), (zi 3)])[(Int.toNat r1)]?) ([i0, (zi 31), (zi 1), (zi 15), (zi 16), (zi 7), (zi 30), (zi 12), (zi 3)][(Int.toNat r1)]?) Xd fun (e4 : Int) => (rt Qp e4)) .fail))) (let u102 := (eqS a0 s_A); .as u102 (.yes u102 (.rows [[xi i0], [xi (zi 31)], [xi (zi 1)], [xi (zi 15)], [xi (zi 16)], [xi (zi 7)], [xi (zi 30)], [xi (zi 12)], [xi (zi 3)]] (Ja [i0, (zi 31), (zi 1), (zi 15), (zi 16), (zi 7), (zi 30), (zi 12), (zi 3)]) (.ask (in1 r1 (((Ja [i0, (zi 31), (zi 1), (zi 15), (zi 16), (zi 7), (zi 30), (zi 12), (zi 3)]).length : Nat) : Int)) (in1 r1 (([i0, (zi 31), (zi 1), (zi 15), (zi 16), (zi 7), (zi 30), (zi 12), (zi 3)].length : Nat) : Int)) (.row ((Ja [i0, (zi 31), (zi 1), (zi 15), (zi 16), (zi 7), (zi 30), (zi 12), (zi 3)])[(Int.toNat r1)]?) ([i0, (zi 31), (zi 1), (zi 15), (zi 16), (zi 7), (zi 30), (zi 12), (zi 3)][(Int.toNat r1)]?) Xd fun (e5 : Int) => (rt Qp e5)) .fail))) (let u101 := (eqS a0 s_B); .as u101 (.yes u101 (.rows [[xi i0], [xi (zi 31)], [xi (zi 1)], [xi (zi 15)], [xi (zi 16)], [xi (zi 7)], [xi (zi 30)], [xi (zi 12)], [xi (zi 3)]] (Ja [i0, (zi 31), (zi 1), (zi 15), (zi 16), (zi 7), (zi 30), (zi 12), (zi 3)]) (.ask (in1 r1 (((Ja [i0, (zi 31), (zi 1), (zi 15), (zi 16), (zi 7), (zi 30), (zi 12), (zi 3)]).length : Nat) : Int)) (in1 r1 (([i0, (zi 31), (zi 1), (zi 15), (zi 16), (zi 7), (zi 30), (zi 12), (zi 3)].length : Nat) : Int)) (.row ((Ja [i0, (zi 31), (zi 1), (zi 15), (zi 16), (zi 7), (zi 30), (zi 12), (zi 3)])[(Int.toNat r1)]?) ([i0, (zi 31), (zi 1), (zi 15), (zi 16), (zi 7), (zi 30), (zi 12), (zi 3)][(Int.toNat r1)]?) Xd fun (e6 : Int) => (rt Qp e6)) .fail))) (.as (eqS a0 s_U5) (.rows [[xi i0], [xi (zi 31)], [xi (zi 1)], [xi (zi 15)], [xi (zi 16)], [xi (zi 7)], [xi (zi 30)], [xi (zi 12)], [xi (zi 3)]] (Ja [i0, (zi 31), (zi 1), (zi 15), (zi 16), (zi 7), (zi 30), (zi 12), (zi 3)]) (.ask (in1 r1 (((Ja [i0, (zi 31), (zi 1), (zi 15), (zi 16), (zi 7), (zi 30), (zi 12), (zi 3)]).length : Nat) : Int)) (in1 r1 (([i0, (zi 31), (zi 1), (zi 15), (zi 16), (zi 7), (zi 30), (zi 12), (zi 3)].length : Nat) : Int)) (.row ((Ja [i0, (zi 31), (zi 1), (zi 15), (zi 16), (zi 7), (zi 30), (zi 12), (zi 3)])[(Int.toNat r1)]?) ([i0, (zi 31), (zi 1), (zi 15), (zi 16), (zi 7), (zi 30), (zi 12), (zi 3)][(Int.toNat r1)]?) Xd fun (e7 : Int) => (rt Qp e7)) .fail)) (.as (eqS a0 s_U7) (.rows [[xi i0], [xi (zi 127)], [xi (zi 64)], [xi (zi 1)], [xi (zi 63)], [xi (zi 100)], [xi (zi 7)], [xi (zi 15)], [xi (zi 16)]] (Ja [i0, (zi 127), (zi 64), (zi 1), (zi 63), (zi 100), (zi 7), (zi 15), (zi 16)]) (.ask (in1 r1 (((Ja [i0, (zi 127), (zi 64), (zi 1), (zi 63), (zi 100), (zi 7), (zi 15), (zi 16)]).length : Nat) : Int)) (in1 r1 (([i0, (zi 127), (zi 64), (zi 1), (zi 63), (zi 100), (zi 7), (zi 15), (zi 16)].length : Nat) : Int)) (.row ((Ja [i0, (zi 127), (zi 64), (zi 1), (zi 63), (zi 100), (zi 7), (zi 15), (zi 16)])[(Int.toNat r1)]?) ([i0, (zi 127), (zi 64), (zi 1), (zi 63), (zi 100), (zi 7), (zi 15), (zi 16)][(Int.toNat r1)]?) Xd fun (e8 : Int) => (rt Qp e8)) .fail)) (.as (eqS a0 s_O5) (.rows [[xi (zi 1)], [xi (zi 32)], [xi (zi 2)], [xi (zi 16)], [xi (zi 31)], [xi (zi 17)], [xi (zi 8)], [xi (zi 5)], [xi (zi 30)]] (Ja [(zi 1), (zi 32), (zi 2), (zi 16), (zi 31), (zi 17), (zi 8), (zi 5), (zi 30)]) (.ask (in1 r1 (((Ja [(zi 1), (zi 32), (zi 2), (zi 16), (zi 31), (zi 17), (zi 8), (zi 5), (zi 30)]).length : Nat) : Int)) (in1 r1 (([(zi 1), (zi 32), (zi 2), (zi 16), (zi 31), (zi 17), (zi 8), (zi 5), (zi 30)].length : Nat) : Int)) (.row ((Ja [(zi 1), (zi 32), (zi 2), (zi 16), (zi 31), (zi 17), (zi 8), (zi 5), (zi 30)])[(Int.toNat r1)]?) ([(zi 1), (zi 32), (zi 2), (zi 16), (zi 31), (zi 17), (zi 8), (zi 5), (zi 30)][(Int.toNat r1)]?) Xd fun (e9 : Int) => (rt Qp e9)) .fail)) (let u100 := (eqS a0 s_M1); .as u100 (.yes u100 (.rows [[xi i0], [xi (zi 15)], [xi (zi 1)], [xi (zi 7)], [xi (zi 8)], [xi (zi 4)], [xi (zi 12)], [xi (zi 3)], [xi (zi 14)]] (Ja [i0, (zi 15), (zi 1), (zi 7), (zi 8), (zi 4), (zi 12), (zi 3), (zi 14)]) (.ask (in1 r1 (((Ja [i0, (zi 15), (zi 1), (zi 7), (zi 8), (zi 4), (zi 12), (zi 3), (zi 14)]).length : Nat) : Int)) (in1 r1 (([i0, (zi 15), (zi 1), (zi 7), (zi 8), (zi 4), (zi 12), (zi 3), (zi 14)].length : Nat) : Int)) (.row ((Ja [i0, (zi 15), (zi 1), (zi 7), (zi 8), (zi 4), (zi 12), (zi 3), (zi 14)])[(Int.toNat r1)]?) ([i0, (zi 15), (zi 1), (zi 7), (zi 8), (zi 4), (zi 12), (zi 3), (zi 14)][(Int.toNat r1)]?) Xd fun (e10 : Int) => (rt Qp e10)) .fail))) (.as (eqS a0 s_I4) (.rows [[xi i0], [xi (zi 15)], [xi (zi 1)], [xi (zi 7)], [xi (zi 8)], [xi (zi 4)], [xi (zi 12)], [xi (zi 3)], [xi (zi 14)]] (Ja [i0, (zi 15), (zi 1), (zi 7), (zi 8), (zi 4), (zi 12), (zi 3), (zi 14)]) (.ask (in1 r1 (((Ja [i0, (zi 15), (zi 1), (zi 7), (zi 8), (zi 4), (zi 12), (zi 3), (zi 14)]).length : Nat) : Int)) (in1 r1 (([i0, (zi 15), (zi 1), (zi 7), (zi 8), (zi 4), (zi 12), (zi 3), (zi 14)].length : Nat) : Int)) (.row ((Ja [i0, (zi 15), (zi 1), (zi 7), (zi 8), (zi 4), (zi 12), (zi 3), (zi 14)])[(Int.toNat r1)]?) ([i0, (zi 15), (zi 1), (zi 7), (zi 8), (zi 4), (zi 12), (zi 3), (zi 14)][(Int.toNat r1)]?) Xd fun (e11 : Int) => (rt Qp e11)) .fail)) (.as (eqS a0 s_M2) (.rows [[xi i0], [xi (zi 15)], [xi (zi 1)], [xi (zi 7)], [xi (zi 8)], [xi (zi 4)], [xi (zi 12)], [xi (zi 3)], [xi (zi 14)]] (Ja [i0, (zi 15), (zi 1), (zi 7), (zi 8), (zi 4), (zi 12), (zi 3), (zi 14)]) (.ask (in1 r1 (((Ja [i0, (zi 15), (zi 1), (zi 7), (zi 8), (zi 4), (zi 12), (zi 3), (zi 14)]).length : Nat) : Int)) (in1 r1 (([i0, (zi 15), (zi 1), (zi 7), (zi 8), (zi 4), (zi 12), (zi 3), (zi 14)].length : Nat) : Int)) (.row ((Ja [i0, (zi 15), (zi 1), (zi 7), (zi 8), (zi 4), (zi 12), (zi 3), (zi 14)])[(Int.toNat r1)]?) ([i0, (zi 15), (zi 1), (zi 7), (zi 8), (zi 4), (zi 12), (zi 3), (zi 14)][(Int.toNat r1)]?) Xd fun (e12 : Int) => (rt Qp (w64 ((zi 2) * e12)))) .fail)) (.as (eqS a0 s_M4) (.rows [[xi i0], [xi (zi 15)], [xi (zi 1)], [xi (zi 7)], [xi (zi 8)], [xi (zi 4)], [xi (zi 12)], [xi (zi 3)], [xi (zi 14)]] (Ja [i0, (zi 15), (zi 1), (zi 7), (zi 8), (zi 4), (zi 12), (zi 3), (zi 14)]) (.ask (in1 r1 (((Ja [i0, (zi 15), (zi 1), (zi 7), (zi 8), (zi 4), (zi 12), (zi 3), (zi 14)]).length : Nat) : Int)) (in1 r1 (([i0, (zi 15), (zi 1), (zi 7), (zi 8), (zi 4), (zi 12), (zi 3), (zi 14)].length : Nat) : Int)) (.row ((Ja [i0, (zi 15), (zi 1), (zi 7), (zi 8), (zi 4), (zi 12), (zi 3), (zi 14)])[(Int.toNat r1)]?) ([i0, (zi 15), (zi 1), (zi 7), (zi 8), (zi 4), (zi 12), (zi 3), (zi 14)][(Int.toNat r1)]?) Xd fun (e13 : Int) => (rt Qp (w64 ((zi 4) * e13)))) .fail)) (.as (eqS a0 s_O1) (Yg a1 (zi 2) fun r14 => (rt Qp r14)) (let u99 := (eqS a0 s_I2); .as u99 (.yes u99 (Yg a1 (zi 4) fun r15 => (rt Qp r15))) (.as (eqS a0 s_O2) (Yg a1 (zi 4) fun r16 => (rt Qp r16)) (.as (eqS a0 s_T8) (Yg a1 (zi 256) fun r17 => (rt Qp (w64 ((zi 2) * (w64 (r17 - 128)))))) (.as (eqS a0 Qqx) (.rows [[xi i0], [xi (zi 32767)], [xi (-32768 : Int)], [xi (-1 : Int)], [xi (zi 1)], [xi (zi 255)], [xi (-256 : Int)], [xi (zi 4660)], [xi (-4660 : Int)]] (Ja [i0, (zi 32767), (-32768 : Int), (-1 : Int), (zi 1), (zi 255), (-256 : Int), (zi 4660), (-4660 : Int)]) (.ask (in1 r1 (((Ja [i0, (zi 32767), (-32768 : Int), (-1 : Int), (zi 1), (zi 255), (-256 : Int), (zi 4660), (-4660 : Int)]).length : Nat) : Int)) (in1 r1 (([i0, (zi 32767), (-32768 : Int), (-1 : Int), (zi 1), (zi 255), (-256 : Int), (zi 4660), (-4660 : Int)].length : Nat) : Int)) (.row ((Ja [i0, (zi 32767), (-32768 : Int), (-1 : Int), (zi 1), (zi 255), (-256 : Int), (zi 4660), (-4660 : Int)])[(Int.toNat r1)]?) ([i0, (zi 32767), (-32768 : Int), (-1 : Int), (zi 1), (zi 255), (-256 : Int), (zi 4660), (-4660 : Int)][(Int.toNat r1)]?) Xd fun (e18 : Int) => (rt Qp e18)) .fail)) (.as (eqS a0 Qqw) (Yg a1 (zi 1048576) fun r19 => (rt Qp (w64 (r19 - 524288)))) (.as (eqS a0 Qqy) (Yg a1 (zi 32768) fun r20 => (rt Qp (w64 ((zi 2) * (w64 (r20 - 16384)))))) (.as (eqS a0 Ec) (Yg a1 (zi 16777216) fun r21 => (rt Qp (w64 ((zi 2) * (w64 (r21 - 8388608)))))) (.rows [[xi i0], [xi (zi 255)], [xi (zi 256)], [xi (zi 65280)], [xi (-1 : Int)], [xi (-2 : Int)], [xi (zi 16711680)], [xi (-256 : Int)], [xi (zi 2130706432)]] (Ja [i0, (zi 255), (zi 256), (zi 65280), (-1 : Int), (-2 : Int), (zi 16711680), (-256 : Int), (zi 2130706432)]) (.ask (in1 r1 (((Ja [i0, (zi 255), (zi 256), (zi 65280), (-1 : Int), (-2 : Int), (zi 16711680), (-256 : Int), (zi 2130706432)]).length : Nat) : Int)) (in1 r1 (([i0, (zi 255), (zi 256), (zi 65280), (-1 : Int), (-2 : Int), (zi 16711680), (-256 : Int), (zi 2130706432)].length : Nat) : Int)) (.row ((Ja [i0, (zi 255), (zi 256), (zi 65280), (-1 : Int), (-2 : Int), (zi 16711680), (-256 : Int), (zi 2130706432)])[(Int.toNat r1)]?) ([i0, (zi 255), (zi 256), (zi 65280), (-1 : Int), (-2 : Int), (zi 16711680), (-256 : Int), (zi 2130706432)][(Int.toNat r1)]?) Xd fun (e22 : Int) => (rt Qp e22)) .fail)))))))))))))))))))))))
theorem V6.ok {a0 : ByteArray} {a1 : Int} {r : Int} (h : V6 a0 a1 = some r) : ww 85 [xs a0, xi a1] [] = some (Qp r) := by
 refine fnP (Qll a0 a1) ?_ h
 exact fun r1 h => ⟨VZ.ok h, ⟨rfl, fun q0 => ⟨q0, ⟨(Ut [(0 : Int), (1 : Int), (7 : Int), (24 : Int), (31 : Int), (5 : Int), (28 : Int), (3 : Int), (30 : Int)]), ⟨(by rw [Vj]), fun q1 => fun e2 h => ⟨Vt h, rfl⟩, fun q1 => trivial⟩⟩⟩, fun q0 => ⟨rfl, fun q1 => ⟨(Ut [(0 : Int), (1 : Int), (7 : Int), (24 : Int), (31 : Int), (5 : Int), (28 : Int), (3 : Int), (30 : Int)]), ⟨(by rw [Vj]), fun q2 => fun e3 h => ⟨Vt h, rfl⟩, fun q2 => trivial⟩⟩, fun q1 => ⟨rfl, fun q2 => ⟨q2, ⟨(Ut [(0 : Int), (31 : Int), (1 : Int), (15 : Int), (16 : Int), (7 : Int), (30 : Int), (12 : Int), (3 : Int)]), ⟨(by rw [Vj]), fun q3 => fun e4 h => ⟨Vt h, rfl⟩, fun q3 => trivial⟩⟩⟩, fun q2 => ⟨rfl, fun q3 => ⟨q3, ⟨(Ut [(0 : Int), (31 : Int), (1 : Int), (15 : Int), (16 : Int), (7 : Int), (30 : Int), (12 : Int), (3 : Int)]), ⟨(by rw [Vj]), fun q4 => fun e5 h => ⟨Vt h, rfl⟩, fun q4 => trivial⟩⟩⟩, fun q3 => ⟨rfl, fun q4 => ⟨q4, ⟨(Ut [(0 : Int), (31 : Int), (1 : Int), (15 : Int), (16 : Int), (7 : Int), (30 : Int), (12 : Int), (3 : Int)]), ⟨(by rw [Vj]), fun q5 => fun e6 h => ⟨Vt h, rfl⟩, fun q5 => trivial⟩⟩⟩, fun q4 => ⟨rfl, fun q5 => ⟨(Ut [(0 : Int), (31 : Int), (1 : Int), (15 : Int), (16 : Int), (7 : Int), (30 : Int), (12 : Int), (3 : Int)]), ⟨(by rw [Vj]), fun q6 => fun e7 h => ⟨Vt h, rfl⟩, fun q6 => trivial⟩⟩, fun q5 => ⟨rfl, fun q6 => ⟨(Ut [(0 : Int), (127 : Int), (64 : Int), (1 : Int), (63 : Int), (100 : Int), (7 : Int), (15 : Int), (16 : Int)]), ⟨(by rw [Vj]), fun q7 => fun e8 h => ⟨Vt h, rfl⟩, fun q7 => trivial⟩⟩, fun q6 => ⟨rfl, fun q7 => ⟨(Ut [(1 : Int), (32 : Int), (2 : Int), (16 : Int), (31 : Int), (17 : Int), (8 : Int), (5 : Int), (30 : Int)]), ⟨(by rw [Vj]), fun q8 => fun e9 h => ⟨Vt h, rfl⟩, fun q8 => trivial⟩⟩, fun q7 => ⟨rfl, fun q8 => ⟨q8, ⟨(Ut [(0 : Int), (15 : Int), (1 : Int), (7 : Int), (8 : Int), (4 : Int), (12 : Int), (3 : Int), (14 : Int)]), ⟨(by rw [Vj]), fun q9 => fun e10 h => ⟨Vt h, rfl⟩, fun q9 => trivial⟩⟩⟩, fun q8 => ⟨rfl, fun q9 => ⟨(Ut [(0 : Int), (15 : Int), (1 : Int), (7 : Int), (8 : Int), (4 : Int), (12 : Int), (3 : Int), (14 : Int)]), ⟨(by rw [Vj]), fun q10 => fun e11 h => ⟨Vt h, rfl⟩, fun q10 => trivial⟩⟩, fun q9 => ⟨rfl, fun q10 => ⟨(Ut [(0 : Int), (15 : Int), (1 : Int), (7 : Int), (8 : Int), (4 : Int), (12 : Int), (3 : Int), (14 : Int)]), ⟨(by rw [Vj]), fun q11 => fun e12 h => ⟨Vt h, rfl⟩, fun q11 => trivial⟩⟩, fun q10 => ⟨rfl, fun q11 => ⟨(Ut [(0 : Int), (15 : Int), (1 : Int), (7 : Int), (8 : Int), (4 : Int), (12 : Int), (3 : Int), (14 : Int)]), ⟨(by rw [Vj]), fun q12 => fun e13 h => ⟨Vt h, rfl⟩, fun q12 => trivial⟩⟩, fun q11 => ⟨rfl, fun q12 => fun r14 h => ⟨VZ.ok h, rfl⟩, fun q12 => ⟨rfl, fun q13 => ⟨q13, fun r15 h => ⟨VZ.ok h, rfl⟩⟩, fun q13 => ⟨rfl, fun q14 => fun r16 h => ⟨VZ.ok h, rfl⟩, fun q14 => ⟨rfl, fun q15 => fun r17 h => ⟨VZ.ok h, rfl⟩, fun q15 => ⟨rfl, fun q16 => ⟨(Ut [(0 : Int), (32767 : Int), (-32768 : Int), (-1 : Int), (1 : Int), (255 : Int), (-256 : Int), (4660 : Int), (-4660 : Int)]), ⟨(by rw [Vj]), fun q17 => fun e18 h => ⟨Vt h, rfl⟩, fun q17 => trivial⟩⟩, fun q16 => ⟨rfl, fun q17 => fun r19 h => ⟨VZ.ok h, rfl⟩, fun q17 => ⟨rfl, fun q18 => fun r20 h => ⟨VZ.ok h, rfl⟩, fun q18 => ⟨rfl, fun q19 => fun r21 h => ⟨VZ.ok h, rfl⟩, fun q19 => ⟨(Ut [(0 : Int), (255 : Int), (256 : Int), (65280 : Int), (-1 : Int), (-2 : Int), (16711680 : Int), (-256 : Int), (2130706432 : Int)]), ⟨(by rw [Vj]), fun q20 => fun e22 h => ⟨Vt h, rfl⟩, fun q20 => trivial⟩⟩⟩⟩⟩⟩⟩⟩⟩⟩⟩⟩⟩⟩⟩⟩⟩⟩⟩⟩⟩⟩⟩
noncomputable abbrev QaC {ρ R : Type} (a0 : ByteArray) (a1 : Int) (k : Int → Tr ρ R) : Tr ρ R := .call (ww 85 [xs a0, xi a1] []) (V6 a0 a1) Qp k
abbrev ZI := Int → Int → Option Int
def Qgw (a0 : Int) (a1 : Int) : Option Int := (bif (decide (a1 ≠ 0)) then (bif (decide ((Int.tmod a0 a1) < 0)) then (some (w64 ((Int.tmod a0 a1) + a1))) else (some (Int.tmod a0 a1))) else none)
noncomputable def Vl : ZI := Qgw
theorem Vl.eq (a0 : Int) (a1 : Int) : Vl a0 a1 = Qgw a0 a1 := rfl
noncomputable def QmE (a0 : Int) (a1 : Int) : Tr Int AH := (.as (decide (a1 ≠ 0)) (.as (decide ((Int.tmod a0 a1) < 0)) (rt Qp (w64 ((Int.tmod a0 a1) + a1))) (rt Qp (Int.tmod a0 a1))) .fail)
theorem Vl.ok {a0 : Int} {a1 : Int} {r : Int} (h : Vl a0 a1 = some r) : ww 161 [xi a0, xi a1] [] = some (Qp r) := by
 refine fnP (QmE a0 a1) ?_ h
 exact ⟨rfl, fun q0 => ⟨rfl, fun q1 => rfl, fun q1 => rfl⟩, fun q0 => trivial⟩
noncomputable abbrev Pj {ρ R : Type} (a0 : Int) (a1 : Int) (k : Int → Tr ρ R) : Tr ρ R := .call (ww 161 [xi a0, xi a1] []) (Vl a0 a1) Qp k
abbrev Qa9 := Option (List ByteArray)
def Qh2 : Option (List ByteArray) := (some [Po, s_x, Ew, s_r])
noncomputable def Y7 : Qa9 := Qh2
theorem Y7.eq : Y7 = Qh2 := rfl
noncomputable def Qoa : Tr (List ByteArray) AH := (.rows [[xs Po], [xs s_x], [xs Ew], [xs s_r]] (Qi [Po, s_x, Ew, s_r]) (rt Jp [Po, s_x, Ew, s_r]))
theorem Y7.ok {r : (List ByteArray)} (h : Y7 = some r) : ww 162 [] [] = some (Jp r) := by
 refine fnP (Qoa) ?_ h
 exact ⟨(QU [Po, s_x, Ew, s_r]), rfl⟩
noncomputable abbrev Qob {ρ R : Type} (k : (List ByteArray) → Tr ρ R) : Tr ρ R := .call (ww 162 [] []) (Y7) Jp k
def UG (r : Qa) : AV × Heap := (.agg (QL r), [])
abbrev Zt := Qy → Int → Option Qa
abbrev Qlm (c : Zt) : Prop := ∀ (a0 : Qy) (a1 : Int) (r : Qa), c a0 a1 = some r → ww 163 [.agg (Xz a0), xi a1] [] = some (UG r)
abbrev Yx := Qy → Option Qa
abbrev Qln (c : Yx) : Prop := ∀ (a0 : Qy) (r : Qa), c a0 = some r → ww 108 [.agg (Xz a0)] [] = some (UG r)
noncomputable abbrev P5 {ρ R : Type} (c : Zt) (a0 : Qy) (a1 : Int) (k : Qa → Tr ρ R) : Tr ρ R := .call (ww 163 [.agg (Xz a0), xi a1] []) (c a0 a1) UG k
noncomputable abbrev Qdx {ρ R : Type} (c : Yx) (a0 : Qy) (k : Qa → Tr ρ R) : Tr ρ R := .call (ww 108 [.agg (Xz a0)] []) (c a0) UG k
def YJ (C0 : Yx) (C1 : ZI) (a0 : Qy) (a1 : Int) : Option Qa := (bif (decide (a1 < (((a0.L.length) : Nat) : Int))) then (bif (decide (0 ≤ a1)) then ((a0.L[(Int.toNat a1)]?).bind fun e1 => ((C0 e1).bind fun r2 => (some r2))) else none) else ((C1 (w64 (a0.N + a1)) (5 : Int)).bind fun r3 => (some (Qa.mk (1 : Int) r3 s_ ([] : List Qa)))))
theorem Qdy {C0 : Nat → Yx} {D0 : Yx} (H0 : Cv1 C0 D0) {C1 : Nat → ZI} {D1 : ZI} (H1 : Cv2 C1 D1) (a0 : Qy) (a1 : Int) : Cv (fun k => YJ (C0 k) (C1 k) a0 a1) (YJ D0 D1 a0 a1) := by
 unfold YJ
 exact .cond (.cond (.bind (.const _) fun e1 => .bind (H0 _) fun r2 => by exact .const _) cst) (.bind (H1 _ _) fun r3 => by exact .const _)
noncomputable def Qki (C0 : Yx) (a0 : Qy) (a1 : Int) : Tr Qa AH := (.num ((UV a0.L).length) (a0.L.length) (.as (decide (a1 < (((a0.L.length) : Nat) : Int))) (.as (decide (0 ≤ a1)) (.row ((UV a0.L)[(Int.toNat a1)]?) (a0.L[(Int.toNat a1)]?) Xz fun (e1 : Qy) => (Qdx C0 e1 fun r2 => (rt UG r2))) .fail) (Pj (w64 (a0.N + a1)) (zi 5) fun r3 => (rt UG (Qa.mk (zi 1) r3 s_ ([] : List Qa))))))
def YK (C0 : ZI) (C1 : Qa9) (C2 : Zt) (a0 : Qy) : Option Qa := ((C0 a0.K (18 : Int)).bind fun r1 => (bif (decide (r1 < 4)) then ((C0 a0.N (8 : Int)).bind fun r2 => (bif (decide (0 ≤ r2 ∧ r2 < (([(0 : Int), (1 : Int), (2 : Int), (255 : Int), (65536 : Int), (4294967295 : Int), (40 : Int), (7 : Int)].length : Nat) : Int))) then (([(0 : Int), (1 : Int), (2 : Int), (255 : Int), (65536 : Int), (4294967295 : Int), (40 : Int), (7 : Int)][(Int.toNat r2)]?).bind fun e3 => (some (Qa.mk (1 : Int) e3 s_ ([] : List Qa)))) else none)) else (bif (decide (r1 < 8)) then ((C1).bind fun r4 => ((C0 a0.N (4 : Int)).bind fun r5 => (bif (decide (0 ≤ r5)) then ((r4[(Int.toNat r5)]?).bind fun e6 => (some (Qa.mk (2 : Int) (0 : Int) e6 ([] : List Qa)))) else none))) else (bif (r1 == 8) then (some (Qa.mk (3 : Int) (0 : Int) s_ ([] : List Qa))) else (bif (decide (r1 < 11)) then ((C2 a0 (0 : Int)).bind fun r7 => (some (Qa.mk (4 : Int) (0 : Int) s_ [r7]))) else ((C2 a0 (0 : Int)).bind fun r8 => ((C2 a0 (1 : Int)).bind fun r9 => (some (Qa.mk (w64 ((w64 ((5 : Int) + r1)) - 11)) (0 : Int) s_ [r8, r9])))))))))
theorem Qdz {C0 : Nat → ZI} {D0 : ZI} (H0 : Cv2 C0 D0) {C1 : Nat → Qa9} {D1 : Qa9} (H1 : Cv C1 D1) {C2 : Nat → Zt} {D2 : Zt} (H2 : Cv2 C2 D2) (a0 : Qy) : Cv (fun k => YK (C0 k) (C1 k) (C2 k) a0) (YK D0 D1 D2 a0) := by
 unfold YK
 exact .bind (H0 _ _) fun r1 => .cond (.bind (H0 _ _) fun r2 => by exact .const _) (.cond (.bind (H1) fun r4 => .bind (H0 _ _) fun r5 => by exact .const _) (.cond cst (.cond (.bind (H2 _ _) fun r7 => by exact .const _) (.bind (H2 _ _) fun r8 => .bind (H2 _ _) fun r9 => by exact .const _))))
noncomputable def Qkj (C0 : Zt) (a0 : Qy) : Tr Qa AH := (Pj a0.K (zi 18) fun r1 => (.as (decide (r1 < 4)) (.rows [[xi i0], [xi (zi 1)], [xi (zi 2)], [xi (zi 255)], [xi (zi 65536)], [xi (zi 4294967295)], [xi (zi 40)], [xi (zi 7)]] (Ja [i0, (zi 1), (zi 2), (zi 255), (zi 65536), (zi 4294967295), (zi 40), (zi 7)]) (Pj a0.N (zi 8) fun r2 => (.ask (in1 r2 (((Ja [i0, (zi 1), (zi 2), (zi 255), (zi 65536), (zi 4294967295), (zi 40), (zi 7)]).length : Nat) : Int)) (in1 r2 (([i0, (zi 1), (zi 2), (zi 255), (zi 65536), (zi 4294967295), (zi 40), (zi 7)].length : Nat) : Int)) (.row ((Ja [i0, (zi 1), (zi 2), (zi 255), (zi 65536), (zi 4294967295), (zi 40), (zi 7)])[(Int.toNat r2)]?) ([i0, (zi 1), (zi 2), (zi 255), (zi 65536), (zi 4294967295), (zi 40), (zi 7)][(Int.toNat r2)]?) Xd fun (e3 : Int) => (rt UG (Qa.mk (zi 1) e3 s_ ([] : List Qa)))) .fail))) (.as (decide (r1 < 8)) (Qob fun r4 => (Pj a0.N (zi 4) fun r5 => (.as (decide (0 ≤ r5)) (.row ((Qi r4)[(Int.toNat r5)]?) (r4[(Int.toNat r5)]?) Q8 fun (e6 : ByteArray) => (rt UG (Qa.mk (zi 2) i0 e6 ([] : List Qa)))) .fail))) (.as (r1 == 8) (rt UG (Qa.mk (zi 3) i0 s_ ([] : List Qa))) (.as (decide (r1 < 11)) (P5 C0 a0 i0 fun r7 => (.rows [[xi r7.Kind, xi r7.N, xs r7.Name, .sl (QC r7.L)]] (QC [r7]) (rt UG (Qa.mk (zi 4) i0 s_ [r7])))) (P5 C0 a0 i0 fun r8 => (P5 C0 a0 (zi 1) fun r9 => (.rows [[xi r8.Kind, xi r8.N, xs r8.Name, .sl (QC r8.L)], [xi r9.Kind, xi r9.N, xs r9.Name, .sl (QC r9.L)]] (QC [r8, r9]) (rt UG (Qa.mk (w64 ((w64 ((zi 5) + r1)) - 11)) i0 s_ [r8, r9]))))))))))
mutual
noncomputable def UK.s : Nat → Qy → Int → Option Qa
 | 0, _, _ => none
 | k + 1, a0, a1 => YJ (fun a0 => JR.s k a0) Vl a0 a1
termination_by structural k => k
noncomputable def JR.s : Nat → Qy → Option Qa
 | 0, _ => none
 | k + 1, a0 => YK Vl Y7 (fun a0 a1 => UK.s k a0 a1) a0
termination_by structural k => k
end
theorem Qba : ∀ (k : Nat), (Qlm (UK.s k)) ∧ (Qln (JR.s k))
 | 0 => ⟨fun _ _ _ h => (nomatch h), fun _ _ h => (nomatch h)⟩
 | k + 1 => by
  obtain ⟨i_w3_Raw_part, i_w3_Raw_Make⟩ := Qba k
  exact ⟨fun a0 a1 r h => by
    refine fnP (Qki (JR.s k) a0 a1) ?_ h
    exact ⟨(Z8 _), ⟨rfl, fun q0 => ⟨rfl, fun q1 => fun e1 h => ⟨SN h, fun r2 h => ⟨i_w3_Raw_Make _ _ h, rfl⟩⟩, fun q1 => trivial⟩, fun q0 => fun r3 h => ⟨Vl.ok h, rfl⟩⟩⟩,
   fun a0 r h => by
    refine fnP (Qkj (UK.s k) a0) ?_ h
    exact fun r1 h => ⟨Vl.ok h, ⟨rfl, fun q0 => ⟨(Ut [(0 : Int), (1 : Int), (2 : Int), (255 : Int), (65536 : Int), (4294967295 : Int), (40 : Int), (7 : Int)]), fun r2 h => ⟨Vl.ok h, ⟨(by rw [Vj]), fun q1 => fun e3 h => ⟨Vt h, rfl⟩, fun q1 => trivial⟩⟩⟩, fun q0 => ⟨rfl, fun q1 => fun r4 h => ⟨Y7.ok h, fun r5 h => ⟨Vl.ok h, ⟨rfl, fun q2 => fun e6 h => ⟨Q5 h, rfl⟩, fun q2 => trivial⟩⟩⟩, fun q1 => ⟨rfl, fun q2 => rfl, fun q2 => ⟨rfl, fun q3 => fun r7 h => ⟨i_w3_Raw_part _ _ _ h, ⟨(W3 [r7]), rfl⟩⟩, fun q3 => fun r8 h => ⟨i_w3_Raw_part _ _ _ h, fun r9 h => ⟨i_w3_Raw_part _ _ _ h, ⟨(W3 [r8, r9]), rfl⟩⟩⟩⟩⟩⟩⟩⟩⟩
theorem Ek : ∀ (k : Nat), (∀ (a0 : Qy) (a1 : Int), Le (UK.s k a0 a1) (UK.s (k + 1) a0 a1)) ∧ (∀ (a0 : Qy), Le (JR.s k a0) (JR.s (k + 1) a0))
 | 0 => ⟨fun _ _ _ h => (nomatch h), fun _ _ h => (nomatch h)⟩
 | k + 1 => by
  obtain ⟨i_w3_Raw_part, i_w3_Raw_Make⟩ := Ek k
  exact ⟨fun a0 a1 => (Qdy (tw1 i_w3_Raw_Make) ks2 a0 a1).1 0,
   fun a0 => (Qdz ks2 ks0 (tw2 i_w3_Raw_part) a0).1 0⟩
noncomputable def UK (a0 : Qy) (a1 : Int) : Option Qa := lim fun k => UK.s k a0 a1
theorem UK.cv (a0 : Qy) (a1 : Int) : Cv (fun k => UK.s k a0 a1) (UK a0 a1) := .lim fun k => (Ek k).1 a0 a1
noncomputable def JR (a0 : Qy) : Option Qa := lim fun k => JR.s k a0
theorem JR.cv (a0 : Qy) : Cv (fun k => JR.s k a0) (JR a0) := .lim fun k => (Ek k).2 a0
theorem JR.ok {a0 : Qy} {r : Qa} (h : JR a0 = some r) : ww 108 [.agg (Xz a0)] [] = some (UG r) := let ⟨k, e⟩ := ((JR.cv a0).2 r).1 h; (Qba k).2 a0 _ e
theorem UK.eq (a0 : Qy) (a1 : Int) : UK a0 a1 = YJ JR Vl a0 a1 := Cv.uniq (UK.cv a0 a1).shift (Qdy JR.cv ks2 a0 a1)
theorem JR.eq (a0 : Qy) : JR a0 = YK Vl Y7 UK a0 := Cv.uniq (JR.cv a0).shift (Qdz ks2 ks0 UK.cv a0)
noncomputable abbrev Qkk {ρ R : Type} (a0 : Qy) (k : Qa → Tr ρ R) : Tr ρ R := Qdx JR a0 k
abbrev QfA := (List Qy) → Option Qa
def QgZ (C0 : Yx) (a0 : (List Qy)) : Option Qa := (bif ((((a0.length) : Nat) : Int) == 0) then (some (Qa.mk (1 : Int) (1 : Int) s_ ([] : List Qa))) else ((a0[(Int.toNat 0)]?).bind fun e1 => ((C0 e1).bind fun r2 => (some r2))))
noncomputable def Xv : QfA := QgZ JR
theorem Xv.eq (a0 : (List Qy)) : Xv a0 = QgZ JR a0 := rfl
noncomputable def QpZ (a0 : (List Qy)) : Tr Qa AH := (.num ((UV a0).length) (a0.length) (.as ((((a0.length) : Nat) : Int) == 0) (rt UG (Qa.mk (zi 1) (zi 1) s_ ([] : List Qa))) (.yes (decide (0 ≤ i0)) (.row ((UV a0)[(Int.toNat 0)]?) (a0[(Int.toNat 0)]?) Xz fun (e1 : Qy) => (Qkk e1 fun r2 => (rt UG r2))))))
theorem Xv.ok {a0 : (List Qy)} {r : Qa} (h : Xv a0 = some r) : ww 66 [.sl (UV a0)] [] = some (UG r) := by
 refine fnP (QpZ a0) ?_ h
 exact ⟨(Z8 _), ⟨rfl, fun q0 => rfl, fun q0 => ⟨rfl, fun e1 h => ⟨SN h, fun r2 h => ⟨JR.ok h, rfl⟩⟩⟩⟩⟩
noncomputable abbrev Qg0 {ρ R : Type} (a0 : (List Qy)) (k : Qa → Tr ρ R) : Tr ρ R := .call (ww 66 [.sl (UV a0)] []) (Xv a0) UG k
abbrev SA := Option (List ByteArray)
def Qgx : Option (List ByteArray) := (some [s_a, s_b1, EN, s_x])
noncomputable def Jz : SA := Qgx
theorem Jz.eq : Jz = Qgx := rfl
noncomputable def QmF : Tr (List ByteArray) AH := (.rows [[xs s_a], [xs s_b1], [xs EN], [xs s_x]] (Qi [s_a, s_b1, EN, s_x]) (rt Jp [s_a, s_b1, EN, s_x]))
theorem Jz.ok {r : (List ByteArray)} (h : Jz = some r) : ww 64 [] [] = some (Jp r) := by
 refine fnP (QmF) ?_ h
 exact ⟨(QU [s_a, s_b1, EN, s_x]), rfl⟩
noncomputable abbrev Vo {ρ R : Type} (k : (List ByteArray) → Tr ρ R) : Tr ρ R := .call (ww 64 [] []) (Jz) Jp k
abbrev Xj := Int → Option ByteArray
abbrev Qh3 (c : Xj) : Prop := ∀ (a0 : Int) (r : ByteArray), c a0 = some r → ww 40 [xi a0] [] = some (Qf r)
noncomputable abbrev Pk {ρ R : Type} (c : Xj) (a0 : Int) (k : ByteArray → Tr ρ R) : Tr ρ R := .call (ww 40 [xi a0] []) (c a0) Qf k
def Y8 (C0 : Xj) (a0 : Int) : Option ByteArray := (bif (decide (a0 < 0)) then ((C0 (w64 ((0 : Int) - a0))).bind fun r1 => (bif (decide (((h_2d.size + r1.size : Nat) : Int) ≤ IntKind.i64.max)) then (some (h_2d ++ r1)) else none)) else (bif (decide (a0 ≥ 10)) then ((C0 (w64 (Int.tdiv a0 (10 : Int)))).bind fun r2 => ((C0 (Int.tmod a0 (10 : Int))).bind fun r3 => (bif (decide (((r2.size + r3.size : Nat) : Int) ≤ IntKind.i64.max)) then (some (r2 ++ r3)) else none))) else ((some (listB [(IntKind.u8.wrap (w64 ((48 : Int) + a0)))])).bind fun e4 => (some (⟨e4.toArray⟩ : ByteArray)))))
theorem Qgy {C0 : Nat → Xj} {D0 : Xj} (H0 : Cv1 C0 D0) (a0 : Int) : Cv (fun k => Y8 (C0 k) a0) (Y8 D0 a0) := by
 unfold Y8
 exact .cond (.bind (H0 _) fun r1 => by exact .const _) (.cond (.bind (H0 _) fun r2 => .bind (H0 _) fun r3 => by exact .const _) cst)
noncomputable def QmG (C0 : Xj) (a0 : Int) : Tr ByteArray AH := (.as (decide (a0 < 0)) (Pk C0 (w64 (i0 - a0)) fun r1 => (.as (decide (((h_2d.size + r1.size : Nat) : Int) ≤ IntKind.i64.max)) (rt Qf (h_2d ++ r1)) .fail)) (.as (decide (a0 ≥ 10)) (.yes (decide ((zi 10) ≠ 0)) (Pk C0 (w64 (Int.tdiv a0 (zi 10))) fun r2 => (.yes (decide ((zi 10) ≠ 0)) (Pk C0 (Int.tmod a0 (zi 10)) fun r3 => (.as (decide (((r2.size + r3.size : Nat) : Int) ≤ IntKind.i64.max)) (rt Qf (r2 ++ r3)) .fail))))) (.rows [[xb (IntKind.u8.wrap (w64 ((zi 48) + a0)))]] (R_u8 [(IntKind.u8.wrap (w64 ((zi 48) + a0)))]) (.byt (bytesOfRows (R_u8 [(IntKind.u8.wrap (w64 ((zi 48) + a0)))])) (some (listB [(IntKind.u8.wrap (w64 ((zi 48) + a0)))])) fun (e4 : List UInt8) => (rt Qf (⟨e4.toArray⟩ : ByteArray))))))
noncomputable def Jk.s : Nat → Int → Option ByteArray
 | 0, _ => none
 | k + 1, a0 => Y8 (fun a0 => Jk.s k a0) a0
termination_by structural k => k
theorem QdA : ∀ (k : Nat), (Qh3 (Jk.s k))
 | 0 => fun _ _ h => (nomatch h)
 | k + 1 => by
  have i_r3_Digits : Qh3 (Jk.s k) := QdA k
  exact fun a0 r h => by
    refine fnP (QmG (Jk.s k) a0) ?_ h
    exact ⟨rfl, fun q0 => fun r1 h => ⟨i_r3_Digits _ _ h, ⟨rfl, fun q1 => rfl, fun q1 => trivial⟩⟩, fun q0 => ⟨rfl, fun q1 => ⟨rfl, fun r2 h => ⟨i_r3_Digits _ _ h, ⟨rfl, fun r3 h => ⟨i_r3_Digits _ _ h, ⟨rfl, fun q2 => rfl, fun q2 => trivial⟩⟩⟩⟩⟩, fun q1 => ⟨(QpR [(IntKind.u8.wrap (w64 ((48 : Int) + a0)))]), fun e4 h => ⟨(QoO _).trans h, rfl⟩⟩⟩⟩
theorem Qcs : ∀ (k : Nat), (∀ (a0 : Int), Le (Jk.s k a0) (Jk.s (k + 1) a0))
 | 0 => fun _ _ h => (nomatch h)
 | k + 1 => by
  have i_r3_Digits : ∀ (a0 : Int), Le (Jk.s k a0) (Jk.s (k + 1) a0) := Qcs k
  exact fun a0 => (Qgy (tw1 i_r3_Digits) a0).1 0
noncomputable def Jk (a0 : Int) : Option ByteArray := lim fun k => Jk.s k a0
theorem Jk.cv (a0 : Int) : Cv (fun k => Jk.s k a0) (Jk a0) := .lim fun k => (Qcs k) a0
theorem Jk.ok {a0 : Int} {r : ByteArray} (h : Jk a0 = some r) : ww 40 [xi a0] [] = some (Qf r) := let ⟨k, e⟩ := ((Jk.cv a0).2 r).1 h; (QdA k) a0 _ e
theorem Jk.eq (a0 : Int) : Jk a0 = Y8 Jk a0 := Cv.uniq (Jk.cv a0).shift (Qgy Jk.cv a0)
noncomputable abbrev Pl {ρ R : Type} (a0 : Int) (k : ByteArray → Tr ρ R) : Tr ρ R := Pk Jk a0 k
def El (r : Qe) : AV × Heap := (.tup [], [(0, .box [] (Jb r))])
abbrev Fl := Qe → Option Qe
def Z1 (a : Qe) : St := { n := 31, nx := 1, env := [(0, .ptr 0 0)], heap := [(0, .box [] (Jb a))] }
def YB (a : Qe) : Ex × St := (.exit 0, { n := 31, nx := 1, env := [], heap := [(0, .box [] (Jb a))] })
abbrev PI := Qe → Option Qe
def YC (a : Qe) : Option (Qe ⊕ Qe) := (bif (decide (a.P < ((a.S.size : Nat) : Int))) then (bif (decide (0 ≤ a.P ∧ a.P < ((a.S.size : Nat) : Int))) then (bif (((a.S.data.getD (Int.toNat a.P) 0).toNat : Int) == 32) then (some (.inl (Qe.mk a.S (w64 (a.P + 1)) a.Deep a.Bad))) else (some (.inr a))) else none) else (some (.inr a)))
noncomputable def UH : PI := loopW (YC )
theorem UH.eq (a : Qe) : UH a = (YC a).bind (Sum.elim UH some) := JM _ _
noncomputable abbrev QdX {ρ R : Type} (a : Qe) (k0 : Qe → Tr ρ R) : Tr ρ R := .loop (loopAt pp 160 0) (Z1 a) (UH a) YB k0
noncomputable def QdY (a : Qe) : Tr (Qe ⊕ Qe) XS := (let u105 := (decide (a.P < (zz a.S))); .as u105 (yesN 8 u105 (.as (in1 a.P (zz a.S)) (yesN 2 u105 (.as ((gb a.S a.P) == 32) (lf Z1 (Qe.mk a.S (w64 (a.P + 1)) a.Deep a.Bad)) (rx YB a))) .fail)) (noN 10 u105 (.no false (rx YB a))))
theorem UH.ok {a : Qe} {r : Qe} (h : UH a = some r) : lw 1 160 (loopAt pp 160 0) (Z1 a) = some (YB r) := by
 refine lpP h QdY fun a => ?_
 exact ⟨rfl, fun q0 => Ql 8 (q0) (⟨rfl, fun q1 => Ql 2 (q0) (⟨rfl, fun q2 => rfl, fun q2 => rfl⟩), fun q1 => trivial⟩), fun q0 => noN_ok 10 (q0) (⟨rfl, rfl⟩)⟩
def Em (L0 : PI) (h0 : Qe) : Option Qe := ((L0 h0).bind (fun (o1 : Qe) => (some o1)))
noncomputable def UR : Fl := Em UH
theorem UR.eq (h0 : Qe) : UR h0 = Em UH h0 := rfl
noncomputable def Qg1 (h0 : Qe) : Tr Qe AH := (QdX h0 (fun o1 => (rt El o1)))
theorem UR.ok {h0 : Qe} {r : Qe} (h : UR h0 = some r) : ww 160 [.ptr 0 0] [(0, .box [] (Jb h0))] = some (El r) := by
 refine fnP (Qg1 h0) ?_ h
 exact fun o1 h => ⟨UH.ok h, rfl⟩
noncomputable abbrev QaD {ρ R : Type} (h0 : Qe) (k : Qe → Tr ρ R) : Tr ρ R := .call (ww 160 [.ptr 0 0] [(0, .box [] (Jb h0))]) (UR h0) El k
def Zu (r : (Bool × Qe)) : AV × Heap := (xo r.1, [(0, .box [] (Jb r.2))])
abbrev Xs := ByteArray → Qe → Option (Bool × Qe)
def F0 (C0 : Fl) (a1 : ByteArray) (h0 : Qe) : Option (Bool × Qe) := ((C0 h0).bind fun r1 => (bif (decide ((w64 (r1.P + ((a1.size : Nat) : Int))) > ((r1.S.size : Nat) : Int))) then (some (false, r1)) else (bif (decide (0 ≤ r1.P ∧ r1.P ≤ (w64 (r1.P + ((a1.size : Nat) : Int))) ∧ (w64 (r1.P + ((a1.size : Nat) : Int))) ≤ ((r1.S.size : Nat) : Int))) then (bif (!(eqS (r1.S.extract (Int.toNat r1.P) (Int.toNat (w64 (r1.P + ((a1.size : Nat) : Int))))) a1)) then (some (false, r1)) else (some (true, (Qe.mk r1.S (w64 (r1.P + ((a1.size : Nat) : Int))) r1.Deep r1.Bad)))) else none)))
noncomputable def Uk : Xs := F0 UR
theorem Uk.eq (a1 : ByteArray) (h0 : Qe) : Uk a1 h0 = F0 UR a1 h0 := rfl
noncomputable def QiM (a1 : ByteArray) (h0 : Qe) : Tr (Bool × Qe) AH := (QaD h0 fun r1 => (let u106 := (decide ((w64 (r1.P + (zz a1))) > (zz r1.S))); .as u106 (yesN 18 u106 (.yes true (rt Zu (false, r1)))) (noN 15 u106 (.as (in2 r1.P (w64 (r1.P + (zz a1))) (zz r1.S)) (noN 3 u106 (.as (!(eqS (cu r1.S r1.P (w64 (r1.P + (zz a1)))) a1)) (rt Zu (false, r1)) (rt Zu (true, (Qe.mk r1.S (w64 (r1.P + (zz a1))) r1.Deep r1.Bad))))) .fail))))
theorem Uk.ok {a1 : ByteArray} {h0 : Qe} {r : (Bool × Qe)} (h : Uk a1 h0 = some r) : ww 233 [.ptr 0 0, xs a1] [(0, .box [] (Jb h0))] = some (Zu r) := by
 refine fnP (QiM a1 h0) ?_ h
 exact fun r1 h => ⟨UR.ok h, ⟨rfl, fun q0 => Ql 18 (q0) (⟨rfl, rfl⟩), fun q0 => noN_ok 15 (q0) (⟨rfl, fun q1 => noN_ok 3 (q0) (⟨rfl, fun q2 => rfl, fun q2 => rfl⟩), fun q1 => trivial⟩)⟩⟩
noncomputable abbrev Ym {ρ R : Type} (a1 : ByteArray) (h0 : Qe) (k : (Bool × Qe) → Tr ρ R) : Tr ρ R := .call (ww 233 [.ptr 0 0, xs a1] [(0, .box [] (Jb h0))]) (Uk a1 h0) Zu k
abbrev PJ := Int → Int → Option Int
def Fm (a0 : Int) (a1 : Int) : Option Int := (bif (decide (a0 ≥ 48)) then (bif (decide (a0 ≤ (57 : Int))) then (some (w64 (IntKind.u8.wrap (a0 - 48)))) else (bif (a1 == 16) then (bif (decide (a0 ≥ 97)) then (bif (decide (a0 ≤ (102 : Int))) then (some (w64 ((w64 (IntKind.u8.wrap (a0 - 97))) + 10))) else (some (-1 : Int))) else (some (-1 : Int))) else (some (-1 : Int)))) else (bif (a1 == 16) then (bif (decide (a0 ≥ 97)) then (bif (decide (a0 ≤ (102 : Int))) then (some (w64 ((w64 (IntKind.u8.wrap (a0 - 97))) + 10))) else (some (-1 : Int))) else (some (-1 : Int))) else (some (-1 : Int))))
noncomputable def VH : PJ := Fm
theorem VH.eq (a0 : Int) (a1 : Int) : VH a0 a1 = Fm a0 a1 := rfl
noncomputable def Qoc (a0 : Int) (a1 : Int) : Tr Int AH := (let u111 := (decide (a0 ≥ 48)); .as u111 (yesN 2 u111 (.as (decide (a0 ≤ (zi 57))) (rt Qp (w64 (IntKind.u8.wrap (a0 - 48)))) (let u108 := (a1 == 16); .as u108 (yesN 2 u108 (let u107 := (decide (a0 ≥ 97)); .as u107 (yesN 2 u107 (.as (decide (a0 ≤ (zi 102))) (rt Qp (w64 ((w64 (IntKind.u8.wrap (a0 - 97))) + 10))) (rt Qp (-1 : Int)))) (noN 2 u107 (.no false (rt Qp (-1 : Int)))))) (noN 2 u108 (noN 4 false (rt Qp (-1 : Int))))))) (noN 2 u111 (.no false (let u110 := (a1 == 16); .as u110 (yesN 2 u110 (let u109 := (decide (a0 ≥ 97)); .as u109 (yesN 2 u109 (.as (decide (a0 ≤ (zi 102))) (rt Qp (w64 ((w64 (IntKind.u8.wrap (a0 - 97))) + 10))) (rt Qp (-1 : Int)))) (noN 2 u109 (.no false (rt Qp (-1 : Int)))))) (noN 2 u110 (noN 4 false (rt Qp (-1 : Int))))))))
theorem VH.ok {a0 : Int} {a1 : Int} {r : Int} (h : VH a0 a1 = some r) : ww 236 [xb a0, xi a1] [] = some (Qp r) := by
 refine fnP (Qoc a0 a1) ?_ h
 exact ⟨rfl, fun q0 => Ql 2 (q0) (⟨rfl, fun q1 => rfl, fun q1 => ⟨rfl, fun q2 => Ql 2 (q2) (⟨rfl, fun q3 => Ql 2 (q3) (⟨rfl, fun q4 => rfl, fun q4 => rfl⟩), fun q3 => noN_ok 2 (q3) (⟨rfl, rfl⟩)⟩), fun q2 => noN_ok 2 (q2) (noN_ok 4 (rfl) (rfl))⟩⟩), fun q0 => noN_ok 2 (q0) (⟨rfl, ⟨rfl, fun q1 => Ql 2 (q1) (⟨rfl, fun q2 => Ql 2 (q2) (⟨rfl, fun q3 => rfl, fun q3 => rfl⟩), fun q2 => noN_ok 2 (q2) (⟨rfl, rfl⟩)⟩), fun q1 => noN_ok 2 (q1) (noN_ok 4 (rfl) (rfl))⟩⟩)⟩
noncomputable abbrev Qc5 {ρ R : Type} (a0 : Int) (a1 : Int) (k : Int → Tr ρ R) : Tr ρ R := .call (ww 236 [xb a0, xi a1] []) (VH a0 a1) Qp k
def QA (r : (Qa × Qe)) : AV × Heap := (.agg (QL r.1), [(0, .box [] (Jb r.2))])
abbrev Zf := Int → Qe → Option (Qa × Qe)
structure JH where
 x1 : Int
 x5 : Int
 x6 : Int
 h0 : Qe
 h1 : Qa
structure Uj where
 h0 : Qe
 h1 : Qa
structure JO where
 x5 : Int
 x6 : Int
 h0 : Qe
 h1 : Qa
def Zv (a : JH) : St := { n := 74, nx := 2, env := [(0, .ptr 0 0), (1, xi a.x1), (4, .ptr 1 0), (5, xi a.x5), (6, xi a.x6)], heap := [(0, .box [] (Jb a.h0)), (1, .box [] (QL a.h1))] }
def G8 (a : Uj) : Ex × St := (.ret, { n := 74, nx := 2, env := [(4, .ptr 1 0)], heap := [(0, .box [] (Jb a.h0)), (1, .box [] (QL a.h1))] })
def G9 (a : JO) : Ex × St := (.exit 0, { n := 74, nx := 2, env := [(0, .ptr 0 0), (4, .ptr 1 0), (5, xi a.x5), (6, xi a.x6)], heap := [(0, .box [] (Jb a.h0)), (1, .box [] (QL a.h1))] })
def XT (a : (Uj ⊕ JO)) : Ex × St := Sum.elim G8 G9 a
abbrev Fo := JH → Option (Uj ⊕ JO)
def W8 (C0 : PJ) (a : JH) : Option (JH ⊕ (Uj ⊕ JO)) := (bif (decide (a.h0.P < ((a.h0.S.size : Nat) : Int))) then (bif (decide (0 ≤ a.h0.P ∧ a.h0.P < ((a.h0.S.size : Nat) : Int))) then ((C0 ((a.h0.S.data.getD (Int.toNat a.h0.P) 0).toNat : Int) a.x1).bind fun r1 => (bif (decide (r1 ≥ 0)) then ((C0 ((a.h0.S.data.getD (Int.toNat a.h0.P) 0).toNat : Int) a.x1).bind fun r2 => (bif (decide ((w64 ((w64 (a.x1 * a.x5)) + r2)) ≥ 4294967296)) then (some (.inr (.inl (Uj.mk (Qe.mk a.h0.S (w64 (a.h0.P + 1)) a.h0.Deep true) (Qa.mk (0 : Int) (0 : Int) s_ ([] : List Qa)))))) else (some (.inl (JH.mk a.x1 (w64 ((w64 (a.x1 * a.x5)) + r2)) a.x6 (Qe.mk a.h0.S (w64 (a.h0.P + 1)) a.h0.Deep a.h0.Bad) a.h1))))) else (some (.inr (.inr (JO.mk a.x5 a.x6 a.h0 a.h1)))))) else none) else (some (.inr (.inr (JO.mk a.x5 a.x6 a.h0 a.h1)))))
noncomputable def Q9 : Fo := loopW (W8 VH)
theorem Q9.eq (a : JH) : Q9 a = (W8 VH a).bind (Sum.elim Q9 some) := JM _ _
noncomputable abbrev Qct {ρ R : Type} (a : JH) (k0 : Uj → Tr ρ R) (k1 : JO → Tr ρ R) : Tr ρ R := .loop2 (loopAt pp 235 2) (Zv a) (Q9 a) G8 G9 k0 k1
noncomputable def Qcu (a : JH) : Tr (JH ⊕ (Uj ⊕ JO)) XS := (let u113 := (decide (a.h0.P < (zz a.h0.S))); .as u113 (yesN 8 u113 (let u112 := (in1 a.h0.P (zz a.h0.S)); .as u112 (yesN 2 u113 (Qc5 (gb a.h0.S a.h0.P) a.x1 fun r1 => (yesN 2 u113 (.as (decide (r1 ≥ 0)) (.yes u112 (Qc5 (gb a.h0.S a.h0.P) a.x1 fun r2 => (.as (decide ((w64 ((w64 (a.x1 * a.x5)) + r2)) ≥ 4294967296)) (rx XT (.inl (Uj.mk (Qe.mk a.h0.S (w64 (a.h0.P + 1)) a.h0.Deep true) (Qa.mk i0 i0 s_ ([] : List Qa))))) (lf Zv (JH.mk a.x1 (w64 ((w64 (a.x1 * a.x5)) + r2)) a.x6 (Qe.mk a.h0.S (w64 (a.h0.P + 1)) a.h0.Deep a.h0.Bad) a.h1))))) (rx XT (.inr (JO.mk a.x5 a.x6 a.h0 a.h1))))))) .fail)) (noN 12 u113 (.no false (rx XT (.inr (JO.mk a.x5 a.x6 a.h0 a.h1))))))
theorem Q9.ok {a : JH} {r : (Uj ⊕ JO)} (h : Q9 a = some r) : lw 1 235 (loopAt pp 235 2) (Zv a) = some (XT r) := by
 refine lpP h Qcu fun a => ?_
 exact ⟨rfl, fun q0 => Ql 8 (q0) (⟨rfl, fun q1 => Ql 2 (q0) (fun r1 h => ⟨VH.ok h, Ql 2 (q0) (⟨rfl, fun q2 => ⟨q1, fun r2 h => ⟨VH.ok h, ⟨rfl, fun q3 => rfl, fun q3 => rfl⟩⟩⟩, fun q2 => rfl⟩)⟩), fun q1 => trivial⟩), fun q0 => noN_ok 12 (q0) (⟨rfl, rfl⟩)⟩
def YX (L0 : Fo) (a1 : Int) (h0 : Qe) : Option (Qa × Qe) := ((L0 (JH.mk a1 (0 : Int) h0.P h0 (Qa.mk (0 : Int) (0 : Int) s_ ([] : List Qa)))).bind fun x => Sum.elim (fun (o1 : Uj) => (some (o1.h1, o1.h0))) (fun (o2 : JO) => (bif (o2.x6 == o2.h0.P) then (some ((Qa.mk (1 : Int) o2.x5 s_ ([] : List Qa)), (Qe.mk o2.h0.S o2.h0.P o2.h0.Deep true))) else (some ((Qa.mk (1 : Int) o2.x5 s_ ([] : List Qa)), o2.h0)))) x)
noncomputable def J4 : Zf := YX Q9
theorem J4.eq (a1 : Int) (h0 : Qe) : J4 a1 h0 = YX Q9 a1 h0 := rfl
noncomputable def Qe0 (a1 : Int) (h0 : Qe) : Tr (Qa × Qe) AH := (Qct (JH.mk a1 i0 h0.P h0 (Qa.mk i0 i0 s_ ([] : List Qa))) (fun o1 => (rt QA (o1.h1, o1.h0))) (fun o2 => (.as (o2.x6 == o2.h0.P) (rt QA ((Qa.mk (zi 1) o2.x5 s_ ([] : List Qa)), (Qe.mk o2.h0.S o2.h0.P o2.h0.Deep true))) (rt QA ((Qa.mk (zi 1) o2.x5 s_ ([] : List Qa)), o2.h0)))))
theorem J4.ok {a1 : Int} {h0 : Qe} {r : (Qa × Qe)} (h : J4 a1 h0 = some r) : ww 235 [.ptr 0 0, xi a1] [(0, .box [] (Jb h0))] = some (QA r) := by
 refine fnP (Qe0 a1 h0) ?_ h
 exact ⟨fun o1 h => ⟨Q9.ok (r := (.inl _)) h, rfl⟩, fun o2 h => ⟨Q9.ok (r := (.inr _)) h, ⟨rfl, fun q0 => rfl, fun q0 => rfl⟩⟩⟩
noncomputable abbrev PK {ρ R : Type} (a1 : Int) (h0 : Qe) (k : (Qa × Qe) → Tr ρ R) : Tr ρ R := .call (ww 235 [.ptr 0 0, xi a1] [(0, .box [] (Jb h0))]) (J4 a1 h0) QA k
abbrev Z4 := Qe → Option (Qa × Qe)
structure QN where
 x3 : Int
 h0 : Qe
 h1 : Qa
structure Jh where
 x3 : Int
 h0 : Qe
 h1 : Qa
def Vh (a : QN) : St := { n := 111, nx := 2, env := [(0, .ptr 0 0), (2, .ptr 1 0), (3, xi a.x3)], heap := [(0, .box [] (Jb a.h0)), (1, .box [] (QL a.h1))] }
def Wk (a : Jh) : Ex × St := (.exit 0, { n := 111, nx := 2, env := [(0, .ptr 0 0), (2, .ptr 1 0), (3, xi a.x3)], heap := [(0, .box [] (Jb a.h0)), (1, .box [] (QL a.h1))] })
abbrev PM := QN → Option Jh
def YD (a : QN) : Option (QN ⊕ Jh) := (bif (decide (a.h0.P < ((a.h0.S.size : Nat) : Int))) then (bif (decide (0 ≤ a.h0.P ∧ a.h0.P < ((a.h0.S.size : Nat) : Int))) then (bif (decide (((a.h0.S.data.getD (Int.toNat a.h0.P) 0).toNat : Int) ≥ 97)) then (bif (decide (((a.h0.S.data.getD (Int.toNat a.h0.P) 0).toNat : Int) ≤ 122)) then (some (.inl (QN.mk a.x3 (Qe.mk a.h0.S (w64 (a.h0.P + 1)) a.h0.Deep a.h0.Bad) a.h1))) else (bif (decide (((a.h0.S.data.getD (Int.toNat a.h0.P) 0).toNat : Int) ≥ 48)) then (bif (decide (((a.h0.S.data.getD (Int.toNat a.h0.P) 0).toNat : Int) ≤ 57)) then (some (.inl (QN.mk a.x3 (Qe.mk a.h0.S (w64 (a.h0.P + 1)) a.h0.Deep a.h0.Bad) a.h1))) else (bif (((a.h0.S.data.getD (Int.toNat a.h0.P) 0).toNat : Int) == 95) then (some (.inl (QN.mk a.x3 (Qe.mk a.h0.S (w64 (a.h0.P + 1)) a.h0.Deep a.h0.Bad) a.h1))) else (some (.inr (Jh.mk a.x3 a.h0 a.h1))))) else (bif (((a.h0.S.data.getD (Int.toNat a.h0.P) 0).toNat : Int) == 95) then (some (.inl (QN.mk a.x3 (Qe.mk a.h0.S (w64 (a.h0.P + 1)) a.h0.Deep a.h0.Bad) a.h1))) else (some (.inr (Jh.mk a.x3 a.h0 a.h1)))))) else (bif (decide (((a.h0.S.data.getD (Int.toNat a.h0.P) 0).toNat : Int) ≥ 48)) then (bif (decide (((a.h0.S.data.getD (Int.toNat a.h0.P) 0).toNat : Int) ≤ 57)) then (some (.inl (QN.mk a.x3 (Qe.mk a.h0.S (w64 (a.h0.P + 1)) a.h0.Deep a.h0.Bad) a.h1))) else (bif (((a.h0.S.data.getD (Int.toNat a.h0.P) 0).toNat : Int) == 95) then (some (.inl (QN.mk a.x3 (Qe.mk a.h0.S (w64 (a.h0.P + 1)) a.h0.Deep a.h0.Bad) a.h1))) else (some (.inr (Jh.mk a.x3 a.h0 a.h1))))) else (bif (((a.h0.S.data.getD (Int.toNat a.h0.P) 0).toNat : Int) == 95) then (some (.inl (QN.mk a.x3 (Qe.mk a.h0.S (w64 (a.h0.P + 1)) a.h0.Deep a.h0.Bad) a.h1))) else (some (.inr (Jh.mk a.x3 a.h0 a.h1)))))) else none) else (some (.inr (Jh.mk a.x3 a.h0 a.h1))))
noncomputable def Us : PM := loopW (YD )
theorem Us.eq (a : QN) : Us a = (YD a).bind (Sum.elim Us some) := JM _ _
noncomputable abbrev QdZ {ρ R : Type} (a : QN) (k0 : Jh → Tr ρ R) : Tr ρ R := .loop (loopAt pp 237 2) (Vh a) (Us a) Wk k0
noncomputable def Qd0 (a : QN) : Tr (QN ⊕ Jh) XS := (let u121 := (decide (a.h0.P < (zz a.h0.S))); .as u121 (yesN 8 u121 (let u120 := (in1 a.h0.P (zz a.h0.S)); .as u120 (yesN 2 u121 (let u119 := (decide ((gb a.h0.S a.h0.P) ≥ 97)); .as u119 (yesN 8 u119 (.yes u120 (.yes u119 (.yes u121 (.yes u119 (.yes u121 (let u116 := (decide ((gb a.h0.S a.h0.P) ≤ 122)); .as u116 (yesN 11 u116 (.yes u121 (.yes u116 (.yes u121 (yesN 10 true (.yes u121 (.yes true (.yes u121 (.yes true (lf Vh (QN.mk a.x3 (Qe.mk a.h0.S (w64 (a.h0.P + 1)) a.h0.Deep a.h0.Bad) a.h1))))))))))) (noN 8 u116 (.yes u120 (noN 2 u116 (let u115 := (decide ((gb a.h0.S a.h0.P) ≥ 48)); .as u115 (yesN 8 u115 (.yes u120 (.yes u115 (.no u116 (.yes u115 (.yes u121 (.no u116 (.yes u121 (let u114 := (decide ((gb a.h0.S a.h0.P) ≤ 57)); .as u114 (yesN 9 u114 (.yes u121 (.yes u114 (.yes u121 (.yes true (lf Vh (QN.mk a.x3 (Qe.mk a.h0.S (w64 (a.h0.P + 1)) a.h0.Deep a.h0.Bad) a.h1))))))) (noN 8 u114 (.yes u120 (.no u114 (.yes u121 (.no u114 (.yes u121 (.as ((gb a.h0.S a.h0.P) == 95) (lf Vh (QN.mk a.x3 (Qe.mk a.h0.S (w64 (a.h0.P + 1)) a.h0.Deep a.h0.Bad) a.h1)) (rx Wk (Jh.mk a.x3 a.h0 a.h1)))))))))))))))))) (noN 9 u115 (.no u116 (.no u115 (.yes u121 (.no u116 (.yes u121 (noN 9 false (.yes u120 (.no false (.yes u121 (.no false (.yes u121 (.as ((gb a.h0.S a.h0.P) == 95) (lf Vh (QN.mk a.x3 (Qe.mk a.h0.S (w64 (a.h0.P + 1)) a.h0.Deep a.h0.Bad) a.h1)) (rx Wk (Jh.mk a.x3 a.h0 a.h1)))))))))))))))))))))))))) (noN 9 u119 (.yes u121 (.no u119 (.yes u121 (noN 9 false (.yes u120 (noN 2 false (let u118 := (decide ((gb a.h0.S a.h0.P) ≥ 48)); .as u118 (yesN 8 u118 (.yes u120 (.yes u118 (.no false (.yes u118 (.yes u121 (.no false (.yes u121 (let u117 := (decide ((gb a.h0.S a.h0.P) ≤ 57)); .as u117 (yesN 9 u117 (.yes u121 (.yes u117 (.yes u121 (.yes true (lf Vh (QN.mk a.x3 (Qe.mk a.h0.S (w64 (a.h0.P + 1)) a.h0.Deep a.h0.Bad) a.h1))))))) (noN 8 u117 (.yes u120 (.no u117 (.yes u121 (.no u117 (.yes u121 (.as ((gb a.h0.S a.h0.P) == 95) (lf Vh (QN.mk a.x3 (Qe.mk a.h0.S (w64 (a.h0.P + 1)) a.h0.Deep a.h0.Bad) a.h1)) (rx Wk (Jh.mk a.x3 a.h0 a.h1)))))))))))))))))) (noN 9 u118 (.no false (.no u118 (.yes u121 (.no false (.yes u121 (noN 9 false (.yes u120 (.no false (.yes u121 (.no false (.yes u121 (.as ((gb a.h0.S a.h0.P) == 95) (lf Vh (QN.mk a.x3 (Qe.mk a.h0.S (w64 (a.h0.P + 1)) a.h0.Deep a.h0.Bad) a.h1)) (rx Wk (Jh.mk a.x3 a.h0 a.h1))))))))))))))))))))))))) .fail)) (noN 16 u121 (.no false (rx Wk (Jh.mk a.x3 a.h0 a.h1)))))
theorem Us.ok {a : QN} {r : Jh} (h : Us a = some r) : lw 1 237 (loopAt pp 237 2) (Vh a) = some (Wk r) := by
 refine lpP h Qd0 fun a => ?_
 exact ⟨rfl, fun q0 => Ql 8 (q0) (⟨rfl, fun q1 => Ql 2 (q0) (⟨rfl, fun q2 => Ql 8 (q2) (⟨q1, ⟨q2, ⟨q0, ⟨q2, ⟨q0, ⟨rfl, fun q3 => Ql 11 (q3) (⟨q0, ⟨q3, ⟨q0, Ql 10 (rfl) (⟨q0, ⟨rfl, ⟨q0, ⟨rfl, rfl⟩⟩⟩⟩)⟩⟩⟩), fun q3 => noN_ok 8 (q3) (⟨q1, noN_ok 2 (q3) (⟨rfl, fun q4 => Ql 8 (q4) (⟨q1, ⟨q4, ⟨q3, ⟨q4, ⟨q0, ⟨q3, ⟨q0, ⟨rfl, fun q5 => Ql 9 (q5) (⟨q0, ⟨q5, ⟨q0, ⟨rfl, rfl⟩⟩⟩⟩), fun q5 => noN_ok 8 (q5) (⟨q1, ⟨q5, ⟨q0, ⟨q5, ⟨q0, ⟨rfl, fun q6 => rfl, fun q6 => rfl⟩⟩⟩⟩⟩⟩)⟩⟩⟩⟩⟩⟩⟩⟩), fun q4 => noN_ok 9 (q4) (⟨q3, ⟨q4, ⟨q0, ⟨q3, ⟨q0, noN_ok 9 (rfl) (⟨q1, ⟨rfl, ⟨q0, ⟨rfl, ⟨q0, ⟨rfl, fun q5 => rfl, fun q5 => rfl⟩⟩⟩⟩⟩⟩)⟩⟩⟩⟩⟩)⟩)⟩)⟩⟩⟩⟩⟩⟩), fun q2 => noN_ok 9 (q2) (⟨q0, ⟨q2, ⟨q0, noN_ok 9 (rfl) (⟨q1, noN_ok 2 (rfl) (⟨rfl, fun q3 => Ql 8 (q3) (⟨q1, ⟨q3, ⟨rfl, ⟨q3, ⟨q0, ⟨rfl, ⟨q0, ⟨rfl, fun q4 => Ql 9 (q4) (⟨q0, ⟨q4, ⟨q0, ⟨rfl, rfl⟩⟩⟩⟩), fun q4 => noN_ok 8 (q4) (⟨q1, ⟨q4, ⟨q0, ⟨q4, ⟨q0, ⟨rfl, fun q5 => rfl, fun q5 => rfl⟩⟩⟩⟩⟩⟩)⟩⟩⟩⟩⟩⟩⟩⟩), fun q3 => noN_ok 9 (q3) (⟨rfl, ⟨q3, ⟨q0, ⟨rfl, ⟨q0, noN_ok 9 (rfl) (⟨q1, ⟨rfl, ⟨q0, ⟨rfl, ⟨q0, ⟨rfl, fun q4 => rfl, fun q4 => rfl⟩⟩⟩⟩⟩⟩)⟩⟩⟩⟩⟩)⟩)⟩)⟩⟩⟩)⟩), fun q1 => trivial⟩), fun q0 => noN_ok 16 (q0) (⟨rfl, rfl⟩)⟩
def En (C0 : Qk0) (L1 : PM) (h0 : Qe) : Option (Qa × Qe) := ((L1 (QN.mk h0.P h0 (Qa.mk (0 : Int) (0 : Int) s_ ([] : List Qa)))).bind (fun (o1 : Jh) => (bif (decide (0 ≤ o1.x3 ∧ o1.x3 ≤ o1.h0.P ∧ o1.h0.P ≤ ((o1.h0.S.size : Nat) : Int))) then ((C0 (o1.h0.S.extract (Int.toNat o1.x3) (Int.toNat o1.h0.P))).bind fun r2 => (bif (!r2) then (some ((Qa.mk (2 : Int) (0 : Int) (o1.h0.S.extract (Int.toNat o1.x3) (Int.toNat o1.h0.P)) ([] : List Qa)), (Qe.mk o1.h0.S o1.h0.P o1.h0.Deep true))) else (some ((Qa.mk (2 : Int) (0 : Int) (o1.h0.S.extract (Int.toNat o1.x3) (Int.toNat o1.h0.P)) ([] : List Qa)), o1.h0)))) else none)))
noncomputable def Vr : Z4 := En ZR Us
theorem Vr.eq (h0 : Qe) : Vr h0 = En ZR Us h0 := rfl
noncomputable def Qg2 (h0 : Qe) : Tr (Qa × Qe) AH := (QdZ (QN.mk h0.P h0 (Qa.mk i0 i0 s_ ([] : List Qa))) (fun o1 => (let u122 := (in2 o1.x3 o1.h0.P (zz o1.h0.S)); .as u122 (QoR (cu o1.h0.S o1.x3 o1.h0.P) fun r2 => (.as (!r2) (.yes u122 (rt QA ((Qa.mk (zi 2) i0 (cu o1.h0.S o1.x3 o1.h0.P) ([] : List Qa)), (Qe.mk o1.h0.S o1.h0.P o1.h0.Deep true)))) (.yes u122 (rt QA ((Qa.mk (zi 2) i0 (cu o1.h0.S o1.x3 o1.h0.P) ([] : List Qa)), o1.h0))))) .fail)))
theorem Vr.ok {h0 : Qe} {r : (Qa × Qe)} (h : Vr h0 = some r) : ww 237 [.ptr 0 0] [(0, .box [] (Jb h0))] = some (QA r) := by
 refine fnP (Qg2 h0) ?_ h
 exact fun o1 h => ⟨Us.ok h, ⟨rfl, fun q0 => fun r2 h => ⟨ZR.ok h, ⟨rfl, fun q1 => ⟨q0, rfl⟩, fun q1 => ⟨q0, rfl⟩⟩⟩, fun q0 => trivial⟩⟩
noncomputable abbrev QaE {ρ R : Type} (h0 : Qe) (k : (Qa × Qe) → Tr ρ R) : Tr ρ R := .call (ww 237 [.ptr 0 0] [(0, .box [] (Jb h0))]) (Vr h0) QA k
def YY (r : (ByteArray × Int)) : AV × Heap := (.tup [xs r.1, xi r.2], [])
abbrev QaF := Int → Option (ByteArray × Int)
def Qe1 (a0 : Int) : Option (ByteArray × Int) := (bif (a0 == 5) then (some (h_2b, (3 : Int))) else (bif (a0 == 6) then (some (h_2d, (3 : Int))) else (bif (a0 == 7) then (some (h_2a, (4 : Int))) else (bif (a0 == 8) then (some (h_26, (1 : Int))) else (bif (a0 == 9) then (some (h_7c, (0 : Int))) else (bif (a0 == 10) then (some (SS, (2 : Int))) else (some (ST, (2 : Int)))))))))
noncomputable def Yn : QaF := Qe1
theorem Yn.eq (a0 : Int) : Yn a0 = Qe1 a0 := rfl
noncomputable def QoW (a0 : Int) : Tr (ByteArray × Int) AH := (.as (a0 == 5) (rt YY (h_2b, (zi 3))) (.as (a0 == 6) (rt YY (h_2d, (zi 3))) (.as (a0 == 7) (rt YY (h_2a, (zi 4))) (.as (a0 == 8) (rt YY (h_26, (zi 1))) (.as (a0 == 9) (rt YY (h_7c, i0)) (.as (a0 == 10) (rt YY (SS, (zi 2))) (rt YY (ST, (zi 2)))))))))
theorem Yn.ok {a0 : Int} {r : (ByteArray × Int)} (h : Yn a0 = some r) : ww 104 [xi a0] [] = some (YY r) := by
 refine fnP (QoW a0) ?_ h
 exact ⟨rfl, fun q0 => rfl, fun q0 => ⟨rfl, fun q1 => rfl, fun q1 => ⟨rfl, fun q2 => rfl, fun q2 => ⟨rfl, fun q3 => rfl, fun q3 => ⟨rfl, fun q4 => rfl, fun q4 => ⟨rfl, fun q5 => rfl, fun q5 => rfl⟩⟩⟩⟩⟩⟩
noncomputable abbrev Qjx {ρ R : Type} (a0 : Int) (k : (ByteArray × Int) → Tr ρ R) : Tr ρ R := .call (ww 104 [xi a0] []) (Yn a0) YY k
def ZJ (r : (Int × Qe)) : AV × Heap := (xi r.1, [(0, .box [] (Jb r.2))])
abbrev Z5 := Int → Qe → Option (Int × Qe)
structure Jl where
 x1 : Int
 x5 : Int
 h0 : Qe
structure UL where
 x4 : Int
 h0 : Qe
def Xw (a : Jl) : St := { n := 33, nx := 1, env := [(0, .ptr 0 0), (1, xi a.x1), (5, xi a.x5)], heap := [(0, .box [] (Jb a.h0))] }
def Fp (a : UL) : Ex × St := (.ret, { n := 33, nx := 1, env := [(4, xi a.x4)], heap := [(0, .box [] (Jb a.h0))] })
def Fq (a : Qe) : Ex × St := (.exit 0, { n := 33, nx := 1, env := [], heap := [(0, .box [] (Jb a))] })
def Z2 (a : (UL ⊕ Qe)) : Ex × St := Sum.elim Fp Fq a
abbrev PN := Jl → Option (UL ⊕ Qe)
def Xx (C0 : QaF) (C1 : Xs) (a : Jl) : Option (Jl ⊕ (UL ⊕ Qe)) := (bif (decide (a.x5 ≤ 11)) then ((C0 a.x5).bind fun r1 => (bif (r1.2 == a.x1) then (bif (!a.h0.Bad) then ((C1 r1.1 a.h0).bind fun r2 => (bif r2.1 then (some (.inr (.inl (UL.mk a.x5 r2.2)))) else (some (.inl (Jl.mk a.x1 (w64 (a.x5 + 1)) r2.2))))) else (some (.inl (Jl.mk a.x1 (w64 (a.x5 + 1)) a.h0)))) else (some (.inl (Jl.mk a.x1 (w64 (a.x5 + 1)) a.h0))))) else (some (.inr (.inr a.h0))))
noncomputable def Q6 : PN := loopW (Xx Yn Uk)
theorem Q6.eq (a : Jl) : Q6 a = (Xx Yn Uk a).bind (Sum.elim Q6 some) := JM _ _
noncomputable abbrev Qd1 {ρ R : Type} (a : Jl) (k0 : UL → Tr ρ R) (k1 : Qe → Tr ρ R) : Tr ρ R := .loop2 (loopAt pp 207 2) (Xw a) (Q6 a) Fp Fq k0 k1
noncomputable def Qd2 (a : Jl) : Tr (Jl ⊕ (UL ⊕ Qe)) XS := (.as (decide (a.x5 ≤ 11)) (Qjx a.x5 fun r1 => (let u124 := (r1.2 == a.x1); .as u124 (yesN 5 u124 (let u123 := (!a.h0.Bad); .as u123 (yesN 2 u123 (Ym r1.1 a.h0 fun r2 => (.yes u123 (.as r2.1 (rx Z2 (.inl (UL.mk a.x5 r2.2))) (lf Xw (Jl.mk a.x1 (w64 (a.x5 + 1)) r2.2)))))) (noN 3 u123 (.no false (lf Xw (Jl.mk a.x1 (w64 (a.x5 + 1)) a.h0)))))) (noN 5 u124 (noN 5 false (lf Xw (Jl.mk a.x1 (w64 (a.x5 + 1)) a.h0)))))) (rx Z2 (.inr a.h0)))
theorem Q6.ok {a : Jl} {r : (UL ⊕ Qe)} (h : Q6 a = some r) : lw 1 207 (loopAt pp 207 2) (Xw a) = some (Z2 r) := by
 refine lpP h Qd2 fun a => ?_
 exact ⟨rfl, fun q0 => fun r1 h => ⟨Yn.ok h, ⟨rfl, fun q1 => Ql 5 (q1) (⟨rfl, fun q2 => Ql 2 (q2) (fun r2 h => ⟨Uk.ok h, ⟨q2, ⟨rfl, fun q3 => rfl, fun q3 => rfl⟩⟩⟩), fun q2 => noN_ok 3 (q2) (⟨rfl, rfl⟩)⟩), fun q1 => noN_ok 5 (q1) (noN_ok 5 (rfl) (rfl))⟩⟩, fun q0 => rfl⟩
def ZK (L0 : PN) (a1 : Int) (h0 : Qe) : Option (Int × Qe) := ((L0 (Jl.mk a1 (5 : Int) h0)).bind fun x => Sum.elim (fun (o1 : UL) => (some (o1.x4, o1.h0))) (fun (o2 : Qe) => (some ((0 : Int), o2))) x)
noncomputable def Va : Z5 := ZK Q6
theorem Va.eq (a1 : Int) (h0 : Qe) : Va a1 h0 = ZK Q6 a1 h0 := rfl
noncomputable def Qg3 (a1 : Int) (h0 : Qe) : Tr (Int × Qe) AH := (Qd1 (Jl.mk a1 (zi 5) h0) (fun o1 => (rt ZJ (o1.x4, o1.h0))) (fun o2 => (rt ZJ (i0, o2))))
theorem Va.ok {a1 : Int} {h0 : Qe} {r : (Int × Qe)} (h : Va a1 h0 = some r) : ww 207 [.ptr 0 0, xi a1] [(0, .box [] (Jb h0))] = some (ZJ r) := by
 refine fnP (Qg3 a1 h0) ?_ h
 exact ⟨fun o1 h => ⟨Q6.ok (r := (.inl _)) h, rfl⟩, fun o2 h => ⟨Q6.ok (r := (.inr _)) h, rfl⟩⟩
noncomputable abbrev Qg4 {ρ R : Type} (a1 : Int) (h0 : Qe) (k : (Int × Qe) → Tr ρ R) : Tr ρ R := .call (ww 207 [.ptr 0 0, xi a1] [(0, .box [] (Jb h0))]) (Va a1 h0) ZJ k
abbrev XF := Bool → Qe → Option (Qa × Qe)
abbrev Qg5 (c : XF) : Prop := ∀ (a1 : Bool) (h0 : Qe) (r : (Qa × Qe)), c a1 h0 = some r → ww 234 [.ptr 0 0, xo a1] [(0, .box [] (Jb h0))] = some (QA r)
abbrev Wf := Qe → Option (Qa × Qe)
abbrev QiN (c : Wf) : Prop := ∀ (h0 : Qe) (r : (Qa × Qe)), c h0 = some r → ww 206 [.ptr 0 0] [(0, .box [] (Jb h0))] = some (QA r)
abbrev Jt := Int → Qe → Option (Qa × Qe)
abbrev Qcv (c : Jt) : Prop := ∀ (a1 : Int) (h0 : Qe) (r : (Qa × Qe)), c a1 h0 = some r → ww 159 [.ptr 0 0, xi a1] [(0, .box [] (Jb h0))] = some (QA r)
noncomputable abbrev Sj {ρ R : Type} (c : XF) (a1 : Bool) (h0 : Qe) (k : (Qa × Qe) → Tr ρ R) : Tr ρ R := .call (ww 234 [.ptr 0 0, xo a1] [(0, .box [] (Jb h0))]) (c a1 h0) QA k
noncomputable abbrev Qbb {ρ R : Type} (c : Wf) (h0 : Qe) (k : (Qa × Qe) → Tr ρ R) : Tr ρ R := .call (ww 206 [.ptr 0 0] [(0, .box [] (Jb h0))]) (c h0) QA k
noncomputable abbrev Z6 {ρ R : Type} (c : Jt) (a1 : Int) (h0 : Qe) (k : (Qa × Qe) → Tr ρ R) : Tr ρ R := .call (ww 159 [.ptr 0 0, xi a1] [(0, .box [] (Jb h0))]) (c a1 h0) QA k
def Wi (C0 : Jt) (C1 : Xs) (C2 : Wf) (a1 : Bool) (h0 : Qe) : Option (Qa × Qe) := (bif (decide (h0.Deep ≥ 12)) then (some ((Qa.mk (0 : Int) (0 : Int) s_ ([] : List Qa)), (Qe.mk h0.S h0.P h0.Deep true))) else (bif a1 then ((C0 (0 : Int) (Qe.mk h0.S h0.P (w64 (h0.Deep + 1)) h0.Bad)).bind fun r1 => ((C1 h_29 r1.2).bind fun r2 => (bif (!r2.1) then (some (r1.1, (Qe.mk r2.2.S r2.2.P (w64 (r2.2.Deep - 1)) true))) else (some (r1.1, (Qe.mk r2.2.S r2.2.P (w64 (r2.2.Deep - 1)) r2.2.Bad)))))) else ((C2 (Qe.mk h0.S h0.P (w64 (h0.Deep + 1)) h0.Bad)).bind fun r3 => (some ((Qa.mk (4 : Int) (0 : Int) s_ [r3.1]), (Qe.mk r3.2.S r3.2.P (w64 (r3.2.Deep - 1)) r3.2.Bad))))))
theorem Sk {C0 : Nat → Jt} {D0 : Jt} (H0 : Cv2 C0 D0) {C1 : Nat → Xs} {D1 : Xs} (H1 : Cv2 C1 D1) {C2 : Nat → Wf} {D2 : Wf} (H2 : Cv1 C2 D2) (a1 : Bool) (h0 : Qe) : Cv (fun k => Wi (C0 k) (C1 k) (C2 k) a1 h0) (Wi D0 D1 D2 a1 h0) := by
 unfold Wi
 exact .cond cst (.cond (.bind (H0 _ _) fun r1 => .bind (H1 _ _) fun r2 => by exact .const _) (.bind (H2 _) fun r3 => by exact .const _))
noncomputable def QfZ (C0 : Jt) (C1 : Wf) (a1 : Bool) (h0 : Qe) : Tr (Qa × Qe) AH := (.as (decide (h0.Deep ≥ 12)) (rt QA ((Qa.mk i0 i0 s_ ([] : List Qa)), (Qe.mk h0.S h0.P h0.Deep true))) (.as a1 (Z6 C0 i0 (Qe.mk h0.S h0.P (w64 (h0.Deep + 1)) h0.Bad) fun r1 => (Ym h_29 r1.2 fun r2 => (.as (!r2.1) (rt QA (r1.1, (Qe.mk r2.2.S r2.2.P (w64 (r2.2.Deep - 1)) true))) (rt QA (r1.1, (Qe.mk r2.2.S r2.2.P (w64 (r2.2.Deep - 1)) r2.2.Bad)))))) (Qbb C1 (Qe.mk h0.S h0.P (w64 (h0.Deep + 1)) h0.Bad) fun r3 => (.rows [[xi r3.1.Kind, xi r3.1.N, xs r3.1.Name, .sl (QC r3.1.L)]] (QC [r3.1]) (rt QA ((Qa.mk (zi 4) i0 s_ [r3.1]), (Qe.mk r3.2.S r3.2.P (w64 (r3.2.Deep - 1)) r3.2.Bad)))))))
def Wq (C0 : Xs) (C1 : XF) (C2 : Zf) (C3 : PJ) (C4 : Z4) (h0 : Qe) : Option (Qa × Qe) := (bif h0.Bad then (some ((Qa.mk (0 : Int) (0 : Int) s_ ([] : List Qa)), h0)) else ((C0 h_28 h0).bind fun r1 => (bif r1.1 then ((C1 true r1.2).bind fun r2 => (some (r2.1, r2.2))) else ((C0 h_2d r1.2).bind fun r3 => (bif r3.1 then ((C1 false r3.2).bind fun r4 => (some (r4.1, r4.2))) else ((C0 h_2e r3.2).bind fun r5 => (bif r5.1 then (some ((Qa.mk (3 : Int) (0 : Int) s_ ([] : List Qa)), r5.2)) else ((C0 s_0x r5.2).bind fun r6 => (bif r6.1 then ((C2 (16 : Int) r6.2).bind fun r7 => (some (r7.1, r7.2))) else (bif (decide (r6.2.P < ((r6.2.S.size : Nat) : Int))) then (bif (decide (0 ≤ r6.2.P ∧ r6.2.P < ((r6.2.S.size : Nat) : Int))) then ((C3 ((r6.2.S.data.getD (Int.toNat r6.2.P) 0).toNat : Int) (10 : Int)).bind fun r8 => (bif (decide (r8 ≥ 0)) then ((C2 (10 : Int) r6.2).bind fun r9 => (some (r9.1, r9.2))) else ((C4 r6.2).bind fun r10 => (some (r10.1, r10.2))))) else none) else ((C4 r6.2).bind fun r11 => (some (r11.1, r11.2)))))))))))))
theorem Qbc {C0 : Nat → Xs} {D0 : Xs} (H0 : Cv2 C0 D0) {C1 : Nat → XF} {D1 : XF} (H1 : Cv2 C1 D1) {C2 : Nat → Zf} {D2 : Zf} (H2 : Cv2 C2 D2) {C3 : Nat → PJ} {D3 : PJ} (H3 : Cv2 C3 D3) {C4 : Nat → Z4} {D4 : Z4} (H4 : Cv1 C4 D4) (h0 : Qe) : Cv (fun k => Wq (C0 k) (C1 k) (C2 k) (C3 k) (C4 k) h0) (Wq D0 D1 D2 D3 D4 h0) := by
 unfold Wq
 exact .cond cst (.bind (H0 _ _) fun r1 => .cond (.bind (H1 _ _) fun r2 => by exact .const _) (.bind (H0 _ _) fun r3 => .cond (.bind (H1 _ _) fun r4 => by exact .const _) (.bind (H0 _ _) fun r5 => .cond cst (.bind (H0 _ _) fun r6 => .cond (.bind (H2 _ _) fun r7 => by exact .const _) (.cond (.cond (.bind (H3 _ _) fun r8 => .cond (.bind (H2 _ _) fun r9 => by exact .const _) (.bind (H4 _) fun r10 => by exact .const _)) cst) (.bind (H4 _) fun r11 => by exact .const _))))))
noncomputable def Qh4 (C0 : XF) (h0 : Qe) : Tr (Qa × Qe) AH := (.as h0.Bad (rt QA ((Qa.mk i0 i0 s_ ([] : List Qa)), h0)) (Ym h_28 h0 fun r1 => (.as r1.1 (Sj C0 true r1.2 fun r2 => (rt QA (r2.1, r2.2))) (Ym h_2d r1.2 fun r3 => (.as r3.1 (Sj C0 false r3.2 fun r4 => (rt QA (r4.1, r4.2))) (Ym h_2e r3.2 fun r5 => (.as r5.1 (rt QA ((Qa.mk (zi 3) i0 s_ ([] : List Qa)), r5.2)) (Ym s_0x r5.2 fun r6 => (.as r6.1 (PK (zi 16) r6.2 fun r7 => (rt QA (r7.1, r7.2))) (let u125 := (decide (r6.2.P < (zz r6.2.S))); .as u125 (yesN 8 u125 (.as (in1 r6.2.P (zz r6.2.S)) (.yes u125 (Qc5 (gb r6.2.S r6.2.P) (zi 10) fun r8 => (yesN 2 u125 (.as (decide (r8 ≥ 0)) (PK (zi 10) r6.2 fun r9 => (rt QA (r9.1, r9.2))) (QaE r6.2 fun r10 => (rt QA (r10.1, r10.2))))))) .fail)) (noN 11 u125 (.no false (QaE r6.2 fun r11 => (rt QA (r11.1, r11.2)))))))))))))))
structure JA where
 x1 : Int
 h0 : Qe
 h1 : Qa
 h2 : Qa
structure Vi where
 h0 : Qe
 h1 : Qa
def Gs (a : JA) : St := { n := 29, nx := 3, env := [(0, .ptr 0 0), (1, xi a.x1), (4, .ptr 1 0), (5, .ptr 2 0)], heap := [(0, .box [] (Jb a.h0)), (1, .box [] (QL a.h1)), (2, .box [] (QL a.h2))] }
def Gt (a : Vi) : Ex × St := (.ret, { n := 29, nx := 2, env := [(4, .ptr 1 0)], heap := [(0, .box [] (Jb a.h0)), (1, .box [] (QL a.h1))] })
abbrev Wj := JA → Option Vi
def V0 (C0 : Z5) (C1 : Jt) (a : JA) : Option (JA ⊕ Vi) := ((C0 a.x1 a.h0).bind fun r1 => (bif (r1.1 == 0) then (some (.inr (Vi.mk r1.2 a.h2))) else ((C1 (w64 (a.x1 + 1)) r1.2).bind fun r2 => (some (.inl (JA.mk a.x1 r2.2 a.h1 (Qa.mk r1.1 (0 : Int) s_ [a.h2, r2.1])))))))
theorem PO {C0 : Nat → Z5} {D0 : Z5} (H0 : Cv2 C0 D0) {C1 : Nat → Jt} {D1 : Jt} (H1 : Cv2 C1 D1) (a : JA) : Cv (fun k => V0 (C0 k) (C1 k) a) (V0 D0 D1 a) := by
 unfold V0
 exact .bind (H0 _ _) fun r1 => .cond cst (.bind (H1 _ _) fun r2 => by exact .const _)
noncomputable abbrev Qe2 {ρ R : Type} (l : Wj) (a : JA) (k0 : Vi → Tr ρ R) : Tr ρ R := .loop (loopAt pp 159 4) (Gs a) (l a) Gt k0
noncomputable def Qe3 (C0 : Jt) (a : JA) : Tr (JA ⊕ Vi) XS := (Qg4 a.x1 a.h0 fun r1 => (.as (r1.1 == 0) (rx Gt (Vi.mk r1.2 a.h2)) (Z6 C0 (w64 (a.x1 + 1)) r1.2 fun r2 => (.rows [[xi a.h2.Kind, xi a.h2.N, xs a.h2.Name, .sl (QC a.h2.L)], [xi r2.1.Kind, xi r2.1.N, xs r2.1.Name, .sl (QC r2.1.L)]] (QC [a.h2, r2.1]) (lf Gs (JA.mk a.x1 r2.2 a.h1 (Qa.mk r1.1 i0 s_ [a.h2, r2.1])))))))
noncomputable def Ji.s (k : Nat) (C0 : Jt) : Wj := iter (V0 Va C0) k
theorem Qd3 (k : Nat) {C0 : Jt} (i_r3_reader_two : Qcv C0) {a : JA} {r : Vi} (h : Ji.s k C0 a = some r) : lw 1 159 (loopAt pp 159 4) (Gs a) = some (Gt r) := by
 refine lpP (itP h) (Qe3 C0) fun a => ?_
 exact fun r1 h => ⟨Va.ok h, ⟨rfl, fun q0 => rfl, fun q0 => fun r2 h => ⟨i_r3_reader_two _ _ _ h, ⟨(W3 [a.h2, r2.1]), rfl⟩⟩⟩⟩
theorem Ji.m {j k : Nat} (hj : j ≤ k) (C0 : Jt) (D0 : Jt) (H0 : Le2 C0 D0) (a : JA) : Le (Ji.s j C0 a) (Ji.s k D0 a) := Le.iter (fun a => (PO ks2 (tw2 H0) a).1 0) hj a
noncomputable def Ji.w (C0 : Jt) : Wj := loopW (V0 Va C0)
theorem Ji.cv (C0 : Nat → Jt) (D0 : Jt) (H0 : Cv2 C0 D0) (a : JA) : Cv (fun k => Ji.s k (C0 k) a) (Ji.w D0 a) := Cv.iter (fun a => PO ks2 H0 a) a
def Xk (C0 : Wf) (C1 : Jt) (L2 : Wj) (a1 : Int) (h0 : Qe) : Option (Qa × Qe) := (bif (decide (a1 > 4)) then ((C0 h0).bind fun r1 => (some (r1.1, r1.2))) else ((C1 (w64 (a1 + 1)) h0).bind fun r2 => ((L2 (JA.mk a1 r2.2 (Qa.mk (0 : Int) (0 : Int) s_ ([] : List Qa)) r2.1)).bind (fun (o3 : Vi) => (some (o3.h1, o3.h0))))))
theorem Qbd {C0 : Nat → Wf} {D0 : Wf} (H0 : Cv1 C0 D0) {C1 : Nat → Jt} {D1 : Jt} (H1 : Cv2 C1 D1) {L2 : Nat → Wj} {M2 : Wj} (N2 : Cv1 L2 M2) (a1 : Int) (h0 : Qe) : Cv (fun k => Xk (C0 k) (C1 k) (L2 k) a1 h0) (Xk D0 D1 M2 a1 h0) := by
 unfold Xk
 exact .cond (.bind (H0 _) fun r1 => by exact .const _) (.bind (H1 _ _) fun r2 => .bind (N2 _) (fun o3 => by exact .const _))
noncomputable def Qh5 (C0 : Wf) (C1 : Jt) (L2 : Wj) (a1 : Int) (h0 : Qe) : Tr (Qa × Qe) AH := (.as (decide (a1 > 4)) (Qbb C0 h0 fun r1 => (rt QA (r1.1, r1.2))) (Z6 C1 (w64 (a1 + 1)) h0 fun r2 => (Qe2 L2 (JA.mk a1 r2.2 (Qa.mk i0 i0 s_ ([] : List Qa)) r2.1) (fun o3 => (rt QA (o3.h1, o3.h0))))))
mutual
noncomputable def Q1.s : Nat → Bool → Qe → Option (Qa × Qe)
 | 0, _, _ => none
 | k + 1, a1, h0 => Wi (fun a1 h0 => Qv.s k a1 h0) Uk (fun h0 => QZ.s k h0) a1 h0
termination_by structural k => k
noncomputable def QZ.s : Nat → Qe → Option (Qa × Qe)
 | 0, _ => none
 | k + 1, h0 => Wq Uk (fun a1 h0 => Q1.s k a1 h0) J4 VH Vr h0
termination_by structural k => k
noncomputable def Qv.s : Nat → Int → Qe → Option (Qa × Qe)
 | 0, _, _ => none
 | k + 1, a1, h0 => Xk (fun h0 => QZ.s k h0) (fun a1 h0 => Qv.s k a1 h0) (Ji.s k (fun a1 h0 => Qv.s k a1 h0)) a1 h0
termination_by structural k => k
end
theorem FC : ∀ (k : Nat), (Qg5 (Q1.s k)) ∧ (QiN (QZ.s k)) ∧ (Qcv (Qv.s k))
 | 0 => ⟨fun _ _ _ h => (nomatch h), fun _ _ h => (nomatch h), fun _ _ _ h => (nomatch h)⟩
 | k + 1 => by
  obtain ⟨i_r3_reader_inner, i_r3_reader_one, i_r3_reader_two⟩ := FC k
  exact ⟨fun a1 h0 r h => by
    refine fnP (QfZ (Qv.s k) (QZ.s k) a1 h0) ?_ h
    exact ⟨rfl, fun q0 => rfl, fun q0 => ⟨rfl, fun q1 => fun r1 h => ⟨i_r3_reader_two _ _ _ h, fun r2 h => ⟨Uk.ok h, ⟨rfl, fun q2 => rfl, fun q2 => rfl⟩⟩⟩, fun q1 => fun r3 h => ⟨i_r3_reader_one _ _ h, ⟨(W3 [r3.1]), rfl⟩⟩⟩⟩,
   fun h0 r h => by
    refine fnP (Qh4 (Q1.s k) h0) ?_ h
    exact ⟨rfl, fun q0 => rfl, fun q0 => fun r1 h => ⟨Uk.ok h, ⟨rfl, fun q1 => fun r2 h => ⟨i_r3_reader_inner _ _ _ h, rfl⟩, fun q1 => fun r3 h => ⟨Uk.ok h, ⟨rfl, fun q2 => fun r4 h => ⟨i_r3_reader_inner _ _ _ h, rfl⟩, fun q2 => fun r5 h => ⟨Uk.ok h, ⟨rfl, fun q3 => rfl, fun q3 => fun r6 h => ⟨Uk.ok h, ⟨rfl, fun q4 => fun r7 h => ⟨J4.ok h, rfl⟩, fun q4 => ⟨rfl, fun q5 => Ql 8 (q5) (⟨rfl, fun q6 => ⟨q5, fun r8 h => ⟨VH.ok h, Ql 2 (q5) (⟨rfl, fun q7 => fun r9 h => ⟨J4.ok h, rfl⟩, fun q7 => fun r10 h => ⟨Vr.ok h, rfl⟩⟩)⟩⟩, fun q6 => trivial⟩), fun q5 => noN_ok 11 (q5) (⟨rfl, fun r11 h => ⟨Vr.ok h, rfl⟩⟩)⟩⟩⟩⟩⟩⟩⟩⟩⟩⟩,
   fun a1 h0 r h => by
    refine fnP (Qh5 (QZ.s k) (Qv.s k) (Ji.s k (Qv.s k)) a1 h0) ?_ h
    exact ⟨rfl, fun q0 => fun r1 h => ⟨i_r3_reader_one _ _ h, rfl⟩, fun q0 => fun r2 h => ⟨i_r3_reader_two _ _ _ h, fun o3 h => ⟨Qd3 k i_r3_reader_two h, rfl⟩⟩⟩⟩
theorem X7 : ∀ (k : Nat), (∀ (a1 : Bool) (h0 : Qe), Le (Q1.s k a1 h0) (Q1.s (k + 1) a1 h0)) ∧ (∀ (h0 : Qe), Le (QZ.s k h0) (QZ.s (k + 1) h0)) ∧ (∀ (a1 : Int) (h0 : Qe), Le (Qv.s k a1 h0) (Qv.s (k + 1) a1 h0))
 | 0 => ⟨fun _ _ _ h => (nomatch h), fun _ _ h => (nomatch h), fun _ _ _ h => (nomatch h)⟩
 | k + 1 => by
  obtain ⟨i_r3_reader_inner, i_r3_reader_one, i_r3_reader_two⟩ := X7 k
  exact ⟨fun a1 h0 => (Sk (tw2 i_r3_reader_two) ks2 (tw1 i_r3_reader_one) a1 h0).1 0,
   fun h0 => (Qbc ks2 (tw2 i_r3_reader_inner) ks2 ks2 ks1 h0).1 0,
   fun a1 h0 => (Qbd (tw1 i_r3_reader_one) (tw2 i_r3_reader_two) (tw1 (Ji.m (Nat.le_succ k) (Qv.s k) (Qv.s (k + 1)) i_r3_reader_two)) a1 h0).1 0⟩
noncomputable def Q1 (a1 : Bool) (h0 : Qe) : Option (Qa × Qe) := lim fun k => Q1.s k a1 h0
theorem Q1.cv (a1 : Bool) (h0 : Qe) : Cv (fun k => Q1.s k a1 h0) (Q1 a1 h0) := .lim fun k => (X7 k).1 a1 h0
noncomputable def QZ (h0 : Qe) : Option (Qa × Qe) := lim fun k => QZ.s k h0
theorem QZ.cv (h0 : Qe) : Cv (fun k => QZ.s k h0) (QZ h0) := .lim fun k => (X7 k).2.1 h0
noncomputable def Qv (a1 : Int) (h0 : Qe) : Option (Qa × Qe) := lim fun k => Qv.s k a1 h0
theorem Qv.cv (a1 : Int) (h0 : Qe) : Cv (fun k => Qv.s k a1 h0) (Qv a1 h0) := .lim fun k => (X7 k).2.2 a1 h0
theorem Qv.ok {a1 : Int} {h0 : Qe} {r : (Qa × Qe)} (h : Qv a1 h0 = some r) : ww 159 [.ptr 0 0, xi a1] [(0, .box [] (Jb h0))] = some (QA r) := let ⟨k, e⟩ := ((Qv.cv a1 h0).2 r).1 h; (FC k).2.2 a1 h0 _ e
noncomputable def Ji : Wj := Ji.w Qv
theorem Ji.eq (a : JA) : Ji a = (V0 Va Qv a).bind (Sum.elim Ji some) := JM _ _
theorem Q1.eq (a1 : Bool) (h0 : Qe) : Q1 a1 h0 = Wi Qv Uk QZ a1 h0 := Cv.uniq (Q1.cv a1 h0).shift (Sk Qv.cv ks2 QZ.cv a1 h0)
theorem QZ.eq (h0 : Qe) : QZ h0 = Wq Uk Q1 J4 VH Vr h0 := Cv.uniq (QZ.cv h0).shift (Qbc ks2 Q1.cv ks2 ks2 ks1 h0)
theorem Qv.eq (a1 : Int) (h0 : Qe) : Qv a1 h0 = Xk QZ Qv Ji a1 h0 := Cv.uniq (Qv.cv a1 h0).shift (Qbd QZ.cv Qv.cv (Ji.cv (fun k => Qv.s k) Qv Qv.cv) a1 h0)
noncomputable abbrev Qh6 {ρ R : Type} (a1 : Int) (h0 : Qe) (k : (Qa × Qe) → Tr ρ R) : Tr ρ R := Z6 Qv a1 h0 k
abbrev Qjy := ByteArray → Option (Qa × Bool)
def SB (C0 : Jt) (C1 : Fl) (a0 : ByteArray) : Option (Qa × Bool) := ((C0 (0 : Int) (Qe.mk a0 (0 : Int) (0 : Int) false)).bind fun r1 => ((C1 r1.2).bind fun r2 => (bif r2.Bad then (some ((Qa.mk (0 : Int) (0 : Int) s_ ([] : List Qa)), false)) else (bif (decide (r2.P < ((a0.size : Nat) : Int))) then (some ((Qa.mk (0 : Int) (0 : Int) s_ ([] : List Qa)), false)) else (some (r1.1, true))))))
noncomputable def Xl : Qjy := SB Qv UR
theorem Xl.eq (a0 : ByteArray) : Xl a0 = SB Qv UR a0 := rfl
noncomputable def Qod (a0 : ByteArray) : Tr (Qa × Bool) AH := (Qh6 i0 (Qe.mk a0 i0 i0 false) fun r1 => (QaD r1.2 fun r2 => (.as r2.Bad (yesN 7 r2.Bad (.yes true (rt WV ((Qa.mk i0 i0 s_ ([] : List Qa)), false)))) (noN 7 r2.Bad (.as (decide (r2.P < (zz a0))) (rt WV ((Qa.mk i0 i0 s_ ([] : List Qa)), false)) (rt WV (r1.1, true)))))))
theorem Xl.ok {a0 : ByteArray} {r : (Qa × Bool)} (h : Xl a0 = some r) : ww 107 [xs a0] [] = some (WV r) := by
 refine fnP (Qod a0) ?_ h
 exact fun r1 h => ⟨Qv.ok h, fun r2 h => ⟨UR.ok h, ⟨rfl, fun q0 => Ql 7 (q0) (⟨rfl, rfl⟩), fun q0 => noN_ok 7 (q0) (⟨rfl, fun q1 => rfl, fun q1 => rfl⟩)⟩⟩⟩
noncomputable abbrev Qh7 {ρ R : Type} (a0 : ByteArray) (k : (Qa × Bool) → Tr ρ R) : Tr ρ R := .call (ww 107 [xs a0] []) (Xl a0) WV k
def W9 (r : Qd) : AV × Heap := (.agg (Wg r), [])
abbrev QdB := QB → ByteArray → Int → Option Qd
def GG (C0 : QeZ) (C1 : Qgv) (C2 : Sr) (C3 : QfA) (C4 : SA) (C5 : Xj) (C6 : Qjy) (a0 : QB) (a1 : ByteArray) (a2 : Int) : Option Qd := ((C0 a1).bind fun r1 => (bif r1 then ((C1 a1 a2).bind fun r2 => (some (Qd.mk r2 (Qa.mk (0 : Int) (0 : Int) s_ ([] : List Qa))))) else ((C2 a2 (5 : Int)).bind fun r3 => (bif (r3 == 0) then (bif (decide ((((a0.E.length) : Nat) : Int) > 0)) then ((C3 a0.E).bind fun r4 => (some (Qd.mk (-1 : Int) r4))) else (bif (decide (0 ≤ (0 : Int) ∧ (0 : Int) < ((a1.size : Nat) : Int))) then (bif (((a1.data.getD (Int.toNat 0) 0).toNat : Int) == 84) then ((C4).bind fun r5 => ((C2 a2 (4 : Int)).bind fun r6 => (bif (decide (0 ≤ r6)) then ((r5[(Int.toNat r6)]?).bind fun e7 => (some (Qd.mk (-1 : Int) (Qa.mk (2 : Int) (0 : Int) e7 ([] : List Qa))))) else none))) else ((C1 a1 a2).bind fun r8 => ((C5 r8).bind fun r9 => ((C6 r9).bind fun r10 => (some (Qd.mk (-1 : Int) r10.1)))))) else none)) else (bif (decide (0 ≤ (0 : Int) ∧ (0 : Int) < ((a1.size : Nat) : Int))) then (bif (((a1.data.getD (Int.toNat 0) 0).toNat : Int) == 84) then ((C4).bind fun r11 => ((C2 a2 (4 : Int)).bind fun r12 => (bif (decide (0 ≤ r12)) then ((r11[(Int.toNat r12)]?).bind fun e13 => (some (Qd.mk (-1 : Int) (Qa.mk (2 : Int) (0 : Int) e13 ([] : List Qa))))) else none))) else ((C1 a1 a2).bind fun r14 => ((C5 r14).bind fun r15 => ((C6 r15).bind fun r16 => (some (Qd.mk (-1 : Int) r16.1)))))) else none)))))
noncomputable def VR : QdB := GG WB V6 QR Xv Jz Jk Xl
theorem VR.eq (a0 : QB) (a1 : ByteArray) (a2 : Int) : VR a0 a1 a2 = GG WB V6 QR Xv Jz Jk Xl a0 a1 a2 := rfl
noncomputable def QiO (a0 : QB) (a1 : ByteArray) (a2 : Int) : Tr Qd AH := (Qkh a1 fun r1 => (.as r1 (QaC a1 a2 fun r2 => (rt W9 (Qd.mk r2 (Qa.mk i0 i0 s_ ([] : List Qa))))) (Jg a2 (zi 5) fun r3 => (let u126 := (r3 == 0); .as u126 (yesN 2 u126 (.num ((UV a0.E).length) (a0.E.length) (yesN 2 u126 (.as (decide ((((a0.E.length) : Nat) : Int) > 0)) (Qg0 a0.E fun r4 => (rt W9 (Qd.mk (-1 : Int) r4))) (.as (in1 i0 (zz a1)) (.as ((gb a1 i0) == 84) (Vo fun r5 => (Jg a2 (zi 4) fun r6 => (.as (decide (0 ≤ r6)) (.row ((Qi r5)[(Int.toNat r6)]?) (r5[(Int.toNat r6)]?) Q8 fun (e7 : ByteArray) => (rt W9 (Qd.mk (-1 : Int) (Qa.mk (zi 2) i0 e7 ([] : List Qa))))) .fail))) (QaC a1 a2 fun r8 => (Pl r8 fun r9 => (Qh7 r9 fun r10 => (rt W9 (Qd.mk (-1 : Int) r10.1)))))) .fail))))) (noN 4 u126 (.no false (.as (in1 i0 (zz a1)) (.as ((gb a1 i0) == 84) (Vo fun r11 => (Jg a2 (zi 4) fun r12 => (.as (decide (0 ≤ r12)) (.row ((Qi r11)[(Int.toNat r12)]?) (r11[(Int.toNat r12)]?) Q8 fun (e13 : ByteArray) => (rt W9 (Qd.mk (-1 : Int) (Qa.mk (zi 2) i0 e13 ([] : List Qa))))) .fail))) (QaC a1 a2 fun r14 => (Pl r14 fun r15 => (Qh7 r15 fun r16 => (rt W9 (Qd.mk (-1 : Int) r16.1)))))) .fail)))))))
theorem VR.ok {a0 : QB} {a1 : ByteArray} {a2 : Int} {r : Qd} (h : VR a0 a1 a2 = some r) : ww 62 [.agg (V1 a0), xs a1, xi a2] [] = some (W9 r) := by
 refine fnP (QiO a0 a1 a2) ?_ h
 exact fun r1 h => ⟨WB.ok h, ⟨rfl, fun q0 => fun r2 h => ⟨V6.ok h, rfl⟩, fun q0 => fun r3 h => ⟨QR.ok h, ⟨rfl, fun q1 => Ql 2 (q1) (⟨(Z8 _), Ql 2 (q1) (⟨rfl, fun q2 => fun r4 h => ⟨Xv.ok h, rfl⟩, fun q2 => ⟨rfl, fun q3 => ⟨rfl, fun q4 => fun r5 h => ⟨Jz.ok h, fun r6 h => ⟨QR.ok h, ⟨rfl, fun q5 => fun e7 h => ⟨Q5 h, rfl⟩, fun q5 => trivial⟩⟩⟩, fun q4 => fun r8 h => ⟨V6.ok h, fun r9 h => ⟨Jk.ok h, fun r10 h => ⟨Xl.ok h, rfl⟩⟩⟩⟩, fun q3 => trivial⟩⟩)⟩), fun q1 => noN_ok 4 (q1) (⟨rfl, ⟨rfl, fun q2 => ⟨rfl, fun q3 => fun r11 h => ⟨Jz.ok h, fun r12 h => ⟨QR.ok h, ⟨rfl, fun q4 => fun e13 h => ⟨Q5 h, rfl⟩, fun q4 => trivial⟩⟩⟩, fun q3 => fun r14 h => ⟨V6.ok h, fun r15 h => ⟨Jk.ok h, fun r16 h => ⟨Xl.ok h, rfl⟩⟩⟩⟩, fun q2 => trivial⟩⟩)⟩⟩⟩⟩
noncomputable abbrev QiP {ρ R : Type} (a0 : QB) (a1 : ByteArray) (a2 : Int) (k : Qd → Tr ρ R) : Tr ρ R := .call (ww 62 [.agg (V1 a0), xs a1, xi a2] []) (VR a0 a1 a2) W9 k
def Jo (r : Qg) : AV × Heap := (.agg (U0 r), [])
abbrev QdC := QB → Int → Option Qg
structure Q0 where
 x6 : Int
 h0 : QB
 h1 : Qg
 h2 : Qg
structure Uv where
 h0 : Qg
 h1 : Qg
def WK (a : Q0) : St := { n := 59, nx := 5, env := [(2, .ptr 0 0), (4, .ptr 1 0), (5, .ptr 2 0), (6, xi a.x6)], heap := [(0, .box [] (V1 a.h0)), (1, .box [0, 0, 0, 0, 0, 5] [xi a.h1.Line, xs a.h1.Label, xi a.h1.Kind, xi a.h1.Op, xs a.h1.Text, .arr 3]), (2, .box [0, 0, 0, 0, 0, 5] [xi a.h2.Line, xs a.h2.Label, xi a.h2.Kind, xi a.h2.Op, xs a.h2.Text, .arr 4]), (3, .arr true 5 (Qj a.h1.Args)), (4, .arr true 5 (Qj a.h2.Args))] }
def GS (a : Uv) : Ex × St := (.exit 0, { n := 59, nx := 4, env := [(4, .ptr 0 0), (5, .ptr 1 0)], heap := [(0, .box [0, 0, 0, 0, 0, 5] [xi a.h0.Line, xs a.h0.Label, xi a.h0.Kind, xi a.h0.Op, xs a.h0.Text, .arr 2]), (1, .box [0, 0, 0, 0, 0, 5] [xi a.h1.Line, xs a.h1.Label, xi a.h1.Kind, xi a.h1.Op, xs a.h1.Text, .arr 3]), (2, .arr true 5 (Qj a.h0.Args)), (3, .arr true 5 (Qj a.h1.Args))] })
abbrev QaG := Q0 → Option Uv
def XY (C0 : Sr) (C1 : FZ) (C2 : QfA) (C3 : SA) (a : Q0) : Option (Q0 ⊕ Uv) := ((C0 a.h0.B (4 : Int)).bind fun r1 => (bif (decide (a.x6 ≤ r1)) then ((C1 a.h0 a.x6).bind fun r2 => ((C0 r2 (6 : Int)).bind fun r3 => (bif (r3 == 0) then (bif (decide ((((a.h0.E.length) : Nat) : Int) > 0)) then ((C2 a.h0.E).bind fun r4 => (bif (decide ((a.h2.Args.length + [(Qd.mk (-1 : Int) r4)].length) * 64 ≤ most)) then (some (.inl (Q0.mk (w64 (a.x6 + 1)) a.h0 a.h1 (Qg.mk a.h2.Line a.h2.Label a.h2.Kind a.h2.Op a.h2.Text (a.h2.Args ++ [(Qd.mk (-1 : Int) r4)]))))) else none)) else ((C0 r2 (6 : Int)).bind fun r5 => (bif (r5 == 1) then ((C3).bind fun r6 => ((C0 (w64 (Int.tdiv r2 (6 : Int))) (4 : Int)).bind fun r7 => (bif (decide (0 ≤ r7)) then ((r6[(Int.toNat r7)]?).bind fun e8 => (bif (decide ((a.h2.Args.length + [(Qd.mk (-1 : Int) (Qa.mk (2 : Int) (0 : Int) e8 ([] : List Qa)))].length) * 64 ≤ most)) then (some (.inl (Q0.mk (w64 (a.x6 + 1)) a.h0 a.h1 (Qg.mk a.h2.Line a.h2.Label a.h2.Kind a.h2.Op a.h2.Text (a.h2.Args ++ [(Qd.mk (-1 : Int) (Qa.mk (2 : Int) (0 : Int) e8 ([] : List Qa)))]))))) else none)) else none))) else ((C0 r2 (256 : Int)).bind fun r9 => (bif (decide ((a.h2.Args.length + [(Qd.mk (-1 : Int) (Qa.mk (1 : Int) r9 s_ ([] : List Qa)))].length) * 64 ≤ most)) then (some (.inl (Q0.mk (w64 (a.x6 + 1)) a.h0 a.h1 (Qg.mk a.h2.Line a.h2.Label a.h2.Kind a.h2.Op a.h2.Text (a.h2.Args ++ [(Qd.mk (-1 : Int) (Qa.mk (1 : Int) r9 s_ ([] : List Qa)))]))))) else none))))) else ((C0 r2 (6 : Int)).bind fun r10 => (bif (r10 == 1) then ((C3).bind fun r11 => ((C0 (w64 (Int.tdiv r2 (6 : Int))) (4 : Int)).bind fun r12 => (bif (decide (0 ≤ r12)) then ((r11[(Int.toNat r12)]?).bind fun e13 => (bif (decide ((a.h2.Args.length + [(Qd.mk (-1 : Int) (Qa.mk (2 : Int) (0 : Int) e13 ([] : List Qa)))].length) * 64 ≤ most)) then (some (.inl (Q0.mk (w64 (a.x6 + 1)) a.h0 a.h1 (Qg.mk a.h2.Line a.h2.Label a.h2.Kind a.h2.Op a.h2.Text (a.h2.Args ++ [(Qd.mk (-1 : Int) (Qa.mk (2 : Int) (0 : Int) e13 ([] : List Qa)))]))))) else none)) else none))) else ((C0 r2 (256 : Int)).bind fun r14 => (bif (decide ((a.h2.Args.length + [(Qd.mk (-1 : Int) (Qa.mk (1 : Int) r14 s_ ([] : List Qa)))].length) * 64 ≤ most)) then (some (.inl (Q0.mk (w64 (a.x6 + 1)) a.h0 a.h1 (Qg.mk a.h2.Line a.h2.Label a.h2.Kind a.h2.Op a.h2.Text (a.h2.Args ++ [(Qd.mk (-1 : Int) (Qa.mk (1 : Int) r14 s_ ([] : List Qa)))]))))) else none))))))) else (some (.inr (Uv.mk a.h1 a.h2)))))
noncomputable def Vb : QaG := loopW (XY QR UW Xv Jz)
theorem Vb.eq (a : Q0) : Vb a = (XY QR UW Xv Jz a).bind (Sum.elim Vb some) := JM _ _
noncomputable abbrev Qf0 {ρ R : Type} (a : Q0) (k0 : Uv → Tr ρ R) : Tr ρ R := .loop (loopAt pp 65 3) (WK a) (Vb a) GS k0
noncomputable def Qf1 (a : Q0) : Tr (Q0 ⊕ Uv) XS := (Jg a.h0.B (zi 4) fun r1 => (.as (decide (a.x6 ≤ r1)) (Qa8 a.h0 a.x6 fun r2 => (Jg r2 (zi 6) fun r3 => (let u127 := (r3 == 0); .as u127 (yesN 2 u127 (.num ((UV a.h0.E).length) (a.h0.E.length) (yesN 2 u127 (.as (decide ((((a.h0.E.length) : Nat) : Int) > 0)) (Qg0 a.h0.E fun r4 => (.rows [[xi (-1 : Int), xi r4.Kind, xi r4.N, xs r4.Name, .sl (QC r4.L)]] (Qj [(Qd.mk (-1 : Int) r4)]) (.yes (decide ((Qj [(Qd.mk (-1 : Int) r4)]).all (fun r => r.length == 5) = true)) (.ask (decide (((Qj a.h2.Args).length + (Qj [(Qd.mk (-1 : Int) r4)]).length) * 64 ≤ most)) (decide ((a.h2.Args.length + [(Qd.mk (-1 : Int) r4)].length) * 64 ≤ most)) (.rows ((Qj a.h2.Args) ++ (Qj [(Qd.mk (-1 : Int) r4)])) (Qj (a.h2.Args ++ [(Qd.mk (-1 : Int) r4)])) (lf WK (Q0.mk (w64 (a.x6 + 1)) a.h0 a.h1 (Qg.mk a.h2.Line a.h2.Label a.h2.Kind a.h2.Op a.h2.Text (a.h2.Args ++ [(Qd.mk (-1 : Int) r4)]))))) .fail)))) (Jg r2 (zi 6) fun r5 => (.as (r5 == 1) (Vo fun r6 => (.yes (decide ((zi 6) ≠ 0)) (Jg (w64 (Int.tdiv r2 (zi 6))) (zi 4) fun r7 => (.as (decide (0 ≤ r7)) (.row ((Qi r6)[(Int.toNat r7)]?) (r6[(Int.toNat r7)]?) Q8 fun (e8 : ByteArray) => (.rows [[xi (-1 : Int), xi (zi 2), xi i0, xs e8, .sl (QC ([] : List Qa))]] (Qj [(Qd.mk (-1 : Int) (Qa.mk (zi 2) i0 e8 ([] : List Qa)))]) (.yes (decide ((Qj [(Qd.mk (-1 : Int) (Qa.mk (zi 2) i0 e8 ([] : List Qa)))]).all (fun r => r.length == 5) = true)) (.ask (decide (((Qj a.h2.Args).length + (Qj [(Qd.mk (-1 : Int) (Qa.mk (zi 2) i0 e8 ([] : List Qa)))]).length) * 64 ≤ most)) (decide ((a.h2.Args.length + [(Qd.mk (-1 : Int) (Qa.mk (zi 2) i0 e8 ([] : List Qa)))].length) * 64 ≤ most)) (.rows ((Qj a.h2.Args) ++ (Qj [(Qd.mk (-1 : Int) (Qa.mk (zi 2) i0 e8 ([] : List Qa)))])) (Qj (a.h2.Args ++ [(Qd.mk (-1 : Int) (Qa.mk (zi 2) i0 e8 ([] : List Qa)))])) (lf WK (Q0.mk (w64 (a.x6 + 1)) a.h0 a.h1 (Qg.mk a.h2.Line a.h2.Label a.h2.Kind a.h2.Op a.h2.Text (a.h2.Args ++ [(Qd.mk (-1 : Int) (Qa.mk (zi 2) i0 e8 ([] : List Qa)))]))))) .fail)))) .fail)))) (Jg r2 (zi 256) fun r9 => (.rows [[xi (-1 : Int), xi (zi 1), xi r9, xs s_, .sl (QC ([] : List Qa))]] (Qj [(Qd.mk (-1 : Int) (Qa.mk (zi 1) r9 s_ ([] : List Qa)))]) (.yes (decide ((Qj [(Qd.mk (-1 : Int) (Qa.mk (zi 1) r9 s_ ([] : List Qa)))]).all (fun r => r.length == 5) = true)) (.ask (decide (((Qj a.h2.Args).length + (Qj [(Qd.mk (-1 : Int) (Qa.mk (zi 1) r9 s_ ([] : List Qa)))]).length) * 64 ≤ most)) (decide ((a.h2.Args.length + [(Qd.mk (-1 : Int) (Qa.mk (zi 1) r9 s_ ([] : List Qa)))].length) * 64 ≤ most)) (.rows ((Qj a.h2.Args) ++ (Qj [(Qd.mk (-1 : Int) (Qa.mk (zi 1) r9 s_ ([] : List Qa)))])) (Qj (a.h2.Args ++ [(Qd.mk (-1 : Int) (Qa.mk (zi 1) r9 s_ ([] : List Qa)))])) (lf WK (Q0.mk (w64 (a.x6 + 1)) a.h0 a.h1 (Qg.mk a.h2.Line a.h2.Label a.h2.Kind a.h2.Op a.h2.Text (a.h2.Args ++ [(Qd.mk (-1 : Int) (Qa.mk (zi 1) r9 s_ ([] : List Qa)))]))))) .fail)))))))))) (noN 4 u127 (.no false (Jg r2 (zi 6) fun r10 => (.as (r10 == 1) (Vo fun r11 => (.yes (decide ((zi 6) ≠ 0)) (Jg (w64 (Int.tdiv r2 (zi 6))) (zi 4) fun r12 => (.as (decide (0 ≤ r12)) (.row ((Qi r11)[(Int.toNat r12)]?) (r11[(Int.toNat r12)]?) Q8 fun (e13 : ByteArray) => (.rows [[xi (-1 : Int), xi (zi 2), xi i0, xs e13, .sl (QC ([] : List Qa))]] (Qj [(Qd.mk (-1 : Int) (Qa.mk (zi 2) i0 e13 ([] : List Qa)))]) (.yes (decide ((Qj [(Qd.mk (-1 : Int) (Qa.mk (zi 2) i0 e13 ([] : List Qa)))]).all (fun r => r.length == 5) = true)) (.ask (decide (((Qj a.h2.Args).length + (Qj [(Qd.mk (-1 : Int) (Qa.mk (zi 2) i0 e13 ([] : List Qa)))]).length) * 64 ≤ most)) (decide ((a.h2.Args.length + [(Qd.mk (-1 : Int) (Qa.mk (zi 2) i0 e13 ([] : List Qa)))].length) * 64 ≤ most)) (.rows ((Qj a.h2.Args) ++ (Qj [(Qd.mk (-1 : Int) (Qa.mk (zi 2) i0 e13 ([] : List Qa)))])) (Qj (a.h2.Args ++ [(Qd.mk (-1 : Int) (Qa.mk (zi 2) i0 e13 ([] : List Qa)))])) (lf WK (Q0.mk (w64 (a.x6 + 1)) a.h0 a.h1 (Qg.mk a.h2.Line a.h2.Label a.h2.Kind a.h2.Op a.h2.Text (a.h2.Args ++ [(Qd.mk (-1 : Int) (Qa.mk (zi 2) i0 e13 ([] : List Qa)))]))))) .fail)))) .fail)))) (Jg r2 (zi 256) fun r14 => (.rows [[xi (-1 : Int), xi (zi 1), xi r14, xs s_, .sl (QC ([] : List Qa))]] (Qj [(Qd.mk (-1 : Int) (Qa.mk (zi 1) r14 s_ ([] : List Qa)))]) (.yes (decide ((Qj [(Qd.mk (-1 : Int) (Qa.mk (zi 1) r14 s_ ([] : List Qa)))]).all (fun r => r.length == 5) = true)) (.ask (decide (((Qj a.h2.Args).length + (Qj [(Qd.mk (-1 : Int) (Qa.mk (zi 1) r14 s_ ([] : List Qa)))]).length) * 64 ≤ most)) (decide ((a.h2.Args.length + [(Qd.mk (-1 : Int) (Qa.mk (zi 1) r14 s_ ([] : List Qa)))].length) * 64 ≤ most)) (.rows ((Qj a.h2.Args) ++ (Qj [(Qd.mk (-1 : Int) (Qa.mk (zi 1) r14 s_ ([] : List Qa)))])) (Qj (a.h2.Args ++ [(Qd.mk (-1 : Int) (Qa.mk (zi 1) r14 s_ ([] : List Qa)))])) (lf WK (Q0.mk (w64 (a.x6 + 1)) a.h0 a.h1 (Qg.mk a.h2.Line a.h2.Label a.h2.Kind a.h2.Op a.h2.Text (a.h2.Args ++ [(Qd.mk (-1 : Int) (Qa.mk (zi 1) r14 s_ ([] : List Qa)))]))))) .fail))))))))))) (rx GS (Uv.mk a.h1 a.h2))))
theorem Vb.ok {a : Q0} {r : Uv} (h : Vb a = some r) : lw 0 65 (loopAt pp 65 3) (WK a) = some (GS r) := by
 refine lpP h Qf1 fun a => ?_
 exact fun r1 h => ⟨QR.ok h, ⟨rfl, fun q0 => fun r2 h => ⟨UW.ok h, fun r3 h => ⟨QR.ok h, ⟨rfl, fun q1 => Ql 2 (q1) (⟨(Z8 _), Ql 2 (q1) (⟨rfl, fun q2 => fun r4 h => ⟨Xv.ok h, ⟨(JS [(Qd.mk (-1 : Int) r4)]), ⟨(decide_eq_true (Wx _)), ⟨(by rw [QX, QX]), fun q3 => ⟨(VA _ _), rfl⟩, fun q3 => trivial⟩⟩⟩⟩, fun q2 => fun r5 h => ⟨QR.ok h, ⟨rfl, fun q3 => fun r6 h => ⟨Jz.ok h, ⟨rfl, fun r7 h => ⟨QR.ok h, ⟨rfl, fun q4 => fun e8 h => ⟨Q5 h, ⟨(JS [(Qd.mk (-1 : Int) (Qa.mk (2 : Int) (0 : Int) e8 ([] : List Qa)))]), ⟨(decide_eq_true (Wx _)), ⟨(by rw [QX, QX]), fun q5 => ⟨(VA _ _), rfl⟩, fun q5 => trivial⟩⟩⟩⟩, fun q4 => trivial⟩⟩⟩⟩, fun q3 => fun r9 h => ⟨QR.ok h, ⟨(JS [(Qd.mk (-1 : Int) (Qa.mk (1 : Int) r9 s_ ([] : List Qa)))]), ⟨(decide_eq_true (Wx _)), ⟨(by rw [QX, QX]), fun q4 => ⟨(VA _ _), rfl⟩, fun q4 => trivial⟩⟩⟩⟩⟩⟩⟩)⟩), fun q1 => noN_ok 4 (q1) (⟨rfl, fun r10 h => ⟨QR.ok h, ⟨rfl, fun q2 => fun r11 h => ⟨Jz.ok h, ⟨rfl, fun r12 h => ⟨QR.ok h, ⟨rfl, fun q3 => fun e13 h => ⟨Q5 h, ⟨(JS [(Qd.mk (-1 : Int) (Qa.mk (2 : Int) (0 : Int) e13 ([] : List Qa)))]), ⟨(decide_eq_true (Wx _)), ⟨(by rw [QX, QX]), fun q4 => ⟨(VA _ _), rfl⟩, fun q4 => trivial⟩⟩⟩⟩, fun q3 => trivial⟩⟩⟩⟩, fun q2 => fun r14 h => ⟨QR.ok h, ⟨(JS [(Qd.mk (-1 : Int) (Qa.mk (1 : Int) r14 s_ ([] : List Qa)))]), ⟨(decide_eq_true (Wx _)), ⟨(by rw [QX, QX]), fun q3 => ⟨(VA _ _), rfl⟩, fun q3 => trivial⟩⟩⟩⟩⟩⟩⟩)⟩⟩⟩, fun q0 => rfl⟩⟩
def F1 (L0 : QaG) (a0 : QB) (a1 : Int) : Option Qg := ((L0 (Q0.mk (0 : Int) a0 (Qg.mk (0 : Int) s_ (0 : Int) (0 : Int) s_ ([] : List Qd)) (Qg.mk (1 : Int) s_ a1 (0 : Int) s_ ([] : List Qd)))).bind (fun (o1 : Uv) => (some o1.h1)))
noncomputable def WZ : QdC := F1 Vb
theorem WZ.eq (a0 : QB) (a1 : Int) : WZ a0 a1 = F1 Vb a0 a1 := rfl
noncomputable def QiQ (a0 : QB) (a1 : Int) : Tr Qg AH := (Qf0 (Q0.mk i0 a0 (Qg.mk i0 s_ i0 i0 s_ ([] : List Qd)) (Qg.mk (zi 1) s_ a1 i0 s_ ([] : List Qd))) (fun o1 => (rt Jo o1.h1)))
theorem WZ.ok {a0 : QB} {a1 : Int} {r : Qg} (h : WZ a0 a1 = some r) : ww 65 [.agg (V1 a0), xi a1] [] = some (Jo r) := by
 refine fnP (QiQ a0 a1) ?_ h
 exact fun o1 h => ⟨Vb.ok h, rfl⟩
noncomputable abbrev QiR {ρ R : Type} (a0 : QB) (a1 : Int) (k : Qg → Tr ρ R) : Tr ρ R := .call (ww 65 [.agg (V1 a0), xi a1] []) (WZ a0 a1) Jo k
abbrev Qe4 := QB → Option Qg
structure Ul where
 x5 : (List ByteArray)
 x6 : Int
 h0 : QB
 h1 : Qg
 h2 : Qg
structure Vp where
 h0 : QB
 h1 : Qg
 h2 : Qg
def Eo (a : Ul) : St := { n := 156, nx := 5, env := [(1, .ptr 0 0), (2, .ptr 1 0), (3, .ptr 2 0), (5, .sl (Qi a.x5)), (6, xi a.x6)], heap := [(0, .box [] (V1 a.h0)), (1, .box [0, 0, 0, 0, 0, 5] [xi a.h1.Line, xs a.h1.Label, xi a.h1.Kind, xi a.h1.Op, xs a.h1.Text, .arr 3]), (2, .box [0, 0, 0, 0, 0, 5] [xi a.h2.Line, xs a.h2.Label, xi a.h2.Kind, xi a.h2.Op, xs a.h2.Text, .arr 4]), (3, .arr true 5 (Qj a.h1.Args)), (4, .arr true 5 (Qj a.h2.Args))] }
def Ep (a : Vp) : Ex × St := (.exit 1, { n := 156, nx := 5, env := [(1, .ptr 0 0), (2, .ptr 1 0), (3, .ptr 2 0)], heap := [(0, .box [] (V1 a.h0)), (1, .box [0, 0, 0, 0, 0, 5] [xi a.h1.Line, xs a.h1.Label, xi a.h1.Kind, xi a.h1.Op, xs a.h1.Text, .arr 3]), (2, .box [0, 0, 0, 0, 0, 5] [xi a.h2.Line, xs a.h2.Label, xi a.h2.Kind, xi a.h2.Op, xs a.h2.Text, .arr 4]), (3, .arr true 5 (Qj a.h1.Args)), (4, .arr true 5 (Qj a.h2.Args))] })
abbrev Qbe := Ul → Option Vp
def Yy (C0 : FZ) (C1 : QdB) (a : Ul) : Option (Ul ⊕ Vp) := (bif (decide (a.x6 < (((a.x5.length) : Nat) : Int))) then (bif (decide (0 ≤ a.x6)) then ((a.x5[(Int.toNat a.x6)]?).bind fun e1 => ((C0 a.h0 a.x6).bind fun r2 => ((C1 a.h0 e1 r2).bind fun r3 => (bif (decide ((a.h2.Args.length + [r3].length) * 64 ≤ most)) then (some (.inl (Ul.mk a.x5 (w64 (a.x6 + 1)) a.h0 a.h1 (Qg.mk a.h2.Line a.h2.Label a.h2.Kind a.h2.Op a.h2.Text (a.h2.Args ++ [r3]))))) else none)))) else none) else (some (.inr (Vp.mk a.h0 a.h1 a.h2))))
noncomputable def Vs : Qbe := loopW (Yy UW VR)
theorem Vs.eq (a : Ul) : Vs a = (Yy UW VR a).bind (Sum.elim Vs some) := JM _ _
noncomputable abbrev Qg6 {ρ R : Type} (a : Ul) (k0 : Vp → Tr ρ R) : Tr ρ R := .loop (loopAt pp 25 8) (Eo a) (Vs a) Ep k0
noncomputable def Qg7 (a : Ul) : Tr (Ul ⊕ Vp) XS := (.num ((Qi a.x5).length) (a.x5.length) (.as (decide (a.x6 < (((a.x5.length) : Nat) : Int))) (.as (decide (0 ≤ a.x6)) (.row ((Qi a.x5)[(Int.toNat a.x6)]?) (a.x5[(Int.toNat a.x6)]?) Q8 fun (e1 : ByteArray) => (Qa8 a.h0 a.x6 fun r2 => (QiP a.h0 e1 r2 fun r3 => (.rows [[xi r3.Reg, xi r3.E.Kind, xi r3.E.N, xs r3.E.Name, .sl (QC r3.E.L)]] (Qj [r3]) (.yes (decide ((Qj [r3]).all (fun r => r.length == 5) = true)) (.ask (decide (((Qj a.h2.Args).length + (Qj [r3]).length) * 64 ≤ most)) (decide ((a.h2.Args.length + [r3].length) * 64 ≤ most)) (.rows ((Qj a.h2.Args) ++ (Qj [r3])) (Qj (a.h2.Args ++ [r3])) (lf Eo (Ul.mk a.x5 (w64 (a.x6 + 1)) a.h0 a.h1 (Qg.mk a.h2.Line a.h2.Label a.h2.Kind a.h2.Op a.h2.Text (a.h2.Args ++ [r3]))))) .fail)))))) .fail) (rx Ep (Vp.mk a.h0 a.h1 a.h2))))
theorem Vs.ok {a : Ul} {r : Vp} (h : Vs a = some r) : lw 0 25 (loopAt pp 25 8) (Eo a) = some (Ep r) := by
 refine lpP h Qg7 fun a => ?_
 exact ⟨(Qs _), ⟨rfl, fun q0 => ⟨rfl, fun q1 => fun e1 h => ⟨Q5 h, fun r2 h => ⟨UW.ok h, fun r3 h => ⟨VR.ok h, ⟨(JS [r3]), ⟨(decide_eq_true (Wx _)), ⟨(by rw [QX, QX]), fun q2 => ⟨(VA _ _), rfl⟩, fun q2 => trivial⟩⟩⟩⟩⟩⟩, fun q1 => trivial⟩, fun q0 => rfl⟩⟩
def P6 (C0 : Sr) (C1 : Qjv) (C2 : Qjw) (C3 : SA) (C4 : QdC) (C5 : QfA) (L6 : Qbe) (a0 : QB) : Option Qg := ((C0 a0.K (16 : Int)).bind fun r1 => (bif (decide (r1 < 6)) then ((C0 a0.A (66 : Int)).bind fun r2 => ((C1 r2).bind fun r3 => ((C2 r3).bind fun r4 => ((L6 (Ul.mk r4 (0 : Int) a0 (Qg.mk (0 : Int) s_ (0 : Int) (0 : Int) s_ ([] : List Qd)) (Qg.mk (1 : Int) s_ (1 : Int) r2 s_ ([] : List Qd)))).bind (fun (o5 : Vp) => (bif o5.h0.Label then ((C3).bind fun r6 => ((C0 o5.h0.B (4 : Int)).bind fun r7 => (bif (decide (0 ≤ r7)) then ((r6[(Int.toNat r7)]?).bind fun e8 => (some (Qg.mk o5.h2.Line e8 o5.h2.Kind o5.h2.Op o5.h2.Text o5.h2.Args))) else none))) else (bif (o5.h2.Kind == 0) then ((C3).bind fun r9 => ((C0 o5.h0.B (4 : Int)).bind fun r10 => (bif (decide (0 ≤ r10)) then ((r9[(Int.toNat r10)]?).bind fun e11 => (some (Qg.mk o5.h2.Line e11 o5.h2.Kind o5.h2.Op o5.h2.Text o5.h2.Args))) else none))) else (some o5.h2)))))))) else (bif (decide (r1 < 9)) then ((C0 a0.A (3 : Int)).bind fun r12 => (bif (r12 == 2) then ((C0 a0.B (2 : Int)).bind fun r13 => ((C0 (w64 (Int.tdiv a0.B (2 : Int))) (4 : Int)).bind fun r14 => ((C3).bind fun r15 => ((C0 a0.B (4 : Int)).bind fun r16 => (bif (decide (0 ≤ r16)) then ((r15[(Int.toNat r16)]?).bind fun e17 => (bif (decide (([(Qd.mk (-1 : Int) (Qa.mk (1 : Int) r13 s_ ([] : List Qa))), (Qd.mk (-1 : Int) (Qa.mk (1 : Int) r14 s_ ([] : List Qa)))].length + [(Qd.mk (-1 : Int) (Qa.mk (2 : Int) (0 : Int) e17 ([] : List Qa)))].length) * 64 ≤ most)) then (bif a0.Label then ((C3).bind fun r18 => ((C0 a0.B (4 : Int)).bind fun r19 => (bif (decide (0 ≤ r19)) then ((r18[(Int.toNat r19)]?).bind fun e20 => (some (Qg.mk (1 : Int) e20 (2 : Int) r12 s_ ([(Qd.mk (-1 : Int) (Qa.mk (1 : Int) r13 s_ ([] : List Qa))), (Qd.mk (-1 : Int) (Qa.mk (1 : Int) r14 s_ ([] : List Qa)))] ++ [(Qd.mk (-1 : Int) (Qa.mk (2 : Int) (0 : Int) e17 ([] : List Qa)))])))) else none))) else (some (Qg.mk (1 : Int) s_ (2 : Int) r12 s_ ([(Qd.mk (-1 : Int) (Qa.mk (1 : Int) r13 s_ ([] : List Qa))), (Qd.mk (-1 : Int) (Qa.mk (1 : Int) r14 s_ ([] : List Qa)))] ++ [(Qd.mk (-1 : Int) (Qa.mk (2 : Int) (0 : Int) e17 ([] : List Qa)))])))) else none)) else none))))) else ((C3).bind fun r21 => ((C0 a0.B (4 : Int)).bind fun r22 => (bif (decide (0 ≤ r22)) then ((r21[(Int.toNat r22)]?).bind fun e23 => (bif (decide ((([] : List Qd).length + [(Qd.mk (-1 : Int) (Qa.mk (2 : Int) (0 : Int) e23 ([] : List Qa)))].length) * 64 ≤ most)) then (bif a0.Label then ((C3).bind fun r24 => ((C0 a0.B (4 : Int)).bind fun r25 => (bif (decide (0 ≤ r25)) then ((r24[(Int.toNat r25)]?).bind fun e26 => (some (Qg.mk (1 : Int) e26 (2 : Int) r12 s_ (([] : List Qd) ++ [(Qd.mk (-1 : Int) (Qa.mk (2 : Int) (0 : Int) e23 ([] : List Qa)))])))) else none))) else (some (Qg.mk (1 : Int) s_ (2 : Int) r12 s_ (([] : List Qd) ++ [(Qd.mk (-1 : Int) (Qa.mk (2 : Int) (0 : Int) e23 ([] : List Qa)))])))) else none)) else none))))) else (bif (decide (r1 < 12)) then ((C4 a0 (w64 ((w64 ((3 : Int) + r1)) - 9))).bind fun r27 => (bif a0.Label then ((C3).bind fun r28 => ((C0 a0.B (4 : Int)).bind fun r29 => (bif (decide (0 ≤ r29)) then ((r28[(Int.toNat r29)]?).bind fun e30 => (some (Qg.mk r27.Line e30 r27.Kind r27.Op r27.Text r27.Args))) else none))) else (bif (r27.Kind == 0) then ((C3).bind fun r31 => ((C0 a0.B (4 : Int)).bind fun r32 => (bif (decide (0 ≤ r32)) then ((r31[(Int.toNat r32)]?).bind fun e33 => (some (Qg.mk r27.Line e33 r27.Kind r27.Op r27.Text r27.Args))) else none))) else (some r27)))) else (bif (r1 == 12) then ((C0 a0.A (5 : Int)).bind fun r34 => (bif (decide (0 ≤ r34 ∧ r34 < (([s_, s_hi, UN, Wt, E1].length : Nat) : Int))) then (([s_, s_hi, UN, Wt, E1][(Int.toNat r34)]?).bind fun e35 => (bif a0.Label then ((C3).bind fun r36 => ((C0 a0.B (4 : Int)).bind fun r37 => (bif (decide (0 ≤ r37)) then ((r36[(Int.toNat r37)]?).bind fun e38 => (some (Qg.mk (1 : Int) e38 (6 : Int) (0 : Int) e35 ([] : List Qd)))) else none))) else (some (Qg.mk (1 : Int) s_ (6 : Int) (0 : Int) e35 ([] : List Qd))))) else none)) else (bif (r1 == 13) then ((C0 a0.A (6 : Int)).bind fun r39 => (bif (decide (0 ≤ r39 ∧ r39 < (([(1 : Int), (2 : Int), (4 : Int), (8 : Int), (16 : Int), (3 : Int)].length : Nat) : Int))) then (([(1 : Int), (2 : Int), (4 : Int), (8 : Int), (16 : Int), (3 : Int)][(Int.toNat r39)]?).bind fun e40 => (bif a0.Label then ((C3).bind fun r41 => ((C0 a0.B (4 : Int)).bind fun r42 => (bif (decide (0 ≤ r42)) then ((r41[(Int.toNat r42)]?).bind fun e43 => (some (Qg.mk (1 : Int) e43 (7 : Int) (0 : Int) s_ [(Qd.mk (-1 : Int) (Qa.mk (1 : Int) e40 s_ ([] : List Qa)))]))) else none))) else (some (Qg.mk (1 : Int) s_ (7 : Int) (0 : Int) s_ [(Qd.mk (-1 : Int) (Qa.mk (1 : Int) e40 s_ ([] : List Qa)))])))) else none)) else (bif (r1 == 14) then ((C0 a0.A (8 : Int)).bind fun r44 => (bif (decide (0 ≤ r44 ∧ r44 < (([(0 : Int), (2 : Int), (100 : Int), (250 : Int), (252 : Int), (254 : Int), (256 : Int), (7 : Int)].length : Nat) : Int))) then (([(0 : Int), (2 : Int), (100 : Int), (250 : Int), (252 : Int), (254 : Int), (256 : Int), (7 : Int)][(Int.toNat r44)]?).bind fun e45 => (bif a0.Label then ((C3).bind fun r46 => ((C0 a0.B (4 : Int)).bind fun r47 => (bif (decide (0 ≤ r47)) then ((r46[(Int.toNat r47)]?).bind fun e48 => (some (Qg.mk (1 : Int) e48 (8 : Int) (0 : Int) s_ [(Qd.mk (-1 : Int) (Qa.mk (1 : Int) e45 s_ ([] : List Qa)))]))) else none))) else (some (Qg.mk (1 : Int) s_ (8 : Int) (0 : Int) s_ [(Qd.mk (-1 : Int) (Qa.mk (1 : Int) e45 s_ ([] : List Qa)))])))) else none)) else ((C0 a0.A (3 : Int)).bind fun r49 => (bif (decide (0 ≤ r49 ∧ r49 < (([s_k, Gb, s_x].length : Nat) : Int))) then (([s_k, Gb, s_x][(Int.toNat r49)]?).bind fun e50 => ((C5 a0.E).bind fun r51 => (bif a0.Label then ((C3).bind fun r52 => ((C0 a0.B (4 : Int)).bind fun r53 => (bif (decide (0 ≤ r53)) then ((r52[(Int.toNat r53)]?).bind fun e54 => (some (Qg.mk (1 : Int) e54 (9 : Int) (0 : Int) e50 [(Qd.mk (-1 : Int) r51)]))) else none))) else (some (Qg.mk (1 : Int) s_ (9 : Int) (0 : Int) e50 [(Qd.mk (-1 : Int) r51)]))))) else none)))))))))
noncomputable def W0 : Qe4 := P6 QR XV Ww Jz WZ Xv Vs
theorem W0.eq (a0 : QB) : W0 a0 = P6 QR XV Ww Jz WZ Xv Vs a0 := rfl
noncomputable def Qkl (a0 : QB) : Tr Qg AH := (Jg a0.K (zi 16) fun r1 => (.as (decide (r1 < 6)) (Jg a0.A (zi 66) fun r2 => (Qn6 r2 fun r3 => (Qn9 r3 fun r4 => (Qg6 (Ul.mk r4 i0 a0 (Qg.mk i0 s_ i0 i0 s_ ([] : List Qd)) (Qg.mk (zi 1) s_ (zi 1) r2 s_ ([] : List Qd))) (fun o5 => (let u128 := o5.h0.Label; .as u128 (yesN 3 u128 (.yes true (Vo fun r6 => (Jg o5.h0.B (zi 4) fun r7 => (.as (decide (0 ≤ r7)) (.row ((Qi r6)[(Int.toNat r7)]?) (r6[(Int.toNat r7)]?) Q8 fun (e8 : ByteArray) => (rt Jo (Qg.mk o5.h2.Line e8 o5.h2.Kind o5.h2.Op o5.h2.Text o5.h2.Args))) .fail))))) (noN 3 u128 (.as (o5.h2.Kind == 0) (Vo fun r9 => (Jg o5.h0.B (zi 4) fun r10 => (.as (decide (0 ≤ r10)) (.row ((Qi r9)[(Int.toNat r10)]?) (r9[(Int.toNat r10)]?) Q8 fun (e11 : ByteArray) => (rt Jo (Qg.mk o5.h2.Line e11 o5.h2.Kind o5.h2.Op o5.h2.Text o5.h2.Args))) .fail))) (rt Jo o5.h2))))))))) (.as (decide (r1 < 9)) (Jg a0.A (zi 3) fun r12 => (.as (r12 == 2) (Jg a0.B (zi 2) fun r13 => (.yes (decide ((zi 2) ≠ 0)) (Jg (w64 (Int.tdiv a0.B (zi 2))) (zi 4) fun r14 => (.rows [[xi (-1 : Int), xi (zi 1), xi r13, xs s_, .sl (QC ([] : List Qa))], [xi (-1 : Int), xi (zi 1), xi r14, xs s_, .sl (QC ([] : List Qa))]] (Qj [(Qd.mk (-1 : Int) (Qa.mk (zi 1) r13 s_ ([] : List Qa))), (Qd.mk (-1 : Int) (Qa.mk (zi 1) r14 s_ ([] : List Qa)))]) (Vo fun r15 => (Jg a0.B (zi 4) fun r16 => (.as (decide (0 ≤ r16)) (.row ((Qi r15)[(Int.toNat r16)]?) (r15[(Int.toNat r16)]?) Q8 fun (e17 : ByteArray) => (.rows [[xi (-1 : Int), xi (zi 2), xi i0, xs e17, .sl (QC ([] : List Qa))]] (Qj [(Qd.mk (-1 : Int) (Qa.mk (zi 2) i0 e17 ([] : List Qa)))]) (.yes (decide ((Qj [(Qd.mk (-1 : Int) (Qa.mk (zi 2) i0 e17 ([] : List Qa)))]).all (fun r => r.length == 5) = true)) (.ask (decide (((Qj [(Qd.mk (-1 : Int) (Qa.mk (zi 1) r13 s_ ([] : List Qa))), (Qd.mk (-1 : Int) (Qa.mk (zi 1) r14 s_ ([] : List Qa)))]).length + (Qj [(Qd.mk (-1 : Int) (Qa.mk (zi 2) i0 e17 ([] : List Qa)))]).length) * 64 ≤ most)) (decide (([(Qd.mk (-1 : Int) (Qa.mk (zi 1) r13 s_ ([] : List Qa))), (Qd.mk (-1 : Int) (Qa.mk (zi 1) r14 s_ ([] : List Qa)))].length + [(Qd.mk (-1 : Int) (Qa.mk (zi 2) i0 e17 ([] : List Qa)))].length) * 64 ≤ most)) (.rows ((Qj [(Qd.mk (-1 : Int) (Qa.mk (zi 1) r13 s_ ([] : List Qa))), (Qd.mk (-1 : Int) (Qa.mk (zi 1) r14 s_ ([] : List Qa)))]) ++ (Qj [(Qd.mk (-1 : Int) (Qa.mk (zi 2) i0 e17 ([] : List Qa)))])) (Qj ([(Qd.mk (-1 : Int) (Qa.mk (zi 1) r13 s_ ([] : List Qa))), (Qd.mk (-1 : Int) (Qa.mk (zi 1) r14 s_ ([] : List Qa)))] ++ [(Qd.mk (-1 : Int) (Qa.mk (zi 2) i0 e17 ([] : List Qa)))])) (.as a0.Label (yesN 3 a0.Label (.yes true (Vo fun r18 => (Jg a0.B (zi 4) fun r19 => (.as (decide (0 ≤ r19)) (.row ((Qi r18)[(Int.toNat r19)]?) (r18[(Int.toNat r19)]?) Q8 fun (e20 : ByteArray) => (rt Jo (Qg.mk (zi 1) e20 (zi 2) r12 s_ ([(Qd.mk (-1 : Int) (Qa.mk (zi 1) r13 s_ ([] : List Qa))), (Qd.mk (-1 : Int) (Qa.mk (zi 1) r14 s_ ([] : List Qa)))] ++ [(Qd.mk (-1 : Int) (Qa.mk (zi 2) i0 e17 ([] : List Qa)))])))) .fail))))) (noN 3 a0.Label (.no false (rt Jo (Qg.mk (zi 1) s_ (zi 2) r12 s_ ([(Qd.mk (-1 : Int) (Qa.mk (zi 1) r13 s_ ([] : List Qa))), (Qd.mk (-1 : Int) (Qa.mk (zi 1) r14 s_ ([] : List Qa)))] ++ [(Qd.mk (-1 : Int) (Qa.mk (zi 2) i0 e17 ([] : List Qa)))]))))))) .fail)))) .fail))))))) (Vo fun r21 => (Jg a0.B (zi 4) fun r22 => (.as (decide (0 ≤ r22)) (.row ((Qi r21)[(Int.toNat r22)]?) (r21[(Int.toNat r22)]?) Q8 fun (e23 : ByteArray) => (.rows [[xi (-1 : Int), xi (zi 2), xi i0, xs e23, .sl (QC ([] : List Qa))]] (Qj [(Qd.mk (-1 : Int) (Qa.mk (zi 2) i0 e23 ([] : List Qa)))]) (.yes (decide ((Qj [(Qd.mk (-1 : Int) (Qa.mk (zi 2) i0 e23 ([] : List Qa)))]).all (fun r => r.length == 5) = true)) (.ask (decide (((Qj ([] : List Qd)).length + (Qj [(Qd.mk (-1 : Int) (Qa.mk (zi 2) i0 e23 ([] : List Qa)))]).length) * 64 ≤ most)) (decide ((([] : List Qd).length + [(Qd.mk (-1 : Int) (Qa.mk (zi 2) i0 e23 ([] : List Qa)))].length) * 64 ≤ most)) (.rows ((Qj ([] : List Qd)) ++ (Qj [(Qd.mk (-1 : Int) (Qa.mk (zi 2) i0 e23 ([] : List Qa)))])) (Qj (([] : List Qd) ++ [(Qd.mk (-1 : Int) (Qa.mk (zi 2) i0 e23 ([] : List Qa)))])) (.as a0.Label (yesN 3 a0.Label (.yes true (Vo fun r24 => (Jg a0.B (zi 4) fun r25 => (.as (decide (0 ≤ r25)) (.row ((Qi r24)[(Int.toNat r25)]?) (r24[(Int.toNat r25)]?) Q8 fun (e26 : ByteArray) => (rt Jo (Qg.mk (zi 1) e26 (zi 2) r12 s_ (([] : List Qd) ++ [(Qd.mk (-1 : Int) (Qa.mk (zi 2) i0 e23 ([] : List Qa)))])))) .fail))))) (noN 3 a0.Label (.no false (rt Jo (Qg.mk (zi 1) s_ (zi 2) r12 s_ (([] : List Qd) ++ [(Qd.mk (-1 : Int) (Qa.mk (zi 2) i0 e23 ([] : List Qa)))]))))))) .fail)))) .fail))))) (.as (decide (r1 < 12)) (QiR a0 (w64 ((w64 ((zi 3) + r1)) - 9)) fun r27 => (.as a0.Label (yesN 3 a0.Label (.yes true (Vo fun r28 => (Jg a0.B (zi 4) fun r29 => (.as (decide (0 ≤ r29)) (.row ((Qi r28)[(Int.toNat r29)]?) (r28[(Int.toNat r29)]?) Q8 fun (e30 : ByteArray) => (rt Jo (Qg.mk r27.Line e30 r27.Kind r27.Op r27.Text r27.Args))) .fail))))) (noN 3 a0.Label (.as (r27.Kind == 0) (Vo fun r31 => (Jg a0.B (zi 4) fun r32 => (.as (decide (0 ≤ r32)) (.row ((Qi r31)[(Int.toNat r32)]?) (r31[(Int.toNat r32)]?) Q8 fun (e33 : ByteArray) => (rt Jo (Qg.mk r27.Line e33 r27.Kind r27.Op r27.Text r27.Args))) .fail))) (rt Jo r27))))) (.as (r1 == 12) (.rows [[xs s_], [xs s_hi], [xs UN], [xs Wt], [xs E1]] (Qi [s_, s_hi, UN, Wt, E1]) (Jg a0.A (zi 5) fun r34 => (.ask (in1 r34 (((Qi [s_, s_hi, UN, Wt, E1]).length : Nat) : Int)) (in1 r34 (([s_, s_hi, UN, Wt, E1].length : Nat) : Int)) (.row ((Qi [s_, s_hi, UN, Wt, E1])[(Int.toNat r34)]?) ([s_, s_hi, UN, Wt, E1][(Int.toNat r34)]?) Q8 fun (e35 : ByteArray) => (.as a0.Label (yesN 3 a0.Label (.yes true (Vo fun r36 => (Jg a0.B (zi 4) fun r37 => (.as (decide (0 ≤ r37)) (.row ((Qi r36)[(Int.toNat r37)]?) (r36[(Int.toNat r37)]?) Q8 fun (e38 : ByteArray) => (rt Jo (Qg.mk (zi 1) e38 (zi 6) i0 e35 ([] : List Qd)))) .fail))))) (noN 3 a0.Label (.no false (rt Jo (Qg.mk (zi 1) s_ (zi 6) i0 e35 ([] : List Qd))))))) .fail))) (.as (r1 == 13) (.rows [[xi (zi 1)], [xi (zi 2)], [xi (zi 4)], [xi (zi 8)], [xi (zi 16)], [xi (zi 3)]] (Ja [(zi 1), (zi 2), (zi 4), (zi 8), (zi 16), (zi 3)]) (Jg a0.A (zi 6) fun r39 => (.ask (in1 r39 (((Ja [(zi 1), (zi 2), (zi 4), (zi 8), (zi 16), (zi 3)]).length : Nat) : Int)) (in1 r39 (([(zi 1), (zi 2), (zi 4), (zi 8), (zi 16), (zi 3)].length : Nat) : Int)) (.row ((Ja [(zi 1), (zi 2), (zi 4), (zi 8), (zi 16), (zi 3)])[(Int.toNat r39)]?) ([(zi 1), (zi 2), (zi 4), (zi 8), (zi 16), (zi 3)][(Int.toNat r39)]?) Xd fun (e40 : Int) => (.rows [[xi (-1 : Int), xi (zi 1), xi e40, xs s_, .sl (QC ([] : List Qa))]] (Qj [(Qd.mk (-1 : Int) (Qa.mk (zi 1) e40 s_ ([] : List Qa)))]) (.as a0.Label (yesN 3 a0.Label (.yes true (Vo fun r41 => (Jg a0.B (zi 4) fun r42 => (.as (decide (0 ≤ r42)) (.row ((Qi r41)[(Int.toNat r42)]?) (r41[(Int.toNat r42)]?) Q8 fun (e43 : ByteArray) => (rt Jo (Qg.mk (zi 1) e43 (zi 7) i0 s_ [(Qd.mk (-1 : Int) (Qa.mk (zi 1) e40 s_ ([] : List Qa)))]))) .fail))))) (noN 3 a0.Label (.no false (rt Jo (Qg.mk (zi 1) s_ (zi 7) i0 s_ [(Qd.mk (-1 : Int) (Qa.mk (zi 1) e40 s_ ([] : List Qa)))]))))))) .fail))) (.as (r1 == 14) (.rows [[xi i0], [xi (zi 2)], [xi (zi 100)], [xi (zi 250)], [xi (zi 252)], [xi (zi 254)], [xi (zi 256)], [xi (zi 7)]] (Ja [i0, (zi 2), (zi 100), (zi 250), (zi 252), (zi 254), (zi 256), (zi 7)]) (Jg a0.A (zi 8) fun r44 => (.ask (in1 r44 (((Ja [i0, (zi 2), (zi 100), (zi 250), (zi 252), (zi 254), (zi 256), (zi 7)]).length : Nat) : Int)) (in1 r44 (([i0, (zi 2), (zi 100), (zi 250), (zi 252), (zi 254), (zi 256), (zi 7)].length : Nat) : Int)) (.row ((Ja [i0, (zi 2), (zi 100), (zi 250), (zi 252), (zi 254), (zi 256), (zi 7)])[(Int.toNat r44)]?) ([i0, (zi 2), (zi 100), (zi 250), (zi 252), (zi 254), (zi 256), (zi 7)][(Int.toNat r44)]?) Xd fun (e45 : Int) => (.rows [[xi (-1 : Int), xi (zi 1), xi e45, xs s_, .sl (QC ([] : List Qa))]] (Qj [(Qd.mk (-1 : Int) (Qa.mk (zi 1) e45 s_ ([] : List Qa)))]) (.as a0.Label (yesN 3 a0.Label (.yes true (Vo fun r46 => (Jg a0.B (zi 4) fun r47 => (.as (decide (0 ≤ r47)) (.row ((Qi r46)[(Int.toNat r47)]?) (r46[(Int.toNat r47)]?) Q8 fun (e48 : ByteArray) => (rt Jo (Qg.mk (zi 1) e48 (zi 8) i0 s_ [(Qd.mk (-1 : Int) (Qa.mk (zi 1) e45 s_ ([] : List Qa)))]))) .fail))))) (noN 3 a0.Label (.no false (rt Jo (Qg.mk (zi 1) s_ (zi 8) i0 s_ [(Qd.mk (-1 : Int) (Qa.mk (zi 1) e45 s_ ([] : List Qa)))]))))))) .fail))) (.rows [[xs s_k], [xs Gb], [xs s_x]] (Qi [s_k, Gb, s_x]) (Jg a0.A (zi 3) fun r49 => (.ask (in1 r49 (((Qi [s_k, Gb, s_x]).length : Nat) : Int)) (in1 r49 (([s_k, Gb, s_x].length : Nat) : Int)) (.row ((Qi [s_k, Gb, s_x])[(Int.toNat r49)]?) ([s_k, Gb, s_x][(Int.toNat r49)]?) Q8 fun (e50 : ByteArray) => (Qg0 a0.E fun r51 => (.rows [[xi (-1 : Int), xi r51.Kind, xi r51.N, xs r51.Name, .sl (QC r51.L)]] (Qj [(Qd.mk (-1 : Int) r51)]) (.as a0.Label (yesN 3 a0.Label (.yes true (Vo fun r52 => (Jg a0.B (zi 4) fun r53 => (.as (decide (0 ≤ r53)) (.row ((Qi r52)[(Int.toNat r53)]?) (r52[(Int.toNat r53)]?) Q8 fun (e54 : ByteArray) => (rt Jo (Qg.mk (zi 1) e54 (zi 9) i0 e50 [(Qd.mk (-1 : Int) r51)]))) .fail))))) (noN 3 a0.Label (.no false (rt Jo (Qg.mk (zi 1) s_ (zi 9) i0 e50 [(Qd.mk (-1 : Int) r51)])))))))) .fail))))))))))
theorem W0.ok {a0 : QB} {r : Qg} (h : W0 a0 = some r) : ww 25 [.agg (V1 a0)] [] = some (Jo r) := by
 refine fnP (Qkl a0) ?_ h
 exact fun r1 h => ⟨QR.ok h, ⟨rfl, fun q0 => fun r2 h => ⟨QR.ok h, fun r3 h => ⟨XV.ok h, fun r4 h => ⟨Ww.ok h, fun o5 h => ⟨Vs.ok h, ⟨rfl, fun q1 => Ql 3 (q1) (⟨rfl, fun r6 h => ⟨Jz.ok h, fun r7 h => ⟨QR.ok h, ⟨rfl, fun q2 => fun e8 h => ⟨Q5 h, rfl⟩, fun q2 => trivial⟩⟩⟩⟩), fun q1 => noN_ok 3 (q1) (⟨rfl, fun q2 => fun r9 h => ⟨Jz.ok h, fun r10 h => ⟨QR.ok h, ⟨rfl, fun q3 => fun e11 h => ⟨Q5 h, rfl⟩, fun q3 => trivial⟩⟩⟩, fun q2 => rfl⟩)⟩⟩⟩⟩⟩, fun q0 => ⟨rfl, fun q1 => fun r12 h => ⟨QR.ok h, ⟨rfl, fun q2 => fun r13 h => ⟨QR.ok h, ⟨rfl, fun r14 h => ⟨QR.ok h, ⟨(JS [(Qd.mk (-1 : Int) (Qa.mk (1 : Int) r13 s_ ([] : List Qa))), (Qd.mk (-1 : Int) (Qa.mk (1 : Int) r14 s_ ([] : List Qa)))]), fun r15 h => ⟨Jz.ok h, fun r16 h => ⟨QR.ok h, ⟨rfl, fun q3 => fun e17 h => ⟨Q5 h, ⟨(JS [(Qd.mk (-1 : Int) (Qa.mk (2 : Int) (0 : Int) e17 ([] : List Qa)))]), ⟨(decide_eq_true (Wx _)), ⟨(by rw [QX, QX]), fun q4 => ⟨(VA _ _), ⟨rfl, fun q5 => Ql 3 (q5) (⟨rfl, fun r18 h => ⟨Jz.ok h, fun r19 h => ⟨QR.ok h, ⟨rfl, fun q6 => fun e20 h => ⟨Q5 h, rfl⟩, fun q6 => trivial⟩⟩⟩⟩), fun q5 => noN_ok 3 (q5) (⟨rfl, rfl⟩)⟩⟩, fun q4 => trivial⟩⟩⟩⟩, fun q3 => trivial⟩⟩⟩⟩⟩⟩⟩, fun q2 => fun r21 h => ⟨Jz.ok h, fun r22 h => ⟨QR.ok h, ⟨rfl, fun q3 => fun e23 h => ⟨Q5 h, ⟨(JS [(Qd.mk (-1 : Int) (Qa.mk (2 : Int) (0 : Int) e23 ([] : List Qa)))]), ⟨(decide_eq_true (Wx _)), ⟨(by rw [QX, QX]), fun q4 => ⟨(VA _ _), ⟨rfl, fun q5 => Ql 3 (q5) (⟨rfl, fun r24 h => ⟨Jz.ok h, fun r25 h => ⟨QR.ok h, ⟨rfl, fun q6 => fun e26 h => ⟨Q5 h, rfl⟩, fun q6 => trivial⟩⟩⟩⟩), fun q5 => noN_ok 3 (q5) (⟨rfl, rfl⟩)⟩⟩, fun q4 => trivial⟩⟩⟩⟩, fun q3 => trivial⟩⟩⟩⟩⟩, fun q1 => ⟨rfl, fun q2 => fun r27 h => ⟨WZ.ok h, ⟨rfl, fun q3 => Ql 3 (q3) (⟨rfl, fun r28 h => ⟨Jz.ok h, fun r29 h => ⟨QR.ok h, ⟨rfl, fun q4 => fun e30 h => ⟨Q5 h, rfl⟩, fun q4 => trivial⟩⟩⟩⟩), fun q3 => noN_ok 3 (q3) (⟨rfl, fun q4 => fun r31 h => ⟨Jz.ok h, fun r32 h => ⟨QR.ok h, ⟨rfl, fun q5 => fun e33 h => ⟨Q5 h, rfl⟩, fun q5 => trivial⟩⟩⟩, fun q4 => rfl⟩)⟩⟩, fun q2 => ⟨rfl, fun q3 => ⟨(QU [s_, s_hi, UN, Wt, E1]), fun r34 h => ⟨QR.ok h, ⟨(by rw [Qs]), fun q4 => fun e35 h => ⟨Q5 h, ⟨rfl, fun q5 => Ql 3 (q5) (⟨rfl, fun r36 h => ⟨Jz.ok h, fun r37 h => ⟨QR.ok h, ⟨rfl, fun q6 => fun e38 h => ⟨Q5 h, rfl⟩, fun q6 => trivial⟩⟩⟩⟩), fun q5 => noN_ok 3 (q5) (⟨rfl, rfl⟩)⟩⟩, fun q4 => trivial⟩⟩⟩, fun q3 => ⟨rfl, fun q4 => ⟨(Ut [(1 : Int), (2 : Int), (4 : Int), (8 : Int), (16 : Int), (3 : Int)]), fun r39 h => ⟨QR.ok h, ⟨(by rw [Vj]), fun q5 => fun e40 h => ⟨Vt h, ⟨(JS [(Qd.mk (-1 : Int) (Qa.mk (1 : Int) e40 s_ ([] : List Qa)))]), ⟨rfl, fun q6 => Ql 3 (q6) (⟨rfl, fun r41 h => ⟨Jz.ok h, fun r42 h => ⟨QR.ok h, ⟨rfl, fun q7 => fun e43 h => ⟨Q5 h, rfl⟩, fun q7 => trivial⟩⟩⟩⟩), fun q6 => noN_ok 3 (q6) (⟨rfl, rfl⟩)⟩⟩⟩, fun q5 => trivial⟩⟩⟩, fun q4 => ⟨rfl, fun q5 => ⟨(Ut [(0 : Int), (2 : Int), (100 : Int), (250 : Int), (252 : Int), (254 : Int), (256 : Int), (7 : Int)]), fun r44 h => ⟨QR.ok h, ⟨(by rw [Vj]), fun q6 => fun e45 h => ⟨Vt h, ⟨(JS [(Qd.mk (-1 : Int) (Qa.mk (1 : Int) e45 s_ ([] : List Qa)))]), ⟨rfl, fun q7 => Ql 3 (q7) (⟨rfl, fun r46 h => ⟨Jz.ok h, fun r47 h => ⟨QR.ok h, ⟨rfl, fun q8 => fun e48 h => ⟨Q5 h, rfl⟩, fun q8 => trivial⟩⟩⟩⟩), fun q7 => noN_ok 3 (q7) (⟨rfl, rfl⟩)⟩⟩⟩, fun q6 => trivial⟩⟩⟩, fun q5 => ⟨(QU [s_k, Gb, s_x]), fun r49 h => ⟨QR.ok h, ⟨(by rw [Qs]), fun q6 => fun e50 h => ⟨Q5 h, fun r51 h => ⟨Xv.ok h, ⟨(JS [(Qd.mk (-1 : Int) r51)]), ⟨rfl, fun q7 => Ql 3 (q7) (⟨rfl, fun r52 h => ⟨Jz.ok h, fun r53 h => ⟨QR.ok h, ⟨rfl, fun q8 => fun e54 h => ⟨Q5 h, rfl⟩, fun q8 => trivial⟩⟩⟩⟩), fun q7 => noN_ok 3 (q7) (⟨rfl, rfl⟩)⟩⟩⟩⟩, fun q6 => trivial⟩⟩⟩⟩⟩⟩⟩⟩⟩⟩
noncomputable abbrev Qkm {ρ R : Type} (a0 : QB) (k : Qg → Tr ρ R) : Tr ρ R := .call (ww 25 [.agg (V1 a0)] []) (W0 a0) Jo k
abbrev Qlo := Int → Option ByteArray
def Qe5 (C0 : Qc3) (a0 : Int) : Option ByteArray := ((C0 a0 h_20).bind fun r1 => (some r1.1.Name))
noncomputable def Zw : Qlo := Qe5 XE
theorem Zw.eq (a0 : Int) : Zw a0 = Qe5 XE a0 := rfl
noncomputable def QoX (a0 : Int) : Tr ByteArray AH := (Qju a0 h_20 fun r1 => (rt Qf r1.1.Name))
theorem Zw.ok {a0 : Int} {r : ByteArray} (h : Zw a0 = some r) : ww 38 [xi a0] [] = some (Qf r) := by
 refine fnP (QoX a0) ?_ h
 exact fun r1 h => ⟨XE.ok h, rfl⟩
noncomputable abbrev QoY {ρ R : Type} (a0 : Int) (k : ByteArray → Tr ρ R) : Tr ρ R := .call (ww 38 [xi a0] []) (Zw a0) Qf k
abbrev Qlp := Qg → Option ByteArray
def Qe6 (C0 : Qlo) (a0 : Qg) : Option ByteArray := (bif (a0.Kind == 1) then ((C0 a0.Op).bind fun r1 => (some r1)) else (bif (a0.Kind == 2) then (bif (decide (0 ≤ a0.Op ∧ a0.Op < (([s_b, s_bl, s_bc].length : Nat) : Int))) then (([s_b, s_bl, s_bc][(Int.toNat a0.Op)]?).bind fun e2 => (some e2)) else none) else (bif (a0.Kind == 3) then (some QO) else (bif (a0.Kind == 4) then (some QP) else (bif (a0.Kind == 5) then (some QQ) else (bif (a0.Kind == 6) then (some Jf) else (bif (a0.Kind == 7) then (some QJ) else (bif (a0.Kind == 8) then (some QK) else (some J2)))))))))
noncomputable def YL : Qlp := Qe6 Zw
theorem YL.eq (a0 : Qg) : YL a0 = Qe6 Zw a0 := rfl
noncomputable def QoZ (a0 : Qg) : Tr ByteArray AH := (.as (a0.Kind == 1) (QoY a0.Op fun r1 => (rt Qf r1)) (.as (a0.Kind == 2) (.rows [[xs s_b], [xs s_bl], [xs s_bc]] (Qi [s_b, s_bl, s_bc]) (.ask (in1 a0.Op (((Qi [s_b, s_bl, s_bc]).length : Nat) : Int)) (in1 a0.Op (([s_b, s_bl, s_bc].length : Nat) : Int)) (.row ((Qi [s_b, s_bl, s_bc])[(Int.toNat a0.Op)]?) ([s_b, s_bl, s_bc][(Int.toNat a0.Op)]?) Q8 fun (e2 : ByteArray) => (rt Qf e2)) .fail)) (.as (a0.Kind == 3) (rt Qf QO) (.as (a0.Kind == 4) (rt Qf QP) (.as (a0.Kind == 5) (rt Qf QQ) (.as (a0.Kind == 6) (rt Qf Jf) (.as (a0.Kind == 7) (rt Qf QJ) (.as (a0.Kind == 8) (rt Qf QK) (rt Qf J2)))))))))
theorem YL.ok {a0 : Qg} {r : ByteArray} (h : YL a0 = some r) : ww 59 [.agg (U0 a0)] [] = some (Qf r) := by
 refine fnP (QoZ a0) ?_ h
 exact ⟨rfl, fun q0 => fun r1 h => ⟨Zw.ok h, rfl⟩, fun q0 => ⟨rfl, fun q1 => ⟨(QU [s_b, s_bl, s_bc]), ⟨(by rw [Qs]), fun q2 => fun e2 h => ⟨Q5 h, rfl⟩, fun q2 => trivial⟩⟩, fun q1 => ⟨rfl, fun q2 => rfl, fun q2 => ⟨rfl, fun q3 => rfl, fun q3 => ⟨rfl, fun q4 => rfl, fun q4 => ⟨rfl, fun q5 => rfl, fun q5 => ⟨rfl, fun q6 => rfl, fun q6 => ⟨rfl, fun q7 => rfl, fun q7 => rfl⟩⟩⟩⟩⟩⟩⟩⟩
noncomputable abbrev Qe7 {ρ R : Type} (a0 : Qg) (k : ByteArray → Tr ρ R) : Tr ρ R := .call (ww 59 [.agg (U0 a0)] []) (YL a0) Qf k
abbrev YM := Qa → Option ByteArray
abbrev Qkn (c : YM) : Prop := ∀ (a0 : Qa) (r : ByteArray), c a0 = some r → ww 103 [.agg (QL a0)] [] = some (Qf r)
abbrev Eq := Qa → Option ByteArray
abbrev Qp0 (c : Eq) : Prop := ∀ (a0 : Qa) (r : ByteArray), c a0 = some r → ww 60 [.agg (QL a0)] [] = some (Qf r)
noncomputable abbrev F2 {ρ R : Type} (c : YM) (a0 : Qa) (k : ByteArray → Tr ρ R) : Tr ρ R := .call (ww 103 [.agg (QL a0)] []) (c a0) Qf k
noncomputable abbrev Qe8 {ρ R : Type} (c : Eq) (a0 : Qa) (k : ByteArray → Tr ρ R) : Tr ρ R := .call (ww 60 [.agg (QL a0)] []) (c a0) Qf k
def Yo (C0 : Eq) (a0 : Qa) : Option ByteArray := (bif ((((a0.L.length) : Nat) : Int) == 2) then ((C0 a0).bind fun r1 => (bif (decide (((h_28.size + r1.size : Nat) : Int) ≤ IntKind.i64.max)) then (bif (decide ((((h_28 ++ r1).size + h_29.size : Nat) : Int) ≤ IntKind.i64.max)) then (some ((h_28 ++ r1) ++ h_29)) else none) else none)) else ((C0 a0).bind fun r2 => (some r2)))
theorem Qcw {C0 : Nat → Eq} {D0 : Eq} (H0 : Cv1 C0 D0) (a0 : Qa) : Cv (fun k => Yo (C0 k) a0) (Yo D0 a0) := by
 unfold Yo
 exact .cond (.bind (H0 _) fun r1 => by exact .const _) (.bind (H0 _) fun r2 => by exact .const _)
noncomputable def QiS (C0 : Eq) (a0 : Qa) : Tr ByteArray AH := (.num ((QC a0.L).length) (a0.L.length) (.as ((((a0.L.length) : Nat) : Int) == 2) (Qe8 C0 a0 fun r1 => (.as (decide (((h_28.size + r1.size : Nat) : Int) ≤ IntKind.i64.max)) (.as (decide ((((h_28 ++ r1).size + h_29.size : Nat) : Int) ≤ IntKind.i64.max)) (rt Qf ((h_28 ++ r1) ++ h_29)) .fail) .fail)) (Qe8 C0 a0 fun r2 => (rt Qf r2))))
def YZ (C0 : Xj) (C1 : YM) (C2 : QaF) (a0 : Qa) : Option ByteArray := (bif (a0.Kind == 1) then ((C0 a0.N).bind fun r1 => (some r1)) else (bif (a0.Kind == 2) then (some a0.Name) else (bif (a0.Kind == 3) then (some h_2e) else (bif (a0.Kind == 4) then ((a0.L[(Int.toNat 0)]?).bind fun e2 => ((C1 e2).bind fun r3 => (bif (decide (((h_2d.size + r3.size : Nat) : Int) ≤ IntKind.i64.max)) then (some (h_2d ++ r3)) else none))) else ((C2 a0.Kind).bind fun r4 => ((a0.L[(Int.toNat 0)]?).bind fun e5 => ((C1 e5).bind fun r6 => (bif (decide (((r6.size + h_20.size : Nat) : Int) ≤ IntKind.i64.max)) then (bif (decide ((((r6 ++ h_20).size + r4.1.size : Nat) : Int) ≤ IntKind.i64.max)) then (bif (decide (((((r6 ++ h_20) ++ r4.1).size + h_20.size : Nat) : Int) ≤ IntKind.i64.max)) then ((a0.L[(Int.toNat 1)]?).bind fun e7 => ((C1 e7).bind fun r8 => (bif (decide ((((((r6 ++ h_20) ++ r4.1) ++ h_20).size + r8.size : Nat) : Int) ≤ IntKind.i64.max)) then (some ((((r6 ++ h_20) ++ r4.1) ++ h_20) ++ r8)) else none))) else none) else none) else none))))))))
theorem Qjz {C0 : Nat → Xj} {D0 : Xj} (H0 : Cv1 C0 D0) {C1 : Nat → YM} {D1 : YM} (H1 : Cv1 C1 D1) {C2 : Nat → QaF} {D2 : QaF} (H2 : Cv1 C2 D2) (a0 : Qa) : Cv (fun k => YZ (C0 k) (C1 k) (C2 k) a0) (YZ D0 D1 D2 a0) := by
 unfold YZ
 exact .cond (.bind (H0 _) fun r1 => by exact .const _) (.cond cst (.cond cst (.cond (.bind (.const _) fun e2 => .bind (H1 _) fun r3 => by exact .const _) (.bind (H2 _) fun r4 => .bind (.const _) fun e5 => .bind (H1 _) fun r6 => .cond (.cond (.cond (.bind (.const _) fun e7 => .bind (H1 _) fun r8 => by exact .const _) cst) cst) cst))))
noncomputable def Qo0 (C0 : YM) (a0 : Qa) : Tr ByteArray AH := (.as (a0.Kind == 1) (Pl a0.N fun r1 => (rt Qf r1)) (.as (a0.Kind == 2) (rt Qf a0.Name) (.as (a0.Kind == 3) (rt Qf h_2e) (.as (a0.Kind == 4) (.yes (decide (0 ≤ i0)) (.row ((QC a0.L)[(Int.toNat 0)]?) (a0.L[(Int.toNat 0)]?) QL fun (e2 : Qa) => (F2 C0 e2 fun r3 => (.as (decide (((h_2d.size + r3.size : Nat) : Int) ≤ IntKind.i64.max)) (rt Qf (h_2d ++ r3)) .fail)))) (Qjx a0.Kind fun r4 => (.yes (decide (0 ≤ i0)) (.row ((QC a0.L)[(Int.toNat 0)]?) (a0.L[(Int.toNat 0)]?) QL fun (e5 : Qa) => (F2 C0 e5 fun r6 => (.as (decide (((r6.size + h_20.size : Nat) : Int) ≤ IntKind.i64.max)) (.as (decide ((((r6 ++ h_20).size + r4.1.size : Nat) : Int) ≤ IntKind.i64.max)) (.as (decide (((((r6 ++ h_20) ++ r4.1).size + h_20.size : Nat) : Int) ≤ IntKind.i64.max)) (.yes (decide (0 ≤ (zi 1))) (.row ((QC a0.L)[(Int.toNat 1)]?) (a0.L[(Int.toNat 1)]?) QL fun (e7 : Qa) => (F2 C0 e7 fun r8 => (.as (decide ((((((r6 ++ h_20) ++ r4.1) ++ h_20).size + r8.size : Nat) : Int) ≤ IntKind.i64.max)) (rt Qf ((((r6 ++ h_20) ++ r4.1) ++ h_20) ++ r8)) .fail)))) .fail) .fail) .fail)))))))))
mutual
noncomputable def UA.s : Nat → Qa → Option ByteArray
 | 0, _ => none
 | k + 1, a0 => Yo (fun a0 => Uf.s k a0) a0
termination_by structural k => k
noncomputable def Uf.s : Nat → Qa → Option ByteArray
 | 0, _ => none
 | k + 1, a0 => YZ Jk (fun a0 => UA.s k a0) Yn a0
termination_by structural k => k
end
theorem QaH : ∀ (k : Nat), (Qkn (UA.s k)) ∧ (Qp0 (Uf.s k))
 | 0 => ⟨fun _ _ h => (nomatch h), fun _ _ h => (nomatch h)⟩
 | k + 1 => by
  obtain ⟨i_r3_bracketed, i_r3_Text⟩ := QaH k
  exact ⟨fun a0 r h => by
    refine fnP (QiS (Uf.s k) a0) ?_ h
    exact ⟨(Yj _), ⟨rfl, fun q0 => fun r1 h => ⟨i_r3_Text _ _ h, ⟨rfl, fun q1 => ⟨rfl, fun q2 => rfl, fun q2 => trivial⟩, fun q1 => trivial⟩⟩, fun q0 => fun r2 h => ⟨i_r3_Text _ _ h, rfl⟩⟩⟩,
   fun a0 r h => by
    refine fnP (Qo0 (UA.s k) a0) ?_ h
    exact ⟨rfl, fun q0 => fun r1 h => ⟨Jk.ok h, rfl⟩, fun q0 => ⟨rfl, fun q1 => rfl, fun q1 => ⟨rfl, fun q2 => rfl, fun q2 => ⟨rfl, fun q3 => ⟨rfl, fun e2 h => ⟨W4 h, fun r3 h => ⟨i_r3_bracketed _ _ h, ⟨rfl, fun q4 => rfl, fun q4 => trivial⟩⟩⟩⟩, fun q3 => fun r4 h => ⟨Yn.ok h, ⟨rfl, fun e5 h => ⟨W4 h, fun r6 h => ⟨i_r3_bracketed _ _ h, ⟨rfl, fun q4 => ⟨rfl, fun q5 => ⟨rfl, fun q6 => ⟨rfl, fun e7 h => ⟨W4 h, fun r8 h => ⟨i_r3_bracketed _ _ h, ⟨rfl, fun q7 => rfl, fun q7 => trivial⟩⟩⟩⟩, fun q6 => trivial⟩, fun q5 => trivial⟩, fun q4 => trivial⟩⟩⟩⟩⟩⟩⟩⟩⟩⟩
theorem GT : ∀ (k : Nat), (∀ (a0 : Qa), Le (UA.s k a0) (UA.s (k + 1) a0)) ∧ (∀ (a0 : Qa), Le (Uf.s k a0) (Uf.s (k + 1) a0))
 | 0 => ⟨fun _ _ h => (nomatch h), fun _ _ h => (nomatch h)⟩
 | k + 1 => by
  obtain ⟨i_r3_bracketed, i_r3_Text⟩ := GT k
  exact ⟨fun a0 => (Qcw (tw1 i_r3_Text) a0).1 0,
   fun a0 => (Qjz ks1 (tw1 i_r3_bracketed) ks1 a0).1 0⟩
noncomputable def UA (a0 : Qa) : Option ByteArray := lim fun k => UA.s k a0
theorem UA.cv (a0 : Qa) : Cv (fun k => UA.s k a0) (UA a0) := .lim fun k => (GT k).1 a0
noncomputable def Uf (a0 : Qa) : Option ByteArray := lim fun k => Uf.s k a0
theorem Uf.cv (a0 : Qa) : Cv (fun k => Uf.s k a0) (Uf a0) := .lim fun k => (GT k).2 a0
theorem Uf.ok {a0 : Qa} {r : ByteArray} (h : Uf a0 = some r) : ww 60 [.agg (QL a0)] [] = some (Qf r) := let ⟨k, e⟩ := ((Uf.cv a0).2 r).1 h; (QaH k).2 a0 _ e
theorem UA.eq (a0 : Qa) : UA a0 = Yo Uf a0 := Cv.uniq (UA.cv a0).shift (Qcw Uf.cv a0)
theorem Uf.eq (a0 : Qa) : Uf a0 = YZ Jk UA Yn a0 := Cv.uniq (Uf.cv a0).shift (Qjz ks1 UA.cv ks1 a0)
noncomputable abbrev Qo1 {ρ R : Type} (a0 : Qa) (k : ByteArray → Tr ρ R) : Tr ρ R := Qe8 Uf a0 k
abbrev Qlq := Qg → Option ByteArray
structure QG where
 x3 : ByteArray
 x5 : Int
 h0 : Qg
 r1 : (List ByteArray)
structure Jn where
 x3 : ByteArray
 r0 : (List ByteArray)
def Fr (a : QG) : St := { n := 101, nx := 2, env := [(1, .ptr 0 0), (3, xs a.x3), (4, .arr 1), (5, xi a.x5)], heap := [(0, .box [0, 0, 0, 0, 0, 5] (U0 a.h0)), (1, .arr true 1 (Qi a.r1))] }
def QaI (a : Jn) : Ex × St := (.exit 0, { n := 101, nx := 1, env := [(3, xs a.x3), (4, .arr 0)], heap := [(0, .arr true 1 (Qi a.r0))] })
abbrev Qgz := QG → Option Jn
def Fs (C0 : Xj) (C1 : Eq) (a : QG) : Option (QG ⊕ Jn) := (bif (decide (a.x5 < (((a.h0.Args.length) : Nat) : Int))) then (bif (decide (0 ≤ a.x5)) then ((a.h0.Args[(Int.toNat a.x5)]?).bind fun e1 => (bif (decide (e1.Reg ≥ 0)) then ((a.h0.Args[(Int.toNat a.x5)]?).bind fun e2 => ((C0 e2.Reg).bind fun r3 => (bif (decide (((s_r.size + r3.size : Nat) : Int) ≤ IntKind.i64.max)) then (bif (decide ((a.r1.length + [(s_r ++ r3)].length) * 16 ≤ most)) then (some (.inl (QG.mk a.x3 (w64 (a.x5 + 1)) a.h0 (a.r1 ++ [(s_r ++ r3)])))) else none) else none))) else ((a.h0.Args[(Int.toNat a.x5)]?).bind fun e4 => ((C1 e4.E).bind fun r5 => (bif (decide ((a.r1.length + [r5].length) * 16 ≤ most)) then (some (.inl (QG.mk a.x3 (w64 (a.x5 + 1)) a.h0 (a.r1 ++ [r5])))) else none))))) else none) else (some (.inr (Jn.mk a.x3 a.r1))))
noncomputable def Jy : Qgz := loopW (Fs Jk Uf)
theorem Jy.eq (a : QG) : Jy a = (Fs Jk Uf a).bind (Sum.elim Jy some) := JM _ _
noncomputable abbrev V8 {ρ R : Type} (a : QG) (k0 : Jn → Tr ρ R) : Tr ρ R := .loop (loopAt pp 22 15) (Fr a) (Jy a) QaI k0
noncomputable def Qlr (a : QG) : Tr (QG ⊕ Jn) XS := (.num ((Qj a.h0.Args).length) (a.h0.Args.length) (.as (decide (a.x5 < (((a.h0.Args.length) : Nat) : Int))) (let u129 := (decide (0 ≤ a.x5)); .as u129 (.row ((Qj a.h0.Args)[(Int.toNat a.x5)]?) (a.h0.Args[(Int.toNat a.x5)]?) Wg fun (e1 : Qd) => (.as (decide (e1.Reg ≥ 0)) (.yes u129 (.row ((Qj a.h0.Args)[(Int.toNat a.x5)]?) (a.h0.Args[(Int.toNat a.x5)]?) Wg fun (e2 : Qd) => (Pl e2.Reg fun r3 => (.as (decide (((s_r.size + r3.size : Nat) : Int) ≤ IntKind.i64.max)) (.rows [[xs (s_r ++ r3)]] (Qi [(s_r ++ r3)]) (.yes (decide ((Qi [(s_r ++ r3)]).all (fun r => r.length == 1) = true)) (.ask (decide (((Qi a.r1).length + (Qi [(s_r ++ r3)]).length) * 16 ≤ most)) (decide ((a.r1.length + [(s_r ++ r3)].length) * 16 ≤ most)) (.rows ((Qi a.r1) ++ (Qi [(s_r ++ r3)])) (Qi (a.r1 ++ [(s_r ++ r3)])) (lf Fr (QG.mk a.x3 (w64 (a.x5 + 1)) a.h0 (a.r1 ++ [(s_r ++ r3)])))) .fail))) .fail)))) (.yes u129 (.row ((Qj a.h0.Args)[(Int.toNat a.x5)]?) (a.h0.Args[(Int.toNat a.x5)]?) Wg fun (e4 : Qd) => (Qo1 e4.E fun r5 => (.rows [[xs r5]] (Qi [r5]) (.yes (decide ((Qi [r5]).all (fun r => r.length == 1) = true)) (.ask (decide (((Qi a.r1).length + (Qi [r5]).length) * 16 ≤ most)) (decide ((a.r1.length + [r5].length) * 16 ≤ most)) (.rows ((Qi a.r1) ++ (Qi [r5])) (Qi (a.r1 ++ [r5])) (lf Fr (QG.mk a.x3 (w64 (a.x5 + 1)) a.h0 (a.r1 ++ [r5])))) .fail)))))))) .fail) (rx QaI (Jn.mk a.x3 a.r1))))
theorem Jy.ok {a : QG} {r : Jn} (h : Jy a = some r) : lw 0 22 (loopAt pp 22 15) (Fr a) = some (QaI r) := by
 refine lpP h Qlr fun a => ?_
 exact ⟨(QX _), ⟨rfl, fun q0 => ⟨rfl, fun q1 => fun e1 h => ⟨Xp h, ⟨rfl, fun q2 => ⟨q1, fun e2 h => ⟨Xp h, fun r3 h => ⟨Jk.ok h, ⟨rfl, fun q3 => ⟨(QU [(s_r ++ r3)]), ⟨(decide_eq_true (J7 _)), ⟨(by rw [Qs, Qs]), fun q4 => ⟨(WL _ _), rfl⟩, fun q4 => trivial⟩⟩⟩, fun q3 => trivial⟩⟩⟩⟩, fun q2 => ⟨q1, fun e4 h => ⟨Xp h, fun r5 h => ⟨Uf.ok h, ⟨(QU [r5]), ⟨(decide_eq_true (J7 _)), ⟨(by rw [Qs, Qs]), fun q3 => ⟨(WL _ _), rfl⟩, fun q3 => trivial⟩⟩⟩⟩⟩⟩⟩⟩, fun q1 => trivial⟩, fun q0 => rfl⟩⟩
structure QH where
 x3 : ByteArray
 x6 : Int
 r0 : (List ByteArray)
def Ft (a : QH) : St := { n := 101, nx := 1, env := [(3, xs a.x3), (4, .arr 0), (6, xi a.x6)], heap := [(0, .arr true 1 (Qi a.r0))] }
def QaJ (a : ByteArray) : Ex × St := (.exit 2, { n := 101, nx := 0, env := [(3, xs a)], heap := [] })
abbrev QgA := QH → Option ByteArray
def Gu (a : QH) : Option (QH ⊕ ByteArray) := (bif (decide (a.x6 < (((a.r0.length) : Nat) : Int))) then (bif (a.x6 == 0) then (bif (decide (((a.x3.size + h_20.size : Nat) : Int) ≤ IntKind.i64.max)) then (bif (decide (0 ≤ a.x6 ∧ a.x6 < ((a.r0.length : Nat) : Int))) then ((a.r0[(Int.toNat a.x6)]?).bind fun e1 => (bif (decide ((((a.x3 ++ h_20).size + e1.size : Nat) : Int) ≤ IntKind.i64.max)) then (some (.inl (QH.mk ((a.x3 ++ h_20) ++ e1) (w64 (a.x6 + 1)) a.r0))) else none)) else none) else none) else (bif (decide (((a.x3.size + Vu.size : Nat) : Int) ≤ IntKind.i64.max)) then (bif (decide (0 ≤ a.x6 ∧ a.x6 < ((a.r0.length : Nat) : Int))) then ((a.r0[(Int.toNat a.x6)]?).bind fun e2 => (bif (decide ((((a.x3 ++ Vu).size + e2.size : Nat) : Int) ≤ IntKind.i64.max)) then (some (.inl (QH.mk ((a.x3 ++ Vu) ++ e2) (w64 (a.x6 + 1)) a.r0))) else none)) else none) else none)) else (some (.inr a.x3)))
noncomputable def Jq : QgA := loopW (Gu )
theorem Jq.eq (a : QH) : Jq a = (Gu a).bind (Sum.elim Jq some) := JM _ _
noncomputable abbrev V9 {ρ R : Type} (a : QH) (k0 : ByteArray → Tr ρ R) : Tr ρ R := .loop (loopAt pp 22 21) (Ft a) (Jq a) QaJ k0
noncomputable def Qls (a : QH) : Tr (QH ⊕ ByteArray) XS := (.num ((Qi a.r0).length) (a.r0.length) (.as (decide (a.x6 < (((a.r0.length) : Nat) : Int))) (.as (a.x6 == 0) (.as (decide (((a.x3.size + h_20.size : Nat) : Int) ≤ IntKind.i64.max)) (.ask (in1 a.x6 (((Qi a.r0).length : Nat) : Int)) (in1 a.x6 ((a.r0.length : Nat) : Int)) (.row ((Qi a.r0)[(Int.toNat a.x6)]?) (a.r0[(Int.toNat a.x6)]?) Q8 fun (e1 : ByteArray) => (.as (decide ((((a.x3 ++ h_20).size + e1.size : Nat) : Int) ≤ IntKind.i64.max)) (lf Ft (QH.mk ((a.x3 ++ h_20) ++ e1) (w64 (a.x6 + 1)) a.r0)) .fail)) .fail) .fail) (.as (decide (((a.x3.size + Vu.size : Nat) : Int) ≤ IntKind.i64.max)) (.ask (in1 a.x6 (((Qi a.r0).length : Nat) : Int)) (in1 a.x6 ((a.r0.length : Nat) : Int)) (.row ((Qi a.r0)[(Int.toNat a.x6)]?) (a.r0[(Int.toNat a.x6)]?) Q8 fun (e2 : ByteArray) => (.as (decide ((((a.x3 ++ Vu).size + e2.size : Nat) : Int) ≤ IntKind.i64.max)) (lf Ft (QH.mk ((a.x3 ++ Vu) ++ e2) (w64 (a.x6 + 1)) a.r0)) .fail)) .fail) .fail)) (rx QaJ a.x3)))
theorem Jq.ok {a : QH} {r : ByteArray} (h : Jq a = some r) : lw 0 22 (loopAt pp 22 21) (Ft a) = some (QaJ r) := by
 refine lpP h Qls fun a => ?_
 exact ⟨(Qs _), ⟨rfl, fun q0 => ⟨rfl, fun q1 => ⟨rfl, fun q2 => ⟨(by rw [Qs]), fun q3 => fun e1 h => ⟨Q5 h, ⟨rfl, fun q4 => rfl, fun q4 => trivial⟩⟩, fun q3 => trivial⟩, fun q2 => trivial⟩, fun q1 => ⟨rfl, fun q2 => ⟨(by rw [Qs]), fun q3 => fun e2 h => ⟨Q5 h, ⟨rfl, fun q4 => rfl, fun q4 => trivial⟩⟩, fun q3 => trivial⟩, fun q2 => trivial⟩⟩, fun q0 => rfl⟩⟩
def Qe9 (C0 : Qlp) (L1 : Qgz) (L2 : QgA) (a0 : Qg) : Option ByteArray := (bif (!(eqS a0.Label s_)) then (bif (decide (((a0.Label.size + h_3a.size : Nat) : Int) ≤ IntKind.i64.max)) then (bif (a0.Kind == 0) then (some (a0.Label ++ h_3a)) else (bif (!(eqS (a0.Label ++ h_3a) s_)) then (bif (decide ((((a0.Label ++ h_3a).size + h_20.size : Nat) : Int) ≤ IntKind.i64.max)) then ((C0 a0).bind fun r1 => (bif (decide (((((a0.Label ++ h_3a) ++ h_20).size + r1.size : Nat) : Int) ≤ IntKind.i64.max)) then (bif (a0.Kind == 6) then (bif (decide (((h_22.size + a0.Text.size : Nat) : Int) ≤ IntKind.i64.max)) then (bif (decide ((((h_22 ++ a0.Text).size + h_22.size : Nat) : Int) ≤ IntKind.i64.max)) then (bif (decide ([((h_22 ++ a0.Text) ++ h_22)].length * 16 ≤ most)) then (bif (a0.Kind == 9) then (bif (decide (([((h_22 ++ a0.Text) ++ h_22)].length + [a0.Text].length) * 16 ≤ most)) then ((L1 (QG.mk (((a0.Label ++ h_3a) ++ h_20) ++ r1) (0 : Int) a0 ([((h_22 ++ a0.Text) ++ h_22)] ++ [a0.Text]))).bind (fun (o2 : Jn) => ((L2 (QH.mk o2.x3 (0 : Int) o2.r0)).bind (fun (o3 : ByteArray) => (some o3))))) else none) else ((L1 (QG.mk (((a0.Label ++ h_3a) ++ h_20) ++ r1) (0 : Int) a0 [((h_22 ++ a0.Text) ++ h_22)])).bind (fun (o4 : Jn) => ((L2 (QH.mk o4.x3 (0 : Int) o4.r0)).bind (fun (o5 : ByteArray) => (some o5)))))) else none) else none) else none) else (bif (a0.Kind == 9) then (bif (decide ([a0.Text].length * 16 ≤ most)) then ((L1 (QG.mk (((a0.Label ++ h_3a) ++ h_20) ++ r1) (0 : Int) a0 [a0.Text])).bind (fun (o6 : Jn) => ((L2 (QH.mk o6.x3 (0 : Int) o6.r0)).bind (fun (o7 : ByteArray) => (some o7))))) else none) else ((L1 (QG.mk (((a0.Label ++ h_3a) ++ h_20) ++ r1) (0 : Int) a0 ([] : List ByteArray))).bind (fun (o8 : Jn) => ((L2 (QH.mk o8.x3 (0 : Int) o8.r0)).bind (fun (o9 : ByteArray) => (some o9))))))) else none)) else none) else ((C0 a0).bind fun r10 => (bif (decide ((((a0.Label ++ h_3a).size + r10.size : Nat) : Int) ≤ IntKind.i64.max)) then (bif (a0.Kind == 6) then (bif (decide (((h_22.size + a0.Text.size : Nat) : Int) ≤ IntKind.i64.max)) then (bif (decide ((((h_22 ++ a0.Text).size + h_22.size : Nat) : Int) ≤ IntKind.i64.max)) then (bif (decide ([((h_22 ++ a0.Text) ++ h_22)].length * 16 ≤ most)) then (bif (a0.Kind == 9) then (bif (decide (([((h_22 ++ a0.Text) ++ h_22)].length + [a0.Text].length) * 16 ≤ most)) then ((L1 (QG.mk ((a0.Label ++ h_3a) ++ r10) (0 : Int) a0 ([((h_22 ++ a0.Text) ++ h_22)] ++ [a0.Text]))).bind (fun (o11 : Jn) => ((L2 (QH.mk o11.x3 (0 : Int) o11.r0)).bind (fun (o12 : ByteArray) => (some o12))))) else none) else ((L1 (QG.mk ((a0.Label ++ h_3a) ++ r10) (0 : Int) a0 [((h_22 ++ a0.Text) ++ h_22)])).bind (fun (o13 : Jn) => ((L2 (QH.mk o13.x3 (0 : Int) o13.r0)).bind (fun (o14 : ByteArray) => (some o14)))))) else none) else none) else none) else (bif (a0.Kind == 9) then (bif (decide ([a0.Text].length * 16 ≤ most)) then ((L1 (QG.mk ((a0.Label ++ h_3a) ++ r10) (0 : Int) a0 [a0.Text])).bind (fun (o15 : Jn) => ((L2 (QH.mk o15.x3 (0 : Int) o15.r0)).bind (fun (o16 : ByteArray) => (some o16))))) else none) else ((L1 (QG.mk ((a0.Label ++ h_3a) ++ r10) (0 : Int) a0 ([] : List ByteArray))).bind (fun (o17 : Jn) => ((L2 (QH.mk o17.x3 (0 : Int) o17.r0)).bind (fun (o18 : ByteArray) => (some o18))))))) else none)))) else none) else (bif (a0.Kind == 0) then (some s_) else ((C0 a0).bind fun r19 => (bif (decide (((s_.size + r19.size : Nat) : Int) ≤ IntKind.i64.max)) then (bif (a0.Kind == 6) then (bif (decide (((h_22.size + a0.Text.size : Nat) : Int) ≤ IntKind.i64.max)) then (bif (decide ((((h_22 ++ a0.Text).size + h_22.size : Nat) : Int) ≤ IntKind.i64.max)) then (bif (decide ([((h_22 ++ a0.Text) ++ h_22)].length * 16 ≤ most)) then (bif (a0.Kind == 9) then (bif (decide (([((h_22 ++ a0.Text) ++ h_22)].length + [a0.Text].length) * 16 ≤ most)) then ((L1 (QG.mk (s_ ++ r19) (0 : Int) a0 ([((h_22 ++ a0.Text) ++ h_22)] ++ [a0.Text]))).bind (fun (o20 : Jn) => ((L2 (QH.mk o20.x3 (0 : Int) o20.r0)).bind (fun (o21 : ByteArray) => (some o21))))) else none) else ((L1 (QG.mk (s_ ++ r19) (0 : Int) a0 [((h_22 ++ a0.Text) ++ h_22)])).bind (fun (o22 : Jn) => ((L2 (QH.mk o22.x3 (0 : Int) o22.r0)).bind (fun (o23 : ByteArray) => (some o23)))))) else none) else none) else none) else (bif (a0.Kind == 9) then (bif (decide ([a0.Text].length * 16 ≤ most)) then ((L1 (QG.mk (s_ ++ r19) (0 : Int) a0 [a0.Text])).bind (fun (o24 : Jn) => ((L2 (QH.mk o24.x3 (0 : Int) o24.r0)).bind (fun (o25 : ByteArray) => (some o25))))) else none) else ((L1 (QG.mk (s_ ++ r19) (0 : Int) a0 ([] : List ByteArray))).bind (fun (o26 : Jn) => ((L2 (QH.mk o26.x3 (0 : Int) o26.r0)).bind (fun (o27 : ByteArray) => (some o27))))))) else none))))
noncomputable def Zx : Qlq := Qe9 YL Jy Jq
theorem Zx.eq (a0 : Qg) : Zx a0 = Qe9 YL Jy Jq a0 := rfl
noncomputable def Qo2 (a0 : Qg) : Tr ByteArray AH := (.as (!(eqS a0.Label s_)) (.as (decide (((a0.Label.size + h_3a.size : Nat) : Int) ≤ IntKind.i64.max)) (.as (a0.Kind == 0) (rt Qf (a0.Label ++ h_3a)) (.as (!(eqS (a0.Label ++ h_3a) s_)) (.as (decide ((((a0.Label ++ h_3a).size + h_20.size : Nat) : Int) ≤ IntKind.i64.max)) (Qe7 a0 fun r1 => (.as (decide (((((a0.Label ++ h_3a) ++ h_20).size + r1.size : Nat) : Int) ≤ IntKind.i64.max)) (.as (a0.Kind == 6) (.as (decide (((h_22.size + a0.Text.size : Nat) : Int) ≤ IntKind.i64.max)) (.as (decide ((((h_22 ++ a0.Text).size + h_22.size : Nat) : Int) ≤ IntKind.i64.max)) (.rows [[xs ((h_22 ++ a0.Text) ++ h_22)]] (Qi [((h_22 ++ a0.Text) ++ h_22)]) (.yes (decide ((Qi [((h_22 ++ a0.Text) ++ h_22)]).all (fun r => r.length == 1) = true)) (.ask (decide ((Qi [((h_22 ++ a0.Text) ++ h_22)]).length * 16 ≤ most)) (decide ([((h_22 ++ a0.Text) ++ h_22)].length * 16 ≤ most)) (.rows (Qi [((h_22 ++ a0.Text) ++ h_22)]) (Qi [((h_22 ++ a0.Text) ++ h_22)]) (.as (a0.Kind == 9) (.rows [[xs a0.Text]] (Qi [a0.Text]) (.yes (decide ((Qi [a0.Text]).all (fun r => r.length == 1) = true)) (.ask (decide (((Qi [((h_22 ++ a0.Text) ++ h_22)]).length + (Qi [a0.Text]).length) * 16 ≤ most)) (decide (([((h_22 ++ a0.Text) ++ h_22)].length + [a0.Text].length) * 16 ≤ most)) (.rows ((Qi [((h_22 ++ a0.Text) ++ h_22)]) ++ (Qi [a0.Text])) (Qi ([((h_22 ++ a0.Text) ++ h_22)] ++ [a0.Text])) (V8 (QG.mk (((a0.Label ++ h_3a) ++ h_20) ++ r1) i0 a0 ([((h_22 ++ a0.Text) ++ h_22)] ++ [a0.Text])) (fun o2 => (V9 (QH.mk o2.x3 i0 o2.r0) (fun o3 => (rt Qf o3)))))) .fail))) (V8 (QG.mk (((a0.Label ++ h_3a) ++ h_20) ++ r1) i0 a0 [((h_22 ++ a0.Text) ++ h_22)]) (fun o4 => (V9 (QH.mk o4.x3 i0 o4.r0) (fun o5 => (rt Qf o5))))))) .fail))) .fail) .fail) (.as (a0.Kind == 9) (.rows [[xs a0.Text]] (Qi [a0.Text]) (.yes (decide ((Qi [a0.Text]).all (fun r => r.length == 1) = true)) (.ask (decide ((Qi [a0.Text]).length * 16 ≤ most)) (decide ([a0.Text].length * 16 ≤ most)) (.rows (Qi [a0.Text]) (Qi [a0.Text]) (V8 (QG.mk (((a0.Label ++ h_3a) ++ h_20) ++ r1) i0 a0 [a0.Text]) (fun o6 => (V9 (QH.mk o6.x3 i0 o6.r0) (fun o7 => (rt Qf o7)))))) .fail))) (V8 (QG.mk (((a0.Label ++ h_3a) ++ h_20) ++ r1) i0 a0 ([] : List ByteArray)) (fun o8 => (V9 (QH.mk o8.x3 i0 o8.r0) (fun o9 => (rt Qf o9))))))) .fail)) .fail) (Qe7 a0 fun r10 => (.as (decide ((((a0.Label ++ h_3a).size + r10.size : Nat) : Int) ≤ IntKind.i64.max)) (.as (a0.Kind == 6) (.as (decide (((h_22.size + a0.Text.size : Nat) : Int) ≤ IntKind.i64.max)) (.as (decide ((((h_22 ++ a0.Text).size + h_22.size : Nat) : Int) ≤ IntKind.i64.max)) (.rows [[xs ((h_22 ++ a0.Text) ++ h_22)]] (Qi [((h_22 ++ a0.Text) ++ h_22)]) (.yes (decide ((Qi [((h_22 ++ a0.Text) ++ h_22)]).all (fun r => r.length == 1) = true)) (.ask (decide ((Qi [((h_22 ++ a0.Text) ++ h_22)]).length * 16 ≤ most)) (decide ([((h_22 ++ a0.Text) ++ h_22)].length * 16 ≤ most)) (.rows (Qi [((h_22 ++ a0.Text) ++ h_22)]) (Qi [((h_22 ++ a0.Text) ++ h_22)]) (.as (a0.Kind == 9) (.rows [[xs a0.Text]] (Qi [a0.Text]) (.yes (decide ((Qi [a0.Text]).all (fun r => r.length == 1) = true)) (.ask (decide (((Qi [((h_22 ++ a0.Text) ++ h_22)]).length + (Qi [a0.Text]).length) * 16 ≤ most)) (decide (([((h_22 ++ a0.Text) ++ h_22)].length + [a0.Text].length) * 16 ≤ most)) (.rows ((Qi [((h_22 ++ a0.Text) ++ h_22)]) ++ (Qi [a0.Text])) (Qi ([((h_22 ++ a0.Text) ++ h_22)] ++ [a0.Text])) (V8 (QG.mk ((a0.Label ++ h_3a) ++ r10) i0 a0 ([((h_22 ++ a0.Text) ++ h_22)] ++ [a0.Text])) (fun o11 => (V9 (QH.mk o11.x3 i0 o11.r0) (fun o12 => (rt Qf o12)))))) .fail))) (V8 (QG.mk ((a0.Label ++ h_3a) ++ r10) i0 a0 [((h_22 ++ a0.Text) ++ h_22)]) (fun o13 => (V9 (QH.mk o13.x3 i0 o13.r0) (fun o14 => (rt Qf o14))))))) .fail))) .fail) .fail) (.as (a0.Kind == 9) (.rows [[xs a0.Text]] (Qi [a0.Text]) (.yes (decide ((Qi [a0.Text]).all (fun r => r.length == 1) = true)) (.ask (decide ((Qi [a0.Text]).length * 16 ≤ most)) (decide ([a0.Text].length * 16 ≤ most)) (.rows (Qi [a0.Text]) (Qi [a0.Text]) (V8 (QG.mk ((a0.Label ++ h_3a) ++ r10) i0 a0 [a0.Text]) (fun o15 => (V9 (QH.mk o15.x3 i0 o15.r0) (fun o16 => (rt Qf o16)))))) .fail))) (V8 (QG.mk ((a0.Label ++ h_3a) ++ r10) i0 a0 ([] : List ByteArray)) (fun o17 => (V9 (QH.mk o17.x3 i0 o17.r0) (fun o18 => (rt Qf o18))))))) .fail)))) .fail) (.as (a0.Kind == 0) (rt Qf s_) (.no false (Qe7 a0 fun r19 => (.as (decide (((s_.size + r19.size : Nat) : Int) ≤ IntKind.i64.max)) (.as (a0.Kind == 6) (.as (decide (((h_22.size + a0.Text.size : Nat) : Int) ≤ IntKind.i64.max)) (.as (decide ((((h_22 ++ a0.Text).size + h_22.size : Nat) : Int) ≤ IntKind.i64.max)) (.rows [[xs ((h_22 ++ a0.Text) ++ h_22)]] (Qi [((h_22 ++ a0.Text) ++ h_22)]) (.yes (decide ((Qi [((h_22 ++ a0.Text) ++ h_22)]).all (fun r => r.length == 1) = true)) (.ask (decide ((Qi [((h_22 ++ a0.Text) ++ h_22)]).length * 16 ≤ most)) (decide ([((h_22 ++ a0.Text) ++ h_22)].length * 16 ≤ most)) (.rows (Qi [((h_22 ++ a0.Text) ++ h_22)]) (Qi [((h_22 ++ a0.Text) ++ h_22)]) (.as (a0.Kind == 9) (.rows [[xs a0.Text]] (Qi [a0.Text]) (.yes (decide ((Qi [a0.Text]).all (fun r => r.length == 1) = true)) (.ask (decide (((Qi [((h_22 ++ a0.Text) ++ h_22)]).length + (Qi [a0.Text]).length) * 16 ≤ most)) (decide (([((h_22 ++ a0.Text) ++ h_22)].length + [a0.Text].length) * 16 ≤ most)) (.rows ((Qi [((h_22 ++ a0.Text) ++ h_22)]) ++ (Qi [a0.Text])) (Qi ([((h_22 ++ a0.Text) ++ h_22)] ++ [a0.Text])) (V8 (QG.mk (s_ ++ r19) i0 a0 ([((h_22 ++ a0.Text) ++ h_22)] ++ [a0.Text])) (fun o20 => (V9 (QH.mk o20.x3 i0 o20.r0) (fun o21 => (rt Qf o21)))))) .fail))) (V8 (QG.mk (s_ ++ r19) i0 a0 [((h_22 ++ a0.Text) ++ h_22)]) (fun o22 => (V9 (QH.mk o22.x3 i0 o22.r0) (fun o23 => (rt Qf o23))))))) .fail))) .fail) .fail) (.as (a0.Kind == 9) (.rows [[xs a0.Text]] (Qi [a0.Text]) (.yes (decide ((Qi [a0.Text]).all (fun r => r.length == 1) = true)) (.ask (decide ((Qi [a0.Text]).length * 16 ≤ most)) (decide ([a0.Text].length * 16 ≤ most)) (.rows (Qi [a0.Text]) (Qi [a0.Text]) (V8 (QG.mk (s_ ++ r19) i0 a0 [a0.Text]) (fun o24 => (V9 (QH.mk o24.x3 i0 o24.r0) (fun o25 => (rt Qf o25)))))) .fail))) (V8 (QG.mk (s_ ++ r19) i0 a0 ([] : List ByteArray)) (fun o26 => (V9 (QH.mk o26.x3 i0 o26.r0) (fun o27 => (rt Qf o27))))))) .fail)))))
theorem Zx.ok {a0 : Qg} {r : ByteArray} (h : Zx a0 = some r) : ww 22 [.agg (U0 a0)] [] = some (Qf r) := by
 refine fnP (Qo2 a0) ?_ h
 exact ⟨rfl, fun q0 => ⟨rfl, fun q1 => ⟨rfl, fun q2 => rfl, fun q2 => ⟨rfl, fun q3 => ⟨rfl, fun q4 => fun r1 h => ⟨YL.ok h, ⟨rfl, fun q5 => ⟨rfl, fun q6 => ⟨rfl, fun q7 => ⟨rfl, fun q8 => ⟨(QU [((h_22 ++ a0.Text) ++ h_22)]), ⟨(decide_eq_true (J7 _)), ⟨(by rw [Qs]), fun q9 => ⟨rfl, ⟨rfl, fun q10 => ⟨(QU [a0.Text]), ⟨(decide_eq_true (J7 _)), ⟨(by rw [Qs, Qs]), fun q11 => ⟨(WL _ _), fun o2 h => ⟨Jy.ok h, fun o3 h => ⟨Jq.ok h, rfl⟩⟩⟩, fun q11 => trivial⟩⟩⟩, fun q10 => fun o4 h => ⟨Jy.ok h, fun o5 h => ⟨Jq.ok h, rfl⟩⟩⟩⟩, fun q9 => trivial⟩⟩⟩, fun q8 => trivial⟩, fun q7 => trivial⟩, fun q6 => ⟨rfl, fun q7 => ⟨(QU [a0.Text]), ⟨(decide_eq_true (J7 _)), ⟨(by rw [Qs]), fun q8 => ⟨rfl, fun o6 h => ⟨Jy.ok h, fun o7 h => ⟨Jq.ok h, rfl⟩⟩⟩, fun q8 => trivial⟩⟩⟩, fun q7 => fun o8 h => ⟨Jy.ok h, fun o9 h => ⟨Jq.ok h, rfl⟩⟩⟩⟩, fun q5 => trivial⟩⟩, fun q4 => trivial⟩, fun q3 => fun r10 h => ⟨YL.ok h, ⟨rfl, fun q4 => ⟨rfl, fun q5 => ⟨rfl, fun q6 => ⟨rfl, fun q7 => ⟨(QU [((h_22 ++ a0.Text) ++ h_22)]), ⟨(decide_eq_true (J7 _)), ⟨(by rw [Qs]), fun q8 => ⟨rfl, ⟨rfl, fun q9 => ⟨(QU [a0.Text]), ⟨(decide_eq_true (J7 _)), ⟨(by rw [Qs, Qs]), fun q10 => ⟨(WL _ _), fun o11 h => ⟨Jy.ok h, fun o12 h => ⟨Jq.ok h, rfl⟩⟩⟩, fun q10 => trivial⟩⟩⟩, fun q9 => fun o13 h => ⟨Jy.ok h, fun o14 h => ⟨Jq.ok h, rfl⟩⟩⟩⟩, fun q8 => trivial⟩⟩⟩, fun q7 => trivial⟩, fun q6 => trivial⟩, fun q5 => ⟨rfl, fun q6 => ⟨(QU [a0.Text]), ⟨(decide_eq_true (J7 _)), ⟨(by rw [Qs]), fun q7 => ⟨rfl, fun o15 h => ⟨Jy.ok h, fun o16 h => ⟨Jq.ok h, rfl⟩⟩⟩, fun q7 => trivial⟩⟩⟩, fun q6 => fun o17 h => ⟨Jy.ok h, fun o18 h => ⟨Jq.ok h, rfl⟩⟩⟩⟩, fun q4 => trivial⟩⟩⟩⟩, fun q1 => trivial⟩, fun q0 => ⟨rfl, fun q1 => rfl, fun q1 => ⟨rfl, fun r19 h => ⟨YL.ok h, ⟨rfl, fun q2 => ⟨rfl, fun q3 => ⟨rfl, fun q4 => ⟨rfl, fun q5 => ⟨(QU [((h_22 ++ a0.Text) ++ h_22)]), ⟨(decide_eq_true (J7 _)), ⟨(by rw [Qs]), fun q6 => ⟨rfl, ⟨rfl, fun q7 => ⟨(QU [a0.Text]), ⟨(decide_eq_true (J7 _)), ⟨(by rw [Qs, Qs]), fun q8 => ⟨(WL _ _), fun o20 h => ⟨Jy.ok h, fun o21 h => ⟨Jq.ok h, rfl⟩⟩⟩, fun q8 => trivial⟩⟩⟩, fun q7 => fun o22 h => ⟨Jy.ok h, fun o23 h => ⟨Jq.ok h, rfl⟩⟩⟩⟩, fun q6 => trivial⟩⟩⟩, fun q5 => trivial⟩, fun q4 => trivial⟩, fun q3 => ⟨rfl, fun q4 => ⟨(QU [a0.Text]), ⟨(decide_eq_true (J7 _)), ⟨(by rw [Qs]), fun q5 => ⟨rfl, fun o24 h => ⟨Jy.ok h, fun o25 h => ⟨Jq.ok h, rfl⟩⟩⟩, fun q5 => trivial⟩⟩⟩, fun q4 => fun o26 h => ⟨Jy.ok h, fun o27 h => ⟨Jq.ok h, rfl⟩⟩⟩⟩, fun q2 => trivial⟩⟩⟩⟩⟩
noncomputable abbrev Qo3 {ρ R : Type} (a0 : Qg) (k : ByteArray → Tr ρ R) : Tr ρ R := .call (ww 22 [.agg (U0 a0)] []) (Zx a0) Qf k
abbrev Qp1 := ByteArray → Option (Int × Bool)
def Qfa (C0 : Qc3) (a0 : ByteArray) : Option (Int × Bool) := ((C0 (-1 : Int) a0).bind fun r1 => (some (r1.2.1, r1.2.2)))
noncomputable def Qcx : Qp1 := Qfa XE
theorem Qcx.eq (a0 : ByteArray) : Qcx a0 = Qfa XE a0 := rfl
abbrev Xm := Qa → Qa → Option Bool
abbrev Qg8 (c : Xm) : Prop := ∀ (a0 : Qa) (a1 : Qa) (r : Bool), c a0 a1 = some r → ww 78 [.agg (QL a0), .agg (QL a1)] [] = some (Qk r)
noncomputable abbrev QjA {ρ R : Type} (c : Xm) (a0 : Qa) (a1 : Qa) (k : Bool → Tr ρ R) : Tr ρ R := .call (ww 78 [.agg (QL a0), .agg (QL a1)] []) (c a0 a1) Qk k
structure UZ where
 x5 : Int
 h0 : Qa
 h1 : Qa
def QaK (a : UZ) : St := { n := 53, nx := 2, env := [(2, .ptr 0 0), (3, .ptr 1 0), (5, xi a.x5)], heap := [(0, .box [] (QL a.h0)), (1, .box [] (QL a.h1))] }
def QdD (a : Bool) : Ex × St := (.ret, { n := 53, nx := 0, env := [(4, xo a)], heap := [] })
def QdE (a : Unit) : Ex × St := (.exit 0, { n := 53, nx := 0, env := [], heap := [] })
def QaL (a : (Bool ⊕ Unit)) : Ex × St := Sum.elim QdD QdE a
abbrev Yh := UZ → Option (Bool ⊕ Unit)
def Xn (C0 : Xm) (a : UZ) : Option (UZ ⊕ (Bool ⊕ Unit)) := (bif (decide (a.x5 < (((a.h0.L.length) : Nat) : Int))) then (bif (decide (0 ≤ a.x5)) then ((a.h0.L[(Int.toNat a.x5)]?).bind fun e1 => ((a.h1.L[(Int.toNat a.x5)]?).bind fun e2 => ((C0 e1 e2).bind fun r3 => (bif (!r3) then (some (.inr (.inl false))) else (some (.inl (UZ.mk (w64 (a.x5 + 1)) a.h0 a.h1))))))) else none) else (some (.inr (.inr ()))))
theorem Qfb {C0 : Nat → Xm} {D0 : Xm} (H0 : Cv2 C0 D0) (a : UZ) : Cv (fun k => Xn (C0 k) a) (Xn D0 a) := by
 unfold Xn
 exact .cond (.cond (.bind (.const _) fun e1 => .bind (.const _) fun e2 => .bind (H0 _ _) fun r3 => by exact .const _) cst) cst
noncomputable abbrev Qlt {ρ R : Type} (l : Yh) (a : UZ) (k0 : Bool → Tr ρ R) (k1 : Unit → Tr ρ R) : Tr ρ R := .loop2 (loopAt pp 78 4) (QaK a) (l a) QdD QdE k0 k1
noncomputable def Qlu (C0 : Xm) (a : UZ) : Tr (UZ ⊕ (Bool ⊕ Unit)) XS := (.num ((QC a.h0.L).length) (a.h0.L.length) (.as (decide (a.x5 < (((a.h0.L.length) : Nat) : Int))) (let u130 := (decide (0 ≤ a.x5)); .as u130 (.row ((QC a.h0.L)[(Int.toNat a.x5)]?) (a.h0.L[(Int.toNat a.x5)]?) QL fun (e1 : Qa) => (.yes u130 (.row ((QC a.h1.L)[(Int.toNat a.x5)]?) (a.h1.L[(Int.toNat a.x5)]?) QL fun (e2 : Qa) => (QjA C0 e1 e2 fun r3 => (.as (!r3) (rx QaL (.inl false)) (lf QaK (UZ.mk (w64 (a.x5 + 1)) a.h0 a.h1))))))) .fail) (rx QaL (.inr ()))))
noncomputable def Jr.s (k : Nat) (C0 : Xm) : Yh := iter (Xn C0) k
theorem QdF (k : Nat) {C0 : Xm} (i_r3_Same : Qg8 C0) {a : UZ} {r : (Bool ⊕ Unit)} (h : Jr.s k C0 a = some r) : lw 0 78 (loopAt pp 78 4) (QaK a) = some (QaL r) := by
 refine lpP (itP h) (Qlu C0) fun a => ?_
 exact ⟨(Yj _), ⟨rfl, fun q0 => ⟨rfl, fun q1 => fun e1 h => ⟨W4 h, ⟨q1, fun e2 h => ⟨W4 h, fun r3 h => ⟨i_r3_Same _ _ _ h, ⟨rfl, fun q2 => rfl, fun q2 => rfl⟩⟩⟩⟩⟩, fun q1 => trivial⟩, fun q0 => rfl⟩⟩
theorem Jr.m {j k : Nat} (hj : j ≤ k) (C0 : Xm) (D0 : Xm) (H0 : Le2 C0 D0) (a : UZ) : Le (Jr.s j C0 a) (Jr.s k D0 a) := Le.iter (fun a => (Qfb (tw2 H0) a).1 0) hj a
noncomputable def Jr.w (C0 : Xm) : Yh := loopW (Xn C0)
theorem Jr.cv (C0 : Nat → Xm) (D0 : Xm) (H0 : Cv2 C0 D0) (a : UZ) : Cv (fun k => Jr.s k (C0 k) a) (Jr.w D0 a) := Cv.iter (fun a => Qfb H0 a) a
def Gv (L0 : Yh) (a0 : Qa) (a1 : Qa) : Option Bool := (bif (a0.Kind != a1.Kind) then (some false) else (bif (a0.N != a1.N) then (some false) else (bif (!(eqS a0.Name a1.Name)) then (some false) else (bif ((((a0.L.length) : Nat) : Int) != (((a1.L.length) : Nat) : Int)) then (some false) else ((L0 (UZ.mk (0 : Int) a0 a1)).bind fun x => Sum.elim (fun (o1 : Bool) => (some o1)) (fun (o2 : Unit) => (some true)) x)))))
theorem QjB {L0 : Nat → Yh} {M0 : Yh} (N0 : Cv1 L0 M0) (a0 : Qa) (a1 : Qa) : Cv (fun k => Gv (L0 k) a0 a1) (Gv M0 a0 a1) := by
 unfold Gv
 exact .cond cst (.cond cst (.cond cst (.cond cst (.bind (N0 _) fun x => .sum (fun o1 => by exact .const _) (fun o2 => by exact .const _) x))))
noncomputable def Qo4 (L0 : Yh) (a0 : Qa) (a1 : Qa) : Tr Bool AH := (let u133 := (a0.Kind != a1.Kind); .as u133 (yesN 5 u133 (yesN 15 true (rt Qk false))) (noN 5 u133 (let u132 := (a0.N != a1.N); .as u132 (yesN 5 u132 (yesN 9 true (rt Qk false))) (noN 5 u132 (let u131 := (!(eqS a0.Name a1.Name)); .as u131 (yesN 7 u131 (.yes true (rt Qk false))) (noN 2 u131 (.num ((QC a0.L).length) (a0.L.length) (noN 3 u131 (.num ((QC a1.L).length) (a1.L.length) (noN 2 u131 (.as ((((a0.L.length) : Nat) : Int) != (((a1.L.length) : Nat) : Int)) (rt Qk false) (Qlt L0 (UZ.mk i0 a0 a1) (fun o1 => (rt Qk o1)) (fun o2 => (rt Qk true))))))))))))))
noncomputable def J3.s : Nat → Qa → Qa → Option Bool
 | 0, _, _ => none
 | k + 1, a0, a1 => Gv (Jr.s k (fun a0 a1 => J3.s k a0 a1)) a0 a1
termination_by structural k => k
theorem QgB : ∀ (k : Nat), (Qg8 (J3.s k))
 | 0 => fun _ _ _ h => (nomatch h)
 | k + 1 => by
  have i_r3_Same : Qg8 (J3.s k) := QgB k
  exact fun a0 a1 r h => by
    refine fnP (Qo4 (Jr.s k (J3.s k)) a0 a1) ?_ h
    exact ⟨rfl, fun q0 => Ql 5 (q0) (Ql 15 (rfl) (rfl)), fun q0 => noN_ok 5 (q0) (⟨rfl, fun q1 => Ql 5 (q1) (Ql 9 (rfl) (rfl)), fun q1 => noN_ok 5 (q1) (⟨rfl, fun q2 => Ql 7 (q2) (⟨rfl, rfl⟩), fun q2 => noN_ok 2 (q2) (⟨(Yj _), noN_ok 3 (q2) (⟨(Yj _), noN_ok 2 (q2) (⟨rfl, fun q3 => rfl, fun q3 => ⟨fun o1 h => ⟨QdF k i_r3_Same (r := (.inl _)) h, rfl⟩, fun o2 h => ⟨QdF k i_r3_Same (r := (.inr _)) h, rfl⟩⟩⟩)⟩)⟩)⟩)⟩)⟩
theorem Qfc : ∀ (k : Nat), (∀ (a0 : Qa) (a1 : Qa), Le (J3.s k a0 a1) (J3.s (k + 1) a0 a1))
 | 0 => fun _ _ _ h => (nomatch h)
 | k + 1 => by
  have i_r3_Same : ∀ (a0 : Qa) (a1 : Qa), Le (J3.s k a0 a1) (J3.s (k + 1) a0 a1) := Qfc k
  exact fun a0 a1 => (QjB (tw1 (Jr.m (Nat.le_succ k) (J3.s k) (J3.s (k + 1)) i_r3_Same)) a0 a1).1 0
noncomputable def J3 (a0 : Qa) (a1 : Qa) : Option Bool := lim fun k => J3.s k a0 a1
theorem J3.cv (a0 : Qa) (a1 : Qa) : Cv (fun k => J3.s k a0 a1) (J3 a0 a1) := .lim fun k => (Qfc k) a0 a1
theorem J3.ok {a0 : Qa} {a1 : Qa} {r : Bool} (h : J3 a0 a1 = some r) : ww 78 [.agg (QL a0), .agg (QL a1)] [] = some (Qk r) := let ⟨k, e⟩ := ((J3.cv a0 a1).2 r).1 h; (QgB k) a0 a1 _ e
noncomputable def Jr : Yh := Jr.w J3
theorem Jr.eq (a : UZ) : Jr a = (Xn J3 a).bind (Sum.elim Jr some) := JM _ _
theorem J3.eq (a0 : Qa) (a1 : Qa) : J3 a0 a1 = Gv Jr a0 a1 := Cv.uniq (J3.cv a0 a1).shift (QjB (Jr.cv (fun k => J3.s k) J3 J3.cv) a0 a1)
noncomputable abbrev Qo5 {ρ R : Type} (a0 : Qa) (a1 : Qa) (k : Bool → Tr ρ R) : Tr ρ R := QjA J3 a0 a1 k
abbrev Qlv := Qg → Qg → Option Bool
structure VS where
 x5 : Int
 h0 : Qg
 h1 : Qg
def QaM (a : VS) : St := { n := 84, nx := 2, env := [(2, .ptr 0 0), (3, .ptr 1 0), (5, xi a.x5)], heap := [(0, .box [0, 0, 0, 0, 0, 5] (U0 a.h0)), (1, .box [0, 0, 0, 0, 0, 5] (U0 a.h1))] }
def QdG (a : Bool) : Ex × St := (.ret, { n := 84, nx := 0, env := [(4, xo a)], heap := [] })
def QdH (a : Unit) : Ex × St := (.exit 0, { n := 84, nx := 0, env := [], heap := [] })
def Fu (a : (Bool ⊕ Unit)) : Ex × St := Sum.elim QdG QdH a
abbrev QgC := VS → Option (Bool ⊕ Unit)
def Fv (C0 : Xm) (a : VS) : Option (VS ⊕ (Bool ⊕ Unit)) := (bif (decide (a.x5 < (((a.h0.Args.length) : Nat) : Int))) then (bif (decide (0 ≤ a.x5)) then ((a.h0.Args[(Int.toNat a.x5)]?).bind fun e1 => ((a.h1.Args[(Int.toNat a.x5)]?).bind fun e2 => (bif (e1.Reg != e2.Reg) then (some (.inr (.inl false))) else ((a.h0.Args[(Int.toNat a.x5)]?).bind fun e3 => ((a.h1.Args[(Int.toNat a.x5)]?).bind fun e4 => ((C0 e3.E e4.E).bind fun r5 => (bif (!r5) then (some (.inr (.inl false))) else (some (.inl (VS.mk (w64 (a.x5 + 1)) a.h0 a.h1)))))))))) else none) else (some (.inr (.inr ()))))
noncomputable def Wr : QgC := loopW (Fv J3)
theorem Wr.eq (a : VS) : Wr a = (Fv J3 a).bind (Sum.elim Wr some) := JM _ _
noncomputable abbrev Qlw {ρ R : Type} (a : VS) (k0 : Bool → Tr ρ R) (k1 : Unit → Tr ρ R) : Tr ρ R := .loop2 (loopAt pp 28 4) (QaM a) (Wr a) QdG QdH k0 k1
noncomputable def Qlx (a : VS) : Tr (VS ⊕ (Bool ⊕ Unit)) XS := (.num ((Qj a.h0.Args).length) (a.h0.Args.length) (.as (decide (a.x5 < (((a.h0.Args.length) : Nat) : Int))) (let u135 := (decide (0 ≤ a.x5)); .as u135 (.row ((Qj a.h0.Args)[(Int.toNat a.x5)]?) (a.h0.Args[(Int.toNat a.x5)]?) Wg fun (e1 : Qd) => (.yes u135 (.row ((Qj a.h1.Args)[(Int.toNat a.x5)]?) (a.h1.Args[(Int.toNat a.x5)]?) Wg fun (e2 : Qd) => (let u134 := (e1.Reg != e2.Reg); .as u134 (yesN 14 u134 (.yes true (rx Fu (.inl false)))) (noN 3 u134 (.yes u135 (.row ((Qj a.h0.Args)[(Int.toNat a.x5)]?) (a.h0.Args[(Int.toNat a.x5)]?) Wg fun (e3 : Qd) => (noN 6 u134 (.yes u135 (.row ((Qj a.h1.Args)[(Int.toNat a.x5)]?) (a.h1.Args[(Int.toNat a.x5)]?) Wg fun (e4 : Qd) => (noN 3 u134 (Qo5 e3.E e4.E fun r5 => (noN 2 u134 (.as (!r5) (rx Fu (.inl false)) (lf QaM (VS.mk (w64 (a.x5 + 1)) a.h0 a.h1)))))))))))))))) .fail) (rx Fu (.inr ()))))
theorem Wr.ok {a : VS} {r : (Bool ⊕ Unit)} (h : Wr a = some r) : lw 0 28 (loopAt pp 28 4) (QaM a) = some (Fu r) := by
 refine lpP h Qlx fun a => ?_
 exact ⟨(QX _), ⟨rfl, fun q0 => ⟨rfl, fun q1 => fun e1 h => ⟨Xp h, ⟨q1, fun e2 h => ⟨Xp h, ⟨rfl, fun q2 => Ql 14 (q2) (⟨rfl, rfl⟩), fun q2 => noN_ok 3 (q2) (⟨q1, fun e3 h => ⟨Xp h, noN_ok 6 (q2) (⟨q1, fun e4 h => ⟨Xp h, noN_ok 3 (q2) (fun r5 h => ⟨J3.ok h, noN_ok 2 (q2) (⟨rfl, fun q3 => rfl, fun q3 => rfl⟩)⟩)⟩⟩)⟩⟩)⟩⟩⟩⟩, fun q1 => trivial⟩, fun q0 => rfl⟩⟩
def Qfd (L0 : QgC) (a0 : Qg) (a1 : Qg) : Option Bool := (bif (a0.Line != a1.Line) then (some false) else (bif (!(eqS a0.Label a1.Label)) then (some false) else (bif (a0.Kind != a1.Kind) then (some false) else (bif (a0.Op != a1.Op) then (some false) else (bif (!(eqS a0.Text a1.Text)) then (some false) else (bif ((((a0.Args.length) : Nat) : Int) != (((a1.Args.length) : Nat) : Int)) then (some false) else ((L0 (VS.mk (0 : Int) a0 a1)).bind fun x => Sum.elim (fun (o1 : Bool) => (some o1)) (fun (o2 : Unit) => (some true)) x)))))))
noncomputable def ZU : Qlv := Qfd Wr
theorem ZU.eq (a0 : Qg) (a1 : Qg) : ZU a0 a1 = Qfd Wr a0 a1 := rfl
noncomputable def Qo6 (a0 : Qg) (a1 : Qg) : Tr Bool AH := (let u140 := (a0.Line != a1.Line); .as u140 (yesN 5 u140 (yesN 27 true (rt Qk false))) (noN 5 u140 (let u139 := (!(eqS a0.Label a1.Label)); .as u139 (yesN 5 u139 (yesN 21 true (rt Qk false))) (noN 5 u139 (let u138 := (a0.Kind != a1.Kind); .as u138 (yesN 5 u138 (yesN 15 true (rt Qk false))) (noN 5 u138 (let u137 := (a0.Op != a1.Op); .as u137 (yesN 5 u137 (yesN 9 true (rt Qk false))) (noN 5 u137 (let u136 := (!(eqS a0.Text a1.Text)); .as u136 (yesN 7 u136 (.yes true (rt Qk false))) (noN 2 u136 (.num ((Qj a0.Args).length) (a0.Args.length) (noN 3 u136 (.num ((Qj a1.Args).length) (a1.Args.length) (noN 2 u136 (.as ((((a0.Args.length) : Nat) : Int) != (((a1.Args.length) : Nat) : Int)) (rt Qk false) (Qlw (VS.mk i0 a0 a1) (fun o1 => (rt Qk o1)) (fun o2 => (rt Qk true))))))))))))))))))
theorem ZU.ok {a0 : Qg} {a1 : Qg} {r : Bool} (h : ZU a0 a1 = some r) : ww 28 [.agg (U0 a0), .agg (U0 a1)] [] = some (Qk r) := by
 refine fnP (Qo6 a0 a1) ?_ h
 exact ⟨rfl, fun q0 => Ql 5 (q0) (Ql 27 (rfl) (rfl)), fun q0 => noN_ok 5 (q0) (⟨rfl, fun q1 => Ql 5 (q1) (Ql 21 (rfl) (rfl)), fun q1 => noN_ok 5 (q1) (⟨rfl, fun q2 => Ql 5 (q2) (Ql 15 (rfl) (rfl)), fun q2 => noN_ok 5 (q2) (⟨rfl, fun q3 => Ql 5 (q3) (Ql 9 (rfl) (rfl)), fun q3 => noN_ok 5 (q3) (⟨rfl, fun q4 => Ql 7 (q4) (⟨rfl, rfl⟩), fun q4 => noN_ok 2 (q4) (⟨(QX _), noN_ok 3 (q4) (⟨(QX _), noN_ok 2 (q4) (⟨rfl, fun q5 => rfl, fun q5 => ⟨fun o1 h => ⟨Wr.ok (r := (.inl _)) h, rfl⟩, fun o2 h => ⟨Wr.ok (r := (.inr _)) h, rfl⟩⟩⟩)⟩)⟩)⟩)⟩)⟩)⟩)⟩
noncomputable abbrev Qo7 {ρ R : Type} (a0 : Qg) (a1 : Qg) (k : Bool → Tr ρ R) : Tr ρ R := .call (ww 28 [.agg (U0 a0), .agg (U0 a1)] []) (ZU a0 a1) Qk k
abbrev Qly := (List QB) → Option Bool
structure UF where
 x0 : (List QB)
 x3 : Int
def Er (a : UF) : St := { n := 49, nx := 0, env := [(0, .sl (Xe a.x0)), (3, xi a.x3)], heap := [] }
def Sl (a : Bool) : Ex × St := (.ret, { n := 49, nx := 0, env := [(2, xo a)], heap := [] })
def Sm (a : Unit) : Ex × St := (.exit 0, { n := 49, nx := 0, env := [], heap := [] })
def XG (a : (Bool ⊕ Unit)) : Ex × St := Sum.elim Sl Sm a
abbrev Qbf := UF → Option (Bool ⊕ Unit)
def ZL (C0 : Qe4) (C1 : QhY) (C2 : Qjp) (C3 : Qlq) (C4 : Qlv) (a : UF) : Option (UF ⊕ (Bool ⊕ Unit)) := (bif (decide (a.x3 < (((a.x0.length) : Nat) : Int))) then (bif (decide (a.x3 < 8)) then (bif (decide (0 ≤ a.x3)) then ((a.x0[(Int.toNat a.x3)]?).bind fun e1 => ((C0 e1).bind fun r2 => ((C1 r2).bind fun r3 => ((C2 r3).bind fun r4 => ((C3 r2).bind fun r5 => (bif (!(eqS r3 r5)) then (some (.inr (.inl false))) else (bif (!r4.2) then (some (.inr (.inl false))) else ((C4 r2 r4.1).bind fun r6 => (bif (!r6) then (some (.inr (.inl false))) else (some (.inl (UF.mk a.x0 (w64 (a.x3 + 1)))))))))))))) else none) else (some (.inr (.inr ())))) else (some (.inr (.inr ()))))
noncomputable def US : Qbf := loopW (ZL W0 Ye Y5 Zx ZU)
theorem US.eq (a : UF) : US a = (ZL W0 Ye Y5 Zx ZU a).bind (Sum.elim US some) := JM _ _
noncomputable abbrev Qg9 {ρ R : Type} (a : UF) (k0 : Bool → Tr ρ R) (k1 : Unit → Tr ρ R) : Tr ρ R := .loop2 (loopAt pp 5 6) (Er a) (US a) Sl Sm k0 k1
noncomputable def Qha (a : UF) : Tr (UF ⊕ (Bool ⊕ Unit)) XS := (.num ((Xe a.x0).length) (a.x0.length) (let u142 := (decide (a.x3 < (((a.x0.length) : Nat) : Int))); .as u142 (yesN 2 u142 (.as (decide (a.x3 < 8)) (.as (decide (0 ≤ a.x3)) (.row ((Xe a.x0)[(Int.toNat a.x3)]?) (a.x0[(Int.toNat a.x3)]?) V1 fun (e1 : QB) => (Qkm e1 fun r2 => (QmA r2 fun r3 => (QnU r3 fun r4 => (Qo3 r2 fun r5 => (let u141 := (!(eqS r3 r5)); .as u141 (yesN 2 u141 (yesN 6 true (rx XG (.inl false)))) (noN 2 u141 (.as (!r4.2) (yesN 4 (!r4.2) (.yes true (rx XG (.inl false)))) (noN 2 (!r4.2) (Qo7 r2 r4.1 fun r6 => (noN 2 (!r4.2) (.as (!r6) (rx XG (.inl false)) (lf Er (UF.mk a.x0 (w64 (a.x3 + 1)))))))))))))))) .fail) (rx XG (.inr ())))) (noN 2 u142 (.no false (rx XG (.inr ()))))))
theorem US.ok {a : UF} {r : (Bool ⊕ Unit)} (h : US a = some r) : lw 0 5 (loopAt pp 5 6) (Er a) = some (XG r) := by
 refine lpP h Qha fun a => ?_
 exact ⟨(Qeo _), ⟨rfl, fun q0 => Ql 2 (q0) (⟨rfl, fun q1 => ⟨rfl, fun q2 => fun e1 h => ⟨SP h, fun r2 h => ⟨W0.ok h, fun r3 h => ⟨Ye.ok h, fun r4 h => ⟨Y5.ok h, fun r5 h => ⟨Zx.ok h, ⟨rfl, fun q3 => Ql 2 (q3) (Ql 6 (rfl) (rfl)), fun q3 => noN_ok 2 (q3) (⟨rfl, fun q4 => Ql 4 (q4) (⟨rfl, rfl⟩), fun q4 => noN_ok 2 (q4) (fun r6 h => ⟨ZU.ok h, noN_ok 2 (q4) (⟨rfl, fun q5 => rfl, fun q5 => rfl⟩)⟩)⟩)⟩⟩⟩⟩⟩⟩, fun q2 => trivial⟩, fun q1 => rfl⟩), fun q0 => noN_ok 2 (q0) (⟨rfl, rfl⟩)⟩⟩
def P7 (C0 : QoP) (C1 : Qm1) (L2 : Qbf) (a0 : (List QB)) : Option Bool := ((C0).bind fun r1 => (bif (!r1) then (some false) else ((C1 a0).bind fun r2 => (bif (!r2) then (some true) else ((L2 (UF.mk a0 (0 : Int))).bind fun x => Sum.elim (fun (o3 : Bool) => (some o3)) (fun (o4 : Unit) => (some true)) x)))))
noncomputable def Xc : Qly := P7 Eh G7 US
theorem Xc.eq (a0 : (List QB)) : Xc a0 = P7 Eh G7 US a0 := rfl
noncomputable def Qko (a0 : (List QB)) : Tr Bool AH := (QnN fun r1 => (.as (!r1) (rt Qk false) (QpY a0 fun r2 => (.as (!r2) (rt Qk true) (Qg9 (UF.mk a0 i0) (fun o3 => (rt Qk o3)) (fun o4 => (rt Qk true)))))))
theorem Xc.ok {a0 : (List QB)} {r : Bool} (h : Xc a0 = some r) : ww 5 [.sl (Xe a0)] [] = some (Qk r) := by
 refine fnP (Qko a0) ?_ h
 exact fun r1 h => ⟨Eh.ok h, ⟨rfl, fun q0 => rfl, fun q0 => fun r2 h => ⟨G7.ok h, ⟨rfl, fun q1 => rfl, fun q1 => ⟨fun o3 h => ⟨US.ok (r := (.inl _)) h, rfl⟩, fun o4 h => ⟨US.ok (r := (.inr _)) h, rfl⟩⟩⟩⟩⟩⟩
theorem Xc.run (a0 : (List QB)) {r : Bool} (h : Xc a0 = some r) : ∃ k, evalFn Tryz.prog G k 5 [.sl (Xe a0)] [] = some (Qk r) := runP (Xc.ok h)

end Go.Ab
namespace Go.Proofs.YtblfhkldljfhiaaGreatDoor
open Go Go.Ab Go.RowKit Go.Shelf
theorem gPow : Tryz.prog.globalNamed "internal/strconv.uint64pow10" = some 5 := by kernel_rfl
theorem tPow : (Tryz.prog.globals[5]?).map (·.type) = some 287 := by kernel_rfl
theorem Qo8 : Tryz.prog.cellsOf 255 = 1 := by kernel_rfl
theorem Qo9 : Tryz.prog.cellsOf 287 = 20 := by kernel_rfl
theorem datumP {H : Type} : (Rows.laid_internal_strconv_uint64pow10 : DataW H) = Lib.tabData .u64 Lib.pow10Tab := by kernel_rfl
theorem gSp : Tryz.prog.globalNamed "strings.asciiSpace" = some 0 := by kernel_rfl
theorem tSp : (Tryz.prog.globals[0]?).map (·.type) = some 234 := by kernel_rfl
theorem Qp2 : Tryz.prog.cellsOf 5 = 1 := by kernel_rfl
theorem Qp3 : Tryz.prog.cellsOf 234 = 256 := by kernel_rfl
theorem datumS {H : Type} : (Rows.laid_strings_asciiSpace : DataW H) = Lib.tabData .u8 Lib.asciiSpaceTab := by kernel_rfl
def told : Ab.Told := ((told1 Tryz.prog "internal/strconv.uint64pow10" 5 (Lib.pow10Tab.map fun z => Value.int .u64 z).toArray).both (told1 Tryz.prog "strings.asciiSpace" 0 (Lib.asciiSpaceTab.map fun z => Value.int .u8 z).toArray)).both (cellT 1)
theorem QqV {W : World} (h : laidMetH Tryz.prog [("math/bits.deBruijn32tab", Rows.laid_math_bits_deBruijn32tab), ("math/bits.deBruijn64tab", Rows.laid_math_bits_deBruijn64tab), ("internal/strconv.uint64pow10", Rows.laid_internal_strconv_uint64pow10), ("unicode/utf8.acceptRanges", Rows.laid_unicode_utf8_acceptRanges), ("strconv.ErrRange", Rows.laid_strconv_ErrRange), ("strconv.ErrSyntax", Rows.laid_strconv_ErrSyntax), ("unicode.White_Space", Rows.laid_unicode_White_Space), ("strings.asciiSpace", Rows.laid_strings_asciiSpace), ("unicode/utf8.first", Rows.laid_unicode_utf8_first)] W ∧ W.ShapedOpen Tryz.prog) : told.T (oldCtx W).Z W := by
 obtain ⟨h, hs⟩ := h
 rw [MakeChecks.laidMetH_plain _ _ _ (by kernel_rfl)] at h
 obtain ⟨ps, ⟨g0, t0, cs0, f0, p0, q0, hg0, ht0, hv0, hd0, ⟨g1, t1, cs1, f1, p1, q1, hg1, ht1, hv1, hd1, ⟨g2, t2, cs2, f2, p2, q2, hg2, ht2, hv2, hd2, ⟨g3, t3, cs3, f3, p3, q3, hg3, ht3, hv3, hd3, ⟨g4, t4, cs4, f4, p4, q4, hg4, ht4, hv4, hd4, ⟨g5, t5, cs5, f5, p5, q5, hg5, ht5, hv5, hd5, ⟨g6, t6, cs6, f6, p6, q6, hg6, ht6, hv6, hd6, ⟨g7, t7, cs7, f7, p7, q7, hg7, ht7, hv7, hd7, ⟨g8, t8, cs8, f8, p8, q8, hg8, ht8, hv8, hd8, _⟩, _⟩, _⟩, _⟩, _⟩, _⟩, _⟩, _⟩, _⟩, _⟩ := h
 refine ⟨⟨?_, ?_⟩, ?_⟩
 ·obtain rfl := Option.some.inj (gPow.symm.trans hg2)
  obtain rfl := Option.some.inj (tPow.symm.trans ht2)
  rw [datumP] at hd2
  refine QkN gPow (hv2.trans ?_) (by decide)
  have := Lib.cells_of_tab Tryz.underlying287 Tryz.underlying255 Qo8 Qo9 hd2
  rw [← this]
 ·obtain rfl := Option.some.inj (gSp.symm.trans hg7)
  obtain rfl := Option.some.inj (tSp.symm.trans ht7)
  rw [datumS] at hd7
  refine QkN gSp (hv7.trans ?_) (of_decide_eq_true (by kernel_rfl))
  have := Lib.cells_of_tab Tryz.underlying234 Tryz.underlying5 Qp2 Qp3 hd7
  rw [← this]
 ·exact QoK (cell_of_shapedOpen_int (P := Tryz.prog) (t := 3) (zero := #[.int .i64 0]) hs (by decide +kernel) (by kernel_rfl) rfl (by kernel_rfl) (by kernel_rfl) Tryz.underlying3)
set_option maxHeartbeats 2000000 in
set_option maxRecDepth 100000 in
theorem QqW (n c : Nat) (w : World) : Calls Tryz.prog 81 #[.slice none n c] w fun e w' => e = .returned (.slice none 0 0) ∧ w' = w := by
 have mixed : Tryz.prog.follows .mixedOrders = true := by kernel_rfl
 have t0 := Tryz.underlying3; have a0 := Tryz.isAgg3; have z0 := Tryz.sizeOf3; have v0 := Tryz.zeroValue3; have t1 := Tryz.underlying22; have a1 := Tryz.isAgg22; have z1 := Tryz.sizeOf22; have v1 := Tryz.zeroValue22; have t2 := Tryz.underlying4; have a2 := Tryz.isAgg4; have z2 := Tryz.sizeOf4; have v2 := Tryz.zeroValue4
 have q22 : ∀ (w : World) (a : Option Addr) (n c n' c' : Nat), (binOp .eql 22 (.slice a n c) (.slice none n' c')).run Tryz.prog w = .ok (.bool a.isNone) w := fun w a n c n' c' => Lib.run_eql_slice_nil w _ _ a n c n' c' t1
 go_enter Tryz.func81, Tryz.ntmps81
 go_wp2
 go_ret
 exact ⟨rfl, rfl⟩
set_option maxHeartbeats 2000000 in
set_option maxRecDepth 100000 in
theorem Qp4 (a : Addr) (c : Nat) (w : World) : Calls Tryz.prog 81 #[.slice (some a) 0 c] w fun e w' => ∃ v', e = .returned v' ∧ w'.ownsRow w.heap.size 3 1 v' 0 [] ∧ Below w.heap.size w w' := by
 have mixed : Tryz.prog.follows .mixedOrders = true := by kernel_rfl
 have t0 := Tryz.underlying3; have a0 := Tryz.isAgg3; have z0 := Tryz.sizeOf3; have v0 := Tryz.zeroValue3; have t1 := Tryz.underlying22; have a1 := Tryz.isAgg22; have z1 := Tryz.sizeOf22; have v1 := Tryz.zeroValue22; have t2 := Tryz.underlying4; have a2 := Tryz.isAgg4; have z2 := Tryz.sizeOf4; have v2 := Tryz.zeroValue4
 have q22 : ∀ (w : World) (a : Option Addr) (n c n' c' : Nat), (binOp .eql 22 (.slice a n c) (.slice none n' c')).run Tryz.prog w = .ok (.bool a.isNone) w := fun w a n c n' c' => Lib.run_eql_slice_nil w _ _ a n c n' c' t1
 have hinfo : (Tryz.prog.info? 3).map (fun i => (i.zero, i.size, i.bytes)) = some (some (.int .i64 0), 1, 8) := by kernel_rfl
 obtain ⟨i0, hi, hz0, hz1, hz2⟩ := info_parts hinfo
 have u22 : ∀ w, Sem.run Tryz.prog (underlying 22) w = .ok (TypeDesc.slice 3) w := run_underlying t1
 go_enter Tryz.func81, Tryz.ntmps81
 go_wp2_with (at_builtin; refine wpList_append_own _ rfl _ _ 22 rfl w.heap.size 3 i0 (.int .i64 0) 1 8 t1 hi hz0 hz1 hz2 rfl (by decide) _ _ _ rfl (World.ownsRow_made w #[] 0 (Nat.le_refl _) (Nat.zero_le _) rfl) a 0 c [] rfl rfl (by intro j u hj; simp at hj) (by intro u hu; cases hu) (by unfold maxLen; omega) (by omega) (by simp) ?_)
 intro v' w1 hown hgrow hnil
 go_wp2
 go_ret
 refine ⟨v', rfl, by simpa using hown, ?_⟩
 exact ((Below.refl _ w).alloc (Nat.le_refl _) _).grown hgrow (by simp) (by intro k hk; simp [Value.ownBlock] at hk; omega)
set_option maxHeartbeats 2000000 in
set_option maxRecDepth 100000 in
theorem Qp5 (b off c : Nat) (zs : List Value) (w : World) (hbig : zs.length * 8 ≤ 140737488355328) (hsc : zs.all scal = true) (hc : ∀ (j : Nat) z, zs[j]? = some z → w.cell? ⟨b, off + j, none⟩ = some z) :
  Calls Tryz.prog 81 #[.slice (some ⟨b, off, none⟩) zs.length c] w fun e w' => ∃ v', e = .returned v' ∧ w'.ownsRow w.heap.size 3 1 v' zs.length zs ∧ Below w.heap.size w w' := by
 have mixed : Tryz.prog.follows .mixedOrders = true := by kernel_rfl
 have t0 := Tryz.underlying3; have a0 := Tryz.isAgg3; have z0 := Tryz.sizeOf3; have v0 := Tryz.zeroValue3; have t1 := Tryz.underlying22; have a1 := Tryz.isAgg22; have z1 := Tryz.sizeOf22; have v1 := Tryz.zeroValue22; have t2 := Tryz.underlying4; have a2 := Tryz.isAgg4; have z2 := Tryz.sizeOf4; have v2 := Tryz.zeroValue4
 have q22 : ∀ (w : World) (a : Option Addr) (n c n' c' : Nat), (binOp .eql 22 (.slice a n c) (.slice none n' c')).run Tryz.prog w = .ok (.bool a.isNone) w := fun w a n c n' c' => Lib.run_eql_slice_nil w _ _ a n c n' c' t1
 have hinfo : (Tryz.prog.info? 3).map (fun i => (i.zero, i.size, i.bytes)) = some (some (.int .i64 0), 1, 8) := by kernel_rfl
 obtain ⟨i0, hi, hz0, hz1, hz2⟩ := info_parts hinfo
 have u22 : ∀ w, Sem.run Tryz.prog (underlying 22) w = .ok (TypeDesc.slice 3) w := run_underlying t1
 have A : Aside (∀ (j : Nat) z, zs[j]? = some z → w.cell? ⟨b, off + j, none⟩ = some z) := hc
 clear hc
 go_enter Tryz.func81, Tryz.ntmps81
 go_wp2_with (at_builtin; refine wpList_append_own _ rfl _ _ 22 rfl w.heap.size 3 i0 (.int .i64 0) 1 8 t1 hi hz0 hz1 hz2 rfl (by decide) _ _ _ rfl (World.ownsRow_made w #[] 0 (Nat.le_refl _) (Nat.zero_le _) rfl) ⟨b, off, none⟩ zs.length c zs rfl ?qc1 ?qc2 ?qc3 ?qc4 ?qc5 ?qc6 ?_)
 case qc1 => simp
 case qc2 =>
  intro j u hj
  rw [Addr.add_lit]
  exact Lib.cell?_alloc_some _ (A.out j u hj)
 case qc3 => intro u hu; exact Yp (c := oldCtx w) (w := w) (.sc u (List.all_eq_true.1 hsc u hu)) rfl
 case qc4 => unfold maxLen; omega
 case qc5 => omega
 case qc6 => simp
 intro v' w1 hown hgrow hnil
 go_wp2
 go_ret
 refine ⟨v', rfl, by simpa using hown, ?_⟩
 exact ((Below.refl _ w).alloc (Nat.le_refl _) _).grown hgrow (by simp) (by intro k hk; simp [Value.ownBlock] at hk; omega)

set_option maxHeartbeats 2000000 in
set_option maxRecDepth 100000 in
theorem Qpa (n c : Nat) (w : World) : Calls Tryz.prog 77 #[.slice none n c] w fun e w' => e = .returned (.slice none 0 0) ∧ w' = w := by
 have mixed : Tryz.prog.follows .mixedOrders = true := by kernel_rfl
 have t0 := Tryz.underlying68; have a0 := Tryz.isAgg68; have z0 := Tryz.sizeOf68; have v0 := Tryz.zeroValue68; have t1 := Tryz.underlying35; have a1 := Tryz.isAgg35; have z1 := Tryz.sizeOf35; have v1 := Tryz.zeroValue35; have t2 := Tryz.underlying4; have a2 := Tryz.isAgg4; have z2 := Tryz.sizeOf4; have v2 := Tryz.zeroValue4
 have q22 : ∀ (w : World) (a : Option Addr) (n c n' c' : Nat), (binOp .eql 35 (.slice a n c) (.slice none n' c')).run Tryz.prog w = .ok (.bool a.isNone) w := fun w a n c n' c' => Lib.run_eql_slice_nil w _ _ a n c n' c' t1
 go_enter Tryz.func77, Tryz.ntmps77
 go_wp2
 go_ret
 exact ⟨rfl, rfl⟩
set_option maxHeartbeats 2000000 in
set_option maxRecDepth 100000 in
theorem Qoe (a : Addr) (c : Nat) (w : World) : Calls Tryz.prog 77 #[.slice (some a) 0 c] w fun e w' => ∃ v', e = .returned v' ∧ w'.ownsRow w.heap.size 68 5 v' 0 [] ∧ Below w.heap.size w w' := by
 have mixed : Tryz.prog.follows .mixedOrders = true := by kernel_rfl
 have t0 := Tryz.underlying68; have a0 := Tryz.isAgg68; have z0 := Tryz.sizeOf68; have v0 := Tryz.zeroValue68; have t1 := Tryz.underlying35; have a1 := Tryz.isAgg35; have z1 := Tryz.sizeOf35; have v1 := Tryz.zeroValue35; have t2 := Tryz.underlying4; have a2 := Tryz.isAgg4; have z2 := Tryz.sizeOf4; have v2 := Tryz.zeroValue4
 have q22 : ∀ (w : World) (a : Option Addr) (n c n' c' : Nat), (binOp .eql 35 (.slice a n c) (.slice none n' c')).run Tryz.prog w = .ok (.bool a.isNone) w := fun w a n c n' c' => Lib.run_eql_slice_nil w _ _ a n c n' c' t1
 have hinfo : (Tryz.prog.info? 68).map (fun i => (i.zero, i.size, i.bytes)) = some (some (.agg #[.int .i64 0, .int .i64 0, .int .i64 0, .string ByteArray.empty, .slice none 0 0]), 5, 64) := by kernel_rfl
 obtain ⟨i0, hi, hz0, hz1, hz2⟩ := info_parts hinfo
 have u22 : ∀ w, Sem.run Tryz.prog (underlying 35) w = .ok (TypeDesc.slice 68) w := run_underlying t1
 go_enter Tryz.func77, Tryz.ntmps77
 go_wp2_with (at_builtin; refine wpList_append_own _ rfl _ _ 35 rfl w.heap.size 68 i0 (.agg #[.int .i64 0, .int .i64 0, .int .i64 0, .string ByteArray.empty, .slice none 0 0]) 5 64 t1 hi hz0 hz1 hz2 rfl (by decide) _ _ _ rfl (World.ownsRow_made w #[] 0 (Nat.le_refl _) (Nat.zero_le _) rfl) a 0 c [] rfl rfl (by intro j u hj; simp at hj) (by intro u hu; cases hu) (by unfold maxLen; omega) (by omega) (by simp) ?_)
 intro v' w1 hown hgrow hnil
 go_wp2
 go_ret
 refine ⟨v', rfl, by simpa using hown, ?_⟩
 exact ((Below.refl _ w).alloc (Nat.le_refl _) _).grown hgrow (by simp) (by intro k hk; simp [Value.ownBlock] at hk; omega)
set_option maxHeartbeats 2000000 in
set_option maxRecDepth 100000 in
theorem Qof (b off n c : Nat) (zs : List Value) (w : World) (hl : zs.length = n * 5) (hbig : n * 64 ≤ 140737488355328) (hml : n ≤ maxLen) (hsc : ∀ u ∈ zs, u.oneCell' = true) (hc : ∀ (j : Nat) z, zs[j]? = some z → w.cell? ⟨b, off + j, none⟩ = some z) :
  Calls Tryz.prog 77 #[.slice (some ⟨b, off, none⟩) n c] w fun e w' => ∃ v', e = .returned v' ∧ w'.ownsRow w.heap.size 68 5 v' n zs ∧ Below w.heap.size w w' := by
 have mixed : Tryz.prog.follows .mixedOrders = true := by kernel_rfl
 have t0 := Tryz.underlying68; have a0 := Tryz.isAgg68; have z0 := Tryz.sizeOf68; have v0 := Tryz.zeroValue68; have t1 := Tryz.underlying35; have a1 := Tryz.isAgg35; have z1 := Tryz.sizeOf35; have v1 := Tryz.zeroValue35; have t2 := Tryz.underlying4; have a2 := Tryz.isAgg4; have z2 := Tryz.sizeOf4; have v2 := Tryz.zeroValue4
 have q22 : ∀ (w : World) (a : Option Addr) (n c n' c' : Nat), (binOp .eql 35 (.slice a n c) (.slice none n' c')).run Tryz.prog w = .ok (.bool a.isNone) w := fun w a n c n' c' => Lib.run_eql_slice_nil w _ _ a n c n' c' t1
 have hinfo : (Tryz.prog.info? 68).map (fun i => (i.zero, i.size, i.bytes)) = some (some (.agg #[.int .i64 0, .int .i64 0, .int .i64 0, .string ByteArray.empty, .slice none 0 0]), 5, 64) := by kernel_rfl
 obtain ⟨i0, hi, hz0, hz1, hz2⟩ := info_parts hinfo
 have u22 : ∀ w, Sem.run Tryz.prog (underlying 35) w = .ok (TypeDesc.slice 68) w := run_underlying t1
 have A : Aside (∀ (j : Nat) z, zs[j]? = some z → w.cell? ⟨b, off + j, none⟩ = some z) := hc
 clear hc
 go_enter Tryz.func77, Tryz.ntmps77
 go_wp2_with (at_builtin; refine wpList_append_own _ rfl _ _ 35 rfl w.heap.size 68 i0 (.agg #[.int .i64 0, .int .i64 0, .int .i64 0, .string ByteArray.empty, .slice none 0 0]) 5 64 t1 hi hz0 hz1 hz2 rfl (by decide) _ _ _ rfl (World.ownsRow_made w #[] 0 (Nat.le_refl _) (Nat.zero_le _) rfl) ⟨b, off, none⟩ n c zs rfl ?qc1 ?qc2 ?qc3 ?qc4 ?qc5 ?qc6 ?_)
 case qc1 => exact hl
 case qc2 =>
  intro j u hj
  rw [Addr.add_lit]
  exact Lib.cell?_alloc_some _ (A.out j u hj)
 case qc3 => intro u hu; exact hsc u hu
 case qc4 => omega
 case qc5 => omega
 case qc6 => simp
 intro v' w1 hown hgrow hnil
 go_wp2
 go_ret
 refine ⟨v', rfl, by simpa using hown, ?_⟩
 exact ((Below.refl _ w).alloc (Nat.le_refl _) _).grown hgrow (by simp) (by intro k hk; simp [Value.ownBlock] at hk; omega)

set_option maxHeartbeats 2000000 in
set_option maxRecDepth 100000 in
theorem Qog (n c : Nat) (w : World) : Calls Tryz.prog 80 #[.slice none n c] w fun e w' => e = .returned (.slice none 0 0) ∧ w' = w := by
 have mixed : Tryz.prog.follows .mixedOrders = true := by kernel_rfl
 have t0 := Tryz.underlying37; have a0 := Tryz.isAgg37; have z0 := Tryz.sizeOf37; have v0 := Tryz.zeroValue37; have t1 := Tryz.underlying52; have a1 := Tryz.isAgg52; have z1 := Tryz.sizeOf52; have v1 := Tryz.zeroValue52; have t2 := Tryz.underlying4; have a2 := Tryz.isAgg4; have z2 := Tryz.sizeOf4; have v2 := Tryz.zeroValue4
 have q22 : ∀ (w : World) (a : Option Addr) (n c n' c' : Nat), (binOp .eql 52 (.slice a n c) (.slice none n' c')).run Tryz.prog w = .ok (.bool a.isNone) w := fun w a n c n' c' => Lib.run_eql_slice_nil w _ _ a n c n' c' t1
 go_enter Tryz.func80, Tryz.ntmps80
 go_wp2
 go_ret
 exact ⟨rfl, rfl⟩
set_option maxHeartbeats 2000000 in
set_option maxRecDepth 100000 in
theorem QmH (a : Addr) (c : Nat) (w : World) : Calls Tryz.prog 80 #[.slice (some a) 0 c] w fun e w' => ∃ v', e = .returned v' ∧ w'.ownsRow w.heap.size 37 6 v' 0 [] ∧ Below w.heap.size w w' := by
 have mixed : Tryz.prog.follows .mixedOrders = true := by kernel_rfl
 have t0 := Tryz.underlying37; have a0 := Tryz.isAgg37; have z0 := Tryz.sizeOf37; have v0 := Tryz.zeroValue37; have t1 := Tryz.underlying52; have a1 := Tryz.isAgg52; have z1 := Tryz.sizeOf52; have v1 := Tryz.zeroValue52; have t2 := Tryz.underlying4; have a2 := Tryz.isAgg4; have z2 := Tryz.sizeOf4; have v2 := Tryz.zeroValue4
 have q22 : ∀ (w : World) (a : Option Addr) (n c n' c' : Nat), (binOp .eql 52 (.slice a n c) (.slice none n' c')).run Tryz.prog w = .ok (.bool a.isNone) w := fun w a n c n' c' => Lib.run_eql_slice_nil w _ _ a n c n' c' t1
 have hinfo : (Tryz.prog.info? 37).map (fun i => (i.zero, i.size, i.bytes)) = some (some (.agg #[.int .i64 0, .string ByteArray.empty, .int .i64 0, .int .i64 0, .string ByteArray.empty, .slice none 0 0]), 6, 80) := by kernel_rfl
 obtain ⟨i0, hi, hz0, hz1, hz2⟩ := info_parts hinfo
 have u22 : ∀ w, Sem.run Tryz.prog (underlying 52) w = .ok (TypeDesc.slice 37) w := run_underlying t1
 go_enter Tryz.func80, Tryz.ntmps80
 go_wp2_with (at_builtin; refine wpList_append_own _ rfl _ _ 52 rfl w.heap.size 37 i0 (.agg #[.int .i64 0, .string ByteArray.empty, .int .i64 0, .int .i64 0, .string ByteArray.empty, .slice none 0 0]) 6 80 t1 hi hz0 hz1 hz2 rfl (by decide) _ _ _ rfl (World.ownsRow_made w #[] 0 (Nat.le_refl _) (Nat.zero_le _) rfl) a 0 c [] rfl rfl (by intro j u hj; simp at hj) (by intro u hu; cases hu) (by unfold maxLen; omega) (by omega) (by simp) ?_)
 intro v' w1 hown hgrow hnil
 go_wp2
 go_ret
 refine ⟨v', rfl, by simpa using hown, ?_⟩
 exact ((Below.refl _ w).alloc (Nat.le_refl _) _).grown hgrow (by simp) (by intro k hk; simp [Value.ownBlock] at hk; omega)
set_option maxHeartbeats 2000000 in
set_option maxRecDepth 100000 in
theorem QmI (b off n c : Nat) (zs : List Value) (w : World) (hl : zs.length = n * 6) (hbig : n * 80 ≤ 140737488355328) (hml : n ≤ maxLen) (hsc : ∀ u ∈ zs, u.oneCell' = true) (hc : ∀ (j : Nat) z, zs[j]? = some z → w.cell? ⟨b, off + j, none⟩ = some z) :
  Calls Tryz.prog 80 #[.slice (some ⟨b, off, none⟩) n c] w fun e w' => ∃ v', e = .returned v' ∧ w'.ownsRow w.heap.size 37 6 v' n zs ∧ Below w.heap.size w w' := by
 have mixed : Tryz.prog.follows .mixedOrders = true := by kernel_rfl
 have t0 := Tryz.underlying37; have a0 := Tryz.isAgg37; have z0 := Tryz.sizeOf37; have v0 := Tryz.zeroValue37; have t1 := Tryz.underlying52; have a1 := Tryz.isAgg52; have z1 := Tryz.sizeOf52; have v1 := Tryz.zeroValue52; have t2 := Tryz.underlying4; have a2 := Tryz.isAgg4; have z2 := Tryz.sizeOf4; have v2 := Tryz.zeroValue4
 have q22 : ∀ (w : World) (a : Option Addr) (n c n' c' : Nat), (binOp .eql 52 (.slice a n c) (.slice none n' c')).run Tryz.prog w = .ok (.bool a.isNone) w := fun w a n c n' c' => Lib.run_eql_slice_nil w _ _ a n c n' c' t1
 have hinfo : (Tryz.prog.info? 37).map (fun i => (i.zero, i.size, i.bytes)) = some (some (.agg #[.int .i64 0, .string ByteArray.empty, .int .i64 0, .int .i64 0, .string ByteArray.empty, .slice none 0 0]), 6, 80) := by kernel_rfl
 obtain ⟨i0, hi, hz0, hz1, hz2⟩ := info_parts hinfo
 have u22 : ∀ w, Sem.run Tryz.prog (underlying 52) w = .ok (TypeDesc.slice 37) w := run_underlying t1
 have A : Aside (∀ (j : Nat) z, zs[j]? = some z → w.cell? ⟨b, off + j, none⟩ = some z) := hc
 clear hc
 go_enter Tryz.func80, Tryz.ntmps80
 go_wp2_with (at_builtin; refine wpList_append_own _ rfl _ _ 52 rfl w.heap.size 37 i0 (.agg #[.int .i64 0, .string ByteArray.empty, .int .i64 0, .int .i64 0, .string ByteArray.empty, .slice none 0 0]) 6 80 t1 hi hz0 hz1 hz2 rfl (by decide) _ _ _ rfl (World.ownsRow_made w #[] 0 (Nat.le_refl _) (Nat.zero_le _) rfl) ⟨b, off, none⟩ n c zs rfl ?qc1 ?qc2 ?qc3 ?qc4 ?qc5 ?qc6 ?_)
 case qc1 => exact hl
 case qc2 =>
  intro j u hj
  rw [Addr.add_lit]
  exact Lib.cell?_alloc_some _ (A.out j u hj)
 case qc3 => intro u hu; exact hsc u hu
 case qc4 => omega
 case qc5 => omega
 case qc6 => simp
 intro v' w1 hown hgrow hnil
 go_wp2
 go_ret
 refine ⟨v', rfl, by simpa using hown, ?_⟩
 exact ((Below.refl _ w).alloc (Nat.le_refl _) _).grown hgrow (by simp) (by intro k hk; simp [Value.ownBlock] at hk; omega)

theorem ok_cli : FnOK1 told Tryz.prog 81 (cloneV 8) := QkQ (e_ := 3) QqW Qp4 Qp5
theorem Qlz : FnOK1 told Tryz.prog 77 (cloneF 5 64) := Qel (e_ := 68) Qpa Qoe Qof
theorem QjC : FnOK1 told Tryz.prog 80 (cloneF 6 80) := Qel (e_ := 37) Qog QmH QmI
theorem Qm2 : FnOK1 told Tryz.prog 93 itoaX := by
 refine QnD fun n Z w h0 h1 hT => ?_
 refine (Tryz.strconv_Itoa n h0 h1 w hT.1.1.2.2.1).mono ?_
 rintro e w' ⟨rfl, k, os, rfl⟩
 exact ⟨rfl, Lib.below_grow _ _ (Nat.le_refl _) _ _⟩
theorem QjD : FnOK1 told Tryz.prog 145 fieldsX := QkO fun s Z w h1 h2 hT => Tryz.strings_Fields_laid s w h1 h2 hT.1.2.2.2.1
theorem QgD : FnOK1 told Tryz.prog 177 containsX := Qiv fun s t Z w h1 hT => by
 obtain ⟨_, m, hm⟩ := hT.2
 exact Tryz.strings_Contains s t m w h1 hm
theorem Qm3 : FnOK1 told Tryz.prog 69 joinX := QnF (fun a c sep w => Tryz.strings_Join_none a c sep w) (fun bk o c xs sep w h1 h2 h3 h4 h5 => Tryz.strings_Join bk o c xs sep w h1 h2 h3 h4 h5)
theorem Qfe : FnOK1 told Tryz.prog 70 indexByteX := QhB fun s c w => Tryz.strings_IndexByte s c w
theorem QlA : FnOK1 told Tryz.prog 79 splitX := Qmf fun s sep Z w h1 h2 hT => by
 obtain ⟨_, m, hm⟩ := hT.2
 exact Tryz.strings_Split s sep m w h1 hm h2
theorem Qm4 : FnOK1 told Tryz.prog 74 trimX := QnH fun s w hs => Any.strings_Trim_laid Tryz.lays160 (by kernel_rfl) s ⟨#[32, 9]⟩ w hs (by decide) (ascii_of_all (by decide))
theorem Qm5 : FnOK1 told Tryz.prog 241 atoiX := QnJ fun s n w hs hn => by
 refine (Tryz.strconv_Atoi s n hs hn w).mono ?_
 rintro e w' ⟨rfl, t, rfl⟩
 exact ⟨rfl, Go.Joins.below_bytesWorld _ _ _ _ (Nat.le_refl _)⟩
theorem QqX (f : FuncId) (x : List AV → Heap → Option (AV × Heap)) (h : G0.ext f = some x) : FnOK1 told Tryz.prog f x := by
 have h' : Go.Ab.get f extT0 = some x := h
 simp only [extT0, Go.Ab.get] at h'
 repeat' split at h'
 all_goals first
  | cases h'; done
  | (rename_i e; subst e; cases h'; first | exact ok_cli | exact Qlz | exact QjC | exact Qm2 | exact QjD | exact QgD | exact Qm3 | exact Qfe | exact QlA | exact Qm4 | exact Qm5)
theorem Qp6 : FnOK1 told Tryz.prog 23 knownX := Qmg (Qir (T := told) (by kernel_rfl) QqX 2000) QnM
theorem ext_ok (f : FuncId) (x : List AV → Heap → Option (AV × Heap)) (h : G.ext f = some x) : FnOK1 told Tryz.prog f x := by
 have h' : Go.Ab.get f extT = some x := h
 simp only [extT, Go.Ab.get] at h'
 repeat' split at h'
 all_goals first
  | cases h'; done
  | (rename_i e; subst e; cases h'; first | exact Qp6 | exact ok_cli | exact Qlz | exact QjC | exact Qm2 | exact QjD | exact QgD | exact Qm3 | exact Qfe | exact QlA | exact Qm4 | exact Qm5)
end Go.Proofs.YtblfhkldljfhiaaGreatDoor
namespace Go.Ab
def ba (l : List UInt8) : ByteArray := ⟨l.toArray⟩
theorem bl_ba (l : List UInt8) : bl (ba l) = l := by simp [bl, ba]
theorem ba_bl (s : ByteArray) : ba (bl s) = s := by cases s; simp [bl, ba]
theorem QF (l : List UInt8) : (ba l).size = l.length := by rw [Zg, bl_ba]
theorem ba_inj {a b : List UInt8} (h : ba a = ba b) : a = b := by rw [← bl_ba a, ← bl_ba b, h]
theorem Um (l : List UInt8) (i j : Nat) : (ba l).extract i j = ba ((l.take j).drop i) := by rw [← ba_bl ((ba l).extract i j), QnA, bl_ba]
theorem JB (a b : List UInt8) : ba a ++ ba b = ba (a ++ b) := by rw [← ba_bl (ba a ++ ba b), QoE, bl_ba, bl_ba]
theorem YN (l : List UInt8) (i : Nat) (d : UInt8) : (ba l).data.getD i d = l.getD i d := by rw [QqM, bl_ba]
theorem eqS_ba (a b : List UInt8) : eqS (ba a) (ba b) = decide (a = b) := by rw [Qnz, bl_ba, bl_ba]
def isD (b : UInt8) : Bool := decide (48 ≤ b.toNat ∧ b.toNat ≤ 57)
def isS (b : UInt8) : Bool := decide (97 ≤ b.toNat ∧ b.toNat ≤ 122 ∨ b.toNat = 95)
def isI (b : UInt8) : Bool := isS b || isD b
def isH (b : UInt8) : Bool := isD b || decide (97 ≤ b.toNat ∧ b.toNat ≤ 102)
theorem UB {p : UInt8 → Bool} : ∀ (s : List UInt8) (i : Nat) (hi : i ≤ s.length), (s.take i).all p = true → (∀ h : i < s.length, p s[i] = false) → s.takeWhile p = s.take i
 | s, 0, _, _, h => by
  cases s with
  | nil => rfl
  | cons b s => have := h (by simp); simp at this; simp [this]
 | [], i + 1, hi, _, _ => by simp at hi
 | b :: s, i + 1, hi, ha, h => by
  simp only [List.take_succ_cons, List.all_cons, Bool.and_eq_true] at ha
  simp only [List.take_succ_cons, List.takeWhile_cons, ha.1, if_true]
  rw [UB s i (by simpa using hi) ha.2 (fun hl => h (by simp only [List.length_cons]; omega))]
theorem XX {p : UInt8 → Bool} {s : List UInt8} {i : Nat} (h : i < s.length) (ha : (s.take i).all p = true) (hp : p s[i] = true) : (s.take (i + 1)).all p = true := by
 rw [List.take_succ_eq_append_getElem h, List.all_append, ha]; simp [hp]
theorem i32_in {n : Int} (h1 : 0 ≤ n) (h2 : n ≤ 2147483647) : IntKind.i32.wrap n = n := by
 have e : n % 4294967296 = n := Int.emod_eq_of_lt h1 (by omega)
 unfold IntKind.wrap
 simp [IntKind.bits, IntKind.signed, e]
 omega
def wordB (w : List UInt8) : Bool := match w with
 | [] => false
 | c :: t => decide (t.length < 12) && (!isD c && (decide ((c :: t).takeWhile isI = c :: t) && (decide (c ≠ 114) || (decide (t = []) || !decide (t.takeWhile isD = t)))))
theorem PP {p : UInt8 → Bool} {a r : List UInt8} (ha : a.all p = true) (hr : ∀ c t, r = c :: t → p c = false) : (a ++ r).takeWhile p = a ∧ (a ++ r).dropWhile p = r := by
 induction a with
 | nil =>
  cases r with
  | nil => exact ⟨rfl, rfl⟩
  | cons c t => have := hr c t rfl; simp [List.takeWhile_cons, List.dropWhile_cons, this]
 | cons c a ih =>
  simp only [List.all_cons, Bool.and_eq_true] at ha
  obtain ⟨h1, h2⟩ := ih ha.2
  simp [List.takeWhile_cons, List.dropWhile_cons, ha.1, h1, h2]
theorem QfB (c : UInt8) : isI c = (isS c || isD c) := rfl
theorem Qm6 {c : UInt8} : isS c = (isI c && !isD c) := by
 rw [QfB]
 cases hd : isD c with
 | false => simp
 | true =>
  have : isS c = false := by
   unfold isD at hd; unfold isS
   have := of_decide_eq_true hd
   exact decide_eq_false (by omega)
  rw [this]; rfl
theorem Qc6 {p : UInt8 → Bool} {l : List UInt8} : decide (l.takeWhile p = l) = l.all p := by
 rw [Bool.eq_iff_iff, decide_eq_true_iff]
 constructor
 ·intro e; rw [← e]; exact List.all_takeWhile
 ·intro h
  have := (PP (r := []) h (fun c t e => by cases e)).1
  rwa [List.append_nil] at this
end Go.Ab
namespace Go.Ab
theorem QlB (a n : Int) (hn : 0 < n) (hn2 : n ≤ 4611686018427387904) : Vl a n = some (a % n) := by
 rw [Vl.eq]; exact Sq a n hn hn2
end Go.Ab
namespace Go.Ab
abbrev S0 : ByteArray := s_
inductive X3 where
 | num (n : Int)
 | nm (s : ByteArray)
 | here
 | neg (x : X3)
 | bin (k : Nat) (x y : X3)
namespace X3
def t : X3 → Qa
 | num n => ⟨1, n, S0, []⟩
 | nm s => ⟨2, 0, s, []⟩
 | here => ⟨3, 0, S0, []⟩
 | neg x => ⟨4, 0, S0, [x.t]⟩
 | bin k x y => ⟨k, 0, S0, [x.t, y.t]⟩
def d : X3 → Nat
 | neg x => x.d + 1
 | bin _ x y => max x.d y.d + 1
 | _ => 0
def ok (p : ByteArray → Prop) : X3 → Prop
 | num n => 0 ≤ n ∧ n < 4294967296
 | nm s => p s
 | here => True
 | neg x => x.ok p
 | bin k x y => 5 ≤ k ∧ k ≤ 11 ∧ x.ok p ∧ y.ok p
end X3
theorem eqS_ne {x y : ByteArray} (h : x ≠ y) : eqS x y = false := by rw [Bool.eq_false_iff]; exact fun e => h (Vq.1 e)
end Go.Ab
namespace Go.Ab
theorem Qc7 : ∀ (g d : Nat), g + d = 8 → ∀ l : List Qy, l.length ≤ maxLen → (∀ r ∈ l, Yb r) → ∃ n : Int, JU l d = some n ∧ 0 ≤ n ∧ n ≤ 1000 + 20 * g ∧
  (n ≤ 16 → d ≤ 7 ∧ ∀ r ∈ l, ∃ m, JU r.L (d + 1 : Nat) = some m ∧ m ≤ 16)
 | 0, d, hd, l, hl, hw => by
  obtain rfl : d = 8 := by omega
  refine ⟨1000, ?_, by omega, by omega, by omega⟩
  rw [JU.eq]; simp [Gp]
 | g + 1, d, hd, l, hl, hw => by
  rw [QoI] at hl
  obtain ⟨r, h1, h2⟩ := Ys U4.eq
   (fun a => ∃ i : Nat, ∃ n : Int, i ≤ l.length ∧ a = ⟨l, d, n, i⟩ ∧ 0 ≤ n ∧ n ≤ 1000 + 20 * (g + 1 : Nat) ∧ (n ≤ 16 → ∀ r ∈ l.take i, ∃ m, JU r.L (d + 1 : Nat) = some m ∧ m ≤ 16))
   (fun a n => 0 ≤ n ∧ n ≤ 1000 + 20 * (g + 1 : Nat) ∧ (n ≤ 16 → ∀ r ∈ l, ∃ m, JU r.L (d + 1 : Nat) = some m ∧ m ≤ 16))
   (fun a => l.length - a.x6.toNat) (by
    rintro a ⟨i, n, hi, rfl, h0, hn, hall⟩
    simp only [Yw, Int.toNat_natCast]
    by_cases h : i < l.length
    ·have e2 : (i : Int) < (l.length : Int) := by omega
     by_cases h16 : n ≤ 16
     ·have hwi := hw l[i] (List.getElem_mem h)
      obtain ⟨_, _, _, hL, hLw⟩ := hwi
      obtain ⟨m, hm, hm0, hm1, _⟩ := Qc7 g (d + 1) (by omega) l[i].L hL hLw
      refine .inl ⟨⟨l, d, n + 1 + m, (i + 1 : Nat)⟩, ?_, ⟨i + 1, n + 1 + m, by omega, rfl, by omega, by omega, ?_⟩, ?_, fun r hr => hr⟩
      ·have ed : w64 ((d : Int) + 1) = ((d + 1 : Nat) : Int) := by rw [w64_in (by omega) (by omega)]; rfl
       rw [List.getElem?_eq_getElem h]
       simp only [e2, h16, decide_true, cond_true, Option.bind_some, Int.natCast_nonneg, ed, hm]
       rw [w64_in (n := n + 1) (by omega) (by omega), w64_in (n := n + 1 + m) (by omega) (by omega), w64_in (n := (i : Int) + 1) (by omega) (by omega)]
       rfl
      ·intro hle r hr
       rw [List.take_succ_eq_append_getElem h, List.mem_append] at hr
       rcases hr with hr | hr
       ·exact hall h16 r hr
       ·simp only [List.mem_singleton] at hr; subst hr
        exact ⟨m, hm, by omega⟩
      ·simp only [Int.toNat_natCast]; omega
     ·exact .inr ⟨n, by simp [h, h16], h0, hn, fun h => absurd h h16⟩
    ·refine .inr ⟨n, by simp [h], h0, hn, fun hle => ?_⟩
     have := hall hle
     rwa [List.take_of_length_le (by omega)] at this) ⟨l, d, 0, 0⟩ ⟨0, 0, by omega, rfl, by omega, by omega, by simp⟩
  refine ⟨r, ?_, h2.1, h2.2.1, fun h => ⟨by omega, h2.2.2 h⟩⟩
  rw [JU.eq]; unfold Gp
  have : decide ((d : Int) > 7) = false := by simp; omega
  rw [this, cond_false, h1]; rfl
def isNm (s : ByteArray) : Prop := s = Po ∨ s = s_x ∨ s = Ew ∨ s = s_r
theorem names4 {i : Nat} (h : i < 4) : ∃ s, [Po, s_x, Ew, s_r][i]? = some s ∧ isNm s := by
 have : i = 0 ∨ i = 1 ∨ i = 2 ∨ i = 3 := by omega
 rcases this with rfl | rfl | rfl | rfl <;> exact ⟨_, rfl, by simp [isNm]⟩
theorem QmJ : Y7 = some [Po, s_x, Ew, s_r] := by rw [Y7.eq]; rfl
theorem SC (a : Int) (n : Nat) (hn : 0 < n) (hn2 : n ≤ 4611686018427387904) : ∃ i : Nat, i < n ∧ Vl a n = some (i : Int) := by
 have h1 := Int.emod_nonneg a (by omega : (n : Int) ≠ 0)
 have h2 := Int.emod_lt_of_pos a (by omega : (0 : Int) < n)
 exact ⟨(a % n).toNat, by omega, by rw [QlB a n (by omega) (by omega), Int.toNat_of_nonneg h1]⟩
theorem QqY {P : Int → Prop} (l : List Int) (h : ∀ x ∈ l, P x) {i : Nat} (hi : i < l.length) : ∃ v, l[i]? = some v ∧ P v := ⟨l[i], List.getElem?_eq_getElem hi, h _ (List.getElem_mem hi)⟩
theorem QjE : ∀ (g d : Nat), g + d = 7 → ∀ r : Qy, Yb r → (∃ m, JU r.L (d + 1 : Nat) = some m ∧ m ≤ 16) → ∃ x : X3, JR r = some x.t ∧ x.ok isNm ∧ x.d ≤ g
 | 0, d, hd, r, hw, ⟨m, hm, hm2⟩ => by
  obtain rfl : d = 7 := by omega
  obtain ⟨_, _, _, hL, hLw⟩ := hw
  obtain ⟨n, h1, _, _, h2⟩ := Qc7 0 8 rfl r.L hL hLw
  rw [h1] at hm; cases hm
  exact absurd (h2 hm2).1 (by omega)
 | g + 1, d, hd, r, hw, ⟨m, hm, hm2⟩ => by
  obtain ⟨hK, hN, _, hL, hLw⟩ := hw
  obtain ⟨n, h1, _, _, h2⟩ := Qc7 (g + 1) (d + 1) (by omega) r.L hL hLw
  rw [h1] at hm; cases hm
  obtain ⟨_, h3⟩ := h2 hm2
  have part : ∀ i : Nat, i < 2 → ∃ x : X3, UK r i = some x.t ∧ x.ok isNm ∧ x.d ≤ g := by
   intro i hi
   rw [UK.eq]; unfold YJ
   by_cases h : i < r.L.length
   ·obtain ⟨x, e1, e2, e3⟩ := QjE g (d + 1) (by omega) r.L[i] (hLw _ (List.getElem_mem h)) (h3 _ (List.getElem_mem h))
    refine ⟨x, ?_, e2, e3⟩
    have e2 : (i : Int) < (r.L.length : Int) := by omega
    rw [QqQ _ h]
    simp only [e2, decide_true, cond_true, Option.bind_some, Int.natCast_nonneg, e1]
   ·obtain ⟨j, hj, e⟩ := SC (w64 (r.N + i)) 5 (by decide) (by decide)
    have hj2 : (0 : Int) ≤ (j : Int) ∧ (j : Int) < 4294967296 := by omega
    refine ⟨.num j, ?_, hj2, by simp [X3.d]⟩
    have e2 : ¬ (i : Int) < (r.L.length : Int) := by omega
    have e' : Vl (w64 (r.N + i)) 5 = some (j : Int) := e
    simp only [e2, decide_false, cond_false, e', Option.bind_some]; rfl
  obtain ⟨x0, p0, q0, r0⟩ := part 0 (by omega)
  obtain ⟨x1, p1, q1, r1⟩ := part 1 (by omega)
  have p0 : UK r 0 = some x0.t := p0
  have p1 : UK r 1 = some x1.t := p1
  obtain ⟨k, hk, ek⟩ := SC r.K 18 (by decide) (by decide)
  have ek : Vl r.K 18 = some (k : Int) := ek
  rw [JR.eq]; unfold YK
  rw [ek]
  simp only [Option.bind_some]
  by_cases k4 : k < 4
  ·obtain ⟨j, hj, ej⟩ := SC r.N 8 (by decide) (by decide)
   have ej : Vl r.N 8 = some (j : Int) := ej
   obtain ⟨v, hv, hv2⟩ := QqY (P := fun x => 0 ≤ x ∧ x < 4294967296) [0, 1, 2, 255, 65536, 4294967295, 40, 7] (by decide) (i := j) (by simpa using hj)
   refine ⟨.num v, ?_, hv2, by simp [X3.d]⟩
   have e1 : decide ((k : Int) < 4) = true := by simp; omega
   have e3 : decide (0 ≤ (j : Int) ∧ (j : Int) < (([(0 : Int), (1 : Int), (2 : Int), (255 : Int), (65536 : Int), (4294967295 : Int), (40 : Int), (7 : Int)].length : Nat) : Int)) = true := by simp; omega
   simp only [e1, cond_true, ej, Option.bind_some, e3, Int.toNat_natCast, hv]; rfl
  ·have e1 : decide ((k : Int) < 4) = false := by simp; omega
   by_cases k8 : k < 8
   ·obtain ⟨j, hj, ej⟩ := SC r.N 4 (by decide) (by decide)
    have ej : Vl r.N 4 = some (j : Int) := ej
    obtain ⟨s, hs, hs2⟩ := names4 hj
    refine ⟨.nm s, ?_, hs2, by simp [X3.d]⟩
    have e2 : decide ((k : Int) < 8) = true := by simp; omega
    simp only [e1, cond_false, e2, cond_true, QmJ, Option.bind_some, ej, Int.natCast_nonneg, decide_true, Int.toNat_natCast, hs]; rfl
   ·have e2 : decide ((k : Int) < 8) = false := by simp; omega
    by_cases kh : k = 8
    ·subst kh
     exact ⟨.here, rfl, trivial, by simp [X3.d]⟩
    ·have e3 : ((k : Int) == 8) = false := by simp; omega
     by_cases k11 : k < 11
     ·have e4 : decide ((k : Int) < 11) = true := by simp; omega
      refine ⟨.neg x0, ?_, q0, by simp only [X3.d]; omega⟩
      simp only [e1, e2, e3, e4, cond_false, cond_true, p0, Option.bind_some]; rfl
     ·have e4 : decide ((k : Int) < 11) = false := by simp; omega
      refine ⟨.bin (k - 6) x0 x1, ?_, ⟨by omega, by omega, q0, q1⟩, by simp only [X3.d]; omega⟩
      simp only [e1, e2, e3, e4, cond_false, p0, p1, Option.bind_some]
      rw [w64_in (n := 5 + (k : Int)) (by omega) (by omega), w64_in (n := 5 + (k : Int) - 11) (by omega) (by omega)]
      simp only [X3.t]
      rw [show (5 : Int) + k - 11 = ((k - 6 : Nat) : Int) from by omega]
theorem QqZ (l : List Qy) (hl : l.length ≤ maxLen) (hw : ∀ r ∈ l, Yb r) : ∃ b, G6 l = some b ∧ (b = true → ∃ x : X3, Xv l = some x.t ∧ x.ok isNm ∧ x.d ≤ 7) := by
 obtain ⟨n, h1, _, _, h2⟩ := Qc7 8 0 rfl l hl hw
 have h1 : JU l 0 = some n := h1
 refine ⟨decide (n ≤ 16), by rw [G6.eq]; simp [QgV, h1], fun h => ?_⟩
 have h := of_decide_eq_true h
 obtain ⟨_, h3⟩ := h2 h
 rw [Xv.eq]; unfold QgZ
 cases l with
 | nil => exact ⟨.num 1, rfl, by simp [X3.ok], by simp [X3.d]⟩
 | cons r l =>
  obtain ⟨x, e1, e2, e3⟩ := QjE 7 0 rfl r (hw r (by simp)) (h3 r (by simp))
  refine ⟨x, ?_, e2, e3⟩
  have : ((((r :: l).length : Nat) : Int) == 0) = false := by simp; omega
  rw [this, cond_false]
  simp [e1]
end Go.Ab
namespace Go.Ab
theorem Qm7 (s : ByteArray) (i : Nat) (h : i < s.size) : s.get! i = (bl s)[i]'h := by
 simp only [ByteArray.get!, bl]
 have h' : i < s.data.size := h
 simp [getElem!_def, Array.getElem?_eq_getElem h']
theorem Qbg (s : List UInt8) {i : Nat} (h : i < s.length) (hb : s[i].toNat < 128) : Utf8.decode (ba s) i = (s[i].toNat, 1) := by
 have hg : ((ba s).get! (i + 0)).toNat = s[i].toNat := by
  rw [Nat.add_zero, Qm7 _ _ (by rw [QF]; exact h)]; simp [bl_ba]
 unfold Utf8.decode
 simp only [hg]
 rw [if_pos hb]
theorem Qff (s : List UInt8) {i : Nat} (h : i < s.length) (hb : ¬ s[i].toNat < 128) : 128 ≤ (Utf8.decode (ba s) i).1 := by
 have hg : ((ba s).get! (i + 0)).toNat = s[i].toNat := by
  rw [Nat.add_zero, Qm7 _ _ (by rw [QF]; exact h)]; simp [bl_ba]
 unfold Utf8.decode
 simp only [hg]
 rw [if_neg hb]
 have he : Utf8.runeError = 65533 := rfl
 repeat' split
 all_goals simp_all
 all_goals omega
theorem ZP (n : Nat) : U2 n = some (decide (48 ≤ n ∧ n ≤ 57)) := by
 rw [U2.eq]; unfold Qap
 have c1 : decide ((n : Int) ≥ 48) = decide (48 ≤ n) := decide_eq_decide.2 (by omega)
 have c2 : decide ((n : Int) ≤ 57) = decide (n ≤ 57) := decide_eq_decide.2 (by omega)
 rw [c1, c2, Bool.decide_and]
 cases decide (48 ≤ n) <;> rfl
theorem Qkp (n : Nat) : XJ n = some (decide (97 ≤ n ∧ n ≤ 122 ∨ n = 95)) := by
 rw [XJ.eq]; unfold Qat
 have c1 : decide ((n : Int) ≥ 97) = decide (97 ≤ n) := decide_eq_decide.2 (by omega)
 have c2 : decide ((n : Int) ≤ 122) = decide (n ≤ 122) := decide_eq_decide.2 (by omega)
 have c3 : (((n : Nat) : Int) == 95) = decide (n = 95) := by rw [Bool.eq_iff_iff, beq_iff_eq, decide_eq_true_iff]; omega
 rw [c1, c2, c3, Bool.decide_or, Bool.decide_and]
 cases decide (97 ≤ n) <;> cases decide (n ≤ 122) <;> rfl
theorem QdI (n : Nat) : XK n = some (decide (97 ≤ n ∧ n ≤ 122 ∨ n = 95) || decide (48 ≤ n ∧ n ≤ 57)) := by
 rw [XK.eq]; unfold Qau
 rw [Qkp, ZP]
 simp only [Option.bind_some]
 cases decide (97 ≤ n ∧ n ≤ 122 ∨ n = 95) <;> rfl
theorem QgE (n : Nat) : Y3 n = some (decide (48 ≤ n ∧ n ≤ 57) || decide (97 ≤ n ∧ n ≤ 102)) := by
 rw [Y3.eq]; unfold QcT
 have c1 : decide ((n : Int) ≥ 97) = decide (97 ≤ n) := decide_eq_decide.2 (by omega)
 have c2 : decide ((n : Int) ≤ 102) = decide (n ≤ 102) := decide_eq_decide.2 (by omega)
 rw [ZP, c1, c2]
 simp only [Option.bind_some]
 rw [Bool.decide_and (97 ≤ n)]
 cases decide (48 ≤ n ∧ n ≤ 57) <;> cases decide (97 ≤ n) <;> rfl
theorem Qoh (s : List UInt8) : Zo (ba s) = some (ba (s.takeWhile isH)) := by
 obtain ⟨r, h1, h2⟩ := Ys Xf.eq (fun a => ∃ i : Nat, i ≤ s.length ∧ a = ⟨ba s, ba s, i⟩ ∧ (s.take i).all isH = true) (fun _ r => r = .inl (ba (s.takeWhile isH)) ∨ r = .inr (ba (s.takeWhile isH))) (fun a => s.length - a.i0p) (by
  rintro a ⟨i, hi, rfl, ha⟩
  simp only [Qas, QF]
  by_cases h : i < s.length
  ·have c1 : decide (i < s.length) = true := by simp [h]
   by_cases hb : s[i].toNat < 128
   ·rw [Qbg s h hb, c1, cond_true]
    simp only [QgE, Option.bind_some]
    have hp : isH s[i] = (decide (48 ≤ s[i].toNat ∧ s[i].toNat ≤ 57) || decide (97 ≤ s[i].toNat ∧ s[i].toNat ≤ 102)) := by simp [isH, isS, isD, isI]
    rw [← hp]
    cases hq : isH s[i] with
    | true => exact .inl ⟨⟨ba s, ba s, i + 1⟩, rfl, ⟨i + 1, by omega, rfl, XX h ha hq⟩, by simp only; omega, fun r hr => hr⟩
    | false =>
     refine .inr ⟨_, ?_, .inl rfl⟩
     rw [UB s i hi ha (fun _ => hq)]
     have c2 : decide (0 ≤ (0 : Int) ∧ (0 : Int) ≤ ((i : Nat) : Int) ∧ ((i : Nat) : Int) ≤ ((s.length : Nat) : Int)) = true := by simp; omega
     simp only [Bool.not_false, cond_true, c2, Int.toNat_natCast, Int.toNat_zero, Um, List.drop_zero]
   ·have hd := Qff s h hb
    have hq : isH s[i] = false := by simp [isH, isS, isD, isI]; omega
    rw [c1, cond_true]
    simp only [QgE, Option.bind_some]
    generalize (Utf8.decode (ba s) i).1 = r at hd
    have hp : (decide (48 ≤ r ∧ r ≤ 57) || decide (97 ≤ r ∧ r ≤ 102)) = false := by simp; omega
    rw [hp]
    refine .inr ⟨_, ?_, .inl rfl⟩
    rw [UB s i hi ha (fun _ => hq)]
    have c2 : decide (0 ≤ (0 : Int) ∧ (0 : Int) ≤ ((i : Nat) : Int) ∧ ((i : Nat) : Int) ≤ ((s.length : Nat) : Int)) = true := by simp; omega
    simp only [Bool.not_false, cond_true, c2, Int.toNat_natCast, Int.toNat_zero, Um, List.drop_zero]
  ·have c1 : decide (i < s.length) = false := by simp; omega
   refine .inr ⟨_, by rw [c1]; rfl, .inr ?_⟩
   rw [UB s i hi ha (fun h' => absurd h' h), List.take_of_length_le (by omega)]) ⟨ba s, ba s, 0⟩ ⟨0, by omega, rfl, by simp⟩
 rw [Zo.eq]; unfold QeJ
 rw [h1]
 rcases h2 with rfl | rfl <;> rfl
theorem QaN (s : List UInt8) : VX (ba s) = some (ba (s.takeWhile isI)) := by
 obtain ⟨r, h1, h2⟩ := Ys Wu.eq (fun a => ∃ i : Nat, i ≤ s.length ∧ a = ⟨ba s, ba s, i⟩ ∧ (s.take i).all isI = true) (fun _ r => r = .inl (ba (s.takeWhile isI)) ∨ r = .inr (ba (s.takeWhile isI))) (fun a => s.length - a.i0p) (by
  rintro a ⟨i, hi, rfl, ha⟩
  simp only [FM, QF]
  by_cases h : i < s.length
  ·have c1 : decide (i < s.length) = true := by simp [h]
   by_cases hb : s[i].toNat < 128
   ·rw [Qbg s h hb, c1, cond_true]
    simp only [QdI, Option.bind_some]
    have hp : isI s[i] = (decide (97 ≤ s[i].toNat ∧ s[i].toNat ≤ 122 ∨ s[i].toNat = 95) || decide (48 ≤ s[i].toNat ∧ s[i].toNat ≤ 57)) := by simp [isI, isS, isD, isI]
    rw [← hp]
    cases hq : isI s[i] with
    | true => exact .inl ⟨⟨ba s, ba s, i + 1⟩, rfl, ⟨i + 1, by omega, rfl, XX h ha hq⟩, by simp only; omega, fun r hr => hr⟩
    | false =>
     refine .inr ⟨_, ?_, .inl rfl⟩
     rw [UB s i hi ha (fun _ => hq)]
     have c2 : decide (0 ≤ (0 : Int) ∧ (0 : Int) ≤ ((i : Nat) : Int) ∧ ((i : Nat) : Int) ≤ ((s.length : Nat) : Int)) = true := by simp; omega
     simp only [Bool.not_false, cond_true, c2, Int.toNat_natCast, Int.toNat_zero, Um, List.drop_zero]
   ·have hd := Qff s h hb
    have hq : isI s[i] = false := by simp [isI, isS, isD, isI]; omega
    rw [c1, cond_true]
    simp only [QdI, Option.bind_some]
    generalize (Utf8.decode (ba s) i).1 = r at hd
    have hp : (decide (97 ≤ r ∧ r ≤ 122 ∨ r = 95) || decide (48 ≤ r ∧ r ≤ 57)) = false := by simp; omega
    rw [hp]
    refine .inr ⟨_, ?_, .inl rfl⟩
    rw [UB s i hi ha (fun _ => hq)]
    have c2 : decide (0 ≤ (0 : Int) ∧ (0 : Int) ≤ ((i : Nat) : Int) ∧ ((i : Nat) : Int) ≤ ((s.length : Nat) : Int)) = true := by simp; omega
    simp only [Bool.not_false, cond_true, c2, Int.toNat_natCast, Int.toNat_zero, Um, List.drop_zero]
  ·have c1 : decide (i < s.length) = false := by simp; omega
   refine .inr ⟨_, by rw [c1]; rfl, .inr ?_⟩
   rw [UB s i hi ha (fun h' => absurd h' h), List.take_of_length_le (by omega)]) ⟨ba s, ba s, 0⟩ ⟨0, by omega, rfl, by simp⟩
 rw [VX.eq]; unfold Qbv
 rw [h1]
 rcases h2 with rfl | rfl <;> rfl
theorem Qfg (s : List UInt8) : WO (ba s) = some (ba (s.takeWhile isD)) := by
 obtain ⟨r, h1, h2⟩ := Ys Wv.eq (fun a => ∃ i : Nat, i ≤ s.length ∧ a = ⟨ba s, ba s, i⟩ ∧ (s.take i).all isD = true) (fun _ r => r = .inl (ba (s.takeWhile isD)) ∨ r = .inr (ba (s.takeWhile isD))) (fun a => s.length - a.i0p) (by
  rintro a ⟨i, hi, rfl, ha⟩
  simp only [FP, QF]
  by_cases h : i < s.length
  ·have c1 : decide (i < s.length) = true := by simp [h]
   by_cases hb : s[i].toNat < 128
   ·rw [Qbg s h hb, c1, cond_true]
    simp only [ZP, Option.bind_some]
    have hp : isD s[i] = decide (48 ≤ s[i].toNat ∧ s[i].toNat ≤ 57) := by simp [isD, isS, isD, isI]
    rw [← hp]
    cases hq : isD s[i] with
    | true => exact .inl ⟨⟨ba s, ba s, i + 1⟩, rfl, ⟨i + 1, by omega, rfl, XX h ha hq⟩, by simp only; omega, fun r hr => hr⟩
    | false =>
     refine .inr ⟨_, ?_, .inl rfl⟩
     rw [UB s i hi ha (fun _ => hq)]
     have c2 : decide (0 ≤ (0 : Int) ∧ (0 : Int) ≤ ((i : Nat) : Int) ∧ ((i : Nat) : Int) ≤ ((s.length : Nat) : Int)) = true := by simp; omega
     simp only [Bool.not_false, cond_true, c2, Int.toNat_natCast, Int.toNat_zero, Um, List.drop_zero]
   ·have hd := Qff s h hb
    have hq : isD s[i] = false := by simp [isD, isS, isD, isI]; omega
    rw [c1, cond_true]
    simp only [ZP, Option.bind_some]
    generalize (Utf8.decode (ba s) i).1 = r at hd
    have hp : (decide (48 ≤ r ∧ r ≤ 57)) = false := by simp; omega
    rw [hp]
    refine .inr ⟨_, ?_, .inl rfl⟩
    rw [UB s i hi ha (fun _ => hq)]
    have c2 : decide (0 ≤ (0 : Int) ∧ (0 : Int) ≤ ((i : Nat) : Int) ∧ ((i : Nat) : Int) ≤ ((s.length : Nat) : Int)) = true := by simp; omega
    simp only [Bool.not_false, cond_true, c2, Int.toNat_natCast, Int.toNat_zero, Um, List.drop_zero]
  ·have c1 : decide (i < s.length) = false := by simp; omega
   refine .inr ⟨_, by rw [c1]; rfl, .inr ?_⟩
   rw [UB s i hi ha (fun h' => absurd h' h), List.take_of_length_le (by omega)]) ⟨ba s, ba s, 0⟩ ⟨0, by omega, rfl, by simp⟩
 rw [WO.eq]; unfold Qbw
 rw [h1]
 rcases h2 with rfl | rfl <;> rfl
end Go.Ab
namespace Go.Ab
def dropB (s : List UInt8) : List UInt8 := s.dropWhile (· == 32)
theorem GH (s : List UInt8) : dropB (dropB s) = dropB s := by
 unfold dropB
 induction s with
 | nil => rfl
 | cons b s ih =>
  by_cases h : b = 32
  ·simp [List.dropWhile_cons, h, ih]
  ·simp [List.dropWhile_cons, h]
theorem QlC (s : List UInt8) : (dropB s).length ≤ s.length := by unfold dropB; exact (List.dropWhile_sublist _).length_le
abbrev PS (s : List UInt8) (d : Int) (b : Bool) : Qb := ⟨ba s, d, b⟩
theorem QmK (s : List UInt8) : VC (ba s) = some (ba (dropB s)) := by
 have loop : ∀ s : List UInt8, JD ⟨ba s, 32⟩ = some (ba (dropB s)) := by
  intro s
  induction s with
  | nil => rw [JD.eq]; rfl
  | cons b s ih =>
   rw [JD.eq]; unfold X2
   have c1 : decide (((b :: s).length : Int) > 0) = true := by simp only [List.length_cons, decide_eq_true_eq]; omega
   have c2 : decide (0 ≤ (0 : Int) ∧ (0 : Int) < ((b :: s).length : Int)) = true := by simp only [List.length_cons, decide_eq_true_eq]; omega
   have c4 : decide (0 ≤ (1 : Int) ∧ (1 : Int) ≤ (((b :: s).length : Nat) : Int) ∧ (((b :: s).length : Nat) : Int) ≤ (((b :: s).length : Nat) : Int)) = true := by simp only [List.length_cons, decide_eq_true_eq]; omega
   simp only [QF, c1, c2, cond_true, YN]
   by_cases h : b = 32
   ·have c3 : ((((b :: s).getD (Int.toNat 0) 0).toNat : Int) == 32) = true := by subst h; rfl
    rw [c3, cond_true, c4, cond_true]
    simp only [Option.bind_some, Sum.elim_inl, Um, Int.toNat_natCast]
    rw [show List.drop (Int.toNat 1) (List.take (b :: s).length (b :: s)) = s from by rw [List.take_length]; rfl, ih]
    simp [dropB, List.dropWhile_cons, h]
   ·have c3 : ((((b :: s).getD (Int.toNat 0) 0).toNat : Int) == 32) = false := by
     rw [beq_eq_false_iff_ne]
     intro e
     apply h
     have e : (b.toNat : Int) = 32 := e
     exact UInt8.toNat_inj.1 (by have : (32 : UInt8).toNat = 32 := rfl; omega)
    rw [c3, cond_false]
    simp only [Option.bind_some, Sum.elim_inr]
    simp [dropB, List.dropWhile_cons, h]
 rw [VC.eq]; unfold Gh
 by_cases h : s = []
 ·subst h; have : eqS (ba []) s_ = true := Vq.2 rfl
  rw [this]; rfl
 ·have : eqS (ba s) s_ = false := by
   rw [show s_ = ba [] from rfl, eqS_ba]; simp [h]
  rw [this, cond_false, U1.eq]; unfold Y1
  rw [loop s]; rfl
theorem Qfh (s : List UInt8) (d : Int) (b : Bool) : Ua (PS s d b) = some (PS (dropB s) d b) := by
 rw [Ua.eq]; unfold ZC
 simp only [QmK, Option.bind_some]
def pre (a s : List UInt8) : Bool := decide (s.take a.length = a)
theorem Qfi (s a : List UInt8) : UX (ba s) (ba a) = some (pre a s) := by
 rw [UX.eq]; unfold Yz
 rw [JT.eq]; unfold YE
 simp only [QF, Um, eqS_ba, Int.toNat_natCast]
 by_cases h : a.length ≤ s.length
 ·have c1 : decide ((s.length : Int) ≥ (a.length : Int)) = true := by simp; omega
  have c2 : decide (0 ≤ (0 : Int) ∧ (0 : Int) ≤ (a.length : Int) ∧ (a.length : Int) ≤ (s.length : Int)) = true := by simp; omega
  rw [c1, cond_true, c2, cond_true]; rfl
 ·have c1 : decide ((s.length : Int) ≥ (a.length : Int)) = false := by simp; omega
  rw [c1, cond_false]
  simp only [Option.bind_some, pre]
  rw [decide_eq_false]
  intro e
  have := congrArg List.length e
  simp at this; omega
theorem Qkq (s : List UInt8) : UT (ba s) = some (pre [48, 120] s) := by
 rw [UT.eq]; unfold Zm
 have h := Qfi s [48, 120]
 rw [UX.eq] at h; unfold Yz at h
 exact h
theorem QfC {a s : List UInt8} (h : pre a s = true) : a.length ≤ s.length ∧ s = a ++ s.drop a.length := by
 have e : s.take a.length = a := of_decide_eq_true h
 refine ⟨?_, ?_⟩
 ·have := congrArg List.length e; simp at this; omega
 ·conv => lhs; rw [← List.take_append_drop a.length s, e]
theorem ZV (a s : List UInt8) (d : Int) (b : Bool) : JC (ba a) (PS s d b) = some (bif b then (false, PS (dropB s) d b) else bif pre a (dropB s) then (true, PS ((dropB s).drop a.length) d b) else (false, PS (dropB s) d b)) := by
 rw [JC.eq]; unfold Gi
 simp only [Qfh, Option.bind_some]
 cases b with
 | true => rfl
 | false =>
  simp only [cond_false, Qfi, Option.bind_some]
  cases h : pre a (dropB s) with
  | false => rfl
  | true =>
   obtain ⟨h1, h2⟩ := QfC h
   simp only [Bool.not_true, cond_false, QF, Um, Int.toNat_natCast, cond_true]
   have c2 : decide (0 ≤ (a.length : Int) ∧ (a.length : Int) ≤ ((dropB s).length : Int) ∧ ((dropB s).length : Int) ≤ ((dropB s).length : Int)) = true := by simp; omega
   rw [c2, cond_true, List.take_length]
def sg (k : Nat) : List UInt8 := match k with
 | 5 => [43] | 6 => [45] | 7 => [42] | 8 => [38] | 9 => [124] | 10 => [60, 60] | 11 => [62, 62] | _ => []
theorem QlD : Wl = some [s_, s_, s_, h_2e, h_2d, ba (sg 5), ba (sg 6), ba (sg 7), ba (sg 8), ba (sg 9), ba (sg 10), ba (sg 11)] := by rw [Wl.eq]; rfl
theorem QlE {k : Nat} (h : 5 ≤ k ∧ k ≤ 11) : [s_, s_, s_, h_2e, h_2d, ba (sg 5), ba (sg 6), ba (sg 7), ba (sg 8), ba (sg 9), ba (sg 10), ba (sg 11)][k]? = some (ba (sg k)) := by
 have : k = 5 ∨ k = 6 ∨ k = 7 ∨ k = 8 ∨ k = 9 ∨ k = 10 ∨ k = 11 := by omega
 rcases this with rfl | rfl | rfl | rfl | rfl | rfl | rfl <;> rfl
def lv (l : Nat) : List Nat := match l with
 | 0 => [9] | 1 => [8] | 2 => [10, 11] | 3 => [5, 6] | _ => [7]
theorem lv_ok {l k : Nat} (h : k ∈ lv l) : 5 ≤ k ∧ k ≤ 11 := by
 unfold lv at h; split at h <;> simp at h <;> omega
def kindS (ks : List Nat) (t : List UInt8) : Option Nat := ks.find? fun k => pre (sg k) t
theorem Qm8 (ks : List Nat) (hk : ∀ k ∈ ks, 5 ≤ k ∧ k ≤ 11) (hne : ks ≠ []) (hl : ks.length ≤ 1000) (s : List UInt8) (d : Int) (b : Bool) : JW (ks.map fun k : Nat => (k : Int)) (PS s d b) =
  some (bif b then (0, PS (dropB s) d b) else match kindS ks (dropB s) with | some k => ((k : Int), PS ((dropB s).drop (sg k).length) d b) | none => (0, PS (dropB s) d b)) := by
 obtain ⟨r, h1, h2⟩ := Ys Uz.eq
  (fun a => ∃ i : Nat, ∃ s' : List UInt8, i ≤ ks.length ∧ dropB s' = dropB s ∧ (i = ks.length → s' = dropB s) ∧ a = ⟨ks.map fun k : Nat => (k : Int), ks.length, i, PS s' d b⟩ ∧ (b = false → kindS (ks.drop i) (dropB s) = kindS ks (dropB s)))
  (fun _ r => r = bif b then .inr (PS (dropB s) d b) else match kindS ks (dropB s) with | some k => .inl ⟨(k : Int), PS ((dropB s).drop (sg k).length) d b⟩ | none => .inr (PS (dropB s) d b)) (fun a => ks.length - a.x9.toNat) (by
  rintro a ⟨i, s', hi, hs, hend, rfl, hq⟩
  simp only [Zr, Int.toNat_natCast]
  by_cases h : i < ks.length
  ·have c1 : decide ((i : Int) < (ks.length : Int)) = true := by simp; omega
   have hd : ks.drop i = ks[i] :: ks.drop (i + 1) := List.drop_eq_getElem_cons h
   have hki := hk ks[i] (List.getElem_mem h)
   rw [c1, cond_true, List.getElem?_map, List.getElem?_eq_getElem h]
   simp only [Int.natCast_nonneg, decide_true, cond_true, Option.map_some, Option.bind_some, QlD, Int.toNat_natCast, QlE hki, ZV, hs]
   cases b with
   | true =>
    refine .inl ⟨⟨ks.map fun k : Nat => (k : Int), ks.length, (i + 1 : Nat), PS (dropB s) d true⟩, ?_, ⟨i + 1, dropB s, by omega, GH s, fun _ => rfl, rfl, fun e => by cases e⟩, by simp only [Int.toNat_natCast]; omega, fun r hr => hr⟩
    simp only [cond_true, cond_false]
    rw [w64_in (n := (i : Int) + 1) (by omega) (by omega)]; rfl
   | false =>
    simp only [cond_false]
    have hq := hq rfl
    cases hp : pre (sg ks[i]) (dropB s) with
    | true =>
     have : kindS ks (dropB s) = some ks[i] := by rw [← hq, hd]; simp only [kindS, List.find?_cons, hp]
     refine .inr ⟨_, rfl, ?_⟩
     rw [this]; rfl
    | false =>
     refine .inl ⟨⟨ks.map fun k : Nat => (k : Int), ks.length, (i + 1 : Nat), PS (dropB s) d false⟩, ?_, ⟨i + 1, dropB s, by omega, GH s, fun _ => rfl, rfl, fun _ => ?_⟩, by simp only [Int.toNat_natCast]; omega, fun r hr => hr⟩
     ·simp only [cond_false]
      rw [w64_in (n := (i : Int) + 1) (by omega) (by omega)]; rfl
     ·rw [← hq, hd]; simp only [kindS, List.find?_cons, hp]
  ·have c1 : decide ((i : Int) < (ks.length : Int)) = false := by simp; omega
   have he := hend (by omega)
   subst he
   refine .inr ⟨_, by rw [c1]; rfl, ?_⟩
   cases b with
   | true => rfl
   | false =>
    have hq := hq rfl
    rw [List.drop_eq_nil_of_le (by omega)] at hq
    rw [← hq]; rfl)
  ⟨ks.map fun k : Nat => (k : Int), ks.length, 0, PS s d b⟩ ⟨0, s, by omega, rfl, fun e => by cases ks with | nil => exact absurd rfl hne | cons => simp at e, rfl, fun _ => rfl⟩
 rw [JW.eq]; unfold Gl
 rw [List.length_map, h1, h2]
 cases b with
 | true => rfl
 | false =>
  simp only [cond_false]
  cases kindS ks (dropB s) <;> rfl
end Go.Ab
namespace Go.Ab
abbrev E0 : Qa := ⟨0, 0, s_, []⟩
def dg (b : UInt8) : Nat := if 97 ≤ b.toNat then b.toNat - 97 + 10 else b.toNat - 48
def numv (base : Nat) : List UInt8 → Nat → Option Nat
 | [], n => some n
 | b :: l, n => if n * base + dg b ≥ 4294967296 then none else numv base l (n * base + dg b)
theorem dg_lt {b : UInt8} (h : isH b = true) : dg b < 16 := by
 unfold isH isD at h; unfold dg
 simp only [Bool.or_eq_true, decide_eq_true_eq] at h
 split <;> omega
theorem F3 (s : List UInt8) (d : Int) (b : Bool) : QV (PS s d b) = some (E0, PS s d true) := by rw [QV.eq]; rfl
theorem Qpb (ds r : List UInt8) (hds : ds.all isH = true) (base : Nat) (hb : base ≤ 16) (d : Int) (b : Bool) : JX (ba ds) base (PS (ds ++ r) d b) =
  some (match numv base ds 0 with | some n => (⟨1, n, s_, []⟩, PS r d b) | none => (E0, PS (ds ++ r) d true)) := by
 obtain ⟨x, h1, h2⟩ := Ys Ub.eq
  (fun a => ∃ i n : Nat, i ≤ ds.length ∧ n < 4294967296 ∧ a = ⟨ba ds, base, n, PS (ds ++ r) d b, E0, ba ds, i⟩ ∧ numv base (ds.drop i) n = numv base ds 0)
  (fun _ x => match numv base ds 0 with | some n => x = .inr ⟨ba ds, n, PS (ds ++ r) d b, E0⟩ | none => x = .inl ⟨PS (ds ++ r) d true, E0⟩)
  (fun a => ds.length - a.i2p) (by
  rintro a ⟨i, n, hi, hn, rfl, hq⟩
  simp only [YF, QF]
  by_cases h : i < ds.length
  ·have c1 : decide (i < ds.length) = true := decide_eq_true h
   have hH : isH ds[i] = true := List.all_eq_true.1 hds _ (List.getElem_mem h)
   have hH2 := hH
   unfold isH isD at hH2
   simp only [Bool.or_eq_true, decide_eq_true_eq] at hH2
   have hdg := dg_lt hH
   have hd : ds.drop i = ds[i] :: ds.drop (i + 1) := List.drop_eq_getElem_cons h
   rw [hd] at hq
   simp only [numv] at hq
   rw [c1, cond_true, Qbg ds h (by omega)]
   simp only [F3, Option.bind_some]
   have hmul : n * base ≤ 4294967296 * 16 := Nat.mul_le_mul (by omega) hb
   have em : w64 ((n : Int) * (base : Int)) = ((n * base : Nat) : Int) := by rw [← Int.natCast_mul]; exact w64_in (by omega) (by omega)
   have key : ∀ x : Int, x = (dg ds[i] : Int) → w64 (w64 ((n : Int) * (base : Int)) + w64 x) = ((n * base + dg ds[i] : Nat) : Int) := by
    intro x hx
    rw [em, hx, w64_in (n := (dg ds[i] : Int)) (by omega) (by omega), w64_in (by omega) (by omega)]; omega
   by_cases h97 : 97 ≤ ds[i].toNat
   ·have c2 : decide ((ds[i].toNat : Int) ≥ 97) = true := decide_eq_true (by omega)
    have hdv : dg ds[i] = ds[i].toNat - 97 + 10 := by unfold dg; rw [if_pos h97]
    have e1 : w64 (IntKind.i32.wrap ((ds[i].toNat : Int) - 97)) + 10 = (dg ds[i] : Int) := by
     rw [i32_in (by omega) (by omega), w64_in (by omega) (by omega)]; omega
    rw [c2, cond_true, key _ e1]
    by_cases hbig : n * base + dg ds[i] ≥ 4294967296
    ·rw [if_pos hbig] at hq
     have c3 : decide (((n * base + dg ds[i] : Nat) : Int) ≥ 4294967296) = true := decide_eq_true (by omega)
     rw [c3, cond_true]
     exact .inr ⟨_, rfl, by rw [← hq]⟩
    ·rw [if_neg hbig] at hq
     have c3 : decide (((n * base + dg ds[i] : Nat) : Int) ≥ 4294967296) = false := decide_eq_false (by omega)
     rw [c3, cond_false]
     exact .inl ⟨_, rfl, ⟨i + 1, _, by omega, by omega, rfl, hq⟩, by simp only; omega, fun x hx => hx⟩
   ·have c2 : decide ((ds[i].toNat : Int) ≥ 97) = false := decide_eq_false (by omega)
    have hdv : dg ds[i] = ds[i].toNat - 48 := by unfold dg; rw [if_neg h97]
    have e1 : IntKind.i32.wrap ((ds[i].toNat : Int) - 48) = (dg ds[i] : Int) := by
     rw [i32_in (by omega) (by omega)]; omega
    rw [c2, cond_false, key _ e1]
    by_cases hbig : n * base + dg ds[i] ≥ 4294967296
    ·rw [if_pos hbig] at hq
     have c3 : decide (((n * base + dg ds[i] : Nat) : Int) ≥ 4294967296) = true := decide_eq_true (by omega)
     rw [c3, cond_true]
     exact .inr ⟨_, rfl, by rw [← hq]⟩
    ·rw [if_neg hbig] at hq
     have c3 : decide (((n * base + dg ds[i] : Nat) : Int) ≥ 4294967296) = false := decide_eq_false (by omega)
     rw [c3, cond_false]
     exact .inl ⟨_, rfl, ⟨i + 1, _, by omega, by omega, rfl, hq⟩, by simp only; omega, fun x hx => hx⟩
  ·have c1 : decide (i < ds.length) = false := decide_eq_false h
   rw [List.drop_eq_nil_of_le (by omega)] at hq
   refine .inr ⟨_, by rw [c1]; rfl, ?_⟩
   rw [← hq]; rfl) ⟨ba ds, base, 0, PS (ds ++ r) d b, E0, ba ds, 0⟩ ⟨0, 0, by omega, by omega, rfl, rfl⟩
 rw [JX.eq]; unfold ZD
 rw [h1]
 cases hv : numv base ds 0 with
 | none => rw [hv] at h2; simp only at h2; subst h2; rfl
 | some n =>
  rw [hv] at h2; simp only at h2; subst h2
  simp only [Option.bind_some, Sum.elim_inr, QF, Um, Int.toNat_natCast, List.length_append]
  have c2 : decide (0 ≤ (ds.length : Int) ∧ (ds.length : Int) ≤ ((ds.length + r.length : Nat) : Int) ∧ ((ds.length + r.length : Nat) : Int) ≤ ((ds.length + r.length : Nat) : Int)) = true := decide_eq_true (by omega)
  rw [c2, cond_true, List.take_of_length_le (by simp), List.drop_left]
theorem QlF (x : Qa) (s : List UInt8) (d : Int) (b : Bool) : J5 x (PS s d b) = some (if s.takeWhile isI = [] then (x, PS s d b) else (E0, PS s d true)) := by
 rw [J5.eq]; unfold ZX
 simp only [QaN, Option.bind_some, F3]
 rw [show s_ = ba [] from rfl, eqS_ba]
 by_cases h : s.takeWhile isI = []
 ·rw [if_pos h]; simp [h]
 ·rw [if_neg h]; simp [h]
theorem Qq0 (w : List UInt8) : XR (ba w) = some (wordB w) := by
 rw [XR.eq]; unfold Qby
 rw [show s_ = ba [] from rfl, eqS_ba]
 cases w with
 | nil => rfl
 | cons c t =>
  simp only [QF, YN, QaN, Um, Qfg, Option.bind_some, eqS_ba]
  have c0 : decide (c :: t = []) = false := by simp
  have c2 : decide (0 ≤ (0 : Int) ∧ (0 : Int) < (((c :: t).length : Nat) : Int)) = true := decide_eq_true (by simp only [List.length_cons]; omega)
  have c3 : decide (0 ≤ (1 : Int) ∧ (1 : Int) ≤ (((c :: t).length : Nat) : Int) ∧ (((c :: t).length : Nat) : Int) ≤ (((c :: t).length : Nat) : Int)) = true := decide_eq_true (by simp only [List.length_cons]; omega)
  have c4 : IntKind.i32.wrap (((((c :: t).getD (Int.toNat 0) 0).toNat : Nat) : Int)) = (c.toNat : Int) := by
   show IntKind.i32.wrap (c.toNat : Int) = _
   exact i32_in (by omega) (by have := c.toNat_lt; omega)
  have e1 : ((c :: t).take (Int.toNat (((c :: t).length : Nat) : Int))).drop (Int.toNat 1) = t := by rw [Int.toNat_natCast, List.take_length]; rfl
  rw [c0, cond_false, c2, cond_true, c4, ZP, c3, e1]
  simp only [Option.bind_some, eqS_ba, cond_true]
  have c1 : decide ((((c :: t).length : Nat) : Int) > 12) = !decide (t.length < 12) := by
   by_cases h : t.length < 12
   ·rw [decide_eq_true h, decide_eq_false (by simp only [List.length_cons]; omega)]; rfl
   ·rw [decide_eq_false h, decide_eq_true (by simp only [List.length_cons]; omega)]; rfl
  have c5 : ((((c :: t).getD (Int.toNat 0) 0).toNat : Int) != 114) = decide (c ≠ 114) := by
   show ((c.toNat : Int) != 114) = _
   rw [Bool.eq_iff_iff, bne_iff_ne, decide_eq_true_iff]
   have : (114 : UInt8).toNat = 114 := rfl
   constructor
   ·intro h e; subst e; exact h rfl
   ·intro h e; exact h (UInt8.toNat_inj.1 (by omega))
  have c6 : ((((c :: t).length : Nat) : Int) == 1) = decide (t = []) := by
   rw [Bool.eq_iff_iff, beq_iff_eq, decide_eq_true_iff]
   cases t <;> simp <;> omega
  rw [c1, c5, c6]
  have hw : wordB (c :: t) = (decide (t.length < 12) && (!isD c && (decide ((c :: t).takeWhile isI = c :: t) && (decide (c ≠ 114) || (decide (t = []) || !decide (t.takeWhile isD = t)))))) := rfl
  rw [hw]
  have c7 : decide (48 ≤ c.toNat ∧ c.toNat ≤ 57) = isD c := rfl
  rw [c7]
  cases decide (t.length < 12) <;> cases isD c <;> cases decide ((c :: t).takeWhile isI = c :: t) <;> cases decide (c ≠ 114) <;> cases decide (t = []) <;> rfl
end Go.Ab
namespace Go.Ab
theorem Qq1 {p : UInt8 → Bool} (t : List UInt8) : t.drop (t.takeWhile p).length = t.dropWhile p := by
 conv => lhs; rw [← List.takeWhile_append_dropWhile (p := p) (l := t)]
 rw [List.takeWhile_append_dropWhile, ]
 conv => lhs; arg 2; rw [← List.takeWhile_append_dropWhile (p := p) (l := t)]
 exact List.drop_left
def tailA (base : Nat) (h r : List UInt8) : Option (X3 × List UInt8) := match numv base h 0 with
 | some n => if r.takeWhile isI = [] then some (.num n, r) else none
 | none => none
def atomS (t : List UInt8) : Option (X3 × List UInt8) :=
 bif pre [48, 120] t && !decide ((t.drop 2).takeWhile isH = []) then tailA 16 ((t.drop 2).takeWhile isH) ((t.drop 2).dropWhile isH)
 else bif !decide (t.takeWhile isD = []) then tailA 10 (t.takeWhile isD) (t.dropWhile isD)
 else bif wordB (t.takeWhile isI) then some (.nm (ba (t.takeWhile isI)), t.dropWhile isI) else none
def PR (f : Option (Qa × Qb)) (d : Int) (o : Option (X3 × List UInt8)) : Prop := match o with
 | some (x, r) => f = some (x.t, PS r d false)
 | none => ∃ e r, f = some (e, PS r d true)
theorem all_tw {p q : UInt8 → Bool} (hpq : ∀ b, p b = true → q b = true) (t : List UInt8) : (t.takeWhile p).all q = true := by
 rw [List.all_eq_true]; intro b hb; exact hpq b (List.all_eq_true.1 List.all_takeWhile b hb)
theorem Qm9 (base : Nat) (hb : base ≤ 16) (h r : List UInt8) (hh : h.all isH = true) (d : Int) :
  PR ((JX (ba h) base (PS (h ++ r) d false)).bind fun q => (J5 q.1 q.2).bind fun q => some (q.1, q.2)) d (tailA base h r) := by
 rw [Qpb h r hh base hb]
 unfold tailA
 cases hv : numv base h 0 with
 | none =>
  simp only [Option.bind_some, QlF]
  split <;> exact ⟨_, _, rfl⟩
 | some n =>
  simp only [Option.bind_some, QlF]
  split
  ·rfl
  ·exact ⟨_, _, rfl⟩
theorem Qhb {s r : List UInt8} (h : dropB s = 40 :: r) (d : Int) : QD (PS s d false) = Q4 (PS r d false) := by
 rw [QD.eq]; unfold VL
 simp only [show h_28 = ba [40] from rfl, ZV, cond_true, Option.bind_some, cond_false, h]
 rw [show pre [40] (40 :: r) = true from by simp [pre]]
 simp only [cond_true]
 show (Q4 (PS r d false)).bind (fun r2 => some (r2.1, r2.2)) = _
 cases Q4 (PS r d false) <;> rfl
theorem SH {a : UInt8} {t : List UInt8} (h : ∀ r, t ≠ a :: r) : pre [a] t = false := by
 cases t with
 | nil => simp [pre]
 | cons b t =>
  have : b ≠ a := fun e => h t (by rw [e])
  simp [pre, this]
theorem Qfj {s r : List UInt8} (h : dropB s = 45 :: r) (d : Int) : QD (PS s d false) = QT (PS r d false) := by
 rw [QD.eq]; unfold VL
 simp only [show h_28 = ba [40] from rfl, show h_2d = ba [45] from rfl, ZV, cond_true, Option.bind_some, cond_false, h]
 rw [show pre [40] (45 :: r) = false from by simp [pre]]
 simp only [cond_false, ZV]
 rw [show dropB (45 :: r) = 45 :: r from by simp [dropB, List.dropWhile_cons], show pre [45] (45 :: r) = true from by simp [pre]]
 simp only [cond_true, Option.bind_some]
 show (QT (PS r d false)).bind (fun r2 => some (r2.1, r2.2)) = _
 cases QT (PS r d false) <;> rfl
theorem Qna {s r : List UInt8} (h : dropB s = 46 :: r) (d : Int) : QD (PS s d false) = some (X3.here.t, PS r d false) := by
 rw [QD.eq]; unfold VL
 simp only [show h_28 = ba [40] from rfl, show h_2d = ba [45] from rfl, show h_2e = ba [46] from rfl, ZV, cond_true, Option.bind_some, cond_false, h]
 rw [show pre [40] (46 :: r) = false from by simp [pre]]
 simp only [cond_false, ZV]
 rw [show dropB (46 :: r) = 46 :: r from by simp [dropB, List.dropWhile_cons], show pre [45] (46 :: r) = false from by simp [pre]]
 simp only [cond_false, Option.bind_some, ZV]
 rw [show dropB (46 :: r) = 46 :: r from by simp [dropB, List.dropWhile_cons], show pre [46] (46 :: r) = true from by simp [pre]]
 rfl
theorem Qhc {s t : List UInt8} (h : dropB s = t) (h1 : ∀ r, t ≠ 40 :: r) (h2 : ∀ r, t ≠ 45 :: r) (h3 : ∀ r, t ≠ 46 :: r) (d : Int) : PR (QD (PS s d false)) d (atomS t) := by
 have ht : dropB t = t := by rw [← h, GH]
 rw [QD.eq]; unfold VL
 simp only [show h_28 = ba [40] from rfl, show h_2d = ba [45] from rfl, show h_2e = ba [46] from rfl, ZV, cond_true, Option.bind_some, cond_false, h, ht, SH h1, SH h2, SH h3, Qkq, Qoh, QaN, Qfg, QF, Um, Qq0, F3]
 have rest : ∀ (P : Prop), (PR (bif !eqS (ba (t.takeWhile isD)) s_ then (JX (ba (t.takeWhile isD)) 10 (PS t d false)).bind fun r18 => (J5 r18.1 r18.2).bind fun r19 => some (r19.1, r19.2)
   else bif wordB (t.takeWhile isI) then (bif decide (0 ≤ (((t.takeWhile isI).length : Nat) : Int) ∧ (((t.takeWhile isI).length : Nat) : Int) ≤ ((t.length : Nat) : Int) ∧ ((t.length : Nat) : Int) ≤ ((t.length : Nat) : Int)) then
    some ((⟨2, 0, ba (t.takeWhile isI), []⟩ : Qa), (⟨ba ((t.take (Int.toNat ((t.length : Nat) : Int))).drop (Int.toNat (((t.takeWhile isI).length : Nat) : Int))), d, false⟩ : Qb)) else none) else some ((⟨0, 0, s_, []⟩ : Qa), (⟨ba t, d, true⟩ : Qb))) d
   (bif !decide (t.takeWhile isD = []) then tailA 10 (t.takeWhile isD) (t.dropWhile isD) else bif wordB (t.takeWhile isI) then some (.nm (ba (t.takeWhile isI)), t.dropWhile isI) else none) → P) → P := by
  intro P k
  apply k
  rw [show s_ = ba [] from rfl, eqS_ba]
  cases hD : decide (t.takeWhile isD = []) with
  | false =>
   simp only [Bool.not_false, cond_true]
   have := Qm9 10 (by decide) (t.takeWhile isD) (t.dropWhile isD) (all_tw (fun b hb => by simp [isH, hb]) t) d
   rw [List.takeWhile_append_dropWhile] at this
   exact this
  | true =>
   simp only [Bool.not_true, cond_false]
   cases hw : wordB (t.takeWhile isI) with
   | false => exact ⟨_, _, rfl⟩
   | true =>
    simp only [cond_true]
    have hl : (t.takeWhile isI).length ≤ t.length := (List.takeWhile_sublist _).length_le
    have c1 : decide (0 ≤ (((t.takeWhile isI).length : Nat) : Int) ∧ (((t.takeWhile isI).length : Nat) : Int) ≤ ((t.length : Nat) : Int) ∧ ((t.length : Nat) : Int) ≤ ((t.length : Nat) : Int)) = true := decide_eq_true (by omega)
    rw [c1, cond_true, Int.toNat_natCast, Int.toNat_natCast, List.take_length, Qq1]
    rfl
 unfold atomS
 cases hp : pre [48, 120] t with
 | false =>
  simp only [Bool.false_and, cond_false]
  exact rest _ id
 | true =>
  have hlen := (QfC hp).1
  have c1 : decide (0 ≤ (2 : Int) ∧ (2 : Int) ≤ ((t.length : Nat) : Int) ∧ ((t.length : Nat) : Int) ≤ ((t.length : Nat) : Int)) = true := decide_eq_true (by simp at hlen; omega)
  have e2 : (t.take (Int.toNat ((t.length : Nat) : Int))).drop (Int.toNat 2) = t.drop 2 := by rw [Int.toNat_natCast, List.take_length]; rfl
  simp only [Bool.true_and, cond_true]
  rw [c1, cond_true, e2]
  cases hH : decide ((t.drop 2).takeWhile isH = []) with
  | true =>
   have : eqS (ba ((t.drop 2).takeWhile isH)) s_ = true := by rw [show s_ = ba [] from rfl, eqS_ba, hH]
   rw [this]
   simp only [Bool.not_true, cond_false]
   exact rest _ id
  | false =>
   have : eqS (ba ((t.drop 2).takeWhile isH)) s_ = false := by rw [show s_ = ba [] from rfl, eqS_ba, hH]
   rw [this]
   simp only [Bool.not_false, cond_true]
   have := Qm9 16 (by decide) ((t.drop 2).takeWhile isH) ((t.drop 2).dropWhile isH) (all_tw (fun b hb => hb) _) d
   rw [List.takeWhile_append_dropWhile] at this
   exact this
end Go.Ab
namespace Go.Ab
theorem Qfk : VB = some [[9], [8], [10, 11], [5, 6], [7]] := by rw [VB.eq]; rfl
theorem QjF {l : Nat} (h : l < 5) : ([[9], [8], [10, 11], [5, 6], [7]] : List (List Int))[l]? = some ((lv l).map fun k : Nat => (k : Int)) := by
 have : l = 0 ∨ l = 1 ∨ l = 2 ∨ l = 3 ∨ l = 4 := by omega
 rcases this with rfl | rfl | rfl | rfl | rfl <;> rfl
theorem lv_ne (l : Nat) : lv l ≠ [] := by unfold lv; split <;> simp
theorem lv_len (l : Nat) : (lv l).length ≤ 1000 := by unfold lv; split <;> simp
theorem two5 (p : Qb) : Qm 5 p = QD p := by
 rw [Qm.eq]; unfold WJ
 simp only [Qfk, Option.bind_some]
 show (QD p).bind (fun r2 => some (r2.1, r2.2)) = _
 cases QD p <;> rfl
noncomputable def PL (l : Nat) (p : Qb) (x : Qa) : Option (Qa × Qb) :=
 (JW ((lv l).map fun k : Nat => (k : Int)) p).bind fun r6 => (Q3 ⟨(l : Int), r6.1, r6.2, E0, x⟩).bind fun o => some (o.h2, o.h0)
theorem two_lt {l : Nat} (h : l < 5) (p : Qb) : Qm (l : Int) p = (Qm ((l + 1 : Nat) : Int) p).bind fun r => PL l r.2 r.1 := by
 rw [Qm.eq]; unfold WJ
 simp only [Qfk, Option.bind_some]
 have c1 : ((l : Int) == (([[9], [8], [10, 11], [5, 6], [7]] : List (List Int)).length : Nat)) = false := by
  rw [beq_eq_false_iff_ne]; simp; omega
 have c2 : decide (0 ≤ (l : Int)) = true := decide_eq_true (by omega)
 rw [c1, cond_false, w64_in (n := (l : Int) + 1) (by omega) (by omega), c2]
 simp only [cond_true, Int.toNat_natCast, QjF h, Option.bind_some]
 rfl
theorem PL_bad {l : Nat} (s : List UInt8) (d : Int) (x : Qa) : PL l (PS s d true) x = some (x, PS (dropB s) d true) := by
 unfold PL
 rw [Qm8 _ (fun k hk => lv_ok hk) (lv_ne l) (lv_len l)]
 simp only [cond_true, Option.bind_some]
 rw [Q3.eq]; rfl
theorem PL_eq {l : Nat} (h : l < 5) (s : List UInt8) (d : Int) (x : Qa) : PL l (PS s d false) x = match kindS (lv l) (dropB s) with
  | none => some (x, PS (dropB s) d false)
  | some k => (Qm ((l + 1 : Nat) : Int) (PS ((dropB s).drop (sg k).length) d false)).bind fun r => PL l r.2 ⟨k, 0, s_, [x, r.1]⟩ := by
 conv => lhs; unfold PL
 rw [Qm8 _ (fun k hk => lv_ok hk) (lv_ne l) (lv_len l)]
 simp only [cond_false, Option.bind_some]
 cases hk : kindS (lv l) (dropB s) with
 | none => simp only; rw [Q3.eq]; rfl
 | some k =>
  have h5 := lv_ok (List.mem_of_find?_eq_some hk)
  have c1 : ((k : Int) != 0) = true := by rw [bne_iff_ne]; omega
  have c2 : decide (0 ≤ (l : Int)) = true := decide_eq_true (by omega)
  simp only
  rw [Q3.eq]; unfold V5
  simp only [c1, cond_true, Bool.not_false, c2, Qfk, Option.bind_some, Int.toNat_natCast, QjF h]
  rw [w64_in (n := (l : Int) + 1) (by omega) (by omega)]
  show Option.bind (Option.bind (Option.bind (Qm ((l + 1 : Nat) : Int) (PS ((dropB s).drop (sg k).length) d false)) _) _) _ = _
  cases Qm ((l + 1 : Nat) : Int) (PS ((dropB s).drop (sg k).length) d false) with
  | none => rfl
  | some r =>
   simp only [Option.bind_some]
   unfold PL
   cases JW ((lv l).map fun k : Nat => (k : Int)) r.2 <;> rfl
theorem Qh8 {d : Int} (h : d ≥ 12) (s : List UInt8) : Q4 (PS s d false) = some (E0, PS s d true) ∧ QT (PS s d false) = some (E0, PS s d true) := by
 constructor
 ·rw [Q4.eq]; unfold V4
  simp only [F3, decide_eq_true h, cond_true, Option.bind_some]
 ·rw [QT.eq]; unfold VE
  simp only [F3, decide_eq_true h, cond_true, Option.bind_some]
theorem QjG {d : Int} (h0 : 0 ≤ d) (h : d < 12) (s : List UInt8) {o : Option (X3 × List UInt8)} (ho : PR (Qm 0 (PS s (d + 1) false)) (d + 1) o) :
  PR (Q4 (PS s d false)) d (o.bind fun xr => bif pre [41] (dropB xr.2) then some (xr.1, (dropB xr.2).drop 1) else none) := by
 rw [Q4.eq]; unfold V4
 have c1 : decide (d ≥ 12) = false := decide_eq_false (by omega)
 simp only [c1, cond_false]
 rw [w64_in (n := d + 1) (by omega) (by omega), JK.eq]; unfold WR
 have wd : w64 (d + 1 - 1) = d := by rw [w64_in (by omega) (by omega)]; omega
 cases o with
 | none =>
  obtain ⟨e, r, he⟩ := ho
  have he : Qm 0 ⟨ba s, d + 1, false⟩ = some (e, PS r (d + 1) true) := he
  simp only [he, Option.bind_some, show h_29 = ba [41] from rfl, ZV, cond_true, Bool.not_false, F3, Option.bind_none, wd]
  exact ⟨_, _, rfl⟩
 | some xr =>
  obtain ⟨x, r⟩ := xr
  have ho : Qm 0 ⟨ba s, d + 1, false⟩ = some (x.t, PS r (d + 1) false) := ho
  simp only [ho, Option.bind_some, show h_29 = ba [41] from rfl, ZV, cond_false]
  cases hp : pre [41] (dropB r) with
  | false =>
   simp only [cond_false, Bool.not_false, cond_true, F3, Option.bind_some, wd]
   exact ⟨_, _, rfl⟩
  | true =>
   simp only [cond_true, Bool.not_true, cond_false, Option.bind_some, wd]
   rfl
theorem QlG {d : Int} (h0 : 0 ≤ d) (h : d < 12) (s : List UInt8) {o : Option (X3 × List UInt8)} (ho : PR (QD (PS s (d + 1) false)) (d + 1) o) :
  PR (QT (PS s d false)) d (o.bind fun xr => some (.neg xr.1, xr.2)) := by
 rw [QT.eq]; unfold VE
 have c1 : decide (d ≥ 12) = false := decide_eq_false (by omega)
 simp only [c1, cond_false]
 rw [w64_in (n := d + 1) (by omega) (by omega), JL.eq]; unfold WS
 have wd : w64 (d + 1 - 1) = d := by rw [w64_in (by omega) (by omega)]; omega
 cases o with
 | none =>
  obtain ⟨e, r, he⟩ := ho
  have he : QD ⟨ba s, d + 1, false⟩ = some (e, PS r (d + 1) true) := he
  simp only [he, Option.bind_some, wd, Option.bind_none]
  exact ⟨_, _, rfl⟩
 | some xr =>
  obtain ⟨x, r⟩ := xr
  have ho : QD ⟨ba s, d + 1, false⟩ = some (x.t, PS r (d + 1) false) := ho
  simp only [ho, Option.bind_some, wd]
  rfl
theorem QlH (s : List UInt8) {o : Option (X3 × List UInt8)} (ho : PR (Qm 0 (PS s 0 false)) 0 o) :
  Wm (ba s) = some (match o with | some (x, r) => if dropB r = [] then (x.t, true) else (E0, false) | none => (E0, false)) := by
 rw [Wm.eq]; unfold Qax
 cases o with
 | none =>
  obtain ⟨e, r, he⟩ := ho
  have he : Qm 0 ⟨ba s, 0, false⟩ = some (e, PS r 0 true) := he
  simp only [he, Option.bind_some, Qfh, cond_true]
 | some xr =>
  obtain ⟨x, r⟩ := xr
  have ho : Qm 0 ⟨ba s, 0, false⟩ = some (x.t, PS r 0 false) := ho
  simp only [ho, Option.bind_some, Qfh, cond_false]
  rw [show s_ = ba [] from rfl, eqS_ba]
  by_cases h : dropB r = []
  ·simp [h]
  ·simp [h]; rfl
end Go.Ab
namespace Go.Ab
inductive Sp : List (List UInt8) → List UInt8 → Prop
 | nil (b : List UInt8) (hb : ∀ c ∈ b, c = 32) : Sp [] b
 | cons (b t s : List UInt8) (ts : List (List UInt8)) (hb : ∀ c ∈ b, c = 32) (h : Sp ts s) : Sp (t :: ts) (b ++ (t ++ s))
theorem Fw {b s : List UInt8} (hb : ∀ c ∈ b, c = 32) : dropB (b ++ s) = dropB s := by
 induction b with
 | nil => rfl
 | cons c b ih =>
  have hc := hb c (by simp)
  subst hc
  rw [List.cons_append]
  show List.dropWhile _ _ = _
  rw [List.dropWhile_cons]
  simp only [beq_self_eq_true, if_true]
  exact ih fun c h => hb c (by simp [h])
theorem GI {c : UInt8} {s : List UInt8} (h : c ≠ 32) : dropB (c :: s) = c :: s := by
 unfold dropB; rw [List.dropWhile_cons]; simp [h]
theorem Sp.nil_drop {s : List UInt8} (h : Sp [] s) : dropB s = [] := by
 cases h with
 | nil b hb =>
  have := Fw (s := []) hb
  rw [List.append_nil] at this; rw [this]; rfl
theorem Sp.cons_drop {c : UInt8} {t s : List UInt8} {ts : List (List UInt8)} (h : Sp ((c :: t) :: ts) s) (hc : c ≠ 32) : ∃ s', dropB s = c :: (t ++ s') ∧ Sp ts s' := by
 cases h with
 | cons b t' s' ts' hb h' => exact ⟨s', by rw [Fw hb]; exact GI hc, h'⟩
theorem Sp.drop {s : List UInt8} {ts : List (List UInt8)} (h : Sp ts s) : Sp ts (dropB s) ∨ ∃ c t ts', ts = (c :: t) :: ts' ∧ c = 32 ∨ ts = [] :: ts' := by
 cases h with
 | nil b hb =>
  left
  have := Fw (s := []) hb
  rw [List.append_nil] at this; rw [this]; exact .nil [] (by simp)
 | cons b t s' ts' hb h' =>
  cases t with
  | nil => exact .inr ⟨0, [], ts', .inr rfl⟩
  | cons c t =>
   by_cases hc : c = 32
   ·exact .inr ⟨c, t, ts', .inl ⟨rfl, hc⟩⟩
   ·left
    rw [Fw hb]
    show Sp _ (dropB (c :: (t ++ s')))
    rw [GI hc]
    exact .cons [] (c :: t) s' ts' (by simp) h'
def front (ts : List (List UInt8)) : Prop := ∀ t ts', ts = t :: ts' → ∃ c u, t = c :: u ∧ isI c = false ∧ c ≠ 32
theorem Sp.drop' {s : List UInt8} {ts : List (List UInt8)} (hf : front ts) (h : Sp ts s) : Sp ts (dropB s) := by
 rcases h.drop with h | ⟨c, t, ts', ⟨rfl, rfl⟩ | rfl⟩
 ·exact h
 ·obtain ⟨c', u, e, _, h2⟩ := hf _ _ rfl
  cases e; exact absurd rfl h2
 ·obtain ⟨c', u, e, _, h2⟩ := hf _ _ rfl
  cases e
theorem Sp.head {s : List UInt8} {ts : List (List UInt8)} (hf : front ts) (h : Sp ts s) : ∀ c t, s = c :: t → isI c = false := by
 intro c t e
 cases h with
 | nil b hb => subst e; have := hb c (by simp); subst this; rfl
 | cons b t' s' ts' hb h' =>
  cases b with
  | cons b0 b =>
   have : b0 = c := by simpa using congrArg List.head? e
   subst this
   have := hb b0 (by simp); subst this; rfl
  | nil =>
   obtain ⟨c', u, e', h1, _⟩ := hf _ _ rfl
   subst e'
   have : c' = c := by simpa using congrArg List.head? e
   subst this; exact h1
def nsp : X3 → Nat
 | .neg x => nsp x + 1
 | .bin _ x y => max (nsp x) (nsp y) + 1
 | _ => 0
def isBin : X3 → Bool
 | .bin _ _ _ => true
 | _ => false
def tk : X3 → List (List UInt8)
 | .num n => [Lib.decDigits n.toNat]
 | .nm s => [bl s]
 | .here => [[46]]
 | .neg x => [45] :: (if isBin x then [40] :: (tk x ++ [[41]]) else tk x)
 | .bin k x y => (if isBin x then [40] :: (tk x ++ [[41]]) else tk x) ++ (sg k :: (if isBin y then [40] :: (tk y ++ [[41]]) else tk y))
def tkp (x : X3) : List (List UInt8) := if isBin x then [40] :: (tk x ++ [[41]]) else tk x
theorem tk_bin (k : Nat) (x y : X3) : tk (.bin k x y) = tkp x ++ (sg k :: tkp y) := rfl
def okW (x : X3) : Prop := x.ok fun s => wordB (bl s) = true
theorem QiT {u : Nat} : (Lib.decDigits u).all isD = true ∧ Lib.decDigits u ≠ [] := by
 induction u using Nat.strongRecOn with
 | _ u ih =>
  rw [Lib.decDigits]
  split
  ·refine ⟨?_, by simp⟩
   have : ∀ v : Fin 10, isD (UInt8.ofNat (48 + v.val)) = true := by decide
   simp only [List.all_cons, List.all_nil, Bool.and_true]
   exact this ⟨u, by assumption⟩
  ·have := ih (u / 10) (by omega)
   refine ⟨?_, by simp⟩
   rw [List.all_append, this.1]
   have h2 : ∀ v : Fin 10, isD (UInt8.ofNat (48 + v.val)) = true := by decide
   simp only [List.all_cons, List.all_nil, Bool.and_true, Bool.true_and]
   exact h2 ⟨u % 10, by omega⟩
theorem QgF (base : Nat) (c : UInt8) : ∀ (l : List UInt8) (n : Nat), numv base (l ++ [c]) n = (numv base l n).bind fun m => if m * base + dg c ≥ 4294967296 then none else some (m * base + dg c)
 | [], n => rfl
 | b :: l, n => by
  simp only [List.cons_append, numv]
  split
  ·rfl
  ·exact QgF base c l _
theorem Qp7 {u : Nat} (h : u < 4294967296) : numv 10 (Lib.decDigits u) 0 = some u := by
 induction u using Nat.strongRecOn with
 | _ u ih =>
  have dv : ∀ v : Fin 10, dg (UInt8.ofNat (48 + v.val)) = v.val := by decide
  rw [Lib.decDigits]
  split
  ·rename_i hu
   have e := dv ⟨u, hu⟩
   simp only [numv, Nat.zero_mul, Nat.zero_add]
   simp only at e
   rw [e, if_neg (by omega)]
  ·rw [QgF, ih (u / 10) (by omega) (by omega)]
   have e := dv ⟨u % 10, by omega⟩
   simp only at e
   simp only [Option.bind_some, e]
   rw [if_neg (by omega)]; congr 1; omega
theorem Qp8 {u : Nat} (h : u < 4294967296) {r : List UInt8} (hr : ∀ c t, r = c :: t → isI c = false) : atomS (Lib.decDigits u ++ r) = some (.num u, r) := by
 obtain ⟨h1, h2⟩ := @QiT u
 have hrD : ∀ c t, r = c :: t → isD c = false := fun c t e => by
  have := hr c t e
  simp only [isI, Bool.or_eq_false_iff] at this; exact this.2
 obtain ⟨e1, e2⟩ := PP h1 hrD
 unfold atomS
 have hp : pre [48, 120] (Lib.decDigits u ++ r) = false := by
  unfold pre
  rw [decide_eq_false]
  intro e
  match hd : Lib.decDigits u, h2 with
  | [c], _ =>
   rw [hd] at e
   cases r with
   | nil => simp at e
   | cons b r =>
    simp at e
    have := hr b r rfl
    rw [e.2] at this; cases this
  | c :: b :: l, _ =>
   rw [hd] at e h1
   simp at e
   simp only [List.all_cons, Bool.and_eq_true] at h1
   have := h1.2.1
   rw [e.2] at this; cases this
 rw [hp, e1, e2]
 simp only [Bool.false_and, cond_false, decide_eq_false h2, Bool.not_false, cond_true]
 unfold tailA
 rw [Qp7 h]
 simp only
 have : r.takeWhile isI = [] := by
  cases r with
  | nil => rfl
  | cons b r => simp [List.takeWhile_cons, hr b r rfl]
 rw [if_pos this]
theorem SD {w : List UInt8} (h : wordB w = true) : ∃ c t, w = c :: t ∧ isI c = true ∧ isD c = false ∧ w.all isI = true := by
 match w, h with
 | c :: t, h =>
  have hw : wordB (c :: t) = (decide (t.length < 12) && (!isD c && (decide ((c :: t).takeWhile isI = c :: t) && (decide (c ≠ 114) || (decide (t = []) || !decide (t.takeWhile isD = t)))))) := rfl
  rw [hw] at h
  simp only [Bool.and_eq_true, Bool.not_eq_true', decide_eq_true_eq] at h
  have ha : (c :: t).all isI = true := by
   have := List.all_takeWhile (p := isI) (l := c :: t)
   rwa [h.2.2.1] at this
  refine ⟨c, t, rfl, ?_, h.2.1, ha⟩
  simp only [List.all_cons, Bool.and_eq_true] at ha; exact ha.1
theorem Qpc {w : List UInt8} (h : wordB w = true) {r : List UInt8} (hr : ∀ c t, r = c :: t → isI c = false) : atomS (w ++ r) = some (.nm (ba w), r) := by
 obtain ⟨c, t, rfl, hc, hd, ha⟩ := SD h
 obtain ⟨e1, e2⟩ := PP ha hr
 unfold atomS
 have hp : pre [48, 120] ((c :: t) ++ r) = false := by
  unfold pre
  rw [decide_eq_false]
  intro e
  simp at e
  rw [e.1] at hd; cases hd
 have hD : ((c :: t) ++ r).takeWhile isD = [] := by simp [List.takeWhile_cons, hd]
 rw [hp, hD, e1, e2, h]
 rfl
end Go.Ab
namespace Go.Ab
def lvlOf (k : Nat) : Nat := match k with
 | 9 => 0 | 8 => 1 | 10 => 2 | 11 => 2 | 5 => 3 | 6 => 3 | _ => 4
theorem QlI {k l : Nat} (hk : 5 ≤ k ∧ k ≤ 11) (hl : l < 5) (s : List UInt8) : kindS (lv l) (sg k ++ s) = if lvlOf k = l then some k else none := by
 have h1 : k = 5 ∨ k = 6 ∨ k = 7 ∨ k = 8 ∨ k = 9 ∨ k = 10 ∨ k = 11 := by omega
 have h2 : l = 0 ∨ l = 1 ∨ l = 2 ∨ l = 3 ∨ l = 4 := by omega
 rcases h1 with rfl | rfl | rfl | rfl | rfl | rfl | rfl <;> rcases h2 with rfl | rfl | rfl | rfl | rfl <;> simp [kindS, lv, sg, pre, lvlOf]
theorem QbN {l : Nat} (hl : l < 5) (s : List UInt8) : kindS (lv l) (41 :: s) = none ∧ kindS (lv l) [] = none := by
 have h2 : l = 0 ∨ l = 1 ∨ l = 2 ∨ l = 3 ∨ l = 4 := by omega
 rcases h2 with rfl | rfl | rfl | rfl | rfl <;> simp [kindS, lv, sg, pre]
def stop (l : Nat) (ts : List (List UInt8)) : Prop := ∀ s, Sp ts s → ∀ l', l ≤ l' → l' < 5 → kindS (lv l') (dropB s) = none
theorem QlJ (l : Nat) : stop l [] := fun s h l' _ h5 => by rw [h.nil_drop]; exact (QbN h5 []).2
theorem Qoi (l : Nat) (ts : List (List UInt8)) : stop l ([41] :: ts) := fun s h l' _ h5 => by
 obtain ⟨s', e, _⟩ := h.cons_drop (c := 41) (t := []) (by decide)
 rw [e]; exact (QbN h5 _).1
theorem QfD {k : Nat} (hk : 5 ≤ k ∧ k ≤ 11) : ∃ c t, sg k = c :: t ∧ isI c = false ∧ c ≠ 32 := by
 have h1 : k = 5 ∨ k = 6 ∨ k = 7 ∨ k = 8 ∨ k = 9 ∨ k = 10 ∨ k = 11 := by omega
 rcases h1 with rfl | rfl | rfl | rfl | rfl | rfl | rfl <;> exact ⟨_, _, rfl, by decide, by decide⟩
theorem Qnb {k : Nat} (hk : 5 ≤ k ∧ k ≤ 11) {ts : List (List UInt8)} {s : List UInt8} (h : Sp (sg k :: ts) s) : ∃ s', dropB s = sg k ++ s' ∧ Sp ts s' := by
 obtain ⟨c, t, e, _, h2⟩ := QfD hk
 rw [e] at h ⊢
 exact h.cons_drop h2
theorem Qq2 {k l : Nat} (hk : 5 ≤ k ∧ k ≤ 11) (hl : lvlOf k < l) (ts : List (List UInt8)) : stop l (sg k :: ts) := fun s h l' h1 h5 => by
 obtain ⟨s', e, _⟩ := Qnb hk h
 rw [e, QlI hk h5, if_neg (by omega)]
theorem QjH : front [] := fun t ts' e => by cases e
theorem QmL (ts : List (List UInt8)) : front ([41] :: ts) := fun t ts' e => by cases e; exact ⟨41, [], rfl, by decide, by decide⟩
theorem Qp9 {k : Nat} (hk : 5 ≤ k ∧ k ≤ 11) (ts : List (List UInt8)) : front (sg k :: ts) := fun t ts' e => by cases e; exact QfD hk
def ONE (x : X3) : Prop := ∀ (d : Int) (ts : List (List UInt8)) (s : List UInt8), front ts → 0 ≤ d → d + nsp x ≤ 12 → Sp (tkp x ++ ts) s → ∃ s', Sp ts s' ∧ QD (PS s d false) = some (x.t, PS s' d false)
theorem Qcy {l : Nat} (h : l < 5) {s : List UInt8} (hk : kindS (lv l) (dropB s) = none) (d : Int) (x : Qa) : PL l (PS s d false) x = some (x, PS (dropB s) d false) := by rw [PL_eq h, hk]
theorem QfE {x : X3} (hx : ONE x) : ∀ (g l : Nat), g + l = 5 → ∀ (d : Int) (ts : List (List UInt8)) (s : List UInt8), front ts → stop l ts → 0 ≤ d → d + nsp x ≤ 12 → Sp (tkp x ++ ts) s → ∃ s', Sp ts s' ∧ Qm (l : Int) (PS s d false) = some (x.t, PS s' d false)
 | 0, l, hl, d, ts, s, hf, hs, h0, h12, h => by
  obtain rfl : l = 5 := by omega
  obtain ⟨s', h1, h2⟩ := hx d ts s hf h0 h12 h
  exact ⟨s', h1, (two5 _).trans h2⟩
 | g + 1, l, hl, d, ts, s, hf, hs, h0, h12, h => by
  obtain ⟨s', h1, h2⟩ := QfE hx g (l + 1) (by omega) d ts s hf (fun s h l' h1 h5 => hs s h l' (by omega) h5) h0 h12 h
  refine ⟨dropB s', h1.drop' hf, ?_⟩
  rw [two_lt (by omega), h2]
  simp only [Option.bind_some]
  exact Qcy (by omega) (hs s' h1 l (by omega) (by omega)) d _
theorem bin_at {k : Nat} (hk : 5 ≤ k ∧ k ≤ 11) {x y : X3} (hx : ONE x) (hy : ONE y) : ∀ (g l : Nat), g + l = lvlOf k → ∀ (d : Int) (ts : List (List UInt8)) (s : List UInt8), front ts → stop l ts → 0 ≤ d → d + nsp x ≤ 12 → d + nsp y ≤ 12 →
  Sp (tk (.bin k x y) ++ ts) s → ∃ s', Sp ts s' ∧ Qm (l : Int) (PS s d false) = some ((X3.bin k x y).t, PS s' d false)
 | 0, l, hl, d, ts, s, hf, hs, h0, h1, h2, h => by
  have hl5 : l < 5 := by
   have : lvlOf k ≤ 4 := by unfold lvlOf; split <;> omega
   omega
  rw [tk_bin, List.append_assoc, List.cons_append] at h
  obtain ⟨s1, e1, e2⟩ := QfE hx (5 - (l + 1)) (l + 1) (by omega) d _ s (Qp9 hk _) (Qq2 hk (by omega) _) h0 h1 h
  obtain ⟨s2, e3, e4⟩ := Qnb hk e1
  obtain ⟨s3, e5, e6⟩ := QfE hy (5 - (l + 1)) (l + 1) (by omega) d ts s2 hf (fun s h l' h1 h5 => hs s h l' (by omega) h5) h0 h2 e4
  refine ⟨dropB s3, e5.drop' hf, ?_⟩
  rw [two_lt hl5, e2]
  simp only [Option.bind_some]
  rw [PL_eq hl5, e3, QlI hk hl5, if_pos (by omega)]
  simp only [List.drop_left, e6, Option.bind_some]
  exact Qcy hl5 (hs s3 e5 l (by omega) (by omega)) d _
 | g + 1, l, hl, d, ts, s, hf, hs, h0, h1, h2, h => by
  have hl5 : l < 5 := by
   have : lvlOf k ≤ 4 := by unfold lvlOf; split <;> omega
   omega
  obtain ⟨s', e1, e2⟩ := bin_at hk hx hy g (l + 1) (by omega) d ts s hf (fun s h l' h1 h5 => hs s h l' (by omega) h5) h0 h1 h2 h
  refine ⟨dropB s', e1.drop' hf, ?_⟩
  rw [two_lt hl5, e2]
  simp only [Option.bind_some]
  exact Qcy hl5 (hs s' e1 l (by omega) (by omega)) d _
theorem QfF {c : UInt8} {t : List UInt8} {ts : List (List UInt8)} {s : List UInt8} (h : Sp ((c :: t) :: ts) s) (hc : c ≠ 32) : ∃ s', dropB s = c :: (t ++ s') ∧ Sp ts s' := h.cons_drop hc
theorem F4 : ∀ x : X3, okW x → ONE x
 | .num n, hx, d, ts, s, hf, h0, h12, h => by
  have hx : 0 ≤ n ∧ n < 4294967296 := hx
  obtain ⟨u, rfl⟩ := Int.eq_ofNat_of_zero_le hx.1
  have h : Sp (Lib.decDigits u :: ts) s := h
  obtain ⟨d1, d2⟩ := @QiT u
  match hd : Lib.decDigits u, d2 with
  | c :: t, _ =>
   rw [hd] at h d1
   simp only [List.all_cons, Bool.and_eq_true] at d1
   have hc32 : c ≠ 32 := fun e => by rw [e] at d1; cases d1.1
   obtain ⟨s', e1, e2⟩ := h.cons_drop hc32
   have ea := Qp8 (u := u) (by omega) (r := s') (e2.head hf)
   rw [hd] at ea
   refine ⟨s', e2, ?_⟩
   have := Qhc (s := s) e1 (fun r e => by
     have : c = 40 := by simpa using congrArg List.head? e
     rw [this] at d1; cases d1.1) (fun r e => by
     have : c = 45 := by simpa using congrArg List.head? e
     rw [this] at d1; cases d1.1) (fun r e => by
     have : c = 46 := by simpa using congrArg List.head? e
     rw [this] at d1; cases d1.1) d
   rw [show c :: (t ++ s') = (c :: t) ++ s' from rfl, ea] at this
   exact this
 | .nm w, hx, d, ts, s, hf, h0, h12, h => by
  have hx : wordB (bl w) = true := hx
  have h : Sp (bl w :: ts) s := h
  obtain ⟨c, t, e0, hc, hd, ha⟩ := SD hx
  rw [e0] at h
  have hc32 : c ≠ 32 := fun e => by rw [e] at hc; cases hc
  obtain ⟨s', e1, e2⟩ := h.cons_drop hc32
  have ea := Qpc hx (r := s') (e2.head hf)
  rw [e0] at ea
  refine ⟨s', e2, ?_⟩
  have := Qhc (s := s) e1 (fun r e => by
    have : c = 40 := by simpa using congrArg List.head? e
    rw [this] at hc; cases hc) (fun r e => by
    have : c = 45 := by simpa using congrArg List.head? e
    rw [this] at hc; cases hc) (fun r e => by
    have : c = 46 := by simpa using congrArg List.head? e
    rw [this] at hc; cases hc) d
  rw [show c :: (t ++ s') = (c :: t) ++ s' from rfl, ea, ← e0, ba_bl] at this
  exact this
 | .here, hx, d, ts, s, hf, h0, h12, h => by
  obtain ⟨s', e1, e2⟩ := QfF (c := 46) (t := []) h (by decide)
  exact ⟨s', e2, Qna e1 d⟩
 | .neg x, hx, d, ts, s, hf, h0, h12, h => by
  have hx : okW x := hx
  have ih := F4 x hx
  have h : Sp ([45] :: (tkp x ++ ts)) s := h
  have hn : nsp (.neg x) = nsp x + 1 := rfl
  obtain ⟨s1, e1, e2⟩ := QfF (c := 45) (t := []) h (by decide)
  obtain ⟨s', e3, e4⟩ := ih (d + 1) ts s1 hf (by omega) (by omega) e2
  refine ⟨s', e3, ?_⟩
  have e1 : dropB s = 45 :: s1 := e1
  rw [Qfj e1]
  exact QlG h0 (by omega) s1 (o := some (x, s')) e4
 | .bin k x y, hx, d, ts, s, hf, h0, h12, h => by
  obtain ⟨hk1, hk2, hx1, hy1⟩ := hx
  have hx1 : okW x := hx1
  have hy1 : okW y := hy1
  have ihx := F4 x hx1
  have ihy := F4 y hy1
  have hn : nsp (.bin k x y) = max (nsp x) (nsp y) + 1 := rfl
  have h : Sp (([40] :: (tk (.bin k x y) ++ [[41]])) ++ ts) s := h
  rw [List.cons_append, List.append_assoc] at h
  obtain ⟨s1, e1, e2⟩ := QfF (c := 40) (t := []) h (by decide)
  have e2 : Sp (tk (.bin k x y) ++ ([41] :: ts)) s1 := e2
  have hm1 : nsp x ≤ max (nsp x) (nsp y) := Nat.le_max_left _ _
  have hm2 : nsp y ≤ max (nsp x) (nsp y) := Nat.le_max_right _ _
  obtain ⟨s2, e3, e4⟩ := bin_at ⟨hk1, hk2⟩ ihx ihy (lvlOf k) 0 (by omega) (d + 1) _ s1 (QmL ts) (Qoi 0 ts) (by omega) (by omega) (by omega) e2
  obtain ⟨s3, e5, e6⟩ := QfF (c := 41) (t := []) e3 (by decide)
  have e1 : dropB s = 40 :: s1 := e1
  have e5 : dropB s2 = 41 :: s3 := e5
  refine ⟨s3, e6, ?_⟩
  rw [Qhb e1]
  have := QjG h0 (by omega) s1 (o := some (.bin k x y, s2)) e4
  rw [show (some (X3.bin k x y, s2)).bind (fun xr => bif pre [41] (dropB xr.2) then some (xr.1, (dropB xr.2).drop 1) else none) = some (.bin k x y, s3) from by
   simp only [Option.bind_some, e5]
   rw [show pre [41] (41 :: s3) = true from by simp [pre]]; rfl] at this
  exact this
theorem Qpd {x : X3} (hx : okW x) (hd : nsp x ≤ 12) {s : List UInt8} (h : Sp (tk x) s) : Wm (ba s) = some (x.t, true) := by
 have key : ∃ s', Sp [] s' ∧ Qm 0 (PS s 0 false) = some (x.t, PS s' 0 false) := by
  cases hb : isBin x with
  | false =>
   have h : Sp (tkp x ++ []) s := by rw [List.append_nil]; unfold tkp; rw [hb]; exact h
   exact QfE (F4 x hx) 5 0 rfl 0 [] s QjH (QlJ 0) (by omega) (by omega) h
  | true =>
   match x, hb with
   | .bin k y z, _ =>
    obtain ⟨hk1, hk2, hx1, hy1⟩ := hx
    have hn : nsp (.bin k y z) = max (nsp y) (nsp z) + 1 := rfl
    have hm1 : nsp y ≤ max (nsp y) (nsp z) := Nat.le_max_left _ _
    have hm2 : nsp z ≤ max (nsp y) (nsp z) := Nat.le_max_right _ _
    exact bin_at ⟨hk1, hk2⟩ (F4 y hx1) (F4 z hy1) (lvlOf k) 0 (by omega) 0 [] s QjH (QlJ 0) (by omega) (by omega) (by omega) (by rw [List.append_nil]; exact h)
 obtain ⟨s', e1, e2⟩ := key
 rw [QlH s (o := some (x, s')) e2]
 simp only [e1.nil_drop, if_true]
end Go.Ab
namespace Go.Ab
theorem Qpe {s : ByteArray} (h : isNm s) : wordB (bl s) = true := by
 rcases h with rfl | rfl | rfl | rfl <;> decide
theorem ok_okW : ∀ {x : X3}, x.ok isNm → okW x
 | .num n, h => h
 | .nm s, h => Qpe h
 | .here, h => trivial
 | .neg x, h => ok_okW (x := x) h
 | .bin k x y, h => ⟨h.1, h.2.1, ok_okW h.2.2.1, ok_okW h.2.2.2⟩
theorem nsp_le : ∀ x : X3, nsp x ≤ x.d
 | .num n => Nat.le_refl _
 | .nm s => Nat.le_refl _
 | .here => Nat.le_refl _
 | .neg x => by have := nsp_le x; simp only [nsp, X3.d]; omega
 | .bin k x y => by have := nsp_le x; have := nsp_le y; simp only [nsp, X3.d]; omega
def tx : X3 → List UInt8
 | .num n => Lib.decDigits n.toNat
 | .nm s => bl s
 | .here => [46]
 | .neg x => 45 :: (if isBin x then 40 :: (tx x ++ [41]) else tx x)
 | .bin k x y => (if isBin x then 40 :: (tx x ++ [41]) else tx x) ++ (32 :: (sg k ++ (32 :: (if isBin y then 40 :: (tx y ++ [41]) else tx y))))
def txp (x : X3) : List UInt8 := if isBin x then 40 :: (tx x ++ [41]) else tx x
theorem tx_neg (x : X3) : tx (.neg x) = 45 :: txp x := rfl
theorem tx_bin (k : Nat) (x y : X3) : tx (.bin k x y) = txp x ++ (32 :: (sg k ++ (32 :: txp y))) := rfl
theorem Sp.tok (t : List UInt8) {ts : List (List UInt8)} {s : List UInt8} (h : Sp ts s) : Sp (t :: ts) (t ++ s) := .cons [] t s ts (by simp) h
theorem Sp.btok (t : List UInt8) {ts : List (List UInt8)} {s : List UInt8} (h : Sp ts s) : Sp (t :: ts) (32 :: (t ++ s)) := .cons [32] t s ts (by simp) h
theorem Sp.blank {t : List UInt8} {ts : List (List UInt8)} {s : List UInt8} (h : Sp (t :: ts) s) : Sp (t :: ts) (32 :: s) := by
 cases h with
 | cons b t s' ts' hb h' => exact .cons (32 :: b) t s' ts (by intro c hc; rcases List.mem_cons.1 hc with h | h; exact h; exact hb c h) h'
theorem tk_ne : ∀ x : X3, ∃ t ts, tk x = t :: ts
 | .num n => ⟨_, _, rfl⟩
 | .nm s => ⟨_, _, rfl⟩
 | .here => ⟨_, _, rfl⟩
 | .neg x => ⟨_, _, rfl⟩
 | .bin k x y => by
  obtain ⟨t, ts, h⟩ := tk_ne x
  rw [tk_bin]; unfold tkp
  split
  ·exact ⟨_, _, rfl⟩
  ·rw [h]; exact ⟨_, _, rfl⟩
theorem tkp_ne (x : X3) : ∃ t ts, tkp x = t :: ts := by
 unfold tkp; split
 ·exact ⟨_, _, rfl⟩
 ·exact tk_ne x
theorem tx_sp : ∀ (x : X3) {ts : List (List UInt8)} {s : List UInt8}, Sp ts s → Sp (tk x ++ ts) (tx x ++ s) ∧ Sp (tkp x ++ ts) (txp x ++ s) := by
 have part : ∀ (x : X3), (∀ {ts : List (List UInt8)} {s : List UInt8}, Sp ts s → Sp (tk x ++ ts) (tx x ++ s)) → ∀ {ts : List (List UInt8)} {s : List UInt8}, Sp ts s → Sp (tkp x ++ ts) (txp x ++ s) := by
  intro x hx ts s h
  unfold tkp txp
  split
  ·have := (hx (h.tok [41])).tok [40]
   simpa using this
  ·exact hx h
 intro x
 induction x with
 | num n => intro ts s h; exact ⟨h.tok _, h.tok _⟩
 | nm w => intro ts s h; exact ⟨h.tok _, h.tok _⟩
 | here => intro ts s h; exact ⟨h.tok _, h.tok _⟩
 | neg x ih =>
  intro ts s h
  have := ((ih h).2).tok [45]
  exact ⟨this, this⟩
 | bin k x y ihx ihy =>
  have key : ∀ {ts : List (List UInt8)} {s : List UInt8}, Sp ts s → Sp (tk (.bin k x y) ++ ts) (tx (.bin k x y) ++ s) := by
   intro ts s h
   have h1 := (ihy h).2
   obtain ⟨t, ts', e⟩ := tkp_ne y
   rw [e] at h1
   have h2 := (ihx (h1.blank.btok (sg k))).2
   rw [tk_bin, tx_bin, e]
   simpa using h2
  intro ts s h
  exact ⟨key h, part _ key h⟩
theorem tx_tk (x : X3) : Sp (tk x) (tx x) := by
 have := (tx_sp x (.nil [] (by simp))).1
 simpa using this
theorem EB : ∀ (g u : Nat), u < 10 ^ g → 0 < g → (Lib.decDigits u).length ≤ g
 | 0, u, h, h0 => by omega
 | g + 1, u, h, h0 => by
  rw [Lib.decDigits]
  split
  ·simp
  ·rename_i hu
   cases g with
   | zero => omega
   | succ g =>
    have := EB (g + 1) (u / 10) (by rw [Nat.pow_succ] at h; omega) (by omega)
    simp; omega
theorem nm_len {s : ByteArray} (h : wordB (bl s) = true) : (bl s).length ≤ 12 := by
 match hb : bl s, h with
 | c :: t, h =>
  have hw : wordB (c :: t) = (decide (t.length < 12) && (!isD c && (decide ((c :: t).takeWhile isI = c :: t) && (decide (c ≠ 114) || (decide (t = []) || !decide (t.takeWhile isD = t)))))) := rfl
  rw [hw] at h
  simp only [Bool.and_eq_true, decide_eq_true_eq] at h
  simp only [List.length_cons]; omega
theorem tx_len : ∀ (x : X3), okW x → (tx x).length + 8 ≤ 20 * 2 ^ x.d ∧ (txp x).length + 6 ≤ 20 * 2 ^ x.d := by
 have part : ∀ x : X3, (tx x).length + 8 ≤ 20 * 2 ^ x.d → (txp x).length + 6 ≤ 20 * 2 ^ x.d := by
  intro x h
  unfold txp; split
  ·simp; omega
  ·omega
 intro x hx
 induction x with
 | num n =>
  have hx : 0 ≤ n ∧ n < 4294967296 := hx
  have := EB 10 n.toNat (by simp; omega) (by omega)
  have e : (tx (.num n)).length = (Lib.decDigits n.toNat).length := rfl
  have : (tx (.num n)).length + 8 ≤ 20 * 2 ^ (X3.num n).d := by rw [e]; simp only [X3.d, Nat.pow_zero]; omega
  exact ⟨this, part _ this⟩
 | nm s =>
  have := nm_len (s := s) hx
  have e : (tx (.nm s)).length = (bl s).length := rfl
  have : (tx (.nm s)).length + 8 ≤ 20 * 2 ^ (X3.nm s).d := by rw [e]; simp only [X3.d, Nat.pow_zero]; omega
  exact ⟨this, part _ this⟩
 | here => exact ⟨by decide, by decide⟩
 | neg x ih =>
  have ih := ih hx
  have : (tx (.neg x)).length + 8 ≤ 20 * 2 ^ (X3.neg x).d := by
   rw [tx_neg]; simp only [List.length_cons, X3.d, Nat.pow_succ]
   have : 1 ≤ 2 ^ x.d := Nat.one_le_two_pow
   omega
  exact ⟨this, part _ this⟩
 | bin k x y ihx ihy =>
  have h1 := ihx hx.2.2.1
  have h2 := ihy hx.2.2.2
  have hs : (sg k).length ≤ 2 := by unfold sg; split <;> simp
  have : (tx (.bin k x y)).length + 8 ≤ 20 * 2 ^ (X3.bin k x y).d := by
   rw [tx_bin]; simp only [List.length_append, List.length_cons, X3.d, Nat.pow_succ]
   have e1 : 2 ^ x.d ≤ 2 ^ max x.d y.d := Nat.pow_le_pow_right (by decide) (Nat.le_max_left _ _)
   have e2 : 2 ^ y.d ≤ 2 ^ max x.d y.d := Nat.pow_le_pow_right (by decide) (Nat.le_max_right _ _)
   omega
  exact ⟨this, part _ this⟩
theorem ZM {n : Nat} (h : n ≤ 1000000000) : decide (((n : Nat) : Int) ≤ IntKind.i64.max) = true := decide_eq_true (by rw [show IntKind.i64.max = 9223372036854775807 from by decide]; omega)
theorem guardS (a b : List UInt8) (h : a.length + b.length ≤ 1000000000) : decide ((((ba a).size + (ba b).size : Nat) : Int) ≤ IntKind.i64.max) = true := by rw [QF, QF]; exact ZM h
theorem SE {k : Nat} (h : 5 ≤ k ∧ k ≤ 11) : Yn (k : Int) = some (ba (sg k), (lvlOf k : Int)) := by
 rw [Yn.eq]; unfold Qe1
 have h1 : k = 5 ∨ k = 6 ∨ k = 7 ∨ k = 8 ∨ k = 9 ∨ k = 10 ∨ k = 11 := by omega
 rcases h1 with rfl | rfl | rfl | rfl | rfl | rfl | rfl <;> rfl
theorem u8_in {n : Int} (h1 : 0 ≤ n) (h2 : n ≤ 255) : IntKind.u8.wrap n = n := by
 have e : n % 256 = n := Int.emod_eq_of_lt h1 (by omega)
 unfold IntKind.wrap
 simp [IntKind.bits, IntKind.signed, e]
theorem Fx {u : Nat} (h : u < 9223372036854775808) : Jk (u : Int) = some (ba (Lib.decDigits u)) := by
 induction u using Nat.strongRecOn with
 | _ u ih =>
  rw [Jk.eq]; unfold Y8
  have c1 : decide ((u : Int) < 0) = false := decide_eq_false (by omega)
  rw [c1, cond_false, Lib.decDigits]
  by_cases hu : u < 10
  ·have c2 : decide ((u : Int) ≥ 10) = false := decide_eq_false (by omega)
   rw [c2, cond_false, dif_pos hu, w64_in (by omega) (by omega), u8_in (by omega) (by omega)]
   simp only [Option.bind_some, listB, List.map_cons, List.map_nil]
   rw [show ((48 : Int) + (u : Int)).toNat = 48 + u from by omega]; rfl
  ·have c2 : decide ((u : Int) ≥ 10) = true := decide_eq_true (by omega)
   have e1 : w64 (Int.tdiv (u : Int) 10) = ((u / 10 : Nat) : Int) := by
    rw [show Int.tdiv (u : Int) 10 = ((u / 10 : Nat) : Int) from by rw [show (10 : Int) = ((10 : Nat) : Int) from rfl, ← Int.ofNat_tdiv]]
    exact w64_in (by omega) (by omega)
   have e2 : Int.tmod (u : Int) 10 = ((u % 10 : Nat) : Int) := by rw [show (10 : Int) = ((10 : Nat) : Int) from rfl, ← Int.ofNat_tmod]
   have hl1 := EB 19 (u / 10) (by simp; omega) (by omega)
   have hl2 := EB 19 (u % 10) (by simp; omega) (by omega)
   rw [c2, cond_true, dif_neg hu, e1, e2, ih (u / 10) (by omega) (by omega)]
   have e3 : Lib.decDigits (u % 10) = [UInt8.ofNat (48 + u % 10)] := by rw [Lib.decDigits, dif_pos (by omega)]
   simp only [Option.bind_some]
   rw [ih (u % 10) (by omega) (by omega)]
   simp only [Option.bind_some, JB, QF]
   rw [ZM (by omega), cond_true, e3]
theorem Qoj : ∀ (x : X3), okW x → x.d ≤ 12 → Uf x.t = some (ba (tx x)) ∧ UA x.t = some (ba (txp x)) := by
 have part : ∀ x : X3, okW x → x.d ≤ 12 → Uf x.t = some (ba (tx x)) → UA x.t = some (ba (txp x)) := by
  intro x hx hd h
  rw [UA.eq]; unfold Yo
  have hl := (tx_len x hx).1
  have hp : 2 ^ x.d ≤ 2 ^ 12 := Nat.pow_le_pow_right (by decide) hd
  have hp2 : (2 : Nat) ^ 12 = 4096 := rfl
  simp only [h, Option.bind_some]
  cases x with
  | bin k y z =>
   have c1 : ((((X3.bin k y z).t.L.length : Nat) : Int) == 2) = true := rfl
   rw [c1, cond_true, show h_28 = ba [40] from rfl, show h_29 = ba [41] from rfl]
   simp only [JB, QF]
   rw [ZM (by simp; omega), cond_true, ZM (by simp; omega), cond_true]; rfl
  | _ => simp [X3.t, txp, isBin]
 intro x
 induction x with
 | num n =>
  intro hx hd
  have hx : 0 ≤ n ∧ n < 4294967296 := hx
  have : Uf (X3.num n).t = some (ba (tx (.num n))) := by
   obtain ⟨u, rfl⟩ := Int.eq_ofNat_of_zero_le hx.1
   have hL : (X3.num (u : Int)).t = ⟨1, (u : Int), s_, []⟩ := rfl
   have hT : tx (.num (u : Int)) = Lib.decDigits (u : Int).toNat := rfl
   have c3 : ((1 : Int) == 1) = true := rfl
   rw [Uf.eq]; unfold YZ
   rw [hL, hT]
   simp only [c3, cond_true, Fx (u := u) (by omega), Option.bind_some, Int.toNat_natCast]
  exact ⟨this, part _ hx hd this⟩
 | nm s =>
  intro hx hd
  have : Uf (X3.nm s).t = some (ba (tx (.nm s))) := by
   rw [Uf.eq]; unfold YZ
   show some s = some (ba (bl s)); rw [ba_bl]
  exact ⟨this, part _ hx hd this⟩
 | here =>
  intro hx hd
  have : Uf X3.here.t = some (ba (tx .here)) := by rw [Uf.eq]; rfl
  exact ⟨this, part _ hx hd this⟩
 | neg x ih =>
  intro hx hd
  have hx' : okW x := hx
  have hd' : x.d + 1 ≤ 12 := hd
  have ih := ih hx' (by omega)
  have hl := (tx_len x hx').2
  have hp : 2 ^ x.d ≤ 2 ^ 12 := Nat.pow_le_pow_right (by decide) (by omega)
  have hp2 : (2 : Nat) ^ 12 = 4096 := rfl
  have : Uf (X3.neg x).t = some (ba (tx (.neg x))) := by
   rw [Uf.eq]; unfold YZ
   have hL : (X3.neg x).t = ⟨4, 0, s_, [x.t]⟩ := rfl
   have g0 : ([x.t] : List Qa)[Int.toNat 0]? = some x.t := rfl
   have k1 : ((4 : Int) == 1) = false := rfl
   have k2 : ((4 : Int) == 2) = false := rfl
   have k3 : ((4 : Int) == 3) = false := rfl
   have k4 : ((4 : Int) == 4) = true := rfl
   rw [hL, k1, cond_false, k2, cond_false, k3, cond_false, k4, cond_true, g0]
   simp only [Option.bind_some, ih.2, show h_2d = ba [45] from rfl, JB, QF]
   rw [ZM (by simp; omega)]; rfl
  exact ⟨this, part _ hx hd this⟩
 | bin k x y ihx ihy =>
  intro hx hd
  obtain ⟨hk1, hk2, hx', hy'⟩ := id hx
  have hd' : max x.d y.d + 1 ≤ 12 := hd
  have e1 : x.d ≤ max x.d y.d := Nat.le_max_left _ _
  have e2 : y.d ≤ max x.d y.d := Nat.le_max_right _ _
  have ihx := ihx hx' (by omega)
  have ihy := ihy hy' (by omega)
  have hl := (tx_len x hx').2
  have hl2 := (tx_len y hy').2
  have hp : 2 ^ x.d ≤ 2 ^ 12 := Nat.pow_le_pow_right (by decide) (by omega)
  have hp' : 2 ^ y.d ≤ 2 ^ 12 := Nat.pow_le_pow_right (by decide) (by omega)
  have hp2 : (2 : Nat) ^ 12 = 4096 := rfl
  have hs : (sg k).length ≤ 2 := by unfold sg; split <;> simp
  have : Uf (X3.bin k x y).t = some (ba (tx (.bin k x y))) := by
   rw [Uf.eq]; unfold YZ
   have hL : (X3.bin k x y).t = ⟨k, 0, s_, [x.t, y.t]⟩ := rfl
   have k1 : ((k : Int) == 1) = false := by rw [beq_eq_false_iff_ne]; omega
   have k2 : ((k : Int) == 2) = false := by rw [beq_eq_false_iff_ne]; omega
   have k3 : ((k : Int) == 3) = false := by rw [beq_eq_false_iff_ne]; omega
   have k4 : ((k : Int) == 4) = false := by rw [beq_eq_false_iff_ne]; omega
   have g0 : ([x.t, y.t] : List Qa)[Int.toNat 0]? = some x.t := rfl
   have g1 : ([x.t, y.t] : List Qa)[Int.toNat 1]? = some y.t := rfl
   rw [hL, k1, cond_false, k2, cond_false, k3, cond_false, k4, cond_false, SE ⟨hk1, hk2⟩, g0, g1, Option.bind_some, Option.bind_some, ihx.2, Option.bind_some, show h_20 = ba [32] from rfl]
   rw [guardS (txp x) [32] (by simp; omega), cond_true, JB (txp x) [32], guardS (txp x ++ [32]) (sg k) (by simp; omega), cond_true, JB (txp x ++ [32]) (sg k)]
   rw [guardS (txp x ++ [32] ++ sg k) [32] (by simp; omega), cond_true, Option.bind_some, ihy.2, Option.bind_some, JB (txp x ++ [32] ++ sg k) [32]]
   rw [guardS (txp x ++ [32] ++ sg k ++ [32]) (txp y) (by simp; omega), cond_true, JB, tx_bin]
   simp only [List.append_assoc, List.singleton_append, List.cons_append, List.nil_append]
  exact ⟨this, part _ hx hd this⟩
end Go.Ab
namespace Go.Ab
theorem Qpf : ∀ x : X3, J3 x.t x.t = some true := by
 have head : ∀ e : Qa, Jr ⟨0, e, e⟩ = some (.inr ()) → J3 e e = some true := by
  intro e h
  rw [J3.eq]; unfold Gv
  have h1 : (e.Kind != e.Kind) = false := by simp
  have h2 : (e.N != e.N) = false := by simp
  have h3 : eqS e.Name e.Name = true := Vq.2 rfl
  have h4 : ((((e.L.length) : Nat) : Int) != (((e.L.length) : Nat) : Int)) = false := by simp
  rw [h1, h2, h3, h4, h]; rfl
 intro x
 induction x with
 | num n => apply head; rw [Jr.eq]; rfl
 | nm s => apply head; rw [Jr.eq]; rfl
 | here => apply head; rw [Jr.eq]; rfl
 | neg x ih =>
  apply head
  have g0 : (X3.neg x).t.L[Int.toNat 0]? = some x.t := rfl
  have e1 : Jr ⟨1, (X3.neg x).t, (X3.neg x).t⟩ = some (.inr ()) := by rw [Jr.eq]; rfl
  rw [Jr.eq]; unfold Xn
  have c1 : decide ((0 : Int) < (((X3.neg x).t.L.length : Nat) : Int)) = true := rfl
  have c2 : decide ((0 : Int) ≤ 0) = true := rfl
  have c3 : w64 (0 + 1) = 1 := by decide
  rw [c1, cond_true, c2, cond_true, g0, Option.bind_some, Option.bind_some, ih, Option.bind_some, c3]
  exact e1
 | bin k x y ihx ihy =>
  apply head
  have g0 : (X3.bin k x y).t.L[Int.toNat 0]? = some x.t := rfl
  have g1 : (X3.bin k x y).t.L[Int.toNat 1]? = some y.t := rfl
  have e2 : Jr ⟨2, (X3.bin k x y).t, (X3.bin k x y).t⟩ = some (.inr ()) := by rw [Jr.eq]; rfl
  have e1 : Jr ⟨1, (X3.bin k x y).t, (X3.bin k x y).t⟩ = some (.inr ()) := by
   rw [Jr.eq]; unfold Xn
   have c1 : decide ((1 : Int) < (((X3.bin k x y).t.L.length : Nat) : Int)) = true := rfl
   have c2 : decide ((0 : Int) ≤ 1) = true := rfl
   have c3 : w64 (1 + 1) = 2 := by decide
   rw [c1, cond_true, c2, cond_true, g1, Option.bind_some, Option.bind_some, ihy, Option.bind_some, c3]
   exact e2
  rw [Jr.eq]; unfold Xn
  have c1 : decide ((0 : Int) < (((X3.bin k x y).t.L.length : Nat) : Int)) = true := rfl
  have c2 : decide ((0 : Int) ≤ 0) = true := rfl
  have c3 : w64 (0 + 1) = 1 := by decide
  rw [c1, cond_true, c2, cond_true, g0, Option.bind_some, Option.bind_some, ihx, Option.bind_some, c3]
  exact e1
end Go.Ab
namespace Go.Ab
def vl (base : Nat) : List UInt8 → Nat → Nat
 | [], n => n
 | b :: l, n => vl base l (n * base + dg b)
def hd (v : Nat) : UInt8 := if v < 10 then UInt8.ofNat (48 + v) else UInt8.ofNat (87 + v)
end Go.Ab
namespace Go.Ab
theorem QgG (w : List UInt8) (f : Bool) (i : Nat) (hi : i < w.length) (hw : w.length ≤ 100) : Zi ⟨ba w, f, i⟩ =
  some (bif !isS w[i] && (decide (i = 0) || !isD w[i]) then .inr (.inl false) else .inl ⟨ba w, bif decide (0 < i) && !isD w[i] then false else f, (i + 1 : Nat)⟩) := by
 have hg : (ba w).data.getD (Int.toNat (i : Int)) 0 = w[i] := by rw [YN, Int.toNat_natCast]; simp [hi]
 have c1 : decide ((i : Int) < (((ba w).size : Nat) : Int)) = true := decide_eq_true (by rw [QF]; omega)
 have c2 : decide (0 ≤ (i : Int) ∧ (i : Int) < (((ba w).size : Nat) : Int)) = true := decide_eq_true (by rw [QF]; omega)
 unfold Zi
 simp only
 rw [c1, cond_true, c2, cond_true, hg]
 generalize w[i] = c
 have hS : isS c = (decide ((c.toNat : Int) ≥ 97) && decide ((c.toNat : Int) ≤ 122) || !((c.toNat : Int) != 95)) := by
  have e1 : decide ((c.toNat : Int) ≥ 97) = decide (97 ≤ c.toNat) := decide_eq_decide.2 (by omega)
  have e2 : decide ((c.toNat : Int) ≤ 122) = decide (c.toNat ≤ 122) := decide_eq_decide.2 (by omega)
  have e3 : (!((c.toNat : Int) != 95)) = decide (c.toNat = 95) := by
   rw [Bool.eq_iff_iff]; simp; omega
  unfold isS; rw [e1, e2, e3, Bool.decide_or, Bool.decide_and]
 have hD : isD c = (decide ((c.toNat : Int) ≥ 48) && decide ((c.toNat : Int) ≤ 57)) := by
  have e1 : decide ((c.toNat : Int) ≥ 48) = decide (48 ≤ c.toNat) := decide_eq_decide.2 (by omega)
  have e2 : decide ((c.toNat : Int) ≤ 57) = decide (c.toNat ≤ 57) := decide_eq_decide.2 (by omega)
  unfold isD; rw [e1, e2, Bool.decide_and]
 have h0 : ((i : Int) == 0) = decide (i = 0) := by rw [Bool.eq_iff_iff, beq_iff_eq, decide_eq_true_iff]; omega
 have hp : decide ((i : Int) > 0) = decide (0 < i) := decide_eq_decide.2 (by omega)
 rw [hS, hD, h0, hp, w64_in (n := (i : Int) + 1) (by omega) (by omega)]
 have hip : decide (0 < i) = !decide (i = 0) := by
  by_cases h : i = 0
  ·rw [decide_eq_true h, decide_eq_false (by omega)]; rfl
  ·rw [decide_eq_false h, decide_eq_true (by omega)]; rfl
 rw [hip]
 cases decide ((c.toNat : Int) ≥ 48) <;> cases decide ((c.toNat : Int) ≥ 97) <;> cases decide ((c.toNat : Int) ≤ 122) <;> cases ((c.toNat : Int) != 95) <;> cases decide (i = 0) <;> cases decide ((c.toNat : Int) ≤ 57) <;> rfl
theorem Qc8 (w : List UInt8) (hw : w.length ≤ 100) : ∀ (g i : Nat) (f : Bool), g + i = w.length → 1 ≤ i → Vw ⟨ba w, f, i⟩ = some (bif (w.drop i).all isI then .inr (f && (w.drop i).all isD) else .inl false)
 | 0, i, f, hg, h1 => by
  rw [Vw.eq]
  have c1 : decide ((i : Int) < (((ba w).size : Nat) : Int)) = false := decide_eq_false (by rw [QF]; omega)
  unfold Zi
  simp only
  rw [c1, List.drop_eq_nil_of_le (by omega)]
  simp
 | g + 1, i, f, hg, h1 => by
  have hi : i < w.length := by omega
  rw [Vw.eq, QgG w f i hi hw, List.drop_eq_getElem_cons hi, Option.bind_some]
  have hi0 : decide (i = 0) = false := decide_eq_false (by omega)
  have hip : decide (0 < i) = true := decide_eq_true (by omega)
  rw [hi0, hip]
  simp only [List.all_cons]
  have hsd := @Qm6 w[i]
  cases hD : isD w[i] with
  | true =>
   have hI : isI w[i] = true := by rw [QfB, hD, Bool.or_true]
   rw [hD, hI] at hsd
   rw [hsd, hI]
   simp only [Bool.not_true, Bool.and_false, Bool.or_false, Bool.not_false, Bool.true_and, cond_false, Sum.elim_inl, Bool.and_true, Bool.or_true]
   exact Qc8 w hw g (i + 1) f (by omega) (by omega)
  | false =>
   rw [hD] at hsd
   simp only [Bool.not_false, Bool.and_true] at hsd
   rw [hsd]
   cases hI : isI w[i] with
   | true =>
    simp only [Bool.not_true, Bool.false_and, cond_false, Bool.not_false, Bool.and_true, cond_true, Sum.elim_inl, Bool.true_and]
    rw [Qc8 w hw g (i + 1) false (by omega) (by omega)]
    simp
   | false => simp
theorem Qok (w : List UInt8) (hw : w.length ≤ 1000000000) : ZR (ba w) = some (wordB w) := by
 rw [ZR.eq]; unfold Qew
 rw [QF]
 cases w with
 | nil => rfl
 | cons c t =>
  have c1 : decide ((((c :: t).length : Nat) : Int) < 1) = false := decide_eq_false (by simp only [List.length_cons]; omega)
  have hwb : wordB (c :: t) = (decide (t.length < 12) && (!isD c && (decide ((c :: t).takeWhile isI = c :: t) && (decide (c ≠ 114) || (decide (t = []) || !decide (t.takeWhile isD = t)))))) := rfl
  rw [c1, cond_false, hwb, Qc6, Qc6]
  by_cases hl : t.length < 12
  ·have c2 : decide ((((c :: t).length : Nat) : Int) > 12) = false := decide_eq_false (by simp only [List.length_cons]; omega)
   have c3 : decide (0 ≤ (0 : Int) ∧ (0 : Int) < (((c :: t).length : Nat) : Int)) = true := decide_eq_true (by simp only [List.length_cons]; omega)
   have hg : (ba (c :: t)).data.getD (Int.toNat 0) 0 = c := by rw [YN]; rfl
   rw [c2, cond_false, c3, cond_true, hg, decide_eq_true hl]
   have h100 : (c :: t).length ≤ 100 := by simp only [List.length_cons]; omega
   have first : ∀ f : Bool, Vw ⟨ba (c :: t), f, 0⟩ = some (bif isI c && !isD c then (bif t.all isI then .inr (f && t.all isD) else .inl false) else .inl false) := by
    intro f
    have hr := QgG (c :: t) f 0 (by simp) h100
    have hr : Zi ⟨ba (c :: t), f, 0⟩ = _ := hr
    rw [Vw.eq, hr, Option.bind_some]
    simp only [List.getElem_cons_zero, decide_true, Bool.true_or, Bool.and_true, Nat.lt_irrefl, decide_false, Bool.false_and, cond_false]
    rw [Qm6]
    cases isI c && !isD c with
    | false => rfl
    | true =>
     simp only [Bool.not_true, cond_false, Sum.elim_inl, cond_true]
     exact Qc8 (c :: t) h100 t.length 1 f (by simp) (by omega)
   have c4 : ((c.toNat : Int) == 114) = !decide (c ≠ 114) := by
    by_cases h : c = 114
    ·subst h; rfl
    ·have : ((c.toNat : Int) == 114) = false := by
      rw [beq_eq_false_iff_ne]; intro e; exact h (UInt8.toNat_inj.1 (by have : (114 : UInt8).toNat = 114 := rfl; omega))
     rw [this, decide_eq_true h]; rfl
   have c5 : decide ((((c :: t).length : Nat) : Int) > 1) = !decide (t = []) := by
    cases t with
    | nil => rfl
    | cons b t =>
     have e1 : decide ((((c :: b :: t).length : Nat) : Int) > 1) = true := decide_eq_true (by simp only [List.length_cons]; omega)
     rw [e1, decide_eq_false (List.cons_ne_nil b t)]; rfl
   rw [first, first, c4, c5, List.all_cons]
   cases isI c <;> cases isD c <;> cases t.all isI <;> cases t.all isD <;> cases decide (c ≠ 114) <;> cases decide (t = []) <;> rfl
  ·have c2 : decide ((((c :: t).length : Nat) : Int) > 12) = true := decide_eq_true (by simp only [List.length_cons]; omega)
   rw [c2, decide_eq_false hl]; rfl
end Go.Ab
namespace Go.Ab
abbrev RS (l s : List UInt8) (d : Int) (b : Bool) : Qe := ⟨ba l, ((l.length - s.length : Nat) : Int), d, b⟩
theorem QfG {l s : List UInt8} {c : UInt8} {t : List UInt8} (h : s <:+ l) (e : s = c :: t) : (ba l).data.getD (Int.toNat ((l.length - s.length : Nat) : Int)) 0 = c ∧ l.length - s.length < l.length ∧ l.length - t.length = l.length - s.length + 1 ∧ t <:+ l := by
 obtain ⟨q, rfl⟩ := h
 subst e
 refine ⟨?_, by simp, by simp; omega, ⟨q ++ [c], by simp⟩⟩
 rw [YN, Int.toNat_natCast]
 simp
theorem QfH {l : List UInt8} (hl : l.length ≤ 1000000000) (d : Int) (b : Bool) : ∀ s, s <:+ l → UR (RS l s d b) = some (RS l (dropB s) d b) := by
 have loop : ∀ s, s <:+ l → UH (RS l s d b) = some (RS l (dropB s) d b) := by
  intro s
  induction s with
  | nil =>
   intro hs
   rw [UH.eq]; unfold YC
   have c1 : decide (((l.length - ([] : List UInt8).length : Nat) : Int) < (((ba l).size : Nat) : Int)) = false := decide_eq_false (by rw [QF]; simp)
   simp only
   rw [c1]; rfl
  | cons c t ih =>
   intro hs
   obtain ⟨h1, h2, h3, h4⟩ := QfG hs rfl
   have c1 : decide (((l.length - (c :: t).length : Nat) : Int) < (((ba l).size : Nat) : Int)) = true := decide_eq_true (by rw [QF]; omega)
   have c2 : decide (0 ≤ ((l.length - (c :: t).length : Nat) : Int) ∧ ((l.length - (c :: t).length : Nat) : Int) < (((ba l).size : Nat) : Int)) = true := decide_eq_true (by rw [QF]; omega)
   rw [UH.eq]; unfold YC
   simp only
   rw [c1, cond_true, c2, cond_true, h1]
   by_cases hc : c = 32
   ·have c3 : ((c.toNat : Int) == 32) = true := by subst hc; rfl
    rw [c3, cond_true, w64_in (by omega) (by omega)]
    simp only [Option.bind_some, Sum.elim_inl]
    have e : (⟨ba l, ((l.length - (c :: t).length : Nat) : Int) + 1, d, b⟩ : Qe) = RS l t d b := by
     rw [show ((l.length - (c :: t).length : Nat) : Int) + 1 = ((l.length - t.length : Nat) : Int) from by rw [h3]; rfl]
    rw [e, ih h4]
    subst hc; rfl
   ·have c3 : ((c.toNat : Int) == 32) = false := by
     rw [beq_eq_false_iff_ne]; intro e; exact hc (UInt8.toNat_inj.1 (by have : (32 : UInt8).toNat = 32 := rfl; omega))
    rw [c3, cond_false, GI hc]; rfl
 intro s hs
 rw [UR.eq]; unfold Em
 rw [loop s hs]; rfl
theorem Yi (s : List UInt8) : dropB s <:+ s := List.dropWhile_suffix _
theorem is_eq {l : List UInt8} (hl : l.length ≤ 1000000000) (a : List UInt8) (ha : a.length ≤ 100) (s : List UInt8) (hs : s <:+ l) (d : Int) (b : Bool) :
  Uk (ba a) (RS l s d b) = some (bif pre a (dropB s) then (true, RS l ((dropB s).drop a.length) d b) else (false, RS l (dropB s) d b)) := by
 rw [Uk.eq]; unfold F0
 rw [QfH hl d b s hs, Option.bind_some]
 have hs2 : dropB s <:+ l := (Yi s).trans hs
 generalize dropB s = t at hs2
 obtain ⟨q, hq⟩ := hs2
 have hlen : l.length = q.length + t.length := by rw [← hq, List.length_append]
 have hP : l.length - t.length = q.length := by omega
 simp only [QF]
 rw [hP, w64_in (n := (q.length : Int) + (a.length : Int)) (by omega) (by omega)]
 by_cases h : a.length ≤ t.length
 ·have c1 : decide ((q.length : Int) + (a.length : Int) > (l.length : Int)) = false := decide_eq_false (by omega)
  have c2 : decide (0 ≤ (q.length : Int) ∧ (q.length : Int) ≤ (q.length : Int) + (a.length : Int) ∧ (q.length : Int) + (a.length : Int) ≤ (l.length : Int)) = true := decide_eq_true (by omega)
  have e1 : (ba l).extract (Int.toNat (q.length : Int)) (Int.toNat ((q.length : Int) + (a.length : Int))) = ba (t.take a.length) := by
   rw [Um, Int.toNat_natCast, show ((q.length : Int) + (a.length : Int)).toNat = q.length + a.length from by omega, ← hq, List.take_append, List.take_of_length_le (by omega), List.drop_left, show q.length + a.length - q.length = a.length from by omega]
  rw [c1, cond_false, c2, cond_true, e1, eqS_ba]
  cases hp : pre a t with
  | true =>
   have : decide (t.take a.length = a) = true := hp
   rw [this]
   simp only [Bool.not_true, cond_false, cond_true]
   rw [show (q.length : Int) + (a.length : Int) = ((l.length - (t.drop a.length).length : Nat) : Int) from by rw [List.length_drop]; omega]
  | false =>
   have : decide (t.take a.length = a) = false := hp
   rw [this]
   simp only [Bool.not_false, cond_true, cond_false]
 ·have c1 : decide ((q.length : Int) + (a.length : Int) > (l.length : Int)) = true := decide_eq_true (by omega)
  have hp : pre a t = false := by
   unfold pre; exact decide_eq_false fun e => by
    have := congrArg List.length e
    simp at this; omega
  rw [c1, hp]
  simp only [cond_true, cond_false]
theorem QbO (c : UInt8) : VH (c.toNat : Int) 10 = some (if isD c then (dg c : Int) else -1) ∧ VH (c.toNat : Int) 16 = some (if isH c then (dg c : Int) else -1) := by
 have hc := c.toNat_lt
 have e10 : ((10 : Int) == 16) = false := rfl
 have e16 : ((16 : Int) == 16) = true := rfl
 by_cases h1 : 48 ≤ c.toNat ∧ c.toNat ≤ 57
 ·have c1 : decide ((c.toNat : Int) ≥ 48) = true := decide_eq_true (by omega)
  have c2 : decide ((c.toNat : Int) ≤ 57) = true := decide_eq_true (by omega)
  have hD : isD c = true := decide_eq_true h1
  have hH : isH c = true := by simp [isH, hD]
  have hg : dg c = c.toNat - 48 := by unfold dg; rw [if_neg (by omega)]
  have e : w64 (IntKind.u8.wrap ((c.toNat : Int) - 48)) = (dg c : Int) := by rw [u8_in (by omega) (by omega), w64_in (by omega) (by omega)]; omega
  constructor <;> rw [VH.eq] <;> unfold Fm <;> rw [c1, cond_true, c2, cond_true, e]
  ·rw [hD]; rfl
  ·rw [hH]; rfl
 ·have hD : isD c = false := decide_eq_false h1
  have step10 : VH (c.toNat : Int) 10 = some (-1) := by
   rw [VH.eq]; unfold Fm
   rw [e10]
   cases h : decide ((c.toNat : Int) ≥ 48)
   ·rfl
   ·have c2 : decide ((c.toNat : Int) ≤ 57) = false := decide_eq_false (by have := of_decide_eq_true h; omega)
    rw [c2]; rfl
  refine ⟨by rw [step10, hD]; rfl, ?_⟩
  have head : VH (c.toNat : Int) 16 = bif decide ((c.toNat : Int) ≥ 97) then (bif decide ((c.toNat : Int) ≤ 102) then some (w64 (w64 (IntKind.u8.wrap ((c.toNat : Int) - 97)) + 10)) else some (-1)) else some (-1) := by
   rw [VH.eq]; unfold Fm
   rw [e16]
   cases h : decide ((c.toNat : Int) ≥ 48)
   ·rfl
   ·have c2 : decide ((c.toNat : Int) ≤ 57) = false := decide_eq_false (by have := of_decide_eq_true h; omega)
    rw [c2]; rfl
  rw [head]
  by_cases h2 : 97 ≤ c.toNat ∧ c.toNat ≤ 102
  ·have c3 : decide ((c.toNat : Int) ≥ 97) = true := decide_eq_true (by omega)
   have c4 : decide ((c.toNat : Int) ≤ 102) = true := decide_eq_true (by omega)
   have hH : isH c = true := by simp [isH, h2]
   have hg : dg c = c.toNat - 97 + 10 := by unfold dg; rw [if_pos h2.1]
   have e : w64 (w64 (IntKind.u8.wrap ((c.toNat : Int) - 97)) + 10) = (dg c : Int) := by
    rw [u8_in (by omega) (by omega), w64_in (n := (c.toNat : Int) - 97) (by omega) (by omega), w64_in (by omega) (by omega)]; omega
   rw [c3, cond_true, c4, cond_true, e, hH]; rfl
  ·have hH : isH c = false := by rw [isH, hD]; simp; omega
   rw [hH]
   cases h : decide ((c.toNat : Int) ≥ 97)
   ·rfl
   ·have c4 : decide ((c.toNat : Int) ≤ 102) = false := decide_eq_false (by have := of_decide_eq_true h; omega)
    rw [c4]; rfl
def isB (base : Nat) (c : UInt8) : Bool := if base = 16 then isH c else isD c
theorem Qol {base : Nat} (hb : base = 10 ∨ base = 16) (c : UInt8) : VH (c.toNat : Int) (base : Int) = some (if isB base c then (dg c : Int) else -1) := by
 rcases hb with rfl | rfl
 ·exact (QbO c).1
 ·exact (QbO c).2
theorem isB_H {base : Nat} {c : UInt8} (h : isB base c = true) : isH c = true := by
 unfold isB at h
 split at h
 ·exact h
 ·simp [isH, h]
theorem Qpg {l : List UInt8} (hl : l.length ≤ 1000000000) {base : Nat} (hb : base = 10 ∨ base = 16) (at_ : Int) (d : Int) (b : Bool) : ∀ (s : List UInt8) (n : Nat), s <:+ l → n < 4294967296 →
  match numv base (s.takeWhile (isB base)) n with
  | some m => Q9 ⟨base, n, at_, RS l s d b, E0⟩ = some (.inr ⟨m, at_, RS l (s.dropWhile (isB base)) d b, E0⟩)
  | none => ∃ r, r <:+ l ∧ Q9 ⟨base, n, at_, RS l s d b, E0⟩ = some (.inl ⟨RS l r d true, E0⟩) := by
 intro s
 induction s with
 | nil =>
  intro n hs hn
  simp only [List.takeWhile_nil, numv]
  rw [Q9.eq]; unfold W8
  have c1 : decide (((l.length - ([] : List UInt8).length : Nat) : Int) < (((ba l).size : Nat) : Int)) = false := decide_eq_false (by rw [QF]; simp)
  simp only
  rw [c1]; rfl
 | cons c t ih =>
  intro n hs hn
  obtain ⟨h1, h2, h3, h4⟩ := QfG hs rfl
  have c1 : decide (((l.length - (c :: t).length : Nat) : Int) < (((ba l).size : Nat) : Int)) = true := decide_eq_true (by rw [QF]; omega)
  have c2 : decide (0 ≤ ((l.length - (c :: t).length : Nat) : Int) ∧ ((l.length - (c :: t).length : Nat) : Int) < (((ba l).size : Nat) : Int)) = true := decide_eq_true (by rw [QF]; omega)
  have step : Q9 ⟨base, n, at_, RS l (c :: t) d b, E0⟩ = (W8 VH ⟨base, n, at_, RS l (c :: t) d b, E0⟩).bind (Sum.elim Q9 some) := Q9.eq _
  unfold W8 at step
  simp only at step
  rw [c1, cond_true, c2, cond_true, h1, Qol hb, Option.bind_some, Option.bind_some] at step
  cases hB : isB base c with
  | false =>
   rw [hB] at step
   have c3 : decide ((if false = true then ((dg c : Nat) : Int) else -1) ≥ 0) = false := rfl
   rw [c3, cond_false] at step
   simp only [List.takeWhile_cons, hB, Bool.false_eq_true, if_false, numv, List.dropWhile_cons]
   rw [step]; rfl
  | true =>
   rw [hB] at step
   have hdg := dg_lt (isB_H hB)
   have c3 : decide ((if true = true then ((dg c : Nat) : Int) else -1) ≥ 0) = true := decide_eq_true (by rw [if_pos rfl]; omega)
   have hmul : n * base ≤ 4294967296 * 16 := Nat.mul_le_mul (by omega) (by omega)
   have em : w64 (w64 ((base : Int) * (n : Int)) + (if true = true then ((dg c : Nat) : Int) else -1)) = ((n * base + dg c : Nat) : Int) := by
    rw [if_pos rfl, ← Int.natCast_mul, Nat.mul_comm base n, w64_in (n := ((n * base : Nat) : Int)) (by omega) (by omega), w64_in (by omega) (by omega)]; omega
   have e3 : (⟨ba l, w64 (((l.length - (c :: t).length : Nat) : Int) + 1), d, b⟩ : Qe) = RS l t d b := by
    rw [w64_in (by omega) (by omega), show ((l.length - (c :: t).length : Nat) : Int) + 1 = ((l.length - t.length : Nat) : Int) from by rw [h3]; rfl]
   have e4 : (⟨ba l, w64 (((l.length - (c :: t).length : Nat) : Int) + 1), d, true⟩ : Qe) = RS l t d true := by
    rw [w64_in (by omega) (by omega), show ((l.length - (c :: t).length : Nat) : Int) + 1 = ((l.length - t.length : Nat) : Int) from by rw [h3]; rfl]
   rw [c3, cond_true, em, e3, e4] at step
   simp only [List.takeWhile_cons, hB, if_true, numv, List.dropWhile_cons]
   by_cases hbig : n * base + dg c ≥ 4294967296
   ·have c4 : decide (((n * base + dg c : Nat) : Int) ≥ 4294967296) = true := decide_eq_true (by omega)
    rw [if_pos hbig]
    rw [c4, cond_true] at step
    exact ⟨t, h4, step⟩
   ·have c4 : decide (((n * base + dg c : Nat) : Int) ≥ 4294967296) = false := decide_eq_false (by omega)
    rw [if_neg hbig]
    rw [c4, cond_false] at step
    have ih := ih (n * base + dg c) h4 (by omega)
    rw [step]
    exact ih
theorem QjI {p : UInt8 → Bool} {s : List UInt8} : (s.takeWhile p = [] ↔ s.dropWhile p = s) ∧ (s.dropWhile p).length = s.length - (s.takeWhile p).length := by
 have h := List.takeWhile_append_dropWhile (p := p) (l := s)
 have hl := congrArg List.length h
 rw [List.length_append] at hl
 refine ⟨⟨fun e => by rw [e, List.nil_append] at h; exact h, fun e => by
  have := congrArg List.length e
  exact List.eq_nil_of_length_eq_zero (by omega)⟩, by omega⟩
theorem Qh9 {l : List UInt8} (hl : l.length ≤ 1000000000) {base : Nat} (hb : base = 10 ∨ base = 16) (s : List UInt8) (hs : s <:+ l) (d : Int) (b : Bool) :
  match numv base (s.takeWhile (isB base)) 0 with
  | some n => J4 base (RS l s d b) = some (⟨1, n, s_, []⟩, RS l (s.dropWhile (isB base)) d (bif decide (s.takeWhile (isB base) = []) then true else b))
  | none => ∃ r, r <:+ l ∧ J4 base (RS l s d b) = some (E0, RS l r d true) := by
 have hL := Qpg hl hb ((l.length - s.length : Nat) : Int) d b s 0 hs (by decide)
 have step : J4 base (RS l s d b) = YX Q9 base (RS l s d b) := J4.eq _ _
 unfold YX at step
 cases hv : numv base (s.takeWhile (isB base)) 0 with
 | none =>
  rw [hv] at hL
  obtain ⟨r, hr, e⟩ := hL
  refine ⟨r, hr, ?_⟩
  have e : Q9 ⟨base, 0, ((l.length - s.length : Nat) : Int), RS l s d b, E0⟩ = some (.inl ⟨RS l r d true, E0⟩) := e
  simp only at step
  rw [e] at step; exact step
 | some n =>
  rw [hv] at hL
  have e : Q9 ⟨base, 0, ((l.length - s.length : Nat) : Int), RS l s d b, E0⟩ = some (.inr ⟨n, ((l.length - s.length : Nat) : Int), RS l (s.dropWhile (isB base)) d b, E0⟩) := hL
  simp only at step
  rw [e, Option.bind_some, Sum.elim_inr] at step
  simp only at step ⊢
  obtain ⟨t1, t2⟩ := @QjI (isB base) s
  have hsl : s.length ≤ l.length := hs.length_le
  have htl : (s.takeWhile (isB base)).length ≤ s.length := (List.takeWhile_sublist _).length_le
  have c1 : (((l.length - s.length : Nat) : Int) == ((l.length - (s.dropWhile (isB base)).length : Nat) : Int)) = decide (s.takeWhile (isB base) = []) := by
   rw [Bool.eq_iff_iff, beq_iff_eq, decide_eq_true_iff]
   constructor
   ·intro e; exact List.eq_nil_of_length_eq_zero (by omega)
   ·intro e; rw [t1.1 e]
  rw [c1] at step
  rw [step]
  cases decide (s.takeWhile (isB base) = []) <;> rfl
end Go.Ab
namespace Go.Ab
theorem Qq3 {l : List UInt8} (hl : l.length ≤ 1000000000) (at_ d : Int) (b : Bool) : ∀ s : List UInt8, s <:+ l → Us ⟨at_, RS l s d b, E0⟩ = some ⟨at_, RS l (s.dropWhile isI) d b, E0⟩ := by
 intro s
 induction s with
 | nil =>
  intro hs
  rw [Us.eq]; unfold YD
  have c1 : decide (((l.length - ([] : List UInt8).length : Nat) : Int) < (((ba l).size : Nat) : Int)) = false := decide_eq_false (by rw [QF]; simp)
  simp only
  rw [c1]; rfl
 | cons c t ih =>
  intro hs
  obtain ⟨h1, h2, h3, h4⟩ := QfG hs rfl
  have c1 : decide (((l.length - (c :: t).length : Nat) : Int) < (((ba l).size : Nat) : Int)) = true := decide_eq_true (by rw [QF]; omega)
  have c2 : decide (0 ≤ ((l.length - (c :: t).length : Nat) : Int) ∧ ((l.length - (c :: t).length : Nat) : Int) < (((ba l).size : Nat) : Int)) = true := decide_eq_true (by rw [QF]; omega)
  have e3 : (⟨ba l, w64 (((l.length - (c :: t).length : Nat) : Int) + 1), d, b⟩ : Qe) = RS l t d b := by
   rw [w64_in (by omega) (by omega), show ((l.length - (c :: t).length : Nat) : Int) + 1 = ((l.length - t.length : Nat) : Int) from by rw [h3]; rfl]
  rw [Us.eq]; unfold YD
  simp only
  rw [c1, cond_true, c2, cond_true, h1, e3]
  have e97 : decide ((c.toNat : Int) ≥ 97) = decide (97 ≤ c.toNat) := decide_eq_decide.2 (by omega)
  have e122 : decide ((c.toNat : Int) ≤ 122) = decide (c.toNat ≤ 122) := decide_eq_decide.2 (by omega)
  have e48 : decide ((c.toNat : Int) ≥ 48) = decide (48 ≤ c.toNat) := decide_eq_decide.2 (by omega)
  have e57 : decide ((c.toNat : Int) ≤ 57) = decide (c.toNat ≤ 57) := decide_eq_decide.2 (by omega)
  have e95 : ((c.toNat : Int) == 95) = decide (c.toNat = 95) := by rw [Bool.eq_iff_iff, beq_iff_eq, decide_eq_true_iff]; omega
  have hI : isI c = (decide (97 ≤ c.toNat) && decide (c.toNat ≤ 122) || decide (c.toNat = 95) || decide (48 ≤ c.toNat) && decide (c.toNat ≤ 57)) := by
   unfold isI isS isD; rw [Bool.decide_or, Bool.decide_and, Bool.decide_and]
  rw [e97, e122, e48, e57, e95]
  rw [List.dropWhile_cons, hI]
  have ih := ih h4
  cases decide (97 ≤ c.toNat) <;> cases decide (c.toNat ≤ 122) <;> cases decide (48 ≤ c.toNat) <;> cases decide (c.toNat ≤ 57) <;> cases decide (c.toNat = 95) <;> first | exact ih | rfl
theorem Qqa {l : List UInt8} (hl : l.length ≤ 1000000000) (s : List UInt8) (hs : s <:+ l) (d : Int) (b : Bool) :
  Vr (RS l s d b) = some (⟨2, 0, ba (s.takeWhile isI), []⟩, RS l (s.dropWhile isI) d (bif wordB (s.takeWhile isI) then b else true)) := by
 rw [Vr.eq]; unfold En
 simp only
 have e : Us ⟨((l.length - s.length : Nat) : Int), RS l s d b, E0⟩ = some ⟨((l.length - s.length : Nat) : Int), RS l (s.dropWhile isI) d b, E0⟩ := Qq3 hl _ d b s hs
 rw [e, Option.bind_some]
 simp only
 obtain ⟨q, hq⟩ := hs
 have hlen : l.length = q.length + s.length := by rw [← hq, List.length_append]
 obtain ⟨_, t2⟩ := @QjI isI s
 have htl : (s.takeWhile isI).length ≤ s.length := (List.takeWhile_sublist _).length_le
 have c1 : decide (0 ≤ ((l.length - s.length : Nat) : Int) ∧ ((l.length - s.length : Nat) : Int) ≤ ((l.length - (s.dropWhile isI).length : Nat) : Int) ∧ ((l.length - (s.dropWhile isI).length : Nat) : Int) ≤ (((ba l).size : Nat) : Int)) = true := decide_eq_true (by rw [QF]; omega)
 have e1 : (ba l).extract (Int.toNat ((l.length - s.length : Nat) : Int)) (Int.toNat ((l.length - (s.dropWhile isI).length : Nat) : Int)) = ba (s.takeWhile isI) := by
  rw [Um, Int.toNat_natCast, Int.toNat_natCast, show l.length - s.length = q.length from by omega, show l.length - (s.dropWhile isI).length = q.length + (s.takeWhile isI).length from by omega, ← hq, List.take_append, List.take_of_length_le (by omega), List.drop_left, show q.length + (s.takeWhile isI).length - q.length = (s.takeWhile isI).length from by omega]
  conv => lhs; arg 1; arg 2; rw [← List.takeWhile_append_dropWhile (p := isI) (l := s)]
  rw [List.take_left']
  rfl
 rw [c1, cond_true, e1, Qok _ (by omega), Option.bind_some]
 cases wordB (s.takeWhile isI) <;> rfl
end Go.Ab
