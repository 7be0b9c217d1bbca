/- LineParses: part 2 of the proof that, whatever the input, the law returns true and the input reads as it did; its conditions are those of the given row. -/
import Derived.Test.YtblfhkldljfhiaaGreatDoorZLineParses1
import Derived.Test.YtblfhkldljfhiaaGreatDoorProg
set_option linter.unusedVariables false
set_option linter.unusedSimpArgs false
namespace Go.Ab
open Go.Proofs
def QW (x : ByteArray) : List AV := [.sc (.string x)]
def Qg (l : List ByteArray) : List (List AV) := l.map QW
theorem QP (l : List ByteArray) : l.map QW = Qg l := rfl
theorem U0 (l m : List ByteArray) : Qg l ++ Qg m = Qg (l ++ m) := by simp only [← QP, List.map_append]
theorem Qnz (l : List ByteArray) (i : Nat) (a : ByteArray) : (Qg l).set i (QW a) = Qg (l.set i a) := by simp only [← QP, List.map_set]
theorem Qk5 (l : List ByteArray) (i n : Nat) : ((Qg l).drop i).take n = Qg ((l.drop i).take n) := by simp only [← QP, List.map_take, List.map_drop]
theorem QO {l : List ByteArray} {n : Nat} {a : ByteArray} (h : l[n]? = some a) : (Qg l)[n]? = some (QW a) := by rw [← QP]; exact Y9 h
theorem Uc (l : List ByteArray) : (Qg l).all (fun r => r.length == 1) = true := by rw [← QP]; exact Qbg (C := QW) (fun _ => rfl) l
theorem Qo (l : List ByteArray) : (Qg l).length = l.length := by rw [← QP, List.length_map]
def C_u8 (x : Int) : List AV := [.sc (.int .u8 x)]
def R_u8 (l : List Int) : List (List AV) := l.map C_u8
theorem Qeo (l : List Int) : l.map C_u8 = R_u8 l := rfl
theorem QsY (l : List Int) (i : Nat) (a : Int) : (R_u8 l).set i (C_u8 a) = R_u8 (l.set i a) := by simp only [← Qeo, List.map_set]
theorem QnA {l : List Int} {n : Nat} {a : Int} (h : l[n]? = some a) : (R_u8 l)[n]? = some (C_u8 a) := by rw [← Qeo]; exact Y9 h
theorem Qjb (l : List Int) : (R_u8 l).length = l.length := by rw [← Qeo, List.length_map]
def WW (x : Int) : List AV := [.sc (.int .i64 x)]
def Qy (l : List Int) : List (List AV) := l.map WW
theorem JP (l : List Int) : l.map WW = Qy l := rfl
theorem Qbj (l m : List Int) : Qy l ++ Qy m = Qy (l ++ m) := by simp only [← JP, List.map_append]
theorem Vc {l : List Int} {n : Nat} {a : Int} (h : l[n]? = some a) : (Qy l)[n]? = some (WW a) := by rw [← JP]; exact Y9 h
theorem Qgh (l : List Int) : (Qy l).all (fun r => r.length == 1) = true := by rw [← JP]; exact Qbg (C := WW) (fun _ => rfl) l
theorem JU (l : List Int) : (Qy l).length = l.length := by rw [← JP, List.length_map]
structure Qa where
 Kind : Int
 N : Int
 Name : ByteArray
 L : (List Qa)
deriving Inhabited
mutual
def Qj3 : Qa → List AV
 | ⟨x0, x1, x2, x3⟩ => [.sc (.int .i64 x0), .sc (.int .i64 x1), .sc (.string x2), .sl (QK x3)]
def QK : List Qa → List (List AV)
 | [] => []
 | x :: l => Qj3 x :: QK l
end
def QZ (x : Qa) : List AV := [.sc (.int .i64 x.Kind), .sc (.int .i64 x.N), .sc (.string x.Name), .sl (QK x.L)]
theorem XF (l : List Qa) : l.map QZ = QK l := by
 induction l with
 | nil => rw [QK]; rfl
 | cons x l ih => rw [QK, List.map_cons, ih]; congr 1; cases x; rw [Qj3]; rfl
theorem Z7 {l : List Qa} {n : Nat} {a : Qa} (h : l[n]? = some a) : (QK l)[n]? = some (QZ a) := by rw [← XF]; exact Y9 h
theorem Ey (l : List Qa) : (QK l).length = l.length := by rw [← XF, List.length_map]
structure Qc where
 Reg : Int
 E : Qa
deriving Inhabited
def Xi (x : Qc) : List AV := [.sc (.int .i64 x.Reg), .sc (.int .i64 x.E.Kind), .sc (.int .i64 x.E.N), .sc (.string x.E.Name), .sl (QK x.E.L)]
def Qi (l : List Qc) : List (List AV) := l.map Xi
theorem JE (l : List Qc) : l.map Xi = Qi l := rfl
theorem U8 (l m : List Qc) : Qi l ++ Qi m = Qi (l ++ m) := by simp only [← JE, List.map_append]
theorem YC {l : List Qc} {n : Nat} {a : Qc} (h : l[n]? = some a) : (Qi l)[n]? = some (Xi a) := by rw [← JE]; exact Y9 h
theorem V8 (l : List Qc) : (Qi l).all (fun r => r.length == 5) = true := by rw [← JE]; exact Qbg (C := Xi) (fun _ => rfl) l
theorem Jf (l : List Qc) : (Qi l).length = l.length := by rw [← JE, List.length_map]
structure Qb where
 Line : Int
 Label : ByteArray
 Kind : Int
 Op : Int
 Text : ByteArray
 Args : (List Qc)
deriving Inhabited
def U1 (x : Qb) : List AV := [.sc (.int .i64 x.Line), .sc (.string x.Label), .sc (.int .i64 x.Kind), .sc (.int .i64 x.Op), .sc (.string x.Text), .sl (Qi x.Args)]
def QX (l : List Qb) : List (List AV) := l.map U1
theorem W9 (l : List Qb) : l.map U1 = QX l := rfl
theorem EK (l m : List Qb) : QX l ++ QX m = QX (l ++ m) := by simp only [← W9, List.map_append]
theorem Qds {l : List Qb} {n : Nat} {a : Qb} (h : l[n]? = some a) : (QX l)[n]? = some (U1 a) := by rw [← W9]; exact Y9 h
theorem P4 (l : List Qb) : (QX l).all (fun r => r.length == 6) = true := by rw [← W9]; exact Qbg (C := U1) (fun _ => rfl) l
theorem Xa (l : List Qb) : (QX l).length = l.length := by rw [← W9, List.length_map]
structure Qh where
 x : Qb
deriving Inhabited
structure Qe where
 name : ByteArray
 bits : Int
 kinds : ByteArray
deriving Inhabited
def ZA (x : Qe) : List AV := [.sc (.string x.name), .sc (.int .u32 x.bits), .sc (.string x.kinds)]
def X1 (l : List Qe) : List (List AV) := l.map ZA
theorem Qar (l : List Qe) : l.map ZA = X1 l := rfl
theorem Qe5 {l : List Qe} {n : Nat} {a : Qe} (h : l[n]? = some a) : (X1 l)[n]? = some (ZA a) := by rw [← Qar]; exact Y9 h
theorem Qe6 (l : List Qe) : (X1 l).length = l.length := by rw [← Qar, List.length_map]
def Qgi (x : Nat) : List AV := [.fn (.func x) [] []]
def Ud (l : List Nat) : List (List AV) := l.map Qgi
theorem ZB (l : List Nat) : l.map Qgi = Ud l := rfl
theorem Qas (l m : List Nat) : Ud l ++ Ud m = Ud (l ++ m) := by simp only [← ZB, List.map_append]
theorem QqO {l : List Nat} {n : Nat} {a : Nat} (h : l[n]? = some a) : (Ud l)[n]? = some (Qgi a) := by rw [← ZB]; exact Y9 h
theorem Qep (l : List Nat) : (Ud l).all (fun r => r.length == 1) = true := by rw [← ZB]; exact Qbg (C := Qgi) (fun _ => rfl) l
theorem YF (l : List Nat) : (Ud l).length = l.length := by rw [← ZB, List.length_map]
structure Qd where
 left : ByteArray
 deep : Int
 bad : Bool
deriving Inhabited
def QM (x : Qd) : List AV := [.sc (.string x.left), .sc (.int .i64 x.deep), .sc (.bool x.bad)]
def Qgj (x : (List Int)) : List AV := [.sl (Qy x)]
def SS (l : List (List Int)) : List (List AV) := l.map Qgj
theorem Qeq (l : List (List Int)) : l.map Qgj = SS l := rfl
theorem Qj4 {l : List (List Int)} {n : Nat} {a : (List Int)} (h : l[n]? = some a) : (SS l)[n]? = some (Qgj a) := by rw [← Qeq]; exact Y9 h
theorem QqP (l : List (List Int)) : (SS l).length = l.length := by rw [← Qeq, List.length_map]
structure QC where
 K : Int
 N : Int
 L : (List QC)
deriving Inhabited
mutual
def QnB : QC → List AV
 | ⟨x0, x1, x2⟩ => [.sc (.int .i64 x0), .sc (.int .i64 x1), .sl (U9 x2)]
def U9 : List QC → List (List AV)
 | [] => []
 | x :: l => QnB x :: U9 l
end
def Ye (x : QC) : List AV := [.sc (.int .i64 x.K), .sc (.int .i64 x.N), .sl (U9 x.L)]
theorem FO (l : List QC) : l.map Ye = U9 l := by
 induction l with
 | nil => rw [U9]; rfl
 | cons x l ih => rw [U9, List.map_cons, ih]; congr 1; cases x; rw [QnB]; rfl
theorem Qbk {l : List QC} {n : Nat} {a : QC} (h : l[n]? = some a) : (U9 l)[n]? = some (Ye a) := by rw [← FO]; exact Y9 h
theorem G3 (l : List QC) : (U9 l).length = l.length := by rw [← FO, List.length_map]
structure QB where
 K : Int
 A : Int
 B : Int
 Ns : (List Int)
 E : (List QC)
 Label : Bool
deriving Inhabited
def V9 (x : QB) : List AV := [.sc (.int .i64 x.K), .sc (.int .i64 x.A), .sc (.int .i64 x.B), .sl (Qy x.Ns), .sl (U9 x.E), .sc (.bool x.Label)]
def WX (l : List QB) : List (List AV) := l.map V9
theorem Qbl (l : List QB) : l.map V9 = WX l := rfl
theorem FP {l : List QB} {n : Nat} {a : QB} (h : l[n]? = some a) : (WX l)[n]? = some (V9 a) := by rw [← Qbl]; exact Y9 h
theorem Qgk (l : List QB) : (WX l).length = l.length := by rw [← Qbl, List.length_map]
structure QL where
 Name : ByteArray
 Bits : ByteArray
 Kinds : ByteArray
deriving Inhabited
def Qer (x : QL) : List AV := [.sc (.string x.Name), .sc (.string x.Bits), .sc (.string x.Kinds)]
structure Qf where
 S : ByteArray
 P : Int
 Deep : Int
 Bad : Bool
deriving Inhabited
def Jh (x : Qf) : List AV := [.sc (.string x.S), .sc (.int .i64 x.P), .sc (.int .i64 x.Deep), .sc (.bool x.Bad)]
inductive YQ : QC → Prop
 | mk (x : QC) (h0 : IntKind.i64.min ≤ x.K ∧ x.K ≤ IntKind.i64.max) (h1 : IntKind.i64.min ≤ x.N ∧ x.N ≤ IntKind.i64.max) (h2 : x.L.length ≤ maxLen) (h3 : ∀ y ∈ x.L, YQ y) : YQ x
inductive Fx : QB → Prop
 | mk (x : QB) (h0 : IntKind.i64.min ≤ x.K ∧ x.K ≤ IntKind.i64.max) (h1 : IntKind.i64.min ≤ x.A ∧ x.A ≤ IntKind.i64.max) (h2 : IntKind.i64.min ≤ x.B ∧ x.B ≤ IntKind.i64.max) (h3 : x.Ns.length ≤ maxLen) (h4 : ∀ y ∈ x.Ns, IntKind.i64.min ≤ y ∧ y ≤ IntKind.i64.max) (h5 : x.E.length ≤ maxLen) (h6 : ∀ y ∈ x.E, YQ y) (h7 : True) : Fx x
def bytesL (s : ByteArray) : List Int := s.data.toList.map fun b => (b.toNat : Int)
def listB (l : List Int) : List UInt8 := l.map fun n => UInt8.ofNat n.toNat
theorem QqQ (s : ByteArray) : byteRows s.data.toList = R_u8 (bytesL s) := by simp only [byteRows, R_u8, bytesL, List.map_map]; rfl
theorem QlS (l : List Int) : bytesOfRows (R_u8 l) = some (listB l) := by
 induction l with
 | nil => rfl
 | cons x l ih => simp only [R_u8, listB, List.map_cons] at ih ⊢; simp only [bytesOfRows, C_u8, rowByte, ih, Option.bind_some, Option.map_some]
def h_0a : ByteArray := ⟨#[10]⟩
def h_20 : ByteArray := ⟨#[32]⟩
def Ys : ByteArray := ⟨#[32, 9]⟩
def X9 : ByteArray := ⟨#[32, 32]⟩
def Ur : ByteArray := ⟨#[32, 32, 35, 32, 101, 110, 100]⟩
def UV : ByteArray := ⟨#[32, 88, 32, 89, 32, 68, 32, 65, 32, 66, 32]⟩
def h_22 : ByteArray := ⟨#[34]⟩
def ZC : ByteArray := ⟨#[35, 32]⟩
def h_26 : ByteArray := ⟨#[38]⟩
def h_28 : ByteArray := ⟨#[40]⟩
def h_29 : ByteArray := ⟨#[41]⟩
def h_2a : ByteArray := ⟨#[42]⟩
def h_2b : ByteArray := ⟨#[43]⟩
def h_2c : ByteArray := ⟨#[44]⟩
def Qbm : ByteArray := ⟨#[44, 32]⟩
def h_2d : ByteArray := ⟨#[45]⟩
def h_2e : ByteArray := ⟨#[46]⟩
def Q0 : ByteArray := ⟨#[46, 97, 108, 105, 103, 110]⟩
def J2 : ByteArray := ⟨#[46, 97, 115, 99, 105, 105]⟩
def Q6 : ByteArray := ⟨#[46, 98, 121, 116, 101]⟩
def VB : ByteArray := ⟨#[46, 101, 113, 117]⟩
def Q7 : ByteArray := ⟨#[46, 104, 97, 108, 102]⟩
def Q8 : ByteArray := ⟨#[46, 108, 111, 110, 103]⟩
def Q1 : ByteArray := ⟨#[46, 115, 112, 97, 99, 101]⟩
def h_3a : ByteArray := ⟨#[58]⟩
def Qbn : ByteArray := ⟨#[60, 60]⟩
def Qbo : ByteArray := ⟨#[62, 62]⟩
def Vw : ByteArray := ⟨#[65, 32, 68, 32, 66]⟩
def UM : ByteArray := ⟨#[65, 32, 68, 32, 67, 56]⟩
def Vx : ByteArray := ⟨#[68, 32, 65, 32, 66]⟩
def Z8 : ByteArray := ⟨#[68, 32, 65, 32, 67, 56]⟩
def Zb : ByteArray := ⟨#[68, 32, 65, 32, 83, 49, 54]⟩
def G4 : ByteArray := ⟨#[68, 32, 76, 50, 48]⟩
def QD : ByteArray := ⟨#[68, 32, 83, 49, 54, 32, 65]⟩
def Yt : ByteArray := ⟨#[79, 49, 32, 73, 50, 32, 84, 56]⟩
def UR : ByteArray := ⟨#[79, 50, 32, 73, 52, 32, 84, 49, 53]⟩
def Wu : ByteArray := ⟨#[88, 32, 79, 53]⟩
def Jy : ByteArray := ⟨#[88, 32, 85, 53]⟩
def FQ : ByteArray := ⟨#[88, 32, 85, 55]⟩
def Ji : ByteArray := ⟨#[88, 32, 89]⟩
def WH : ByteArray := ⟨#[89, 32, 77, 49, 32, 88]⟩
def WI : ByteArray := ⟨#[89, 32, 77, 50, 32, 88]⟩
def WJ : ByteArray := ⟨#[89, 32, 77, 52, 32, 88]⟩
def UW : ByteArray := ⟨#[97, 32, 35, 32, 98, 44, 32, 99]⟩
def h_7c : ByteArray := ⟨#[124]⟩
def Qr : ByteArray := ⟨#[115, 101, 95, 105, 108, 108, 101, 103, 97, 108, 58, 48, 48, 48, 48, 58, 124, 115, 101, 95, 105, 115, 121, 110, 99, 58, 48, 48, 48, 49, 58, 124, 115, 101, 95, 115, 99, 58, 48, 48, 48, 50, 58, 124, 115, 101, 95, 98, 108, 114, 58, 48, 48, 48, 52, 58, 124, 115, 101, 95, 98, 99, 116, 114, 58, 48, 48, 48, 54, 58, 124, 115, 101, 95, 110, 111, 116, 58, 48, 48, 50, 48, 58, 88, 124, 115, 101, 95, 110, 101, 103, 58, 48, 48, 51, 48, 58, 88, 124, 115, 101, 95, 109, 102, 108, 114, 58, 48, 48, 56, 48, 58, 88, 124, 115, 101, 95, 109, 116, 108, 114, 58, 48, 48, 57, 48, 58, 88, 124, 115, 101, 95, 109, 102, 99, 116, 114, 58, 48, 48, 97, 48, 58, 88, 124, 115, 101, 95, 109, 116, 99, 116, 114, 58, 48, 48, 98, 48, 58, 88, 124, 115, 101, 95, 101, 120, 116, 122, 98, 58, 48, 48, 99, 48, 58, 88, 124, 115, 101, 95, 101, 120, 116, 115, 98, 58, 48, 48, 100, 48, 58, 88, 124, 115, 101, 95, 101, 120, 116, 122, 104, 58, 48, 48, 101, 48, 58, 88, 124, 115, 101, 95, 101, 120, 116, 115, 104, 58, 48, 48, 102, 48, 58, 88, 124, 115, 101, 95, 109, 114, 58, 48, 49, 48, 48, 58, 88, 32, 89, 124, 115, 101, 95, 97, 100, 100, 58, 48, 52, 48, 48, 58, 88, 32, 89, 124, 115, 101, 95, 109, 117, 108, 108, 119, 58, 48, 53, 48, 48, 58, 88, 32, 89, 124, 115, 101, 95, 115, 117, 98, 58, 48, 54, 48, 48, 58, 88, 32, 89, 124, 115, 101, 95, 99, 109, 112, 58, 48, 99, 48, 48, 58, 88, 32, 89, 124, 115, 101, 95, 99, 109, 112, 108, 58, 48, 100, 48, 48, 58, 88, 32, 89, 124, 115, 101, 95, 97, 100, 100, 105, 58, 50, 48, 48, 48, 58, 88, 32, 79, 53, 124, 115, 101, 95, 99, 109, 112, 108, 105, 58, 50, 50, 48, 48, 58, 88, 32, 79, 53, 124, 115, 101, 95, 115, 117, 98, 105, 58, 50, 52, 48, 48, 58, 88, 32, 79, 53, 124, 115, 101, 95, 99, 109, 112, 105, 58, 50, 97, 48, 48, 58, 88, 32, 85, 53, 124, 115, 101, 95, 111, 114, 58, 52, 52, 48, 48, 58, 88, 32, 89, 124, 115, 101, 95, 97, 110, 100, 99, 58, 52, 53, 48, 48, 58, 88, 32, 89, 124, 115, 101, 95, 97, 110, 100, 58, 52, 54, 48, 48, 58, 88, 32, 89, 124, 115, 101, 95, 108, 105, 58, 52, 56, 48, 48, 58, 88, 32, 85, 55, 124, 115, 101, 95, 98, 99, 108, 114, 105, 58, 54, 48, 48, 48, 58, 88, 32, 85, 53, 124, 115, 101, 95, 98, 115, 101, 116, 105, 58, 54, 52, 48, 48, 58, 88, 32, 85, 53, 124, 115, 101, 95, 98, 116, 115, 116, 105, 58, 54, 54, 48, 48, 58, 88, 32, 85, 53, 124, 115, 101, 95, 115, 114, 119, 105, 58, 54, 56, 48, 48, 58, 88, 32, 85, 53, 124, 115, 101, 95, 115, 108, 119, 105, 58, 54, 99, 48, 48, 58, 88, 32, 85, 53, 124, 115, 101, 95, 108, 98, 122, 58, 56, 48, 48, 48, 58, 89, 32, 77, 49, 32, 88, 124, 115, 101, 95, 115, 116, 98, 58, 57, 48, 48, 48, 58, 89, 32, 77, 49, 32, 88, 124, 115, 101, 95, 108, 104, 122, 58, 97, 48, 48, 48, 58, 89, 32, 77, 50, 32, 88, 124, 115, 101, 95, 115, 116, 104, 58, 98, 48, 48, 48, 58, 89, 32, 77, 50, 32, 88, 124, 115, 101, 95, 108, 119, 122, 58, 99, 48, 48, 48, 58, 89, 32, 77, 52, 32, 88, 124, 115, 101, 95, 115, 116, 119, 58, 100, 48, 48, 48, 58, 89, 32, 77, 52, 32, 88, 124, 115, 101, 95, 98, 99, 58, 101, 48, 48, 48, 58, 79, 49, 32, 73, 50, 32, 84, 56, 124, 115, 101, 95, 98, 58, 101, 56, 48, 48, 58, 84, 56, 124, 115, 101, 95, 98, 108, 58, 101, 57, 48, 48, 58, 84, 56, 124, 101, 95, 97, 100, 100, 49, 54, 105, 58, 49, 99, 48, 48, 48, 48, 48, 48, 58, 68, 32, 65, 32, 83, 49, 54, 124, 101, 95, 97, 100, 100, 105, 58, 49, 56, 48, 48, 56, 48, 48, 48, 58, 68, 32, 65, 32, 67, 56, 124, 101, 95, 97, 110, 100, 105, 58, 49, 56, 48, 48, 99, 48, 48, 48, 58, 65, 32, 68, 32, 67, 56, 124, 101, 95, 111, 114, 105, 58, 49, 56, 48, 48, 100, 48, 48, 48, 58, 65, 32, 68, 32, 67, 56, 124, 101, 95, 120, 111, 114, 105, 58, 49, 56, 48, 48, 101, 48, 48, 48, 58, 65, 32, 68, 32, 67, 56, 124, 101, 95, 108, 105, 58, 55, 48, 48, 48, 48, 48, 48, 48, 58, 68, 32, 76, 50, 48, 124, 101, 95, 108, 98, 122, 58, 51, 48, 48, 48, 48, 48, 48, 48, 58, 68, 32, 83, 49, 54, 32, 65, 124, 101, 95, 115, 116, 98, 58, 51, 52, 48, 48, 48, 48, 48, 48, 58, 68, 32, 83, 49, 54, 32, 65, 124, 101, 95, 108, 104, 97, 58, 51, 56, 48, 48, 48, 48, 48, 48, 58, 68, 32, 83, 49, 54, 32, 65, 124, 101, 95, 108, 119, 122, 58, 53, 48, 48, 48, 48, 48, 48, 48, 58, 68, 32, 83, 49, 54, 32, 65, 124, 101, 95, 115, 116, 119, 58, 53, 52, 48, 48, 48, 48, 48, 48, 58, 68, 32, 83, 49, 54, 32, 65, 124, 101, 95, 108, 104, 122, 58, 53, 56, 48, 48, 48, 48, 48, 48, 58, 68, 32, 83, 49, 54, 32, 65, 124, 101, 95, 115, 116, 104, 58, 53, 99, 48, 48, 48, 48, 48, 48, 58, 68, 32, 83, 49, 54, 32, 65, 124, 101, 95, 98, 58, 55, 56, 48, 48, 48, 48, 48, 48, 58, 84, 50, 52, 124, 101, 95, 98, 108, 58, 55, 56, 48, 48, 48, 48, 48, 49, 58, 84, 50, 52, 124, 101, 95, 98, 99, 58, 55, 97, 48, 48, 48, 48, 48, 48, 58, 79, 50, 32, 73, 52, 32, 84, 49, 53, 124, 101, 95, 98, 99, 108, 58, 55, 97, 48, 48, 48, 48, 48, 49, 58, 79, 50, 32, 73, 52, 32, 84, 49, 53, 124, 97, 100, 100, 58, 55, 99, 48, 48, 48, 50, 49, 52, 58, 68, 32, 65, 32, 66, 124, 115, 117, 98, 102, 58, 55, 99, 48, 48, 48, 48, 53, 48, 58, 68, 32, 65, 32, 66, 124, 109, 117, 108, 108, 119, 58, 55, 99, 48, 48, 48, 49, 100, 54, 58, 68, 32, 65, 32, 66, 124, 97, 110, 100, 58, 55, 99, 48, 48, 48, 48, 51, 56, 58, 65, 32, 68, 32, 66, 124, 111, 114, 58, 55, 99, 48, 48, 48, 51, 55, 56, 58, 65, 32, 68, 32, 66, 124, 120, 111, 114, 58, 55, 99, 48, 48, 48, 50, 55, 56, 58, 65, 32, 68, 32, 66, 124]⟩
def s_ : ByteArray := ⟨#[]⟩
def WY : ByteArray := ⟨#[48, 49, 50, 51, 52, 53, 54, 55, 56, 57]⟩
def s_0x : ByteArray := ⟨#[48, 120]⟩
def s_A : ByteArray := ⟨#[65]⟩
def s_B : ByteArray := ⟨#[66]⟩
def s_D : ByteArray := ⟨#[68]⟩
def s_I2 : ByteArray := ⟨#[73, 50]⟩
def s_I4 : ByteArray := ⟨#[73, 52]⟩
def QtL : ByteArray := ⟨#[76, 50, 48]⟩
def s_M1 : ByteArray := ⟨#[77, 49]⟩
def s_M2 : ByteArray := ⟨#[77, 50]⟩
def s_M4 : ByteArray := ⟨#[77, 52]⟩
def s_O1 : ByteArray := ⟨#[79, 49]⟩
def s_O2 : ByteArray := ⟨#[79, 50]⟩
def s_O5 : ByteArray := ⟨#[79, 53]⟩
def QtM : ByteArray := ⟨#[83, 49, 54]⟩
def QtN : ByteArray := ⟨#[84, 49, 53]⟩
def Fe : ByteArray := ⟨#[84, 50, 52]⟩
def s_T8 : ByteArray := ⟨#[84, 56]⟩
def s_U5 : ByteArray := ⟨#[85, 53]⟩
def s_U7 : ByteArray := ⟨#[85, 55]⟩
def s_X : ByteArray := ⟨#[88]⟩
def s_Y : ByteArray := ⟨#[89]⟩
def s_a : ByteArray := ⟨#[97]⟩
def Qj5 : ByteArray := ⟨#[97, 100, 100]⟩
def Qj6 : ByteArray := ⟨#[97, 110, 100]⟩
def s_b : ByteArray := ⟨#[98]⟩
def s_b1 : ByteArray := ⟨#[98, 49]⟩
def ST : ByteArray := ⟨#[98, 97, 115, 101]⟩
def s_bc : ByteArray := ⟨#[98, 99]⟩
def s_bl : ByteArray := ⟨#[98, 108]⟩
def FR : ByteArray := ⟨#[101, 95, 97, 100, 100, 49, 54, 105]⟩
def Qbp : ByteArray := ⟨#[101, 95, 97, 100, 100, 105]⟩
def Qbq : ByteArray := ⟨#[101, 95, 97, 110, 100, 105]⟩
def Qj7 : ByteArray := ⟨#[101, 95, 98]⟩
def Qgl : ByteArray := ⟨#[101, 95, 98, 99]⟩
def Qdt : ByteArray := ⟨#[101, 95, 98, 99, 108]⟩
def Qgm : ByteArray := ⟨#[101, 95, 98, 108]⟩
def Qdu : ByteArray := ⟨#[101, 95, 108, 98, 122]⟩
def Qdv : ByteArray := ⟨#[101, 95, 108, 104, 97]⟩
def Qdw : ByteArray := ⟨#[101, 95, 108, 104, 122]⟩
def Qgn : ByteArray := ⟨#[101, 95, 108, 105]⟩
def Qdx : ByteArray := ⟨#[101, 95, 108, 119, 122]⟩
def Qdy : ByteArray := ⟨#[101, 95, 111, 114, 105]⟩
def Qdz : ByteArray := ⟨#[101, 95, 115, 116, 98]⟩
def QdA : ByteArray := ⟨#[101, 95, 115, 116, 104]⟩
def QdB : ByteArray := ⟨#[101, 95, 115, 116, 119]⟩
def Qbr : ByteArray := ⟨#[101, 95, 120, 111, 114, 105]⟩
def Fy : ByteArray := ⟨#[101, 110, 100, 95, 49]⟩
def s_hi : ByteArray := ⟨#[104, 105]⟩
def s_k : ByteArray := ⟨#[107]⟩
def FS : ByteArray := ⟨#[108, 111, 111, 112]⟩
def QdC : ByteArray := ⟨#[109, 117, 108, 108, 119]⟩
def s_or : ByteArray := ⟨#[111, 114]⟩
def s_r : ByteArray := ⟨#[114]⟩
def Qbs : ByteArray := ⟨#[115, 101, 95, 97, 100, 100]⟩
def SU : ByteArray := ⟨#[115, 101, 95, 97, 100, 100, 105]⟩
def Qbt : ByteArray := ⟨#[115, 101, 95, 97, 110, 100]⟩
def SV : ByteArray := ⟨#[115, 101, 95, 97, 110, 100, 99]⟩
def Qgo : ByteArray := ⟨#[115, 101, 95, 98]⟩
def QdD : ByteArray := ⟨#[115, 101, 95, 98, 99]⟩
def FT : ByteArray := ⟨#[115, 101, 95, 98, 99, 108, 114, 105]⟩
def SW : ByteArray := ⟨#[115, 101, 95, 98, 99, 116, 114]⟩
def QdE : ByteArray := ⟨#[115, 101, 95, 98, 108]⟩
def Qbu : ByteArray := ⟨#[115, 101, 95, 98, 108, 114]⟩
def FU : ByteArray := ⟨#[115, 101, 95, 98, 115, 101, 116, 105]⟩
def FV : ByteArray := ⟨#[115, 101, 95, 98, 116, 115, 116, 105]⟩
def Qbv : ByteArray := ⟨#[115, 101, 95, 99, 109, 112]⟩
def SX : ByteArray := ⟨#[115, 101, 95, 99, 109, 112, 105]⟩
def SY : ByteArray := ⟨#[115, 101, 95, 99, 109, 112, 108]⟩
def FW : ByteArray := ⟨#[115, 101, 95, 99, 109, 112, 108, 105]⟩
def FX : ByteArray := ⟨#[115, 101, 95, 101, 120, 116, 115, 98]⟩
def FY : ByteArray := ⟨#[115, 101, 95, 101, 120, 116, 115, 104]⟩
def FZ : ByteArray := ⟨#[115, 101, 95, 101, 120, 116, 122, 98]⟩
def F0 : ByteArray := ⟨#[115, 101, 95, 101, 120, 116, 122, 104]⟩
def G5 : ByteArray := ⟨#[115, 101, 95, 105, 108, 108, 101, 103, 97, 108]⟩
def F1 : ByteArray := ⟨#[115, 101, 95, 105, 115, 121, 110, 99]⟩
def Qbw : ByteArray := ⟨#[115, 101, 95, 108, 98, 122]⟩
def Qbx : ByteArray := ⟨#[115, 101, 95, 108, 104, 122]⟩
def QdF : ByteArray := ⟨#[115, 101, 95, 108, 105]⟩
def Qby : ByteArray := ⟨#[115, 101, 95, 108, 119, 122]⟩
def F2 : ByteArray := ⟨#[115, 101, 95, 109, 102, 99, 116, 114]⟩
def SZ : ByteArray := ⟨#[115, 101, 95, 109, 102, 108, 114]⟩
def QdG : ByteArray := ⟨#[115, 101, 95, 109, 114]⟩
def F3 : ByteArray := ⟨#[115, 101, 95, 109, 116, 99, 116, 114]⟩
def S6 : ByteArray := ⟨#[115, 101, 95, 109, 116, 108, 114]⟩
def F4 : ByteArray := ⟨#[115, 101, 95, 109, 117, 108, 108, 119]⟩
def Qbz : ByteArray := ⟨#[115, 101, 95, 110, 101, 103]⟩
def QbA : ByteArray := ⟨#[115, 101, 95, 110, 111, 116]⟩
def QdH : ByteArray := ⟨#[115, 101, 95, 111, 114]⟩
def QdI : ByteArray := ⟨#[115, 101, 95, 115, 99]⟩
def S7 : ByteArray := ⟨#[115, 101, 95, 115, 108, 119, 105]⟩
def S8 : ByteArray := ⟨#[115, 101, 95, 115, 114, 119, 105]⟩
def QbB : ByteArray := ⟨#[115, 101, 95, 115, 116, 98]⟩
def QbC : ByteArray := ⟨#[115, 101, 95, 115, 116, 104]⟩
def QbD : ByteArray := ⟨#[115, 101, 95, 115, 116, 119]⟩
def QbE : ByteArray := ⟨#[115, 101, 95, 115, 117, 98]⟩
def S9 : ByteArray := ⟨#[115, 101, 95, 115, 117, 98, 105]⟩
def G6 : ByteArray := ⟨#[115, 105, 122, 101]⟩
def Qgp : ByteArray := ⟨#[115, 117, 98, 102]⟩
def F5 : ByteArray := ⟨#[116, 97, 98]⟩
def s_x : ByteArray := ⟨#[120]⟩
def Qj8 : ByteArray := ⟨#[120, 111, 114]⟩
def anT : List (Nat × List (Nat × Ann)) := [
 (7, [(10, { keep := [13, 14], out := [], res := [10], own := [(12, 1)], full := false }), (17, { keep := [13, 14, 15, 16, 17, 18, 19], out := [13, 14, 16, 18], res := [10], own := [(12, 1)], full := false }), (22, { keep := [13, 14, 16, 18, 20], out := [13, 14], res := [10], own := [(12, 1)], full := false })]),
 (20, [(2, { keep := [0, 2, 4], out := [0, 2], res := [2, 3], own := [], full := false }), (12, { keep := [2, 5, 6, 7], out := [2, 5, 6, 7], res := [2, 3], own := [], full := false })]),
 (22, [(15, { keep := [1, 3, 4, 5], out := [3, 4], res := [2], own := [(4, 1)], full := false }), (21, { keep := [3, 4, 6], out := [3], res := [2], own := [(4, 1)], full := false })]),
 (24, [(2, { keep := [0, 3], out := [], res := [2], own := [], full := false })]),
 (25, [(8, { keep := [1, 2, 3, 5, 6], out := [1, 2, 3], res := [2], own := [], full := false })]),
 (28, [(4, { keep := [2, 3, 5], out := [], res := [4], own := [], full := false })]),
 (30, [(3, { keep := [0, 1, 2, 7, 8], out := [7], res := [6], own := [], full := false })]),
 (31, [(2, { keep := [2, 3, 9, 10, 11], out := [2, 3], res := [2, 3], own := [(2, 6), (3, 1)], full := false })]),
 (32, [(5, { keep := [0, 4, 5, 6, 7, 8], out := [4, 5], res := [2, 3], own := [(4, 6), (5, 1)], full := false })]),
 (36, [(4, { keep := [0, 3, 4, 5], out := [3], res := [2], own := [(3, 1)], full := false })]),
 (39, [(2, { keep := [0, 3], out := [], res := [2], own := [], full := false })]),
 (52, [(2, { keep := [0, 4], out := [0], res := [2, 3], own := [], full := false })]),
 (53, [(1, { keep := [0], out := [0], res := [2], own := [], full := false }), (3, { keep := [0], out := [0], res := [2], own := [], full := false })]),
 (54, [(3, { keep := [0, 3, 4], out := [0], res := [2], own := [], full := false })]),
 (55, [(4, { keep := [0, 3, 4, 5, 6], out := [3], res := [2], own := [(3, 1)], full := false })]),
 (58, [(5, { keep := [0, 1, 4, 7, 8, 9, 10, 11], out := [4], res := [4, 5, 6], own := [], full := false })]),
 (65, [(3, { keep := [2, 4, 5, 6], out := [4, 5], res := [4], own := [], full := false })]),
 (71, [(3, { keep := [0, 3, 4], out := [], res := [2], own := [], full := false })]),
 (72, [(2, { keep := [0, 1, 5], out := [5], res := [4], own := [], full := false })]),
 (78, [(4, { keep := [2, 3, 5], out := [], res := [4], own := [], full := false })]),
 (83, [(5, { keep := [0, 3, 4], out := [3], res := [2], own := [], full := false })]),
 (100, [(4, { keep := [0, 4], out := [0], res := [2, 3], own := [], full := false })]),
 (101, [(3, { keep := [0, 1, 6, 7], out := [6], res := [4, 5], own := [(6, 5)], full := false })]),
 (105, [(5, { keep := [0, 1, 5, 6], out := [5], res := [4], own := [], full := false })]),
 (116, [(1, { keep := [0, 1], out := [0], res := [4], own := [], full := false })]),
 (123, [(5, { keep := [3, 10, 11], out := [3], res := [2], own := [(3, 1)], full := true })]),
 (125, [(3, { keep := [0, 1, 5, 14, 15, 16], out := [1, 5], res := [4], own := [(5, 200)], full := false })]),
 (126, [(2, { keep := [0, 1, 7, 8], out := [], res := [4], own := [], full := false })]),
 (127, [(3, { keep := [0, 1, 5, 6], out := [5], res := [4], own := [], full := false })]),
 (128, [(3, { keep := [0, 5, 6, 7], out := [5], res := [4], own := [(5, 200)], full := false })]),
 (159, [(4, { keep := [0, 1, 4, 5], out := [], res := [4], own := [], full := false })]),
 (160, [(0, { keep := [0], out := [], res := [], own := [], full := false })]),
 (175, [(2, { keep := [0, 1, 7, 8], out := [], res := [4], own := [], full := false })]),
 (205, [(5, { keep := [0, 3, 4], out := [3], res := [2], own := [], full := false })]),
 (207, [(2, { keep := [0, 1, 5], out := [], res := [4], own := [], full := false })]),
 (215, [(5, { keep := [0, 1, 4, 5, 6], out := [4, 5], res := [4], own := [], full := false })]),
 (235, [(2, { keep := [0, 1, 4, 5, 6], out := [0, 4, 5, 6], res := [4], own := [], full := false })]),
 (237, [(2, { keep := [0, 2, 3], out := [0, 2, 3], res := [2], own := [], full := false })]),
 (244, [(2, { keep := [0, 7, 8, 9], out := [], res := [4], own := [], full := false })]),
 (266, [(2, { keep := [0, 1, 8], out := [0], res := [4], own := [], full := false })]),
 (269, [(3, { keep := [0, 1, 2, 6, 7, 12], out := [0, 1, 6, 7], res := [6], own := [], full := false })])]
def kdT : List (Nat × List Nat) := [(37, [0, 0, 0, 0, 0, 5]), (56, [129, 131, 178]), (60, [0, 1]), (113, [0, 0, 0, 0, 0, 5])]
def extT : List (Nat × (List AV → Heap → Option (AV × Heap))) := [(23, knownX), (70, indexByteX), (74, trimX), (77, (cloneF 5 64)), (79, splitX), (80, (cloneF 6 80)), (81, (cloneV 8)), (145, fieldsX), (177, containsX), (241, atoiX)]
def G : Cfg := { ext := fun f => get f extT, an := fun f r => ((get f anT).bind (get r)).getD {}, kd := fun t => (get t kdT).getD [] }
def anT0 : List (Nat × List (Nat × Ann)) := [
 (26, [(15, { keep := [1, 3, 4, 40, 41, 42], out := [1, 3, 4], res := [2], own := [(4, 1)], full := false })]),
 (31, [(2, { keep := [2, 3, 9, 10, 11], out := [2, 3], res := [2, 3], own := [(2, 6), (3, 1)], full := false })]),
 (71, [(3, { keep := [0, 3, 4], out := [], res := [2], own := [], full := false })]),
 (72, [(2, { keep := [0, 1, 5], out := [5], res := [4], own := [], full := false })]),
 (116, [(1, { keep := [0, 1], out := [0], res := [4], own := [], full := false })]),
 (123, [(5, { keep := [3, 10, 11], out := [3], res := [2], own := [(3, 1)], full := true })]),
 (125, [(3, { keep := [0, 1, 5, 14, 15, 16], out := [1, 5], res := [4], own := [(5, 200)], full := false })]),
 (126, [(2, { keep := [0, 1, 7, 8], out := [], res := [4], own := [], full := false })]),
 (127, [(3, { keep := [0, 1, 5, 6], out := [5], res := [4], own := [], full := false })]),
 (128, [(3, { keep := [0, 5, 6, 7], out := [5], res := [4], own := [(5, 200)], full := false })]),
 (175, [(2, { keep := [0, 1, 7, 8], out := [], res := [4], own := [], full := false })]),
 (215, [(5, { keep := [0, 1, 4, 5, 6], out := [4, 5], res := [4], own := [], full := false })]),
 (244, [(2, { keep := [0, 7, 8, 9], out := [], res := [4], own := [], full := false })]),
 (266, [(2, { keep := [0, 1, 8], out := [0], res := [4], own := [], full := false })]),
 (269, [(3, { keep := [0, 1, 2, 6, 7, 12], out := [0, 1, 6, 7], res := [6], own := [], full := false })])]
def kdT0 : List (Nat × List Nat) := [(37, [0, 0, 0, 0, 0, 5]), (56, [129, 131, 178]), (113, [0, 0, 0, 0, 0, 5])]
def extT0 : List (Nat × (List AV → Heap → Option (AV × Heap))) := [(69, joinX), (70, indexByteX), (74, trimX), (77, (cloneF 5 64)), (79, splitX), (80, (cloneF 6 80)), (81, (cloneV 8)), (93, itoaX), (145, fieldsX), (177, containsX), (241, atoiX)]
def G0 : Cfg := { ext := fun f => get f extT0, an := fun f r => ((get f anT0).bind (get r)).getD {}, kd := fun t => (get t kdT0).getD [] }
theorem QqR : evalFn Tryz.prog G0 2000 23 [] [] = some (.sc (.bool true), []) := by kernel_rfl
noncomputable abbrev pp : Program := Tryz.prog
abbrev AH := AV × Heap
abbrev XS := Ex × St
noncomputable abbrev ww : CallF := evW Tryz.prog G
noncomputable abbrev lw (m f : Nat) : Loops := lpW Tryz.prog G m (G.an f)
def Ql (r : Bool) : AV × Heap := (xo r, [])
abbrev QrR := Option Bool
noncomputable def Fk : Option Bool := (some true)
noncomputable abbrev QqS {ρ R : Type} (k : Bool → Tr ρ R) : Tr ρ R := .call (ww 23 [] []) (Fk) Ql k
theorem Fk.ok {r : Bool} (h : Fk = some r) : ww 23 [] [] = some (Ql r) := (GJ rfl _ _).trans (QsX h)
def Qm (r : Int) : AV × Heap := (xi r, [])
abbrev Ez := Int → Int → Option Int
def Qin (a0 : Int) (a1 : Int) : Option Int := (bif (decide (a1 ≠ 0)) then (bif (decide ((Int.tmod a0 a1) < 0)) then (some (w64 ((Int.tmod a0 a1) + a1))) else (some (Int.tmod a0 a1))) else none)
noncomputable def QG : Ez := Qin
theorem QG.eq (a0 : Int) (a1 : Int) : QG a0 a1 = Qin a0 a1 := rfl
noncomputable def Qpc (a0 : Int) (a1 : Int) : Tr Int AH := (.as (decide (a1 ≠ 0)) (.as (decide ((Int.tmod a0 a1) < 0)) (rt Qm (w64 ((Int.tmod a0 a1) + a1))) (rt Qm (Int.tmod a0 a1))) .fail)
theorem QG.ok {a0 : Int} {a1 : Int} {r : Int} (h : QG a0 a1 = some r) : ww 29 [xi a0, xi a1] [] = some (Qm r) := by
 refine fnP (Qpc a0 a1) ?_ h
 exact ⟨rfl, fun q0 => ⟨rfl, fun q1 => rfl, fun q1 => rfl⟩, fun q0 => trivial⟩
noncomputable abbrev Jd {ρ R : Type} (a0 : Int) (a1 : Int) (k : Int → Tr ρ R) : Tr ρ R := .call (ww 29 [xi a0, xi a1] []) (QG a0 a1) Qm k
abbrev SE := Int → Option Bool
def QbF (a0 : Int) : Option Bool := (bif (decide (a0 ≥ 48)) then (some (decide (a0 ≤ (57 : Int)))) else (some false))
noncomputable def VN : SE := QbF
theorem VN.eq (a0 : Int) : VN a0 = QbF a0 := rfl
noncomputable def QnC (a0 : Int) : Tr Bool AH := (let u1 := (decide (a0 ≥ 48)); .as u1 (yesN 2 u1 (rt Ql (decide (a0 ≤ (zi 57))))) (noN 2 u1 (rt Ql false)))
theorem VN.ok {a0 : Int} {r : Bool} (h : VN a0 = some r) : ww 82 [xb a0] [] = some (Ql r) := by
 refine fnP (QnC a0) ?_ h
 exact ⟨rfl, fun q0 => Qj 2 (q0) (rfl), fun q0 => noN_ok 2 (q0) (rfl)⟩
noncomputable abbrev F6 {ρ R : Type} (a0 : Int) (k : Bool → Tr ρ R) : Tr ρ R := .call (ww 82 [xb a0] []) (VN a0) Ql k
abbrev Qio := Int → Option Bool
def QbG (C0 : SE) (a0 : Int) : Option Bool := (bif (decide (a0 ≥ 97)) then (bif (decide (a0 ≤ (122 : Int))) then (some true) else (bif (a0 == 95) then (some true) else ((C0 a0).bind fun r1 => (some r1)))) else (bif (a0 == 95) then (some true) else ((C0 a0).bind fun r2 => (some r2))))
noncomputable def Yl : Qio := QbG VN
theorem Yl.eq (a0 : Int) : Yl a0 = QbG VN a0 := rfl
noncomputable def QnD (a0 : Int) : Tr Bool AH := (let u5 := (decide (a0 ≥ 97)); .as u5 (yesN 2 u5 (let u3 := (decide (a0 ≤ (zi 122))); .as u3 (yesN 2 u3 (yesN 3 true (rt Ql true))) (noN 2 u3 (let u2 := (a0 == 95); .as u2 (yesN 2 u2 (rt Ql true)) (.no u2 (F6 a0 fun r1 => (.no u2 (rt Ql r1)))))))) (noN 2 u5 (noN 3 false (let u4 := (a0 == 95); .as u4 (yesN 2 u4 (rt Ql true)) (.no u4 (F6 a0 fun r2 => (.no u4 (rt Ql r2))))))))
theorem Yl.ok {a0 : Int} {r : Bool} (h : Yl a0 = some r) : ww 73 [xb a0] [] = some (Ql r) := by
 refine fnP (QnD a0) ?_ h
 exact ⟨rfl, fun q0 => Qj 2 (q0) (⟨rfl, fun q1 => Qj 2 (q1) (Qj 3 (rfl) (rfl)), fun q1 => noN_ok 2 (q1) (⟨rfl, fun q2 => Qj 2 (q2) (rfl), fun q2 => ⟨q2, fun r1 h => ⟨VN.ok h, ⟨q2, rfl⟩⟩⟩⟩)⟩), fun q0 => noN_ok 2 (q0) (noN_ok 3 (rfl) (⟨rfl, fun q1 => Qj 2 (q1) (rfl), fun q1 => ⟨q1, fun r2 h => ⟨VN.ok h, ⟨q1, rfl⟩⟩⟩⟩))⟩
noncomputable abbrev QnE {ρ R : Type} (a0 : Int) (k : Bool → Tr ρ R) : Tr ρ R := .call (ww 73 [xb a0] []) (Yl a0) Ql k
abbrev QcU := ByteArray → Option Int
structure U2 where
 x0 : ByteArray
 x5 : Int
def F7 (a : U2) : St := { n := 20, nx := 0, env := [(0, xs a.x0), (1, .fn (.func 73) [] []), (5, xi a.x5)], heap := [] }
def GV (a : Int) : Ex × St := (.exit 0, { n := 20, nx := 0, env := [(5, xi a)], heap := [] })
abbrev QdJ := U2 → Option Int
def F8 (C0 : Qio) (a : U2) : Option (U2 ⊕ Int) := (bif (decide (a.x5 < ((a.x0.size : Nat) : Int))) then (bif (decide (0 ≤ a.x5 ∧ a.x5 < ((a.x0.size : Nat) : Int))) then ((C0 ((a.x0.data.getD (Int.toNat a.x5) 0).toNat : Int)).bind fun r1 => (bif r1 then (some (.inl (U2.mk a.x0 (w64 (a.x5 + 1))))) else (some (.inr a.x5)))) else none) else (some (.inr a.x5)))
noncomputable def W3 : QdJ := loopW (F8 Yl)
theorem W3.eq (a : U2) : W3 a = (F8 Yl a).bind (Sum.elim W3 some) := Ja _ _
noncomputable abbrev Qj9 {ρ R : Type} (a : U2) (k0 : Int → Tr ρ R) : Tr ρ R := .loop (loopAt pp 72 2) (F7 a) (W3 a) GV k0
noncomputable def Qka (a : U2) : Tr (U2 ⊕ Int) XS := (let u6 := (decide (a.x5 < (zz a.x0))); .as u6 (yesN 3 u6 (.as (in1 a.x5 (zz a.x0)) (.yes u6 (QnE (gb a.x0 a.x5) fun r1 => (.yes u6 (.as r1 (lf F7 (U2.mk a.x0 (w64 (a.x5 + 1)))) (rx GV a.x5))))) .fail)) (noN 5 u6 (.no false (rx GV a.x5))))
theorem W3.ok {a : U2} {r : Int} (h : W3 a = some r) : lw 0 72 (loopAt pp 72 2) (F7 a) = some (GV r) := by
 refine lpP h Qka fun a => ?_
 exact ⟨rfl, fun q0 => Qj 3 (q0) (⟨rfl, fun q1 => ⟨q0, fun r1 h => ⟨Yl.ok h, ⟨q0, ⟨rfl, fun q2 => rfl, fun q2 => rfl⟩⟩⟩⟩, fun q1 => trivial⟩), fun q0 => noN_ok 5 (q0) (⟨rfl, rfl⟩)⟩
def QbH (L0 : QdJ) (a0 : ByteArray) : Option Int := ((L0 (U2.mk a0 (0 : Int))).bind (fun (o1 : Int) => (some o1)))
noncomputable def Xb : QcU := QbH W3
theorem Xb.eq (a0 : ByteArray) : Xb a0 = QbH W3 a0 := rfl
noncomputable def QnF (a0 : ByteArray) : Tr Int AH := (Qj9 (U2.mk a0 i0) (fun o1 => (rt Qm o1)))
theorem Xb.ok {a0 : ByteArray} {r : Int} (h : Xb a0 = some r) : ww 72 [xs a0, .fn (.func 73) [] []] [] = some (Qm r) := by
 refine fnP (QnF a0) ?_ h
 exact fun o1 h => ⟨W3.ok h, rfl⟩
noncomputable abbrev Qgq {ρ R : Type} (a0 : ByteArray) (k : Int → Tr ρ R) : Tr ρ R := .call (ww 72 [xs a0, .fn (.func 73) [] []] []) (Xb a0) Qm k
abbrev Qat := ByteArray → Option Int
structure Uz where
 x0 : ByteArray
 x5 : Int
def EL (a : Uz) : St := { n := 20, nx := 0, env := [(0, xs a.x0), (1, .fn (.func 82) [] []), (5, xi a.x5)], heap := [] }
def Z0 (a : Int) : Ex × St := (.exit 0, { n := 20, nx := 0, env := [(5, xi a)], heap := [] })
abbrev QbI := Uz → Option Int
def EM (C0 : SE) (a : Uz) : Option (Uz ⊕ Int) := (bif (decide (a.x5 < ((a.x0.size : Nat) : Int))) then (bif (decide (0 ≤ a.x5 ∧ a.x5 < ((a.x0.size : Nat) : Int))) then ((C0 ((a.x0.data.getD (Int.toNat a.x5) 0).toNat : Int)).bind fun r1 => (bif r1 then (some (.inl (Uz.mk a.x0 (w64 (a.x5 + 1))))) else (some (.inr a.x5)))) else none) else (some (.inr a.x5)))
noncomputable def Wk : QbI := loopW (EM VN)
theorem Wk.eq (a : Uz) : Wk a = (EM VN a).bind (Sum.elim Wk some) := Ja _ _
noncomputable abbrev QhW {ρ R : Type} (a : Uz) (k0 : Int → Tr ρ R) : Tr ρ R := .loop (loopAt pp 72 2) (EL a) (Wk a) Z0 k0
noncomputable def QhX (a : Uz) : Tr (Uz ⊕ Int) XS := (let u7 := (decide (a.x5 < (zz a.x0))); .as u7 (yesN 3 u7 (.as (in1 a.x5 (zz a.x0)) (.yes u7 (F6 (gb a.x0 a.x5) fun r1 => (.yes u7 (.as r1 (lf EL (Uz.mk a.x0 (w64 (a.x5 + 1)))) (rx Z0 a.x5))))) .fail)) (noN 5 u7 (.no false (rx Z0 a.x5))))
theorem Wk.ok {a : Uz} {r : Int} (h : Wk a = some r) : lw 0 72 (loopAt pp 72 2) (EL a) = some (Z0 r) := by
 refine lpP h QhX fun a => ?_
 exact ⟨rfl, fun q0 => Qj 3 (q0) (⟨rfl, fun q1 => ⟨q0, fun r1 h => ⟨VN.ok h, ⟨q0, ⟨rfl, fun q2 => rfl, fun q2 => rfl⟩⟩⟩⟩, fun q1 => trivial⟩), fun q0 => noN_ok 5 (q0) (⟨rfl, rfl⟩)⟩
def P5 (L0 : QbI) (a0 : ByteArray) : Option Int := ((L0 (Uz.mk a0 (0 : Int))).bind (fun (o1 : Int) => (some o1)))
noncomputable def Wa : Qat := P5 Wk
theorem Wa.eq (a0 : ByteArray) : Wa a0 = P5 Wk a0 := rfl
noncomputable def Qk6 (a0 : ByteArray) : Tr Int AH := (QhW (Uz.mk a0 i0) (fun o1 => (rt Qm o1)))
theorem Wa.ok {a0 : ByteArray} {r : Int} (h : Wa a0 = some r) : ww 72 [xs a0, .fn (.func 82) [] []] [] = some (Qm r) := by
 refine fnP (Qk6 a0) ?_ h
 exact fun o1 h => ⟨Wk.ok h, rfl⟩
noncomputable abbrev QdK {ρ R : Type} (a0 : ByteArray) (k : Int → Tr ρ R) : Tr ρ R := .call (ww 72 [xs a0, .fn (.func 82) [] []] []) (Wa a0) Qm k
abbrev Qes := ByteArray → Option Bool
def QcV (C0 : SE) (C1 : QcU) (C2 : Qat) (a0 : ByteArray) : Option Bool := (bif (eqS a0 s_) then (some false) else (bif (decide (((a0.size : Nat) : Int) > 12)) then (some false) else (bif (decide (0 ≤ (0 : Int) ∧ (0 : Int) < ((a0.size : Nat) : Int))) then ((C0 ((a0.data.getD (Int.toNat 0) 0).toNat : Int)).bind fun r1 => (bif r1 then (some false) else ((C1 a0).bind fun r2 => (bif (r2 != ((a0.size : Nat) : Int)) then (some false) else (bif (((a0.data.getD (Int.toNat 0) 0).toNat : Int) != 114) then (some true) else (bif (((a0.size : Nat) : Int) == 1) then (some true) else (bif (decide (0 ≤ (1 : Int) ∧ (1 : Int) ≤ ((a0.size : Nat) : Int) ∧ ((a0.size : Nat) : Int) ≤ ((a0.size : Nat) : Int))) then ((C2 (a0.extract (Int.toNat 1) (Int.toNat ((a0.size : Nat) : Int)))).bind fun r3 => (some (r3 != (w64 (((a0.size : Nat) : Int) - 1))))) else none))))))) else none)))
noncomputable def XG : Qes := QcV VN Xb Wa
theorem XG.eq (a0 : ByteArray) : XG a0 = QcV VN Xb Wa a0 := rfl
noncomputable def Qpd (a0 : ByteArray) : Tr Bool AH := (let u12 := (eqS a0 s_); .as u12 (yesN 3 u12 (yesN 11 true (rt Ql false))) (noN 3 u12 (let u11 := (decide ((zz a0) > 12)); .as u11 (yesN 3 u11 (yesN 7 true (rt Ql false))) (.no u11 (let u10 := (in1 i0 (zz a0)); .as u10 (.no u11 (F6 (gb a0 i0) fun r1 => (.no u11 (.as r1 (yesN 5 r1 (.yes true (rt Ql false))) (.no r1 (Qgq a0 fun r2 => (noN 4 r1 (.as (r2 != (zz a0)) (rt Ql false) (.yes u10 (let u9 := ((gb a0 i0) != 114); .as u9 (yesN 3 u9 (yesN 8 true (rt Ql true))) (noN 3 u9 (let u8 := ((zz a0) == 1); .as u8 (yesN 7 u8 (rt Ql true)) (.no u8 (.as (in2 (zi 1) (zz a0) (zz a0)) (.no u8 (QdK (cu a0 (zi 1) (zz a0)) fun r3 => (noN 5 u8 (rt Ql (r3 != (w64 ((zz a0) - 1))))))) .fail)))))))))))))) .fail)))))
theorem XG.ok {a0 : ByteArray} {r : Bool} (h : XG a0 = some r) : ww 33 [xs a0] [] = some (Ql r) := by
 refine fnP (Qpd a0) ?_ h
 exact ⟨rfl, fun q0 => Qj 3 (q0) (Qj 11 (rfl) (rfl)), fun q0 => noN_ok 3 (q0) (⟨rfl, fun q1 => Qj 3 (q1) (Qj 7 (rfl) (rfl)), fun q1 => ⟨q1, ⟨rfl, fun q2 => ⟨q1, fun r1 h => ⟨VN.ok h, ⟨q1, ⟨rfl, fun q3 => Qj 5 (q3) (⟨rfl, rfl⟩), fun q3 => ⟨q3, fun r2 h => ⟨Xb.ok h, noN_ok 4 (q3) (⟨rfl, fun q4 => rfl, fun q4 => ⟨q2, ⟨rfl, fun q5 => Qj 3 (q5) (Qj 8 (rfl) (rfl)), fun q5 => noN_ok 3 (q5) (⟨rfl, fun q6 => Qj 7 (q6) (rfl), fun q6 => ⟨q6, ⟨rfl, fun q7 => ⟨q6, fun r3 h => ⟨Wa.ok h, noN_ok 5 (q6) (rfl)⟩⟩, fun q7 => trivial⟩⟩⟩)⟩⟩⟩)⟩⟩⟩⟩⟩⟩, fun q2 => trivial⟩⟩⟩)⟩
noncomputable abbrev Qip {ρ R : Type} (a0 : ByteArray) (k : Bool → Tr ρ R) : Tr ρ R := .call (ww 33 [xs a0] []) (XG a0) Ql k
abbrev Qjc := ByteArray → Option Bool
structure Qz where
 x0 : ByteArray
 x3 : Bool
 x4 : Int
def J3 (a : Qz) : St := { n := 65, nx := 0, env := [(0, xs a.x0), (3, xo a.x3), (4, xi a.x4)], heap := [] }
def Qe7 (a : Bool) : Ex × St := (.ret, { n := 65, nx := 0, env := [(2, xo a)], heap := [] })
def Qe8 (a : Bool) : Ex × St := (.exit 0, { n := 65, nx := 0, env := [(3, xo a)], heap := [] })
def Xs (a : (Bool ⊕ Bool)) : Ex × St := Sum.elim Qe7 Qe8 a
abbrev Qiq := Qz → Option (Bool ⊕ Bool)
def Z9 (a : Qz) : Option (Qz ⊕ (Bool ⊕ Bool)) := (bif (decide (a.x4 < ((a.x0.size : Nat) : Int))) then (bif (decide (0 ≤ a.x4 ∧ a.x4 < ((a.x0.size : Nat) : Int))) then (bif (decide (((a.x0.data.getD (Int.toNat a.x4) 0).toNat : Int) ≥ 48)) then (bif (decide (((a.x0.data.getD (Int.toNat a.x4) 0).toNat : Int) ≥ 97)) then (bif (!(decide (((a.x0.data.getD (Int.toNat a.x4) 0).toNat : Int) ≤ 122))) then (bif (((a.x0.data.getD (Int.toNat a.x4) 0).toNat : Int) != 95) then (bif (a.x4 == 0) then (some (.inr (.inl false))) else (bif (!(decide (((a.x0.data.getD (Int.toNat a.x4) 0).toNat : Int) ≤ 57))) then (some (.inr (.inl false))) else (bif (decide (a.x4 > 0)) then (some (.inl (Qz.mk a.x0 a.x3 (w64 (a.x4 + 1))))) else (some (.inl (Qz.mk a.x0 a.x3 (w64 (a.x4 + 1)))))))) else (bif (decide (a.x4 > 0)) then (bif (!(decide (((a.x0.data.getD (Int.toNat a.x4) 0).toNat : Int) ≤ 57))) then (some (.inl (Qz.mk a.x0 false (w64 (a.x4 + 1))))) else (some (.inl (Qz.mk a.x0 a.x3 (w64 (a.x4 + 1)))))) else (some (.inl (Qz.mk a.x0 a.x3 (w64 (a.x4 + 1))))))) else (bif (decide (a.x4 > 0)) then (bif (!(decide (((a.x0.data.getD (Int.toNat a.x4) 0).toNat : Int) ≤ 57))) then (some (.inl (Qz.mk a.x0 false (w64 (a.x4 + 1))))) else (some (.inl (Qz.mk a.x0 a.x3 (w64 (a.x4 + 1)))))) else (some (.inl (Qz.mk a.x0 a.x3 (w64 (a.x4 + 1))))))) else (bif (((a.x0.data.getD (Int.toNat a.x4) 0).toNat : Int) != 95) then (bif (a.x4 == 0) then (some (.inr (.inl false))) else (bif (!(decide (((a.x0.data.getD (Int.toNat a.x4) 0).toNat : Int) ≤ 57))) then (some (.inr (.inl false))) else (bif (decide (a.x4 > 0)) then (some (.inl (Qz.mk a.x0 a.x3 (w64 (a.x4 + 1))))) else (some (.inl (Qz.mk a.x0 a.x3 (w64 (a.x4 + 1)))))))) else (bif (decide (a.x4 > 0)) then (bif (!(decide (((a.x0.data.getD (Int.toNat a.x4) 0).toNat : Int) ≤ 57))) then (some (.inl (Qz.mk a.x0 false (w64 (a.x4 + 1))))) else (some (.inl (Qz.mk a.x0 a.x3 (w64 (a.x4 + 1)))))) else (some (.inl (Qz.mk a.x0 a.x3 (w64 (a.x4 + 1)))))))) else (bif (decide (((a.x0.data.getD (Int.toNat a.x4) 0).toNat : Int) ≥ 97)) then (bif (!(decide (((a.x0.data.getD (Int.toNat a.x4) 0).toNat : Int) ≤ 122))) then (bif (((a.x0.data.getD (Int.toNat a.x4) 0).toNat : Int) != 95) then (bif (a.x4 == 0) then (some (.inr (.inl false))) else (some (.inr (.inl false)))) else (bif (decide (a.x4 > 0)) then (some (.inl (Qz.mk a.x0 false (w64 (a.x4 + 1))))) else (some (.inl (Qz.mk a.x0 a.x3 (w64 (a.x4 + 1))))))) else (bif (decide (a.x4 > 0)) then (some (.inl (Qz.mk a.x0 false (w64 (a.x4 + 1))))) else (some (.inl (Qz.mk a.x0 a.x3 (w64 (a.x4 + 1))))))) else (bif (((a.x0.data.getD (Int.toNat a.x4) 0).toNat : Int) != 95) then (bif (a.x4 == 0) then (some (.inr (.inl false))) else (some (.inr (.inl false)))) else (bif (decide (a.x4 > 0)) then (some (.inl (Qz.mk a.x0 false (w64 (a.x4 + 1))))) else (some (.inl (Qz.mk a.x0 a.x3 (w64 (a.x4 + 1))))))))) else none) else (some (.inr (.inr a.x3))))
noncomputable def VO : Qiq := loopW (Z9 )
theorem VO.eq (a : Qz) : VO a = (Z9 a).bind (Sum.elim VO some) := Ja _ _
noncomputable abbrev Qgr {ρ R : Type} (a : Qz) (k0 : Bool → Tr ρ R) (k1 : Bool → Tr ρ R) : Tr ρ R := .loop2 (loopAt pp 83 5) (J3 a) (VO a) Qe7 Qe8 k0 k1
noncomputable def QnG (a : Qz) : Tr (Qz ⊕ (Bool ⊕ Bool)) XS := (.as (decide (a.x4 < (zz a.x0))) (.as (in1 a.x4 (zz a.x0)) (let u35 := (decide ((gb a.x0 a.x4) ≥ 48)); .as u35 (yesN 2 u35 (let u25 := (decide ((gb a.x0 a.x4) ≥ 97)); .as u25 (yesN 2 u25 (let u19 := (!(decide ((gb a.x0 a.x4) ≤ 122))); .as u19 (yesN 2 u19 (let u17 := ((gb a.x0 a.x4) != 95); .as u17 (yesN 2 u17 (let u15 := (a.x4 == 0); .as u15 (.yes u15 (.yes u17 (.yes u15 (.yes u17 (.yes true (rx Xs (.inl false))))))) (.no u15 (.yes u17 (.no u15 (.yes u17 (let u14 := (!(decide ((gb a.x0 a.x4) ≤ 57))); .as u14 (rx Xs (.inl false)) (let u13 := (decide (a.x4 > 0)); .as u13 (yesN 2 u13 (.no u14 (lf J3 (Qz.mk a.x0 a.x3 (w64 (a.x4 + 1)))))) (noN 2 u13 (.no false (lf J3 (Qz.mk a.x0 a.x3 (w64 (a.x4 + 1)))))))))))))) (noN 4 u17 (.no false (let u16 := (decide (a.x4 > 0)); .as u16 (yesN 2 u16 (.as (!(decide ((gb a.x0 a.x4) ≤ 57))) (lf J3 (Qz.mk a.x0 false (w64 (a.x4 + 1)))) (lf J3 (Qz.mk a.x0 a.x3 (w64 (a.x4 + 1)))))) (noN 2 u16 (.no false (lf J3 (Qz.mk a.x0 a.x3 (w64 (a.x4 + 1))))))))))) (noN 2 u19 (noN 6 false (let u18 := (decide (a.x4 > 0)); .as u18 (yesN 2 u18 (.as (!(decide ((gb a.x0 a.x4) ≤ 57))) (lf J3 (Qz.mk a.x0 false (w64 (a.x4 + 1)))) (lf J3 (Qz.mk a.x0 a.x3 (w64 (a.x4 + 1)))))) (noN 2 u18 (.no false (lf J3 (Qz.mk a.x0 a.x3 (w64 (a.x4 + 1))))))))))) (noN 2 u25 (yesN 3 true (let u24 := ((gb a.x0 a.x4) != 95); .as u24 (yesN 2 u24 (let u22 := (a.x4 == 0); .as u22 (.yes u22 (.yes u24 (.yes u22 (.yes u24 (.yes true (rx Xs (.inl false))))))) (.no u22 (.yes u24 (.no u22 (.yes u24 (let u21 := (!(decide ((gb a.x0 a.x4) ≤ 57))); .as u21 (rx Xs (.inl false)) (let u20 := (decide (a.x4 > 0)); .as u20 (yesN 2 u20 (.no u21 (lf J3 (Qz.mk a.x0 a.x3 (w64 (a.x4 + 1)))))) (noN 2 u20 (.no false (lf J3 (Qz.mk a.x0 a.x3 (w64 (a.x4 + 1)))))))))))))) (noN 4 u24 (.no false (let u23 := (decide (a.x4 > 0)); .as u23 (yesN 2 u23 (.as (!(decide ((gb a.x0 a.x4) ≤ 57))) (lf J3 (Qz.mk a.x0 false (w64 (a.x4 + 1)))) (lf J3 (Qz.mk a.x0 a.x3 (w64 (a.x4 + 1)))))) (noN 2 u23 (.no false (lf J3 (Qz.mk a.x0 a.x3 (w64 (a.x4 + 1)))))))))))))) (noN 2 u35 (let u34 := (decide ((gb a.x0 a.x4) ≥ 97)); .as u34 (yesN 2 u34 (let u30 := (!(decide ((gb a.x0 a.x4) ≤ 122))); .as u30 (yesN 2 u30 (let u28 := ((gb a.x0 a.x4) != 95); .as u28 (yesN 2 u28 (let u26 := (a.x4 == 0); .as u26 (.yes u26 (.yes u28 (.yes u26 (.yes u28 (.yes true (rx Xs (.inl false))))))) (.no u26 (.yes u28 (.no u26 (.yes u28 (.yes true (rx Xs (.inl false))))))))) (noN 4 u28 (.no false (let u27 := (decide (a.x4 > 0)); .as u27 (yesN 2 u27 (.yes true (lf J3 (Qz.mk a.x0 false (w64 (a.x4 + 1)))))) (noN 2 u27 (.no false (lf J3 (Qz.mk a.x0 a.x3 (w64 (a.x4 + 1))))))))))) (noN 2 u30 (noN 6 false (let u29 := (decide (a.x4 > 0)); .as u29 (yesN 2 u29 (.yes true (lf J3 (Qz.mk a.x0 false (w64 (a.x4 + 1)))))) (noN 2 u29 (.no false (lf J3 (Qz.mk a.x0 a.x3 (w64 (a.x4 + 1))))))))))) (noN 2 u34 (yesN 3 true (let u33 := ((gb a.x0 a.x4) != 95); .as u33 (yesN 2 u33 (let u31 := (a.x4 == 0); .as u31 (.yes u31 (.yes u33 (.yes u31 (.yes u33 (.yes true (rx Xs (.inl false))))))) (.no u31 (.yes u33 (.no u31 (.yes u33 (.yes true (rx Xs (.inl false))))))))) (noN 4 u33 (.no false (let u32 := (decide (a.x4 > 0)); .as u32 (yesN 2 u32 (.yes true (lf J3 (Qz.mk a.x0 false (w64 (a.x4 + 1)))))) (noN 2 u32 (.no false (lf J3 (Qz.mk a.x0 a.x3 (w64 (a.x4 + 1))))))))))))))) .fail) (rx Xs (.inr a.x3)))
theorem VO.ok {a : Qz} {r : (Bool ⊕ Bool)} (h : VO a = some r) : lw 0 83 (loopAt pp 83 5) (J3 a) = some (Xs r) := by
 refine lpP h QnG fun a => ?_
 exact ⟨rfl, fun q0 => ⟨rfl, fun q1 => ⟨rfl, fun q2 => Qj 2 (q2) (⟨rfl, fun q3 => Qj 2 (q3) (⟨rfl, fun q4 => Qj 2 (q4) (⟨rfl, fun q5 => Qj 2 (q5) (⟨rfl, fun q6 => ⟨q6, ⟨q5, ⟨q6, ⟨q5, ⟨rfl, rfl⟩⟩⟩⟩⟩, fun q6 => ⟨q6, ⟨q5, ⟨q6, ⟨q5, ⟨rfl, fun q7 => rfl, fun q7 => ⟨rfl, fun q8 => Qj 2 (q8) (⟨q7, rfl⟩), fun q8 => noN_ok 2 (q8) (⟨rfl, rfl⟩)⟩⟩⟩⟩⟩⟩⟩), fun q5 => noN_ok 4 (q5) (⟨rfl, ⟨rfl, fun q6 => Qj 2 (q6) (⟨rfl, fun q7 => rfl, fun q7 => rfl⟩), fun q6 => noN_ok 2 (q6) (⟨rfl, rfl⟩)⟩⟩)⟩), fun q4 => noN_ok 2 (q4) (noN_ok 6 (rfl) (⟨rfl, fun q5 => Qj 2 (q5) (⟨rfl, fun q6 => rfl, fun q6 => rfl⟩), fun q5 => noN_ok 2 (q5) (⟨rfl, rfl⟩)⟩))⟩), fun q3 => noN_ok 2 (q3) (Qj 3 (rfl) (⟨rfl, fun q4 => Qj 2 (q4) (⟨rfl, fun q5 => ⟨q5, ⟨q4, ⟨q5, ⟨q4, ⟨rfl, rfl⟩⟩⟩⟩⟩, fun q5 => ⟨q5, ⟨q4, ⟨q5, ⟨q4, ⟨rfl, fun q6 => rfl, fun q6 => ⟨rfl, fun q7 => Qj 2 (q7) (⟨q6, rfl⟩), fun q7 => noN_ok 2 (q7) (⟨rfl, rfl⟩)⟩⟩⟩⟩⟩⟩⟩), fun q4 => noN_ok 4 (q4) (⟨rfl, ⟨rfl, fun q5 => Qj 2 (q5) (⟨rfl, fun q6 => rfl, fun q6 => rfl⟩), fun q5 => noN_ok 2 (q5) (⟨rfl, rfl⟩)⟩⟩)⟩))⟩), fun q2 => noN_ok 2 (q2) (⟨rfl, fun q3 => Qj 2 (q3) (⟨rfl, fun q4 => Qj 2 (q4) (⟨rfl, fun q5 => Qj 2 (q5) (⟨rfl, fun q6 => ⟨q6, ⟨q5, ⟨q6, ⟨q5, ⟨rfl, rfl⟩⟩⟩⟩⟩, fun q6 => ⟨q6, ⟨q5, ⟨q6, ⟨q5, ⟨rfl, rfl⟩⟩⟩⟩⟩⟩), fun q5 => noN_ok 4 (q5) (⟨rfl, ⟨rfl, fun q6 => Qj 2 (q6) (⟨rfl, rfl⟩), fun q6 => noN_ok 2 (q6) (⟨rfl, rfl⟩)⟩⟩)⟩), fun q4 => noN_ok 2 (q4) (noN_ok 6 (rfl) (⟨rfl, fun q5 => Qj 2 (q5) (⟨rfl, rfl⟩), fun q5 => noN_ok 2 (q5) (⟨rfl, rfl⟩)⟩))⟩), fun q3 => noN_ok 2 (q3) (Qj 3 (rfl) (⟨rfl, fun q4 => Qj 2 (q4) (⟨rfl, fun q5 => ⟨q5, ⟨q4, ⟨q5, ⟨q4, ⟨rfl, rfl⟩⟩⟩⟩⟩, fun q5 => ⟨q5, ⟨q4, ⟨q5, ⟨q4, ⟨rfl, rfl⟩⟩⟩⟩⟩⟩), fun q4 => noN_ok 4 (q4) (⟨rfl, ⟨rfl, fun q5 => Qj 2 (q5) (⟨rfl, rfl⟩), fun q5 => noN_ok 2 (q5) (⟨rfl, rfl⟩)⟩⟩)⟩))⟩)⟩, fun q1 => trivial⟩, fun q0 => rfl⟩
def Qgs (L0 : Qiq) (a0 : ByteArray) : Option Bool := (bif (decide (((a0.size : Nat) : Int) < 1)) then (some false) else (bif (decide (((a0.size : Nat) : Int) > 12)) then (some false) else (bif (decide (0 ≤ (0 : Int) ∧ (0 : Int) < ((a0.size : Nat) : Int))) then (bif (((a0.data.getD (Int.toNat 0) 0).toNat : Int) == 114) then ((L0 (Qz.mk a0 (decide (((a0.size : Nat) : Int) > 1)) (0 : Int))).bind fun x => Sum.elim (fun (o1 : Bool) => (some o1)) (fun (o2 : Bool) => (some (!o2))) x) else ((L0 (Qz.mk a0 false (0 : Int))).bind fun x => Sum.elim (fun (o3 : Bool) => (some o3)) (fun (o4 : Bool) => (some (!o4))) x)) else none)))
noncomputable def YZ : Qjc := Qgs VO
theorem YZ.eq (a0 : ByteArray) : YZ a0 = Qgs VO a0 := rfl
noncomputable def QrS (a0 : ByteArray) : Tr Bool AH := (let u37 := (decide ((zz a0) < 1)); .as u37 (yesN 3 u37 (.yes true (rt Ql false))) (noN 3 u37 (.as (decide ((zz a0) > 12)) (rt Ql false) (.as (in1 i0 (zz a0)) (let u36 := ((gb a0 i0) == 114); .as u36 (yesN 3 u36 (Qgr (Qz.mk a0 (decide ((zz a0) > 1)) i0) (fun o1 => (rt Ql o1)) (fun o2 => (rt Ql (!o2))))) (noN 3 u36 (Qgr (Qz.mk a0 false i0) (fun o3 => (rt Ql o3)) (fun o4 => (rt Ql (!o4)))))) .fail))))
theorem YZ.ok {a0 : ByteArray} {r : Bool} (h : YZ a0 = some r) : ww 83 [xs a0] [] = some (Ql r) := by
 refine fnP (QrS a0) ?_ h
 exact ⟨rfl, fun q0 => Qj 3 (q0) (⟨rfl, rfl⟩), fun q0 => noN_ok 3 (q0) (⟨rfl, fun q1 => rfl, fun q1 => ⟨rfl, fun q2 => ⟨rfl, fun q3 => Qj 3 (q3) (⟨fun o1 h => ⟨VO.ok (r := (.inl _)) h, rfl⟩, fun o2 h => ⟨VO.ok (r := (.inr _)) h, rfl⟩⟩), fun q3 => noN_ok 3 (q3) (⟨fun o3 h => ⟨VO.ok (r := (.inl _)) h, rfl⟩, fun o4 h => ⟨VO.ok (r := (.inr _)) h, rfl⟩⟩)⟩, fun q2 => trivial⟩⟩)⟩
noncomputable abbrev QlT {ρ R : Type} (a0 : ByteArray) (k : Bool → Tr ρ R) : Tr ρ R := .call (ww 83 [xs a0] []) (YZ a0) Ql k
abbrev Qjd := ByteArray → Option Bool
def Qgt (C0 : Qjc) (a0 : ByteArray) : Option Bool := ((C0 a0).bind fun r1 => (some r1))
noncomputable def Y0 : Qjd := Qgt YZ
theorem Y0.eq (a0 : ByteArray) : Y0 a0 = Qgt YZ a0 := rfl
noncomputable def QrT (a0 : ByteArray) : Tr Bool AH := (QlT a0 fun r1 => (rt Ql r1))
theorem Y0.ok {a0 : ByteArray} {r : Bool} (h : Y0 a0 = some r) : ww 34 [xs a0] [] = some (Ql r) := by
 refine fnP (QrT a0) ?_ h
 exact fun r1 h => ⟨YZ.ok h, rfl⟩
noncomputable abbrev QlU {ρ R : Type} (a0 : ByteArray) (k : Bool → Tr ρ R) : Tr ρ R := .call (ww 34 [xs a0] []) (Y0 a0) Ql k
abbrev Qgu := ByteArray → Int → Option Int
noncomputable def Xe (a0 : ByteArray) (a1 : Int) : Option Int := indexByteS a0 a1
noncomputable abbrev QfF {ρ R : Type} (a0 : ByteArray) (a1 : Int) (k : Int → Tr ρ R) : Tr ρ R := .call (ww 70 [xs a0, xb a1] []) (Xe a0 a1) Qm k
theorem Xe.ok {a0 : ByteArray} {a1 : Int} {r : Int} (h : Xe a0 a1 = some r) : ww 70 [xs a0, xb a1] [] = some (Qm r) := (GJ rfl _ _).trans (Qny h)
def Qk (r : ByteArray) : AV × Heap := (xs r, [])
abbrev Qau := ByteArray → ByteArray → Option ByteArray
noncomputable def UI (a0 : ByteArray) (a1 : ByteArray) : Option ByteArray := trimS2 a0 a1
noncomputable abbrev Yf {ρ R : Type} (a0 : ByteArray) (a1 : ByteArray) (k : ByteArray → Tr ρ R) : Tr ρ R := .call (ww 74 [xs a0, xs a1] []) (UI a0 a1) Qk k
theorem UI.ok {a0 : ByteArray} {a1 : ByteArray} {r : ByteArray} (h : UI a0 a1 = some r) : ww 74 [xs a0, xs a1] [] = some (Qk r) := (GJ rfl _ _).trans (Qt4 h)
abbrev Qkb := ByteArray → Option ByteArray
structure JT where
 x0 : ByteArray
 x3 : Bool
 x4 : Int
def Y1 (a : JT) : St := { n := 31, nx := 0, env := [(0, xs a.x0), (3, xo a.x3), (4, xi a.x4)], heap := [] }
def EA (a : ByteArray) : Ex × St := (.ret, { n := 31, nx := 0, env := [(2, xs a)], heap := [] })
abbrev Qe9 := JT → Option ByteArray
def EB (C0 : Qau) (a : JT) : Option (JT ⊕ ByteArray) := (bif (a.x4 == ((a.x0.size : Nat) : Int)) then (bif (decide (0 ≤ (0 : Int) ∧ (0 : Int) ≤ a.x4 ∧ a.x4 ≤ ((a.x0.size : Nat) : Int))) then ((C0 (a.x0.extract (Int.toNat 0) (Int.toNat a.x4)) Ys).bind fun r1 => (some (.inr r1))) else none) else (bif (decide (0 ≤ a.x4 ∧ a.x4 < ((a.x0.size : Nat) : Int))) then (bif (((a.x0.data.getD (Int.toNat a.x4) 0).toNat : Int) == 35) then (bif (!a.x3) then (bif (decide (0 ≤ (0 : Int) ∧ (0 : Int) ≤ a.x4 ∧ a.x4 ≤ ((a.x0.size : Nat) : Int))) then ((C0 (a.x0.extract (Int.toNat 0) (Int.toNat a.x4)) Ys).bind fun r2 => (some (.inr r2))) else none) else (bif (((a.x0.data.getD (Int.toNat a.x4) 0).toNat : Int) == 34) then (some (.inl (JT.mk a.x0 (!a.x3) (w64 (a.x4 + 1))))) else (some (.inl (JT.mk a.x0 a.x3 (w64 (a.x4 + 1))))))) else (bif (((a.x0.data.getD (Int.toNat a.x4) 0).toNat : Int) == 34) then (some (.inl (JT.mk a.x0 (!a.x3) (w64 (a.x4 + 1))))) else (some (.inl (JT.mk a.x0 a.x3 (w64 (a.x4 + 1))))))) else none))
noncomputable def VP : Qe9 := loopW (EB UI)
theorem VP.eq (a : JT) : VP a = (EB UI a).bind (Sum.elim VP some) := Ja _ _
noncomputable abbrev Qk7 {ρ R : Type} (a : JT) (k0 : ByteArray → Tr ρ R) : Tr ρ R := .loop (loopAt pp 71 3) (Y1 a) (VP a) EA k0
noncomputable def Qk8 (a : JT) : Tr (JT ⊕ ByteArray) XS := (let u40 := (a.x4 == (zz a.x0)); .as u40 (yesN 6 u40 (.yes true (.as (in2 i0 a.x4 (zz a.x0)) (Yf (cu a.x0 i0 a.x4) Ys fun r1 => (rx EA r1)) .fail))) (noN 2 u40 (let u39 := (in1 a.x4 (zz a.x0)); .as u39 (noN 2 u40 (let u38 := ((gb a.x0 a.x4) == 35); .as u38 (.yes u38 (.no u40 (.yes u38 (.no u40 (.as (!a.x3) (.as (in2 i0 a.x4 (zz a.x0)) (Yf (cu a.x0 i0 a.x4) Ys fun r2 => (rx EA r2)) .fail) (.yes u39 (.as ((gb a.x0 a.x4) == 34) (lf Y1 (JT.mk a.x0 (!a.x3) (w64 (a.x4 + 1)))) (lf Y1 (JT.mk a.x0 a.x3 (w64 (a.x4 + 1))))))))))) (.no u38 (.no u40 (.no u38 (.no u40 (.no false (.yes u39 (.as ((gb a.x0 a.x4) == 34) (lf Y1 (JT.mk a.x0 (!a.x3) (w64 (a.x4 + 1)))) (lf Y1 (JT.mk a.x0 a.x3 (w64 (a.x4 + 1))))))))))))) .fail)))
theorem VP.ok {a : JT} {r : ByteArray} (h : VP a = some r) : lw 0 71 (loopAt pp 71 3) (Y1 a) = some (EA r) := by
 refine lpP h Qk8 fun a => ?_
 exact ⟨rfl, fun q0 => Qj 6 (q0) (⟨rfl, ⟨rfl, fun q1 => fun r1 h => ⟨UI.ok h, rfl⟩, fun q1 => trivial⟩⟩), fun q0 => noN_ok 2 (q0) (⟨rfl, fun q1 => noN_ok 2 (q0) (⟨rfl, fun q2 => ⟨q2, ⟨q0, ⟨q2, ⟨q0, ⟨rfl, fun q3 => ⟨rfl, fun q4 => fun r2 h => ⟨UI.ok h, rfl⟩, fun q4 => trivial⟩, fun q3 => ⟨q1, ⟨rfl, fun q4 => rfl, fun q4 => rfl⟩⟩⟩⟩⟩⟩⟩, fun q2 => ⟨q2, ⟨q0, ⟨q2, ⟨q0, ⟨rfl, ⟨q1, ⟨rfl, fun q3 => rfl, fun q3 => rfl⟩⟩⟩⟩⟩⟩⟩⟩), fun q1 => trivial⟩)⟩
def QcW (L0 : Qe9) (a0 : ByteArray) : Option ByteArray := ((L0 (JT.mk a0 false (0 : Int))).bind (fun (o1 : ByteArray) => (some o1)))
noncomputable def YR : Qkb := QcW VP
theorem YR.eq (a0 : ByteArray) : YR a0 = QcW VP a0 := rfl
noncomputable def Qpe (a0 : ByteArray) : Tr ByteArray AH := (Qk7 (JT.mk a0 false i0) (fun o1 => (rt Qk o1)))
theorem YR.ok {a0 : ByteArray} {r : ByteArray} (h : YR a0 = some r) : ww 71 [xs a0] [] = some (Qk r) := by
 refine fnP (Qpe a0) ?_ h
 exact fun o1 h => ⟨VP.ok h, rfl⟩
noncomputable abbrev Qpf {ρ R : Type} (a0 : ByteArray) (k : ByteArray → Tr ρ R) : Tr ρ R := .call (ww 71 [xs a0] []) (YR a0) Qk k
abbrev Qir := Int → Option Bool
def QbJ (a0 : Int) : Option Bool := (bif (a0 != 32) then (some (a0 != 9)) else (some false))
noncomputable def Ym : Qir := QbJ
theorem Ym.eq (a0 : Int) : Ym a0 = QbJ a0 := rfl
noncomputable def QnH (a0 : Int) : Tr Bool AH := (let u41 := (a0 != 32); .as u41 (yesN 2 u41 (rt Ql (a0 != 9))) (noN 2 u41 (rt Ql false)))
theorem Ym.ok {a0 : Int} {r : Bool} (h : Ym a0 = some r) : ww 75 [xb a0] [] = some (Ql r) := by
 refine fnP (QnH a0) ?_ h
 exact ⟨rfl, fun q0 => Qj 2 (q0) (rfl), fun q0 => noN_ok 2 (q0) (rfl)⟩
noncomputable abbrev QnI {ρ R : Type} (a0 : Int) (k : Bool → Tr ρ R) : Tr ρ R := .call (ww 75 [xb a0] []) (Ym a0) Ql k
abbrev Qfa := ByteArray → Option Int
structure UA where
 x0 : ByteArray
 x5 : Int
def EN (a : UA) : St := { n := 20, nx := 0, env := [(0, xs a.x0), (1, .fn (.func 75) [] []), (5, xi a.x5)], heap := [] }
def Z1 (a : Int) : Ex × St := (.exit 0, { n := 20, nx := 0, env := [(5, xi a)], heap := [] })
abbrev QbK := UA → Option Int
def EO (C0 : Qir) (a : UA) : Option (UA ⊕ Int) := (bif (decide (a.x5 < ((a.x0.size : Nat) : Int))) then (bif (decide (0 ≤ a.x5 ∧ a.x5 < ((a.x0.size : Nat) : Int))) then ((C0 ((a.x0.data.getD (Int.toNat a.x5) 0).toNat : Int)).bind fun r1 => (bif r1 then (some (.inl (UA.mk a.x0 (w64 (a.x5 + 1))))) else (some (.inr a.x5)))) else none) else (some (.inr a.x5)))
noncomputable def Wl : QbK := loopW (EO Ym)
theorem Wl.eq (a : UA) : Wl a = (EO Ym a).bind (Sum.elim Wl some) := Ja _ _
noncomputable abbrev QhY {ρ R : Type} (a : UA) (k0 : Int → Tr ρ R) : Tr ρ R := .loop (loopAt pp 72 2) (EN a) (Wl a) Z1 k0
noncomputable def QhZ (a : UA) : Tr (UA ⊕ Int) XS := (let u42 := (decide (a.x5 < (zz a.x0))); .as u42 (yesN 3 u42 (.as (in1 a.x5 (zz a.x0)) (.yes u42 (QnI (gb a.x0 a.x5) fun r1 => (.yes u42 (.as r1 (lf EN (UA.mk a.x0 (w64 (a.x5 + 1)))) (rx Z1 a.x5))))) .fail)) (noN 5 u42 (.no false (rx Z1 a.x5))))
theorem Wl.ok {a : UA} {r : Int} (h : Wl a = some r) : lw 0 72 (loopAt pp 72 2) (EN a) = some (Z1 r) := by
 refine lpP h QhZ fun a => ?_
 exact ⟨rfl, fun q0 => Qj 3 (q0) (⟨rfl, fun q1 => ⟨q0, fun r1 h => ⟨Ym.ok h, ⟨q0, ⟨rfl, fun q2 => rfl, fun q2 => rfl⟩⟩⟩⟩, fun q1 => trivial⟩), fun q0 => noN_ok 5 (q0) (⟨rfl, rfl⟩)⟩
def P6 (L0 : QbK) (a0 : ByteArray) : Option Int := ((L0 (UA.mk a0 (0 : Int))).bind (fun (o1 : Int) => (some o1)))
noncomputable def VQ : Qfa := P6 Wl
theorem VQ.eq (a0 : ByteArray) : VQ a0 = P6 Wl a0 := rfl
noncomputable def Qk9 (a0 : ByteArray) : Tr Int AH := (QhY (UA.mk a0 i0) (fun o1 => (rt Qm o1)))
theorem VQ.ok {a0 : ByteArray} {r : Int} (h : VQ a0 = some r) : ww 72 [xs a0, .fn (.func 75) [] []] [] = some (Qm r) := by
 refine fnP (Qk9 a0) ?_ h
 exact fun o1 h => ⟨Wl.ok h, rfl⟩
noncomputable abbrev P7 {ρ R : Type} (a0 : ByteArray) (k : Int → Tr ρ R) : Tr ρ R := .call (ww 72 [xs a0, .fn (.func 75) [] []] []) (VQ a0) Qm k
def Qcu (r : (List ByteArray)) : AV × Heap := (.arr 0, [(0, .arr false 1 (Qg r))])
abbrev QdL := ByteArray → ByteArray → Option (List ByteArray)
noncomputable def WD (a0 : ByteArray) (a1 : ByteArray) : Option (List ByteArray) := splitS a0 a1
noncomputable abbrev Qcv {ρ R : Type} (a0 : ByteArray) (a1 : ByteArray) (k : (List ByteArray) → Tr ρ R) : Tr ρ R := .call (ww 79 [xs a0, xs a1] []) (WD a0 a1) Qcu k
theorem WD.ok {a0 : ByteArray} {a1 : ByteArray} {r : (List ByteArray)} (h : WD a0 a1 = some r) : ww 79 [xs a0, xs a1] [] = some (Qcu r) := (GJ rfl _ _).trans (QsW h)
def Jg (r : (List ByteArray)) : AV × Heap := (.sl (Qg r), [])
abbrev QdM := ByteArray → Option (List ByteArray)
structure Ue where
 x10 : Int
 x11 : Int
 r0 : (List ByteArray)
def G7 (a : Ue) : St := { n := 24, nx := 1, env := [(3, .arr 0), (10, xi a.x10), (11, xi a.x11)], heap := [(0, .arr false 1 (Qg a.r0))] }
def G8 (a : (List ByteArray)) : Ex × St := (.exit 0, { n := 24, nx := 1, env := [(3, .arr 0)], heap := [(0, .arr false 1 (Qg a))] })
abbrev QaF := Ue → Option (List ByteArray)
def ZD (C0 : Qau) (a : Ue) : Option (Ue ⊕ (List ByteArray)) := (bif (decide (a.x11 < a.x10)) then (bif (decide (0 ≤ a.x11 ∧ a.x11 < ((a.r0.length : Nat) : Int))) then ((a.r0[(Int.toNat a.x11)]?).bind fun e1 => ((C0 e1 Ys).bind fun r2 => ((a.r0[(Int.toNat a.x11)]?).bind fun e3 => (some (.inl (Ue.mk a.x10 (w64 (a.x11 + 1)) (a.r0.set (Int.toNat a.x11) r2))))))) else none) else (some (.inr a.r0)))
noncomputable def UN : QaF := loopW (ZD UI)
theorem UN.eq (a : Ue) : UN a = (ZD UI a).bind (Sum.elim UN some) := Ja _ _
noncomputable abbrev Qgv {ρ R : Type} (a : Ue) (k0 : (List ByteArray) → Tr ρ R) : Tr ρ R := .loop (loopAt pp 123 5) (G7 a) (UN a) G8 k0
noncomputable def Qgw (a : Ue) : Tr (Ue ⊕ (List ByteArray)) XS := (.as (decide (a.x11 < a.x10)) (let u43 := (in1 a.x11 (((Qg a.r0).length : Nat) : Int)); .ask u43 (in1 a.x11 ((a.r0.length : Nat) : Int)) (.row ((Qg a.r0)[(Int.toNat a.x11)]?) (a.r0[(Int.toNat a.x11)]?) QW fun (e1 : ByteArray) => (Yf e1 Ys fun r2 => (.yes u43 (.row ((Qg a.r0)[(Int.toNat a.x11)]?) (a.r0[(Int.toNat a.x11)]?) QW fun (e3 : ByteArray) => (.rows ((Qg a.r0).set (Int.toNat a.x11) [xs r2]) (Qg (a.r0.set (Int.toNat a.x11) r2)) (lf G7 (Ue.mk a.x10 (w64 (a.x11 + 1)) (a.r0.set (Int.toNat a.x11) r2)))))))) .fail) (rx G8 a.r0))
theorem UN.ok {a : Ue} {r : (List ByteArray)} (h : UN a = some r) : lw 0 123 (loopAt pp 123 5) (G7 a) = some (G8 r) := by
 refine lpP h Qgw fun a => ?_
 exact ⟨rfl, fun q0 => ⟨(by rw [Qo]), fun q1 => fun e1 h => ⟨QO h, fun r2 h => ⟨UI.ok h, ⟨(show (decide (0 ≤ a.x11 ∧ a.x11 < (((Qg a.r0).length : Nat) : Int))) = (decide (0 ≤ a.x11 ∧ a.x11 < ((a.r0.length : Nat) : Int))) from (by rw [Qo])).trans q1, fun e3 h => ⟨QO h, ⟨(Qnz a.r0 (Int.toNat a.x11) r2), rfl⟩⟩⟩⟩⟩, fun q1 => trivial⟩, fun q0 => rfl⟩
def F9 (C0 : QdL) (L1 : QaF) (a0 : ByteArray) : Option (List ByteArray) := (bif (eqS a0 s_) then (some ([] : List ByteArray)) else ((C0 a0 h_2c).bind fun r1 => ((L1 (Ue.mk (((r1.length) : Nat) : Int) (0 : Int) r1)).bind (fun (o2 : (List ByteArray)) => (some o2)))))
noncomputable def W4 : QdM := F9 WD UN
theorem W4.eq (a0 : ByteArray) : W4 a0 = F9 WD UN a0 := rfl
noncomputable def Qkc (a0 : ByteArray) : Tr (List ByteArray) AH := (.as (eqS a0 s_) (rt Jg ([] : List ByteArray)) (Qcv a0 h_2c fun r1 => (.num ((Qg r1).length) (r1.length) (Qgv (Ue.mk (((r1.length) : Nat) : Int) i0 r1) (fun o2 => (rt Jg o2))))))
theorem W4.ok {a0 : ByteArray} {r : (List ByteArray)} (h : W4 a0 = some r) : ww 123 [xs a0] [] = some (Jg r) := by
 refine fnP (Qkc a0) ?_ h
 exact ⟨rfl, fun q0 => rfl, fun q0 => fun r1 h => ⟨WD.ok h, ⟨(Qo _), fun o2 h => ⟨UN.ok h, rfl⟩⟩⟩⟩
noncomputable abbrev Qkd {ρ R : Type} (a0 : ByteArray) (k : (List ByteArray) → Tr ρ R) : Tr ρ R := .call (ww 123 [xs a0] []) (W4 a0) Jg k
def QcX (r : (List Qe)) : AV × Heap := (.sl (X1 r), [])
abbrev Pa := Option (List Qe)
def Qis : Option (List Qe) := (some [(Qe.mk G5 (0 : Int) s_), (Qe.mk F1 (1 : Int) s_), (Qe.mk QdI (2 : Int) s_), (Qe.mk Qbu (4 : Int) s_), (Qe.mk SW (6 : Int) s_), (Qe.mk QbA (32 : Int) s_X), (Qe.mk Qbz (48 : Int) s_X), (Qe.mk SZ (128 : Int) s_X), (Qe.mk S6 (144 : Int) s_X), (Qe.mk F2 (160 : Int) s_X), (Qe.mk F3 (176 : Int) s_X), (Qe.mk FZ (192 : Int) s_X), (Qe.mk FX (208 : Int) s_X), (Qe.mk F0 (224 : Int) s_X), (Qe.mk FY (240 : Int) s_X), (Qe.mk QdG (256 : Int) Ji), (Qe.mk Qbs (1024 : Int) Ji), (Qe.mk F4 (1280 : Int) Ji), (Qe.mk QbE (1536 : Int) Ji), (Qe.mk Qbv (3072 : Int) Ji), (Qe.mk SY (3328 : Int) Ji), (Qe.mk SU (8192 : Int) Wu), (Qe.mk FW (8704 : Int) Wu), (Qe.mk S9 (9216 : Int) Wu), (Qe.mk SX (10752 : Int) Jy), (Qe.mk QdH (17408 : Int) Ji), (Qe.mk SV (17664 : Int) Ji), (Qe.mk Qbt (17920 : Int) Ji), (Qe.mk QdF (18432 : Int) FQ), (Qe.mk FT (24576 : Int) Jy), (Qe.mk FU (25600 : Int) Jy), (Qe.mk FV (26112 : Int) Jy), (Qe.mk S8 (26624 : Int) Jy), (Qe.mk S7 (27648 : Int) Jy), (Qe.mk Qbw (32768 : Int) WH), (Qe.mk QbB (36864 : Int) WH), (Qe.mk Qbx (40960 : Int) WI), (Qe.mk QbC (45056 : Int) WI), (Qe.mk Qby (49152 : Int) WJ), (Qe.mk QbD (53248 : Int) WJ), (Qe.mk QdD (57344 : Int) Yt), (Qe.mk Qgo (59392 : Int) s_T8), (Qe.mk QdE (59648 : Int) s_T8), (Qe.mk FR (469762048 : Int) Zb), (Qe.mk Qbp (402685952 : Int) Z8), (Qe.mk Qbq (402702336 : Int) UM), (Qe.mk Qdy (402706432 : Int) UM), (Qe.mk Qbr (402710528 : Int) UM), (Qe.mk Qgn (1879048192 : Int) G4), (Qe.mk Qdu (805306368 : Int) QD), (Qe.mk Qdz (872415232 : Int) QD), (Qe.mk Qdv (939524096 : Int) QD), (Qe.mk Qdx (1342177280 : Int) QD), (Qe.mk QdB (1409286144 : Int) QD), (Qe.mk Qdw (1476395008 : Int) QD), (Qe.mk QdA (1543503872 : Int) QD), (Qe.mk Qj7 (2013265920 : Int) Fe), (Qe.mk Qgm (2013265921 : Int) Fe), (Qe.mk Qgl (2046820352 : Int) UR), (Qe.mk Qdt (2046820353 : Int) UR), (Qe.mk Qj5 (2080375316 : Int) Vx), (Qe.mk Qgp (2080374864 : Int) Vx), (Qe.mk QdC (2080375254 : Int) Vx), (Qe.mk Qj6 (2080374840 : Int) Vw), (Qe.mk s_or (2080375672 : Int) Vw), (Qe.mk Qj8 (2080375416 : Int) Vw)])
noncomputable def Wo : Pa := Qis
noncomputable def Qpg : Tr (List Qe) AH := (.rows [[xs G5, .sc (.int .u32 i0), xs s_], [xs F1, .sc (.int .u32 (zi 1)), xs s_], [xs QdI, .sc (.int .u32 (zi 2)), xs s_], [xs Qbu, .sc (.int .u32 (zi 4)), xs s_], [xs SW, .sc (.int .u32 (zi 6)), xs s_], [xs QbA, .sc (.int .u32 (zi 32)), xs s_X], [xs Qbz, .sc (.int .u32 (zi 48)), xs s_X], [xs SZ, .sc (.int .u32 (zi 128)), xs s_X], [xs S6, .sc (.int .u32 (zi 144)), xs s_X], [xs F2, .sc (.int .u32 (zi 160)), xs s_X], [xs F3, .sc (.int .u32 (zi 176)), xs s_X], [xs FZ, .sc (.int .u32 (zi 192)), xs s_X], [xs FX, .sc (.int .u32 (zi 208)), xs s_X], [xs F0, .sc (.int .u32 (zi 224)), xs s_X], [xs FY, .sc (.int .u32 (zi 240)), xs s_X], [xs QdG, .sc (.int .u32 (zi 256)), xs Ji], [xs Qbs, .sc (.int .u32 (zi 1024)), xs Ji], [xs F4, .sc (.int .u32 (zi 1280)), xs Ji], [xs QbE, .sc (.int .u32 (zi 1536)), xs Ji], [xs Qbv, .sc (.int .u32 (zi 3072)), xs Ji], [xs SY, .sc (.int .u32 (zi 3328)), xs Ji], [xs SU, .sc (.int .u32 (zi 8192)), xs Wu], [xs FW, .sc (.int .u32 (zi 8704)), xs Wu], [xs S9, .sc (.int .u32 (zi 9216)), xs Wu], [xs SX, .sc (.int .u32 (zi 10752)), xs Jy], [xs QdH, .sc (.int .u32 (zi 17408)), xs Ji], [xs SV, .sc (.int .u32 (zi 17664)), xs Ji], [xs Qbt, .sc (.int .u32 (zi 17920)), xs Ji], [xs QdF, .sc (.int .u32 (zi 18432)), xs FQ], [xs FT, .sc (.int .u32 (zi 24576)), xs Jy], [xs FU, .sc (.int .u32 (zi 25600)), xs Jy], [xs FV, .sc (.int .u32 (zi 26112)), xs Jy], [xs S8, .sc (.int .u32 (zi 26624)), xs Jy], [xs S7, .sc (.int .u32 (zi 27648)), xs Jy], [xs Qbw, .sc (.int .u32 (zi 32768)), xs WH], [xs QbB, .sc (.int .u32 (zi 36864)), xs WH], [xs Qbx, .sc (.int .u32 (zi 40960)), xs WI], [xs QbC, .sc (.int .u32 (zi 45056)), xs WI], [xs Qby, .sc (.int .u32 (zi 49152)), xs WJ], [xs QbD, .sc (.int .u32 (zi 53248)), xs WJ], [xs QdD, .sc (.int .u32 (zi 57344)), xs Yt], [xs Qgo, .sc (.int .u32 (zi 59392)), xs s_T8], [xs QdE, .sc (.int .u32 (zi 59648)), xs s_T8], [xs FR, .sc (.int .u32 (zi 469762048)), xs Zb], [xs Qbp, .sc (.int .u32 (zi 402685952)), xs Z8], [xs Qbq, .sc (.int .u32 (zi 402702336)), xs UM], [xs Qdy, .sc (.int .u32 (zi 402706432)), xs UM], [xs Qbr, .sc (.int .u32 (zi 402710528)), xs UM], [xs Qgn, .sc (.int .u32 (zi 1879048192)), xs G4], [xs Qdu, .sc (.int .u32 (zi 805306368)), xs QD], [xs Qdz, .sc (.int .u32 (zi 872415232)), xs QD], [xs Qdv, .sc (.int .u32 (zi 939524096)), xs QD], [xs Qdx, .sc (.int .u32 (zi 1342177280)), xs QD], [xs QdB, .sc (.int .u32 (zi 1409286144)), xs QD], [xs Qdw, .sc (.int .u32 (zi 1476395008)), xs QD], [xs QdA, .sc (.int .u32 (zi 1543503872)), xs QD], [xs Qj7, .sc (.int .u32 (zi 2013265920)), xs Fe], [xs Qgm, .sc (.int .u32 (zi 2013265921)), xs Fe], [xs Qgl, .sc (.int .u32 (zi 2046820352)), xs UR], [xs Qdt, .sc (.int .u32 (zi 2046820353)), xs UR], [xs Qj5, .sc (.int .u32 (zi 2080375316)), xs Vx], [xs Qgp, .sc (.int .u32 (zi 2080374864)), xs Vx], [xs QdC, .sc (.int .u32 (zi 2080375254)), xs Vx], [xs Qj6, .sc (.int .u32 (zi 2080374840)), xs Vw], [xs s_or, .sc (.int .u32 (zi 2080375672)), xs Vw], [xs Qj8, .sc (.int .u32 (zi 2080375416)), xs Vw]] (X1 [(Qe.mk G5 i0 s_), (Qe.mk F1 (zi 1) s_), (Qe.mk QdI (zi 2) s_), (Qe.mk Qbu (zi 4) s_), (Qe.mk SW (zi 6) s_), (Qe.mk QbA (zi 32) s_X), (Qe.mk Qbz (zi 48) s_X), (Qe.mk SZ (zi 128) s_X), (Qe.mk S6 (zi 144) s_X), (Qe.mk F2 (zi 160) s_X), (Qe.mk F3 (zi 176) s_X), (Qe.mk FZ (zi 192) s_X), (Qe.mk FX (zi 208) s_X), (Qe.mk F0 (zi 224) s_X), (Qe.mk FY (zi 240) s_X), (Qe.mk QdG (zi 256) Ji), (Qe.mk Qbs (zi 1024) Ji), (Qe.mk F4 (zi 1280) Ji), (Qe.mk QbE (zi 1536) Ji), (Qe.mk Qbv (zi 3072) Ji), (Qe.mk SY (zi 3328) Ji), (Qe.mk SU (zi 8192) Wu), (Qe.mk FW (zi 8704) Wu), (Qe.mk S9 (zi 9216) Wu), (Qe.mk SX (zi 10752) Jy), (Qe.mk QdH (zi 17408) Ji), (Qe.mk SV (zi 17664) Ji), (Qe.mk Qbt (zi 17920) Ji), (Qe.mk QdF (zi 18432) FQ), (Qe.mk FT (zi 24576) Jy), (Qe.mk FU (zi 25600) Jy), (Qe.mk FV (zi 26112) Jy), (Qe.mk S8 (zi 26624) Jy), (Qe.mk S7 (zi 27648) Jy), (Qe.mk Qbw (zi 32768) WH), (Qe.mk QbB (zi 36864) WH), (Qe.mk Qbx (zi 40960) WI), (Qe.mk QbC (zi 45056) WI), (Qe.mk Qby (zi 49152) WJ), (Qe.mk QbD (zi 53248) WJ), (Qe.mk QdD (zi 57344) Yt), (Qe.mk Qgo (zi 59392) s_T8), (Qe.mk QdE (zi 59648) s_T8), (Qe.mk FR (zi 469762048) Zb), (Qe.mk Qbp (zi 402685952) Z8), (Qe.mk Qbq (zi 402702336) UM), (Qe.mk Qdy (zi 402706432) UM), (Qe.mk Qbr (zi 402710528) UM), (Qe.mk Qgn (zi 1879048192) G4), (Qe.mk Qdu (zi 805306368) QD), (Qe.mk Qdz (zi 872415232) QD), (Qe.mk Qdv (zi 939524096) QD), (Qe.mk Qdx (zi 1342177280) QD), (Qe.mk QdB (zi 1409286144) QD), (Qe.mk Qdw (zi 1476395008) QD), (Qe.mk QdA (zi 1543503872) QD), (Qe.mk Qj7 (zi 2013265920) Fe), (Qe.mk Qgm (zi 2013265921) Fe), (Qe.mk Qgl (zi 2046820352) UR), (Qe.mk Qdt (zi 2046820353) UR), (Qe.mk Qj5 (zi 2080375316) Vx), (Qe.mk Qgp (zi 2080374864) Vx), (Qe.mk QdC (zi 2080375254) Vx), (Qe.mk Qj6 (zi 2080374840) Vw), (Qe.mk s_or (zi 2080375672) Vw), (Qe.mk Qj8 (zi 2080375416) Vw)]) (rt QcX [(Qe.mk G5 i0 s_), (Qe.mk F1 (zi 1) s_), (Qe.mk QdI (zi 2) s_), (Qe.mk Qbu (zi 4) s_), (Qe.mk SW (zi 6) s_), (Qe.mk QbA (zi 32) s_X), (Qe.mk Qbz (zi 48) s_X), (Qe.mk SZ (zi 128) s_X), (Qe.mk S6 (zi 144) s_X), (Qe.mk F2 (zi 160) s_X), (Qe.mk F3 (zi 176) s_X), (Qe.mk FZ (zi 192) s_X), (Qe.mk FX (zi 208) s_X), (Qe.mk F0 (zi 224) s_X), (Qe.mk FY (zi 240) s_X), (Qe.mk QdG (zi 256) Ji), (Qe.mk Qbs (zi 1024) Ji), (Qe.mk F4 (zi 1280) Ji), (Qe.mk QbE (zi 1536) Ji), (Qe.mk Qbv (zi 3072) Ji), (Qe.mk SY (zi 3328) Ji), (Qe.mk SU (zi 8192) Wu), (Qe.mk FW (zi 8704) Wu), (Qe.mk S9 (zi 9216) Wu), (Qe.mk SX (zi 10752) Jy), (Qe.mk QdH (zi 17408) Ji), (Qe.mk SV (zi 17664) Ji), (Qe.mk Qbt (zi 17920) Ji), (Qe.mk QdF (zi 18432) FQ), (Qe.mk FT (zi 24576) Jy), (Qe.mk FU (zi 25600) Jy), (Qe.mk FV (zi 26112) Jy), (Qe.mk S8 (zi 26624) Jy), (Qe.mk S7 (zi 27648) Jy), (Qe.mk Qbw (zi 32768) WH), (Qe.mk QbB (zi 36864) WH), (Qe.mk Qbx (zi 40960) WI), (Qe.mk QbC (zi 45056) WI), (Qe.mk Qby (zi 49152) WJ), (Qe.mk QbD (zi 53248) WJ), (Qe.mk QdD (zi 57344) Yt), (Qe.mk Qgo (zi 59392) s_T8), (Qe.mk QdE (zi 59648) s_T8), (Qe.mk FR (zi 469762048) Zb), (Qe.mk Qbp (zi 402685952) Z8), (Qe.mk Qbq (zi 402702336) UM), (Qe.mk Qdy (zi 402706432) UM), (Qe.mk Qbr (zi 402710528) UM), (Qe.mk Qgn (zi 1879048192) G4), (Qe.mk Qdu (zi 805306368) QD), (Qe.mk Qdz (zi 872415232) QD), (Qe.mk Qdv (zi 939524096) QD), (Qe.mk Qdx (zi 1342177280) QD), (Qe.mk QdB (zi 1409286144) QD), (Qe.mk Qdw (zi 1476395008) QD), (Qe.mk QdA (zi 1543503872) QD), (Qe.mk Qj7 (zi 2013265920) Fe), (Qe.mk Qgm (zi 2013265921) Fe), (Qe.mk Qgl (zi 2046820352) UR), (Qe.mk Qdt (zi 2046820353) UR), (Qe.mk Qj5 (zi 2080375316) Vx), (Qe.mk Qgp (zi 2080374864) Vx), (Qe.mk QdC (zi 2080375254) Vx), (Qe.mk Qj6 (zi 2080374840) Vw), (Qe.mk s_or (zi 2080375672) Vw), (Qe.mk Qj8 (zi 2080375416) Vw)]))
theorem Wo.ok {r : (List Qe)} (h : Wo = some r) : ww 139 [] [] = some (QcX r) := by
 refine fnP (Qpg) ?_ h
 exact ⟨(Qar [(Qe.mk G5 (0 : Int) s_), (Qe.mk F1 (1 : Int) s_), (Qe.mk QdI (2 : Int) s_), (Qe.mk Qbu (4 : Int) s_), (Qe.mk SW (6 : Int) s_), (Qe.mk QbA (32 : Int) s_X), (Qe.mk Qbz (48 : Int) s_X), (Qe.mk SZ (128 : Int) s_X), (Qe.mk S6 (144 : Int) s_X), (Qe.mk F2 (160 : Int) s_X), (Qe.mk F3 (176 : Int) s_X), (Qe.mk FZ (192 : Int) s_X), (Qe.mk FX (208 : Int) s_X), (Qe.mk F0 (224 : Int) s_X), (Qe.mk FY (240 : Int) s_X), (Qe.mk QdG (256 : Int) Ji), (Qe.mk Qbs (1024 : Int) Ji), (Qe.mk F4 (1280 : Int) Ji), (Qe.mk QbE (1536 : Int) Ji), (Qe.mk Qbv (3072 : Int) Ji), (Qe.mk SY (3328 : Int) Ji), (Qe.mk SU (8192 : Int) Wu), (Qe.mk FW (8704 : Int) Wu), (Qe.mk S9 (9216 : Int) Wu), (Qe.mk SX (10752 : Int) Jy), (Qe.mk QdH (17408 : Int) Ji), (Qe.mk SV (17664 : Int) Ji), (Qe.mk Qbt (17920 : Int) Ji), (Qe.mk QdF (18432 : Int) FQ), (Qe.mk FT (24576 : Int) Jy), (Qe.mk FU (25600 : Int) Jy), (Qe.mk FV (26112 : Int) Jy), (Qe.mk S8 (26624 : Int) Jy), (Qe.mk S7 (27648 : Int) Jy), (Qe.mk Qbw (32768 : Int) WH), (Qe.mk QbB (36864 : Int) WH), (Qe.mk Qbx (40960 : Int) WI), (Qe.mk QbC (45056 : Int) WI), (Qe.mk Qby (49152 : Int) WJ), (Qe.mk QbD (53248 : Int) WJ), (Qe.mk QdD (57344 : Int) Yt), (Qe.mk Qgo (59392 : Int) s_T8), (Qe.mk QdE (59648 : Int) s_T8), (Qe.mk FR (469762048 : Int) Zb), (Qe.mk Qbp (402685952 : Int) Z8), (Qe.mk Qbq (402702336 : Int) UM), (Qe.mk Qdy (402706432 : Int) UM), (Qe.mk Qbr (402710528 : Int) UM), (Qe.mk Qgn (1879048192 : Int) G4), (Qe.mk Qdu (805306368 : Int) QD), (Qe.mk Qdz (872415232 : Int) QD), (Qe.mk Qdv (939524096 : Int) QD), (Qe.mk Qdx (1342177280 : Int) QD), (Qe.mk QdB (1409286144 : Int) QD), (Qe.mk Qdw (1476395008 : Int) QD), (Qe.mk QdA (1543503872 : Int) QD), (Qe.mk Qj7 (2013265920 : Int) Fe), (Qe.mk Qgm (2013265921 : Int) Fe), (Qe.mk Qgl (2046820352 : Int) UR), (Qe.mk Qdt (2046820353 : Int) UR), (Qe.mk Qj5 (2080375316 : Int) Vx), (Qe.mk Qgp (2080374864 : Int) Vx), (Qe.mk QdC (2080375254 : Int) Vx), (Qe.mk Qj6 (2080374840 : Int) Vw), (Qe.mk s_or (2080375672 : Int) Vw), (Qe.mk Qj8 (2080375416 : Int) Vw)]), rfl⟩
noncomputable abbrev Qit {ρ R : Type} (k : (List Qe) → Tr ρ R) : Tr ρ R := .call (ww 139 [] []) (Wo) QcX k
noncomputable def Wo.s : Nat → Option (List Qe)
 | 0 => none
 | k + 1 => Qis
theorem Wo.cv : Cv (fun k => Wo.s k ) (Wo ) := .un rfl (by exact .const _)
def QbL (r : (Bool × ByteArray)) : AV × Heap := (xo r.1, [(0, .box [] (QW r.2))])
abbrev Qiu := Qe → ByteArray → Option (Bool × ByteArray)
def QbM (a0 : Qe) (h0 : ByteArray) : Option (Bool × ByteArray) := (some ((eqS a0.name h0), h0))
noncomputable def YG : Qiu := QbM
theorem YG.eq (a0 : Qe) (h0 : ByteArray) : YG a0 h0 = QbM a0 h0 := rfl
noncomputable def QnJ (a0 : Qe) (h0 : ByteArray) : Tr (Bool × ByteArray) AH := (rt QbL ((eqS a0.name h0), h0))
theorem YG.ok {a0 : Qe} {h0 : ByteArray} {r : (Bool × ByteArray)} (h : YG a0 h0 = some r) : ww 176 [.agg (ZA a0), .ptr 0 0] [(0, .box [] (QW h0))] = some (QbL r) := by
 refine fnP (QnJ a0 h0) ?_ h
 exact rfl
noncomputable abbrev QnK {ρ R : Type} (a0 : Qe) (h0 : ByteArray) (k : (Bool × ByteArray) → Tr ρ R) : Tr ρ R := .call (ww 176 [.agg (ZA a0), .ptr 0 0] [(0, .box [] (QW h0))]) (YG a0 h0) QbL k
def ZE (r : (Int × ByteArray)) : AV × Heap := (xi r.1, [(0, .box [] (QW r.2))])
abbrev QaG := (List Qe) → ByteArray → Option (Int × ByteArray)
structure JH where
 x0 : (List Qe)
 x7 : Int
 x8 : Int
 h0 : ByteArray
structure Uo where
 x4 : Int
 h0 : ByteArray
def Ga (a : JH) : St := { n := 19, nx := 1, env := [(0, .sl (X1 a.x0)), (1, .fn (.func 176) [] [.ptr 0 0]), (7, xi a.x7), (8, xi a.x8)], heap := [(0, .box [] (QW a.h0))] }
def EW (a : Uo) : Ex × St := (.ret, { n := 19, nx := 1, env := [(4, xi a.x4)], heap := [(0, .box [] (QW a.h0))] })
def EX (a : ByteArray) : Ex × St := (.exit 0, { n := 19, nx := 1, env := [], heap := [(0, .box [] (QW a))] })
def Gb (a : (Uo ⊕ ByteArray)) : Ex × St := Sum.elim EW EX a
abbrev Pb := JH → Option (Uo ⊕ ByteArray)
def Gc (C0 : Qiu) (a : JH) : Option (JH ⊕ (Uo ⊕ ByteArray)) := (bif (decide (a.x8 < a.x7)) then (bif (decide (0 ≤ a.x8)) then ((a.x0[(Int.toNat a.x8)]?).bind fun e1 => ((C0 e1 a.h0).bind fun r2 => (bif r2.1 then (some (.inr (.inl (Uo.mk a.x8 r2.2)))) else (some (.inl (JH.mk a.x0 a.x7 (w64 (a.x8 + 1)) r2.2)))))) else none) else (some (.inr (.inr a.h0))))
noncomputable def Ul : Pb := loopW (Gc YG)
theorem Ul.eq (a : JH) : Ul a = (Gc YG a).bind (Sum.elim Ul some) := Ja _ _
noncomputable abbrev QdN {ρ R : Type} (a : JH) (k0 : Uo → Tr ρ R) (k1 : ByteArray → Tr ρ R) : Tr ρ R := .loop2 (loopAt pp 175 2) (Ga a) (Ul a) EW EX k0 k1
noncomputable def QdO (a : JH) : Tr (JH ⊕ (Uo ⊕ ByteArray)) XS := (.as (decide (a.x8 < a.x7)) (.as (decide (0 ≤ a.x8)) (.row ((X1 a.x0)[(Int.toNat a.x8)]?) (a.x0[(Int.toNat a.x8)]?) ZA fun (e1 : Qe) => (QnK e1 a.h0 fun r2 => (.as r2.1 (rx Gb (.inl (Uo.mk a.x8 r2.2))) (lf Ga (JH.mk a.x0 a.x7 (w64 (a.x8 + 1)) r2.2))))) .fail) (rx Gb (.inr a.h0)))
theorem Ul.ok {a : JH} {r : (Uo ⊕ ByteArray)} (h : Ul a = some r) : lw 1 175 (loopAt pp 175 2) (Ga a) = some (Gb r) := by
 refine lpP h QdO fun a => ?_
 exact ⟨rfl, fun q0 => ⟨rfl, fun q1 => fun e1 h => ⟨Qe5 h, fun r2 h => ⟨YG.ok h, ⟨rfl, fun q2 => rfl, fun q2 => rfl⟩⟩⟩, fun q1 => trivial⟩, fun q0 => rfl⟩
def G9 (L0 : Pb) (a0 : (List Qe)) (h0 : ByteArray) : Option (Int × ByteArray) := ((L0 (JH.mk a0 (((a0.length) : Nat) : Int) (0 : Int) h0)).bind fun x => Sum.elim (fun (o1 : Uo) => (some (o1.x4, o1.h0))) (fun (o2 : ByteArray) => (some ((-1 : Int), o2))) x)
noncomputable def Wv : QaG := G9 Ul
theorem Wv.eq (a0 : (List Qe)) (h0 : ByteArray) : Wv a0 h0 = G9 Ul a0 h0 := rfl
noncomputable def Qgx (a0 : (List Qe)) (h0 : ByteArray) : Tr (Int × ByteArray) AH := (.num ((X1 a0).length) (a0.length) (QdN (JH.mk a0 (((a0.length) : Nat) : Int) i0 h0) (fun o1 => (rt ZE (o1.x4, o1.h0))) (fun o2 => (rt ZE ((-1 : Int), o2)))))
theorem Wv.ok {a0 : (List Qe)} {h0 : ByteArray} {r : (Int × ByteArray)} (h : Wv a0 h0 = some r) : ww 175 [.sl (X1 a0), .fn (.func 176) [] [.ptr 0 0]] [(0, .box [] (QW h0))] = some (ZE r) := by
 refine fnP (Qgx a0 h0) ?_ h
 exact ⟨(Qe6 _), ⟨fun o1 h => ⟨Ul.ok (r := (.inl _)) h, rfl⟩, fun o2 h => ⟨Ul.ok (r := (.inr _)) h, rfl⟩⟩⟩
noncomputable abbrev Qgy {ρ R : Type} (a0 : (List Qe)) (h0 : ByteArray) (k : (Int × ByteArray) → Tr ρ R) : Tr ρ R := .call (ww 175 [.sl (X1 a0), .fn (.func 176) [] [.ptr 0 0]] [(0, .box [] (QW h0))]) (Wv a0 h0) ZE k
def Ww (r : (Int × Bool)) : AV × Heap := (.tup [xi r.1, xo r.2], [])
abbrev QlV := ByteArray → Option (Int × Bool)
def Qet (C0 : Pa) (C1 : QaG) (a0 : ByteArray) : Option (Int × Bool) := ((C0).bind fun r1 => ((C1 r1 a0).bind fun r2 => (some ((if (0 : Int) > r2.1 then (0 : Int) else r2.1), (decide (r2.1 ≥ 0))))))
noncomputable def Yg : QlV := Qet Wo Wv
theorem Yg.eq (a0 : ByteArray) : Yg a0 = Qet Wo Wv a0 := rfl
noncomputable def QqT (a0 : ByteArray) : Tr (Int × Bool) AH := (Qit fun r1 => (Qgy r1 a0 fun r2 => (rt Ww ((if i0 > r2.1 then i0 else r2.1), (decide (r2.1 ≥ 0))))))
theorem Yg.ok {a0 : ByteArray} {r : (Int × Bool)} (h : Yg a0 = some r) : ww 124 [xs a0] [] = some (Ww r) := by
 refine fnP (QqT a0) ?_ h
 exact fun r1 h => ⟨Wo.ok h, fun r2 h => ⟨Wv.ok h, rfl⟩⟩
noncomputable abbrev QqU {ρ R : Type} (a0 : ByteArray) (k : (Int × Bool) → Tr ρ R) : Tr ρ R := .call (ww 124 [xs a0] []) (Yg a0) Ww k
abbrev Z2 := Qe → Option ByteArray
def Qaa (a0 : Qe) : Option ByteArray := (some a0.kinds)
noncomputable def Vy : Z2 := Qaa
noncomputable def Qgz (a0 : Qe) : Tr ByteArray AH := (rt Qk a0.kinds)
theorem Vy.ok {a0 : Qe} {r : ByteArray} (h : Vy a0 = some r) : ww 200 [.agg (ZA a0)] [] = some (Qk r) := by
 refine fnP (Qgz a0) ?_ h
 exact rfl
noncomputable abbrev QgA {ρ R : Type} (a0 : Qe) (k : ByteArray → Tr ρ R) : Tr ρ R := .call (ww 200 [.agg (ZA a0)] []) (Vy a0) Qk k
noncomputable def Vy.s : Nat → Qe → Option ByteArray
 | 0, _ => none
 | k + 1, a0 => Qaa a0
theorem Vy.cv (a0 : Qe) : Cv (fun k => Vy.s k a0) (Vy a0) := .un rfl (by exact .const _)
abbrev QhL := Int → Option ByteArray
def QbN (C0 : Pa) (C1 : Z2) (a0 : Int) : Option ByteArray := ((C0).bind fun r1 => (bif (decide (a0 ≥ 0)) then (bif (decide (a0 < (((r1.length) : Nat) : Int))) then (bif (decide (0 ≤ a0)) then ((r1[(Int.toNat a0)]?).bind fun e2 => ((C1 e2).bind fun r3 => (some r3))) else none) else (some s_)) else (some s_)))
theorem QsZ {C0 : Nat → Pa} {D0 : Pa} (H0 : Cv C0 D0) {C1 : Nat → Z2} {D1 : Z2} (H1 : Cv1 C1 D1) (a0 : Int) : Cv (fun k => QbN (C0 k) (C1 k) a0) (QbN D0 D1 a0) := by
 unfold QbN
 exact .bind (H0) fun r1 => .cond (.cond (.cond (.bind (.const _) fun e2 => .bind (H1 _) fun r3 => by exact .const _) cst) cst) cst
noncomputable def Ea : QhL := QbN Wo Vy
noncomputable def Qs0 (a0 : Int) : Tr ByteArray AH := (Qit fun r1 => (let u44 := (decide (a0 ≥ 0)); .as u44 (yesN 2 u44 (.num ((X1 r1).length) (r1.length) (yesN 2 u44 (.as (decide (a0 < (((r1.length) : Nat) : Int))) (.as (decide (0 ≤ a0)) (.row ((X1 r1)[(Int.toNat a0)]?) (r1[(Int.toNat a0)]?) ZA fun (e2 : Qe) => (QgA e2 fun r3 => (rt Qk r3))) .fail) (rt Qk s_))))) (noN 4 u44 (.no false (rt Qk s_)))))
theorem Ea.ok {a0 : Int} {r : ByteArray} (h : Ea a0 = some r) : ww 166 [xi a0, .fn (.func 200) [] []] [] = some (Qk r) := by
 refine fnP (Qs0 a0) ?_ h
 exact fun r1 h => ⟨Wo.ok h, ⟨rfl, fun q0 => Qj 2 (q0) (⟨(Qe6 _), Qj 2 (q0) (⟨rfl, fun q1 => ⟨rfl, fun q2 => fun e2 h => ⟨Qe5 h, fun r3 h => ⟨Vy.ok h, rfl⟩⟩, fun q2 => trivial⟩, fun q1 => rfl⟩)⟩), fun q0 => noN_ok 4 (q0) (⟨rfl, rfl⟩)⟩⟩
noncomputable abbrev Qs1 {ρ R : Type} (a0 : Int) (k : ByteArray → Tr ρ R) : Tr ρ R := .call (ww 166 [xi a0, .fn (.func 200) [] []] []) (Ea a0) Qk k
noncomputable def Ea.s : Nat → Int → Option ByteArray
 | 0, _ => none
 | k + 1, a0 => QbN (Wo.s k) (Vy.s k) a0
theorem Ea.cv (a0 : Int) : Cv (fun k => Ea.s k a0) (Ea a0) := .un rfl (QsZ Wo.cv Vy.cv a0)
abbrev Qke := Int → Option ByteArray
def EY (C0 : QhL) (a0 : Int) : Option ByteArray := ((C0 a0).bind fun r1 => (some r1))
theorem Qph {C0 : Nat → QhL} {D0 : QhL} (H0 : Cv1 C0 D0) (a0 : Int) : Cv (fun k => EY (C0 k) a0) (EY D0 a0) := by
 unfold EY
 exact .bind (H0 _) fun r1 => by exact .const _
noncomputable def Xj : Qke := EY Ea
noncomputable def Qpi (a0 : Int) : Tr ByteArray AH := (Qs1 a0 fun r1 => (rt Qk r1))
theorem Xj.ok {a0 : Int} {r : ByteArray} (h : Xj a0 = some r) : ww 146 [xi a0] [] = some (Qk r) := by
 refine fnP (Qpi a0) ?_ h
 exact fun r1 h => ⟨Ea.ok h, rfl⟩
noncomputable abbrev Qpj {ρ R : Type} (a0 : Int) (k : ByteArray → Tr ρ R) : Tr ρ R := .call (ww 146 [xi a0] []) (Xj a0) Qk k
noncomputable def Xj.s : Nat → Int → Option ByteArray
 | 0, _ => none
 | k + 1, a0 => EY (Ea.s k) a0
theorem Xj.cv (a0 : Int) : Cv (fun k => Xj.s k a0) (Xj a0) := .un rfl (Qph Ea.cv a0)
abbrev Qkf := ByteArray → Option (List ByteArray)
noncomputable def Yh (a0 : ByteArray) : Option (List ByteArray) := fieldsS a0
noncomputable abbrev Qje {ρ R : Type} (a0 : ByteArray) (k : (List ByteArray) → Tr ρ R) : Tr ρ R := .call (ww 145 [xs a0] []) (Yh a0) Jg k
theorem Yh.ok {a0 : ByteArray} {r : (List ByteArray)} (h : Yh a0 = some r) : ww 145 [xs a0] [] = some (Jg r) := (GJ rfl _ _).trans (QrL h)
abbrev Qh0 := ByteArray → ByteArray → Option Bool
noncomputable def XD (a0 : ByteArray) (a1 : ByteArray) : Option Bool := containsS a0 a1
noncomputable abbrev QgB {ρ R : Type} (a0 : ByteArray) (a1 : ByteArray) (k : Bool → Tr ρ R) : Tr ρ R := .call (ww 177 [xs a0, xs a1] []) (XD a0 a1) Ql k
theorem XD.ok {a0 : ByteArray} {a1 : ByteArray} {r : Bool} (h : XD a0 a1 = some r) : ww 177 [xs a0, xs a1] [] = some (Ql r) := (GJ rfl _ _).trans (Qo9 h)
def Qav (r : (List (List Int))) : AV × Heap := (.sl (SS r), [])
abbrev Zc := Option (List (List Int))
def Qfb : Option (List (List Int)) := (some [[(9 : Int)], [(8 : Int)], [(10 : Int), (11 : Int)], [(5 : Int), (6 : Int)], [(7 : Int)]])
noncomputable def VU : Zc := Qfb
theorem VU.eq : VU = Qfb := rfl
noncomputable def QmH : Tr (List (List Int)) AH := (.rows [[xi (zi 9)]] (Qy [(zi 9)]) (.rows [[xi (zi 8)]] (Qy [(zi 8)]) (.rows [[xi (zi 10)], [xi (zi 11)]] (Qy [(zi 10), (zi 11)]) (.rows [[xi (zi 5)], [xi (zi 6)]] (Qy [(zi 5), (zi 6)]) (.rows [[xi (zi 7)]] (Qy [(zi 7)]) (.rows [[.sl (Qy [(zi 9)])], [.sl (Qy [(zi 8)])], [.sl (Qy [(zi 10), (zi 11)])], [.sl (Qy [(zi 5), (zi 6)])], [.sl (Qy [(zi 7)])]] (SS [[(zi 9)], [(zi 8)], [(zi 10), (zi 11)], [(zi 5), (zi 6)], [(zi 7)]]) (rt Qav [[(zi 9)], [(zi 8)], [(zi 10), (zi 11)], [(zi 5), (zi 6)], [(zi 7)]])))))))
theorem VU.ok {r : (List (List Int))} (h : VU = some r) : ww 242 [] [] = some (Qav r) := by
 refine fnP (QmH) ?_ h
 exact ⟨(JP [(9 : Int)]), ⟨(JP [(8 : Int)]), ⟨(JP [(10 : Int), (11 : Int)]), ⟨(JP [(5 : Int), (6 : Int)]), ⟨(JP [(7 : Int)]), ⟨(Qeq [[(9 : Int)], [(8 : Int)], [(10 : Int), (11 : Int)], [(5 : Int), (6 : Int)], [(7 : Int)]]), rfl⟩⟩⟩⟩⟩⟩
noncomputable abbrev Qaw {ρ R : Type} (k : (List (List Int)) → Tr ρ R) : Tr ρ R := .call (ww 242 [] []) (VU) Qav k
abbrev Fz := ByteArray → Int → Option ByteArray
structure Jn where
 x0 : ByteArray
 x1 : Int
def YH (a : Jn) : St := { n := 17, nx := 0, env := [(0, xs a.x0), (1, xb a.x1)], heap := [] }
def XO (a : ByteArray) : Ex × St := (.exit 0, { n := 17, nx := 0, env := [(0, xs a)], heap := [] })
abbrev Eb := Jn → Option ByteArray
def YI (a : Jn) : Option (Jn ⊕ ByteArray) := (bif (decide (((a.x0.size : Nat) : Int) > 0)) then (bif (decide (0 ≤ (0 : Int) ∧ (0 : Int) < ((a.x0.size : Nat) : Int))) then (bif (((a.x0.data.getD (Int.toNat 0) 0).toNat : Int) == a.x1) then (bif (decide (0 ≤ (1 : Int) ∧ (1 : Int) ≤ ((a.x0.size : Nat) : Int) ∧ ((a.x0.size : Nat) : Int) ≤ ((a.x0.size : Nat) : Int))) then (some (.inl (Jn.mk (a.x0.extract (Int.toNat 1) (Int.toNat ((a.x0.size : Nat) : Int))) a.x1))) else none) else (some (.inr a.x0))) else none) else (some (.inr a.x0)))
noncomputable def JF : Eb := loopW (YI )
theorem JF.eq (a : Jn) : JF a = (YI a).bind (Sum.elim JF some) := Ja _ _
noncomputable abbrev QaW {ρ R : Type} (a : Jn) (k0 : ByteArray → Tr ρ R) : Tr ρ R := .loop (loopAt pp 116 1) (YH a) (JF a) XO k0
noncomputable def QaX (a : Jn) : Tr (Jn ⊕ ByteArray) XS := (let u45 := (decide ((zz a.x0) > 0)); .as u45 (.yes u45 (.as (in1 i0 (zz a.x0)) (yesN 3 u45 (.as ((gb a.x0 i0) == a.x1) (.as (in2 (zi 1) (zz a.x0) (zz a.x0)) (lf YH (Jn.mk (cu a.x0 (zi 1) (zz a.x0)) a.x1)) .fail) (rx XO a.x0))) .fail)) (noN 4 u45 (.no false (rx XO a.x0))))
theorem JF.ok {a : Jn} {r : ByteArray} (h : JF a = some r) : lw 0 116 (loopAt pp 116 1) (YH a) = some (XO r) := by
 refine lpP h QaX fun a => ?_
 exact ⟨rfl, fun q0 => ⟨q0, ⟨rfl, fun q1 => Qj 3 (q0) (⟨rfl, fun q2 => ⟨rfl, fun q3 => rfl, fun q3 => trivial⟩, fun q2 => rfl⟩), fun q1 => trivial⟩⟩, fun q0 => noN_ok 4 (q0) (⟨rfl, rfl⟩)⟩
def ZR (L0 : Eb) (a0 : ByteArray) (a1 : Int) : Option ByteArray := ((L0 (Jn.mk a0 a1)).bind (fun (o1 : ByteArray) => (some o1)))
noncomputable def Vg : Fz := ZR JF
theorem Vg.eq (a0 : ByteArray) (a1 : Int) : Vg a0 a1 = ZR JF a0 a1 := rfl
noncomputable def QcY (a0 : ByteArray) (a1 : Int) : Tr ByteArray AH := (QaW (Jn.mk a0 a1) (fun o1 => (rt Qk o1)))
theorem Vg.ok {a0 : ByteArray} {a1 : Int} {r : ByteArray} (h : Vg a0 a1 = some r) : ww 116 [xs a0, xb a1] [] = some (Qk r) := by
 refine fnP (QcY a0 a1) ?_ h
 exact fun o1 h => ⟨JF.ok h, rfl⟩
noncomputable abbrev QcZ {ρ R : Type} (a0 : ByteArray) (a1 : Int) (k : ByteArray → Tr ρ R) : Tr ρ R := .call (ww 116 [xs a0, xb a1] []) (Vg a0 a1) Qk k
abbrev QaH := ByteArray → Option ByteArray
def Ec (C0 : Fz) (a0 : ByteArray) : Option ByteArray := (bif (eqS a0 s_) then (some a0) else ((C0 a0 (32 : Int)).bind fun r1 => (some r1)))
noncomputable def VV : QaH := Ec Vg
theorem VV.eq (a0 : ByteArray) : VV a0 = Ec Vg a0 := rfl
noncomputable def QgC (a0 : ByteArray) : Tr ByteArray AH := (let u46 := (eqS a0 s_); .as u46 (yesN 2 u46 (.yes true (rt Qk a0))) (noN 2 u46 (.no false (yesN 2 true (.yes (in1 i0 (zz h_20)) (yesN 3 true (.yes (in1 i0 (zz h_20)) (QcZ a0 (zi 32) fun r1 => (rt Qk r1)))))))))
theorem VV.ok {a0 : ByteArray} {r : ByteArray} (h : VV a0 = some r) : ww 245 [xs a0, xs h_20] [] = some (Qk r) := by
 refine fnP (QgC a0) ?_ h
 exact ⟨rfl, fun q0 => Qj 2 (q0) (⟨rfl, rfl⟩), fun q0 => noN_ok 2 (q0) (⟨rfl, Qj 2 (rfl) (⟨(by decide), Qj 3 (rfl) (⟨(by decide), fun r1 h => ⟨Vg.ok h, rfl⟩⟩)⟩)⟩)⟩
noncomputable abbrev QgD {ρ R : Type} (a0 : ByteArray) (k : ByteArray → Tr ρ R) : Tr ρ R := .call (ww 245 [xs a0, xs h_20] []) (VV a0) Qk k
def Gu (r : Qd) : AV × Heap := (.tup [], [(0, .box [] (QM r))])
abbrev GO := Qd → Option Qd
def Gv (C0 : QaH) (h0 : Qd) : Option Qd := ((C0 h0.left).bind fun r1 => (some (Qd.mk r1 h0.deep h0.bad)))
noncomputable def Uf : GO := Gv VV
theorem Uf.eq (h0 : Qd) : Uf h0 = Gv VV h0 := rfl
noncomputable def Qeu (h0 : Qd) : Tr Qd AH := (QgD h0.left fun r1 => (rt Gu (Qd.mk r1 h0.deep h0.bad)))
theorem Uf.ok {h0 : Qd} {r : Qd} (h : Uf h0 = some r) : ww 216 [.ptr 0 0] [(0, .box [] (QM h0))] = some (Gu r) := by
 refine fnP (Qeu h0) ?_ h
 exact fun r1 h => ⟨VV.ok h, rfl⟩
noncomputable abbrev Pc {ρ R : Type} (h0 : Qd) (k : Qd → Tr ρ R) : Tr ρ R := .call (ww 216 [.ptr 0 0] [(0, .box [] (QM h0))]) (Uf h0) Gu k
abbrev ZS := ByteArray → ByteArray → Option Bool
def Zo (a0 : ByteArray) (a1 : ByteArray) : Option Bool := (bif (decide (((a0.size : Nat) : Int) ≥ ((a1.size : Nat) : Int))) then (bif (decide (0 ≤ (0 : Int) ∧ (0 : Int) ≤ ((a1.size : Nat) : Int) ∧ ((a1.size : Nat) : Int) ≤ ((a0.size : Nat) : Int))) then (some (eqS (a0.extract (Int.toNat 0) (Int.toNat ((a1.size : Nat) : Int))) a1)) else none) else (some false))
noncomputable def JW : ZS := Zo
theorem JW.eq (a0 : ByteArray) (a1 : ByteArray) : JW a0 a1 = Zo a0 a1 := rfl
noncomputable def Qcl (a0 : ByteArray) (a1 : ByteArray) : Tr Bool AH := (let u47 := (decide ((zz a0) ≥ (zz a1))); .as u47 (yesN 3 u47 (.as (in2 i0 (zz a1) (zz a0)) (yesN 3 u47 (rt Ql (eqS (cu a0 i0 (zz a1)) a1))) .fail)) (noN 6 u47 (rt Ql false)))
theorem JW.ok {a0 : ByteArray} {a1 : ByteArray} {r : Bool} (h : JW a0 a1 = some r) : ww 284 [xs a0, xs a1] [] = some (Ql r) := by
 refine fnP (Qcl a0 a1) ?_ h
 exact ⟨rfl, fun q0 => Qj 3 (q0) (⟨rfl, fun q1 => Qj 3 (q0) (rfl), fun q1 => trivial⟩), fun q0 => noN_ok 6 (q0) (rfl)⟩
noncomputable abbrev EJ {ρ R : Type} (a0 : ByteArray) (a1 : ByteArray) (k : Bool → Tr ρ R) : Tr ρ R := .call (ww 284 [xs a0, xs a1] []) (JW a0 a1) Ql k
abbrev Qab := ByteArray → ByteArray → Option Bool
def Zi (C0 : ZS) (a0 : ByteArray) (a1 : ByteArray) : Option Bool := ((C0 a0 a1).bind fun r1 => (some r1))
noncomputable def Vd : Qab := Zi JW
theorem Vd.eq (a0 : ByteArray) (a1 : ByteArray) : Vd a0 a1 = Zi JW a0 a1 := rfl
noncomputable def QfG (a0 : ByteArray) (a1 : ByteArray) : Tr Bool AH := (EJ a0 a1 fun r1 => (rt Ql r1))
theorem Vd.ok {a0 : ByteArray} {a1 : ByteArray} {r : Bool} (h : Vd a0 a1 = some r) : ww 265 [xs a0, xs a1] [] = some (Ql r) := by
 refine fnP (QfG a0 a1) ?_ h
 exact fun r1 h => ⟨JW.ok h, rfl⟩
noncomputable abbrev QfH {ρ R : Type} (a0 : ByteArray) (a1 : ByteArray) (k : Bool → Tr ρ R) : Tr ρ R := .call (ww 265 [xs a0, xs a1] []) (Vd a0 a1) Ql k
def Yu (r : (Bool × Qd)) : AV × Heap := (xo r.1, [(0, .box [] (QM r.2))])
abbrev WO := ByteArray → Qd → Option (Bool × Qd)
def Ed (C0 : GO) (C1 : Qab) (a1 : ByteArray) (h0 : Qd) : Option (Bool × Qd) := ((C0 h0).bind fun r1 => (bif r1.bad then (some (false, r1)) else ((C1 r1.left a1).bind fun r2 => (bif (!r2) then (some (false, r1)) else (bif (decide (0 ≤ ((a1.size : Nat) : Int) ∧ ((a1.size : Nat) : Int) ≤ ((r1.left.size : Nat) : Int) ∧ ((r1.left.size : Nat) : Int) ≤ ((r1.left.size : Nat) : Int))) then (some (true, (Qd.mk (r1.left.extract (Int.toNat ((a1.size : Nat) : Int)) (Int.toNat ((r1.left.size : Nat) : Int))) r1.deep r1.bad))) else none)))))
noncomputable def JC : WO := Ed Uf Vd
theorem JC.eq (a1 : ByteArray) (h0 : Qd) : JC a1 h0 = Ed Uf Vd a1 h0 := rfl
noncomputable def QgE (a1 : ByteArray) (h0 : Qd) : Tr (Bool × Qd) AH := (Pc h0 fun r1 => (.as r1.bad (yesN 7 r1.bad (.yes true (rt Yu (false, r1)))) (noN 5 r1.bad (QfH r1.left a1 fun r2 => (noN 2 r1.bad (.as (!r2) (rt Yu (false, r1)) (.as (in2 (zz a1) (zz r1.left) (zz r1.left)) (rt Yu (true, (Qd.mk (cu r1.left (zz a1) (zz r1.left)) r1.deep r1.bad))) .fail)))))))
theorem JC.ok {a1 : ByteArray} {h0 : Qd} {r : (Bool × Qd)} (h : JC a1 h0 = some r) : ww 261 [.ptr 0 0, xs a1] [(0, .box [] (QM h0))] = some (Yu r) := by
 refine fnP (QgE a1 h0) ?_ h
 exact fun r1 h => ⟨Uf.ok h, ⟨rfl, fun q0 => Qj 7 (q0) (⟨rfl, rfl⟩), fun q0 => noN_ok 5 (q0) (fun r2 h => ⟨Vd.ok h, noN_ok 2 (q0) (⟨rfl, fun q1 => rfl, fun q1 => ⟨rfl, fun q2 => rfl, fun q2 => trivial⟩⟩)⟩)⟩⟩
noncomputable abbrev Yv {ρ R : Type} (a1 : ByteArray) (h0 : Qd) (k : (Bool × Qd) → Tr ρ R) : Tr ρ R := .call (ww 261 [.ptr 0 0, xs a1] [(0, .box [] (QM h0))]) (JC a1 h0) Yu k
def Qs (r : (Qa × Qd)) : AV × Heap := (.agg (QZ r.1), [(0, .box [] (QM r.2))])
abbrev JY := Qd → Option (Qa × Qd)
def Qac (h0 : Qd) : Option (Qa × Qd) := (some ((Qa.mk (0 : Int) (0 : Int) s_ ([] : List Qa)), (Qd.mk h0.left h0.deep true)))
noncomputable def QS : JY := Qac
theorem QS.eq (h0 : Qd) : QS h0 = Qac h0 := rfl
noncomputable def QgF (h0 : Qd) : Tr (Qa × Qd) AH := (rt Qs ((Qa.mk i0 i0 s_ ([] : List Qa)), (Qd.mk h0.left h0.deep true)))
theorem QS.ok {h0 : Qd} {r : (Qa × Qd)} (h : QS h0 = some r) : ww 273 [.ptr 0 0] [(0, .box [] (QM h0))] = some (Qs r) := by
 refine fnP (QgF h0) ?_ h
 exact rfl
noncomputable abbrev Wp {ρ R : Type} (h0 : Qd) (k : (Qa × Qd) → Tr ρ R) : Tr ρ R := .call (ww 273 [.ptr 0 0] [(0, .box [] (QM h0))]) (QS h0) Qs k
abbrev YJ := ByteArray → Option Bool
def Gd (C0 : ZS) (a0 : ByteArray) : Option Bool := ((C0 a0 s_0x).bind fun r1 => (some r1))
noncomputable def U4 : YJ := Gd JW
theorem U4.eq (a0 : ByteArray) : U4 a0 = Gd JW a0 := rfl
noncomputable def QdP (a0 : ByteArray) : Tr Bool AH := (EJ a0 s_0x fun r1 => (rt Ql r1))
theorem U4.ok {a0 : ByteArray} {r : Bool} (h : U4 a0 = some r) : ww 265 [xs a0, xs s_0x] [] = some (Ql r) := by
 refine fnP (QdP a0) ?_ h
 exact fun r1 h => ⟨JW.ok h, rfl⟩
noncomputable abbrev QdQ {ρ R : Type} (a0 : ByteArray) (k : Bool → Tr ρ R) : Tr ρ R := .call (ww 265 [xs a0, xs s_0x] []) (U4 a0) Ql k
abbrev EZ := Int → Option Bool
def QbO (a0 : Int) : Option Bool := (bif (decide (a0 ≥ 48)) then (some (decide (a0 ≤ (57 : Int)))) else (some false))
noncomputable def Vh : EZ := QbO
theorem Vh.eq (a0 : Int) : Vh a0 = QbO a0 := rfl
noncomputable def QnL (a0 : Int) : Tr Bool AH := (let u48 := (decide (a0 ≥ 48)); .as u48 (yesN 2 u48 (rt Ql (decide (a0 ≤ (zi 57))))) (noN 2 u48 (rt Ql false)))
theorem Vh.ok {a0 : Int} {r : Bool} (h : Vh a0 = some r) : ww 270 [.sc (.int .i32 a0)] [] = some (Ql r) := by
 refine fnP (QnL a0) ?_ h
 exact ⟨rfl, fun q0 => Qj 2 (q0) (rfl), fun q0 => noN_ok 2 (q0) (rfl)⟩
noncomputable abbrev Pd {ρ R : Type} (a0 : Int) (k : Bool → Tr ρ R) : Tr ρ R := .call (ww 270 [.sc (.int .i32 a0)] []) (Vh a0) Ql k
abbrev QlW := Int → Option Bool
def Qev (C0 : EZ) (a0 : Int) : Option Bool := ((C0 a0).bind fun r1 => (bif r1 then (some true) else (bif (decide (a0 ≥ 97)) then (some (decide (a0 ≤ (102 : Int)))) else (some false))))
noncomputable def ZT : QlW := Qev Vh
theorem ZT.eq (a0 : Int) : ZT a0 = Qev Vh a0 := rfl
noncomputable def QqV (a0 : Int) : Tr Bool AH := (Pd a0 fun r1 => (.as r1 (yesN 4 r1 (rt Ql true)) (noN 2 r1 (let u49 := (decide (a0 ≥ 97)); .as u49 (.yes u49 (.no r1 (.yes u49 (.no r1 (rt Ql (decide (a0 ≤ (zi 102)))))))) (.no u49 (.no r1 (.no u49 (.no r1 (rt Ql false)))))))))
theorem ZT.ok {a0 : Int} {r : Bool} (h : ZT a0 = some r) : ww 267 [.sc (.int .i32 a0)] [] = some (Ql r) := by
 refine fnP (QqV a0) ?_ h
 exact fun r1 h => ⟨Vh.ok h, ⟨rfl, fun q0 => Qj 4 (q0) (rfl), fun q0 => noN_ok 2 (q0) (⟨rfl, fun q1 => ⟨q1, ⟨q0, ⟨q1, ⟨q0, rfl⟩⟩⟩⟩, fun q1 => ⟨q1, ⟨q0, ⟨q1, ⟨q0, rfl⟩⟩⟩⟩⟩)⟩⟩
noncomputable abbrev QqW {ρ R : Type} (a0 : Int) (k : Bool → Tr ρ R) : Tr ρ R := .call (ww 267 [.sc (.int .i32 a0)] []) (ZT a0) Ql k
abbrev Qew := ByteArray → Option ByteArray
structure Wb where
 x0 : ByteArray
 i0s : ByteArray
 i0p : Nat
def QbP (a : Wb) : St := { n := 21, nx := 1, env := [(0, xs a.x0), (1, .fn (.func 267) [] []), (8, .it 0)], heap := [(0, .iter a.i0s a.i0p)] }
def Qfc (a : ByteArray) : Ex × St := (.ret, { n := 21, nx := 0, env := [(4, xs a)], heap := [] })
def Qfd (a : ByteArray) : Ex × St := (.exit 0, { n := 21, nx := 0, env := [(0, xs a)], heap := [] })
def QbQ (a : (ByteArray ⊕ ByteArray)) : Ex × St := Sum.elim Qfc Qfd a
abbrev Qiv := Wb → Option (ByteArray ⊕ ByteArray)
def QbR (C0 : QlW) (a : Wb) : Option (Wb ⊕ (ByteArray ⊕ ByteArray)) := (bif (decide (a.i0p < a.i0s.size)) then ((C0 (((Utf8.decode a.i0s a.i0p).1 : Nat) : Int)).bind fun r1 => (bif (!r1) then (bif (decide (0 ≤ (0 : Int) ∧ (0 : Int) ≤ ((a.i0p : Nat) : Int) ∧ ((a.i0p : Nat) : Int) ≤ ((a.x0.size : Nat) : Int))) then (some (.inr (.inl (a.x0.extract (Int.toNat 0) (Int.toNat ((a.i0p : Nat) : Int)))))) else none) else (some (.inl (Wb.mk a.x0 a.i0s (a.i0p + (Utf8.decode a.i0s a.i0p).2)))))) else (some (.inr (.inr a.x0))))
noncomputable def XQ : Qiv := loopW (QbR ZT)
theorem XQ.eq (a : Wb) : XQ a = (QbR ZT a).bind (Sum.elim XQ some) := Ja _ _
noncomputable abbrev QnM {ρ R : Type} (a : Wb) (k0 : ByteArray → Tr ρ R) (k1 : ByteArray → Tr ρ R) : Tr ρ R := .loop2 (loopAt pp 266 2) (QbP a) (XQ a) Qfc Qfd k0 k1
noncomputable def QnN (a : Wb) : Tr (Wb ⊕ (ByteArray ⊕ ByteArray)) XS := (.as (decide (a.i0p < a.i0s.size)) (.yes true (QqW (((Utf8.decode a.i0s a.i0p).1 : Nat) : Int) fun r1 => (.as (!r1) (.as (in2 i0 ((a.i0p : Nat) : Int) (zz a.x0)) (rx QbQ (.inl (cu a.x0 i0 ((a.i0p : Nat) : Int)))) .fail) (lf QbP (Wb.mk a.x0 a.i0s (a.i0p + (Utf8.decode a.i0s a.i0p).2)))))) (.no false (rx QbQ (.inr a.x0))))
theorem XQ.ok {a : Wb} {r : (ByteArray ⊕ ByteArray)} (h : XQ a = some r) : lw 0 266 (loopAt pp 266 2) (QbP a) = some (QbQ r) := by
 refine lpP h QnN fun a => ?_
 exact ⟨rfl, fun q0 => ⟨rfl, fun r1 h => ⟨ZT.ok h, ⟨rfl, fun q1 => ⟨rfl, fun q2 => rfl, fun q2 => trivial⟩, fun q1 => rfl⟩⟩⟩, fun q0 => ⟨rfl, rfl⟩⟩
def QgG (L0 : Qiv) (a0 : ByteArray) : Option ByteArray := ((L0 (Wb.mk a0 a0 0)).bind fun x => Sum.elim (fun (o1 : ByteArray) => (some o1)) (fun (o2 : ByteArray) => (some o2)) x)
noncomputable def Ge : Qew := QgG XQ
theorem Ge.eq (a0 : ByteArray) : Ge a0 = QgG XQ a0 := rfl
noncomputable def QrU (a0 : ByteArray) : Tr ByteArray AH := (QnM (Wb.mk a0 a0 0) (fun o1 => (rt Qk o1)) (fun o2 => (rt Qk o2)))
theorem Ge.ok {a0 : ByteArray} {r : ByteArray} (h : Ge a0 = some r) : ww 266 [xs a0, .fn (.func 267) [] []] [] = some (Qk r) := by
 refine fnP (QrU a0) ?_ h
 exact ⟨fun o1 h => ⟨XQ.ok (r := (.inl _)) h, rfl⟩, fun o2 h => ⟨XQ.ok (r := (.inr _)) h, rfl⟩⟩
noncomputable abbrev QlX {ρ R : Type} (a0 : ByteArray) (k : ByteArray → Tr ρ R) : Tr ρ R := .call (ww 266 [xs a0, .fn (.func 267) [] []] []) (Ge a0) Qk k
abbrev Zj := ByteArray → Int → Qd → Option (Qa × Qd)
structure Jj where
 x1 : ByteArray
 x2 : Int
 x7 : Int
 h0 : Qd
 h1 : Qa
 i2s : ByteArray
 i2p : Nat
structure Jx where
 h0 : Qd
 h1 : Qa
structure J4 where
 x1 : ByteArray
 x7 : Int
 h0 : Qd
 h1 : Qa
def X7 (a : Jj) : St := { n := 46, nx := 3, env := [(0, .ptr 0 0), (1, xs a.x1), (2, xi a.x2), (6, .ptr 1 0), (7, xi a.x7), (12, .it 2)], heap := [(0, .box [] (QM a.h0)), (1, .box [] (QZ a.h1)), (2, .iter a.i2s a.i2p)] }
def Ee (a : Jx) : Ex × St := (.ret, { n := 46, nx := 2, env := [(6, .ptr 1 0)], heap := [(0, .box [] (QM a.h0)), (1, .box [] (QZ a.h1))] })
def Ef (a : J4) : Ex × St := (.exit 0, { n := 46, nx := 2, env := [(0, .ptr 0 0), (1, xs a.x1), (6, .ptr 1 0), (7, xi a.x7)], heap := [(0, .box [] (QM a.h0)), (1, .box [] (QZ a.h1))] })
def X8 (a : (Jx ⊕ J4)) : Ex × St := Sum.elim Ee Ef a
abbrev E1 := Jj → Option (Jx ⊕ J4)
def Zp (C0 : JY) (a : Jj) : Option (Jj ⊕ (Jx ⊕ J4)) := (bif (decide (a.i2p < a.i2s.size)) then (bif (decide ((((Utf8.decode a.i2s a.i2p).1 : Nat) : Int) ≥ 97)) then (bif (decide ((w64 ((w64 (a.x7 * a.x2)) + (w64 ((w64 (IntKind.i32.wrap ((((Utf8.decode a.i2s a.i2p).1 : Nat) : Int) - 97))) + 10)))) ≥ 4294967296)) then ((C0 a.h0).bind fun r1 => (some (.inr (.inl (Jx.mk r1.2 r1.1))))) else (some (.inl (Jj.mk a.x1 a.x2 (w64 ((w64 (a.x7 * a.x2)) + (w64 ((w64 (IntKind.i32.wrap ((((Utf8.decode a.i2s a.i2p).1 : Nat) : Int) - 97))) + 10)))) a.h0 a.h1 a.i2s (a.i2p + (Utf8.decode a.i2s a.i2p).2))))) else (bif (decide ((w64 ((w64 (a.x7 * a.x2)) + (w64 (IntKind.i32.wrap ((((Utf8.decode a.i2s a.i2p).1 : Nat) : Int) - 48))))) ≥ 4294967296)) then ((C0 a.h0).bind fun r2 => (some (.inr (.inl (Jx.mk r2.2 r2.1))))) else (some (.inl (Jj.mk a.x1 a.x2 (w64 ((w64 (a.x7 * a.x2)) + (w64 (IntKind.i32.wrap ((((Utf8.decode a.i2s a.i2p).1 : Nat) : Int) - 48))))) a.h0 a.h1 a.i2s (a.i2p + (Utf8.decode a.i2s a.i2p).2)))))) else (some (.inr (.inr (J4.mk a.x1 a.x7 a.h0 a.h1)))))
noncomputable def Ug : E1 := loopW (Zp QS)
theorem Ug.eq (a : Jj) : Ug a = (Zp QS a).bind (Sum.elim Ug some) := Ja _ _
noncomputable abbrev Qcm {ρ R : Type} (a : Jj) (k0 : Jx → Tr ρ R) (k1 : J4 → Tr ρ R) : Tr ρ R := .loop2 (loopAt pp 269 3) (X7 a) (Ug a) Ee Ef k0 k1
noncomputable def Qcn (a : Jj) : Tr (Jj ⊕ (Jx ⊕ J4)) XS := (.as (decide (a.i2p < a.i2s.size)) (.yes true (.as (decide ((((Utf8.decode a.i2s a.i2p).1 : Nat) : Int) ≥ 97)) (.as (decide ((w64 ((w64 (a.x7 * a.x2)) + (w64 ((w64 (IntKind.i32.wrap ((((Utf8.decode a.i2s a.i2p).1 : Nat) : Int) - 97))) + 10)))) ≥ 4294967296)) (Wp a.h0 fun r1 => (rx X8 (.inl (Jx.mk r1.2 r1.1)))) (lf X7 (Jj.mk a.x1 a.x2 (w64 ((w64 (a.x7 * a.x2)) + (w64 ((w64 (IntKind.i32.wrap ((((Utf8.decode a.i2s a.i2p).1 : Nat) : Int) - 97))) + 10)))) a.h0 a.h1 a.i2s (a.i2p + (Utf8.decode a.i2s a.i2p).2)))) (.as (decide ((w64 ((w64 (a.x7 * a.x2)) + (w64 (IntKind.i32.wrap ((((Utf8.decode a.i2s a.i2p).1 : Nat) : Int) - 48))))) ≥ 4294967296)) (Wp a.h0 fun r2 => (rx X8 (.inl (Jx.mk r2.2 r2.1)))) (lf X7 (Jj.mk a.x1 a.x2 (w64 ((w64 (a.x7 * a.x2)) + (w64 (IntKind.i32.wrap ((((Utf8.decode a.i2s a.i2p).1 : Nat) : Int) - 48))))) a.h0 a.h1 a.i2s (a.i2p + (Utf8.decode a.i2s a.i2p).2)))))) (.no false (rx X8 (.inr (J4.mk a.x1 a.x7 a.h0 a.h1)))))
theorem Ug.ok {a : Jj} {r : (Jx ⊕ J4)} (h : Ug a = some r) : lw 1 269 (loopAt pp 269 3) (X7 a) = some (X8 r) := by
 refine lpP h Qcn fun a => ?_
 exact ⟨rfl, fun q0 => ⟨rfl, ⟨rfl, fun q1 => ⟨rfl, fun q2 => fun r1 h => ⟨QS.ok h, rfl⟩, fun q2 => rfl⟩, fun q1 => ⟨rfl, fun q2 => fun r2 h => ⟨QS.ok h, rfl⟩, fun q2 => rfl⟩⟩⟩, fun q0 => ⟨rfl, rfl⟩⟩
def Gw (L0 : E1) (a1 : ByteArray) (a2 : Int) (h0 : Qd) : Option (Qa × Qd) := ((L0 (Jj.mk a1 a2 (0 : Int) h0 (Qa.mk (0 : Int) (0 : Int) s_ ([] : List Qa)) a1 0)).bind fun x => Sum.elim (fun (o1 : Jx) => (some (o1.h1, o1.h0))) (fun (o2 : J4) => (bif (decide (0 ≤ ((o2.x1.size : Nat) : Int) ∧ ((o2.x1.size : Nat) : Int) ≤ ((o2.h0.left.size : Nat) : Int) ∧ ((o2.h0.left.size : Nat) : Int) ≤ ((o2.h0.left.size : Nat) : Int))) then (some ((Qa.mk (1 : Int) o2.x7 s_ ([] : List Qa)), (Qd.mk (o2.h0.left.extract (Int.toNat ((o2.x1.size : Nat) : Int)) (Int.toNat ((o2.h0.left.size : Nat) : Int))) o2.h0.deep o2.h0.bad))) else none)) x)
noncomputable def J0 : Zj := Gw Ug
theorem J0.eq (a1 : ByteArray) (a2 : Int) (h0 : Qd) : J0 a1 a2 h0 = Gw Ug a1 a2 h0 := rfl
noncomputable def Qex (a1 : ByteArray) (a2 : Int) (h0 : Qd) : Tr (Qa × Qd) AH := (Qcm (Jj.mk a1 a2 i0 h0 (Qa.mk i0 i0 s_ ([] : List Qa)) a1 0) (fun o1 => (rt Qs (o1.h1, o1.h0))) (fun o2 => (.as (in2 (zz o2.x1) (zz o2.h0.left) (zz o2.h0.left)) (rt Qs ((Qa.mk (zi 1) o2.x7 s_ ([] : List Qa)), (Qd.mk (cu o2.h0.left (zz o2.x1) (zz o2.h0.left)) o2.h0.deep o2.h0.bad))) .fail)))
theorem J0.ok {a1 : ByteArray} {a2 : Int} {h0 : Qd} {r : (Qa × Qd)} (h : J0 a1 a2 h0 = some r) : ww 269 [.ptr 0 0, xs a1, xi a2] [(0, .box [] (QM h0))] = some (Qs r) := by
 refine fnP (Qex a1 a2 h0) ?_ h
 exact ⟨fun o1 h => ⟨Ug.ok (r := (.inl _)) h, rfl⟩, fun o2 h => ⟨Ug.ok (r := (.inr _)) h, ⟨rfl, fun q0 => rfl, fun q0 => trivial⟩⟩⟩
noncomputable abbrev Gx {ρ R : Type} (a1 : ByteArray) (a2 : Int) (h0 : Qd) (k : (Qa × Qd) → Tr ρ R) : Tr ρ R := .call (ww 269 [.ptr 0 0, xs a1, xi a2] [(0, .box [] (QM h0))]) (J0 a1 a2 h0) Qs k
abbrev Qiw := Int → Option Bool
def QbS (a0 : Int) : Option Bool := (bif (decide (a0 ≥ 97)) then (bif (decide (a0 ≤ (122 : Int))) then (some true) else (some (a0 == 95))) else (some (a0 == 95)))
noncomputable def Yn : Qiw := QbS
theorem Yn.eq (a0 : Int) : Yn a0 = QbS a0 := rfl
noncomputable def QnO (a0 : Int) : Tr Bool AH := (let u51 := (decide (a0 ≥ 97)); .as u51 (yesN 2 u51 (let u50 := (decide (a0 ≤ (zi 122))); .as u50 (yesN 2 u50 (rt Ql true)) (noN 2 u50 (rt Ql (a0 == 95))))) (noN 2 u51 (noN 3 false (rt Ql (a0 == 95)))))
theorem Yn.ok {a0 : Int} {r : Bool} (h : Yn a0 = some r) : ww 285 [.sc (.int .i32 a0)] [] = some (Ql r) := by
 refine fnP (QnO a0) ?_ h
 exact ⟨rfl, fun q0 => Qj 2 (q0) (⟨rfl, fun q1 => Qj 2 (q1) (rfl), fun q1 => noN_ok 2 (q1) (rfl)⟩), fun q0 => noN_ok 2 (q0) (noN_ok 3 (rfl) (rfl))⟩
noncomputable abbrev QnP {ρ R : Type} (a0 : Int) (k : Bool → Tr ρ R) : Tr ρ R := .call (ww 285 [.sc (.int .i32 a0)] []) (Yn a0) Ql k
abbrev Qix := Int → Option Bool
def QbT (C0 : Qiw) (C1 : EZ) (a0 : Int) : Option Bool := ((C0 a0).bind fun r1 => (bif r1 then (some true) else ((C1 a0).bind fun r2 => (some r2))))
noncomputable def Yo : Qix := QbT Yn Vh
theorem Yo.eq (a0 : Int) : Yo a0 = QbT Yn Vh a0 := rfl
noncomputable def QnQ (a0 : Int) : Tr Bool AH := (QnP a0 fun r1 => (.as r1 (yesN 2 r1 (rt Ql true)) (.no r1 (Pd a0 fun r2 => (.no r1 (rt Ql r2))))))
theorem Yo.ok {a0 : Int} {r : Bool} (h : Yo a0 = some r) : ww 271 [.sc (.int .i32 a0)] [] = some (Ql r) := by
 refine fnP (QnQ a0) ?_ h
 exact fun r1 h => ⟨Yn.ok h, ⟨rfl, fun q0 => Qj 2 (q0) (rfl), fun q0 => ⟨q0, fun r2 h => ⟨Vh.ok h, ⟨q0, rfl⟩⟩⟩⟩⟩
noncomputable abbrev QnR {ρ R : Type} (a0 : Int) (k : Bool → Tr ρ R) : Tr ρ R := .call (ww 271 [.sc (.int .i32 a0)] []) (Yo a0) Ql k
abbrev EC := ByteArray → Option ByteArray
structure Vm where
 x0 : ByteArray
 i0s : ByteArray
 i0p : Nat
def P8 (a : Vm) : St := { n := 21, nx := 1, env := [(0, xs a.x0), (1, .fn (.func 271) [] []), (8, .it 0)], heap := [(0, .iter a.i0s a.i0p)] }
def Qcw (a : ByteArray) : Ex × St := (.ret, { n := 21, nx := 0, env := [(4, xs a)], heap := [] })
def Qcx (a : ByteArray) : Ex × St := (.exit 0, { n := 21, nx := 0, env := [(0, xs a)], heap := [] })
def P9 (a : (ByteArray ⊕ ByteArray)) : Ex × St := Sum.elim Qcw Qcx a
abbrev Qfe := Vm → Option (ByteArray ⊕ ByteArray)
def Sa (C0 : Qix) (a : Vm) : Option (Vm ⊕ (ByteArray ⊕ ByteArray)) := (bif (decide (a.i0p < a.i0s.size)) then ((C0 (((Utf8.decode a.i0s a.i0p).1 : Nat) : Int)).bind fun r1 => (bif (!r1) then (bif (decide (0 ≤ (0 : Int) ∧ (0 : Int) ≤ ((a.i0p : Nat) : Int) ∧ ((a.i0p : Nat) : Int) ≤ ((a.x0.size : Nat) : Int))) then (some (.inr (.inl (a.x0.extract (Int.toNat 0) (Int.toNat ((a.i0p : Nat) : Int)))))) else none) else (some (.inl (Vm.mk a.x0 a.i0s (a.i0p + (Utf8.decode a.i0s a.i0p).2)))))) else (some (.inr (.inr a.x0))))
noncomputable def WZ : Qfe := loopW (Sa Yo)
theorem WZ.eq (a : Vm) : WZ a = (Sa Yo a).bind (Sum.elim WZ some) := Ja _ _
noncomputable abbrev Qla {ρ R : Type} (a : Vm) (k0 : ByteArray → Tr ρ R) (k1 : ByteArray → Tr ρ R) : Tr ρ R := .loop2 (loopAt pp 266 2) (P8 a) (WZ a) Qcw Qcx k0 k1
noncomputable def Qlb (a : Vm) : Tr (Vm ⊕ (ByteArray ⊕ ByteArray)) XS := (.as (decide (a.i0p < a.i0s.size)) (.yes true (QnR (((Utf8.decode a.i0s a.i0p).1 : Nat) : Int) fun r1 => (.as (!r1) (.as (in2 i0 ((a.i0p : Nat) : Int) (zz a.x0)) (rx P9 (.inl (cu a.x0 i0 ((a.i0p : Nat) : Int)))) .fail) (lf P8 (Vm.mk a.x0 a.i0s (a.i0p + (Utf8.decode a.i0s a.i0p).2)))))) (.no false (rx P9 (.inr a.x0))))
theorem WZ.ok {a : Vm} {r : (ByteArray ⊕ ByteArray)} (h : WZ a = some r) : lw 0 266 (loopAt pp 266 2) (P8 a) = some (P9 r) := by
 refine lpP h Qlb fun a => ?_
 exact ⟨rfl, fun q0 => ⟨rfl, fun r1 h => ⟨Yo.ok h, ⟨rfl, fun q1 => ⟨rfl, fun q2 => rfl, fun q2 => trivial⟩, fun q1 => rfl⟩⟩⟩, fun q0 => ⟨rfl, rfl⟩⟩
def Qc0 (L0 : Qfe) (a0 : ByteArray) : Option ByteArray := ((L0 (Vm.mk a0 a0 0)).bind fun x => Sum.elim (fun (o1 : ByteArray) => (some o1)) (fun (o2 : ByteArray) => (some o2)) x)
noncomputable def Wq : EC := Qc0 WZ
theorem Wq.eq (a0 : ByteArray) : Wq a0 = Qc0 WZ a0 := rfl
noncomputable def Qpk (a0 : ByteArray) : Tr ByteArray AH := (Qla (Vm.mk a0 a0 0) (fun o1 => (rt Qk o1)) (fun o2 => (rt Qk o2)))
theorem Wq.ok {a0 : ByteArray} {r : ByteArray} (h : Wq a0 = some r) : ww 266 [xs a0, .fn (.func 271) [] []] [] = some (Qk r) := by
 refine fnP (Qpk a0) ?_ h
 exact ⟨fun o1 h => ⟨WZ.ok (r := (.inl _)) h, rfl⟩, fun o2 h => ⟨WZ.ok (r := (.inr _)) h, rfl⟩⟩
noncomputable abbrev SF {ρ R : Type} (a0 : ByteArray) (k : ByteArray → Tr ρ R) : Tr ρ R := .call (ww 266 [xs a0, .fn (.func 271) [] []] []) (Wq a0) Qk k
abbrev ZF := Qa → Qd → Option (Qa × Qd)
def GP (C0 : EC) (C1 : JY) (a1 : Qa) (h0 : Qd) : Option (Qa × Qd) := ((C0 h0.left).bind fun r1 => (bif (!(eqS r1 s_)) then ((C1 h0).bind fun r2 => (some (r2.1, r2.2))) else (some (a1, h0))))
noncomputable def Ua : ZF := GP Wq QS
theorem Ua.eq (a1 : Qa) (h0 : Qd) : Ua a1 h0 = GP Wq QS a1 h0 := rfl
noncomputable def QfI (a1 : Qa) (h0 : Qd) : Tr (Qa × Qd) AH := (SF h0.left fun r1 => (.as (!(eqS r1 s_)) (Wp h0 fun r2 => (rt Qs (r2.1, r2.2))) (rt Qs (a1, h0))))
theorem Ua.ok {a1 : Qa} {h0 : Qd} {r : (Qa × Qd)} (h : Ua a1 h0 = some r) : ww 268 [.ptr 0 0, .agg (QZ a1)] [(0, .box [] (QM h0))] = some (Qs r) := by
 refine fnP (QfI a1 h0) ?_ h
 exact fun r1 h => ⟨Wq.ok h, ⟨rfl, fun q0 => fun r2 h => ⟨QS.ok h, rfl⟩, fun q0 => rfl⟩⟩
noncomputable abbrev GQ {ρ R : Type} (a1 : Qa) (h0 : Qd) (k : (Qa × Qd) → Tr ρ R) : Tr ρ R := .call (ww 268 [.ptr 0 0, .agg (QZ a1)] [(0, .box [] (QM h0))]) (Ua a1 h0) Qs k
abbrev Pe := ByteArray → Option ByteArray
structure Vn where
 x0 : ByteArray
 i0s : ByteArray
 i0p : Nat
def Sb (a : Vn) : St := { n := 21, nx := 1, env := [(0, xs a.x0), (1, .fn (.func 270) [] []), (8, .it 0)], heap := [(0, .iter a.i0s a.i0p)] }
def Qcy (a : ByteArray) : Ex × St := (.ret, { n := 21, nx := 0, env := [(4, xs a)], heap := [] })
def Qcz (a : ByteArray) : Ex × St := (.exit 0, { n := 21, nx := 0, env := [(0, xs a)], heap := [] })
def Sc (a : (ByteArray ⊕ ByteArray)) : Ex × St := Sum.elim Qcy Qcz a
abbrev Qff := Vn → Option (ByteArray ⊕ ByteArray)
def Sd (C0 : EZ) (a : Vn) : Option (Vn ⊕ (ByteArray ⊕ ByteArray)) := (bif (decide (a.i0p < a.i0s.size)) then ((C0 (((Utf8.decode a.i0s a.i0p).1 : Nat) : Int)).bind fun r1 => (bif (!r1) then (bif (decide (0 ≤ (0 : Int) ∧ (0 : Int) ≤ ((a.i0p : Nat) : Int) ∧ ((a.i0p : Nat) : Int) ≤ ((a.x0.size : Nat) : Int))) then (some (.inr (.inl (a.x0.extract (Int.toNat 0) (Int.toNat ((a.i0p : Nat) : Int)))))) else none) else (some (.inl (Vn.mk a.x0 a.i0s (a.i0p + (Utf8.decode a.i0s a.i0p).2)))))) else (some (.inr (.inr a.x0))))
noncomputable def W0 : Qff := loopW (Sd Vh)
theorem W0.eq (a : Vn) : W0 a = (Sd Vh a).bind (Sum.elim W0 some) := Ja _ _
noncomputable abbrev Qlc {ρ R : Type} (a : Vn) (k0 : ByteArray → Tr ρ R) (k1 : ByteArray → Tr ρ R) : Tr ρ R := .loop2 (loopAt pp 266 2) (Sb a) (W0 a) Qcy Qcz k0 k1
noncomputable def Qld (a : Vn) : Tr (Vn ⊕ (ByteArray ⊕ ByteArray)) XS := (.as (decide (a.i0p < a.i0s.size)) (.yes true (Pd (((Utf8.decode a.i0s a.i0p).1 : Nat) : Int) fun r1 => (.as (!r1) (.as (in2 i0 ((a.i0p : Nat) : Int) (zz a.x0)) (rx Sc (.inl (cu a.x0 i0 ((a.i0p : Nat) : Int)))) .fail) (lf Sb (Vn.mk a.x0 a.i0s (a.i0p + (Utf8.decode a.i0s a.i0p).2)))))) (.no false (rx Sc (.inr a.x0))))
theorem W0.ok {a : Vn} {r : (ByteArray ⊕ ByteArray)} (h : W0 a = some r) : lw 0 266 (loopAt pp 266 2) (Sb a) = some (Sc r) := by
 refine lpP h Qld fun a => ?_
 exact ⟨rfl, fun q0 => ⟨rfl, fun r1 h => ⟨Vh.ok h, ⟨rfl, fun q1 => ⟨rfl, fun q2 => rfl, fun q2 => trivial⟩, fun q1 => rfl⟩⟩⟩, fun q0 => ⟨rfl, rfl⟩⟩
def Qc1 (L0 : Qff) (a0 : ByteArray) : Option ByteArray := ((L0 (Vn.mk a0 a0 0)).bind fun x => Sum.elim (fun (o1 : ByteArray) => (some o1)) (fun (o2 : ByteArray) => (some o2)) x)
noncomputable def Xk : Pe := Qc1 W0
theorem Xk.eq (a0 : ByteArray) : Xk a0 = Qc1 W0 a0 := rfl
noncomputable def Qpl (a0 : ByteArray) : Tr ByteArray AH := (Qlc (Vn.mk a0 a0 0) (fun o1 => (rt Qk o1)) (fun o2 => (rt Qk o2)))
theorem Xk.ok {a0 : ByteArray} {r : ByteArray} (h : Xk a0 = some r) : ww 266 [xs a0, .fn (.func 270) [] []] [] = some (Qk r) := by
 refine fnP (Qpl a0) ?_ h
 exact ⟨fun o1 h => ⟨W0.ok (r := (.inl _)) h, rfl⟩, fun o2 h => ⟨W0.ok (r := (.inr _)) h, rfl⟩⟩
noncomputable abbrev Qc2 {ρ R : Type} (a0 : ByteArray) (k : ByteArray → Tr ρ R) : Tr ρ R := .call (ww 266 [xs a0, .fn (.func 270) [] []] []) (Xk a0) Qk k
abbrev QaY := ByteArray → Option Bool
def Qc3 (C0 : EZ) (C1 : EC) (C2 : Pe) (a0 : ByteArray) : Option Bool := (bif (eqS a0 s_) then (some false) else (bif (decide (((a0.size : Nat) : Int) > 12)) then (some false) else (bif (decide (0 ≤ (0 : Int) ∧ (0 : Int) < ((a0.size : Nat) : Int))) then ((C0 (IntKind.i32.wrap ((a0.data.getD (Int.toNat 0) 0).toNat : Int))).bind fun r1 => (bif r1 then (some false) else ((C1 a0).bind fun r2 => (bif (!(eqS r2 a0)) then (some false) else (bif (((a0.data.getD (Int.toNat 0) 0).toNat : Int) != 114) then (some true) else (bif (((a0.size : Nat) : Int) == 1) then (some true) else (bif (decide (0 ≤ (1 : Int) ∧ (1 : Int) ≤ ((a0.size : Nat) : Int) ∧ ((a0.size : Nat) : Int) ≤ ((a0.size : Nat) : Int))) then ((C2 (a0.extract (Int.toNat 1) (Int.toNat ((a0.size : Nat) : Int)))).bind fun r3 => (some (!(eqS r3 (a0.extract (Int.toNat 1) (Int.toNat ((a0.size : Nat) : Int))))))) else none))))))) else none)))
noncomputable def Yw : QaY := Qc3 Vh Wq Xk
theorem Yw.eq (a0 : ByteArray) : Yw a0 = Qc3 Vh Wq Xk a0 := rfl
noncomputable def Qpm (a0 : ByteArray) : Tr Bool AH := (let u57 := (eqS a0 s_); .as u57 (yesN 3 u57 (yesN 11 true (rt Ql false))) (noN 3 u57 (let u56 := (decide ((zz a0) > 12)); .as u56 (yesN 4 u56 (yesN 6 true (rt Ql false))) (.no u56 (let u55 := (in1 i0 (zz a0)); .as u55 (noN 2 u56 (Pd (IntKind.i32.wrap (gb a0 i0)) fun r1 => (.no u56 (.as r1 (yesN 4 r1 (.yes true (rt Ql false))) (.no r1 (SF a0 fun r2 => (noN 3 r1 (.as (!(eqS r2 a0)) (rt Ql false) (.yes u55 (let u54 := ((gb a0 i0) != 114); .as u54 (yesN 3 u54 (yesN 7 true (rt Ql true))) (noN 3 u54 (let u53 := ((zz a0) == 1); .as u53 (yesN 6 u53 (rt Ql true)) (.no u53 (let u52 := (in2 (zi 1) (zz a0) (zz a0)); .as u52 (.no u53 (Qc2 (cu a0 (zi 1) (zz a0)) fun r3 => (noN 2 u53 (.yes u52 (noN 2 u53 (rt Ql (!(eqS r3 (cu a0 (zi 1) (zz a0)))))))))) .fail)))))))))))))) .fail)))))
theorem Yw.ok {a0 : ByteArray} {r : Bool} (h : Yw a0 = some r) : ww 272 [xs a0] [] = some (Ql r) := by
 refine fnP (Qpm a0) ?_ h
 exact ⟨rfl, fun q0 => Qj 3 (q0) (Qj 11 (rfl) (rfl)), fun q0 => noN_ok 3 (q0) (⟨rfl, fun q1 => Qj 4 (q1) (Qj 6 (rfl) (rfl)), fun q1 => ⟨q1, ⟨rfl, fun q2 => noN_ok 2 (q1) (fun r1 h => ⟨Vh.ok h, ⟨q1, ⟨rfl, fun q3 => Qj 4 (q3) (⟨rfl, rfl⟩), fun q3 => ⟨q3, fun r2 h => ⟨Wq.ok h, noN_ok 3 (q3) (⟨rfl, fun q4 => rfl, fun q4 => ⟨q2, ⟨rfl, fun q5 => Qj 3 (q5) (Qj 7 (rfl) (rfl)), fun q5 => noN_ok 3 (q5) (⟨rfl, fun q6 => Qj 6 (q6) (rfl), fun q6 => ⟨q6, ⟨rfl, fun q7 => ⟨q6, fun r3 h => ⟨Xk.ok h, noN_ok 2 (q6) (⟨q7, noN_ok 2 (q6) (rfl)⟩)⟩⟩, fun q7 => trivial⟩⟩⟩)⟩⟩⟩)⟩⟩⟩⟩⟩), fun q2 => trivial⟩⟩⟩)⟩
noncomputable abbrev Qiy {ρ R : Type} (a0 : ByteArray) (k : Bool → Tr ρ R) : Tr ρ R := .call (ww 272 [xs a0] []) (Yw a0) Ql k
abbrev Qiz := Option (List ByteArray)
def QgH : Option (List ByteArray) := (some [s_, s_, s_, h_2e, h_2d, h_2b, h_2d, h_2a, h_26, h_7c, Qbn, Qbo])
noncomputable def Yp : Qiz := QgH
theorem Yp.eq : Yp = QgH := rfl
noncomputable def QnS : Tr (List ByteArray) AH := (.rows [[xs s_], [xs s_], [xs s_], [xs h_2e], [xs h_2d], [xs h_2b], [xs h_2d], [xs h_2a], [xs h_26], [xs h_7c], [xs Qbn], [xs Qbo]] (Qg [s_, s_, s_, h_2e, h_2d, h_2b, h_2d, h_2a, h_26, h_7c, Qbn, Qbo]) (rt Jg [s_, s_, s_, h_2e, h_2d, h_2b, h_2d, h_2a, h_26, h_7c, Qbn, Qbo]))
theorem Yp.ok {r : (List ByteArray)} (h : Yp = some r) : ww 208 [] [] = some (Jg r) := by
 refine fnP (QnS) ?_ h
 exact ⟨(QP [s_, s_, s_, h_2e, h_2d, h_2b, h_2d, h_2a, h_26, h_7c, Qbn, Qbo]), rfl⟩
noncomputable abbrev QnT {ρ R : Type} (k : (List ByteArray) → Tr ρ R) : Tr ρ R := .call (ww 208 [] []) (Yp) Jg k
def ZG (r : (Int × Qd)) : AV × Heap := (xi r.1, [(0, .box [] (QM r.2))])
abbrev Xf := (List Int) → Qd → Option (Int × Qd)
structure JI where
 x7 : (List Int)
 x8 : Int
 x9 : Int
 h0 : Qd
structure Up where
 x4 : Int
 h0 : Qd
def Gf (a : JI) : St := { n := 21, nx := 1, env := [(0, .ptr 0 0), (7, .sl (Qy a.x7)), (8, xi a.x8), (9, xi a.x9)], heap := [(0, .box [] (QM a.h0))] }
def E2 (a : Up) : Ex × St := (.ret, { n := 21, nx := 1, env := [(4, xi a.x4)], heap := [(0, .box [] (QM a.h0))] })
def E3 (a : Qd) : Ex × St := (.exit 0, { n := 21, nx := 1, env := [], heap := [(0, .box [] (QM a))] })
def Gg (a : (Up ⊕ Qd)) : Ex × St := Sum.elim E2 E3 a
abbrev Pf := JI → Option (Up ⊕ Qd)
def Gh (C0 : Qiz) (C1 : WO) (a : JI) : Option (JI ⊕ (Up ⊕ Qd)) := (bif (decide (a.x9 < a.x8)) then (bif (decide (0 ≤ a.x9)) then ((a.x7[(Int.toNat a.x9)]?).bind fun e1 => ((C0).bind fun r2 => (bif (decide (0 ≤ e1)) then ((r2[(Int.toNat e1)]?).bind fun e3 => ((C1 e3 a.h0).bind fun r4 => (bif r4.1 then (some (.inr (.inl (Up.mk e1 r4.2)))) else (some (.inl (JI.mk a.x7 a.x8 (w64 (a.x9 + 1)) r4.2)))))) else none))) else none) else (some (.inr (.inr a.h0))))
noncomputable def UJ : Pf := loopW (Gh Yp JC)
theorem UJ.eq (a : JI) : UJ a = (Gh Yp JC a).bind (Sum.elim UJ some) := Ja _ _
noncomputable abbrev QdR {ρ R : Type} (a : JI) (k0 : Up → Tr ρ R) (k1 : Qd → Tr ρ R) : Tr ρ R := .loop2 (loopAt pp 244 2) (Gf a) (UJ a) E2 E3 k0 k1
noncomputable def QdS (a : JI) : Tr (JI ⊕ (Up ⊕ Qd)) XS := (.as (decide (a.x9 < a.x8)) (.as (decide (0 ≤ a.x9)) (.row ((Qy a.x7)[(Int.toNat a.x9)]?) (a.x7[(Int.toNat a.x9)]?) WW fun (e1 : Int) => (QnT fun r2 => (.as (decide (0 ≤ e1)) (.row ((Qg r2)[(Int.toNat e1)]?) (r2[(Int.toNat e1)]?) QW fun (e3 : ByteArray) => (Yv e3 a.h0 fun r4 => (.as r4.1 (rx Gg (.inl (Up.mk e1 r4.2))) (lf Gf (JI.mk a.x7 a.x8 (w64 (a.x9 + 1)) r4.2))))) .fail))) .fail) (rx Gg (.inr a.h0)))
theorem UJ.ok {a : JI} {r : (Up ⊕ Qd)} (h : UJ a = some r) : lw 1 244 (loopAt pp 244 2) (Gf a) = some (Gg r) := by
 refine lpP h QdS fun a => ?_
 exact ⟨rfl, fun q0 => ⟨rfl, fun q1 => fun e1 h => ⟨Vc h, fun r2 h => ⟨Yp.ok h, ⟨rfl, fun q2 => fun e3 h => ⟨QO h, fun r4 h => ⟨JC.ok h, ⟨rfl, fun q3 => rfl, fun q3 => rfl⟩⟩⟩, fun q2 => trivial⟩⟩⟩, fun q1 => trivial⟩, fun q0 => rfl⟩
def Eg (L0 : Pf) (a1 : (List Int)) (h0 : Qd) : Option (Int × Qd) := ((L0 (JI.mk a1 (((a1.length) : Nat) : Int) (0 : Int) h0)).bind fun x => Sum.elim (fun (o1 : Up) => (some (o1.x4, o1.h0))) (fun (o2 : Qd) => (some ((0 : Int), o2))) x)
noncomputable def JZ : Xf := Eg UJ
theorem JZ.eq (a1 : (List Int)) (h0 : Qd) : JZ a1 h0 = Eg UJ a1 h0 := rfl
noncomputable def QgI (a1 : (List Int)) (h0 : Qd) : Tr (Int × Qd) AH := (.num ((Qy a1).length) (a1.length) (QdR (JI.mk a1 (((a1.length) : Nat) : Int) i0 h0) (fun o1 => (rt ZG (o1.x4, o1.h0))) (fun o2 => (rt ZG (i0, o2)))))
theorem JZ.ok {a1 : (List Int)} {h0 : Qd} {r : (Int × Qd)} (h : JZ a1 h0 = some r) : ww 244 [.ptr 0 0, .sl (Qy a1)] [(0, .box [] (QM h0))] = some (ZG r) := by
 refine fnP (QgI a1 h0) ?_ h
 exact ⟨(JU _), ⟨fun o1 h => ⟨UJ.ok (r := (.inl _)) h, rfl⟩, fun o2 h => ⟨UJ.ok (r := (.inr _)) h, rfl⟩⟩⟩
noncomputable abbrev Qad {ρ R : Type} (a1 : (List Int)) (h0 : Qd) (k : (Int × Qd) → Tr ρ R) : Tr ρ R := .call (ww 244 [.ptr 0 0, .sl (Qy a1)] [(0, .box [] (QM h0))]) (JZ a1 h0) ZG k
abbrev XH := Qd → Option (Qa × Qd)
abbrev QgJ (c : XH) : Prop := ∀ (h0 : Qd) (r : (Qa × Qd)), c h0 = some r → ww 263 [.ptr 0 0] [(0, .box [] (QM h0))] = some (Qs r)
abbrev Xo := Qd → Option (Qa × Qd)
abbrev QfJ (c : Xo) : Prop := ∀ (h0 : Qd) (r : (Qa × Qd)), c h0 = some r → ww 262 [.ptr 0 0, .fn (.func 263) [.ptr 0 0] []] [(0, .box [] (QM h0))] = some (Qs r)
abbrev XI := Qd → Option (Qa × Qd)
abbrev QgK (c : XI) : Prop := ∀ (h0 : Qd) (r : (Qa × Qd)), c h0 = some r → ww 264 [.ptr 0 0] [(0, .box [] (QM h0))] = some (Qs r)
abbrev WV := Qd → Option (Qa × Qd)
abbrev QdT (c : WV) : Prop := ∀ (h0 : Qd) (r : (Qa × Qd)), c h0 = some r → ww 262 [.ptr 0 0, .fn (.func 264) [.ptr 0 0] []] [(0, .box [] (QM h0))] = some (Qs r)
abbrev VW := Qd → Option (Qa × Qd)
abbrev Qjf (c : VW) : Prop := ∀ (h0 : Qd) (r : (Qa × Qd)), c h0 = some r → ww 243 [.ptr 0 0] [(0, .box [] (QM h0))] = some (Qs r)
abbrev Jk := Int → Qd → Option (Qa × Qd)
abbrev QbU (c : Jk) : Prop := ∀ (a1 : Int) (h0 : Qd) (r : (Qa × Qd)), c a1 h0 = some r → ww 215 [.ptr 0 0, xi a1] [(0, .box [] (QM h0))] = some (Qs r)
noncomputable abbrev QfK {ρ R : Type} (c : XH) (h0 : Qd) (k : (Qa × Qd) → Tr ρ R) : Tr ρ R := .call (ww 263 [.ptr 0 0] [(0, .box [] (QM h0))]) (c h0) Qs k
noncomputable abbrev Qey {ρ R : Type} (c : Xo) (h0 : Qd) (k : (Qa × Qd) → Tr ρ R) : Tr ρ R := .call (ww 262 [.ptr 0 0, .fn (.func 263) [.ptr 0 0] []] [(0, .box [] (QM h0))]) (c h0) Qs k
noncomputable abbrev QfL {ρ R : Type} (c : XI) (h0 : Qd) (k : (Qa × Qd) → Tr ρ R) : Tr ρ R := .call (ww 264 [.ptr 0 0] [(0, .box [] (QM h0))]) (c h0) Qs k
noncomputable abbrev Qc4 {ρ R : Type} (c : WV) (h0 : Qd) (k : (Qa × Qd) → Tr ρ R) : Tr ρ R := .call (ww 262 [.ptr 0 0, .fn (.func 264) [.ptr 0 0] []] [(0, .box [] (QM h0))]) (c h0) Qs k
noncomputable abbrev QaI {ρ R : Type} (c : VW) (h0 : Qd) (k : (Qa × Qd) → Tr ρ R) : Tr ρ R := .call (ww 243 [.ptr 0 0] [(0, .box [] (QM h0))]) (c h0) Qs k
noncomputable abbrev Z3 {ρ R : Type} (c : Jk) (a1 : Int) (h0 : Qd) (k : (Qa × Qd) → Tr ρ R) : Tr ρ R := .call (ww 215 [.ptr 0 0, xi a1] [(0, .box [] (QM h0))]) (c a1 h0) Qs k
def Xp (C0 : Jk) (C1 : WO) (C2 : JY) (h0 : Qd) : Option (Qa × Qd) := ((C0 (0 : Int) h0).bind fun r1 => ((C1 h_29 r1.2).bind fun r2 => (bif (!r2.1) then ((C2 r2.2).bind fun r3 => (some (r3.1, r3.2))) else (some (r1.1, r2.2)))))
theorem PP {C0 : Nat → Jk} {D0 : Jk} (H0 : Cv2 C0 D0) {C1 : Nat → WO} {D1 : WO} (H1 : Cv2 C1 D1) {C2 : Nat → JY} {D2 : JY} (H2 : Cv1 C2 D2) (h0 : Qd) : Cv (fun k => Xp (C0 k) (C1 k) (C2 k) h0) (Xp D0 D1 D2 h0) := by
 unfold Xp
 exact .bind (H0 _ _) fun r1 => .bind (H1 _ _) fun r2 => .cond (.bind (H2 _) fun r3 => by exact .const _) cst
noncomputable def QfM (C0 : Jk) (h0 : Qd) : Tr (Qa × Qd) AH := (Z3 C0 i0 h0 fun r1 => (Yv h_29 r1.2 fun r2 => (.as (!r2.1) (Wp r2.2 fun r3 => (rt Qs (r3.1, r3.2))) (rt Qs (r1.1, r2.2)))))
def Wx (C0 : JY) (C1 : XH) (h0 : Qd) : Option (Qa × Qd) := (bif (decide (h0.deep ≥ 12)) then ((C0 h0).bind fun r1 => (some (r1.1, r1.2))) else ((C1 (Qd.mk h0.left (w64 (h0.deep + 1)) h0.bad)).bind fun r2 => (some (r2.1, (Qd.mk r2.2.left (w64 (r2.2.deep - 1)) r2.2.bad)))))
theorem Pg {C0 : Nat → JY} {D0 : JY} (H0 : Cv1 C0 D0) {C1 : Nat → XH} {D1 : XH} (H1 : Cv1 C1 D1) (h0 : Qd) : Cv (fun k => Wx (C0 k) (C1 k) h0) (Wx D0 D1 h0) := by
 unfold Wx
 exact .cond (.bind (H0 _) fun r1 => by exact .const _) (.bind (H1 _) fun r2 => by exact .const _)
noncomputable def Qez (C0 : XH) (h0 : Qd) : Tr (Qa × Qd) AH := (.as (decide (h0.deep ≥ 12)) (Wp h0 fun r1 => (rt Qs (r1.1, r1.2))) (QfK C0 (Qd.mk h0.left (w64 (h0.deep + 1)) h0.bad) fun r2 => (rt Qs (r2.1, (Qd.mk r2.2.left (w64 (r2.2.deep - 1)) r2.2.bad)))))
def Xq (C0 : VW) (h0 : Qd) : Option (Qa × Qd) := ((C0 h0).bind fun r1 => (some ((Qa.mk (4 : Int) (0 : Int) s_ [r1.1]), r1.2)))
theorem PQ {C0 : Nat → VW} {D0 : VW} (H0 : Cv1 C0 D0) (h0 : Qd) : Cv (fun k => Xq (C0 k) h0) (Xq D0 h0) := by
 unfold Xq
 exact .bind (H0 _) fun r1 => by exact .const _
noncomputable def QfN (C0 : VW) (h0 : Qd) : Tr (Qa × Qd) AH := (QaI C0 h0 fun r1 => (.rows [[xi r1.1.Kind, xi r1.1.N, xs r1.1.Name, .sl (QK r1.1.L)]] (QK [r1.1]) (rt Qs ((Qa.mk (zi 4) i0 s_ [r1.1]), r1.2))))
def VX (C0 : JY) (C1 : XI) (h0 : Qd) : Option (Qa × Qd) := (bif (decide (h0.deep ≥ 12)) then ((C0 h0).bind fun r1 => (some (r1.1, r1.2))) else ((C1 (Qd.mk h0.left (w64 (h0.deep + 1)) h0.bad)).bind fun r2 => (some (r2.1, (Qd.mk r2.2.left (w64 (r2.2.deep - 1)) r2.2.bad)))))
theorem E4 {C0 : Nat → JY} {D0 : JY} (H0 : Cv1 C0 D0) {C1 : Nat → XI} {D1 : XI} (H1 : Cv1 C1 D1) (h0 : Qd) : Cv (fun k => VX (C0 k) (C1 k) h0) (VX D0 D1 h0) := by
 unfold VX
 exact .cond (.bind (H0 _) fun r1 => by exact .const _) (.bind (H1 _) fun r2 => by exact .const _)
noncomputable def Qc5 (C0 : XI) (h0 : Qd) : Tr (Qa × Qd) AH := (.as (decide (h0.deep ≥ 12)) (Wp h0 fun r1 => (rt Qs (r1.1, r1.2))) (QfL C0 (Qd.mk h0.left (w64 (h0.deep + 1)) h0.bad) fun r2 => (rt Qs (r2.1, (Qd.mk r2.2.left (w64 (r2.2.deep - 1)) r2.2.bad)))))
def V5 (C0 : WO) (C1 : Xo) (C2 : WV) (C3 : YJ) (C4 : Qew) (C5 : Zj) (C6 : ZF) (C7 : Pe) (C8 : EC) (C9 : QaY) (C10 : JY) (h0 : Qd) : Option (Qa × Qd) := ((C0 h_28 h0).bind fun r1 => (bif r1.1 then ((C1 r1.2).bind fun r2 => (some (r2.1, r2.2))) else ((C0 h_2d r1.2).bind fun r3 => (bif r3.1 then ((C2 r3.2).bind fun r4 => (some (r4.1, r4.2))) else ((C0 h_2e r3.2).bind fun r5 => (bif r5.1 then (some ((Qa.mk (3 : Int) (0 : Int) s_ ([] : List Qa)), r5.2)) else (bif r5.2.bad then (some ((Qa.mk (0 : Int) (0 : Int) s_ ([] : List Qa)), r5.2)) else ((C3 r5.2.left).bind fun r6 => (bif r6 then (bif (decide (0 ≤ (2 : Int) ∧ (2 : Int) ≤ ((r5.2.left.size : Nat) : Int) ∧ ((r5.2.left.size : Nat) : Int) ≤ ((r5.2.left.size : Nat) : Int))) then ((C4 (r5.2.left.extract (Int.toNat 2) (Int.toNat ((r5.2.left.size : Nat) : Int)))).bind fun r7 => (bif (!(eqS r7 s_)) then ((C4 (r5.2.left.extract (Int.toNat 2) (Int.toNat ((r5.2.left.size : Nat) : Int)))).bind fun r8 => ((C5 r8 (16 : Int) (Qd.mk (r5.2.left.extract (Int.toNat 2) (Int.toNat ((r5.2.left.size : Nat) : Int))) r5.2.deep r5.2.bad)).bind fun r9 => ((C6 r9.1 r9.2).bind fun r10 => (some (r10.1, r10.2))))) else ((C7 r5.2.left).bind fun r11 => (bif (!(eqS r11 s_)) then ((C5 r11 (10 : Int) r5.2).bind fun r12 => ((C6 r12.1 r12.2).bind fun r13 => (some (r13.1, r13.2)))) else ((C8 r5.2.left).bind fun r14 => ((C9 r14).bind fun r15 => (bif r15 then (bif (decide (0 ≤ ((r14.size : Nat) : Int) ∧ ((r14.size : Nat) : Int) ≤ ((r5.2.left.size : Nat) : Int) ∧ ((r5.2.left.size : Nat) : Int) ≤ ((r5.2.left.size : Nat) : Int))) then (some ((Qa.mk (2 : Int) (0 : Int) r14 ([] : List Qa)), (Qd.mk (r5.2.left.extract (Int.toNat ((r14.size : Nat) : Int)) (Int.toNat ((r5.2.left.size : Nat) : Int))) r5.2.deep r5.2.bad))) else none) else ((C10 r5.2).bind fun r16 => (some (r16.1, r16.2)))))))))) else none) else ((C7 r5.2.left).bind fun r17 => (bif (!(eqS r17 s_)) then ((C5 r17 (10 : Int) r5.2).bind fun r18 => ((C6 r18.1 r18.2).bind fun r19 => (some (r19.1, r19.2)))) else ((C8 r5.2.left).bind fun r20 => ((C9 r20).bind fun r21 => (bif r21 then (bif (decide (0 ≤ ((r20.size : Nat) : Int) ∧ ((r20.size : Nat) : Int) ≤ ((r5.2.left.size : Nat) : Int) ∧ ((r5.2.left.size : Nat) : Int) ≤ ((r5.2.left.size : Nat) : Int))) then (some ((Qa.mk (2 : Int) (0 : Int) r20 ([] : List Qa)), (Qd.mk (r5.2.left.extract (Int.toNat ((r20.size : Nat) : Int)) (Int.toNat ((r5.2.left.size : Nat) : Int))) r5.2.deep r5.2.bad))) else none) else ((C10 r5.2).bind fun r22 => (some (r22.1, r22.2)))))))))))))))))
theorem QaJ {C0 : Nat → WO} {D0 : WO} (H0 : Cv2 C0 D0) {C1 : Nat → Xo} {D1 : Xo} (H1 : Cv1 C1 D1) {C2 : Nat → WV} {D2 : WV} (H2 : Cv1 C2 D2) {C3 : Nat → YJ} {D3 : YJ} (H3 : Cv1 C3 D3) {C4 : Nat → Qew} {D4 : Qew} (H4 : Cv1 C4 D4) {C5 : Nat → Zj} {D5 : Zj} (H5 : Cv3 C5 D5) {C6 : Nat → ZF} {D6 : ZF} (H6 : Cv2 C6 D6) {C7 : Nat → Pe} {D7 : Pe} (H7 : Cv1 C7 D7) {C8 : Nat → EC} {D8 : EC} (H8 : Cv1 C8 D8) {C9 : Nat → QaY} {D9 : QaY} (H9 : Cv1 C9 D9) {C10 : Nat → JY} {D10 : JY} (H10 : Cv1 C10 D10) (h0 : Qd) : Cv (fun k => V5 (C0 k) (C1 k) (C2 k) (C3 k) (C4 k) (C5 k) (C6 k) (C7 k) (C8 k) (C9 k) (C10 k) h0) (V5 D0 D1 D2 D3 D4 D5 D6 D7 D8 D9 D10 h0) := by
 unfold V5
 exact .bind (H0 _ _) fun r1 => .cond (.bind (H1 _) fun r2 => by exact .const _) (.bind (H0 _ _) fun r3 => .cond (.bind (H2 _) fun r4 => by exact .const _) (.bind (H0 _ _) fun r5 => .cond cst (.cond cst (.bind (H3 _) fun r6 => .cond (.cond (.bind (H4 _) fun r7 => .cond (.bind (H4 _) fun r8 => .bind (H5 _ _ _) fun r9 => .bind (H6 _ _) fun r10 => by exact .const _) (.bind (H7 _) fun r11 => .cond (.bind (H5 _ _ _) fun r12 => .bind (H6 _ _) fun r13 => by exact .const _) (.bind (H8 _) fun r14 => .bind (H9 _) fun r15 => .cond cst (.bind (H10 _) fun r16 => by exact .const _)))) cst) (.bind (H7 _) fun r17 => .cond (.bind (H5 _ _ _) fun r18 => .bind (H6 _ _) fun r19 => by exact .const _) (.bind (H8 _) fun r20 => .bind (H9 _) fun r21 => .cond cst (.bind (H10 _) fun r22 => by exact .const _)))))))
noncomputable def Qh1 (C0 : Xo) (C1 : WV) (h0 : Qd) : Tr (Qa × Qd) AH := (Yv h_28 h0 fun r1 => (.as r1.1 (Qey C0 r1.2 fun r2 => (rt Qs (r2.1, r2.2))) (Yv h_2d r1.2 fun r3 => (.as r3.1 (Qc4 C1 r3.2 fun r4 => (rt Qs (r4.1, r4.2))) (Yv h_2e r3.2 fun r5 => (.as r5.1 (rt Qs ((Qa.mk (zi 3) i0 s_ ([] : List Qa)), r5.2)) (.as r5.2.bad (rt Qs ((Qa.mk i0 i0 s_ ([] : List Qa)), r5.2)) (QdQ r5.2.left fun r6 => (.as r6 (yesN 4 r6 (let u58 := (in2 (zi 2) (zz r5.2.left) (zz r5.2.left)); .as u58 (.yes r6 (QlX (cu r5.2.left (zi 2) (zz r5.2.left)) fun r7 => (yesN 2 r6 (.as (!(eqS r7 s_)) (.yes u58 (QlX (cu r5.2.left (zi 2) (zz r5.2.left)) fun r8 => (Gx r8 (zi 16) (Qd.mk (cu r5.2.left (zi 2) (zz r5.2.left)) r5.2.deep r5.2.bad) fun r9 => (GQ r9.1 r9.2 fun r10 => (rt Qs (r10.1, r10.2)))))) (Qc2 r5.2.left fun r11 => (.as (!(eqS r11 s_)) (Gx r11 (zi 10) r5.2 fun r12 => (GQ r12.1 r12.2 fun r13 => (rt Qs (r13.1, r13.2)))) (SF r5.2.left fun r14 => (Qiy r14 fun r15 => (.as r15 (.as (in2 (zz r14) (zz r5.2.left) (zz r5.2.left)) (rt Qs ((Qa.mk (zi 2) i0 r14 ([] : List Qa)), (Qd.mk (cu r5.2.left (zz r14) (zz r5.2.left)) r5.2.deep r5.2.bad))) .fail) (Wp r5.2 fun r16 => (rt Qs (r16.1, r16.2)))))))))))) .fail)) (noN 7 r6 (.no false (Qc2 r5.2.left fun r17 => (.as (!(eqS r17 s_)) (Gx r17 (zi 10) r5.2 fun r18 => (GQ r18.1 r18.2 fun r19 => (rt Qs (r19.1, r19.2)))) (SF r5.2.left fun r20 => (Qiy r20 fun r21 => (.as r21 (.as (in2 (zz r20) (zz r5.2.left) (zz r5.2.left)) (rt Qs ((Qa.mk (zi 2) i0 r20 ([] : List Qa)), (Qd.mk (cu r5.2.left (zz r20) (zz r5.2.left)) r5.2.deep r5.2.bad))) .fail) (Wp r5.2 fun r22 => (rt Qs (r22.1, r22.2)))))))))))))))))))
structure Jq where
 x1 : Int
 x6 : Int
 h0 : Qd
 h1 : Qa
 h2 : Qa
structure Uh where
 h0 : Qd
 h1 : Qa
 h2 : Qa
def Gy (a : Jq) : St := { n := 47, nx := 3, env := [(0, .ptr 0 0), (1, xi a.x1), (4, .ptr 1 0), (5, .ptr 2 0), (6, xi a.x6)], heap := [(0, .box [] (QM a.h0)), (1, .box [] (QZ a.h1)), (2, .box [] (QZ a.h2))] }
def YK (a : Uh) : Ex × St := (.exit 0, { n := 47, nx := 3, env := [(4, .ptr 1 0), (5, .ptr 2 0)], heap := [(0, .box [] (QM a.h0)), (1, .box [] (QZ a.h1)), (2, .box [] (QZ a.h2))] })
abbrev V4 := Jq → Option Uh
def Wy (C0 : Jk) (C1 : Zc) (C2 : Xf) (a : Jq) : Option (Jq ⊕ Uh) := (bif (a.x6 != 0) then (bif (!a.h0.bad) then ((C0 (w64 (a.x1 + 1)) a.h0).bind fun r1 => ((C1).bind fun r2 => (bif (decide (0 ≤ a.x1)) then ((r2[(Int.toNat a.x1)]?).bind fun e3 => ((C2 e3 r1.2).bind fun r4 => (some (.inl (Jq.mk a.x1 r4.1 r4.2 a.h1 (Qa.mk a.x6 (0 : Int) s_ [a.h2, r1.1])))))) else none))) else (some (.inr (Uh.mk a.h0 a.h1 a.h2)))) else (some (.inr (Uh.mk a.h0 a.h1 a.h2))))
theorem Ph {C0 : Nat → Jk} {D0 : Jk} (H0 : Cv2 C0 D0) {C1 : Nat → Zc} {D1 : Zc} (H1 : Cv C1 D1) {C2 : Nat → Xf} {D2 : Xf} (H2 : Cv2 C2 D2) (a : Jq) : Cv (fun k => Wy (C0 k) (C1 k) (C2 k) a) (Wy D0 D1 D2 a) := by
 unfold Wy
 exact .cond (.cond (.bind (H0 _ _) fun r1 => .bind (H1) fun r2 => .cond (.bind (.const _) fun e3 => .bind (H2 _ _) fun r4 => by exact .const _) cst) cst) cst
noncomputable abbrev QeA {ρ R : Type} (l : V4) (a : Jq) (k0 : Uh → Tr ρ R) : Tr ρ R := .loop (loopAt pp 215 5) (Gy a) (l a) YK k0
noncomputable def QeB (C0 : Jk) (a : Jq) : Tr (Jq ⊕ Uh) XS := (let u59 := (a.x6 != 0); .as u59 (yesN 5 u59 (.as (!a.h0.bad) (Z3 C0 (w64 (a.x1 + 1)) a.h0 fun r1 => (.rows [[xi a.h2.Kind, xi a.h2.N, xs a.h2.Name, .sl (QK a.h2.L)], [xi r1.1.Kind, xi r1.1.N, xs r1.1.Name, .sl (QK r1.1.L)]] (QK [a.h2, r1.1]) (Qaw fun r2 => (.as (decide (0 ≤ a.x1)) (.row ((SS r2)[(Int.toNat a.x1)]?) (r2[(Int.toNat a.x1)]?) Qgj fun (e3 : (List Int)) => (Qad e3 r1.2 fun r4 => (lf Gy (Jq.mk a.x1 r4.1 r4.2 a.h1 (Qa.mk a.x6 i0 s_ [a.h2, r1.1]))))) .fail)))) (rx YK (Uh.mk a.h0 a.h1 a.h2)))) (noN 5 u59 (.no false (rx YK (Uh.mk a.h0 a.h1 a.h2)))))
noncomputable def Q4.s (k : Nat) (C0 : Jk) : V4 := iter (Wy C0 VU JZ) k
theorem QdU (k : Nat) {C0 : Jk} (i_expr_parser_two : QbU C0) {a : Jq} {r : Uh} (h : Q4.s k C0 a = some r) : lw 1 215 (loopAt pp 215 5) (Gy a) = some (YK r) := by
 refine lpP (itP h) (QeB C0) fun a => ?_
 exact ⟨rfl, fun q0 => Qj 5 (q0) (⟨rfl, fun q1 => fun r1 h => ⟨i_expr_parser_two _ _ _ h, ⟨(XF [a.h2, r1.1]), fun r2 h => ⟨VU.ok h, ⟨rfl, fun q2 => fun e3 h => ⟨Qj4 h, fun r4 h => ⟨JZ.ok h, rfl⟩⟩, fun q2 => trivial⟩⟩⟩⟩, fun q1 => rfl⟩), fun q0 => noN_ok 5 (q0) (⟨rfl, rfl⟩)⟩
theorem Q4.m {j k : Nat} (hj : j ≤ k) (C0 : Jk) (D0 : Jk) (H0 : Le2 C0 D0) (a : Jq) : Le (Q4.s j C0 a) (Q4.s k D0 a) := Le.iter (fun a => (Ph (tw2 H0) ks0 ks2 a).1 0) hj a
noncomputable def Q4.w (C0 : Jk) : V4 := loopW (Wy C0 VU JZ)
theorem Q4.cv (C0 : Nat → Jk) (D0 : Jk) (H0 : Cv2 C0 D0) (a : Jq) : Cv (fun k => Q4.s k (C0 k) a) (Q4.w D0 a) := Cv.iter (fun a => Ph H0 ks0 ks2 a) a
def Xg (C0 : Zc) (C1 : VW) (C2 : Jk) (C3 : Xf) (L4 : V4) (a1 : Int) (h0 : Qd) : Option (Qa × Qd) := ((C0).bind fun r1 => (bif (a1 == (((r1.length) : Nat) : Int)) then ((C1 h0).bind fun r2 => (some (r2.1, r2.2))) else ((C2 (w64 (a1 + 1)) h0).bind fun r3 => ((C0).bind fun r4 => (bif (decide (0 ≤ a1)) then ((r4[(Int.toNat a1)]?).bind fun e5 => ((C3 e5 r3.2).bind fun r6 => ((L4 (Jq.mk a1 r6.1 r6.2 (Qa.mk (0 : Int) (0 : Int) s_ ([] : List Qa)) r3.1)).bind (fun (o7 : Uh) => (some (o7.h2, o7.h0)))))) else none)))))
theorem QaK {C0 : Nat → Zc} {D0 : Zc} (H0 : Cv C0 D0) {C1 : Nat → VW} {D1 : VW} (H1 : Cv1 C1 D1) {C2 : Nat → Jk} {D2 : Jk} (H2 : Cv2 C2 D2) {C3 : Nat → Xf} {D3 : Xf} (H3 : Cv2 C3 D3) {L4 : Nat → V4} {M4 : V4} (N4 : Cv1 L4 M4) (a1 : Int) (h0 : Qd) : Cv (fun k => Xg (C0 k) (C1 k) (C2 k) (C3 k) (L4 k) a1 h0) (Xg D0 D1 D2 D3 M4 a1 h0) := by
 unfold Xg
 exact .bind (H0) fun r1 => .cond (.bind (H1 _) fun r2 => by exact .const _) (.bind (H2 _ _) fun r3 => .bind (H0) fun r4 => .cond (.bind (.const _) fun e5 => .bind (H3 _ _) fun r6 => .bind (N4 _) (fun o7 => by exact .const _)) cst)
noncomputable def Qh2 (C0 : VW) (C1 : Jk) (L2 : V4) (a1 : Int) (h0 : Qd) : Tr (Qa × Qd) AH := (Qaw fun r1 => (.num ((SS r1).length) (r1.length) (.as (a1 == (((r1.length) : Nat) : Int)) (QaI C0 h0 fun r2 => (rt Qs (r2.1, r2.2))) (Z3 C1 (w64 (a1 + 1)) h0 fun r3 => (Qaw fun r4 => (.as (decide (0 ≤ a1)) (.row ((SS r4)[(Int.toNat a1)]?) (r4[(Int.toNat a1)]?) Qgj fun (e5 : (List Int)) => (Qad e5 r3.2 fun r6 => (QeA L2 (Jq.mk a1 r6.1 r6.2 (Qa.mk i0 i0 s_ ([] : List Qa)) r3.1) (fun o7 => (rt Qs (o7.h2, o7.h0)))))) .fail))))))
mutual
noncomputable def JN.s : Nat → Qd → Option (Qa × Qd)
 | 0, _ => none
 | k + 1, h0 => Xp (fun a1 h0 => Qp.s k a1 h0) JC QS h0
termination_by structural k => k
noncomputable def Q5.s : Nat → Qd → Option (Qa × Qd)
 | 0, _ => none
 | k + 1, h0 => Wx QS (fun h0 => JN.s k h0) h0
termination_by structural k => k
noncomputable def JO.s : Nat → Qd → Option (Qa × Qd)
 | 0, _ => none
 | k + 1, h0 => Xq (fun h0 => QF.s k h0) h0
termination_by structural k => k
noncomputable def QR.s : Nat → Qd → Option (Qa × Qd)
 | 0, _ => none
 | k + 1, h0 => VX QS (fun h0 => JO.s k h0) h0
termination_by structural k => k
noncomputable def QF.s : Nat → Qd → Option (Qa × Qd)
 | 0, _ => none
 | k + 1, h0 => V5 JC (fun h0 => Q5.s k h0) (fun h0 => QR.s k h0) U4 Ge J0 Ua Xk Wq Yw QS h0
termination_by structural k => k
noncomputable def Qp.s : Nat → Int → Qd → Option (Qa × Qd)
 | 0, _, _ => none
 | k + 1, a1, h0 => Xg VU (fun h0 => QF.s k h0) (fun a1 h0 => Qp.s k a1 h0) JZ (Q4.s k (fun a1 h0 => Qp.s k a1 h0)) a1 h0
termination_by structural k => k
end
theorem FA : ∀ (k : Nat), (QgJ (JN.s k)) ∧ (QfJ (Q5.s k)) ∧ (QgK (JO.s k)) ∧ (QdT (QR.s k)) ∧ (Qjf (QF.s k)) ∧ (QbU (Qp.s k))
 | 0 => ⟨fun _ _ h => (nomatch h), fun _ _ h => (nomatch h), fun _ _ h => (nomatch h), fun _ _ h => (nomatch h), fun _ _ h => (nomatch h), fun _ _ _ h => (nomatch h)⟩
 | k + 1 => by
  obtain ⟨i_expr_parser_group, i_expr_parser_within, i_expr_parser_minus, i_expr_parser_within_2, i_expr_parser_one, i_expr_parser_two⟩ := FA k
  exact ⟨fun h0 r h => by
    refine fnP (QfM (Qp.s k) h0) ?_ h
    exact fun r1 h => ⟨i_expr_parser_two _ _ _ h, fun r2 h => ⟨JC.ok h, ⟨rfl, fun q0 => fun r3 h => ⟨QS.ok h, rfl⟩, fun q0 => rfl⟩⟩⟩,
   fun h0 r h => by
    refine fnP (Qez (JN.s k) h0) ?_ h
    exact ⟨rfl, fun q0 => fun r1 h => ⟨QS.ok h, rfl⟩, fun q0 => fun r2 h => ⟨i_expr_parser_group _ _ h, rfl⟩⟩,
   fun h0 r h => by
    refine fnP (QfN (QF.s k) h0) ?_ h
    exact fun r1 h => ⟨i_expr_parser_one _ _ h, ⟨(XF [r1.1]), rfl⟩⟩,
   fun h0 r h => by
    refine fnP (Qc5 (JO.s k) h0) ?_ h
    exact ⟨rfl, fun q0 => fun r1 h => ⟨QS.ok h, rfl⟩, fun q0 => fun r2 h => ⟨i_expr_parser_minus _ _ h, rfl⟩⟩,
   fun h0 r h => by
    refine fnP (Qh1 (Q5.s k) (QR.s k) h0) ?_ h
    exact fun r1 h => ⟨JC.ok h, ⟨rfl, fun q0 => fun r2 h => ⟨i_expr_parser_within _ _ h, rfl⟩, fun q0 => fun r3 h => ⟨JC.ok h, ⟨rfl, fun q1 => fun r4 h => ⟨i_expr_parser_within_2 _ _ h, rfl⟩, fun q1 => fun r5 h => ⟨JC.ok h, ⟨rfl, fun q2 => rfl, fun q2 => ⟨rfl, fun q3 => rfl, fun q3 => fun r6 h => ⟨U4.ok h, ⟨rfl, fun q4 => Qj 4 (q4) (⟨rfl, fun q5 => ⟨q4, fun r7 h => ⟨Ge.ok h, Qj 2 (q4) (⟨rfl, fun q6 => ⟨q5, fun r8 h => ⟨Ge.ok h, fun r9 h => ⟨J0.ok h, fun r10 h => ⟨Ua.ok h, rfl⟩⟩⟩⟩, fun q6 => fun r11 h => ⟨Xk.ok h, ⟨rfl, fun q7 => fun r12 h => ⟨J0.ok h, fun r13 h => ⟨Ua.ok h, rfl⟩⟩, fun q7 => fun r14 h => ⟨Wq.ok h, fun r15 h => ⟨Yw.ok h, ⟨rfl, fun q8 => ⟨rfl, fun q9 => rfl, fun q9 => trivial⟩, fun q8 => fun r16 h => ⟨QS.ok h, rfl⟩⟩⟩⟩⟩⟩⟩)⟩⟩, fun q5 => trivial⟩), fun q4 => noN_ok 7 (q4) (⟨rfl, fun r17 h => ⟨Xk.ok h, ⟨rfl, fun q5 => fun r18 h => ⟨J0.ok h, fun r19 h => ⟨Ua.ok h, rfl⟩⟩, fun q5 => fun r20 h => ⟨Wq.ok h, fun r21 h => ⟨Yw.ok h, ⟨rfl, fun q6 => ⟨rfl, fun q7 => rfl, fun q7 => trivial⟩, fun q6 => fun r22 h => ⟨QS.ok h, rfl⟩⟩⟩⟩⟩⟩⟩)⟩⟩⟩⟩⟩⟩⟩⟩⟩,
   fun a1 h0 r h => by
    refine fnP (Qh2 (QF.s k) (Qp.s k) (Q4.s k (Qp.s k)) a1 h0) ?_ h
    exact fun r1 h => ⟨VU.ok h, ⟨(QqP _), ⟨rfl, fun q0 => fun r2 h => ⟨i_expr_parser_one _ _ h, rfl⟩, fun q0 => fun r3 h => ⟨i_expr_parser_two _ _ _ h, fun r4 h => ⟨VU.ok h, ⟨rfl, fun q1 => fun e5 h => ⟨Qj4 h, fun r6 h => ⟨JZ.ok h, fun o7 h => ⟨QdU k i_expr_parser_two h, rfl⟩⟩⟩, fun q1 => trivial⟩⟩⟩⟩⟩⟩⟩
theorem VY : ∀ (k : Nat), (∀ (h0 : Qd), Le (JN.s k h0) (JN.s (k + 1) h0)) ∧ (∀ (h0 : Qd), Le (Q5.s k h0) (Q5.s (k + 1) h0)) ∧ (∀ (h0 : Qd), Le (JO.s k h0) (JO.s (k + 1) h0)) ∧ (∀ (h0 : Qd), Le (QR.s k h0) (QR.s (k + 1) h0)) ∧ (∀ (h0 : Qd), Le (QF.s k h0) (QF.s (k + 1) h0)) ∧ (∀ (a1 : Int) (h0 : Qd), Le (Qp.s k a1 h0) (Qp.s (k + 1) a1 h0))
 | 0 => ⟨fun _ _ h => (nomatch h), fun _ _ h => (nomatch h), fun _ _ h => (nomatch h), fun _ _ h => (nomatch h), fun _ _ h => (nomatch h), fun _ _ _ h => (nomatch h)⟩
 | k + 1 => by
  obtain ⟨i_expr_parser_group, i_expr_parser_within, i_expr_parser_minus, i_expr_parser_within_2, i_expr_parser_one, i_expr_parser_two⟩ := VY k
  exact ⟨fun h0 => (PP (tw2 i_expr_parser_two) ks2 ks1 h0).1 0,
   fun h0 => (Pg ks1 (tw1 i_expr_parser_group) h0).1 0,
   fun h0 => (PQ (tw1 i_expr_parser_one) h0).1 0,
   fun h0 => (E4 ks1 (tw1 i_expr_parser_minus) h0).1 0,
   fun h0 => (QaJ ks2 (tw1 i_expr_parser_within) (tw1 i_expr_parser_within_2) ks1 ks1 ks3 ks2 ks1 ks1 ks1 ks1 h0).1 0,
   fun a1 h0 => (QaK ks0 (tw1 i_expr_parser_one) (tw2 i_expr_parser_two) ks2 (tw1 (Q4.m (Nat.le_succ k) (Qp.s k) (Qp.s (k + 1)) i_expr_parser_two)) a1 h0).1 0⟩
noncomputable def JN (h0 : Qd) : Option (Qa × Qd) := lim fun k => JN.s k h0
theorem JN.cv (h0 : Qd) : Cv (fun k => JN.s k h0) (JN h0) := .lim fun k => (VY k).1 h0
noncomputable def Q5 (h0 : Qd) : Option (Qa × Qd) := lim fun k => Q5.s k h0
theorem Q5.cv (h0 : Qd) : Cv (fun k => Q5.s k h0) (Q5 h0) := .lim fun k => (VY k).2.1 h0
noncomputable def JO (h0 : Qd) : Option (Qa × Qd) := lim fun k => JO.s k h0
theorem JO.cv (h0 : Qd) : Cv (fun k => JO.s k h0) (JO h0) := .lim fun k => (VY k).2.2.1 h0
noncomputable def QR (h0 : Qd) : Option (Qa × Qd) := lim fun k => QR.s k h0
theorem QR.cv (h0 : Qd) : Cv (fun k => QR.s k h0) (QR h0) := .lim fun k => (VY k).2.2.2.1 h0
noncomputable def QF (h0 : Qd) : Option (Qa × Qd) := lim fun k => QF.s k h0
theorem QF.cv (h0 : Qd) : Cv (fun k => QF.s k h0) (QF h0) := .lim fun k => (VY k).2.2.2.2.1 h0
noncomputable def Qp (a1 : Int) (h0 : Qd) : Option (Qa × Qd) := lim fun k => Qp.s k a1 h0
theorem Qp.cv (a1 : Int) (h0 : Qd) : Cv (fun k => Qp.s k a1 h0) (Qp a1 h0) := .lim fun k => (VY k).2.2.2.2.2 a1 h0
theorem Qp.ok {a1 : Int} {h0 : Qd} {r : (Qa × Qd)} (h : Qp a1 h0 = some r) : ww 215 [.ptr 0 0, xi a1] [(0, .box [] (QM h0))] = some (Qs r) := let ⟨k, e⟩ := ((Qp.cv a1 h0).2 r).1 h; (FA k).2.2.2.2.2 a1 h0 _ e
noncomputable def Q4 : V4 := Q4.w Qp
theorem Q4.eq (a : Jq) : Q4 a = (Wy Qp VU JZ a).bind (Sum.elim Q4 some) := Ja _ _
theorem JN.eq (h0 : Qd) : JN h0 = Xp Qp JC QS h0 := Cv.uniq (JN.cv h0).shift (PP Qp.cv ks2 ks1 h0)
theorem Q5.eq (h0 : Qd) : Q5 h0 = Wx QS JN h0 := Cv.uniq (Q5.cv h0).shift (Pg ks1 JN.cv h0)
theorem JO.eq (h0 : Qd) : JO h0 = Xq QF h0 := Cv.uniq (JO.cv h0).shift (PQ QF.cv h0)
theorem QR.eq (h0 : Qd) : QR h0 = VX QS JO h0 := Cv.uniq (QR.cv h0).shift (E4 ks1 JO.cv h0)
theorem QF.eq (h0 : Qd) : QF h0 = V5 JC Q5 QR U4 Ge J0 Ua Xk Wq Yw QS h0 := Cv.uniq (QF.cv h0).shift (QaJ ks2 Q5.cv QR.cv ks1 ks1 ks3 ks2 ks1 ks1 ks1 ks1 h0)
theorem Qp.eq (a1 : Int) (h0 : Qd) : Qp a1 h0 = Xg VU QF Qp JZ Q4 a1 h0 := Cv.uniq (Qp.cv a1 h0).shift (QaK ks0 QF.cv Qp.cv ks2 (Q4.cv (fun k => Qp.s k) Qp Qp.cv) a1 h0)
noncomputable abbrev Qh3 {ρ R : Type} (a1 : Int) (h0 : Qd) (k : (Qa × Qd) → Tr ρ R) : Tr ρ R := Z3 Qp a1 h0 k
def Xt (r : (Qa × Bool)) : AV × Heap := (.tup [.agg (QZ r.1), xo r.2], [])
abbrev QiA := ByteArray → Option (Qa × Bool)
def QbV (C0 : Jk) (C1 : GO) (a0 : ByteArray) : Option (Qa × Bool) := ((C0 (0 : Int) (Qd.mk a0 (0 : Int) false)).bind fun r1 => ((C1 r1.2).bind fun r2 => (bif r2.bad then (some ((Qa.mk (0 : Int) (0 : Int) s_ ([] : List Qa)), false)) else (bif (!(eqS r2.left s_)) then (some ((Qa.mk (0 : Int) (0 : Int) s_ ([] : List Qa)), false)) else (some (r1.1, true))))))
noncomputable def Wz : QiA := QbV Qp Uf
theorem Wz.eq (a0 : ByteArray) : Wz a0 = QbV Qp Uf a0 := rfl
noncomputable def QnU (a0 : ByteArray) : Tr (Qa × Bool) AH := (Qh3 i0 (Qd.mk a0 i0 false) fun r1 => (Pc r1.2 fun r2 => (.as r2.bad (yesN 5 r2.bad (.yes true (rt Xt ((Qa.mk i0 i0 s_ ([] : List Qa)), false)))) (noN 5 r2.bad (.as (!(eqS r2.left s_)) (rt Xt ((Qa.mk i0 i0 s_ ([] : List Qa)), false)) (rt Xt (r1.1, true)))))))
theorem Wz.ok {a0 : ByteArray} {r : (Qa × Bool)} (h : Wz a0 = some r) : ww 179 [xs a0] [] = some (Xt r) := by
 refine fnP (QnU a0) ?_ h
 exact fun r1 h => ⟨Qp.ok h, fun r2 h => ⟨Uf.ok h, ⟨rfl, fun q0 => Qj 5 (q0) (⟨rfl, rfl⟩), fun q0 => noN_ok 5 (q0) (⟨rfl, fun q1 => rfl, fun q1 => rfl⟩)⟩⟩⟩
noncomputable abbrev QnV {ρ R : Type} (a0 : ByteArray) (k : (Qa × Bool) → Tr ρ R) : Tr ρ R := .call (ww 179 [xs a0] []) (Wz a0) Xt k
def Qu (r : (Bool × Qh)) : AV × Heap := (xo r.1, [(0, .box [0, 0, 0, 0, 0, 5] [xi r.2.x.Line, xs r.2.x.Label, xi r.2.x.Kind, xi r.2.x.Op, xs r.2.x.Text, .arr 2]), (2, .arr true 5 (Qi r.2.x.Args))])
abbrev Qae := ByteArray → Qh → Option (Bool × Qh)
def GR (C0 : QiA) (a1 : ByteArray) (h0 : Qh) : Option (Bool × Qh) := ((C0 a1).bind fun r1 => (bif (decide ((h0.x.Args.length + [(Qc.mk (-1 : Int) r1.1)].length) * 64 ≤ most)) then (some (r1.2, (Qh.mk (Qb.mk h0.x.Line h0.x.Label h0.x.Kind h0.x.Op h0.x.Text (h0.x.Args ++ [(Qc.mk (-1 : Int) r1.1)]))))) else none))
noncomputable def VF : Qae := GR Wz
theorem VF.eq (a1 : ByteArray) (h0 : Qh) : VF a1 h0 = GR Wz a1 h0 := rfl
noncomputable def QfO (a1 : ByteArray) (h0 : Qh) : Tr (Bool × Qh) AH := (QnV a1 fun r1 => (.rows [[xi (-1 : Int), xi r1.1.Kind, xi r1.1.N, xs r1.1.Name, .sl (QK r1.1.L)]] (Qi [(Qc.mk (-1 : Int) r1.1)]) (.yes (decide ((Qi [(Qc.mk (-1 : Int) r1.1)]).all (fun r => r.length == 5) = true)) (.ask (decide (((Qi h0.x.Args).length + (Qi [(Qc.mk (-1 : Int) r1.1)]).length) * 64 ≤ most)) (decide ((h0.x.Args.length + [(Qc.mk (-1 : Int) r1.1)].length) * 64 ≤ most)) (.rows ((Qi h0.x.Args) ++ (Qi [(Qc.mk (-1 : Int) r1.1)])) (Qi (h0.x.Args ++ [(Qc.mk (-1 : Int) r1.1)])) (rt Qu (r1.2, (Qh.mk (Qb.mk h0.x.Line h0.x.Label h0.x.Kind h0.x.Op h0.x.Text (h0.x.Args ++ [(Qc.mk (-1 : Int) r1.1)])))))) .fail))))
theorem VF.ok {a1 : ByteArray} {h0 : Qh} {r : (Bool × Qh)} (h : VF a1 h0 = some r) : ww 129 [.ptr 0 0, xs a1] [(0, .box [0, 0, 0, 0, 0, 5] [xi h0.x.Line, xs h0.x.Label, xi h0.x.Kind, xi h0.x.Op, xs h0.x.Text, .arr 1]), (1, .arr true 5 (Qi h0.x.Args))] = some (Qu r) := by
 refine fnP (QfO a1 h0) ?_ h
 exact fun r1 h => ⟨Wz.ok h, ⟨(JE [(Qc.mk (-1 : Int) r1.1)]), ⟨(decide_eq_true (V8 _)), ⟨(by rw [Jf, Jf]), fun q0 => ⟨(U8 _ _), rfl⟩, fun q0 => trivial⟩⟩⟩⟩
noncomputable abbrev QfP {ρ R : Type} (a1 : ByteArray) (h0 : Qh) (k : (Bool × Qh) → Tr ρ R) : Tr ρ R := .call (ww 129 [.ptr 0 0, xs a1] [(0, .box [0, 0, 0, 0, 0, 5] [xi h0.x.Line, xs h0.x.Label, xi h0.x.Kind, xi h0.x.Op, xs h0.x.Text, .arr 1]), (1, .arr true 5 (Qi h0.x.Args))]) (VF a1 h0) Qu k
abbrev QaL := ByteArray → Qh → Option (Bool × Qh)
def Eh (C0 : Qes) (a1 : ByteArray) (h0 : Qh) : Option (Bool × Qh) := ((C0 a1).bind fun r1 => (some (r1, (Qh.mk (Qb.mk h0.x.Line h0.x.Label h0.x.Kind h0.x.Op a1 h0.x.Args)))))
noncomputable def VZ : QaL := Eh XG
theorem VZ.eq (a1 : ByteArray) (h0 : Qh) : VZ a1 h0 = Eh XG a1 h0 := rfl
noncomputable def QgL (a1 : ByteArray) (h0 : Qh) : Tr (Bool × Qh) AH := (Qip a1 fun r1 => (rt Qu (r1, (Qh.mk (Qb.mk h0.x.Line h0.x.Label h0.x.Kind h0.x.Op a1 h0.x.Args)))))
theorem VZ.ok {a1 : ByteArray} {h0 : Qh} {r : (Bool × Qh)} (h : VZ a1 h0 = some r) : ww 131 [.ptr 0 0, xs a1] [(0, .box [0, 0, 0, 0, 0, 5] [xi h0.x.Line, xs h0.x.Label, xi h0.x.Kind, xi h0.x.Op, xs h0.x.Text, .arr 1]), (1, .arr true 5 (Qi h0.x.Args))] = some (Qu r) := by
 refine fnP (QgL a1 h0) ?_ h
 exact fun r1 h => ⟨XG.ok h, rfl⟩
noncomputable abbrev QgM {ρ R : Type} (a1 : ByteArray) (h0 : Qh) (k : (Bool × Qh) → Tr ρ R) : Tr ρ R := .call (ww 131 [.ptr 0 0, xs a1] [(0, .box [0, 0, 0, 0, 0, 5] [xi h0.x.Line, xs h0.x.Label, xi h0.x.Kind, xi h0.x.Op, xs h0.x.Text, .arr 1]), (1, .arr true 5 (Qi h0.x.Args))]) (VZ a1 h0) Qu k
def QdV (r : Int) : AV × Heap := (.tup [xi r, .sc .nilIface], [])
abbrev QmI := ByteArray → Option Int
noncomputable def XR (a0 : ByteArray) : Option Int := atoiS a0
noncomputable abbrev QdW {ρ R : Type} (a0 : ByteArray) (k : Int → Tr ρ R) : Tr ρ R := .call (ww 241 [xs a0] []) (XR a0) QdV k
theorem XR.ok {a0 : ByteArray} {r : Int} (h : XR a0 = some r) : ww 241 [xs a0] [] = some (QdV r) := (GJ rfl _ _).trans (Qt6 h)
abbrev QdX := ByteArray → Option (Int × Bool)
def Pi (C0 : Qat) (C1 : QmI) (a0 : ByteArray) : Option (Int × Bool) := (bif (decide (((a0.size : Nat) : Int) < 2)) then (some ((0 : Int), false)) else (bif (decide (((a0.size : Nat) : Int) > 3)) then (some ((0 : Int), false)) else (bif (decide (0 ≤ (0 : Int) ∧ (0 : Int) < ((a0.size : Nat) : Int))) then (bif (((a0.data.getD (Int.toNat 0) 0).toNat : Int) != 114) then (some ((0 : Int), false)) else (bif (decide (0 ≤ (1 : Int) ∧ (1 : Int) ≤ ((a0.size : Nat) : Int) ∧ ((a0.size : Nat) : Int) ≤ ((a0.size : Nat) : Int))) then ((C0 (a0.extract (Int.toNat 1) (Int.toNat ((a0.size : Nat) : Int)))).bind fun r1 => (bif (r1 != (w64 (((a0.size : Nat) : Int) - 1))) then (some ((0 : Int), false)) else (bif (((a0.size : Nat) : Int) == 3) then (bif (decide (0 ≤ (1 : Int) ∧ (1 : Int) < ((a0.size : Nat) : Int))) then (bif (((a0.data.getD (Int.toNat 1) 0).toNat : Int) == 48) then (some ((0 : Int), false)) else ((C1 (a0.extract (Int.toNat 1) (Int.toNat ((a0.size : Nat) : Int)))).bind fun r2 => (some (r2, (decide (r2 < 32)))))) else none) else ((C1 (a0.extract (Int.toNat 1) (Int.toNat ((a0.size : Nat) : Int)))).bind fun r3 => (some (r3, (decide (r3 < 32)))))))) else none)) else none)))
noncomputable def W5 : QdX := Pi Wa XR
theorem W5.eq (a0 : ByteArray) : W5 a0 = Pi Wa XR a0 := rfl
noncomputable def Qkg (a0 : ByteArray) : Tr (Int × Bool) AH := (let u65 := (decide ((zz a0) < 2)); .as u65 (yesN 3 u65 (yesN 19 true (rt Ww (i0, false)))) (noN 3 u65 (let u64 := (decide ((zz a0) > 3)); .as u64 (yesN 3 u64 (yesN 15 true (rt Ww (i0, false)))) (.no u64 (.as (in1 i0 (zz a0)) (noN 2 u64 (let u63 := ((gb a0 i0) != 114); .as u63 (yesN 7 u63 (yesN 7 true (rt Ww (i0, false)))) (.no u63 (let u62 := (in2 (zi 1) (zz a0) (zz a0)); .as u62 (.no u63 (QdK (cu a0 (zi 1) (zz a0)) fun r1 => (noN 5 u63 (let u61 := (r1 != (w64 ((zz a0) - 1))); .as u61 (yesN 5 u61 (.yes true (rt Ww (i0, false)))) (noN 3 u61 (let u60 := ((zz a0) == 3); .as u60 (.yes u60 (.as (in1 (zi 1) (zz a0)) (.yes u60 (.no u61 (.yes u60 (.no u61 (.as ((gb a0 (zi 1)) == 48) (rt Ww (i0, false)) (.yes u62 (QdW (cu a0 (zi 1) (zz a0)) fun r2 => (rt Ww (r2, (decide (r2 < 32))))))))))) .fail)) (noN 2 u60 (.no u61 (.no u60 (.no u61 (.no false (.yes u62 (QdW (cu a0 (zi 1) (zz a0)) fun r3 => (rt Ww (r3, (decide (r3 < 32))))))))))))))))) .fail)))) .fail)))))
theorem W5.ok {a0 : ByteArray} {r : (Int × Bool)} (h : W5 a0 = some r) : ww 214 [xs a0] [] = some (Ww r) := by
 refine fnP (Qkg a0) ?_ h
 exact ⟨rfl, fun q0 => Qj 3 (q0) (Qj 19 (rfl) (rfl)), fun q0 => noN_ok 3 (q0) (⟨rfl, fun q1 => Qj 3 (q1) (Qj 15 (rfl) (rfl)), fun q1 => ⟨q1, ⟨rfl, fun q2 => noN_ok 2 (q1) (⟨rfl, fun q3 => Qj 7 (q3) (Qj 7 (rfl) (rfl)), fun q3 => ⟨q3, ⟨rfl, fun q4 => ⟨q3, fun r1 h => ⟨Wa.ok h, noN_ok 5 (q3) (⟨rfl, fun q5 => Qj 5 (q5) (⟨rfl, rfl⟩), fun q5 => noN_ok 3 (q5) (⟨rfl, fun q6 => ⟨q6, ⟨rfl, fun q7 => ⟨q6, ⟨q5, ⟨q6, ⟨q5, ⟨rfl, fun q8 => rfl, fun q8 => ⟨q4, fun r2 h => ⟨XR.ok h, rfl⟩⟩⟩⟩⟩⟩⟩, fun q7 => trivial⟩⟩, fun q6 => noN_ok 2 (q6) (⟨q5, ⟨q6, ⟨q5, ⟨rfl, ⟨q4, fun r3 h => ⟨XR.ok h, rfl⟩⟩⟩⟩⟩⟩)⟩)⟩)⟩⟩, fun q4 => trivial⟩⟩⟩), fun q2 => trivial⟩⟩⟩)⟩
noncomputable abbrev Qkh {ρ R : Type} (a0 : ByteArray) (k : (Int × Bool) → Tr ρ R) : Tr ρ R := .call (ww 214 [xs a0] []) (W5 a0) Ww k
abbrev FB := ByteArray → Qh → Option (Bool × Qh)
def ZU (C0 : QdX) (a1 : ByteArray) (h0 : Qh) : Option (Bool × Qh) := ((C0 a1).bind fun r1 => (bif (decide ((h0.x.Args.length + [(Qc.mk r1.1 (Qa.mk (0 : Int) (0 : Int) s_ ([] : List Qa)))].length) * 64 ≤ most)) then (some (r1.2, (Qh.mk (Qb.mk h0.x.Line h0.x.Label h0.x.Kind h0.x.Op h0.x.Text (h0.x.Args ++ [(Qc.mk r1.1 (Qa.mk (0 : Int) (0 : Int) s_ ([] : List Qa)))]))))) else none))
noncomputable def US : FB := ZU W5
theorem US.eq (a1 : ByteArray) (h0 : Qh) : US a1 h0 = ZU W5 a1 h0 := rfl
noncomputable def Qc6 (a1 : ByteArray) (h0 : Qh) : Tr (Bool × Qh) AH := (Qkh a1 fun r1 => (.rows [[xi r1.1, xi i0, xi i0, xs s_, .sl (QK ([] : List Qa))]] (Qi [(Qc.mk r1.1 (Qa.mk i0 i0 s_ ([] : List Qa)))]) (.yes (decide ((Qi [(Qc.mk r1.1 (Qa.mk i0 i0 s_ ([] : List Qa)))]).all (fun r => r.length == 5) = true)) (.ask (decide (((Qi h0.x.Args).length + (Qi [(Qc.mk r1.1 (Qa.mk i0 i0 s_ ([] : List Qa)))]).length) * 64 ≤ most)) (decide ((h0.x.Args.length + [(Qc.mk r1.1 (Qa.mk i0 i0 s_ ([] : List Qa)))].length) * 64 ≤ most)) (.rows ((Qi h0.x.Args) ++ (Qi [(Qc.mk r1.1 (Qa.mk i0 i0 s_ ([] : List Qa)))])) (Qi (h0.x.Args ++ [(Qc.mk r1.1 (Qa.mk i0 i0 s_ ([] : List Qa)))])) (rt Qu (r1.2, (Qh.mk (Qb.mk h0.x.Line h0.x.Label h0.x.Kind h0.x.Op h0.x.Text (h0.x.Args ++ [(Qc.mk r1.1 (Qa.mk i0 i0 s_ ([] : List Qa)))])))))) .fail))))
theorem US.ok {a1 : ByteArray} {h0 : Qh} {r : (Bool × Qh)} (h : US a1 h0 = some r) : ww 178 [.ptr 0 0, xs a1] [(0, .box [0, 0, 0, 0, 0, 5] [xi h0.x.Line, xs h0.x.Label, xi h0.x.Kind, xi h0.x.Op, xs h0.x.Text, .arr 1]), (1, .arr true 5 (Qi h0.x.Args))] = some (Qu r) := by
 refine fnP (Qc6 a1 h0) ?_ h
 exact fun r1 h => ⟨W5.ok h, ⟨(JE [(Qc.mk r1.1 (Qa.mk (0 : Int) (0 : Int) s_ ([] : List Qa)))]), ⟨(decide_eq_true (V8 _)), ⟨(by rw [Jf, Jf]), fun q0 => ⟨(U8 _ _), rfl⟩, fun q0 => trivial⟩⟩⟩⟩
noncomputable abbrev Qc7 {ρ R : Type} (a1 : ByteArray) (h0 : Qh) (k : (Bool × Qh) → Tr ρ R) : Tr ρ R := .call (ww 178 [.ptr 0 0, xs a1] [(0, .box [0, 0, 0, 0, 0, 5] [xi h0.x.Line, xs h0.x.Label, xi h0.x.Kind, xi h0.x.Op, xs h0.x.Text, .arr 1]), (1, .arr true 5 (Qi h0.x.Args))]) (US a1 h0) Qu k
def QeC (r : (Bool × Qh)) : AV × Heap := (xo r.1, [(1, .box [0, 0, 0, 0, 0, 5] [xi r.2.x.Line, xs r.2.x.Label, xi r.2.x.Kind, xi r.2.x.Op, xs r.2.x.Text, .arr 3]), (3, .arr true 5 (Qi r.2.x.Args))])
abbrev QgN := (List ByteArray) → Qh → (List Nat) → Option (Bool × Qh)
structure UE where
 x0 : (List ByteArray)
 x5 : Bool
 x6 : Int
 h1 : Qh
 r4 : (List Nat)
structure Wc where
 x5 : Bool
 h1 : Qh
def GD (a : UE) : St := { n := 31, nx := 5, env := [(0, .sl (Qg a.x0)), (1, .arr 4), (5, xo a.x5), (6, xi a.x6)], heap := [(1, .box [0, 0, 0, 0, 0, 5] [xi a.h1.x.Line, xs a.h1.x.Label, xi a.h1.x.Kind, xi a.h1.x.Op, xs a.h1.x.Text, .arr 3]), (3, .arr true 5 (Qi a.h1.x.Args)), (4, .fs (some 1) (Ud a.r4))] }
def Ff (a : Wc) : Ex × St := (.exit 0, { n := 31, nx := 4, env := [(5, xo a.x5)], heap := [(1, .box [0, 0, 0, 0, 0, 5] [xi a.h1.x.Line, xs a.h1.x.Label, xi a.h1.x.Kind, xi a.h1.x.Op, xs a.h1.x.Text, .arr 3]), (3, .arr true 5 (Qi a.h1.x.Args))] })
abbrev QgO := UE → Option Wc
def X2 (C0 : Qae) (C1 : QaL) (C2 : FB) (a : UE) : Option (UE ⊕ Wc) := (bif (decide (a.x6 < (((a.r4.length) : Nat) : Int))) then (bif a.x5 then (bif (decide (0 ≤ a.x6 ∧ a.x6 < ((a.r4.length : Nat) : Int))) then ((a.r4[(Int.toNat a.x6)]?).bind fun e1 => (bif (decide (e1 = 129)) then (bif (decide (0 ≤ a.x6)) then ((a.x0[(Int.toNat a.x6)]?).bind fun e2 => ((C0 e2 a.h1).bind fun r3 => (some (.inl (UE.mk a.x0 r3.1 (w64 (a.x6 + 1)) r3.2 a.r4))))) else none) else (bif (decide (e1 = 131)) then (bif (decide (0 ≤ a.x6)) then ((a.x0[(Int.toNat a.x6)]?).bind fun e4 => ((C1 e4 a.h1).bind fun r5 => (some (.inl (UE.mk a.x0 r5.1 (w64 (a.x6 + 1)) r5.2 a.r4))))) else none) else (bif (decide (e1 = 178)) then (bif (decide (0 ≤ a.x6)) then ((a.x0[(Int.toNat a.x6)]?).bind fun e6 => ((C2 e6 a.h1).bind fun r7 => (some (.inl (UE.mk a.x0 r7.1 (w64 (a.x6 + 1)) r7.2 a.r4))))) else none) else none)))) else none) else (some (.inr (Wc.mk a.x5 a.h1)))) else (some (.inr (Wc.mk a.x5 a.h1))))
noncomputable def J5 : QgO := loopW (X2 VF VZ US)
theorem J5.eq (a : UE) : J5 a = (X2 VF VZ US a).bind (Sum.elim J5 some) := Ja _ _
noncomputable abbrev QmJ {ρ R : Type} (a : UE) (k0 : Wc → Tr ρ R) : Tr ρ R := .loop (loopAt pp 127 3) (GD a) (J5 a) Ff k0
noncomputable def QmK (a : UE) : Tr (UE ⊕ Wc) XS := (.num ((Ud a.r4).length) (a.r4.length) (let u66 := (decide (a.x6 < (((a.r4.length) : Nat) : Int))); .as u66 (.yes u66 (.as a.x5 (.ask (in1 a.x6 (((Ud a.r4).length : Nat) : Int)) (in1 a.x6 ((a.r4.length : Nat) : Int)) (.row ((Ud a.r4)[(Int.toNat a.x6)]?) (a.r4[(Int.toNat a.x6)]?) Qgi fun (e1 : Nat) => (.as (decide (e1 = 129)) (.as (decide (0 ≤ a.x6)) (.row ((Qg a.x0)[(Int.toNat a.x6)]?) (a.x0[(Int.toNat a.x6)]?) QW fun (e2 : ByteArray) => (QfP e2 a.h1 fun r3 => (lf GD (UE.mk a.x0 r3.1 (w64 (a.x6 + 1)) r3.2 a.r4)))) .fail) (.as (decide (e1 = 131)) (.as (decide (0 ≤ a.x6)) (.row ((Qg a.x0)[(Int.toNat a.x6)]?) (a.x0[(Int.toNat a.x6)]?) QW fun (e4 : ByteArray) => (QgM e4 a.h1 fun r5 => (lf GD (UE.mk a.x0 r5.1 (w64 (a.x6 + 1)) r5.2 a.r4)))) .fail) (.as (decide (e1 = 178)) (.as (decide (0 ≤ a.x6)) (.row ((Qg a.x0)[(Int.toNat a.x6)]?) (a.x0[(Int.toNat a.x6)]?) QW fun (e6 : ByteArray) => (Qc7 e6 a.h1 fun r7 => (lf GD (UE.mk a.x0 r7.1 (w64 (a.x6 + 1)) r7.2 a.r4)))) .fail) .fail)))) .fail) (rx Ff (Wc.mk a.x5 a.h1)))) (.no u66 (.no false (rx Ff (Wc.mk a.x5 a.h1))))))
theorem J5.ok {a : UE} {r : Wc} (h : J5 a = some r) : lw 3 127 (loopAt pp 127 3) (GD a) = some (Ff r) := by
 refine lpP h QmK fun a => ?_
 exact ⟨(YF _), ⟨rfl, fun q0 => ⟨q0, ⟨rfl, fun q1 => ⟨(by rw [YF]), fun q2 => fun e1 h => ⟨QqO h, ⟨rfl, fun q3 => ⟨rfl, fun q4 => fun e2 h => ⟨QO h, fun r3 h => ⟨VF.ok h, rfl⟩⟩, fun q4 => trivial⟩, fun q3 => ⟨rfl, fun q4 => ⟨rfl, fun q5 => fun e4 h => ⟨QO h, fun r5 h => ⟨VZ.ok h, rfl⟩⟩, fun q5 => trivial⟩, fun q4 => ⟨rfl, fun q5 => ⟨rfl, fun q6 => fun e6 h => ⟨QO h, fun r7 h => ⟨US.ok h, rfl⟩⟩, fun q6 => trivial⟩, fun q5 => trivial⟩⟩⟩⟩, fun q2 => trivial⟩, fun q1 => rfl⟩⟩, fun q0 => ⟨q0, ⟨rfl, rfl⟩⟩⟩⟩
def QaZ (L0 : QgO) (a0 : (List ByteArray)) (h1 : Qh) (r0 : (List Nat)) : Option (Bool × Qh) := ((L0 (UE.mk a0 ((((a0.length) : Nat) : Int) == (((r0.length) : Nat) : Int)) (0 : Int) h1 r0)).bind (fun (o1 : Wc) => (some (o1.x5, o1.h1))))
noncomputable def Vi : QgN := QaZ J5
theorem Vi.eq (a0 : (List ByteArray)) (h1 : Qh) (r0 : (List Nat)) : Vi a0 h1 r0 = QaZ J5 a0 h1 r0 := rfl
noncomputable def QqX (a0 : (List ByteArray)) (h1 : Qh) (r0 : (List Nat)) : Tr (Bool × Qh) AH := (.num ((Qg a0).length) (a0.length) (.num ((Ud r0).length) (r0.length) (QmJ (UE.mk a0 ((((a0.length) : Nat) : Int) == (((r0.length) : Nat) : Int)) i0 h1 r0) (fun o1 => (rt QeC (o1.x5, o1.h1))))))
theorem Vi.ok {a0 : (List ByteArray)} {h1 : Qh} {r0 : (List Nat)} {r : (Bool × Qh)} (h : Vi a0 h1 r0 = some r) : ww 127 [.sl (Qg a0), .arr 0] [(0, .fs (some 1) (Ud r0)), (1, .box [0, 0, 0, 0, 0, 5] [xi h1.x.Line, xs h1.x.Label, xi h1.x.Kind, xi h1.x.Op, xs h1.x.Text, .arr 2]), (2, .arr true 5 (Qi h1.x.Args))] = some (QeC r) := by
 refine fnP (QqX a0 h1 r0) ?_ h
 exact ⟨(Qo _), ⟨(YF _), fun o1 h => ⟨J5.ok h, rfl⟩⟩⟩
noncomputable abbrev ZH {ρ R : Type} (a0 : (List ByteArray)) (h1 : Qh) (r0 : (List Nat)) (k : (Bool × Qh) → Tr ρ R) : Tr ρ R := .call (ww 127 [.sl (Qg a0), .arr 0] [(0, .fs (some 1) (Ud r0)), (1, .box [0, 0, 0, 0, 0, 5] [xi h1.x.Line, xs h1.x.Label, xi h1.x.Kind, xi h1.x.Op, xs h1.x.Text, .arr 2]), (2, .arr true 5 (Qi h1.x.Args))]) (Vi a0 h1 r0) QeC k
abbrev Ei := (List ByteArray) → Qh → Option (Bool × Qh)
structure QT where
 x1 : (List ByteArray)
 x14 : (List ByteArray)
 x15 : Int
 x16 : Int
 h0 : Qh
 r3 : (List Nat)
structure JM where
 x1 : (List ByteArray)
 h0 : Qh
 r3 : (List Nat)
def Xc (a : QT) : St := { n := 38, nx := 4, env := [(0, .ptr 0 0), (1, .sl (Qg a.x1)), (5, .arr 3), (14, .sl (Qg a.x14)), (15, xi a.x15), (16, xi a.x16)], heap := [(0, .box [0, 0, 0, 0, 0, 5] [xi a.h0.x.Line, xs a.h0.x.Label, xi a.h0.x.Kind, xi a.h0.x.Op, xs a.h0.x.Text, .arr 2]), (2, .arr true 5 (Qi a.h0.x.Args)), (3, .fs (some 0) (Ud a.r3))] }
def Yi (a : JM) : Ex × St := (.exit 0, { n := 38, nx := 4, env := [(1, .sl (Qg a.x1)), (5, .arr 3)], heap := [(0, .box [0, 0, 0, 0, 0, 5] [xi a.h0.x.Line, xs a.h0.x.Label, xi a.h0.x.Kind, xi a.h0.x.Op, xs a.h0.x.Text, .arr 2]), (2, .arr true 5 (Qi a.h0.x.Args)), (3, .fs (some 0) (Ud a.r3))] })
abbrev Gs := QT → Option JM
def Xd (C0 : Qh0) (a : QT) : Option (QT ⊕ JM) := (bif (decide (a.x16 < a.x15)) then (bif (decide (0 ≤ a.x16)) then ((a.x14[(Int.toNat a.x16)]?).bind fun e1 => (bif (decide (((h_20.size + e1.size : Nat) : Int) ≤ IntKind.i64.max)) then (bif (decide ((((h_20 ++ e1).size + h_20.size : Nat) : Int) ≤ IntKind.i64.max)) then ((C0 UV ((h_20 ++ e1) ++ h_20)).bind fun r2 => (bif r2 then (bif (decide ((a.r3.length + [178].length) * 8 ≤ most)) then (some (.inl (QT.mk a.x1 a.x14 a.x15 (w64 (a.x16 + 1)) a.h0 (a.r3 ++ [178])))) else none) else (bif (decide ((a.r3.length + [129].length) * 8 ≤ most)) then (some (.inl (QT.mk a.x1 a.x14 a.x15 (w64 (a.x16 + 1)) a.h0 (a.r3 ++ [129])))) else none))) else none) else none)) else none) else (some (.inr (JM.mk a.x1 a.h0 a.r3))))
noncomputable def Q3 : Gs := loopW (Xd XD)
theorem Q3.eq (a : QT) : Q3 a = (Xd XD a).bind (Sum.elim Q3 some) := Ja _ _
noncomputable abbrev Se {ρ R : Type} (a : QT) (k0 : JM → Tr ρ R) : Tr ρ R := .loop (loopAt pp 125 3) (Xc a) (Q3 a) Yi k0
noncomputable def Sf (a : QT) : Tr (QT ⊕ JM) XS := (.as (decide (a.x16 < a.x15)) (.as (decide (0 ≤ a.x16)) (.row ((Qg a.x14)[(Int.toNat a.x16)]?) (a.x14[(Int.toNat a.x16)]?) QW fun (e1 : ByteArray) => (.as (decide (((h_20.size + e1.size : Nat) : Int) ≤ IntKind.i64.max)) (.as (decide ((((h_20 ++ e1).size + h_20.size : Nat) : Int) ≤ IntKind.i64.max)) (QgB UV ((h_20 ++ e1) ++ h_20) fun r2 => (.as r2 (.rows [[.fn (.func 178) [] []]] (Ud [178]) (.yes (decide ((Ud [178]).all (fun r => r.length == 1) = true)) (.ask (decide (((Ud a.r3).length + (Ud [178]).length) * 8 ≤ most)) (decide ((a.r3.length + [178].length) * 8 ≤ most)) (.rows ((Ud a.r3) ++ (Ud [178])) (Ud (a.r3 ++ [178])) (lf Xc (QT.mk a.x1 a.x14 a.x15 (w64 (a.x16 + 1)) a.h0 (a.r3 ++ [178])))) .fail))) (.rows [[.fn (.func 129) [] []]] (Ud [129]) (.yes (decide ((Ud [129]).all (fun r => r.length == 1) = true)) (.ask (decide (((Ud a.r3).length + (Ud [129]).length) * 8 ≤ most)) (decide ((a.r3.length + [129].length) * 8 ≤ most)) (.rows ((Ud a.r3) ++ (Ud [129])) (Ud (a.r3 ++ [129])) (lf Xc (QT.mk a.x1 a.x14 a.x15 (w64 (a.x16 + 1)) a.h0 (a.r3 ++ [129])))) .fail))))) .fail) .fail)) .fail) (rx Yi (JM.mk a.x1 a.h0 a.r3)))
theorem Q3.ok {a : QT} {r : JM} (h : Q3 a = some r) : lw 2 125 (loopAt pp 125 3) (Xc a) = some (Yi r) := by
 refine lpP h Sf fun a => ?_
 exact ⟨rfl, fun q0 => ⟨rfl, fun q1 => fun e1 h => ⟨QO h, ⟨rfl, fun q2 => ⟨rfl, fun q3 => fun r2 h => ⟨XD.ok h, ⟨rfl, fun q4 => ⟨(ZB [178]), ⟨(decide_eq_true (Qep _)), ⟨(by rw [YF, YF]), fun q5 => ⟨(Qas _ _), rfl⟩, fun q5 => trivial⟩⟩⟩, fun q4 => ⟨(ZB [129]), ⟨(decide_eq_true (Qep _)), ⟨(by rw [YF, YF]), fun q5 => ⟨(Qas _ _), rfl⟩, fun q5 => trivial⟩⟩⟩⟩⟩, fun q3 => trivial⟩, fun q2 => trivial⟩⟩, fun q1 => trivial⟩, fun q0 => rfl⟩
def YL (C0 : Qke) (C1 : Qkf) (C2 : QgN) (L3 : Gs) (a1 : (List ByteArray)) (h0 : Qh) : Option (Bool × Qh) := ((C0 h0.x.Op).bind fun r1 => ((C1 r1).bind fun r2 => ((L3 (QT.mk a1 r2 (((r2.length) : Nat) : Int) (0 : Int) h0 ([] : List Nat))).bind (fun (o3 : JM) => ((C2 o3.x1 o3.h0 o3.r3).bind fun r4 => (some (r4.1, r4.2)))))))
noncomputable def Ub : Ei := YL Xj Yh Vi Q3
theorem Ub.eq (a1 : (List ByteArray)) (h0 : Qh) : Ub a1 h0 = YL Xj Yh Vi Q3 a1 h0 := rfl
noncomputable def Qa0 (a1 : (List ByteArray)) (h0 : Qh) : Tr (Bool × Qh) AH := (Qpj h0.x.Op fun r1 => (Qje r1 fun r2 => (.num ((Qg r2).length) (r2.length) (Se (QT.mk a1 r2 (((r2.length) : Nat) : Int) i0 h0 ([] : List Nat)) (fun o3 => (ZH o3.x1 o3.h0 o3.r3 fun r4 => (rt Qu (r4.1, r4.2))))))))
theorem Ub.ok {a1 : (List ByteArray)} {h0 : Qh} {r : (Bool × Qh)} (h : Ub a1 h0 = some r) : ww 125 [.ptr 0 0, .sl (Qg a1)] [(0, .box [0, 0, 0, 0, 0, 5] [xi h0.x.Line, xs h0.x.Label, xi h0.x.Kind, xi h0.x.Op, xs h0.x.Text, .arr 1]), (1, .arr true 5 (Qi h0.x.Args))] = some (Qu r) := by
 refine fnP (Qa0 a1 h0) ?_ h
 exact fun r1 h => ⟨Xj.ok h, fun r2 h => ⟨Yh.ok h, ⟨(Qo _), fun o3 h => ⟨Q3.ok h, fun r4 h => ⟨Vi.ok h, rfl⟩⟩⟩⟩⟩
noncomputable abbrev Qa1 {ρ R : Type} (a1 : (List ByteArray)) (h0 : Qh) (k : (Bool × Qh) → Tr ρ R) : Tr ρ R := .call (ww 125 [.ptr 0 0, .sl (Qg a1)] [(0, .box [0, 0, 0, 0, 0, 5] [xi h0.x.Line, xs h0.x.Label, xi h0.x.Kind, xi h0.x.Op, xs h0.x.Text, .arr 1]), (1, .arr true 5 (Qi h0.x.Args))]) (Ub a1 h0) Qu k
abbrev QiB := Option (List ByteArray)
def QgP : Option (List ByteArray) := (some [s_b, s_bl, s_bc])
noncomputable def Yq : QiB := QgP
theorem Yq.eq : Yq = QgP := rfl
noncomputable def QnW : Tr (List ByteArray) AH := (.rows [[xs s_b], [xs s_bl], [xs s_bc]] (Qg [s_b, s_bl, s_bc]) (rt Jg [s_b, s_bl, s_bc]))
theorem Yq.ok {r : (List ByteArray)} (h : Yq = some r) : ww 111 [] [] = some (Jg r) := by
 refine fnP (QnW) ?_ h
 exact ⟨(QP [s_b, s_bl, s_bc]), rfl⟩
noncomputable abbrev QnX {ρ R : Type} (k : (List ByteArray) → Tr ρ R) : Tr ρ R := .call (ww 111 [] []) (Yq) Jg k
abbrev Qfg := (List ByteArray) → ByteArray → Option Int
structure UB where
 x0 : (List ByteArray)
 x1 : ByteArray
 x7 : Int
 x8 : Int
def EP (a : UB) : St := { n := 19, nx := 0, env := [(0, .sl (Qg a.x0)), (1, xs a.x1), (7, xi a.x7), (8, xi a.x8)], heap := [] }
def Qaf (a : Int) : Ex × St := (.ret, { n := 19, nx := 0, env := [(4, xi a)], heap := [] })
def Qag (a : Unit) : Ex × St := (.exit 0, { n := 19, nx := 0, env := [], heap := [] })
def EQ (a : (Int ⊕ Unit)) : Ex × St := Sum.elim Qaf Qag a
abbrev QbW := UB → Option (Int ⊕ Unit)
def Z4 (a : UB) : Option (UB ⊕ (Int ⊕ Unit)) := (bif (decide (a.x8 < a.x7)) then (bif (decide (0 ≤ a.x8)) then ((a.x0[(Int.toNat a.x8)]?).bind fun e1 => (bif (eqS a.x1 e1) then (some (.inr (.inl a.x8))) else (some (.inl (UB.mk a.x0 a.x1 a.x7 (w64 (a.x8 + 1))))))) else none) else (some (.inr (.inr ()))))
noncomputable def Jb : QbW := loopW (Z4 )
theorem Jb.eq (a : UB) : Jb a = (Z4 a).bind (Sum.elim Jb some) := Ja _ _
noncomputable abbrev Qh4 {ρ R : Type} (a : UB) (k0 : Int → Tr ρ R) (k1 : Unit → Tr ρ R) : Tr ρ R := .loop2 (loopAt pp 126 2) (EP a) (Jb a) Qaf Qag k0 k1
noncomputable def Qh5 (a : UB) : Tr (UB ⊕ (Int ⊕ Unit)) XS := (.as (decide (a.x8 < a.x7)) (.as (decide (0 ≤ a.x8)) (.row ((Qg a.x0)[(Int.toNat a.x8)]?) (a.x0[(Int.toNat a.x8)]?) QW fun (e1 : ByteArray) => (.as (eqS a.x1 e1) (rx EQ (.inl a.x8)) (lf EP (UB.mk a.x0 a.x1 a.x7 (w64 (a.x8 + 1)))))) .fail) (rx EQ (.inr ())))
theorem Jb.ok {a : UB} {r : (Int ⊕ Unit)} (h : Jb a = some r) : lw 0 126 (loopAt pp 126 2) (EP a) = some (EQ r) := by
 refine lpP h Qh5 fun a => ?_
 exact ⟨rfl, fun q0 => ⟨rfl, fun q1 => fun e1 h => ⟨QO h, ⟨rfl, fun q2 => rfl, fun q2 => rfl⟩⟩, fun q1 => trivial⟩, fun q0 => rfl⟩
def ED (L0 : QbW) (a0 : (List ByteArray)) (a1 : ByteArray) : Option Int := ((L0 (UB.mk a0 a1 (((a0.length) : Nat) : Int) (0 : Int))).bind fun x => Sum.elim (fun (o1 : Int) => (some o1)) (fun (o2 : Unit) => (some (-1 : Int))) x)
noncomputable def UX : Qfg := ED Jb
theorem UX.eq (a0 : (List ByteArray)) (a1 : ByteArray) : UX a0 a1 = ED Jb a0 a1 := rfl
noncomputable def Qle (a0 : (List ByteArray)) (a1 : ByteArray) : Tr Int AH := (.num ((Qg a0).length) (a0.length) (Qh4 (UB.mk a0 a1 (((a0.length) : Nat) : Int) i0) (fun o1 => (rt Qm o1)) (fun o2 => (rt Qm (-1 : Int)))))
theorem UX.ok {a0 : (List ByteArray)} {a1 : ByteArray} {r : Int} (h : UX a0 a1 = some r) : ww 126 [.sl (Qg a0), xs a1] [] = some (Qm r) := by
 refine fnP (Qle a0 a1) ?_ h
 exact ⟨(Qo _), ⟨fun o1 h => ⟨Jb.ok (r := (.inl _)) h, rfl⟩, fun o2 h => ⟨Jb.ok (r := (.inr _)) h, rfl⟩⟩⟩
noncomputable abbrev Y2 {ρ R : Type} (a0 : (List ByteArray)) (a1 : ByteArray) (k : Int → Tr ρ R) : Tr ρ R := .call (ww 126 [.sl (Qg a0), xs a1] []) (UX a0 a1) Qm k
def Qc8 (r : (Qh × (List Nat))) : AV × Heap := (.arr 3, [(0, .box [0, 0, 0, 0, 0, 5] [xi r.1.x.Line, xs r.1.x.Label, xi r.1.x.Kind, xi r.1.x.Op, xs r.1.x.Text, .arr 2]), (2, .arr true 5 (Qi r.1.x.Args)), (3, .fs (some 0) (Ud r.2))])
abbrev Qki := Int → Qh → Option (Qh × (List Nat))
structure Vo where
 x6 : Int
 x7 : Int
 h0 : Qh
 r3 : (List Nat)
structure WS where
 h0 : Qh
 r3 : (List Nat)
def Sg (a : Vo) : St := { n := 15, nx := 4, env := [(0, .fn (.func 129) [.ptr 0 0] []), (5, .arr 3), (6, xi a.x6), (7, xi a.x7)], heap := [(0, .box [0, 0, 0, 0, 0, 5] [xi a.h0.x.Line, xs a.h0.x.Label, xi a.h0.x.Kind, xi a.h0.x.Op, xs a.h0.x.Text, .arr 2]), (2, .arr true 5 (Qi a.h0.x.Args)), (3, .fs (some 0) (Ud a.r3))] }
def Si (a : WS) : Ex × St := (.exit 0, { n := 15, nx := 4, env := [(5, .arr 3)], heap := [(0, .box [0, 0, 0, 0, 0, 5] [xi a.h0.x.Line, xs a.h0.x.Label, xi a.h0.x.Kind, xi a.h0.x.Op, xs a.h0.x.Text, .arr 2]), (2, .arr true 5 (Qi a.h0.x.Args)), (3, .fs (some 0) (Ud a.r3))] })
abbrev Qfh := Vo → Option WS
def EE (a : Vo) : Option (Vo ⊕ WS) := (bif (decide (a.x7 < a.x6)) then (bif (decide ((a.r3.length + [129].length) * 8 ≤ most)) then (some (.inl (Vo.mk a.x6 (w64 (a.x7 + 1)) a.h0 (a.r3 ++ [129])))) else none) else (some (.inr (WS.mk a.h0 a.r3))))
noncomputable def Wd : Qfh := loopW (EE )
theorem Wd.eq (a : Vo) : Wd a = (EE a).bind (Sum.elim Wd some) := Ja _ _
noncomputable abbrev Qlf {ρ R : Type} (a : Vo) (k0 : WS → Tr ρ R) : Tr ρ R := .loop (loopAt pp 128 3) (Sg a) (Wd a) Si k0
noncomputable def Qlg (a : Vo) : Tr (Vo ⊕ WS) XS := (.as (decide (a.x7 < a.x6)) (.rows [[.fn (.func 129) [] []]] (Ud [129]) (.yes (decide ((Ud [129]).all (fun r => r.length == 1) = true)) (.ask (decide (((Ud a.r3).length + (Ud [129]).length) * 8 ≤ most)) (decide ((a.r3.length + [129].length) * 8 ≤ most)) (.rows ((Ud a.r3) ++ (Ud [129])) (Ud (a.r3 ++ [129])) (lf Sg (Vo.mk a.x6 (w64 (a.x7 + 1)) a.h0 (a.r3 ++ [129])))) .fail))) (rx Si (WS.mk a.h0 a.r3)))
theorem Wd.ok {a : Vo} {r : WS} (h : Wd a = some r) : lw 2 128 (loopAt pp 128 3) (Sg a) = some (Si r) := by
 refine lpP h Qlg fun a => ?_
 exact ⟨rfl, fun q0 => ⟨(ZB [129]), ⟨(decide_eq_true (Qep _)), ⟨(by rw [YF, YF]), fun q1 => ⟨(Qas _ _), rfl⟩, fun q1 => trivial⟩⟩⟩, fun q0 => rfl⟩
def Qc9 (L0 : Qfh) (a1 : Int) (h0 : Qh) : Option (Qh × (List Nat)) := ((L0 (Vo.mk a1 (0 : Int) h0 ([] : List Nat))).bind (fun (o1 : WS) => (some (o1.h0, o1.r3))))
noncomputable def Wr : Qki := Qc9 Wd
theorem Wr.eq (a1 : Int) (h0 : Qh) : Wr a1 h0 = Qc9 Wd a1 h0 := rfl
noncomputable def Qpn (a1 : Int) (h0 : Qh) : Tr (Qh × (List Nat)) AH := (Qlf (Vo.mk a1 i0 h0 ([] : List Nat)) (fun o1 => (rt Qc8 (o1.h0, o1.r3))))
theorem Wr.ok {a1 : Int} {h0 : Qh} {r : (Qh × (List Nat))} (h : Wr a1 h0 = some r) : ww 128 [.fn (.func 129) [.ptr 0 0] [], xi a1] [(0, .box [0, 0, 0, 0, 0, 5] [xi h0.x.Line, xs h0.x.Label, xi h0.x.Kind, xi h0.x.Op, xs h0.x.Text, .arr 1]), (1, .arr true 5 (Qi h0.x.Args))] = some (Qc8 r) := by
 refine fnP (Qpn a1 h0) ?_ h
 exact fun o1 h => ⟨Wd.ok h, rfl⟩
noncomputable abbrev GK {ρ R : Type} (a1 : Int) (h0 : Qh) (k : (Qh × (List Nat)) → Tr ρ R) : Tr ρ R := .call (ww 128 [.fn (.func 129) [.ptr 0 0] [], xi a1] [(0, .box [0, 0, 0, 0, 0, 5] [xi h0.x.Line, xs h0.x.Label, xi h0.x.Kind, xi h0.x.Op, xs h0.x.Text, .arr 1]), (1, .arr true 5 (Qi h0.x.Args))]) (Wr a1 h0) Qc8 k
abbrev Pj := Int → Option Bool
def Gi (a0 : Int) : Option Bool := (bif (decide (a0 ≥ 32)) then (bif (decide (a0 ≤ (126 : Int))) then (some (a0 != 34)) else (some false)) else (some false))
noncomputable def U5 : Pj := Gi
theorem U5.eq (a0 : Int) : U5 a0 = Gi a0 := rfl
noncomputable def QdY (a0 : Int) : Tr Bool AH := (let u68 := (decide (a0 ≥ 32)); .as u68 (yesN 2 u68 (let u67 := (decide (a0 ≤ (zi 126))); .as u67 (yesN 2 u67 (rt Ql (a0 != 34))) (noN 2 u67 (rt Ql false)))) (noN 2 u68 (noN 3 false (rt Ql false))))
theorem U5.ok {a0 : Int} {r : Bool} (h : U5 a0 = some r) : ww 180 [xb a0] [] = some (Ql r) := by
 refine fnP (QdY a0) ?_ h
 exact ⟨rfl, fun q0 => Qj 2 (q0) (⟨rfl, fun q1 => Qj 2 (q1) (rfl), fun q1 => noN_ok 2 (q1) (rfl)⟩), fun q0 => noN_ok 2 (q0) (noN_ok 3 (rfl) (rfl))⟩
noncomputable abbrev QdZ {ρ R : Type} (a0 : Int) (k : Bool → Tr ρ R) : Tr ρ R := .call (ww 180 [xb a0] []) (U5 a0) Ql k
abbrev Qfi := ByteArray → Option Int
structure UC where
 x0 : ByteArray
 x5 : Int
def ER (a : UC) : St := { n := 20, nx := 0, env := [(0, xs a.x0), (1, .fn (.func 180) [] []), (5, xi a.x5)], heap := [] }
def Z5 (a : Int) : Ex × St := (.exit 0, { n := 20, nx := 0, env := [(5, xi a)], heap := [] })
abbrev QbX := UC → Option Int
def ES (C0 : Pj) (a : UC) : Option (UC ⊕ Int) := (bif (decide (a.x5 < ((a.x0.size : Nat) : Int))) then (bif (decide (0 ≤ a.x5 ∧ a.x5 < ((a.x0.size : Nat) : Int))) then ((C0 ((a.x0.data.getD (Int.toNat a.x5) 0).toNat : Int)).bind fun r1 => (bif r1 then (some (.inl (UC.mk a.x0 (w64 (a.x5 + 1))))) else (some (.inr a.x5)))) else none) else (some (.inr a.x5)))
noncomputable def Wm : QbX := loopW (ES U5)
theorem Wm.eq (a : UC) : Wm a = (ES U5 a).bind (Sum.elim Wm some) := Ja _ _
noncomputable abbrev Qh6 {ρ R : Type} (a : UC) (k0 : Int → Tr ρ R) : Tr ρ R := .loop (loopAt pp 72 2) (ER a) (Wm a) Z5 k0
noncomputable def Qh7 (a : UC) : Tr (UC ⊕ Int) XS := (let u69 := (decide (a.x5 < (zz a.x0))); .as u69 (yesN 3 u69 (.as (in1 a.x5 (zz a.x0)) (.yes u69 (QdZ (gb a.x0 a.x5) fun r1 => (.yes u69 (.as r1 (lf ER (UC.mk a.x0 (w64 (a.x5 + 1)))) (rx Z5 a.x5))))) .fail)) (noN 5 u69 (.no false (rx Z5 a.x5))))
theorem Wm.ok {a : UC} {r : Int} (h : Wm a = some r) : lw 0 72 (loopAt pp 72 2) (ER a) = some (Z5 r) := by
 refine lpP h Qh7 fun a => ?_
 exact ⟨rfl, fun q0 => Qj 3 (q0) (⟨rfl, fun q1 => ⟨q0, fun r1 h => ⟨U5.ok h, ⟨q0, ⟨rfl, fun q2 => rfl, fun q2 => rfl⟩⟩⟩⟩, fun q1 => trivial⟩), fun q0 => noN_ok 5 (q0) (⟨rfl, rfl⟩)⟩
def Sj (L0 : QbX) (a0 : ByteArray) : Option Int := ((L0 (UC.mk a0 (0 : Int))).bind (fun (o1 : Int) => (some o1)))
noncomputable def Xu : Qfi := Sj Wm
theorem Xu.eq (a0 : ByteArray) : Xu a0 = Sj Wm a0 := rfl
noncomputable def Qlh (a0 : ByteArray) : Tr Int AH := (Qh6 (UC.mk a0 i0) (fun o1 => (rt Qm o1)))
theorem Xu.ok {a0 : ByteArray} {r : Int} (h : Xu a0 = some r) : ww 72 [xs a0, .fn (.func 180) [] []] [] = some (Qm r) := by
 refine fnP (Qlh a0) ?_ h
 exact fun o1 h => ⟨Wm.ok h, rfl⟩
noncomputable abbrev Qli {ρ R : Type} (a0 : ByteArray) (k : Int → Tr ρ R) : Tr ρ R := .call (ww 72 [xs a0, .fn (.func 180) [] []] []) (Xu a0) Qm k
abbrev Qah := ByteArray → Qh → Option (Bool × Qh)
def GS (C0 : Qfi) (a1 : ByteArray) (h0 : Qh) : Option (Bool × Qh) := (bif (decide (((a1.size : Nat) : Int) < 2)) then (some (false, h0)) else (bif (decide (((a1.size : Nat) : Int) > 62)) then (some (false, h0)) else (bif (decide (0 ≤ (0 : Int) ∧ (0 : Int) < ((a1.size : Nat) : Int))) then (bif (((a1.data.getD (Int.toNat 0) 0).toNat : Int) != 34) then (some (false, h0)) else (bif (decide (0 ≤ (w64 (((a1.size : Nat) : Int) - 1)) ∧ (w64 (((a1.size : Nat) : Int) - 1)) < ((a1.size : Nat) : Int))) then (bif (((a1.data.getD (Int.toNat (w64 (((a1.size : Nat) : Int) - 1))) 0).toNat : Int) != 34) then (some (false, h0)) else (bif (decide (0 ≤ (1 : Int) ∧ (1 : Int) ≤ (w64 (((a1.size : Nat) : Int) - 1)) ∧ (w64 (((a1.size : Nat) : Int) - 1)) ≤ ((a1.size : Nat) : Int))) then ((C0 (a1.extract (Int.toNat 1) (Int.toNat (w64 (((a1.size : Nat) : Int) - 1))))).bind fun r1 => (some ((r1 == (((a1.extract (Int.toNat 1) (Int.toNat (w64 (((a1.size : Nat) : Int) - 1)))).size : Nat) : Int)), (Qh.mk (Qb.mk h0.x.Line h0.x.Label h0.x.Kind h0.x.Op (a1.extract (Int.toNat 1) (Int.toNat (w64 (((a1.size : Nat) : Int) - 1)))) h0.x.Args))))) else none)) else none)) else none)))
noncomputable def VG : Qah := GS Xu
theorem VG.eq (a1 : ByteArray) (h0 : Qh) : VG a1 h0 = GS Xu a1 h0 := rfl
noncomputable def QfQ (a1 : ByteArray) (h0 : Qh) : Tr (Bool × Qh) AH := (let u72 := (decide ((zz a1) < 2)); .as u72 (yesN 3 u72 (yesN 12 true (rt Qu (false, h0)))) (noN 3 u72 (let u71 := (decide ((zz a1) > 62)); .as u71 (yesN 3 u71 (yesN 8 true (rt Qu (false, h0)))) (.no u71 (.as (in1 i0 (zz a1)) (noN 2 u71 (let u70 := ((gb a1 i0) != 34); .as u70 (yesN 6 u70 (.yes true (rt Qu (false, h0)))) (noN 4 u70 (.as (in1 (w64 ((zz a1) - 1)) (zz a1)) (noN 2 u70 (.as ((gb a1 (w64 ((zz a1) - 1))) != 34) (rt Qu (false, h0)) (.as (in2 (zi 1) (w64 ((zz a1) - 1)) (zz a1)) (Qli (cu a1 (zi 1) (w64 ((zz a1) - 1))) fun r1 => (rt Qu ((r1 == (zz (cu a1 (zi 1) (w64 ((zz a1) - 1))))), (Qh.mk (Qb.mk h0.x.Line h0.x.Label h0.x.Kind h0.x.Op (cu a1 (zi 1) (w64 ((zz a1) - 1))) h0.x.Args))))) .fail))) .fail)))) .fail)))))
theorem VG.ok {a1 : ByteArray} {h0 : Qh} {r : (Bool × Qh)} (h : VG a1 h0 = some r) : ww 130 [.ptr 0 0, xs a1] [(0, .box [0, 0, 0, 0, 0, 5] [xi h0.x.Line, xs h0.x.Label, xi h0.x.Kind, xi h0.x.Op, xs h0.x.Text, .arr 1]), (1, .arr true 5 (Qi h0.x.Args))] = some (Qu r) := by
 refine fnP (QfQ a1 h0) ?_ h
 exact ⟨rfl, fun q0 => Qj 3 (q0) (Qj 12 (rfl) (rfl)), fun q0 => noN_ok 3 (q0) (⟨rfl, fun q1 => Qj 3 (q1) (Qj 8 (rfl) (rfl)), fun q1 => ⟨q1, ⟨rfl, fun q2 => noN_ok 2 (q1) (⟨rfl, fun q3 => Qj 6 (q3) (⟨rfl, rfl⟩), fun q3 => noN_ok 4 (q3) (⟨rfl, fun q4 => noN_ok 2 (q3) (⟨rfl, fun q5 => rfl, fun q5 => ⟨rfl, fun q6 => fun r1 h => ⟨Xu.ok h, rfl⟩, fun q6 => trivial⟩⟩), fun q4 => trivial⟩)⟩), fun q2 => trivial⟩⟩⟩)⟩
noncomputable abbrev QfR {ρ R : Type} (a1 : ByteArray) (h0 : Qh) (k : (Bool × Qh) → Tr ρ R) : Tr ρ R := .call (ww 130 [.ptr 0 0, xs a1] [(0, .box [0, 0, 0, 0, 0, 5] [xi h0.x.Line, xs h0.x.Label, xi h0.x.Kind, xi h0.x.Op, xs h0.x.Text, .arr 1]), (1, .arr true 5 (Qi h0.x.Args))]) (VG a1 h0) Qu k
abbrev E5 := ByteArray → ByteArray → Qh → Option (Bool × Qh)
def Zq (C0 : QdM) (C1 : QlV) (C2 : Ei) (C3 : QiB) (C4 : Qfg) (C5 : Qki) (C6 : QgN) (C7 : Qah) (a1 : ByteArray) (a2 : ByteArray) (h0 : Qh) : Option (Bool × Qh) := ((C0 a2).bind fun r1 => ((C1 a1).bind fun r2 => (bif r2.2 then ((C2 r1 (Qh.mk (Qb.mk h0.x.Line h0.x.Label (1 : Int) r2.1 h0.x.Text h0.x.Args))).bind fun r3 => (some (r3.1, r3.2))) else ((C3).bind fun r4 => ((C4 r4 a1).bind fun r5 => (bif (decide (r5 ≥ 0)) then ((C5 (w64 ((1 : Int) + (w64 ((w64 (Int.tdiv r5 (2 : Int))) * (2 : Int))))) (Qh.mk (Qb.mk h0.x.Line h0.x.Label (2 : Int) r5 h0.x.Text h0.x.Args))).bind fun r6 => ((C6 r1 r6.1 r6.2).bind fun r7 => (some (r7.1, r7.2)))) else (bif (eqS a1 Q6) then ((C4 [Q6, Q7, Q8] a1).bind fun r8 => (bif (decide ((((r1.length) : Nat) : Int) ≥ 1)) then (bif (decide ((((r1.length) : Nat) : Int) ≤ 16)) then ((C5 (((r1.length) : Nat) : Int) (Qh.mk (Qb.mk h0.x.Line h0.x.Label (w64 ((3 : Int) + r8)) h0.x.Op h0.x.Text h0.x.Args))).bind fun r9 => ((C6 r1 r9.1 r9.2).bind fun r10 => (some (r10.1, r10.2)))) else (some (false, (Qh.mk (Qb.mk h0.x.Line h0.x.Label (w64 ((3 : Int) + r8)) h0.x.Op h0.x.Text h0.x.Args))))) else (some (false, (Qh.mk (Qb.mk h0.x.Line h0.x.Label (w64 ((3 : Int) + r8)) h0.x.Op h0.x.Text h0.x.Args)))))) else (bif (eqS a1 Q7) then ((C4 [Q6, Q7, Q8] a1).bind fun r11 => (bif (decide ((((r1.length) : Nat) : Int) ≥ 1)) then (bif (decide ((((r1.length) : Nat) : Int) ≤ 16)) then ((C5 (((r1.length) : Nat) : Int) (Qh.mk (Qb.mk h0.x.Line h0.x.Label (w64 ((3 : Int) + r11)) h0.x.Op h0.x.Text h0.x.Args))).bind fun r12 => ((C6 r1 r12.1 r12.2).bind fun r13 => (some (r13.1, r13.2)))) else (some (false, (Qh.mk (Qb.mk h0.x.Line h0.x.Label (w64 ((3 : Int) + r11)) h0.x.Op h0.x.Text h0.x.Args))))) else (some (false, (Qh.mk (Qb.mk h0.x.Line h0.x.Label (w64 ((3 : Int) + r11)) h0.x.Op h0.x.Text h0.x.Args)))))) else (bif (eqS a1 Q8) then ((C4 [Q6, Q7, Q8] a1).bind fun r14 => (bif (decide ((((r1.length) : Nat) : Int) ≥ 1)) then (bif (decide ((((r1.length) : Nat) : Int) ≤ 16)) then ((C5 (((r1.length) : Nat) : Int) (Qh.mk (Qb.mk h0.x.Line h0.x.Label (w64 ((3 : Int) + r14)) h0.x.Op h0.x.Text h0.x.Args))).bind fun r15 => ((C6 r1 r15.1 r15.2).bind fun r16 => (some (r16.1, r16.2)))) else (some (false, (Qh.mk (Qb.mk h0.x.Line h0.x.Label (w64 ((3 : Int) + r14)) h0.x.Op h0.x.Text h0.x.Args))))) else (some (false, (Qh.mk (Qb.mk h0.x.Line h0.x.Label (w64 ((3 : Int) + r14)) h0.x.Op h0.x.Text h0.x.Args)))))) else (bif (eqS a1 J2) then ((C7 a2 (Qh.mk (Qb.mk h0.x.Line h0.x.Label (6 : Int) h0.x.Op h0.x.Text h0.x.Args))).bind fun r17 => (some (r17.1, r17.2))) else (bif (eqS a1 Q0) then ((C4 [Q0, Q1] a1).bind fun r18 => ((C5 (1 : Int) (Qh.mk (Qb.mk h0.x.Line h0.x.Label (w64 ((7 : Int) + r18)) h0.x.Op h0.x.Text h0.x.Args))).bind fun r19 => ((C6 r1 r19.1 r19.2).bind fun r20 => (some (r20.1, r20.2))))) else (bif (eqS a1 Q1) then ((C4 [Q0, Q1] a1).bind fun r21 => ((C5 (1 : Int) (Qh.mk (Qb.mk h0.x.Line h0.x.Label (w64 ((7 : Int) + r21)) h0.x.Op h0.x.Text h0.x.Args))).bind fun r22 => ((C6 r1 r22.1 r22.2).bind fun r23 => (some (r23.1, r23.2))))) else (bif (eqS a1 VB) then ((C6 r1 (Qh.mk (Qb.mk h0.x.Line h0.x.Label (9 : Int) h0.x.Op h0.x.Text h0.x.Args)) [131, 129]).bind fun r24 => (some (r24.1, r24.2))) else (some (false, h0)))))))))))))))
noncomputable def JK : E5 := Zq W4 Yg Ub Yq UX Wr Vi VG
theorem JK.eq (a1 : ByteArray) (a2 : ByteArray) (h0 : Qh) : JK a1 a2 h0 = Zq W4 Yg Ub Yq UX Wr Vi VG a1 a2 h0 := rfl
noncomputable def Qco (a1 : ByteArray) (a2 : ByteArray) (h0 : Qh) : Tr (Bool × Qh) AH := (Qkd a2 fun r1 => (QqU a1 fun r2 => (.as r2.2 (Qa1 r1 (Qh.mk (Qb.mk h0.x.Line h0.x.Label (zi 1) r2.1 h0.x.Text h0.x.Args)) fun r3 => (rt Qu (r3.1, r3.2))) (QnX fun r4 => (Y2 r4 a1 fun r5 => (.as (decide (r5 ≥ 0)) (.yes (decide ((zi 2) ≠ 0)) (GK (w64 ((zi 1) + (w64 ((w64 (Int.tdiv r5 (zi 2))) * (zi 2))))) (Qh.mk (Qb.mk h0.x.Line h0.x.Label (zi 2) r5 h0.x.Text h0.x.Args)) fun r6 => (ZH r1 r6.1 r6.2 fun r7 => (rt Qu (r7.1, r7.2))))) (let u81 := (eqS a1 Q6); .as u81 (.yes u81 (.rows [[xs Q6], [xs Q7], [xs Q8]] (Qg [Q6, Q7, Q8]) (Y2 [Q6, Q7, Q8] a1 fun r8 => (.num ((Qg r1).length) (r1.length) (let u74 := (decide ((((r1.length) : Nat) : Int) ≥ 1)); .as u74 (.yes u74 (.num ((Qg r1).length) (r1.length) (yesN 2 u74 (let u73 := (decide ((((r1.length) : Nat) : Int) ≤ 16)); .as u73 (yesN 4 u73 (.num ((Qg r1).length) (r1.length) (.yes u73 (GK (((r1.length) : Nat) : Int) (Qh.mk (Qb.mk h0.x.Line h0.x.Label (w64 ((zi 3) + r8)) h0.x.Op h0.x.Text h0.x.Args)) fun r9 => (.yes u73 (ZH r1 r9.1 r9.2 fun r10 => (.yes u73 (rt Qu (r10.1, r10.2))))))))) (noN 7 u73 (rt Qu (false, (Qh.mk (Qb.mk h0.x.Line h0.x.Label (w64 ((zi 3) + r8)) h0.x.Op h0.x.Text h0.x.Args))))))))) (noN 3 u74 (noN 8 false (rt Qu (false, (Qh.mk (Qb.mk h0.x.Line h0.x.Label (w64 ((zi 3) + r8)) h0.x.Op h0.x.Text h0.x.Args))))))))))) (let u80 := (eqS a1 Q7); .as u80 (.yes u80 (.rows [[xs Q6], [xs Q7], [xs Q8]] (Qg [Q6, Q7, Q8]) (Y2 [Q6, Q7, Q8] a1 fun r11 => (.num ((Qg r1).length) (r1.length) (let u76 := (decide ((((r1.length) : Nat) : Int) ≥ 1)); .as u76 (.yes u76 (.num ((Qg r1).length) (r1.length) (yesN 2 u76 (let u75 := (decide ((((r1.length) : Nat) : Int) ≤ 16)); .as u75 (yesN 4 u75 (.num ((Qg r1).length) (r1.length) (.yes u75 (GK (((r1.length) : Nat) : Int) (Qh.mk (Qb.mk h0.x.Line h0.x.Label (w64 ((zi 3) + r11)) h0.x.Op h0.x.Text h0.x.Args)) fun r12 => (.yes u75 (ZH r1 r12.1 r12.2 fun r13 => (.yes u75 (rt Qu (r13.1, r13.2))))))))) (noN 7 u75 (rt Qu (false, (Qh.mk (Qb.mk h0.x.Line h0.x.Label (w64 ((zi 3) + r11)) h0.x.Op h0.x.Text h0.x.Args))))))))) (noN 3 u76 (noN 8 false (rt Qu (false, (Qh.mk (Qb.mk h0.x.Line h0.x.Label (w64 ((zi 3) + r11)) h0.x.Op h0.x.Text h0.x.Args))))))))))) (.as (eqS a1 Q8) (.rows [[xs Q6], [xs Q7], [xs Q8]] (Qg [Q6, Q7, Q8]) (Y2 [Q6, Q7, Q8] a1 fun r14 => (.num ((Qg r1).length) (r1.length) (let u78 := (decide ((((r1.length) : Nat) : Int) ≥ 1)); .as u78 (.yes u78 (.num ((Qg r1).length) (r1.length) (yesN 2 u78 (let u77 := (decide ((((r1.length) : Nat) : Int) ≤ 16)); .as u77 (yesN 4 u77 (.num ((Qg r1).length) (r1.length) (.yes u77 (GK (((r1.length) : Nat) : Int) (Qh.mk (Qb.mk h0.x.Line h0.x.Label (w64 ((zi 3) + r14)) h0.x.Op h0.x.Text h0.x.Args)) fun r15 => (.yes u77 (ZH r1 r15.1 r15.2 fun r16 => (.yes u77 (rt Qu (r16.1, r16.2))))))))) (noN 7 u77 (rt Qu (false, (Qh.mk (Qb.mk h0.x.Line h0.x.Label (w64 ((zi 3) + r14)) h0.x.Op h0.x.Text h0.x.Args))))))))) (noN 3 u78 (noN 8 false (rt Qu (false, (Qh.mk (Qb.mk h0.x.Line h0.x.Label (w64 ((zi 3) + r14)) h0.x.Op h0.x.Text h0.x.Args)))))))))) (.as (eqS a1 J2) (QfR a2 (Qh.mk (Qb.mk h0.x.Line h0.x.Label (zi 6) h0.x.Op h0.x.Text h0.x.Args)) fun r17 => (rt Qu (r17.1, r17.2))) (let u79 := (eqS a1 Q0); .as u79 (.yes u79 (.rows [[xs Q0], [xs Q1]] (Qg [Q0, Q1]) (Y2 [Q0, Q1] a1 fun r18 => (GK (zi 1) (Qh.mk (Qb.mk h0.x.Line h0.x.Label (w64 ((zi 7) + r18)) h0.x.Op h0.x.Text h0.x.Args)) fun r19 => (ZH r1 r19.1 r19.2 fun r20 => (rt Qu (r20.1, r20.2))))))) (.as (eqS a1 Q1) (.rows [[xs Q0], [xs Q1]] (Qg [Q0, Q1]) (Y2 [Q0, Q1] a1 fun r21 => (GK (zi 1) (Qh.mk (Qb.mk h0.x.Line h0.x.Label (w64 ((zi 7) + r21)) h0.x.Op h0.x.Text h0.x.Args)) fun r22 => (ZH r1 r22.1 r22.2 fun r23 => (rt Qu (r23.1, r23.2)))))) (.as (eqS a1 VB) (.rows [[.fn (.func 131) [] []], [.fn (.func 129) [] []]] (Ud [131, 129]) (ZH r1 (Qh.mk (Qb.mk h0.x.Line h0.x.Label (zi 9) h0.x.Op h0.x.Text h0.x.Args)) [131, 129] fun r24 => (rt Qu (r24.1, r24.2)))) (rt Qu (false, h0)))))))))))))))
theorem JK.ok {a1 : ByteArray} {a2 : ByteArray} {h0 : Qh} {r : (Bool × Qh)} (h : JK a1 a2 h0 = some r) : ww 76 [.ptr 0 0, xs a1, xs a2] [(0, .box [0, 0, 0, 0, 0, 5] [xi h0.x.Line, xs h0.x.Label, xi h0.x.Kind, xi h0.x.Op, xs h0.x.Text, .arr 1]), (1, .arr true 5 (Qi h0.x.Args))] = some (Qu r) := by
 refine fnP (Qco a1 a2 h0) ?_ h
 exact fun r1 h => ⟨W4.ok h, fun r2 h => ⟨Yg.ok h, ⟨rfl, fun q0 => fun r3 h => ⟨Ub.ok h, rfl⟩, fun q0 => fun r4 h => ⟨Yq.ok h, fun r5 h => ⟨UX.ok h, ⟨rfl, fun q1 => ⟨rfl, fun r6 h => ⟨Wr.ok h, fun r7 h => ⟨Vi.ok h, rfl⟩⟩⟩, fun q1 => ⟨rfl, fun q2 => ⟨q2, ⟨(QP [Q6, Q7, Q8]), fun r8 h => ⟨UX.ok h, ⟨(Qo _), ⟨rfl, fun q3 => ⟨q3, ⟨(Qo _), Qj 2 (q3) (⟨rfl, fun q4 => Qj 4 (q4) (⟨(Qo _), ⟨q4, fun r9 h => ⟨Wr.ok h, ⟨q4, fun r10 h => ⟨Vi.ok h, ⟨q4, rfl⟩⟩⟩⟩⟩⟩), fun q4 => noN_ok 7 (q4) (rfl)⟩)⟩⟩, fun q3 => noN_ok 3 (q3) (noN_ok 8 (rfl) (rfl))⟩⟩⟩⟩⟩, fun q2 => ⟨rfl, fun q3 => ⟨q3, ⟨(QP [Q6, Q7, Q8]), fun r11 h => ⟨UX.ok h, ⟨(Qo _), ⟨rfl, fun q4 => ⟨q4, ⟨(Qo _), Qj 2 (q4) (⟨rfl, fun q5 => Qj 4 (q5) (⟨(Qo _), ⟨q5, fun r12 h => ⟨Wr.ok h, ⟨q5, fun r13 h => ⟨Vi.ok h, ⟨q5, rfl⟩⟩⟩⟩⟩⟩), fun q5 => noN_ok 7 (q5) (rfl)⟩)⟩⟩, fun q4 => noN_ok 3 (q4) (noN_ok 8 (rfl) (rfl))⟩⟩⟩⟩⟩, fun q3 => ⟨rfl, fun q4 => ⟨(QP [Q6, Q7, Q8]), fun r14 h => ⟨UX.ok h, ⟨(Qo _), ⟨rfl, fun q5 => ⟨q5, ⟨(Qo _), Qj 2 (q5) (⟨rfl, fun q6 => Qj 4 (q6) (⟨(Qo _), ⟨q6, fun r15 h => ⟨Wr.ok h, ⟨q6, fun r16 h => ⟨Vi.ok h, ⟨q6, rfl⟩⟩⟩⟩⟩⟩), fun q6 => noN_ok 7 (q6) (rfl)⟩)⟩⟩, fun q5 => noN_ok 3 (q5) (noN_ok 8 (rfl) (rfl))⟩⟩⟩⟩, fun q4 => ⟨rfl, fun q5 => fun r17 h => ⟨VG.ok h, rfl⟩, fun q5 => ⟨rfl, fun q6 => ⟨q6, ⟨(QP [Q0, Q1]), fun r18 h => ⟨UX.ok h, fun r19 h => ⟨Wr.ok h, fun r20 h => ⟨Vi.ok h, rfl⟩⟩⟩⟩⟩, fun q6 => ⟨rfl, fun q7 => ⟨(QP [Q0, Q1]), fun r21 h => ⟨UX.ok h, fun r22 h => ⟨Wr.ok h, fun r23 h => ⟨Vi.ok h, rfl⟩⟩⟩⟩, fun q7 => ⟨rfl, fun q8 => ⟨(ZB [131, 129]), fun r24 h => ⟨Vi.ok h, rfl⟩⟩, fun q8 => rfl⟩⟩⟩⟩⟩⟩⟩⟩⟩⟩⟩⟩⟩
noncomputable abbrev Zr {ρ R : Type} (a1 : ByteArray) (a2 : ByteArray) (h0 : Qh) (k : (Bool × Qh) → Tr ρ R) : Tr ρ R := .call (ww 76 [.ptr 0 0, xs a1, xs a2] [(0, .box [0, 0, 0, 0, 0, 5] [xi h0.x.Line, xs h0.x.Label, xi h0.x.Kind, xi h0.x.Op, xs h0.x.Text, .arr 1]), (1, .arr true 5 (Qi h0.x.Args))]) (JK a1 a2 h0) Qu k
def Qd0 (r : (List Qc)) : AV × Heap := (.sl (Qi r), [])
abbrev QmL := (List Qc) → Option (List Qc)
noncomputable def Xv (a0 : (List Qc)) : Option (List Qc) := cloneT 64 a0
noncomputable abbrev Sk {ρ R : Type} (a0 : (List Qc)) (k : (List Qc) → Tr ρ R) : Tr ρ R := .call (ww 77 [.sl (Qi a0)] []) (Xv a0) Qd0 k
theorem Xv.ok {a0 : (List Qc)} {r : (List Qc)} (h : Xv a0 = some r) : ww 77 [.sl (Qi a0)] [] = some (Qd0 r) := (GJ rfl _ _).trans (QlR Xi (fun _ => rfl) (fun _ => rfl) (JE _) (JE _) h)
def QA (r : (Qb × Bool)) : AV × Heap := (.tup [.agg (U1 r.1), xo r.2], [])
abbrev QlY := ByteArray → Option (Qb × Bool)
def QeD (C0 : Qgu) (C1 : Qkb) (C2 : QcU) (C3 : Qes) (C4 : Qau) (C5 : Qfa) (C6 : E5) (C7 : QmL) (a0 : ByteArray) : Option (Qb × Bool) := ((C0 a0 (10 : Int)).bind fun r1 => (bif (decide (r1 ≥ 0)) then (some ((Qb.mk (0 : Int) s_ (0 : Int) (0 : Int) s_ ([] : List Qc)), false)) else ((C1 a0).bind fun r2 => ((C2 r2).bind fun r3 => (bif (decide (r3 < ((r2.size : Nat) : Int))) then (bif (decide (0 ≤ r3 ∧ r3 < ((r2.size : Nat) : Int))) then (bif (((r2.data.getD (Int.toNat r3) 0).toNat : Int) == 58) then (bif (decide (0 ≤ (0 : Int) ∧ (0 : Int) ≤ r3 ∧ r3 ≤ ((r2.size : Nat) : Int))) then ((C3 (r2.extract (Int.toNat 0) (Int.toNat r3))).bind fun r4 => (bif (!r4) then (some ((Qb.mk (0 : Int) s_ (0 : Int) (0 : Int) s_ ([] : List Qc)), false)) else (bif (decide (0 ≤ (w64 (r3 + 1)) ∧ (w64 (r3 + 1)) ≤ ((r2.size : Nat) : Int) ∧ ((r2.size : Nat) : Int) ≤ ((r2.size : Nat) : Int))) then ((C4 (r2.extract (Int.toNat (w64 (r3 + 1))) (Int.toNat ((r2.size : Nat) : Int))) Ys).bind fun r5 => (bif (eqS r5 s_) then (bif (eqS (r2.extract (Int.toNat 0) (Int.toNat r3)) s_) then (some ((Qb.mk (0 : Int) s_ (0 : Int) (0 : Int) s_ ([] : List Qc)), true)) else (some ((Qb.mk (1 : Int) (r2.extract (Int.toNat 0) (Int.toNat r3)) (0 : Int) (0 : Int) s_ ([] : List Qc)), true))) else ((C5 r5).bind fun r6 => (bif (decide (0 ≤ (0 : Int) ∧ (0 : Int) ≤ r6 ∧ r6 ≤ ((r5.size : Nat) : Int))) then (bif (decide (0 ≤ r6 ∧ r6 ≤ ((r5.size : Nat) : Int) ∧ ((r5.size : Nat) : Int) ≤ ((r5.size : Nat) : Int))) then ((C4 (r5.extract (Int.toNat r6) (Int.toNat ((r5.size : Nat) : Int))) Ys).bind fun r7 => ((C6 (r5.extract (Int.toNat 0) (Int.toNat r6)) r7 (Qh.mk (Qb.mk (1 : Int) (r2.extract (Int.toNat 0) (Int.toNat r3)) (0 : Int) (0 : Int) s_ ([] : List Qc)))).bind fun r8 => (bif (!r8.1) then (some ((Qb.mk (0 : Int) s_ (0 : Int) (0 : Int) s_ ([] : List Qc)), false)) else ((C7 r8.2.x.Args).bind fun r9 => (some ((Qb.mk r8.2.x.Line r8.2.x.Label r8.2.x.Kind r8.2.x.Op r8.2.x.Text r9), true)))))) else none) else none)))) else none))) else none) else (bif (eqS r2 s_) then (some ((Qb.mk (0 : Int) s_ (0 : Int) (0 : Int) s_ ([] : List Qc)), true)) else ((C5 r2).bind fun r10 => (bif (decide (0 ≤ (0 : Int) ∧ (0 : Int) ≤ r10 ∧ r10 ≤ ((r2.size : Nat) : Int))) then (bif (decide (0 ≤ r10 ∧ r10 ≤ ((r2.size : Nat) : Int) ∧ ((r2.size : Nat) : Int) ≤ ((r2.size : Nat) : Int))) then ((C4 (r2.extract (Int.toNat r10) (Int.toNat ((r2.size : Nat) : Int))) Ys).bind fun r11 => ((C6 (r2.extract (Int.toNat 0) (Int.toNat r10)) r11 (Qh.mk (Qb.mk (1 : Int) s_ (0 : Int) (0 : Int) s_ ([] : List Qc)))).bind fun r12 => (bif (!r12.1) then (some ((Qb.mk (0 : Int) s_ (0 : Int) (0 : Int) s_ ([] : List Qc)), false)) else ((C7 r12.2.x.Args).bind fun r13 => (some ((Qb.mk r12.2.x.Line r12.2.x.Label r12.2.x.Kind r12.2.x.Op r12.2.x.Text r13), true)))))) else none) else none)))) else none) else (bif (eqS r2 s_) then (some ((Qb.mk (0 : Int) s_ (0 : Int) (0 : Int) s_ ([] : List Qc)), true)) else ((C5 r2).bind fun r14 => (bif (decide (0 ≤ (0 : Int) ∧ (0 : Int) ≤ r14 ∧ r14 ≤ ((r2.size : Nat) : Int))) then (bif (decide (0 ≤ r14 ∧ r14 ≤ ((r2.size : Nat) : Int) ∧ ((r2.size : Nat) : Int) ≤ ((r2.size : Nat) : Int))) then ((C4 (r2.extract (Int.toNat r14) (Int.toNat ((r2.size : Nat) : Int))) Ys).bind fun r15 => ((C6 (r2.extract (Int.toNat 0) (Int.toNat r14)) r15 (Qh.mk (Qb.mk (1 : Int) s_ (0 : Int) (0 : Int) s_ ([] : List Qc)))).bind fun r16 => (bif (!r16.1) then (some ((Qb.mk (0 : Int) s_ (0 : Int) (0 : Int) s_ ([] : List Qc)), false)) else ((C7 r16.2.x.Args).bind fun r17 => (some ((Qb.mk r16.2.x.Line r16.2.x.Label r16.2.x.Kind r16.2.x.Op r16.2.x.Text r17), true)))))) else none) else none))))))))
noncomputable def ZV : QlY := QeD Xe YR Xb XG UI VQ JK Xv
theorem ZV.eq (a0 : ByteArray) : ZV a0 = QeD Xe YR Xb XG UI VQ JK Xv a0 := rfl
noncomputable def QqY (a0 : ByteArray) : Tr (Qb × Bool) AH := (QfF a0 (zi 10) fun r1 => (.as (decide (r1 ≥ 0)) (rt QA ((Qb.mk i0 s_ i0 i0 s_ ([] : List Qc)), false)) (Qpf a0 fun r2 => (Qgq r2 fun r3 => (let u83 := (decide (r3 < (zz r2))); .as u83 (yesN 2 u83 (.as (in1 r3 (zz r2)) (yesN 2 u83 (.as ((gb r2 r3) == 58) (let u82 := (in2 i0 r3 (zz r2)); .as u82 (Qip (cu r2 i0 r3) fun r4 => (.as (!r4) (rt QA ((Qb.mk i0 s_ i0 i0 s_ ([] : List Qc)), false)) (.yes u82 (.as (in2 (w64 (r3 + 1)) (zz r2) (zz r2)) (Yf (cu r2 (w64 (r3 + 1)) (zz r2)) Ys fun r5 => (.as (eqS r5 s_) (.as (eqS (cu r2 i0 r3) s_) (rt QA ((Qb.mk i0 s_ i0 i0 s_ ([] : List Qc)), true)) (rt QA ((Qb.mk (zi 1) (cu r2 i0 r3) i0 i0 s_ ([] : List Qc)), true))) (P7 r5 fun r6 => (.as (in2 i0 r6 (zz r5)) (.as (in2 r6 (zz r5) (zz r5)) (Yf (cu r5 r6 (zz r5)) Ys fun r7 => (Zr (cu r5 i0 r6) r7 (Qh.mk (Qb.mk (zi 1) (cu r2 i0 r3) i0 i0 s_ ([] : List Qc))) fun r8 => (.as (!r8.1) (rt QA ((Qb.mk i0 s_ i0 i0 s_ ([] : List Qc)), false)) (Sk r8.2.x.Args fun r9 => (rt QA ((Qb.mk r8.2.x.Line r8.2.x.Label r8.2.x.Kind r8.2.x.Op r8.2.x.Text r9), true)))))) .fail) .fail)))) .fail)))) .fail) (.as (eqS r2 s_) (.yes true (rt QA ((Qb.mk i0 s_ i0 i0 s_ ([] : List Qc)), true))) (P7 r2 fun r10 => (.as (in2 i0 r10 (zz r2)) (.as (in2 r10 (zz r2) (zz r2)) (Yf (cu r2 r10 (zz r2)) Ys fun r11 => (Zr (cu r2 i0 r10) r11 (Qh.mk (Qb.mk (zi 1) s_ i0 i0 s_ ([] : List Qc))) fun r12 => (.as (!r12.1) (rt QA ((Qb.mk i0 s_ i0 i0 s_ ([] : List Qc)), false)) (Sk r12.2.x.Args fun r13 => (rt QA ((Qb.mk r12.2.x.Line r12.2.x.Label r12.2.x.Kind r12.2.x.Op r12.2.x.Text r13), true)))))) .fail) .fail))))) .fail)) (noN 4 u83 (.no false (.as (eqS r2 s_) (.yes true (rt QA ((Qb.mk i0 s_ i0 i0 s_ ([] : List Qc)), true))) (P7 r2 fun r14 => (.as (in2 i0 r14 (zz r2)) (.as (in2 r14 (zz r2) (zz r2)) (Yf (cu r2 r14 (zz r2)) Ys fun r15 => (Zr (cu r2 i0 r14) r15 (Qh.mk (Qb.mk (zi 1) s_ i0 i0 s_ ([] : List Qc))) fun r16 => (.as (!r16.1) (rt QA ((Qb.mk i0 s_ i0 i0 s_ ([] : List Qc)), false)) (Sk r16.2.x.Args fun r17 => (rt QA ((Qb.mk r16.2.x.Line r16.2.x.Label r16.2.x.Kind r16.2.x.Op r16.2.x.Text r17), true)))))) .fail) .fail))))))))))
theorem ZV.ok {a0 : ByteArray} {r : (Qb × Bool)} (h : ZV a0 = some r) : ww 27 [xs a0] [] = some (QA r) := by
 refine fnP (QqY a0) ?_ h
 exact fun r1 h => ⟨Xe.ok h, ⟨rfl, fun q0 => rfl, fun q0 => fun r2 h => ⟨YR.ok h, fun r3 h => ⟨Xb.ok h, ⟨rfl, fun q1 => Qj 2 (q1) (⟨rfl, fun q2 => Qj 2 (q1) (⟨rfl, fun q3 => ⟨rfl, fun q4 => fun r4 h => ⟨XG.ok h, ⟨rfl, fun q5 => rfl, fun q5 => ⟨q4, ⟨rfl, fun q6 => fun r5 h => ⟨UI.ok h, ⟨rfl, fun q7 => ⟨rfl, fun q8 => rfl, fun q8 => rfl⟩, fun q7 => fun r6 h => ⟨VQ.ok h, ⟨rfl, fun q8 => ⟨rfl, fun q9 => fun r7 h => ⟨UI.ok h, fun r8 h => ⟨JK.ok h, ⟨rfl, fun q10 => rfl, fun q10 => fun r9 h => ⟨Xv.ok h, rfl⟩⟩⟩⟩, fun q9 => trivial⟩, fun q8 => trivial⟩⟩⟩⟩, fun q6 => trivial⟩⟩⟩⟩, fun q4 => trivial⟩, fun q3 => ⟨rfl, fun q4 => ⟨rfl, rfl⟩, fun q4 => fun r10 h => ⟨VQ.ok h, ⟨rfl, fun q5 => ⟨rfl, fun q6 => fun r11 h => ⟨UI.ok h, fun r12 h => ⟨JK.ok h, ⟨rfl, fun q7 => rfl, fun q7 => fun r13 h => ⟨Xv.ok h, rfl⟩⟩⟩⟩, fun q6 => trivial⟩, fun q5 => trivial⟩⟩⟩⟩), fun q2 => trivial⟩), fun q1 => noN_ok 4 (q1) (⟨rfl, ⟨rfl, fun q2 => ⟨rfl, rfl⟩, fun q2 => fun r14 h => ⟨VQ.ok h, ⟨rfl, fun q3 => ⟨rfl, fun q4 => fun r15 h => ⟨UI.ok h, fun r16 h => ⟨JK.ok h, ⟨rfl, fun q5 => rfl, fun q5 => fun r17 h => ⟨Xv.ok h, rfl⟩⟩⟩⟩, fun q4 => trivial⟩, fun q3 => trivial⟩⟩⟩⟩)⟩⟩⟩⟩⟩
noncomputable abbrev QqZ {ρ R : Type} (a0 : ByteArray) (k : (Qb × Bool) → Tr ρ R) : Tr ρ R := .call (ww 27 [xs a0] []) (ZV a0) QA k
abbrev XT := (List QC) → Int → Option Int
abbrev Qjg (c : XT) : Prop := ∀ (a0 : (List QC)) (a1 : Int) (r : Int), c a0 a1 = some r → ww 105 [.sl (U9 a0), xi a1] [] = some (Qm r)
noncomputable abbrev QlZ {ρ R : Type} (c : XT) (a0 : (List QC)) (a1 : Int) (k : Int → Tr ρ R) : Tr ρ R := .call (ww 105 [.sl (U9 a0), xi a1] []) (c a0 a1) Qm k
structure Ve where
 x0 : (List QC)
 x1 : Int
 x5 : Int
 x6 : Int
def QbY (a : Ve) : St := { n := 31, nx := 0, env := [(0, .sl (U9 a.x0)), (1, xi a.x1), (5, xi a.x5), (6, xi a.x6)], heap := [] }
def Pk (a : Int) : Ex × St := (.exit 0, { n := 31, nx := 0, env := [(5, xi a)], heap := [] })
abbrev YS := Ve → Option Int
def Zd (C0 : XT) (a : Ve) : Option (Ve ⊕ Int) := (bif (decide (a.x6 < (((a.x0.length) : Nat) : Int))) then (bif (decide (a.x5 ≤ 16)) then (bif (decide (0 ≤ a.x6)) then ((a.x0[(Int.toNat a.x6)]?).bind fun e1 => ((C0 e1.L (w64 (a.x1 + 1))).bind fun r2 => (some (.inl (Ve.mk a.x0 a.x1 (w64 ((w64 (a.x5 + 1)) + r2)) (w64 (a.x6 + 1))))))) else none) else (some (.inr a.x5))) else (some (.inr a.x5)))
theorem QgQ {C0 : Nat → XT} {D0 : XT} (H0 : Cv2 C0 D0) (a : Ve) : Cv (fun k => Zd (C0 k) a) (Zd D0 a) := by
 unfold Zd
 exact .cond (.cond (.cond (.bind (.const _) fun e1 => .bind (H0 _ _) fun r2 => by exact .const _) cst) cst) cst
noncomputable abbrev QnY {ρ R : Type} (l : YS) (a : Ve) (k0 : Int → Tr ρ R) : Tr ρ R := .loop (loopAt pp 105 5) (QbY a) (l a) Pk k0
noncomputable def QnZ (C0 : XT) (a : Ve) : Tr (Ve ⊕ Int) XS := (.num ((U9 a.x0).length) (a.x0.length) (let u84 := (decide (a.x6 < (((a.x0.length) : Nat) : Int))); .as u84 (yesN 2 u84 (.as (decide (a.x5 ≤ 16)) (.as (decide (0 ≤ a.x6)) (.row ((U9 a.x0)[(Int.toNat a.x6)]?) (a.x0[(Int.toNat a.x6)]?) Ye fun (e1 : QC) => (QlZ C0 e1.L (w64 (a.x1 + 1)) fun r2 => (lf QbY (Ve.mk a.x0 a.x1 (w64 ((w64 (a.x5 + 1)) + r2)) (w64 (a.x6 + 1)))))) .fail) (rx Pk a.x5))) (noN 2 u84 (.no false (rx Pk a.x5)))))
noncomputable def Vj.s (k : Nat) (C0 : XT) : YS := iter (Zd C0) k
theorem QmM (k : Nat) {C0 : XT} (i_w3_size : Qjg C0) {a : Ve} {r : Int} (h : Vj.s k C0 a = some r) : lw 0 105 (loopAt pp 105 5) (QbY a) = some (Pk r) := by
 refine lpP (itP h) (QnZ C0) fun a => ?_
 exact ⟨(G3 _), ⟨rfl, fun q0 => Qj 2 (q0) (⟨rfl, fun q1 => ⟨rfl, fun q2 => fun e1 h => ⟨Qbk h, fun r2 h => ⟨i_w3_size _ _ _ h, rfl⟩⟩, fun q2 => trivial⟩, fun q1 => rfl⟩), fun q0 => noN_ok 2 (q0) (⟨rfl, rfl⟩)⟩⟩
theorem Vj.m {j k : Nat} (hj : j ≤ k) (C0 : XT) (D0 : XT) (H0 : Le2 C0 D0) (a : Ve) : Le (Vj.s j C0 a) (Vj.s k D0 a) := Le.iter (fun a => (QgQ (tw2 H0) a).1 0) hj a
noncomputable def Vj.w (C0 : XT) : YS := loopW (Zd C0)
theorem Vj.cv (C0 : Nat → XT) (D0 : XT) (H0 : Cv2 C0 D0) (a : Ve) : Cv (fun k => Vj.s k (C0 k) a) (Vj.w D0 a) := Cv.iter (fun a => QgQ H0 a) a
def Ej (L0 : YS) (a0 : (List QC)) (a1 : Int) : Option Int := (bif (decide (a1 > 7)) then (some (1000 : Int)) else ((L0 (Ve.mk a0 a1 (0 : Int) (0 : Int))).bind (fun (o1 : Int) => (some o1))))
theorem Ql0 {L0 : Nat → YS} {M0 : YS} (N0 : Cv1 L0 M0) (a0 : (List QC)) (a1 : Int) : Cv (fun k => Ej (L0 k) a0 a1) (Ej M0 a0 a1) := by
 unfold Ej
 exact .cond cst (.bind (N0 _) (fun o1 => by exact .const _))
noncomputable def QrV (L0 : YS) (a0 : (List QC)) (a1 : Int) : Tr Int AH := (.as (decide (a1 > 7)) (rt Qm (zi 1000)) (QnY L0 (Ve.mk a0 a1 i0 i0) (fun o1 => (rt Qm o1))))
noncomputable def JX.s : Nat → (List QC) → Int → Option Int
 | 0, _, _ => none
 | k + 1, a0, a1 => Ej (Vj.s k (fun a0 a1 => JX.s k a0 a1)) a0 a1
termination_by structural k => k
theorem QiC : ∀ (k : Nat), (Qjg (JX.s k))
 | 0 => fun _ _ _ h => (nomatch h)
 | k + 1 => by
  have i_w3_size : Qjg (JX.s k) := QiC k
  exact fun a0 a1 r h => by
    refine fnP (QrV (Vj.s k (JX.s k)) a0 a1) ?_ h
    exact ⟨rfl, fun q0 => rfl, fun q0 => fun o1 h => ⟨QmM k i_w3_size h, rfl⟩⟩
theorem QgR : ∀ (k : Nat), (∀ (a0 : (List QC)) (a1 : Int), Le (JX.s k a0 a1) (JX.s (k + 1) a0 a1))
 | 0 => fun _ _ _ h => (nomatch h)
 | k + 1 => by
  have i_w3_size : ∀ (a0 : (List QC)) (a1 : Int), Le (JX.s k a0 a1) (JX.s (k + 1) a0 a1) := QgR k
  exact fun a0 a1 => (Ql0 (tw1 (Vj.m (Nat.le_succ k) (JX.s k) (JX.s (k + 1)) i_w3_size)) a0 a1).1 0
noncomputable def JX (a0 : (List QC)) (a1 : Int) : Option Int := lim fun k => JX.s k a0 a1
theorem JX.cv (a0 : (List QC)) (a1 : Int) : Cv (fun k => JX.s k a0 a1) (JX a0 a1) := .lim fun k => (QgR k) a0 a1
theorem JX.ok {a0 : (List QC)} {a1 : Int} {r : Int} (h : JX a0 a1 = some r) : ww 105 [.sl (U9 a0), xi a1] [] = some (Qm r) := let ⟨k, e⟩ := ((JX.cv a0 a1).2 r).1 h; (QiC k) a0 a1 _ e
noncomputable def Vj : YS := Vj.w JX
theorem Vj.eq (a : Ve) : Vj a = (Zd JX a).bind (Sum.elim Vj some) := Ja _ _
theorem JX.eq (a0 : (List QC)) (a1 : Int) : JX a0 a1 = Ej Vj a0 a1 := Cv.uniq (JX.cv a0 a1).shift (Ql0 (Vj.cv (fun k => JX.s k) JX JX.cv) a0 a1)
noncomputable abbrev QrW {ρ R : Type} (a0 : (List QC)) (a1 : Int) (k : Int → Tr ρ R) : Tr ρ R := QlZ JX a0 a1 k
abbrev QpU := (List QC) → Option Bool
def Qjh (C0 : XT) (a0 : (List QC)) : Option Bool := ((C0 a0 (0 : Int)).bind fun r1 => (some (decide (r1 ≤ 16))))
noncomputable def E6 : QpU := Qjh JX
theorem E6.eq (a0 : (List QC)) : E6 a0 = Qjh JX a0 := rfl
noncomputable def Qs2 (a0 : (List QC)) : Tr Bool AH := (QrW a0 i0 fun r1 => (rt Ql (decide (r1 ≤ 16))))
theorem E6.ok {a0 : (List QC)} {r : Bool} (h : E6 a0 = some r) : ww 61 [.sl (U9 a0)] [] = some (Ql r) := by
 refine fnP (Qs2 a0) ?_ h
 exact fun r1 h => ⟨JX.ok h, rfl⟩
noncomputable abbrev Qs3 {ρ R : Type} (a0 : (List QC)) (k : Bool → Tr ρ R) : Tr ρ R := .call (ww 61 [.sl (U9 a0)] []) (E6 a0) Ql k
abbrev QpV := (List QB) → Option Bool
structure WK where
 x0 : (List QB)
 x3 : Int
def Qda (a : WK) : St := { n := 26, nx := 0, env := [(0, .sl (WX a.x0)), (3, xi a.x3)], heap := [] }
def QgS (a : Bool) : Ex × St := (.ret, { n := 26, nx := 0, env := [(2, xo a)], heap := [] })
def QgT (a : Unit) : Ex × St := (.exit 0, { n := 26, nx := 0, env := [], heap := [] })
def SG (a : (Bool ⊕ Unit)) : Ex × St := Sum.elim QgS QgT a
abbrev Qkj := WK → Option (Bool ⊕ Unit)
def SH (C0 : QpU) (a : WK) : Option (WK ⊕ (Bool ⊕ Unit)) := (bif (decide (a.x3 < (((a.x0.length) : Nat) : Int))) then (bif (decide (0 ≤ a.x3)) then ((a.x0[(Int.toNat a.x3)]?).bind fun e1 => ((C0 e1.E).bind fun r2 => (bif (!r2) then (some (.inr (.inl false))) else ((a.x0[(Int.toNat a.x3)]?).bind fun e3 => (bif (decide ((((e3.Ns.length) : Nat) : Int) > 60)) then (some (.inr (.inl false))) else (some (.inl (WK.mk a.x0 (w64 (a.x3 + 1)))))))))) else none) else (some (.inr (.inr ()))))
noncomputable def Xl : Qkj := loopW (SH E6)
theorem Xl.eq (a : WK) : Xl a = (SH E6 a).bind (Sum.elim Xl some) := Ja _ _
noncomputable abbrev Qpo {ρ R : Type} (a : WK) (k0 : Bool → Tr ρ R) (k1 : Unit → Tr ρ R) : Tr ρ R := .loop2 (loopAt pp 24 2) (Qda a) (Xl a) QgS QgT k0 k1
noncomputable def Qpp (a : WK) : Tr (WK ⊕ (Bool ⊕ Unit)) XS := (.num ((WX a.x0).length) (a.x0.length) (.as (decide (a.x3 < (((a.x0.length) : Nat) : Int))) (let u85 := (decide (0 ≤ a.x3)); .as u85 (.row ((WX a.x0)[(Int.toNat a.x3)]?) (a.x0[(Int.toNat a.x3)]?) V9 fun (e1 : QB) => (Qs3 e1.E fun r2 => (.as (!r2) (yesN 7 (!r2) (.yes true (rx SG (.inl false)))) (noN 2 (!r2) (.yes u85 (.row ((WX a.x0)[(Int.toNat a.x3)]?) (a.x0[(Int.toNat a.x3)]?) V9 fun (e3 : QB) => (noN 3 (!r2) (.num ((Qy e3.Ns).length) (e3.Ns.length) (noN 2 (!r2) (.as (decide ((((e3.Ns.length) : Nat) : Int) > 60)) (rx SG (.inl false)) (lf Qda (WK.mk a.x0 (w64 (a.x3 + 1)))))))))))))) .fail) (rx SG (.inr ()))))
theorem Xl.ok {a : WK} {r : (Bool ⊕ Unit)} (h : Xl a = some r) : lw 0 24 (loopAt pp 24 2) (Qda a) = some (SG r) := by
 refine lpP h Qpp fun a => ?_
 exact ⟨(Qgk _), ⟨rfl, fun q0 => ⟨rfl, fun q1 => fun e1 h => ⟨FP h, fun r2 h => ⟨E6.ok h, ⟨rfl, fun q2 => Qj 7 (q2) (⟨rfl, rfl⟩), fun q2 => noN_ok 2 (q2) (⟨q1, fun e3 h => ⟨FP h, noN_ok 3 (q2) (⟨(JU _), noN_ok 2 (q2) (⟨rfl, fun q3 => rfl, fun q3 => rfl⟩)⟩)⟩⟩)⟩⟩⟩, fun q1 => trivial⟩, fun q0 => rfl⟩⟩
def Qji (L0 : Qkj) (a0 : (List QB)) : Option Bool := ((L0 (WK.mk a0 (0 : Int))).bind fun x => Sum.elim (fun (o1 : Bool) => (some o1)) (fun (o2 : Unit) => (some true)) x)
noncomputable def E7 : QpV := Qji Xl
theorem E7.eq (a0 : (List QB)) : E7 a0 = Qji Xl a0 := rfl
noncomputable def Qs4 (a0 : (List QB)) : Tr Bool AH := (Qpo (WK.mk a0 i0) (fun o1 => (rt Ql o1)) (fun o2 => (rt Ql true)))
theorem E7.ok {a0 : (List QB)} {r : Bool} (h : E7 a0 = some r) : ww 24 [.sl (WX a0)] [] = some (Ql r) := by
 refine fnP (Qs4 a0) ?_ h
 exact ⟨fun o1 h => ⟨Xl.ok (r := (.inl _)) h, rfl⟩, fun o2 h => ⟨Xl.ok (r := (.inr _)) h, rfl⟩⟩
noncomputable abbrev Qs5 {ρ R : Type} (a0 : (List QB)) (k : Bool → Tr ρ R) : Tr ρ R := .call (ww 24 [.sl (WX a0)] []) (E7 a0) Ql k
def QcA (r : (QL × Int × Bool)) : AV × Heap := (.tup [.agg (Qer r.1), xi r.2.1, xo r.2.2], [])
abbrev QeE := Int → ByteArray → Option (QL × Int × Bool)
structure QH where
 x0 : Int
 x1 : ByteArray
 x7 : Int
 x8 : Int
 x10 : Int
 x11 : Int
 h0 : QL
 h1_0 : ByteArray
 h1_1 : ByteArray
 h1_2 : ByteArray
structure QU where
 x5 : Int
 x6 : Bool
 h0 : QL
def Vz (a : QH) : St := { n := 56, nx := 2, env := [(0, xi a.x0), (1, xs a.x1), (4, .ptr 0 0), (7, xi a.x7), (8, xi a.x8), (9, .ptr 1 0), (10, xi a.x10), (11, xi a.x11)], heap := [(0, .box [] (Qer a.h0)), (1, .box [] [xs a.h1_0, xs a.h1_1, xs a.h1_2])] }
def Qfj (a : QU) : Ex × St := (.ret, { n := 56, nx := 1, env := [(4, .ptr 0 0), (5, xi a.x5), (6, xo a.x6)], heap := [(0, .box [] (Qer a.h0))] })
def Qfk (a : QL) : Ex × St := (.exit 0, { n := 56, nx := 1, env := [(4, .ptr 0 0)], heap := [(0, .box [] (Qer a))] })
def VR (a : (QU ⊕ QL)) : Ex × St := Sum.elim Qfj Qfk a
abbrev QiD := QH → Option (QU ⊕ QL)
def Ek (a : QH) : Option (QH ⊕ (QU ⊕ QL)) := (bif (decide (a.x11 < 1212)) then (bif (decide (0 ≤ a.x11 ∧ a.x11 < ((Qr.size : Nat) : Int))) then (bif (((Qr.data.getD (Int.toNat a.x11) 0).toNat : Int) != 58) then (bif (((Qr.data.getD (Int.toNat a.x11) 0).toNat : Int) != 124) then (some (.inl (QH.mk a.x0 a.x1 a.x7 a.x8 a.x10 (w64 (a.x11 + 1)) a.h0 a.h1_0 a.h1_1 a.h1_2))) else (bif (decide (0 ≤ a.x8 ∧ a.x8 ≤ a.x11 ∧ a.x11 ≤ ((Qr.size : Nat) : Int))) then (bif (decide (a.x10 = 0)) then (bif (((Qr.data.getD (Int.toNat a.x11) 0).toNat : Int) == 124) then (bif (a.x7 == a.x0) then (some (.inr (.inl (QU.mk a.x7 true (QL.mk (Qr.extract (Int.toNat a.x8) (Int.toNat a.x11)) a.h1_1 a.h1_2))))) else (bif (eqS (Qr.extract (Int.toNat a.x8) (Int.toNat a.x11)) a.x1) then (some (.inr (.inl (QU.mk a.x7 true (QL.mk (Qr.extract (Int.toNat a.x8) (Int.toNat a.x11)) a.h1_1 a.h1_2))))) else (some (.inl (QH.mk a.x0 a.x1 (w64 (a.x7 + 1)) (w64 (a.x11 + 1)) (0 : Int) (w64 (a.x11 + 1)) a.h0 (Qr.extract (Int.toNat a.x8) (Int.toNat a.x11)) a.h1_1 a.h1_2))))) else (some (.inl (QH.mk a.x0 a.x1 a.x7 (w64 (a.x11 + 1)) (w64 (a.x10 + 1)) (w64 (a.x11 + 1)) a.h0 (Qr.extract (Int.toNat a.x8) (Int.toNat a.x11)) a.h1_1 a.h1_2)))) else (bif (decide (a.x10 = 1)) then (bif (((Qr.data.getD (Int.toNat a.x11) 0).toNat : Int) == 124) then (bif (a.x7 == a.x0) then (some (.inr (.inl (QU.mk a.x7 true (QL.mk a.h1_0 (Qr.extract (Int.toNat a.x8) (Int.toNat a.x11)) a.h1_2))))) else (bif (eqS a.h1_0 a.x1) then (some (.inr (.inl (QU.mk a.x7 true (QL.mk a.h1_0 (Qr.extract (Int.toNat a.x8) (Int.toNat a.x11)) a.h1_2))))) else (some (.inl (QH.mk a.x0 a.x1 (w64 (a.x7 + 1)) (w64 (a.x11 + 1)) (0 : Int) (w64 (a.x11 + 1)) a.h0 a.h1_0 (Qr.extract (Int.toNat a.x8) (Int.toNat a.x11)) a.h1_2))))) else (some (.inl (QH.mk a.x0 a.x1 a.x7 (w64 (a.x11 + 1)) (w64 (a.x10 + 1)) (w64 (a.x11 + 1)) a.h0 a.h1_0 (Qr.extract (Int.toNat a.x8) (Int.toNat a.x11)) a.h1_2)))) else (bif (decide (a.x10 = 2)) then (bif (((Qr.data.getD (Int.toNat a.x11) 0).toNat : Int) == 124) then (bif (a.x7 == a.x0) then (some (.inr (.inl (QU.mk a.x7 true (QL.mk a.h1_0 a.h1_1 (Qr.extract (Int.toNat a.x8) (Int.toNat a.x11))))))) else (bif (eqS a.h1_0 a.x1) then (some (.inr (.inl (QU.mk a.x7 true (QL.mk a.h1_0 a.h1_1 (Qr.extract (Int.toNat a.x8) (Int.toNat a.x11))))))) else (some (.inl (QH.mk a.x0 a.x1 (w64 (a.x7 + 1)) (w64 (a.x11 + 1)) (0 : Int) (w64 (a.x11 + 1)) a.h0 a.h1_0 a.h1_1 (Qr.extract (Int.toNat a.x8) (Int.toNat a.x11))))))) else (some (.inl (QH.mk a.x0 a.x1 a.x7 (w64 (a.x11 + 1)) (w64 (a.x10 + 1)) (w64 (a.x11 + 1)) a.h0 a.h1_0 a.h1_1 (Qr.extract (Int.toNat a.x8) (Int.toNat a.x11)))))) else none))) else none)) else (bif (decide (0 ≤ a.x8 ∧ a.x8 ≤ a.x11 ∧ a.x11 ≤ ((Qr.size : Nat) : Int))) then (bif (decide (a.x10 = 0)) then (bif (((Qr.data.getD (Int.toNat a.x11) 0).toNat : Int) == 124) then (bif (a.x7 == a.x0) then (some (.inr (.inl (QU.mk a.x7 true (QL.mk (Qr.extract (Int.toNat a.x8) (Int.toNat a.x11)) a.h1_1 a.h1_2))))) else (bif (eqS (Qr.extract (Int.toNat a.x8) (Int.toNat a.x11)) a.x1) then (some (.inr (.inl (QU.mk a.x7 true (QL.mk (Qr.extract (Int.toNat a.x8) (Int.toNat a.x11)) a.h1_1 a.h1_2))))) else (some (.inl (QH.mk a.x0 a.x1 (w64 (a.x7 + 1)) (w64 (a.x11 + 1)) (0 : Int) (w64 (a.x11 + 1)) a.h0 (Qr.extract (Int.toNat a.x8) (Int.toNat a.x11)) a.h1_1 a.h1_2))))) else (some (.inl (QH.mk a.x0 a.x1 a.x7 (w64 (a.x11 + 1)) (w64 (a.x10 + 1)) (w64 (a.x11 + 1)) a.h0 (Qr.extract (Int.toNat a.x8) (Int.toNat a.x11)) a.h1_1 a.h1_2)))) else (bif (decide (a.x10 = 1)) then (bif (((Qr.data.getD (Int.toNat a.x11) 0).toNat : Int) == 124) then (bif (a.x7 == a.x0) then (some (.inr (.inl (QU.mk a.x7 true (QL.mk a.h1_0 (Qr.extract (Int.toNat a.x8) (Int.toNat a.x11)) a.h1_2))))) else (bif (eqS a.h1_0 a.x1) then (some (.inr (.inl (QU.mk a.x7 true (QL.mk a.h1_0 (Qr.extract (Int.toNat a.x8) (Int.toNat a.x11)) a.h1_2))))) else (some (.inl (QH.mk a.x0 a.x1 (w64 (a.x7 + 1)) (w64 (a.x11 + 1)) (0 : Int) (w64 (a.x11 + 1)) a.h0 a.h1_0 (Qr.extract (Int.toNat a.x8) (Int.toNat a.x11)) a.h1_2))))) else (some (.inl (QH.mk a.x0 a.x1 a.x7 (w64 (a.x11 + 1)) (w64 (a.x10 + 1)) (w64 (a.x11 + 1)) a.h0 a.h1_0 (Qr.extract (Int.toNat a.x8) (Int.toNat a.x11)) a.h1_2)))) else (bif (decide (a.x10 = 2)) then (bif (((Qr.data.getD (Int.toNat a.x11) 0).toNat : Int) == 124) then (bif (a.x7 == a.x0) then (some (.inr (.inl (QU.mk a.x7 true (QL.mk a.h1_0 a.h1_1 (Qr.extract (Int.toNat a.x8) (Int.toNat a.x11))))))) else (bif (eqS a.h1_0 a.x1) then (some (.inr (.inl (QU.mk a.x7 true (QL.mk a.h1_0 a.h1_1 (Qr.extract (Int.toNat a.x8) (Int.toNat a.x11))))))) else (some (.inl (QH.mk a.x0 a.x1 (w64 (a.x7 + 1)) (w64 (a.x11 + 1)) (0 : Int) (w64 (a.x11 + 1)) a.h0 a.h1_0 a.h1_1 (Qr.extract (Int.toNat a.x8) (Int.toNat a.x11))))))) else (some (.inl (QH.mk a.x0 a.x1 a.x7 (w64 (a.x11 + 1)) (w64 (a.x10 + 1)) (w64 (a.x11 + 1)) a.h0 a.h1_0 a.h1_1 (Qr.extract (Int.toNat a.x8) (Int.toNat a.x11)))))) else none))) else none)) else none) else (some (.inr (.inr a.h0))))
noncomputable def Vk : QiD := loopW (Ek )
theorem Vk.eq (a : QH) : Vk a = (Ek a).bind (Sum.elim Vk some) := Ja _ _
noncomputable abbrev Qn0 {ρ R : Type} (a : QH) (k0 : QU → Tr ρ R) (k1 : QL → Tr ρ R) : Tr ρ R := .loop2 (loopAt pp 58 5) (Vz a) (Vk a) Qfj Qfk k0 k1
noncomputable def Qn1 (a : QH) : Tr (QH ⊕ (QU ⊕ QL)) XS := (.as (decide (a.x11 < 1212)) (let u93 := (in1 a.x11 (zz Qr)); .as u93 (let u92 := ((gb Qr a.x11) != 58); .as u92 (.yes u92 (.yes u93 (yesN 2 u92 (.as ((gb Qr a.x11) != 124) (lf Vz (QH.mk a.x0 a.x1 a.x7 a.x8 a.x10 (w64 (a.x11 + 1)) a.h0 a.h1_0 a.h1_1 a.h1_2)) (.as (in2 a.x8 a.x11 (zz Qr)) (.ask (decide (a.x10 = ((0 : Nat) : Int))) (decide (a.x10 = 0)) (.yes u93 (.as ((gb Qr a.x11) == 124) (let u86 := (a.x7 == a.x0); .as u86 (yesN 4 u86 (.yes true (.yes (decide (i0 = ((0 : Nat) : Int))) (.no (decide ((zi 1) = ((0 : Nat) : Int))) (.yes (decide ((zi 1) = ((1 : Nat) : Int))) (.no (decide ((zi 2) = ((0 : Nat) : Int))) (.no (decide ((zi 2) = ((1 : Nat) : Int))) (.yes (decide ((zi 2) = ((2 : Nat) : Int))) (rx VR (.inl (QU.mk a.x7 true (QL.mk (cu Qr a.x8 a.x11) a.h1_1 a.h1_2)))))))))))) (.yes (decide (i0 = ((0 : Nat) : Int))) (noN 4 u86 (.as (eqS (cu Qr a.x8 a.x11) a.x1) (.yes (decide (i0 = ((0 : Nat) : Int))) (.no (decide ((zi 1) = ((0 : Nat) : Int))) (.yes (decide ((zi 1) = ((1 : Nat) : Int))) (.no (decide ((zi 2) = ((0 : Nat) : Int))) (.no (decide ((zi 2) = ((1 : Nat) : Int))) (.yes (decide ((zi 2) = ((2 : Nat) : Int))) (rx VR (.inl (QU.mk a.x7 true (QL.mk (cu Qr a.x8 a.x11) a.h1_1 a.h1_2)))))))))) (lf Vz (QH.mk a.x0 a.x1 (w64 (a.x7 + 1)) (w64 (a.x11 + 1)) i0 (w64 (a.x11 + 1)) a.h0 (cu Qr a.x8 a.x11) a.h1_1 a.h1_2)))))) (lf Vz (QH.mk a.x0 a.x1 a.x7 (w64 (a.x11 + 1)) (w64 (a.x10 + 1)) (w64 (a.x11 + 1)) a.h0 (cu Qr a.x8 a.x11) a.h1_1 a.h1_2)))) (.ask (decide (a.x10 = ((1 : Nat) : Int))) (decide (a.x10 = 1)) (.yes u93 (.as ((gb Qr a.x11) == 124) (let u87 := (a.x7 == a.x0); .as u87 (yesN 4 u87 (.yes true (.yes (decide (i0 = ((0 : Nat) : Int))) (.no (decide ((zi 1) = ((0 : Nat) : Int))) (.yes (decide ((zi 1) = ((1 : Nat) : Int))) (.no (decide ((zi 2) = ((0 : Nat) : Int))) (.no (decide ((zi 2) = ((1 : Nat) : Int))) (.yes (decide ((zi 2) = ((2 : Nat) : Int))) (rx VR (.inl (QU.mk a.x7 true (QL.mk a.h1_0 (cu Qr a.x8 a.x11) a.h1_2)))))))))))) (.yes (decide (i0 = ((0 : Nat) : Int))) (noN 4 u87 (.as (eqS a.h1_0 a.x1) (.yes (decide (i0 = ((0 : Nat) : Int))) (.no (decide ((zi 1) = ((0 : Nat) : Int))) (.yes (decide ((zi 1) = ((1 : Nat) : Int))) (.no (decide ((zi 2) = ((0 : Nat) : Int))) (.no (decide ((zi 2) = ((1 : Nat) : Int))) (.yes (decide ((zi 2) = ((2 : Nat) : Int))) (rx VR (.inl (QU.mk a.x7 true (QL.mk a.h1_0 (cu Qr a.x8 a.x11) a.h1_2)))))))))) (lf Vz (QH.mk a.x0 a.x1 (w64 (a.x7 + 1)) (w64 (a.x11 + 1)) i0 (w64 (a.x11 + 1)) a.h0 a.h1_0 (cu Qr a.x8 a.x11) a.h1_2)))))) (lf Vz (QH.mk a.x0 a.x1 a.x7 (w64 (a.x11 + 1)) (w64 (a.x10 + 1)) (w64 (a.x11 + 1)) a.h0 a.h1_0 (cu Qr a.x8 a.x11) a.h1_2)))) (.ask (decide (a.x10 = ((2 : Nat) : Int))) (decide (a.x10 = 2)) (.yes u93 (.as ((gb Qr a.x11) == 124) (let u88 := (a.x7 == a.x0); .as u88 (yesN 4 u88 (.yes true (.yes (decide (i0 = ((0 : Nat) : Int))) (.no (decide ((zi 1) = ((0 : Nat) : Int))) (.yes (decide ((zi 1) = ((1 : Nat) : Int))) (.no (decide ((zi 2) = ((0 : Nat) : Int))) (.no (decide ((zi 2) = ((1 : Nat) : Int))) (.yes (decide ((zi 2) = ((2 : Nat) : Int))) (rx VR (.inl (QU.mk a.x7 true (QL.mk a.h1_0 a.h1_1 (cu Qr a.x8 a.x11))))))))))))) (.yes (decide (i0 = ((0 : Nat) : Int))) (noN 4 u88 (.as (eqS a.h1_0 a.x1) (.yes (decide (i0 = ((0 : Nat) : Int))) (.no (decide ((zi 1) = ((0 : Nat) : Int))) (.yes (decide ((zi 1) = ((1 : Nat) : Int))) (.no (decide ((zi 2) = ((0 : Nat) : Int))) (.no (decide ((zi 2) = ((1 : Nat) : Int))) (.yes (decide ((zi 2) = ((2 : Nat) : Int))) (rx VR (.inl (QU.mk a.x7 true (QL.mk a.h1_0 a.h1_1 (cu Qr a.x8 a.x11))))))))))) (lf Vz (QH.mk a.x0 a.x1 (w64 (a.x7 + 1)) (w64 (a.x11 + 1)) i0 (w64 (a.x11 + 1)) a.h0 a.h1_0 a.h1_1 (cu Qr a.x8 a.x11))))))) (lf Vz (QH.mk a.x0 a.x1 a.x7 (w64 (a.x11 + 1)) (w64 (a.x10 + 1)) (w64 (a.x11 + 1)) a.h0 a.h1_0 a.h1_1 (cu Qr a.x8 a.x11))))) .fail))) .fail))))) (noN 3 u92 (.no false (.as (in2 a.x8 a.x11 (zz Qr)) (.ask (decide (a.x10 = ((0 : Nat) : Int))) (decide (a.x10 = 0)) (.yes u93 (.as ((gb Qr a.x11) == 124) (let u89 := (a.x7 == a.x0); .as u89 (yesN 4 u89 (.yes true (.yes (decide (i0 = ((0 : Nat) : Int))) (.no (decide ((zi 1) = ((0 : Nat) : Int))) (.yes (decide ((zi 1) = ((1 : Nat) : Int))) (.no (decide ((zi 2) = ((0 : Nat) : Int))) (.no (decide ((zi 2) = ((1 : Nat) : Int))) (.yes (decide ((zi 2) = ((2 : Nat) : Int))) (rx VR (.inl (QU.mk a.x7 true (QL.mk (cu Qr a.x8 a.x11) a.h1_1 a.h1_2)))))))))))) (.yes (decide (i0 = ((0 : Nat) : Int))) (noN 4 u89 (.as (eqS (cu Qr a.x8 a.x11) a.x1) (.yes (decide (i0 = ((0 : Nat) : Int))) (.no (decide ((zi 1) = ((0 : Nat) : Int))) (.yes (decide ((zi 1) = ((1 : Nat) : Int))) (.no (decide ((zi 2) = ((0 : Nat) : Int))) (.no (decide ((zi 2) = ((1 : Nat) : Int))) (.yes (decide ((zi 2) = ((2 : Nat) : Int))) (rx VR (.inl (QU.mk a.x7 true (QL.mk (cu Qr a.x8 a.x11) a.h1_1 a.h1_2)))))))))) (lf Vz (QH.mk a.x0 a.x1 (w64 (a.x7 + 1)) (w64 (a.x11 + 1)) i0 (w64 (a.x11 + 1)) a.h0 (cu Qr a.x8 a.x11) a.h1_1 a.h1_2)))))) (lf Vz (QH.mk a.x0 a.x1 a.x7 (w64 (a.x11 + 1)) (w64 (a.x10 + 1)) (w64 (a.x11 + 1)) a.h0 (cu Qr a.x8 a.x11) a.h1_1 a.h1_2)))) (.ask (decide (a.x10 = ((1 : Nat) : Int))) (decide (a.x10 = 1)) (.yes u93 (.as ((gb Qr a.x11) == 124) (let u90 := (a.x7 == a.x0); .as u90 (yesN 4 u90 (.yes true (.yes (decide (i0 = ((0 : Nat) : Int))) (.no (decide ((zi 1) = ((0 : Nat) : Int))) (.yes (decide ((zi 1) = ((1 : Nat) : Int))) (.no (decide ((zi 2) = ((0 : Nat) : Int))) (.no (decide ((zi 2) = ((1 : Nat) : Int))) (.yes (decide ((zi 2) = ((2 : Nat) : Int))) (rx VR (.inl (QU.mk a.x7 true (QL.mk a.h1_0 (cu Qr a.x8 a.x11) a.h1_2)))))))))))) (.yes (decide (i0 = ((0 : Nat) : Int))) (noN 4 u90 (.as (eqS a.h1_0 a.x1) (.yes (decide (i0 = ((0 : Nat) : Int))) (.no (decide ((zi 1) = ((0 : Nat) : Int))) (.yes (decide ((zi 1) = ((1 : Nat) : Int))) (.no (decide ((zi 2) = ((0 : Nat) : Int))) (.no (decide ((zi 2) = ((1 : Nat) : Int))) (.yes (decide ((zi 2) = ((2 : Nat) : Int))) (rx VR (.inl (QU.mk a.x7 true (QL.mk a.h1_0 (cu Qr a.x8 a.x11) a.h1_2)))))))))) (lf Vz (QH.mk a.x0 a.x1 (w64 (a.x7 + 1)) (w64 (a.x11 + 1)) i0 (w64 (a.x11 + 1)) a.h0 a.h1_0 (cu Qr a.x8 a.x11) a.h1_2)))))) (lf Vz (QH.mk a.x0 a.x1 a.x7 (w64 (a.x11 + 1)) (w64 (a.x10 + 1)) (w64 (a.x11 + 1)) a.h0 a.h1_0 (cu Qr a.x8 a.x11) a.h1_2)))) (.ask (decide (a.x10 = ((2 : Nat) : Int))) (decide (a.x10 = 2)) (.yes u93 (.as ((gb Qr a.x11) == 124) (let u91 := (a.x7 == a.x0); .as u91 (yesN 4 u91 (.yes true (.yes (decide (i0 = ((0 : Nat) : Int))) (.no (decide ((zi 1) = ((0 : Nat) : Int))) (.yes (decide ((zi 1) = ((1 : Nat) : Int))) (.no (decide ((zi 2) = ((0 : Nat) : Int))) (.no (decide ((zi 2) = ((1 : Nat) : Int))) (.yes (decide ((zi 2) = ((2 : Nat) : Int))) (rx VR (.inl (QU.mk a.x7 true (QL.mk a.h1_0 a.h1_1 (cu Qr a.x8 a.x11))))))))))))) (.yes (decide (i0 = ((0 : Nat) : Int))) (noN 4 u91 (.as (eqS a.h1_0 a.x1) (.yes (decide (i0 = ((0 : Nat) : Int))) (.no (decide ((zi 1) = ((0 : Nat) : Int))) (.yes (decide ((zi 1) = ((1 : Nat) : Int))) (.no (decide ((zi 2) = ((0 : Nat) : Int))) (.no (decide ((zi 2) = ((1 : Nat) : Int))) (.yes (decide ((zi 2) = ((2 : Nat) : Int))) (rx VR (.inl (QU.mk a.x7 true (QL.mk a.h1_0 a.h1_1 (cu Qr a.x8 a.x11))))))))))) (lf Vz (QH.mk a.x0 a.x1 (w64 (a.x7 + 1)) (w64 (a.x11 + 1)) i0 (w64 (a.x11 + 1)) a.h0 a.h1_0 a.h1_1 (cu Qr a.x8 a.x11))))))) (lf Vz (QH.mk a.x0 a.x1 a.x7 (w64 (a.x11 + 1)) (w64 (a.x10 + 1)) (w64 (a.x11 + 1)) a.h0 a.h1_0 a.h1_1 (cu Qr a.x8 a.x11))))) .fail))) .fail)))) .fail) (rx VR (.inr a.h0)))
theorem Vk.ok {a : QH} {r : (QU ⊕ QL)} (h : Vk a = some r) : lw 0 58 (loopAt pp 58 5) (Vz a) = some (VR r) := by
 refine lpP h Qn1 fun a => ?_
 exact ⟨rfl, fun q0 => ⟨rfl, fun q1 => ⟨rfl, fun q2 => ⟨q2, ⟨q1, Qj 2 (q2) (⟨rfl, fun q3 => rfl, fun q3 => ⟨rfl, fun q4 => ⟨rfl, fun q5 => ⟨q1, ⟨rfl, fun q6 => ⟨rfl, fun q7 => Qj 4 (q7) (⟨rfl, ⟨rfl, ⟨rfl, ⟨rfl, ⟨rfl, ⟨rfl, ⟨rfl, rfl⟩⟩⟩⟩⟩⟩⟩), fun q7 => ⟨rfl, noN_ok 4 (q7) (⟨rfl, fun q8 => ⟨rfl, ⟨rfl, ⟨rfl, ⟨rfl, ⟨rfl, ⟨rfl, rfl⟩⟩⟩⟩⟩⟩, fun q8 => rfl⟩)⟩⟩, fun q6 => rfl⟩⟩, fun q5 => ⟨rfl, fun q6 => ⟨q1, ⟨rfl, fun q7 => ⟨rfl, fun q8 => Qj 4 (q8) (⟨rfl, ⟨rfl, ⟨rfl, ⟨rfl, ⟨rfl, ⟨rfl, ⟨rfl, rfl⟩⟩⟩⟩⟩⟩⟩), fun q8 => ⟨rfl, noN_ok 4 (q8) (⟨rfl, fun q9 => ⟨rfl, ⟨rfl, ⟨rfl, ⟨rfl, ⟨rfl, ⟨rfl, rfl⟩⟩⟩⟩⟩⟩, fun q9 => rfl⟩)⟩⟩, fun q7 => rfl⟩⟩, fun q6 => ⟨rfl, fun q7 => ⟨q1, ⟨rfl, fun q8 => ⟨rfl, fun q9 => Qj 4 (q9) (⟨rfl, ⟨rfl, ⟨rfl, ⟨rfl, ⟨rfl, ⟨rfl, ⟨rfl, rfl⟩⟩⟩⟩⟩⟩⟩), fun q9 => ⟨rfl, noN_ok 4 (q9) (⟨rfl, fun q10 => ⟨rfl, ⟨rfl, ⟨rfl, ⟨rfl, ⟨rfl, ⟨rfl, rfl⟩⟩⟩⟩⟩⟩, fun q10 => rfl⟩)⟩⟩, fun q8 => rfl⟩⟩, fun q7 => trivial⟩⟩⟩, fun q4 => trivial⟩⟩)⟩⟩, fun q2 => noN_ok 3 (q2) (⟨rfl, ⟨rfl, fun q3 => ⟨rfl, fun q4 => ⟨q1, ⟨rfl, fun q5 => ⟨rfl, fun q6 => Qj 4 (q6) (⟨rfl, ⟨rfl, ⟨rfl, ⟨rfl, ⟨rfl, ⟨rfl, ⟨rfl, rfl⟩⟩⟩⟩⟩⟩⟩), fun q6 => ⟨rfl, noN_ok 4 (q6) (⟨rfl, fun q7 => ⟨rfl, ⟨rfl, ⟨rfl, ⟨rfl, ⟨rfl, ⟨rfl, rfl⟩⟩⟩⟩⟩⟩, fun q7 => rfl⟩)⟩⟩, fun q5 => rfl⟩⟩, fun q4 => ⟨rfl, fun q5 => ⟨q1, ⟨rfl, fun q6 => ⟨rfl, fun q7 => Qj 4 (q7) (⟨rfl, ⟨rfl, ⟨rfl, ⟨rfl, ⟨rfl, ⟨rfl, ⟨rfl, rfl⟩⟩⟩⟩⟩⟩⟩), fun q7 => ⟨rfl, noN_ok 4 (q7) (⟨rfl, fun q8 => ⟨rfl, ⟨rfl, ⟨rfl, ⟨rfl, ⟨rfl, ⟨rfl, rfl⟩⟩⟩⟩⟩⟩, fun q8 => rfl⟩)⟩⟩, fun q6 => rfl⟩⟩, fun q5 => ⟨rfl, fun q6 => ⟨q1, ⟨rfl, fun q7 => ⟨rfl, fun q8 => Qj 4 (q8) (⟨rfl, ⟨rfl, ⟨rfl, ⟨rfl, ⟨rfl, ⟨rfl, ⟨rfl, rfl⟩⟩⟩⟩⟩⟩⟩), fun q8 => ⟨rfl, noN_ok 4 (q8) (⟨rfl, fun q9 => ⟨rfl, ⟨rfl, ⟨rfl, ⟨rfl, ⟨rfl, ⟨rfl, rfl⟩⟩⟩⟩⟩⟩, fun q9 => rfl⟩)⟩⟩, fun q7 => rfl⟩⟩, fun q6 => trivial⟩⟩⟩, fun q3 => trivial⟩⟩)⟩, fun q1 => trivial⟩, fun q0 => rfl⟩
def QgU (L0 : QiD) (a0 : Int) (a1 : ByteArray) : Option (QL × Int × Bool) := ((L0 (QH.mk a0 a1 (0 : Int) (0 : Int) (0 : Int) (0 : Int) (QL.mk s_ s_ s_) s_ s_ s_)).bind fun x => Sum.elim (fun (o1 : QU) => (some (o1.h0, o1.x5, o1.x6))) (fun (o2 : QL) => (some ((QL.mk s_ s_ s_), (0 : Int), false))) x)
noncomputable def X0 : QeE := QgU Vk
theorem X0.eq (a0 : Int) (a1 : ByteArray) : X0 a0 a1 = QgU Vk a0 a1 := rfl
noncomputable def QrX (a0 : Int) (a1 : ByteArray) : Tr (QL × Int × Bool) AH := (Qn0 (QH.mk a0 a1 i0 i0 i0 i0 (QL.mk s_ s_ s_) s_ s_ s_) (fun o1 => (rt QcA (o1.h0, o1.x5, o1.x6))) (fun o2 => (rt QcA ((QL.mk s_ s_ s_), i0, false))))
theorem X0.ok {a0 : Int} {a1 : ByteArray} {r : (QL × Int × Bool)} (h : X0 a0 a1 = some r) : ww 58 [xi a0, xs a1] [] = some (QcA r) := by
 refine fnP (QrX a0 a1) ?_ h
 exact ⟨fun o1 h => ⟨Vk.ok (r := (.inl _)) h, rfl⟩, fun o2 h => ⟨Vk.ok (r := (.inr _)) h, rfl⟩⟩
noncomputable abbrev QgV {ρ R : Type} (a0 : Int) (a1 : ByteArray) (k : (QL × Int × Bool) → Tr ρ R) : Tr ρ R := .call (ww 58 [xi a0, xs a1] []) (X0 a0 a1) QcA k
abbrev QgW := Int → Option ByteArray
def QeF (C0 : QeE) (a0 : Int) : Option ByteArray := ((C0 a0 h_20).bind fun r1 => (some r1.1.Kinds))
noncomputable def XE : QgW := QeF X0
theorem XE.eq (a0 : Int) : XE a0 = QeF X0 a0 := rfl
noncomputable def Qq0 (a0 : Int) : Tr ByteArray AH := (QgV a0 h_20 fun r1 => (rt Qk r1.1.Kinds))
theorem XE.ok {a0 : Int} {r : ByteArray} (h : XE a0 = some r) : ww 37 [xi a0] [] = some (Qk r) := by
 refine fnP (Qq0 a0) ?_ h
 exact fun r1 h => ⟨X0.ok h, rfl⟩
noncomputable abbrev Qkk {ρ R : Type} (a0 : Int) (k : ByteArray → Tr ρ R) : Tr ρ R := .call (ww 37 [xi a0] []) (XE a0) Qk k
abbrev QgX := ByteArray → Option (List ByteArray)
structure JR where
 x0 : ByteArray
 x4 : Int
 x5 : Int
 r0 : (List ByteArray)
def YD (a : JR) : St := { n := 35, nx := 1, env := [(0, xs a.x0), (3, .arr 0), (4, xi a.x4), (5, xi a.x5)], heap := [(0, .arr true 1 (Qg a.r0))] }
def Qax (a : (List ByteArray)) : Ex × St := (.exit 0, { n := 35, nx := 1, env := [(3, .arr 0)], heap := [(0, .arr true 1 (Qg a))] })
abbrev El := JR → Option (List ByteArray)
def Qay (a : JR) : Option (JR ⊕ (List ByteArray)) := (bif (decide (a.x5 ≤ ((a.x0.size : Nat) : Int))) then (bif (a.x5 == ((a.x0.size : Nat) : Int)) then (bif (decide (a.x5 > a.x4)) then (bif (decide (0 ≤ a.x4 ∧ a.x4 ≤ a.x5 ∧ a.x5 ≤ ((a.x0.size : Nat) : Int))) then (bif (decide ((a.r0.length + [(a.x0.extract (Int.toNat a.x4) (Int.toNat a.x5))].length) * 16 ≤ most)) then (some (.inl (JR.mk a.x0 (w64 (a.x5 + 1)) (w64 (a.x5 + 1)) (a.r0 ++ [(a.x0.extract (Int.toNat a.x4) (Int.toNat a.x5))])))) else none) else none) else (some (.inl (JR.mk a.x0 (w64 (a.x5 + 1)) (w64 (a.x5 + 1)) a.r0)))) else (bif (decide (0 ≤ a.x5 ∧ a.x5 < ((a.x0.size : Nat) : Int))) then (bif (((a.x0.data.getD (Int.toNat a.x5) 0).toNat : Int) == 32) then (bif (decide (a.x5 > a.x4)) then (bif (decide (0 ≤ a.x4 ∧ a.x4 ≤ a.x5 ∧ a.x5 ≤ ((a.x0.size : Nat) : Int))) then (bif (decide ((a.r0.length + [(a.x0.extract (Int.toNat a.x4) (Int.toNat a.x5))].length) * 16 ≤ most)) then (some (.inl (JR.mk a.x0 (w64 (a.x5 + 1)) (w64 (a.x5 + 1)) (a.r0 ++ [(a.x0.extract (Int.toNat a.x4) (Int.toNat a.x5))])))) else none) else none) else (some (.inl (JR.mk a.x0 (w64 (a.x5 + 1)) (w64 (a.x5 + 1)) a.r0)))) else (some (.inl (JR.mk a.x0 a.x4 (w64 (a.x5 + 1)) a.r0)))) else none)) else (some (.inr a.r0)))
noncomputable def XP.s (k : Nat) : El := iter (Qay ) k
theorem XP.cv (a : JR) : Cv (fun k => XP.s k a) (loopW (Qay ) a) := Cv.iter (fun a => by exact .const _) a
noncomputable def XP : El := loopW (Qay )
noncomputable abbrev QmN {ρ R : Type} (a : JR) (k0 : (List ByteArray) → Tr ρ R) : Tr ρ R := .loop (loopAt pp 36 4) (YD a) (XP a) Qax k0
noncomputable def QmO (a : JR) : Tr (JR ⊕ (List ByteArray)) XS := (.as (decide (a.x5 ≤ (zz a.x0))) (let u94 := (a.x5 == (zz a.x0)); .as u94 (yesN 4 u94 (.yes true (.as (decide (a.x5 > a.x4)) (.as (in2 a.x4 a.x5 (zz a.x0)) (.rows [[xs (cu a.x0 a.x4 a.x5)]] (Qg [(cu a.x0 a.x4 a.x5)]) (.yes (decide ((Qg [(cu a.x0 a.x4 a.x5)]).all (fun r => r.length == 1) = true)) (.ask (decide (((Qg a.r0).length + (Qg [(cu a.x0 a.x4 a.x5)]).length) * 16 ≤ most)) (decide ((a.r0.length + [(cu a.x0 a.x4 a.x5)].length) * 16 ≤ most)) (.rows ((Qg a.r0) ++ (Qg [(cu a.x0 a.x4 a.x5)])) (Qg (a.r0 ++ [(cu a.x0 a.x4 a.x5)])) (lf YD (JR.mk a.x0 (w64 (a.x5 + 1)) (w64 (a.x5 + 1)) (a.r0 ++ [(cu a.x0 a.x4 a.x5)])))) .fail))) .fail) (lf YD (JR.mk a.x0 (w64 (a.x5 + 1)) (w64 (a.x5 + 1)) a.r0))))) (noN 2 u94 (.as (in1 a.x5 (zz a.x0)) (noN 2 u94 (.as ((gb a.x0 a.x5) == 32) (.as (decide (a.x5 > a.x4)) (.as (in2 a.x4 a.x5 (zz a.x0)) (.rows [[xs (cu a.x0 a.x4 a.x5)]] (Qg [(cu a.x0 a.x4 a.x5)]) (.yes (decide ((Qg [(cu a.x0 a.x4 a.x5)]).all (fun r => r.length == 1) = true)) (.ask (decide (((Qg a.r0).length + (Qg [(cu a.x0 a.x4 a.x5)]).length) * 16 ≤ most)) (decide ((a.r0.length + [(cu a.x0 a.x4 a.x5)].length) * 16 ≤ most)) (.rows ((Qg a.r0) ++ (Qg [(cu a.x0 a.x4 a.x5)])) (Qg (a.r0 ++ [(cu a.x0 a.x4 a.x5)])) (lf YD (JR.mk a.x0 (w64 (a.x5 + 1)) (w64 (a.x5 + 1)) (a.r0 ++ [(cu a.x0 a.x4 a.x5)])))) .fail))) .fail) (lf YD (JR.mk a.x0 (w64 (a.x5 + 1)) (w64 (a.x5 + 1)) a.r0))) (lf YD (JR.mk a.x0 a.x4 (w64 (a.x5 + 1)) a.r0)))) .fail))) (rx Qax a.r0))
theorem XP.ok {a : JR} {r : (List ByteArray)} (h : XP a = some r) : lw 0 36 (loopAt pp 36 4) (YD a) = some (Qax r) := by
 refine lpP h QmO fun a => ?_
 exact ⟨rfl, fun q0 => ⟨rfl, fun q1 => Qj 4 (q1) (⟨rfl, ⟨rfl, fun q2 => ⟨rfl, fun q3 => ⟨(QP [(a.x0.extract (Int.toNat a.x4) (Int.toNat a.x5))]), ⟨(decide_eq_true (Uc _)), ⟨(by rw [Qo, Qo]), fun q4 => ⟨(U0 _ _), rfl⟩, fun q4 => trivial⟩⟩⟩, fun q3 => trivial⟩, fun q2 => rfl⟩⟩), fun q1 => noN_ok 2 (q1) (⟨rfl, fun q2 => noN_ok 2 (q1) (⟨rfl, fun q3 => ⟨rfl, fun q4 => ⟨rfl, fun q5 => ⟨(QP [(a.x0.extract (Int.toNat a.x4) (Int.toNat a.x5))]), ⟨(decide_eq_true (Uc _)), ⟨(by rw [Qo, Qo]), fun q6 => ⟨(U0 _ _), rfl⟩, fun q6 => trivial⟩⟩⟩, fun q5 => trivial⟩, fun q4 => rfl⟩, fun q3 => rfl⟩), fun q2 => trivial⟩)⟩, fun q0 => rfl⟩
def Pl (L0 : El) (a0 : ByteArray) : Option (List ByteArray) := ((L0 (JR.mk a0 (0 : Int) (0 : Int) ([] : List ByteArray))).bind (fun (o1 : (List ByteArray)) => (some o1)))
theorem Qq1 {L0 : Nat → El} {M0 : El} (N0 : Cv1 L0 M0) (a0 : ByteArray) : Cv (fun k => Pl (L0 k) a0) (Pl M0 a0) := by
 unfold Pl
 exact .bind (N0 _) (fun o1 => by exact .const _)
noncomputable def We : QgX := Pl XP
noncomputable def Qq2 (a0 : ByteArray) : Tr (List ByteArray) AH := (QmN (JR.mk a0 i0 i0 ([] : List ByteArray)) (fun o1 => (rt Jg o1)))
theorem We.ok {a0 : ByteArray} {r : (List ByteArray)} (h : We a0 = some r) : ww 36 [xs a0] [] = some (Jg r) := by
 refine fnP (Qq2 a0) ?_ h
 exact fun o1 h => ⟨XP.ok h, rfl⟩
noncomputable abbrev Qkl {ρ R : Type} (a0 : ByteArray) (k : (List ByteArray) → Tr ρ R) : Tr ρ R := .call (ww 36 [xs a0] []) (We a0) Jg k
noncomputable def We.s : Nat → ByteArray → Option (List ByteArray)
 | 0, _ => none
 | k + 1, a0 => Pl (XP.s k) a0
theorem We.cv (a0 : ByteArray) : Cv (fun k => We.s k a0) (We a0) := .un rfl (Qq1 XP.cv a0)
abbrev Sl := QB → Int → Option Int
def Pm (a0 : QB) (a1 : Int) : Option Int := (bif (decide (a1 < (((a0.Ns.length) : Nat) : Int))) then (bif (decide (0 ≤ a1)) then ((a0.Ns[(Int.toNat a1)]?).bind fun e1 => (some e1)) else none) else (some (w64 (a0.A + a1))))
noncomputable def Va : Sl := Pm
theorem Va.eq (a0 : QB) (a1 : Int) : Va a0 a1 = Pm a0 a1 := rfl
noncomputable def Qkm (a0 : QB) (a1 : Int) : Tr Int AH := (.num ((Qy a0.Ns).length) (a0.Ns.length) (.as (decide (a1 < (((a0.Ns.length) : Nat) : Int))) (.as (decide (0 ≤ a1)) (.row ((Qy a0.Ns)[(Int.toNat a1)]?) (a0.Ns[(Int.toNat a1)]?) WW fun (e1 : Int) => (rt Qm e1)) .fail) (rt Qm (w64 (a0.A + a1)))))
theorem Va.ok {a0 : QB} {a1 : Int} {r : Int} (h : Va a0 a1 = some r) : ww 63 [.agg (V9 a0), xi a1] [] = some (Qm r) := by
 refine fnP (Qkm a0 a1) ?_ h
 exact ⟨(JU _), ⟨rfl, fun q0 => ⟨rfl, fun q1 => fun e1 h => ⟨Vc h, rfl⟩, fun q1 => trivial⟩, fun q0 => rfl⟩⟩
noncomputable abbrev QcB {ρ R : Type} (a0 : QB) (a1 : Int) (k : Int → Tr ρ R) : Tr ρ R := .call (ww 63 [.agg (V9 a0), xi a1] []) (Va a0 a1) Qm k
abbrev QbZ := ByteArray → Option Bool
structure UO where
 x0 : ByteArray
 x3 : Int
def Fl (a : UO) : St := { n := 28, nx := 0, env := [(0, xs a.x0), (3, xi a.x3)], heap := [] }
def QaM (a : Bool) : Ex × St := (.ret, { n := 28, nx := 0, env := [(2, xo a)], heap := [] })
def QaN (a : Unit) : Ex × St := (.exit 0, { n := 28, nx := 0, env := [], heap := [] })
def Gz (a : (Bool ⊕ Unit)) : Ex × St := Sum.elim QaM QaN a
abbrev ZI := UO → Option (Bool ⊕ Unit)
def Fm (a : UO) : Option (UO ⊕ (Bool ⊕ Unit)) := (bif (decide ((w64 ((w64 (a.x3 + ((a.x0.size : Nat) : Int))) + 2)) ≤ 11)) then (bif (decide (((a.x0.size : Nat) : Int) > 0)) then (bif (decide (0 ≤ a.x3 ∧ a.x3 ≤ (w64 ((w64 (a.x3 + ((a.x0.size : Nat) : Int))) + 2)) ∧ (w64 ((w64 (a.x3 + ((a.x0.size : Nat) : Int))) + 2)) ≤ ((UV.size : Nat) : Int))) then (bif (decide (((h_20.size + a.x0.size : Nat) : Int) ≤ IntKind.i64.max)) then (bif (decide ((((h_20 ++ a.x0).size + h_20.size : Nat) : Int) ≤ IntKind.i64.max)) then (bif (eqS (UV.extract (Int.toNat a.x3) (Int.toNat (w64 ((w64 (a.x3 + ((a.x0.size : Nat) : Int))) + 2)))) ((h_20 ++ a.x0) ++ h_20)) then (some (.inr (.inl true))) else (some (.inl (UO.mk a.x0 (w64 (a.x3 + 1)))))) else none) else none) else none) else (some (.inr (.inr ())))) else (some (.inr (.inr ()))))
noncomputable def Wf.s (k : Nat) : ZI := iter (Fm ) k
theorem Wf.cv (a : UO) : Cv (fun k => Wf.s k a) (loopW (Fm ) a) := Cv.iter (fun a => by exact .const _) a
noncomputable def Wf : ZI := loopW (Fm )
noncomputable abbrev Qjj {ρ R : Type} (a : UO) (k0 : Bool → Tr ρ R) (k1 : Unit → Tr ρ R) : Tr ρ R := .loop2 (loopAt pp 39 2) (Fl a) (Wf a) QaM QaN k0 k1
noncomputable def Qjk (a : UO) : Tr (UO ⊕ (Bool ⊕ Unit)) XS := (let u95 := (decide ((w64 ((w64 (a.x3 + (zz a.x0))) + 2)) ≤ 11)); .as u95 (yesN 3 u95 (.as (decide ((zz a.x0) > 0)) (.as (in2 a.x3 (w64 ((w64 (a.x3 + (zz a.x0))) + 2)) (zz UV)) (.as (decide (((h_20.size + a.x0.size : Nat) : Int) ≤ IntKind.i64.max)) (.as (decide ((((h_20 ++ a.x0).size + h_20.size : Nat) : Int) ≤ IntKind.i64.max)) (.as (eqS (cu UV a.x3 (w64 ((w64 (a.x3 + (zz a.x0))) + 2))) ((h_20 ++ a.x0) ++ h_20)) (rx Gz (.inl true)) (lf Fl (UO.mk a.x0 (w64 (a.x3 + 1))))) .fail) .fail) .fail) (rx Gz (.inr ())))) (noN 3 u95 (.no false (rx Gz (.inr ())))))
theorem Wf.ok {a : UO} {r : (Bool ⊕ Unit)} (h : Wf a = some r) : lw 0 39 (loopAt pp 39 2) (Fl a) = some (Gz r) := by
 refine lpP h Qjk fun a => ?_
 exact ⟨rfl, fun q0 => Qj 3 (q0) (⟨rfl, fun q1 => ⟨rfl, fun q2 => ⟨rfl, fun q3 => ⟨rfl, fun q4 => ⟨rfl, fun q5 => rfl, fun q5 => rfl⟩, fun q4 => trivial⟩, fun q3 => trivial⟩, fun q2 => trivial⟩, fun q1 => rfl⟩), fun q0 => noN_ok 3 (q0) (⟨rfl, rfl⟩)⟩
def GE (L0 : ZI) (a0 : ByteArray) : Option Bool := ((L0 (UO.mk a0 (0 : Int))).bind fun x => Sum.elim (fun (o1 : Bool) => (some o1)) (fun (o2 : Unit) => (some false)) x)
theorem QmP {L0 : Nat → ZI} {M0 : ZI} (N0 : Cv1 L0 M0) (a0 : ByteArray) : Cv (fun k => GE (L0 k) a0) (GE M0 a0) := by
 unfold GE
 exact .bind (N0 _) fun x => .sum (fun o1 => by exact .const _) (fun o2 => by exact .const _) x
noncomputable def JG : QbZ := GE Wf
noncomputable def QmQ (a0 : ByteArray) : Tr Bool AH := (Qjj (UO.mk a0 i0) (fun o1 => (rt Ql o1)) (fun o2 => (rt Ql false)))
theorem JG.ok {a0 : ByteArray} {r : Bool} (h : JG a0 = some r) : ww 39 [xs a0] [] = some (Ql r) := by
 refine fnP (QmQ a0) ?_ h
 exact ⟨fun o1 h => ⟨Wf.ok (r := (.inl _)) h, rfl⟩, fun o2 h => ⟨Wf.ok (r := (.inr _)) h, rfl⟩⟩
noncomputable abbrev Qfl {ρ R : Type} (a0 : ByteArray) (k : Bool → Tr ρ R) : Tr ρ R := .call (ww 39 [xs a0] []) (JG a0) Ql k
noncomputable def JG.s : Nat → ByteArray → Option Bool
 | 0, _ => none
 | k + 1, a0 => GE (Wf.s k) a0
theorem JG.cv (a0 : ByteArray) : Cv (fun k => JG.s k a0) (JG a0) := .un rfl (QmP Wf.cv a0)
abbrev QgY := ByteArray → Option Bool
def Fg (C0 : QbZ) (a0 : ByteArray) : Option Bool := ((C0 a0).bind fun r1 => (some r1))
noncomputable def W6 : QgY := Fg JG
theorem W6.eq (a0 : ByteArray) : W6 a0 = Fg JG a0 := rfl
noncomputable def QmR (a0 : ByteArray) : Tr Bool AH := (Qfl a0 fun r1 => (rt Ql r1))
theorem W6.ok {a0 : ByteArray} {r : Bool} (h : W6 a0 = some r) : ww 106 [xs a0] [] = some (Ql r) := by
 refine fnP (QmR a0) ?_ h
 exact fun r1 h => ⟨JG.ok h, rfl⟩
noncomputable abbrev QmS {ρ R : Type} (a0 : ByteArray) (k : Bool → Tr ρ R) : Tr ρ R := .call (ww 106 [xs a0] []) (W6 a0) Ql k
abbrev Qkn := Int → Int → Option Int
def QiE (a0 : Int) (a1 : Int) : Option Int := (bif (decide (a1 ≠ 0)) then (bif (decide ((Int.tmod a0 a1) < 0)) then (some (w64 ((Int.tmod a0 a1) + a1))) else (some (Int.tmod a0 a1))) else none)
noncomputable def Ws : Qkn := QiE
theorem Ws.eq (a0 : Int) (a1 : Int) : Ws a0 a1 = QiE a0 a1 := rfl
noncomputable def Qpq (a0 : Int) (a1 : Int) : Tr Int AH := (.as (decide (a1 ≠ 0)) (.as (decide ((Int.tmod a0 a1) < 0)) (rt Qm (w64 ((Int.tmod a0 a1) + a1))) (rt Qm (Int.tmod a0 a1))) .fail)
theorem Ws.ok {a0 : Int} {a1 : Int} {r : Int} (h : Ws a0 a1 = some r) : ww 84 [xi a0, xi a1] [] = some (Qm r) := by
 refine fnP (Qpq a0 a1) ?_ h
 exact ⟨rfl, fun q0 => ⟨rfl, fun q1 => rfl, fun q1 => rfl⟩, fun q0 => trivial⟩
noncomputable abbrev YT {ρ R : Type} (a0 : Int) (a1 : Int) (k : Int → Tr ρ R) : Tr ρ R := .call (ww 84 [xi a0, xi a1] []) (Ws a0 a1) Qm k
abbrev QiF := ByteArray → Int → Option Int
def Pn (C0 : Qkn) (a0 : ByteArray) (a1 : Int) : Option Int := ((C0 a1 (9 : Int)).bind fun r1 => (bif (eqS a0 s_X) then (bif (decide (0 ≤ r1 ∧ r1 < (([(0 : Int), (1 : Int), (7 : Int), (24 : Int), (31 : Int), (5 : Int), (28 : Int), (3 : Int), (30 : Int)].length : Nat) : Int))) then (([(0 : Int), (1 : Int), (7 : Int), (24 : Int), (31 : Int), (5 : Int), (28 : Int), (3 : Int), (30 : Int)][(Int.toNat r1)]?).bind fun e2 => (some e2)) else none) else (bif (eqS a0 s_Y) then (bif (decide (0 ≤ r1 ∧ r1 < (([(0 : Int), (1 : Int), (7 : Int), (24 : Int), (31 : Int), (5 : Int), (28 : Int), (3 : Int), (30 : Int)].length : Nat) : Int))) then (([(0 : Int), (1 : Int), (7 : Int), (24 : Int), (31 : Int), (5 : Int), (28 : Int), (3 : Int), (30 : Int)][(Int.toNat r1)]?).bind fun e3 => (some e3)) else none) else (bif (eqS a0 s_D) then (bif (decide (0 ≤ r1 ∧ r1 < (([(0 : Int), (31 : Int), (1 : Int), (15 : Int), (16 : Int), (7 : Int), (30 : Int), (12 : Int), (3 : Int)].length : Nat) : Int))) then (([(0 : Int), (31 : Int), (1 : Int), (15 : Int), (16 : Int), (7 : Int), (30 : Int), (12 : Int), (3 : Int)][(Int.toNat r1)]?).bind fun e4 => (some e4)) else none) else (bif (eqS a0 s_A) then (bif (decide (0 ≤ r1 ∧ r1 < (([(0 : Int), (31 : Int), (1 : Int), (15 : Int), (16 : Int), (7 : Int), (30 : Int), (12 : Int), (3 : Int)].length : Nat) : Int))) then (([(0 : Int), (31 : Int), (1 : Int), (15 : Int), (16 : Int), (7 : Int), (30 : Int), (12 : Int), (3 : Int)][(Int.toNat r1)]?).bind fun e5 => (some e5)) else none) else (bif (eqS a0 s_B) then (bif (decide (0 ≤ r1 ∧ r1 < (([(0 : Int), (31 : Int), (1 : Int), (15 : Int), (16 : Int), (7 : Int), (30 : Int), (12 : Int), (3 : Int)].length : Nat) : Int))) then (([(0 : Int), (31 : Int), (1 : Int), (15 : Int), (16 : Int), (7 : Int), (30 : Int), (12 : Int), (3 : Int)][(Int.toNat r1)]?).bind fun e6 => (some e6)) else none) else (bif (eqS a0 s_U5) then (bif (decide (0 ≤ r1 ∧ r1 < (([(0 : Int), (31 : Int), (1 : Int), (15 : Int), (16 : Int), (7 : Int), (30 : Int), (12 : Int), (3 : Int)].length : Nat) : Int))) then (([(0 : Int), (31 : Int), (1 : Int), (15 : Int), (16 : Int), (7 : Int), (30 : Int), (12 : Int), (3 : Int)][(Int.toNat r1)]?).bind fun e7 => (some e7)) else none) else (bif (eqS a0 s_U7) then (bif (decide (0 ≤ r1 ∧ r1 < (([(0 : Int), (127 : Int), (64 : Int), (1 : Int), (63 : Int), (100 : Int), (7 : Int), (15 : Int), (16 : Int)].length : Nat) : Int))) then (([(0 : Int), (127 : Int), (64 : Int), (1 : Int), (63 : Int), (100 : Int), (7 : Int), (15 : Int), (16 : Int)][(Int.toNat r1)]?).bind fun e8 => (some e8)) else none) else (bif (eqS a0 s_O5) then (bif (decide (0 ≤ r1 ∧ r1 < (([(1 : Int), (32 : Int), (2 : Int), (16 : Int), (31 : Int), (17 : Int), (8 : Int), (5 : Int), (30 : Int)].length : Nat) : Int))) then (([(1 : Int), (32 : Int), (2 : Int), (16 : Int), (31 : Int), (17 : Int), (8 : Int), (5 : Int), (30 : Int)][(Int.toNat r1)]?).bind fun e9 => (some e9)) else none) else (bif (eqS a0 s_M1) then (bif (decide (0 ≤ r1 ∧ r1 < (([(0 : Int), (15 : Int), (1 : Int), (7 : Int), (8 : Int), (4 : Int), (12 : Int), (3 : Int), (14 : Int)].length : Nat) : Int))) then (([(0 : Int), (15 : Int), (1 : Int), (7 : Int), (8 : Int), (4 : Int), (12 : Int), (3 : Int), (14 : Int)][(Int.toNat r1)]?).bind fun e10 => (some e10)) else none) else (bif (eqS a0 s_I4) then (bif (decide (0 ≤ r1 ∧ r1 < (([(0 : Int), (15 : Int), (1 : Int), (7 : Int), (8 : Int), (4 : Int), (12 : Int), (3 : Int), (14 : Int)].length : Nat) : Int))) then (([(0 : Int), (15 : Int), (1 : Int), (7 : Int), (8 : Int), (4 : Int), (12 : Int), (3 : Int), (14 : Int)][(Int.toNat r1)]?).bind fun e11 => (some e11)) else none) else (bif (eqS a0 s_M2) then (bif (decide (0 ≤ r1 ∧ r1 < (([(0 : Int), (15 : Int), (1 : Int), (7 : Int), (8 : Int), (4 : Int), (12 : Int), (3 : Int), (14 : Int)].length : Nat) : Int))) then (([(0 : Int), (15 : Int), (1 : Int), (7 : Int), (8 : Int), (4 : Int), (12 : Int), (3 : Int), (14 : Int)][(Int.toNat r1)]?).bind fun e12 => (some (w64 ((2 : Int) * e12)))) else none) else (bif (eqS a0 s_M4) then (bif (decide (0 ≤ r1 ∧ r1 < (([(0 : Int), (15 : Int), (1 : Int), (7 : Int), (8 : Int), (4 : Int), (12 : Int), (3 : Int), (14 : Int)].length : Nat) : Int))) then (([(0 : Int), (15 : Int), (1 : Int), (7 : Int), (8 : Int), (4 : Int), (12 : Int), (3 : Int), (14 : Int)][(Int.toNat r1)]?).bind fun e13 => (some (w64 ((4 : Int) * e13)))) else none) else (bif (eqS a0 s_O1) then ((C0 a1 (2 : Int)).bind fun r14 => (some r14)) else (bif (eqS a0 s_I2) then ((C0 a1 (4 : Int)).bind fun r15 => (some r15)) else (bif (eqS a0 s_O2) then ((C0 a1 (4 : Int)).bind fun r16 => (some r16)) else (bif (eqS a0 s_T8) then ((C0 a1 (256 : Int)).bind fun r17 => (some (w64 ((2 : Int) * (w64 (r17 - 128)))))) else (bif (eqS a0 QtM) then (bif (decide (0 ≤ r1 ∧ r1 < (([(0 : Int), (32767 : Int), (-32768 : Int), (-1 : Int), (1 : Int), (255 : Int), (-256 : Int), (4660 : Int), (-4660 : Int)].length : Nat) : Int))) then (([(0 : Int), (32767 : Int), (-32768 : Int), (-1 : Int), (1 : Int), (255 : Int), (-256 : Int), (4660 : Int), (-4660 : Int)][(Int.toNat r1)]?).bind fun e18 => (some e18)) else none) else (bif (eqS a0 QtL) then ((C0 a1 (1048576 : Int)).bind fun r19 => (some (w64 (r19 - 524288)))) else (bif (eqS a0 QtN) then ((C0 a1 (32768 : Int)).bind fun r20 => (some (w64 ((2 : Int) * (w64 (r20 - 16384)))))) else (bif (eqS a0 Fe) then ((C0 a1 (16777216 : Int)).bind fun r21 => (some (w64 ((2 : Int) * (w64 (r21 - 8388608)))))) else (bif (decide (0 ≤ r1 ∧ r1 < (([(0 : Int), (255 : Int), (256 : Int), (65280 : Int), (-1 : Int), (-2 : Int), (16711680 : Int), (-256 : Int), (2130706432 : Int)].length : Nat) : Int))) then (([(0 : Int), (255 : Int), (256 : Int), (65280 : Int), (-1 : Int), (-2 : Int), (16711680 : Int), (-256 : Int), (2130706432 : Int)][(Int.toNat r1)]?).bind fun e22 => (some e22)) else none))))))))))))))))))))))
noncomputable def WA : QiF := Pn Ws
theorem WA.eq (a0 : ByteArray) (a1 : Int) : WA a0 a1 = Pn Ws a0 a1 := rfl
noncomputable def Qn2 (a0 : ByteArray) (a1 : Int) : Tr Int AH := (YT a1 (zi 9) fun r1 => (let u101 := (eqS a0 s_X); .as u101 (.yes u101 (.rows [[xi i0], [xi (zi 1)], [xi (zi 7)], [xi (zi 24)], [xi (zi 31)], [xi (zi 5)], [xi (zi 28)], [xi (zi 3)], [xi (zi 30)]] (Qy [i0, (zi 1), (zi 7), (zi 24), (zi 31), (zi 5), (zi 28), (zi 3), (zi 30)]) (.ask (in1 r1 (((Qy [i0, (zi 1), (zi 7), (zi 24), (zi 31), (zi 5), (zi 28), (zi 3), (zi 30)]).length : Nat) : Int)) (in1 r1 (([i0, (zi 1), (zi 7), (zi 24), (zi 31), (zi 5), (zi 28), (zi 3), (zi 30)].length : Nat) : Int)) (.row ((Qy [i0, (zi 1), (zi 7), (zi 24), (zi 31), (zi 5), (zi 28), (zi 3), (zi 30)])[(Int.toNat r1)]?) ([i0, (zi 1), (zi 7), (zi 24), (zi 31), (zi 5), (zi 28), (zi 3), (zi 30)][(Int.toNat r1)]?) WW fun (e2 : Int) => (rt Qm e2)) .fail))) (.as (eqS a0 s_Y) (.rows [[xi i0], [xi (zi 1)], [xi (zi 7)], [xi (zi 24)], [xi (zi 31)], [xi (zi 5)], [xi (zi 28)], [xi (zi 3)], [xi (zi 30)]] (Qy [i0, (zi 1), (zi 7), (zi 24), (zi 31), (zi 5), (zi 28), (zi 3), (zi 30)]) (.ask (in1 r1 (((Qy [i0, (zi 1), (zi 7), (zi 24), (zi 31), (zi 5), (zi 28), (zi 3), (zi 30)]).length : Nat) : Int)) (in1 r1 (([i0, (zi 1), (zi 7), (zi 24), (zi 31), (zi 5), (zi 28), (zi 3), (zi 30)].length : Nat) : Int)) (.row ((Qy [i0, (zi 1), (zi 7), (zi 24), (zi 31), (zi 5), (zi 28), (zi 3), (zi 30)])[(Int.toNat r1)]?) ([i0, (zi 1), (zi 7), (zi 24), (zi 31), (zi 5), (zi 28), (zi 3), (zi 30)][(Int.toNat r1)]?) WW fun (e3 : Int) => (rt Qm e3)) .fail)) (let u100 := (eqS a0 s_D); .as u100 (.yes u100 (.rows [[xi i0], [xi (zi 31)], [xi (zi 1)], [xi (zi 15)], [xi (zi 16)], [xi (zi 7)], [xi (zi 30)], [xi (zi 12)], [xi (zi 3)]] (Qy [i0, (zi 31), (zi 1), (zi 15), (zi 16), (zi 7), (zi 30), (zi 12), (zi 3)]) (.ask (in1 r1 (((Qy [i0, (zi 31), (zi 1), (zi 15), (zi 16), (zi 7), (zi 30), (zi 12), (zi 3)]).length : Nat) : Int)) (in1 r1 (([i0, (zi 31), (zi 1), (zi 15), (zi 16), (zi 7), (zi 30), (zi 12), (zi 3)].length : Nat) : Int)) (.row ((Qy [i0, (zi 31), (zi 1), (zi 15), (zi 16), (zi 7), (zi 30), (zi 12), (zi 3)])[(Int.toNat r1)]?) ([i0, (zi 31), (zi 1), (zi 15), (zi 16), (zi 7), (zi 30), (zi 12), (zi 3)][(Int.toNat r1)]?) WW fun (e4 : Int) => (rt Qm e4)) .fail))) (let u99 := (eqS a0 s_A); .as u99 (.yes u99 (.rows [[xi i0], [xi (zi 31)], [xi (zi 1)], [xi (zi 15)], [xi (zi 16)], [xi (zi 7)], [xi (zi 30)], [xi (zi 12)], [xi (zi 3)]] (Qy [i0, (zi 31), (zi 1), (zi 15), (zi 16), (zi 7), (zi 30), (zi 12), (zi 3)]) (.ask (in1 r1 (((Qy [i0, (zi 31), (zi 1), (zi 15), (zi 16), (zi 7), (zi 30), (zi 12), (zi 3)]).length : Nat) : Int)) (in1 r1 (([i0, (zi 31), (zi 1), (zi 15), (zi 16), (zi 7), (zi 30), (zi 12), (zi 3)].length : Nat) : Int)) (.row ((Qy [i0, (zi 31), (zi 1), (zi 15), (zi 16), (zi 7), (zi 30), (zi 12), (zi 3)])[(Int.toNat r1)]?) ([i0, (zi 31), (zi 1), (zi 15), (zi 16), (zi 7), (zi 30), (zi 12), (zi 3)][(Int.toNat r1)]?) WW fun (e5 : Int) => (rt Qm e5)) .fail))) (let u98 := (eqS a0 s_B); .as u98 (.yes u98 (.rows [[xi i0], [xi (zi 31)], [xi (zi 1)], [xi (zi 15)], [xi (zi 16)], [xi (zi 7)], [xi (zi 30)], [xi (zi 12)], [xi (zi 3)]] (Qy [i0, (zi 31), (zi 1), (zi 15), (zi 16), (zi 7), (zi 30), (zi 12), (zi 3)]) (.ask (in1 r1 (((Qy [i0, (zi 31), (zi 1), (zi 15), (zi 16), (zi 7), (zi 30), (zi 12), (zi 3)]).length : Nat) : Int)) (in1 r1 (([i0, (zi 31), (zi 1), (zi 15), (zi 16), (zi 7), (zi 30), (zi 12), (zi 3)].length : Nat) : Int)) (.row ((Qy [i0, (zi 31), (zi 1), (zi 15), (zi 16), (zi 7), (zi 30), (zi 12), (zi 3)])[(Int.toNat r1)]?) ([i0, (zi 31), (zi 1), (zi 15), (zi 16), (zi 7), (zi 30), (zi 12), (zi 3)][(Int.toNat r1)]?) WW fun (e6 : Int) => (rt Qm e6)) .fail))) (.as (eqS a0 s_U5) (.rows [[xi i0], [xi (zi 31)], [xi (zi 1)], [xi (zi 15)], [xi (zi 16)], [xi (zi 7)], [xi (zi 30)], [xi (zi 12)], [xi (zi 3)]] (Qy [i0, (zi 31), (zi 1), (zi 15), (zi 16), (zi 7), (zi 30), (zi 12), (zi 3)]) (.ask (in1 r1 (((Qy [i0, (zi 31), (zi 1), (zi 15), (zi 16), (zi 7), (zi 30), (zi 12), (zi 3)]).length : Nat) : Int)) (in1 r1 (([i0, (zi 31), (zi 1), (zi 15), (zi 16), (zi 7), (zi 30), (zi 12), (zi 3)].length : Nat) : Int)) (.row ((Qy [i0, (zi 31), (zi 1), (zi 15), (zi 16), (zi 7), (zi 30), (zi 12), (zi 3)])[(Int.toNat r1)]?) ([i0, (zi 31), (zi 1), (zi 15), (zi 16), (zi 7), (zi 30), (zi 12), (zi 3)][(Int.toNat r1)]?) WW fun (e7 : Int) => (rt Qm e7)) .fail)) (.as (eqS a0 s_U7) (.rows [[xi i0], [xi (zi 127)], [xi (zi 64)], [xi (zi 1)], [xi (zi 63)], [xi (zi 100)], [xi (zi 7)], [xi (zi 15)], [xi (zi 16)]] (Qy [i0, (zi 127), (zi 64), (zi 1), (zi 63), (zi 100), (zi 7), (zi 15), (zi 16)]) (.ask (in1 r1 (((Qy [i0, (zi 127), (zi 64), (zi 1), (zi 63), (zi 100), (zi 7), (zi 15), (zi 16)]).length : Nat) : Int)) (in1 r1 (([i0, (zi 127), (zi 64), (zi 1), (zi 63), (zi 100), (zi 7), (zi 15), (zi 16)].length : Nat) : Int)) (.row ((Qy [i0, (zi 127), (zi 64), (zi 1), (zi 63), (zi 100), (zi 7), (zi 15), (zi 16)])[(Int.toNat r1)]?) ([i0, (zi 127), (zi 64), (zi 1), (zi 63), (zi 100), (zi 7), (zi 15), (zi 16)][(Int.toNat r1)]?) WW fun (e8 : Int) => (rt Qm e8)) .fail)) (.as (eqS a0 s_O5) (.rows [[xi (zi 1)], [xi (zi 32)], [xi (zi 2)], [xi (zi 16)], [xi (zi 31)], [xi (zi 17)], [xi (zi 8)], [xi (zi 5)], [xi (zi 30)]] (Qy [(zi 1), (zi 32), (zi 2), (zi 16), (zi 31), (zi 17), (zi 8), (zi 5), (zi 30)]) (.ask (in1 r1 (((Qy [(zi 1), (zi 32), (zi 2), (zi 16), (zi 31), (zi 17), (zi 8), (zi 5), (zi 30)]).length : Nat) : Int)) (in1 r1 (([(zi 1), (zi 32), (zi 2), (zi 16), (zi 31), (zi 17), (zi 8), (zi 5), (zi 30)].length : Nat) : Int)) (.row ((Qy [(zi 1), (zi 32), (zi 2), (zi 16), (zi 31), (zi 17), (zi 8), (zi 5), (zi 30)])[(Int.toNat r1)]?) ([(zi 1), (zi 32), (zi 2), (zi 16), (zi 31), (zi 17), (zi 8), (zi 5), (zi 30)][(Int.toNat r1)]?) WW fun (e9 : Int) => (rt Qm e9)) .fail)) (let u97 := (eqS a0 s_M1); .as u97 (.yes u97 (.rows [[xi i0], [xi (zi 15)], [xi (zi 1)], [xi (zi 7)], [xi (zi 8)], [xi (zi 4)], [xi (zi 12)], [xi (zi 3)], [xi (zi 14)]] (Qy [i0, (zi 15), (zi 1), (zi 7), (zi 8), (zi 4), (zi 12), (zi 3), (zi 14)]) (.ask (in1 r1 (((Qy [i0, (zi 15), (zi 1), (zi 7), (zi 8), (zi 4), (zi 12), (zi 3), (zi 14)]).length : Nat) : Int)) (in1 r1 (([i0, (zi 15), (zi 1), (zi 7), (zi 8), (zi 4), (zi 12), (zi 3), (zi 14)].length : Nat) : Int)) (.row ((Qy [i0, (zi 15), (zi 1), (zi 7), (zi 8), (zi 4), (zi 12), (zi 3), (zi 14)])[(Int.toNat r1)]?) ([i0, (zi 15), (zi 1), (zi 7), (zi 8), (zi 4), (zi 12), (zi 3), (zi 14)][(Int.toNat r1)]?) WW fun (e10 : Int) => (rt Qm e10)) .fail))) (.as (eqS a0 s_I4) (.rows [[xi i0], [xi (zi 15)], [xi (zi 1)], [xi (zi 7)], [xi (zi 8)], [xi (zi 4)], [xi (zi 12)], [xi (zi 3)], [xi (zi 14)]] (Qy [i0, (zi 15), (zi 1), (zi 7), (zi 8), (zi 4), (zi 12), (zi 3), (zi 14)]) (.ask (in1 r1 (((Qy [i0, (zi 15), (zi 1), (zi 7), (zi 8), (zi 4), (zi 12), (zi 3), (zi 14)]).length : Nat) : Int)) (in1 r1 (([i0, (zi 15), (zi 1), (zi 7), (zi 8), (zi 4), (zi 12), (zi 3), (zi 14)].length : Nat) : Int)) (.row ((Qy [i0, (zi 15), (zi 1), (zi 7), (zi 8), (zi 4), (zi 12), (zi 3), (zi 14)])[(Int.toNat r1)]?) ([i0, (zi 15), (zi 1), (zi 7), (zi 8), (zi 4), (zi 12), (zi 3), (zi 14)][(Int.toNat r1)]?) WW fun (e11 : Int) => (rt Qm e11)) .fail)) (.as (eqS a0 s_M2) (.rows [[xi i0], [xi (zi 15)], [xi (zi 1)], [xi (zi 7)], [xi (zi 8)], [xi (zi 4)], [xi (zi 12)], [xi (zi 3)], [xi (zi 14)]] (Qy [i0, (zi 15), (zi 1), (zi 7), (zi 8), (zi 4), (zi 12), (zi 3), (zi 14)]) (.ask (in1 r1 (((Qy [i0, (zi 15), (zi 1), (zi 7), (zi 8), (zi 4), (zi 12), (zi 3), (zi 14)]).length : Nat) : Int)) (in1 r1 (([i0, (zi 15), (zi 1), (zi 7), (zi 8), (zi 4), (zi 12), (zi 3), (zi 14)].length : Nat) : Int)) (.row ((Qy [i0, (zi 15), (zi 1), (zi 7), (zi 8), (zi 4), (zi 12), (zi 3), (zi 14)])[(Int.toNat r1)]?) ([i0, (zi 15), (zi 1), (zi 7), (zi 8), (zi 4), (zi 12), (zi 3), (zi 14)][(Int.toNat r1)]?) WW fun (e12 : Int) => (rt Qm (w64 ((zi 2) * e12)))) .fail)) (.as (eqS a0 s_M4) (.rows [[xi i0], [xi (zi 15)], [xi (zi 1)], [xi (zi 7)], [xi (zi 8)], [xi (zi 4)], [xi (zi 12)], [xi (zi 3)], [xi (zi 14)]] (Qy [i0, (zi 15), (zi 1), (zi 7), (zi 8), (zi 4), (zi 12), (zi 3), (zi 14)]) (.ask (in1 r1 (((Qy [i0, (zi 15), (zi 1), (zi 7), (zi 8), (zi 4), (zi 12), (zi 3), (zi 14)]).length : Nat) : Int)) (in1 r1 (([i0, (zi 15), (zi 1), (zi 7), (zi 8), (zi 4), (zi 12), (zi 3), (zi 14)].length : Nat) : Int)) (.row ((Qy [i0, (zi 15), (zi 1), (zi 7), (zi 8), (zi 4), (zi 12), (zi 3), (zi 14)])[(Int.toNat r1)]?) ([i0, (zi 15), (zi 1), (zi 7), (zi 8), (zi 4), (zi 12), (zi 3), (zi 14)][(Int.toNat r1)]?) WW fun (e13 : Int) => (rt Qm (w64 ((zi 4) * e13)))) .fail)) (.as (eqS a0 s_O1) (YT a1 (zi 2) fun r14 => (rt Qm r14)) (let u96 := (eqS a0 s_I2); .as u96 (.yes u96 (YT a1 (zi 4) fun r15 => (rt Qm r15))) (.as (eqS a0 s_O2) (YT a1 (zi 4) fun r16 => (rt Qm r16)) (.as (eqS a0 s_T8) (YT a1 (zi 256) fun r17 => (rt Qm (w64 ((zi 2) * (w64 (r17 - 128)))))) (.as (eqS a0 QtM) (.rows [[xi i0], [xi (zi 32767)], [xi (-32768 : Int)], [xi (-1 : Int)], [xi (zi 1)], [xi (zi 255)], [xi (-256 : Int)], [xi (zi 4660)], [xi (-4660 : Int)]] (Qy [i0, (zi 32767), (-32768 : Int), (-1 : Int), (zi 1), (zi 255), (-256 : Int), (zi 4660), (-4660 : Int)]) (.ask (in1 r1 (((Qy [i0, (zi 32767), (-32768 : Int), (-1 : Int), (zi 1), (zi 255), (-256 : Int), (zi 4660), (-4660 : Int)]).length : Nat) : Int)) (in1 r1 (([i0, (zi 32767), (-32768 : Int), (-1 : Int), (zi 1), (zi 255), (-256 : Int), (zi 4660), (-4660 : Int)].length : Nat) : Int)) (.row ((Qy [i0, (zi 32767), (-32768 : Int), (-1 : Int), (zi 1), (zi 255), (-256 : Int), (zi 4660), (-4660 : Int)])[(Int.toNat r1)]?) ([i0, (zi 32767), (-32768 : Int), (-1 : Int), (zi 1), (zi 255), (-256 : Int), (zi 4660), (-4660 : Int)][(Int.toNat r1)]?) WW fun (e18 : Int) => (rt Qm e18)) .fail)) (.as (eqS a0 QtL) (YT a1 (zi 1048576) fun r19 => (rt Qm (w64 (r19 - 524288)))) (.as (eqS a0 QtN) (YT a1 (zi 32768) fun r20 => (rt Qm (w64 ((zi 2) * (w64 (r20 - 16384)))))) (.as (eqS a0 Fe) (YT a1 (zi 16777216) fun r21 => (rt Qm (w64 ((zi 2) * (w64 (r21 - 8388608)))))) (.rows [[xi i0], [xi (zi 255)], [xi (zi 256)], [xi (zi 65280)], [xi (-1 : Int)], [xi (-2 : Int)], [xi (zi 16711680)], [xi (-256 : Int)], [xi (zi 2130706432)]] (Qy [i0, (zi 255), (zi 256), (zi 65280), (-1 : Int), (-2 : Int), (zi 16711680), (-256 : Int), (zi 2130706432)]) (.ask (in1 r1 (((Qy [i0, (zi 255), (zi 256), (zi 65280), (-1 : Int), (-2 : Int), (zi 16711680), (-256 : Int), (zi 2130706432)]).length : Nat) : Int)) (in1 r1 (([i0, (zi 255), (zi 256), (zi 65280), (-1 : Int), (-2 : Int), (zi 16711680), (-256 : Int), (zi 2130706432)].length : Nat) : Int)) (.row ((Qy [i0, (zi 255), (zi 256), (zi 65280), (-1 : Int), (-2 : Int), (zi 16711680), (-256 : Int), (zi 2130706432)])[(Int.toNat r1)]?) ([i0, (zi 255), (zi 256), (zi 65280), (-1 : Int), (-2 : Int), (zi 16711680), (-256 : Int), (zi 2130706432)][(Int.toNat r1)]?) WW fun (e22 : Int) => (rt Qm e22)) .fail)))))))))))))))))))))))
theorem WA.ok {a0 : ByteArray} {a1 : Int} {r : Int} (h : WA a0 a1 = some r) : ww 85 [xs a0, xi a1] [] = some (Qm r) := by
 refine fnP (Qn2 a0 a1) ?_ h
 exact fun r1 h => ⟨Ws.ok h, ⟨rfl, fun q0 => ⟨q0, ⟨(JP [(0 : Int), (1 : Int), (7 : Int), (24 : Int), (31 : Int), (5 : Int), (28 : Int), (3 : Int), (30 : Int)]), ⟨(by rw [JU]), fun q1 => fun e2 h => ⟨Vc h, rfl⟩, fun q1 => trivial⟩⟩⟩, fun q0 => ⟨rfl, fun q1 => ⟨(JP [(0 : Int), (1 : Int), (7 : Int), (24 : Int), (31 : Int), (5 : Int), (28 : Int), (3 : Int), (30 : Int)]), ⟨(by rw [JU]), fun q2 => fun e3 h => ⟨Vc h, rfl⟩, fun q2 => trivial⟩⟩, fun q1 => ⟨rfl, fun q2 => ⟨q2, ⟨(JP [(0 : Int), (31 : Int), (1 : Int), (15 : Int), (16 : Int), (7 : Int), (30 : Int), (12 : Int), (3 : Int)]), ⟨(by rw [JU]), fun q3 => fun e4 h => ⟨Vc h, rfl⟩, fun q3 => trivial⟩⟩⟩, fun q2 => ⟨rfl, fun q3 => ⟨q3, ⟨(JP [(0 : Int), (31 : Int), (1 : Int), (15 : Int), (16 : Int), (7 : Int), (30 : Int), (12 : Int), (3 : Int)]), ⟨(by rw [JU]), fun q4 => fun e5 h => ⟨Vc h, rfl⟩, fun q4 => trivial⟩⟩⟩, fun q3 => ⟨rfl, fun q4 => ⟨q4, ⟨(JP [(0 : Int), (31 : Int), (1 : Int), (15 : Int), (16 : Int), (7 : Int), (30 : Int), (12 : Int), (3 : Int)]), ⟨(by rw [JU]), fun q5 => fun e6 h => ⟨Vc h, rfl⟩, fun q5 => trivial⟩⟩⟩, fun q4 => ⟨rfl, fun q5 => ⟨(JP [(0 : Int), (31 : Int), (1 : Int), (15 : Int), (16 : Int), (7 : Int), (30 : Int), (12 : Int), (3 : Int)]), ⟨(by rw [JU]), fun q6 => fun e7 h => ⟨Vc h, rfl⟩, fun q6 => trivial⟩⟩, fun q5 => ⟨rfl, fun q6 => ⟨(JP [(0 : Int), (127 : Int), (64 : Int), (1 : Int), (63 : Int), (100 : Int), (7 : Int), (15 : Int), (16 : Int)]), ⟨(by rw [JU]), fun q7 => fun e8 h => ⟨Vc h, rfl⟩, fun q7 => trivial⟩⟩, fun q6 => ⟨rfl, fun q7 => ⟨(JP [(1 : Int), (32 : Int), (2 : Int), (16 : Int), (31 : Int), (17 : Int), (8 : Int), (5 : Int), (30 : Int)]), ⟨(by rw [JU]), fun q8 => fun e9 h => ⟨Vc h, rfl⟩, fun q8 => trivial⟩⟩, fun q7 => ⟨rfl, fun q8 => ⟨q8, ⟨(JP [(0 : Int), (15 : Int), (1 : Int), (7 : Int), (8 : Int), (4 : Int), (12 : Int), (3 : Int), (14 : Int)]), ⟨(by rw [JU]), fun q9 => fun e10 h => ⟨Vc h, rfl⟩, fun q9 => trivial⟩⟩⟩, fun q8 => ⟨rfl, fun q9 => ⟨(JP [(0 : Int), (15 : Int), (1 : Int), (7 : Int), (8 : Int), (4 : Int), (12 : Int), (3 : Int), (14 : Int)]), ⟨(by rw [JU]), fun q10 => fun e11 h => ⟨Vc h, rfl⟩, fun q10 => trivial⟩⟩, fun q9 => ⟨rfl, fun q10 => ⟨(JP [(0 : Int), (15 : Int), (1 : Int), (7 : Int), (8 : Int), (4 : Int), (12 : Int), (3 : Int), (14 : Int)]), ⟨(by rw [JU]), fun q11 => fun e12 h => ⟨Vc h, rfl⟩, fun q11 => trivial⟩⟩, fun q10 => ⟨rfl, fun q11 => ⟨(JP [(0 : Int), (15 : Int), (1 : Int), (7 : Int), (8 : Int), (4 : Int), (12 : Int), (3 : Int), (14 : Int)]), ⟨(by rw [JU]), fun q12 => fun e13 h => ⟨Vc h, rfl⟩, fun q12 => trivial⟩⟩, fun q11 => ⟨rfl, fun q12 => fun r14 h => ⟨Ws.ok h, rfl⟩, fun q12 => ⟨rfl, fun q13 => ⟨q13, fun r15 h => ⟨Ws.ok h, rfl⟩⟩, fun q13 => ⟨rfl, fun q14 => fun r16 h => ⟨Ws.ok h, rfl⟩, fun q14 => ⟨rfl, fun q15 => fun r17 h => ⟨Ws.ok h, rfl⟩, fun q15 => ⟨rfl, fun q16 => ⟨(JP [(0 : Int), (32767 : Int), (-32768 : Int), (-1 : Int), (1 : Int), (255 : Int), (-256 : Int), (4660 : Int), (-4660 : Int)]), ⟨(by rw [JU]), fun q17 => fun e18 h => ⟨Vc h, rfl⟩, fun q17 => trivial⟩⟩, fun q16 => ⟨rfl, fun q17 => fun r19 h => ⟨Ws.ok h, rfl⟩, fun q17 => ⟨rfl, fun q18 => fun r20 h => ⟨Ws.ok h, rfl⟩, fun q18 => ⟨rfl, fun q19 => fun r21 h => ⟨Ws.ok h, rfl⟩, fun q19 => ⟨(JP [(0 : Int), (255 : Int), (256 : Int), (65280 : Int), (-1 : Int), (-2 : Int), (16711680 : Int), (-256 : Int), (2130706432 : Int)]), ⟨(by rw [JU]), fun q20 => fun e22 h => ⟨Vc h, rfl⟩, fun q20 => trivial⟩⟩⟩⟩⟩⟩⟩⟩⟩⟩⟩⟩⟩⟩⟩⟩⟩⟩⟩⟩⟩⟩⟩
noncomputable abbrev Qb0 {ρ R : Type} (a0 : ByteArray) (a1 : Int) (k : Int → Tr ρ R) : Tr ρ R := .call (ww 85 [xs a0, xi a1] []) (WA a0 a1) Qm k
abbrev GA := Int → Int → Option Int
def QiG (a0 : Int) (a1 : Int) : Option Int := (bif (decide (a1 ≠ 0)) then (bif (decide ((Int.tmod a0 a1) < 0)) then (some (w64 ((Int.tmod a0 a1) + a1))) else (some (Int.tmod a0 a1))) else none)
noncomputable def VE : GA := QiG
theorem VE.eq (a0 : Int) (a1 : Int) : VE a0 a1 = QiG a0 a1 := rfl
noncomputable def Qpr (a0 : Int) (a1 : Int) : Tr Int AH := (.as (decide (a1 ≠ 0)) (.as (decide ((Int.tmod a0 a1) < 0)) (rt Qm (w64 ((Int.tmod a0 a1) + a1))) (rt Qm (Int.tmod a0 a1))) .fail)
theorem VE.ok {a0 : Int} {a1 : Int} {r : Int} (h : VE a0 a1 = some r) : ww 161 [xi a0, xi a1] [] = some (Qm r) := by
 refine fnP (Qpr a0 a1) ?_ h
 exact ⟨rfl, fun q0 => ⟨rfl, fun q1 => rfl, fun q1 => rfl⟩, fun q0 => trivial⟩
noncomputable abbrev SI {ρ R : Type} (a0 : Int) (a1 : Int) (k : Int → Tr ρ R) : Tr ρ R := .call (ww 161 [xi a0, xi a1] []) (VE a0 a1) Qm k
abbrev QcC := Option (List ByteArray)
def Qko : Option (List ByteArray) := (some [ST, s_x, Fy, s_r])
noncomputable def ZW : QcC := Qko
theorem ZW.eq : ZW = Qko := rfl
noncomputable def Qq3 : Tr (List ByteArray) AH := (.rows [[xs ST], [xs s_x], [xs Fy], [xs s_r]] (Qg [ST, s_x, Fy, s_r]) (rt Jg [ST, s_x, Fy, s_r]))
theorem ZW.ok {r : (List ByteArray)} (h : ZW = some r) : ww 162 [] [] = some (Jg r) := by
 refine fnP (Qq3) ?_ h
 exact ⟨(QP [ST, s_x, Fy, s_r]), rfl⟩
noncomputable abbrev Qq4 {ρ R : Type} (k : (List ByteArray) → Tr ρ R) : Tr ρ R := .call (ww 162 [] []) (ZW) Jg k
def UP (r : Qa) : AV × Heap := (.agg (QZ r), [])
abbrev Gj := QC → Int → Option Qa
abbrev Qn3 (c : Gj) : Prop := ∀ (a0 : QC) (a1 : Int) (r : Qa), c a0 a1 = some r → ww 163 [.agg (Ye a0), xi a1] [] = some (UP r)
abbrev Ze := QC → Option Qa
abbrev Qn4 (c : Ze) : Prop := ∀ (a0 : QC) (r : Qa), c a0 = some r → ww 108 [.agg (Ye a0)] [] = some (UP r)
noncomputable abbrev Qaz {ρ R : Type} (c : Gj) (a0 : QC) (a1 : Int) (k : Qa → Tr ρ R) : Tr ρ R := .call (ww 163 [.agg (Ye a0), xi a1] []) (c a0 a1) UP k
noncomputable abbrev Qfm {ρ R : Type} (c : Ze) (a0 : QC) (k : Qa → Tr ρ R) : Tr ρ R := .call (ww 108 [.agg (Ye a0)] []) (c a0) UP k
def Zt (C0 : Ze) (C1 : GA) (a0 : QC) (a1 : Int) : Option Qa := (bif (decide (a1 < (((a0.L.length) : Nat) : Int))) then (bif (decide (0 ≤ a1)) then ((a0.L[(Int.toNat a1)]?).bind fun e1 => ((C0 e1).bind fun r2 => (some r2))) else none) else ((C1 (w64 (a0.N + a1)) (5 : Int)).bind fun r3 => (some (Qa.mk (1 : Int) r3 s_ ([] : List Qa)))))
theorem Qfn {C0 : Nat → Ze} {D0 : Ze} (H0 : Cv1 C0 D0) {C1 : Nat → GA} {D1 : GA} (H1 : Cv2 C1 D1) (a0 : QC) (a1 : Int) : Cv (fun k => Zt (C0 k) (C1 k) a0 a1) (Zt D0 D1 a0 a1) := by
 unfold Zt
 exact .cond (.cond (.bind (.const _) fun e1 => .bind (H0 _) fun r2 => by exact .const _) cst) (.bind (H1 _ _) fun r3 => by exact .const _)
noncomputable def QmT (C0 : Ze) (a0 : QC) (a1 : Int) : Tr Qa AH := (.num ((U9 a0.L).length) (a0.L.length) (.as (decide (a1 < (((a0.L.length) : Nat) : Int))) (.as (decide (0 ≤ a1)) (.row ((U9 a0.L)[(Int.toNat a1)]?) (a0.L[(Int.toNat a1)]?) Ye fun (e1 : QC) => (Qfm C0 e1 fun r2 => (rt UP r2))) .fail) (SI (w64 (a0.N + a1)) (zi 5) fun r3 => (rt UP (Qa.mk (zi 1) r3 s_ ([] : List Qa))))))
def Zu (C0 : GA) (C1 : QcC) (C2 : Gj) (a0 : QC) : Option Qa := ((C0 a0.K (18 : Int)).bind fun r1 => (bif (decide (r1 < 4)) then ((C0 a0.N (8 : Int)).bind fun r2 => (bif (decide (0 ≤ r2 ∧ r2 < (([(0 : Int), (1 : Int), (2 : Int), (255 : Int), (65536 : Int), (4294967295 : Int), (40 : Int), (7 : Int)].length : Nat) : Int))) then (([(0 : Int), (1 : Int), (2 : Int), (255 : Int), (65536 : Int), (4294967295 : Int), (40 : Int), (7 : Int)][(Int.toNat r2)]?).bind fun e3 => (some (Qa.mk (1 : Int) e3 s_ ([] : List Qa)))) else none)) else (bif (decide (r1 < 8)) then ((C1).bind fun r4 => ((C0 a0.N (4 : Int)).bind fun r5 => (bif (decide (0 ≤ r5)) then ((r4[(Int.toNat r5)]?).bind fun e6 => (some (Qa.mk (2 : Int) (0 : Int) e6 ([] : List Qa)))) else none))) else (bif (r1 == 8) then (some (Qa.mk (3 : Int) (0 : Int) s_ ([] : List Qa))) else (bif (decide (r1 < 11)) then ((C2 a0 (0 : Int)).bind fun r7 => (some (Qa.mk (4 : Int) (0 : Int) s_ [r7]))) else ((C2 a0 (0 : Int)).bind fun r8 => ((C2 a0 (1 : Int)).bind fun r9 => (some (Qa.mk (w64 ((w64 ((5 : Int) + r1)) - 11)) (0 : Int) s_ [r8, r9])))))))))
theorem Qfo {C0 : Nat → GA} {D0 : GA} (H0 : Cv2 C0 D0) {C1 : Nat → QcC} {D1 : QcC} (H1 : Cv C1 D1) {C2 : Nat → Gj} {D2 : Gj} (H2 : Cv2 C2 D2) (a0 : QC) : Cv (fun k => Zu (C0 k) (C1 k) (C2 k) a0) (Zu D0 D1 D2 a0) := by
 unfold Zu
 exact .bind (H0 _ _) fun r1 => .cond (.bind (H0 _ _) fun r2 => by exact .const _) (.cond (.bind (H1) fun r4 => .bind (H0 _ _) fun r5 => by exact .const _) (.cond cst (.cond (.bind (H2 _ _) fun r7 => by exact .const _) (.bind (H2 _ _) fun r8 => .bind (H2 _ _) fun r9 => by exact .const _))))
noncomputable def QmU (C0 : Gj) (a0 : QC) : Tr Qa AH := (SI a0.K (zi 18) fun r1 => (.as (decide (r1 < 4)) (.rows [[xi i0], [xi (zi 1)], [xi (zi 2)], [xi (zi 255)], [xi (zi 65536)], [xi (zi 4294967295)], [xi (zi 40)], [xi (zi 7)]] (Qy [i0, (zi 1), (zi 2), (zi 255), (zi 65536), (zi 4294967295), (zi 40), (zi 7)]) (SI a0.N (zi 8) fun r2 => (.ask (in1 r2 (((Qy [i0, (zi 1), (zi 2), (zi 255), (zi 65536), (zi 4294967295), (zi 40), (zi 7)]).length : Nat) : Int)) (in1 r2 (([i0, (zi 1), (zi 2), (zi 255), (zi 65536), (zi 4294967295), (zi 40), (zi 7)].length : Nat) : Int)) (.row ((Qy [i0, (zi 1), (zi 2), (zi 255), (zi 65536), (zi 4294967295), (zi 40), (zi 7)])[(Int.toNat r2)]?) ([i0, (zi 1), (zi 2), (zi 255), (zi 65536), (zi 4294967295), (zi 40), (zi 7)][(Int.toNat r2)]?) WW fun (e3 : Int) => (rt UP (Qa.mk (zi 1) e3 s_ ([] : List Qa)))) .fail))) (.as (decide (r1 < 8)) (Qq4 fun r4 => (SI a0.N (zi 4) fun r5 => (.as (decide (0 ≤ r5)) (.row ((Qg r4)[(Int.toNat r5)]?) (r4[(Int.toNat r5)]?) QW fun (e6 : ByteArray) => (rt UP (Qa.mk (zi 2) i0 e6 ([] : List Qa)))) .fail))) (.as (r1 == 8) (rt UP (Qa.mk (zi 3) i0 s_ ([] : List Qa))) (.as (decide (r1 < 11)) (Qaz C0 a0 i0 fun r7 => (.rows [[xi r7.Kind, xi r7.N, xs r7.Name, .sl (QK r7.L)]] (QK [r7]) (rt UP (Qa.mk (zi 4) i0 s_ [r7])))) (Qaz C0 a0 i0 fun r8 => (Qaz C0 a0 (zi 1) fun r9 => (.rows [[xi r8.Kind, xi r8.N, xs r8.Name, .sl (QK r8.L)], [xi r9.Kind, xi r9.N, xs r9.Name, .sl (QK r9.L)]] (QK [r8, r9]) (rt UP (Qa.mk (w64 ((w64 ((zi 5) + r1)) - 11)) i0 s_ [r8, r9]))))))))))
mutual
noncomputable def UT.s : Nat → QC → Int → Option Qa
 | 0, _, _ => none
 | k + 1, a0, a1 => Zt (fun a0 => JV.s k a0) VE a0 a1
termination_by structural k => k
noncomputable def JV.s : Nat → QC → Option Qa
 | 0, _ => none
 | k + 1, a0 => Zu VE ZW (fun a0 a1 => UT.s k a0 a1) a0
termination_by structural k => k
end
theorem QcD : ∀ (k : Nat), (Qn3 (UT.s k)) ∧ (Qn4 (JV.s k))
 | 0 => ⟨fun _ _ _ h => (nomatch h), fun _ _ h => (nomatch h)⟩
 | k + 1 => by
  obtain ⟨i_w3_Raw_part, i_w3_Raw_Make⟩ := QcD k
  exact ⟨fun a0 a1 r h => by
    refine fnP (QmT (JV.s k) a0 a1) ?_ h
    exact ⟨(G3 _), ⟨rfl, fun q0 => ⟨rfl, fun q1 => fun e1 h => ⟨Qbk h, fun r2 h => ⟨i_w3_Raw_Make _ _ h, rfl⟩⟩, fun q1 => trivial⟩, fun q0 => fun r3 h => ⟨VE.ok h, rfl⟩⟩⟩,
   fun a0 r h => by
    refine fnP (QmU (UT.s k) a0) ?_ h
    exact fun r1 h => ⟨VE.ok h, ⟨rfl, fun q0 => ⟨(JP [(0 : Int), (1 : Int), (2 : Int), (255 : Int), (65536 : Int), (4294967295 : Int), (40 : Int), (7 : Int)]), fun r2 h => ⟨VE.ok h, ⟨(by rw [JU]), fun q1 => fun e3 h => ⟨Vc h, rfl⟩, fun q1 => trivial⟩⟩⟩, fun q0 => ⟨rfl, fun q1 => fun r4 h => ⟨ZW.ok h, fun r5 h => ⟨VE.ok h, ⟨rfl, fun q2 => fun e6 h => ⟨QO h, rfl⟩, fun q2 => trivial⟩⟩⟩, fun q1 => ⟨rfl, fun q2 => rfl, fun q2 => ⟨rfl, fun q3 => fun r7 h => ⟨i_w3_Raw_part _ _ _ h, ⟨(XF [r7]), rfl⟩⟩, fun q3 => fun r8 h => ⟨i_w3_Raw_part _ _ _ h, fun r9 h => ⟨i_w3_Raw_part _ _ _ h, ⟨(XF [r8, r9]), rfl⟩⟩⟩⟩⟩⟩⟩⟩⟩
theorem Fo : ∀ (k : Nat), (∀ (a0 : QC) (a1 : Int), Le (UT.s k a0 a1) (UT.s (k + 1) a0 a1)) ∧ (∀ (a0 : QC), Le (JV.s k a0) (JV.s (k + 1) a0))
 | 0 => ⟨fun _ _ _ h => (nomatch h), fun _ _ h => (nomatch h)⟩
 | k + 1 => by
  obtain ⟨i_w3_Raw_part, i_w3_Raw_Make⟩ := Fo k
  exact ⟨fun a0 a1 => (Qfn (tw1 i_w3_Raw_Make) ks2 a0 a1).1 0,
   fun a0 => (Qfo ks2 ks0 (tw2 i_w3_Raw_part) a0).1 0⟩
noncomputable def UT (a0 : QC) (a1 : Int) : Option Qa := lim fun k => UT.s k a0 a1
theorem UT.cv (a0 : QC) (a1 : Int) : Cv (fun k => UT.s k a0 a1) (UT a0 a1) := .lim fun k => (Fo k).1 a0 a1
noncomputable def JV (a0 : QC) : Option Qa := lim fun k => JV.s k a0
theorem JV.cv (a0 : QC) : Cv (fun k => JV.s k a0) (JV a0) := .lim fun k => (Fo k).2 a0
theorem JV.ok {a0 : QC} {r : Qa} (h : JV a0 = some r) : ww 108 [.agg (Ye a0)] [] = some (UP r) := let ⟨k, e⟩ := ((JV.cv a0).2 r).1 h; (QcD k).2 a0 _ e
theorem UT.eq (a0 : QC) (a1 : Int) : UT a0 a1 = Zt JV VE a0 a1 := Cv.uniq (UT.cv a0 a1).shift (Qfn JV.cv ks2 a0 a1)
theorem JV.eq (a0 : QC) : JV a0 = Zu VE ZW UT a0 := Cv.uniq (JV.cv a0).shift (Qfo ks2 ks0 UT.cv a0)
noncomputable abbrev QmV {ρ R : Type} (a0 : QC) (k : Qa → Tr ρ R) : Tr ρ R := Qfm JV a0 k
abbrev QhM := (List QC) → Option Qa
def Qjl (C0 : Ze) (a0 : (List QC)) : Option Qa := (bif ((((a0.length) : Nat) : Int) == 0) then (some (Qa.mk (1 : Int) (1 : Int) s_ ([] : List Qa))) else ((a0[(Int.toNat 0)]?).bind fun e1 => ((C0 e1).bind fun r2 => (some r2))))
noncomputable def Ya : QhM := Qjl JV
theorem Ya.eq (a0 : (List QC)) : Ya a0 = Qjl JV a0 := rfl
noncomputable def Qs6 (a0 : (List QC)) : Tr Qa AH := (.num ((U9 a0).length) (a0.length) (.as ((((a0.length) : Nat) : Int) == 0) (rt UP (Qa.mk (zi 1) (zi 1) s_ ([] : List Qa))) (.yes (decide (0 ≤ i0)) (.row ((U9 a0)[(Int.toNat 0)]?) (a0[(Int.toNat 0)]?) Ye fun (e1 : QC) => (QmV e1 fun r2 => (rt UP r2))))))
theorem Ya.ok {a0 : (List QC)} {r : Qa} (h : Ya a0 = some r) : ww 66 [.sl (U9 a0)] [] = some (UP r) := by
 refine fnP (Qs6 a0) ?_ h
 exact ⟨(G3 _), ⟨rfl, fun q0 => rfl, fun q0 => ⟨rfl, fun e1 h => ⟨Qbk h, fun r2 h => ⟨JV.ok h, rfl⟩⟩⟩⟩⟩
noncomputable abbrev Qjm {ρ R : Type} (a0 : (List QC)) (k : Qa → Tr ρ R) : Tr ρ R := .call (ww 66 [.sl (U9 a0)] []) (Ya a0) UP k
abbrev Qa2 := Option (List ByteArray)
def QiH : Option (List ByteArray) := (some [s_a, s_b1, FS, s_x])
noncomputable def JA : Qa2 := QiH
theorem JA.eq : JA = QiH := rfl
noncomputable def Qps : Tr (List ByteArray) AH := (.rows [[xs s_a], [xs s_b1], [xs FS], [xs s_x]] (Qg [s_a, s_b1, FS, s_x]) (rt Jg [s_a, s_b1, FS, s_x]))
theorem JA.ok {r : (List ByteArray)} (h : JA = some r) : ww 64 [] [] = some (Jg r) := by
 refine fnP (Qps) ?_ h
 exact ⟨(QP [s_a, s_b1, FS, s_x]), rfl⟩
noncomputable abbrev VH {ρ R : Type} (k : (List ByteArray) → Tr ρ R) : Tr ρ R := .call (ww 64 [] []) (JA) Jg k
abbrev XU := Int → Option ByteArray
abbrev Qkp (c : XU) : Prop := ∀ (a0 : Int) (r : ByteArray), c a0 = some r → ww 40 [xi a0] [] = some (Qk r)
noncomputable abbrev SJ {ρ R : Type} (c : XU) (a0 : Int) (k : ByteArray → Tr ρ R) : Tr ρ R := .call (ww 40 [xi a0] []) (c a0) Qk k
def ZX (C0 : XU) (a0 : Int) : Option ByteArray := (bif (decide (a0 < 0)) then ((C0 (w64 ((0 : Int) - a0))).bind fun r1 => (bif (decide (((h_2d.size + r1.size : Nat) : Int) ≤ IntKind.i64.max)) then (some (h_2d ++ r1)) else none)) else (bif (decide (a0 ≥ 10)) then ((C0 (w64 (Int.tdiv a0 (10 : Int)))).bind fun r2 => ((C0 (Int.tmod a0 (10 : Int))).bind fun r3 => (bif (decide (((r2.size + r3.size : Nat) : Int) ≤ IntKind.i64.max)) then (some (r2 ++ r3)) else none))) else ((some (listB [(IntKind.u8.wrap (w64 ((48 : Int) + a0)))])).bind fun e4 => (some (⟨e4.toArray⟩ : ByteArray)))))
theorem QiI {C0 : Nat → XU} {D0 : XU} (H0 : Cv1 C0 D0) (a0 : Int) : Cv (fun k => ZX (C0 k) a0) (ZX D0 a0) := by
 unfold ZX
 exact .cond (.bind (H0 _) fun r1 => by exact .const _) (.cond (.bind (H0 _) fun r2 => .bind (H0 _) fun r3 => by exact .const _) cst)
noncomputable def Qpt (C0 : XU) (a0 : Int) : Tr ByteArray AH := (.as (decide (a0 < 0)) (SJ C0 (w64 (i0 - a0)) fun r1 => (.as (decide (((h_2d.size + r1.size : Nat) : Int) ≤ IntKind.i64.max)) (rt Qk (h_2d ++ r1)) .fail)) (.as (decide (a0 ≥ 10)) (.yes (decide ((zi 10) ≠ 0)) (SJ C0 (w64 (Int.tdiv a0 (zi 10))) fun r2 => (.yes (decide ((zi 10) ≠ 0)) (SJ C0 (Int.tmod a0 (zi 10)) fun r3 => (.as (decide (((r2.size + r3.size : Nat) : Int) ≤ IntKind.i64.max)) (rt Qk (r2 ++ r3)) .fail))))) (.rows [[xb (IntKind.u8.wrap (w64 ((zi 48) + a0)))]] (R_u8 [(IntKind.u8.wrap (w64 ((zi 48) + a0)))]) (.byt (bytesOfRows (R_u8 [(IntKind.u8.wrap (w64 ((zi 48) + a0)))])) (some (listB [(IntKind.u8.wrap (w64 ((zi 48) + a0)))])) fun (e4 : List UInt8) => (rt Qk (⟨e4.toArray⟩ : ByteArray))))))
noncomputable def Jo.s : Nat → Int → Option ByteArray
 | 0, _ => none
 | k + 1, a0 => ZX (fun a0 => Jo.s k a0) a0
termination_by structural k => k
theorem Qfp : ∀ (k : Nat), (Qkp (Jo.s k))
 | 0 => fun _ _ h => (nomatch h)
 | k + 1 => by
  have i_r3_Digits : Qkp (Jo.s k) := Qfp k
  exact fun a0 r h => by
    refine fnP (Qpt (Jo.s k) a0) ?_ h
    exact ⟨rfl, fun q0 => fun r1 h => ⟨i_r3_Digits _ _ h, ⟨rfl, fun q1 => rfl, fun q1 => trivial⟩⟩, fun q0 => ⟨rfl, fun q1 => ⟨rfl, fun r2 h => ⟨i_r3_Digits _ _ h, ⟨rfl, fun r3 h => ⟨i_r3_Digits _ _ h, ⟨rfl, fun q2 => rfl, fun q2 => trivial⟩⟩⟩⟩⟩, fun q1 => ⟨(Qeo [(IntKind.u8.wrap (w64 ((48 : Int) + a0)))]), fun e4 h => ⟨(QlS _).trans h, rfl⟩⟩⟩⟩
theorem Qd1 : ∀ (k : Nat), (∀ (a0 : Int), Le (Jo.s k a0) (Jo.s (k + 1) a0))
 | 0 => fun _ _ h => (nomatch h)
 | k + 1 => by
  have i_r3_Digits : ∀ (a0 : Int), Le (Jo.s k a0) (Jo.s (k + 1) a0) := Qd1 k
  exact fun a0 => (QiI (tw1 i_r3_Digits) a0).1 0
noncomputable def Jo (a0 : Int) : Option ByteArray := lim fun k => Jo.s k a0
theorem Jo.cv (a0 : Int) : Cv (fun k => Jo.s k a0) (Jo a0) := .lim fun k => (Qd1 k) a0
theorem Jo.ok {a0 : Int} {r : ByteArray} (h : Jo a0 = some r) : ww 40 [xi a0] [] = some (Qk r) := let ⟨k, e⟩ := ((Jo.cv a0).2 r).1 h; (Qfp k) a0 _ e
theorem Jo.eq (a0 : Int) : Jo a0 = ZX Jo a0 := Cv.uniq (Jo.cv a0).shift (QiI Jo.cv a0)
noncomputable abbrev SK {ρ R : Type} (a0 : Int) (k : ByteArray → Tr ρ R) : Tr ρ R := SJ Jo a0 k
def Fp (r : Qf) : AV × Heap := (.tup [], [(0, .box [] (Jh r))])
abbrev Po := Qf → Option Qf
def GT (a : Qf) : St := { n := 31, nx := 1, env := [(0, .ptr 0 0)], heap := [(0, .box [] (Jh a))] }
def Zk (a : Qf) : Ex × St := (.exit 0, { n := 31, nx := 1, env := [], heap := [(0, .box [] (Jh a))] })
abbrev Qai := Qf → Option Qf
def Zl (a : Qf) : Option (Qf ⊕ Qf) := (bif (decide (a.P < ((a.S.size : Nat) : Int))) then (bif (decide (0 ≤ a.P ∧ a.P < ((a.S.size : Nat) : Int))) then (bif (((a.S.data.getD (Int.toNat a.P) 0).toNat : Int) == 32) then (some (.inl (Qf.mk a.S (w64 (a.P + 1)) a.Deep a.Bad))) else (some (.inr a))) else none) else (some (.inr a)))
noncomputable def UQ : Qai := loopW (Zl )
theorem UQ.eq (a : Qf) : UQ a = (Zl a).bind (Sum.elim UQ some) := Ja _ _
noncomputable abbrev QfS {ρ R : Type} (a : Qf) (k0 : Qf → Tr ρ R) : Tr ρ R := .loop (loopAt pp 160 0) (GT a) (UQ a) Zk k0
noncomputable def QfT (a : Qf) : Tr (Qf ⊕ Qf) XS := (let u102 := (decide (a.P < (zz a.S))); .as u102 (yesN 8 u102 (.as (in1 a.P (zz a.S)) (yesN 2 u102 (.as ((gb a.S a.P) == 32) (lf GT (Qf.mk a.S (w64 (a.P + 1)) a.Deep a.Bad)) (rx Zk a))) .fail)) (noN 10 u102 (.no false (rx Zk a))))
theorem UQ.ok {a : Qf} {r : Qf} (h : UQ a = some r) : lw 1 160 (loopAt pp 160 0) (GT a) = some (Zk r) := by
 refine lpP h QfT fun a => ?_
 exact ⟨rfl, fun q0 => Qj 8 (q0) (⟨rfl, fun q1 => Qj 2 (q0) (⟨rfl, fun q2 => rfl, fun q2 => rfl⟩), fun q1 => trivial⟩), fun q0 => noN_ok 10 (q0) (⟨rfl, rfl⟩)⟩
def Fq (L0 : Qai) (h0 : Qf) : Option Qf := ((L0 h0).bind (fun (o1 : Qf) => (some o1)))
noncomputable def U3 : Po := Fq UQ
theorem U3.eq (h0 : Qf) : U3 h0 = Fq UQ h0 := rfl
noncomputable def Qjn (h0 : Qf) : Tr Qf AH := (QfS h0 (fun o1 => (rt Fp o1)))
theorem U3.ok {h0 : Qf} {r : Qf} (h : U3 h0 = some r) : ww 160 [.ptr 0 0] [(0, .box [] (Jh h0))] = some (Fp r) := by
 refine fnP (Qjn h0) ?_ h
 exact fun o1 h => ⟨UQ.ok h, rfl⟩
noncomputable abbrev Qb1 {ρ R : Type} (h0 : Qf) (k : Qf → Tr ρ R) : Tr ρ R := .call (ww 160 [.ptr 0 0] [(0, .box [] (Jh h0))]) (U3 h0) Fp k
def Gk (r : (Bool × Qf)) : AV × Heap := (xo r.1, [(0, .box [] (Jh r.2))])
abbrev X4 := ByteArray → Qf → Option (Bool × Qf)
def Sm (C0 : Po) (a1 : ByteArray) (h0 : Qf) : Option (Bool × Qf) := ((C0 h0).bind fun r1 => (bif (decide ((w64 (r1.P + ((a1.size : Nat) : Int))) > ((r1.S.size : Nat) : Int))) then (some (false, r1)) else (bif (decide (0 ≤ r1.P ∧ r1.P ≤ (w64 (r1.P + ((a1.size : Nat) : Int))) ∧ (w64 (r1.P + ((a1.size : Nat) : Int))) ≤ ((r1.S.size : Nat) : Int))) then (bif (!(eqS (r1.S.extract (Int.toNat r1.P) (Int.toNat (w64 (r1.P + ((a1.size : Nat) : Int))))) a1)) then (some (false, r1)) else (some (true, (Qf.mk r1.S (w64 (r1.P + ((a1.size : Nat) : Int))) r1.Deep r1.Bad)))) else none)))
noncomputable def Us : X4 := Sm U3
theorem Us.eq (a1 : ByteArray) (h0 : Qf) : Us a1 h0 = Sm U3 a1 h0 := rfl
noncomputable def Qlj (a1 : ByteArray) (h0 : Qf) : Tr (Bool × Qf) AH := (Qb1 h0 fun r1 => (let u103 := (decide ((w64 (r1.P + (zz a1))) > (zz r1.S))); .as u103 (yesN 18 u103 (.yes true (rt Gk (false, r1)))) (noN 15 u103 (.as (in2 r1.P (w64 (r1.P + (zz a1))) (zz r1.S)) (noN 3 u103 (.as (!(eqS (cu r1.S r1.P (w64 (r1.P + (zz a1)))) a1)) (rt Gk (false, r1)) (rt Gk (true, (Qf.mk r1.S (w64 (r1.P + (zz a1))) r1.Deep r1.Bad))))) .fail))))
theorem Us.ok {a1 : ByteArray} {h0 : Qf} {r : (Bool × Qf)} (h : Us a1 h0 = some r) : ww 233 [.ptr 0 0, xs a1] [(0, .box [] (Jh h0))] = some (Gk r) := by
 refine fnP (Qlj a1 h0) ?_ h
 exact fun r1 h => ⟨U3.ok h, ⟨rfl, fun q0 => Qj 18 (q0) (⟨rfl, rfl⟩), fun q0 => noN_ok 15 (q0) (⟨rfl, fun q1 => noN_ok 3 (q0) (⟨rfl, fun q2 => rfl, fun q2 => rfl⟩), fun q1 => trivial⟩)⟩⟩
noncomputable abbrev Y3 {ρ R : Type} (a1 : ByteArray) (h0 : Qf) (k : (Bool × Qf) → Tr ρ R) : Tr ρ R := .call (ww 233 [.ptr 0 0, xs a1] [(0, .box [] (Jh h0))]) (Us a1 h0) Gk k
abbrev Qaj := Int → Int → Option Int
def Pp (a0 : Int) (a1 : Int) : Option Int := (bif (decide (a0 ≥ 48)) then (bif (decide (a0 ≤ (57 : Int))) then (some (w64 (IntKind.u8.wrap (a0 - 48)))) else (bif (a1 == 16) then (bif (decide (a0 ≥ 97)) then (bif (decide (a0 ≤ (102 : Int))) then (some (w64 ((w64 (IntKind.u8.wrap (a0 - 97))) + 10))) else (some (-1 : Int))) else (some (-1 : Int))) else (some (-1 : Int)))) else (bif (a1 == 16) then (bif (decide (a0 ≥ 97)) then (bif (decide (a0 ≤ (102 : Int))) then (some (w64 ((w64 (IntKind.u8.wrap (a0 - 97))) + 10))) else (some (-1 : Int))) else (some (-1 : Int))) else (some (-1 : Int))))
noncomputable def V0 : Qaj := Pp
theorem V0.eq (a0 : Int) (a1 : Int) : V0 a0 a1 = Pp a0 a1 := rfl
noncomputable def Qq5 (a0 : Int) (a1 : Int) : Tr Int AH := (let u108 := (decide (a0 ≥ 48)); .as u108 (yesN 2 u108 (.as (decide (a0 ≤ (zi 57))) (rt Qm (w64 (IntKind.u8.wrap (a0 - 48)))) (let u105 := (a1 == 16); .as u105 (yesN 2 u105 (let u104 := (decide (a0 ≥ 97)); .as u104 (yesN 2 u104 (.as (decide (a0 ≤ (zi 102))) (rt Qm (w64 ((w64 (IntKind.u8.wrap (a0 - 97))) + 10))) (rt Qm (-1 : Int)))) (noN 2 u104 (.no false (rt Qm (-1 : Int)))))) (noN 2 u105 (noN 4 false (rt Qm (-1 : Int))))))) (noN 2 u108 (.no false (let u107 := (a1 == 16); .as u107 (yesN 2 u107 (let u106 := (decide (a0 ≥ 97)); .as u106 (yesN 2 u106 (.as (decide (a0 ≤ (zi 102))) (rt Qm (w64 ((w64 (IntKind.u8.wrap (a0 - 97))) + 10))) (rt Qm (-1 : Int)))) (noN 2 u106 (.no false (rt Qm (-1 : Int)))))) (noN 2 u107 (noN 4 false (rt Qm (-1 : Int))))))))
theorem V0.ok {a0 : Int} {a1 : Int} {r : Int} (h : V0 a0 a1 = some r) : ww 236 [xb a0, xi a1] [] = some (Qm r) := by
 refine fnP (Qq5 a0 a1) ?_ h
 exact ⟨rfl, fun q0 => Qj 2 (q0) (⟨rfl, fun q1 => rfl, fun q1 => ⟨rfl, fun q2 => Qj 2 (q2) (⟨rfl, fun q3 => Qj 2 (q3) (⟨rfl, fun q4 => rfl, fun q4 => rfl⟩), fun q3 => noN_ok 2 (q3) (⟨rfl, rfl⟩)⟩), fun q2 => noN_ok 2 (q2) (noN_ok 4 (rfl) (rfl))⟩⟩), fun q0 => noN_ok 2 (q0) (⟨rfl, ⟨rfl, fun q1 => Qj 2 (q1) (⟨rfl, fun q2 => Qj 2 (q2) (⟨rfl, fun q3 => rfl, fun q3 => rfl⟩), fun q2 => noN_ok 2 (q2) (⟨rfl, rfl⟩)⟩), fun q1 => noN_ok 2 (q1) (noN_ok 4 (rfl) (rfl))⟩⟩)⟩
noncomputable abbrev QeG {ρ R : Type} (a0 : Int) (a1 : Int) (k : Int → Tr ρ R) : Tr ρ R := .call (ww 236 [xb a0, xi a1] []) (V0 a0 a1) Qm k
def QE (r : (Qa × Qf)) : AV × Heap := (.agg (QZ r.1), [(0, .box [] (Jh r.2))])
abbrev Z6 := Int → Qf → Option (Qa × Qf)
structure JL where
 x1 : Int
 x5 : Int
 x6 : Int
 h0 : Qf
 h1 : Qa
structure Uq where
 h0 : Qf
 h1 : Qa
structure JS where
 x5 : Int
 x6 : Int
 h0 : Qf
 h1 : Qa
def Gl (a : JL) : St := { n := 74, nx := 2, env := [(0, .ptr 0 0), (1, xi a.x1), (4, .ptr 1 0), (5, xi a.x5), (6, xi a.x6)], heap := [(0, .box [] (Jh a.h0)), (1, .box [] (QZ a.h1))] }
def E8 (a : Uq) : Ex × St := (.ret, { n := 74, nx := 2, env := [(4, .ptr 1 0)], heap := [(0, .box [] (Jh a.h0)), (1, .box [] (QZ a.h1))] })
def E9 (a : JS) : Ex × St := (.exit 0, { n := 74, nx := 2, env := [(0, .ptr 0 0), (4, .ptr 1 0), (5, xi a.x5), (6, xi a.x6)], heap := [(0, .box [] (Jh a.h0)), (1, .box [] (QZ a.h1))] })
def YA (a : (Uq ⊕ JS)) : Ex × St := Sum.elim E8 E9 a
abbrev Pq := JL → Option (Uq ⊕ JS)
def XJ (C0 : Qaj) (a : JL) : Option (JL ⊕ (Uq ⊕ JS)) := (bif (decide (a.h0.P < ((a.h0.S.size : Nat) : Int))) then (bif (decide (0 ≤ a.h0.P ∧ a.h0.P < ((a.h0.S.size : Nat) : Int))) then ((C0 ((a.h0.S.data.getD (Int.toNat a.h0.P) 0).toNat : Int) a.x1).bind fun r1 => (bif (decide (r1 ≥ 0)) then ((C0 ((a.h0.S.data.getD (Int.toNat a.h0.P) 0).toNat : Int) a.x1).bind fun r2 => (bif (decide ((w64 ((w64 (a.x1 * a.x5)) + r2)) ≥ 4294967296)) then (some (.inr (.inl (Uq.mk (Qf.mk a.h0.S (w64 (a.h0.P + 1)) a.h0.Deep true) (Qa.mk (0 : Int) (0 : Int) s_ ([] : List Qa)))))) else (some (.inl (JL.mk a.x1 (w64 ((w64 (a.x1 * a.x5)) + r2)) a.x6 (Qf.mk a.h0.S (w64 (a.h0.P + 1)) a.h0.Deep a.h0.Bad) a.h1))))) else (some (.inr (.inr (JS.mk a.x5 a.x6 a.h0 a.h1)))))) else none) else (some (.inr (.inr (JS.mk a.x5 a.x6 a.h0 a.h1)))))
noncomputable def Je : Pq := loopW (XJ V0)
theorem Je.eq (a : JL) : Je a = (XJ V0 a).bind (Sum.elim Je some) := Ja _ _
noncomputable abbrev Qd2 {ρ R : Type} (a : JL) (k0 : Uq → Tr ρ R) (k1 : JS → Tr ρ R) : Tr ρ R := .loop2 (loopAt pp 235 2) (Gl a) (Je a) E8 E9 k0 k1
noncomputable def Qd3 (a : JL) : Tr (JL ⊕ (Uq ⊕ JS)) XS := (let u110 := (decide (a.h0.P < (zz a.h0.S))); .as u110 (yesN 8 u110 (let u109 := (in1 a.h0.P (zz a.h0.S)); .as u109 (yesN 2 u110 (QeG (gb a.h0.S a.h0.P) a.x1 fun r1 => (yesN 2 u110 (.as (decide (r1 ≥ 0)) (.yes u109 (QeG (gb a.h0.S a.h0.P) a.x1 fun r2 => (.as (decide ((w64 ((w64 (a.x1 * a.x5)) + r2)) ≥ 4294967296)) (rx YA (.inl (Uq.mk (Qf.mk a.h0.S (w64 (a.h0.P + 1)) a.h0.Deep true) (Qa.mk i0 i0 s_ ([] : List Qa))))) (lf Gl (JL.mk a.x1 (w64 ((w64 (a.x1 * a.x5)) + r2)) a.x6 (Qf.mk a.h0.S (w64 (a.h0.P + 1)) a.h0.Deep a.h0.Bad) a.h1))))) (rx YA (.inr (JS.mk a.x5 a.x6 a.h0 a.h1))))))) .fail)) (noN 12 u110 (.no false (rx YA (.inr (JS.mk a.x5 a.x6 a.h0 a.h1))))))
theorem Je.ok {a : JL} {r : (Uq ⊕ JS)} (h : Je a = some r) : lw 1 235 (loopAt pp 235 2) (Gl a) = some (YA r) := by
 refine lpP h Qd3 fun a => ?_
 exact ⟨rfl, fun q0 => Qj 8 (q0) (⟨rfl, fun q1 => Qj 2 (q0) (fun r1 h => ⟨V0.ok h, Qj 2 (q0) (⟨rfl, fun q2 => ⟨q1, fun r2 h => ⟨V0.ok h, ⟨rfl, fun q3 => rfl, fun q3 => rfl⟩⟩⟩, fun q2 => rfl⟩)⟩), fun q1 => trivial⟩), fun q0 => noN_ok 12 (q0) (⟨rfl, rfl⟩)⟩
def ZJ (L0 : Pq) (a1 : Int) (h0 : Qf) : Option (Qa × Qf) := ((L0 (JL.mk a1 (0 : Int) h0.P h0 (Qa.mk (0 : Int) (0 : Int) s_ ([] : List Qa)))).bind fun x => Sum.elim (fun (o1 : Uq) => (some (o1.h1, o1.h0))) (fun (o2 : JS) => (bif (o2.x6 == o2.h0.P) then (some ((Qa.mk (1 : Int) o2.x5 s_ ([] : List Qa)), (Qf.mk o2.h0.S o2.h0.P o2.h0.Deep true))) else (some ((Qa.mk (1 : Int) o2.x5 s_ ([] : List Qa)), o2.h0)))) x)
noncomputable def J9 : Z6 := ZJ Je
theorem J9.eq (a1 : Int) (h0 : Qf) : J9 a1 h0 = ZJ Je a1 h0 := rfl
noncomputable def QgZ (a1 : Int) (h0 : Qf) : Tr (Qa × Qf) AH := (Qd2 (JL.mk a1 i0 h0.P h0 (Qa.mk i0 i0 s_ ([] : List Qa))) (fun o1 => (rt QE (o1.h1, o1.h0))) (fun o2 => (.as (o2.x6 == o2.h0.P) (rt QE ((Qa.mk (zi 1) o2.x5 s_ ([] : List Qa)), (Qf.mk o2.h0.S o2.h0.P o2.h0.Deep true))) (rt QE ((Qa.mk (zi 1) o2.x5 s_ ([] : List Qa)), o2.h0)))))
theorem J9.ok {a1 : Int} {h0 : Qf} {r : (Qa × Qf)} (h : J9 a1 h0 = some r) : ww 235 [.ptr 0 0, xi a1] [(0, .box [] (Jh h0))] = some (QE r) := by
 refine fnP (QgZ a1 h0) ?_ h
 exact ⟨fun o1 h => ⟨Je.ok (r := (.inl _)) h, rfl⟩, fun o2 h => ⟨Je.ok (r := (.inr _)) h, ⟨rfl, fun q0 => rfl, fun q0 => rfl⟩⟩⟩
noncomputable abbrev Qak {ρ R : Type} (a1 : Int) (h0 : Qf) (k : (Qa × Qf) → Tr ρ R) : Tr ρ R := .call (ww 235 [.ptr 0 0, xi a1] [(0, .box [] (Jh h0))]) (J9 a1 h0) QE k
abbrev GW := Qf → Option (Qa × Qf)
structure QN where
 x3 : Int
 h0 : Qf
 h1 : Qa
structure Jl where
 x3 : Int
 h0 : Qf
 h1 : Qa
def VC (a : QN) : St := { n := 111, nx := 2, env := [(0, .ptr 0 0), (2, .ptr 1 0), (3, xi a.x3)], heap := [(0, .box [] (Jh a.h0)), (1, .box [] (QZ a.h1))] }
def WR (a : Jl) : Ex × St := (.exit 0, { n := 111, nx := 2, env := [(0, .ptr 0 0), (2, .ptr 1 0), (3, xi a.x3)], heap := [(0, .box [] (Jh a.h0)), (1, .box [] (QZ a.h1))] })
abbrev Qal := QN → Option Jl
def Zm (a : QN) : Option (QN ⊕ Jl) := (bif (decide (a.h0.P < ((a.h0.S.size : Nat) : Int))) then (bif (decide (0 ≤ a.h0.P ∧ a.h0.P < ((a.h0.S.size : Nat) : Int))) then (bif (decide (((a.h0.S.data.getD (Int.toNat a.h0.P) 0).toNat : Int) ≥ 97)) then (bif (decide (((a.h0.S.data.getD (Int.toNat a.h0.P) 0).toNat : Int) ≤ 122)) then (some (.inl (QN.mk a.x3 (Qf.mk a.h0.S (w64 (a.h0.P + 1)) a.h0.Deep a.h0.Bad) a.h1))) else (bif (decide (((a.h0.S.data.getD (Int.toNat a.h0.P) 0).toNat : Int) ≥ 48)) then (bif (decide (((a.h0.S.data.getD (Int.toNat a.h0.P) 0).toNat : Int) ≤ 57)) then (some (.inl (QN.mk a.x3 (Qf.mk a.h0.S (w64 (a.h0.P + 1)) a.h0.Deep a.h0.Bad) a.h1))) else (bif (((a.h0.S.data.getD (Int.toNat a.h0.P) 0).toNat : Int) == 95) then (some (.inl (QN.mk a.x3 (Qf.mk a.h0.S (w64 (a.h0.P + 1)) a.h0.Deep a.h0.Bad) a.h1))) else (some (.inr (Jl.mk a.x3 a.h0 a.h1))))) else (bif (((a.h0.S.data.getD (Int.toNat a.h0.P) 0).toNat : Int) == 95) then (some (.inl (QN.mk a.x3 (Qf.mk a.h0.S (w64 (a.h0.P + 1)) a.h0.Deep a.h0.Bad) a.h1))) else (some (.inr (Jl.mk a.x3 a.h0 a.h1)))))) else (bif (decide (((a.h0.S.data.getD (Int.toNat a.h0.P) 0).toNat : Int) ≥ 48)) then (bif (decide (((a.h0.S.data.getD (Int.toNat a.h0.P) 0).toNat : Int) ≤ 57)) then (some (.inl (QN.mk a.x3 (Qf.mk a.h0.S (w64 (a.h0.P + 1)) a.h0.Deep a.h0.Bad) a.h1))) else (bif (((a.h0.S.data.getD (Int.toNat a.h0.P) 0).toNat : Int) == 95) then (some (.inl (QN.mk a.x3 (Qf.mk a.h0.S (w64 (a.h0.P + 1)) a.h0.Deep a.h0.Bad) a.h1))) else (some (.inr (Jl.mk a.x3 a.h0 a.h1))))) else (bif (((a.h0.S.data.getD (Int.toNat a.h0.P) 0).toNat : Int) == 95) then (some (.inl (QN.mk a.x3 (Qf.mk a.h0.S (w64 (a.h0.P + 1)) a.h0.Deep a.h0.Bad) a.h1))) else (some (.inr (Jl.mk a.x3 a.h0 a.h1)))))) else none) else (some (.inr (Jl.mk a.x3 a.h0 a.h1))))
noncomputable def UD : Qal := loopW (Zm )
theorem UD.eq (a : QN) : UD a = (Zm a).bind (Sum.elim UD some) := Ja _ _
noncomputable abbrev QfU {ρ R : Type} (a : QN) (k0 : Jl → Tr ρ R) : Tr ρ R := .loop (loopAt pp 237 2) (VC a) (UD a) WR k0
end Go.Ab
