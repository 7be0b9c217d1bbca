/- LineBack: part 2 of the proof that, whatever the input, the law returns true and the input reads as it did; its conditions are those of the given row. -/
import Derived.Test.YtblfhkldljfhiaaGreatDoorZLineBack1
import Derived.Test.YtblfhkldljfhiaaGreatDoorProg
set_option linter.unusedVariables false
set_option linter.unusedSimpArgs false
namespace Go.Ab
open Go.Proofs
def Q8 (x : ByteArray) : List AV := [.sc (.string x)]
def Qi (l : List ByteArray) : List (List AV) := l.map Q8
theorem QU (l : List ByteArray) : l.map Q8 = Qi l := rfl
theorem WL (l m : List ByteArray) : Qi l ++ Qi m = Qi (l ++ m) := by simp only [← QU, List.map_append]
theorem QkU (l : List ByteArray) (i : Nat) (a : ByteArray) : (Qi l).set i (Q8 a) = Qi (l.set i a) := by simp only [← QU, List.map_set]
theorem Q5 {l : List ByteArray} {n : Nat} {a : ByteArray} (h : l[n]? = some a) : (Qi l)[n]? = some (Q8 a) := by rw [← QU]; exact Zz h
theorem J7 (l : List ByteArray) : (Qi l).all (fun r => r.length == 1) = true := by rw [← QU]; exact QgP (C := Q8) (fun _ => rfl) l
theorem Qs (l : List ByteArray) : (Qi l).length = l.length := by rw [← QU, List.length_map]
def C_u8 (x : Int) : List AV := [.sc (.int .u8 x)]
def R_u8 (l : List Int) : List (List AV) := l.map C_u8
theorem QpR (l : List Int) : l.map C_u8 = R_u8 l := rfl
def Xd (x : Int) : List AV := [.sc (.int .i64 x)]
def Ja (l : List Int) : List (List AV) := l.map Xd
theorem Ut (l : List Int) : l.map Xd = Ja l := rfl
theorem Vt {l : List Int} {n : Nat} {a : Int} (h : l[n]? = some a) : (Ja l)[n]? = some (Xd a) := by rw [← Ut]; exact Zz h
theorem Vj (l : List Int) : (Ja l).length = l.length := by rw [← Ut, List.length_map]
structure Qa where
 Kind : Int
 N : Int
 Name : ByteArray
 L : (List Qa)
deriving Inhabited
mutual
def QhE : Qa → List AV
 | ⟨x0, x1, x2, x3⟩ => [.sc (.int .i64 x0), .sc (.int .i64 x1), .sc (.string x2), .sl (QC x3)]
def QC : List Qa → List (List AV)
 | [] => []
 | x :: l => QhE x :: QC l
end
def QL (x : Qa) : List AV := [.sc (.int .i64 x.Kind), .sc (.int .i64 x.N), .sc (.string x.Name), .sl (QC x.L)]
theorem W3 (l : List Qa) : l.map QL = QC l := by
 induction l with
 | nil => rw [QC]; rfl
 | cons x l ih => rw [QC, List.map_cons, ih]; congr 1; cases x; rw [QhE]; rfl
theorem W4 {l : List Qa} {n : Nat} {a : Qa} (h : l[n]? = some a) : (QC l)[n]? = some (QL a) := by rw [← W3]; exact Zz h
theorem Yj (l : List Qa) : (QC l).length = l.length := by rw [← W3, List.length_map]
structure Qd where
 Reg : Int
 E : Qa
deriving Inhabited
def Wg (x : Qd) : List AV := [.sc (.int .i64 x.Reg), .sc (.int .i64 x.E.Kind), .sc (.int .i64 x.E.N), .sc (.string x.E.Name), .sl (QC x.E.L)]
def Qj (l : List Qd) : List (List AV) := l.map Wg
theorem JS (l : List Qd) : l.map Wg = Qj l := rfl
theorem VA (l m : List Qd) : Qj l ++ Qj m = Qj (l ++ m) := by simp only [← JS, List.map_append]
theorem Xp {l : List Qd} {n : Nat} {a : Qd} (h : l[n]? = some a) : (Qj l)[n]? = some (Wg a) := by rw [← JS]; exact Zz h
theorem Wx (l : List Qd) : (Qj l).all (fun r => r.length == 5) = true := by rw [← JS]; exact QgP (C := Wg) (fun _ => rfl) l
theorem QX (l : List Qd) : (Qj l).length = l.length := by rw [← JS, List.length_map]
structure Qg where
 Line : Int
 Label : ByteArray
 Kind : Int
 Op : Int
 Text : ByteArray
 Args : (List Qd)
deriving Inhabited
def U0 (x : Qg) : List AV := [.sc (.int .i64 x.Line), .sc (.string x.Label), .sc (.int .i64 x.Kind), .sc (.int .i64 x.Op), .sc (.string x.Text), .sl (Qj x.Args)]
structure Qh where
 x : Qg
deriving Inhabited
structure Qc where
 name : ByteArray
 bits : Int
 kinds : ByteArray
deriving Inhabited
def Xq (x : Qc) : List AV := [.sc (.string x.name), .sc (.int .u32 x.bits), .sc (.string x.kinds)]
def WM (l : List Qc) : List (List AV) := l.map Xq
theorem PU (l : List Qc) : l.map Xq = WM l := rfl
theorem PV {l : List Qc} {n : Nat} {a : Qc} (h : l[n]? = some a) : (WM l)[n]? = some (Xq a) := by rw [← PU]; exact Zz h
theorem PW (l : List Qc) : (WM l).length = l.length := by rw [← PU, List.length_map]
def Qem (x : Nat) : List AV := [.fn (.func x) [] []]
def J8 (l : List Nat) : List (List AV) := l.map Qem
theorem YP (l : List Nat) : l.map Qem = J8 l := rfl
theorem PX (l m : List Nat) : J8 l ++ J8 m = J8 (l ++ m) := by simp only [← YP, List.map_append]
theorem QnK {l : List Nat} {n : Nat} {a : Nat} (h : l[n]? = some a) : (J8 l)[n]? = some (Qem a) := by rw [← YP]; exact Zz h
theorem QcN (l : List Nat) : (J8 l).all (fun r => r.length == 1) = true := by rw [← YP]; exact QgP (C := Qem) (fun _ => rfl) l
theorem XZ (l : List Nat) : (J8 l).length = l.length := by rw [← YP, List.length_map]
structure Qb where
 left : ByteArray
 deep : Int
 bad : Bool
deriving Inhabited
def QM (x : Qb) : List AV := [.sc (.string x.left), .sc (.int .i64 x.deep), .sc (.bool x.bad)]
def Qen (x : (List Int)) : List AV := [.sl (Ja x)]
def Pn (l : List (List Int)) : List (List AV) := l.map Qen
theorem QcO (l : List (List Int)) : l.map Qen = Pn l := rfl
theorem QhF {l : List (List Int)} {n : Nat} {a : (List Int)} (h : l[n]? = some a) : (Pn l)[n]? = some (Qen a) := by rw [← QcO]; exact Zz h
theorem QnL (l : List (List Int)) : (Pn l).length = l.length := by rw [← QcO, List.length_map]
structure Qy where
 K : Int
 N : Int
 L : (List Qy)
deriving Inhabited
mutual
def QkV : Qy → List AV
 | ⟨x0, x1, x2⟩ => [.sc (.int .i64 x0), .sc (.int .i64 x1), .sl (UV x2)]
def UV : List Qy → List (List AV)
 | [] => []
 | x :: l => QkV x :: UV l
end
def Xz (x : Qy) : List AV := [.sc (.int .i64 x.K), .sc (.int .i64 x.N), .sl (UV x.L)]
theorem EK (l : List Qy) : l.map Xz = UV l := by
 induction l with
 | nil => rw [UV]; rfl
 | cons x l ih => rw [UV, List.map_cons, ih]; congr 1; cases x; rw [QkV]; rfl
theorem SN {l : List Qy} {n : Nat} {a : Qy} (h : l[n]? = some a) : (UV l)[n]? = some (Xz a) := by rw [← EK]; exact Zz h
theorem Z8 (l : List Qy) : (UV l).length = l.length := by rw [← EK, List.length_map]
structure QB where
 K : Int
 A : Int
 B : Int
 Ns : (List Int)
 E : (List Qy)
 Label : Bool
deriving Inhabited
def V1 (x : QB) : List AV := [.sc (.int .i64 x.K), .sc (.int .i64 x.A), .sc (.int .i64 x.B), .sl (Ja x.Ns), .sl (UV x.E), .sc (.bool x.Label)]
def Xe (l : List QB) : List (List AV) := l.map V1
theorem SO (l : List QB) : l.map V1 = Xe l := rfl
theorem SP {l : List QB} {n : Nat} {a : QB} (h : l[n]? = some a) : (Xe l)[n]? = some (V1 a) := by rw [← SO]; exact Zz h
theorem Qeo (l : List QB) : (Xe l).length = l.length := by rw [← SO, List.length_map]
structure QI where
 Name : ByteArray
 Bits : ByteArray
 Kinds : ByteArray
deriving Inhabited
def QcP (x : QI) : List AV := [.sc (.string x.Name), .sc (.string x.Bits), .sc (.string x.Kinds)]
structure Qe where
 S : ByteArray
 P : Int
 Deep : Int
 Bad : Bool
deriving Inhabited
def Jb (x : Qe) : List AV := [.sc (.string x.S), .sc (.int .i64 x.P), .sc (.int .i64 x.Deep), .sc (.bool x.Bad)]
inductive Yb : Qy → Prop
 | mk (x : Qy) (h0 : IntKind.i64.min ≤ x.K ∧ x.K ≤ IntKind.i64.max) (h1 : IntKind.i64.min ≤ x.N ∧ x.N ≤ IntKind.i64.max) (h2 : x.L.length ≤ maxLen) (h3 : ∀ y ∈ x.L, Yb y) : Yb x
inductive Ev : QB → Prop
 | mk (x : QB) (h0 : IntKind.i64.min ≤ x.K ∧ x.K ≤ IntKind.i64.max) (h1 : IntKind.i64.min ≤ x.A ∧ x.A ≤ IntKind.i64.max) (h2 : IntKind.i64.min ≤ x.B ∧ x.B ≤ IntKind.i64.max) (h3 : x.Ns.length ≤ maxLen) (h4 : ∀ y ∈ x.Ns, IntKind.i64.min ≤ y ∧ y ≤ IntKind.i64.max) (h5 : x.E.length ≤ maxLen) (h6 : ∀ y ∈ x.E, Yb y) (h7 : True) : Ev x
def listB (l : List Int) : List UInt8 := l.map fun n => UInt8.ofNat n.toNat
theorem QoO (l : List Int) : bytesOfRows (R_u8 l) = some (listB l) := by
 induction l with
 | nil => rfl
 | cons x l ih => simp only [R_u8, listB, List.map_cons] at ih ⊢; simp only [bytesOfRows, C_u8, rowByte, ih, Option.bind_some, Option.map_some]
def h_20 : ByteArray := ⟨#[32]⟩
def XN : ByteArray := ⟨#[32, 9]⟩
def UM : ByteArray := ⟨#[32, 88, 32, 89, 32, 68, 32, 65, 32, 66, 32]⟩
def h_22 : ByteArray := ⟨#[34]⟩
def h_26 : ByteArray := ⟨#[38]⟩
def h_28 : ByteArray := ⟨#[40]⟩
def h_29 : ByteArray := ⟨#[41]⟩
def h_2a : ByteArray := ⟨#[42]⟩
def h_2b : ByteArray := ⟨#[43]⟩
def h_2c : ByteArray := ⟨#[44]⟩
def Vu : ByteArray := ⟨#[44, 32]⟩
def h_2d : ByteArray := ⟨#[45]⟩
def h_2e : ByteArray := ⟨#[46]⟩
def QJ : ByteArray := ⟨#[46, 97, 108, 105, 103, 110]⟩
def Jf : ByteArray := ⟨#[46, 97, 115, 99, 105, 105]⟩
def QO : ByteArray := ⟨#[46, 98, 121, 116, 101]⟩
def J2 : ByteArray := ⟨#[46, 101, 113, 117]⟩
def QP : ByteArray := ⟨#[46, 104, 97, 108, 102]⟩
def QQ : ByteArray := ⟨#[46, 108, 111, 110, 103]⟩
def QK : ByteArray := ⟨#[46, 115, 112, 97, 99, 101]⟩
def h_3a : ByteArray := ⟨#[58]⟩
def SS : ByteArray := ⟨#[60, 60]⟩
def ST : ByteArray := ⟨#[62, 62]⟩
def Vd : ByteArray := ⟨#[65, 32, 68, 32, 66]⟩
def UC : ByteArray := ⟨#[65, 32, 68, 32, 67, 56]⟩
def Ve : ByteArray := ⟨#[68, 32, 65, 32, 66]⟩
def Zh : ByteArray := ⟨#[68, 32, 65, 32, 67, 56]⟩
def Yt : ByteArray := ⟨#[68, 32, 65, 32, 83, 49, 54]⟩
def Z9 : ByteArray := ⟨#[68, 32, 76, 50, 48]⟩
def Qz : ByteArray := ⟨#[68, 32, 83, 49, 54, 32, 65]⟩
def XO : ByteArray := ⟨#[79, 49, 32, 73, 50, 32, 84, 56]⟩
def UI : ByteArray := ⟨#[79, 50, 32, 73, 52, 32, 84, 49, 53]⟩
def V2 : ByteArray := ⟨#[88, 32, 79, 53]⟩
def Jx : ByteArray := ⟨#[88, 32, 85, 53]⟩
def EL : ByteArray := ⟨#[88, 32, 85, 55]⟩
def Jc : ByteArray := ⟨#[88, 32, 89]⟩
def Wb : ByteArray := ⟨#[89, 32, 77, 49, 32, 88]⟩
def Wc : ByteArray := ⟨#[89, 32, 77, 50, 32, 88]⟩
def Wd : ByteArray := ⟨#[89, 32, 77, 52, 32, 88]⟩
def UN : ByteArray := ⟨#[97, 32, 35, 32, 98, 44, 32, 99]⟩
def h_7c : ByteArray := ⟨#[124]⟩
def Qo : ByteArray := ⟨#[115, 101, 95, 105, 108, 108, 101, 103, 97, 108, 58, 48, 48, 48, 48, 58, 124, 115, 101, 95, 105, 115, 121, 110, 99, 58, 48, 48, 48, 49, 58, 124, 115, 101, 95, 115, 99, 58, 48, 48, 48, 50, 58, 124, 115, 101, 95, 98, 108, 114, 58, 48, 48, 48, 52, 58, 124, 115, 101, 95, 98, 99, 116, 114, 58, 48, 48, 48, 54, 58, 124, 115, 101, 95, 110, 111, 116, 58, 48, 48, 50, 48, 58, 88, 124, 115, 101, 95, 110, 101, 103, 58, 48, 48, 51, 48, 58, 88, 124, 115, 101, 95, 109, 102, 108, 114, 58, 48, 48, 56, 48, 58, 88, 124, 115, 101, 95, 109, 116, 108, 114, 58, 48, 48, 57, 48, 58, 88, 124, 115, 101, 95, 109, 102, 99, 116, 114, 58, 48, 48, 97, 48, 58, 88, 124, 115, 101, 95, 109, 116, 99, 116, 114, 58, 48, 48, 98, 48, 58, 88, 124, 115, 101, 95, 101, 120, 116, 122, 98, 58, 48, 48, 99, 48, 58, 88, 124, 115, 101, 95, 101, 120, 116, 115, 98, 58, 48, 48, 100, 48, 58, 88, 124, 115, 101, 95, 101, 120, 116, 122, 104, 58, 48, 48, 101, 48, 58, 88, 124, 115, 101, 95, 101, 120, 116, 115, 104, 58, 48, 48, 102, 48, 58, 88, 124, 115, 101, 95, 109, 114, 58, 48, 49, 48, 48, 58, 88, 32, 89, 124, 115, 101, 95, 97, 100, 100, 58, 48, 52, 48, 48, 58, 88, 32, 89, 124, 115, 101, 95, 109, 117, 108, 108, 119, 58, 48, 53, 48, 48, 58, 88, 32, 89, 124, 115, 101, 95, 115, 117, 98, 58, 48, 54, 48, 48, 58, 88, 32, 89, 124, 115, 101, 95, 99, 109, 112, 58, 48, 99, 48, 48, 58, 88, 32, 89, 124, 115, 101, 95, 99, 109, 112, 108, 58, 48, 100, 48, 48, 58, 88, 32, 89, 124, 115, 101, 95, 97, 100, 100, 105, 58, 50, 48, 48, 48, 58, 88, 32, 79, 53, 124, 115, 101, 95, 99, 109, 112, 108, 105, 58, 50, 50, 48, 48, 58, 88, 32, 79, 53, 124, 115, 101, 95, 115, 117, 98, 105, 58, 50, 52, 48, 48, 58, 88, 32, 79, 53, 124, 115, 101, 95, 99, 109, 112, 105, 58, 50, 97, 48, 48, 58, 88, 32, 85, 53, 124, 115, 101, 95, 111, 114, 58, 52, 52, 48, 48, 58, 88, 32, 89, 124, 115, 101, 95, 97, 110, 100, 99, 58, 52, 53, 48, 48, 58, 88, 32, 89, 124, 115, 101, 95, 97, 110, 100, 58, 52, 54, 48, 48, 58, 88, 32, 89, 124, 115, 101, 95, 108, 105, 58, 52, 56, 48, 48, 58, 88, 32, 85, 55, 124, 115, 101, 95, 98, 99, 108, 114, 105, 58, 54, 48, 48, 48, 58, 88, 32, 85, 53, 124, 115, 101, 95, 98, 115, 101, 116, 105, 58, 54, 52, 48, 48, 58, 88, 32, 85, 53, 124, 115, 101, 95, 98, 116, 115, 116, 105, 58, 54, 54, 48, 48, 58, 88, 32, 85, 53, 124, 115, 101, 95, 115, 114, 119, 105, 58, 54, 56, 48, 48, 58, 88, 32, 85, 53, 124, 115, 101, 95, 115, 108, 119, 105, 58, 54, 99, 48, 48, 58, 88, 32, 85, 53, 124, 115, 101, 95, 108, 98, 122, 58, 56, 48, 48, 48, 58, 89, 32, 77, 49, 32, 88, 124, 115, 101, 95, 115, 116, 98, 58, 57, 48, 48, 48, 58, 89, 32, 77, 49, 32, 88, 124, 115, 101, 95, 108, 104, 122, 58, 97, 48, 48, 48, 58, 89, 32, 77, 50, 32, 88, 124, 115, 101, 95, 115, 116, 104, 58, 98, 48, 48, 48, 58, 89, 32, 77, 50, 32, 88, 124, 115, 101, 95, 108, 119, 122, 58, 99, 48, 48, 48, 58, 89, 32, 77, 52, 32, 88, 124, 115, 101, 95, 115, 116, 119, 58, 100, 48, 48, 48, 58, 89, 32, 77, 52, 32, 88, 124, 115, 101, 95, 98, 99, 58, 101, 48, 48, 48, 58, 79, 49, 32, 73, 50, 32, 84, 56, 124, 115, 101, 95, 98, 58, 101, 56, 48, 48, 58, 84, 56, 124, 115, 101, 95, 98, 108, 58, 101, 57, 48, 48, 58, 84, 56, 124, 101, 95, 97, 100, 100, 49, 54, 105, 58, 49, 99, 48, 48, 48, 48, 48, 48, 58, 68, 32, 65, 32, 83, 49, 54, 124, 101, 95, 97, 100, 100, 105, 58, 49, 56, 48, 48, 56, 48, 48, 48, 58, 68, 32, 65, 32, 67, 56, 124, 101, 95, 97, 110, 100, 105, 58, 49, 56, 48, 48, 99, 48, 48, 48, 58, 65, 32, 68, 32, 67, 56, 124, 101, 95, 111, 114, 105, 58, 49, 56, 48, 48, 100, 48, 48, 48, 58, 65, 32, 68, 32, 67, 56, 124, 101, 95, 120, 111, 114, 105, 58, 49, 56, 48, 48, 101, 48, 48, 48, 58, 65, 32, 68, 32, 67, 56, 124, 101, 95, 108, 105, 58, 55, 48, 48, 48, 48, 48, 48, 48, 58, 68, 32, 76, 50, 48, 124, 101, 95, 108, 98, 122, 58, 51, 48, 48, 48, 48, 48, 48, 48, 58, 68, 32, 83, 49, 54, 32, 65, 124, 101, 95, 115, 116, 98, 58, 51, 52, 48, 48, 48, 48, 48, 48, 58, 68, 32, 83, 49, 54, 32, 65, 124, 101, 95, 108, 104, 97, 58, 51, 56, 48, 48, 48, 48, 48, 48, 58, 68, 32, 83, 49, 54, 32, 65, 124, 101, 95, 108, 119, 122, 58, 53, 48, 48, 48, 48, 48, 48, 48, 58, 68, 32, 83, 49, 54, 32, 65, 124, 101, 95, 115, 116, 119, 58, 53, 52, 48, 48, 48, 48, 48, 48, 58, 68, 32, 83, 49, 54, 32, 65, 124, 101, 95, 108, 104, 122, 58, 53, 56, 48, 48, 48, 48, 48, 48, 58, 68, 32, 83, 49, 54, 32, 65, 124, 101, 95, 115, 116, 104, 58, 53, 99, 48, 48, 48, 48, 48, 48, 58, 68, 32, 83, 49, 54, 32, 65, 124, 101, 95, 98, 58, 55, 56, 48, 48, 48, 48, 48, 48, 58, 84, 50, 52, 124, 101, 95, 98, 108, 58, 55, 56, 48, 48, 48, 48, 48, 49, 58, 84, 50, 52, 124, 101, 95, 98, 99, 58, 55, 97, 48, 48, 48, 48, 48, 48, 58, 79, 50, 32, 73, 52, 32, 84, 49, 53, 124, 101, 95, 98, 99, 108, 58, 55, 97, 48, 48, 48, 48, 48, 49, 58, 79, 50, 32, 73, 52, 32, 84, 49, 53, 124, 97, 100, 100, 58, 55, 99, 48, 48, 48, 50, 49, 52, 58, 68, 32, 65, 32, 66, 124, 115, 117, 98, 102, 58, 55, 99, 48, 48, 48, 48, 53, 48, 58, 68, 32, 65, 32, 66, 124, 109, 117, 108, 108, 119, 58, 55, 99, 48, 48, 48, 49, 100, 54, 58, 68, 32, 65, 32, 66, 124, 97, 110, 100, 58, 55, 99, 48, 48, 48, 48, 51, 56, 58, 65, 32, 68, 32, 66, 124, 111, 114, 58, 55, 99, 48, 48, 48, 51, 55, 56, 58, 65, 32, 68, 32, 66, 124, 120, 111, 114, 58, 55, 99, 48, 48, 48, 50, 55, 56, 58, 65, 32, 68, 32, 66, 124]⟩
def s_ : ByteArray := ⟨#[]⟩
def Wt : ByteArray := ⟨#[48, 49, 50, 51, 52, 53, 54, 55, 56, 57]⟩
def s_0x : ByteArray := ⟨#[48, 120]⟩
def s_A : ByteArray := ⟨#[65]⟩
def s_B : ByteArray := ⟨#[66]⟩
def s_D : ByteArray := ⟨#[68]⟩
def s_I2 : ByteArray := ⟨#[73, 50]⟩
def s_I4 : ByteArray := ⟨#[73, 52]⟩
def Qqw : ByteArray := ⟨#[76, 50, 48]⟩
def s_M1 : ByteArray := ⟨#[77, 49]⟩
def s_M2 : ByteArray := ⟨#[77, 50]⟩
def s_M4 : ByteArray := ⟨#[77, 52]⟩
def s_O1 : ByteArray := ⟨#[79, 49]⟩
def s_O2 : ByteArray := ⟨#[79, 50]⟩
def s_O5 : ByteArray := ⟨#[79, 53]⟩
def Qqx : ByteArray := ⟨#[83, 49, 54]⟩
def Qqy : ByteArray := ⟨#[84, 49, 53]⟩
def Ec : ByteArray := ⟨#[84, 50, 52]⟩
def s_T8 : ByteArray := ⟨#[84, 56]⟩
def s_U5 : ByteArray := ⟨#[85, 53]⟩
def s_U7 : ByteArray := ⟨#[85, 55]⟩
def s_X : ByteArray := ⟨#[88]⟩
def s_Y : ByteArray := ⟨#[89]⟩
def s_a : ByteArray := ⟨#[97]⟩
def QhG : ByteArray := ⟨#[97, 100, 100]⟩
def QhH : ByteArray := ⟨#[97, 110, 100]⟩
def s_b : ByteArray := ⟨#[98]⟩
def s_b1 : ByteArray := ⟨#[98, 49]⟩
def Po : ByteArray := ⟨#[98, 97, 115, 101]⟩
def s_bc : ByteArray := ⟨#[98, 99]⟩
def s_bl : ByteArray := ⟨#[98, 108]⟩
def EM : ByteArray := ⟨#[101, 95, 97, 100, 100, 49, 54, 105]⟩
def SU : ByteArray := ⟨#[101, 95, 97, 100, 100, 105]⟩
def SV : ByteArray := ⟨#[101, 95, 97, 110, 100, 105]⟩
def QhI : ByteArray := ⟨#[101, 95, 98]⟩
def Qep : ByteArray := ⟨#[101, 95, 98, 99]⟩
def QbU : ByteArray := ⟨#[101, 95, 98, 99, 108]⟩
def Qeq : ByteArray := ⟨#[101, 95, 98, 108]⟩
def QbV : ByteArray := ⟨#[101, 95, 108, 98, 122]⟩
def QbW : ByteArray := ⟨#[101, 95, 108, 104, 97]⟩
def QbX : ByteArray := ⟨#[101, 95, 108, 104, 122]⟩
def Qer : ByteArray := ⟨#[101, 95, 108, 105]⟩
def QbY : ByteArray := ⟨#[101, 95, 108, 119, 122]⟩
def QbZ : ByteArray := ⟨#[101, 95, 111, 114, 105]⟩
def Qb0 : ByteArray := ⟨#[101, 95, 115, 116, 98]⟩
def Qb1 : ByteArray := ⟨#[101, 95, 115, 116, 104]⟩
def Qb2 : ByteArray := ⟨#[101, 95, 115, 116, 119]⟩
def SW : ByteArray := ⟨#[101, 95, 120, 111, 114, 105]⟩
def Ew : ByteArray := ⟨#[101, 110, 100, 95, 49]⟩
def s_hi : ByteArray := ⟨#[104, 105]⟩
def s_k : ByteArray := ⟨#[107]⟩
def EN : ByteArray := ⟨#[108, 111, 111, 112]⟩
def Qb3 : ByteArray := ⟨#[109, 117, 108, 108, 119]⟩
def s_or : ByteArray := ⟨#[111, 114]⟩
def s_r : ByteArray := ⟨#[114]⟩
def SX : ByteArray := ⟨#[115, 101, 95, 97, 100, 100]⟩
def Pp : ByteArray := ⟨#[115, 101, 95, 97, 100, 100, 105]⟩
def SY : ByteArray := ⟨#[115, 101, 95, 97, 110, 100]⟩
def Pq : ByteArray := ⟨#[115, 101, 95, 97, 110, 100, 99]⟩
def Qes : ByteArray := ⟨#[115, 101, 95, 98]⟩
def Qb4 : ByteArray := ⟨#[115, 101, 95, 98, 99]⟩
def EO : ByteArray := ⟨#[115, 101, 95, 98, 99, 108, 114, 105]⟩
def Pr : ByteArray := ⟨#[115, 101, 95, 98, 99, 116, 114]⟩
def Qb5 : ByteArray := ⟨#[115, 101, 95, 98, 108]⟩
def SZ : ByteArray := ⟨#[115, 101, 95, 98, 108, 114]⟩
def EP : ByteArray := ⟨#[115, 101, 95, 98, 115, 101, 116, 105]⟩
def EQ : ByteArray := ⟨#[115, 101, 95, 98, 116, 115, 116, 105]⟩
def S6 : ByteArray := ⟨#[115, 101, 95, 99, 109, 112]⟩
def Ps : ByteArray := ⟨#[115, 101, 95, 99, 109, 112, 105]⟩
def Pt : ByteArray := ⟨#[115, 101, 95, 99, 109, 112, 108]⟩
def ER : ByteArray := ⟨#[115, 101, 95, 99, 109, 112, 108, 105]⟩
def ES : ByteArray := ⟨#[115, 101, 95, 101, 120, 116, 115, 98]⟩
def ET : ByteArray := ⟨#[115, 101, 95, 101, 120, 116, 115, 104]⟩
def EU : ByteArray := ⟨#[115, 101, 95, 101, 120, 116, 122, 98]⟩
def EV : ByteArray := ⟨#[115, 101, 95, 101, 120, 116, 122, 104]⟩
def Ga : ByteArray := ⟨#[115, 101, 95, 105, 108, 108, 101, 103, 97, 108]⟩
def EW : ByteArray := ⟨#[115, 101, 95, 105, 115, 121, 110, 99]⟩
def S7 : ByteArray := ⟨#[115, 101, 95, 108, 98, 122]⟩
def S8 : ByteArray := ⟨#[115, 101, 95, 108, 104, 122]⟩
def Qb6 : ByteArray := ⟨#[115, 101, 95, 108, 105]⟩
def S9 : ByteArray := ⟨#[115, 101, 95, 108, 119, 122]⟩
def EX : ByteArray := ⟨#[115, 101, 95, 109, 102, 99, 116, 114]⟩
def Pu : ByteArray := ⟨#[115, 101, 95, 109, 102, 108, 114]⟩
def Qb7 : ByteArray := ⟨#[115, 101, 95, 109, 114]⟩
def EY : ByteArray := ⟨#[115, 101, 95, 109, 116, 99, 116, 114]⟩
def Pv : ByteArray := ⟨#[115, 101, 95, 109, 116, 108, 114]⟩
def EZ : ByteArray := ⟨#[115, 101, 95, 109, 117, 108, 108, 119]⟩
def Qaa : ByteArray := ⟨#[115, 101, 95, 110, 101, 103]⟩
def Qab : ByteArray := ⟨#[115, 101, 95, 110, 111, 116]⟩
def Qb8 : ByteArray := ⟨#[115, 101, 95, 111, 114]⟩
def Qb9 : ByteArray := ⟨#[115, 101, 95, 115, 99]⟩
def Pw : ByteArray := ⟨#[115, 101, 95, 115, 108, 119, 105]⟩
def Px : ByteArray := ⟨#[115, 101, 95, 115, 114, 119, 105]⟩
def Qac : ByteArray := ⟨#[115, 101, 95, 115, 116, 98]⟩
def Qad : ByteArray := ⟨#[115, 101, 95, 115, 116, 104]⟩
def Qae : ByteArray := ⟨#[115, 101, 95, 115, 116, 119]⟩
def Qaf : ByteArray := ⟨#[115, 101, 95, 115, 117, 98]⟩
def Py : ByteArray := ⟨#[115, 101, 95, 115, 117, 98, 105]⟩
def Gb : ByteArray := ⟨#[115, 105, 122, 101]⟩
def Qet : ByteArray := ⟨#[115, 117, 98, 102]⟩
def E1 : ByteArray := ⟨#[116, 97, 98]⟩
def s_x : ByteArray := ⟨#[120]⟩
def QhJ : ByteArray := ⟨#[120, 111, 114]⟩
def anT : List (Nat × List (Nat × Ann)) := [
 (5, [(6, { keep := [0, 3], out := [], res := [2], own := [], full := false })]),
 (22, [(15, { keep := [1, 3, 4, 5], out := [3, 4], res := [2], own := [(4, 1)], full := false }), (21, { keep := [3, 4, 6], out := [3], res := [2], own := [(4, 1)], full := false })]),
 (24, [(2, { keep := [0, 3], out := [], res := [2], own := [], full := false })]),
 (25, [(8, { keep := [1, 2, 3, 5, 6], out := [1, 2, 3], res := [2], own := [], full := false })]),
 (26, [(15, { keep := [1, 3, 4, 40, 41, 42], out := [1, 3, 4], res := [2], own := [(4, 1)], full := false })]),
 (28, [(4, { keep := [2, 3, 5], out := [], res := [4], own := [], full := false })]),
 (36, [(4, { keep := [0, 3, 4, 5], out := [3], res := [2], own := [(3, 1)], full := false })]),
 (39, [(2, { keep := [0, 3], out := [], res := [2], own := [], full := false })]),
 (58, [(5, { keep := [0, 1, 4, 7, 8, 9, 10, 11], out := [4], res := [4, 5, 6], own := [], full := false })]),
 (65, [(3, { keep := [2, 4, 5, 6], out := [4, 5], res := [4], own := [], full := false })]),
 (71, [(3, { keep := [0, 3, 4], out := [], res := [2], own := [], full := false })]),
 (72, [(2, { keep := [0, 1, 5], out := [5], res := [4], own := [], full := false })]),
 (78, [(4, { keep := [2, 3, 5], out := [], res := [4], own := [], full := false })]),
 (83, [(5, { keep := [0, 3, 4], out := [3], res := [2], own := [], full := false })]),
 (105, [(5, { keep := [0, 1, 5, 6], out := [5], res := [4], own := [], full := false })]),
 (116, [(1, { keep := [0, 1], out := [0], res := [4], own := [], full := false })]),
 (123, [(5, { keep := [3, 10, 11], out := [3], res := [2], own := [(3, 1)], full := true })]),
 (125, [(3, { keep := [0, 1, 5, 14, 15, 16], out := [1, 5], res := [4], own := [(5, 200)], full := false })]),
 (126, [(2, { keep := [0, 1, 7, 8], out := [], res := [4], own := [], full := false })]),
 (127, [(3, { keep := [0, 1, 5, 6], out := [5], res := [4], own := [], full := false })]),
 (128, [(3, { keep := [0, 5, 6, 7], out := [5], res := [4], own := [(5, 200)], full := false })]),
 (159, [(4, { keep := [0, 1, 4, 5], out := [], res := [4], own := [], full := false })]),
 (160, [(0, { keep := [0], out := [], res := [], own := [], full := false })]),
 (175, [(2, { keep := [0, 1, 7, 8], out := [], res := [4], own := [], full := false })]),
 (207, [(2, { keep := [0, 1, 5], out := [], res := [4], own := [], full := false })]),
 (215, [(5, { keep := [0, 1, 4, 5, 6], out := [4, 5], res := [4], own := [], full := false })]),
 (235, [(2, { keep := [0, 1, 4, 5, 6], out := [0, 4, 5, 6], res := [4], own := [], full := false })]),
 (237, [(2, { keep := [0, 2, 3], out := [0, 2, 3], res := [2], own := [], full := false })]),
 (244, [(2, { keep := [0, 7, 8, 9], out := [], res := [4], own := [], full := false })]),
 (266, [(2, { keep := [0, 1, 8], out := [0], res := [4], own := [], full := false })]),
 (269, [(3, { keep := [0, 1, 2, 6, 7, 12], out := [0, 1, 6, 7], res := [6], own := [], full := false })])]
def kdT : List (Nat × List Nat) := [(37, [0, 0, 0, 0, 0, 5]), (56, [129, 131, 178]), (60, [0, 1]), (113, [0, 0, 0, 0, 0, 5])]
def extT : List (Nat × (List AV → Heap → Option (AV × Heap))) := [(23, knownX), (69, joinX), (70, indexByteX), (74, trimX), (77, (cloneF 5 64)), (79, splitX), (93, itoaX), (145, fieldsX), (177, containsX), (241, atoiX)]
def G : Cfg := { ext := fun f => get f extT, an := fun f r => ((get f anT).bind (get r)).getD {}, kd := fun t => (get t kdT).getD [] }
def anT0 : List (Nat × List (Nat × Ann)) := [
 (26, [(15, { keep := [1, 3, 4, 40, 41, 42], out := [1, 3, 4], res := [2], own := [(4, 1)], full := false })]),
 (31, [(2, { keep := [2, 3, 9, 10, 11], out := [2, 3], res := [2, 3], own := [(2, 6), (3, 1)], full := false })]),
 (71, [(3, { keep := [0, 3, 4], out := [], res := [2], own := [], full := false })]),
 (72, [(2, { keep := [0, 1, 5], out := [5], res := [4], own := [], full := false })]),
 (116, [(1, { keep := [0, 1], out := [0], res := [4], own := [], full := false })]),
 (123, [(5, { keep := [3, 10, 11], out := [3], res := [2], own := [(3, 1)], full := true })]),
 (125, [(3, { keep := [0, 1, 5, 14, 15, 16], out := [1, 5], res := [4], own := [(5, 200)], full := false })]),
 (126, [(2, { keep := [0, 1, 7, 8], out := [], res := [4], own := [], full := false })]),
 (127, [(3, { keep := [0, 1, 5, 6], out := [5], res := [4], own := [], full := false })]),
 (128, [(3, { keep := [0, 5, 6, 7], out := [5], res := [4], own := [(5, 200)], full := false })]),
 (175, [(2, { keep := [0, 1, 7, 8], out := [], res := [4], own := [], full := false })]),
 (215, [(5, { keep := [0, 1, 4, 5, 6], out := [4, 5], res := [4], own := [], full := false })]),
 (244, [(2, { keep := [0, 7, 8, 9], out := [], res := [4], own := [], full := false })]),
 (266, [(2, { keep := [0, 1, 8], out := [0], res := [4], own := [], full := false })]),
 (269, [(3, { keep := [0, 1, 2, 6, 7, 12], out := [0, 1, 6, 7], res := [6], own := [], full := false })])]
def kdT0 : List (Nat × List Nat) := [(37, [0, 0, 0, 0, 0, 5]), (56, [129, 131, 178]), (113, [0, 0, 0, 0, 0, 5])]
def extT0 : List (Nat × (List AV → Heap → Option (AV × Heap))) := [(69, joinX), (70, indexByteX), (74, trimX), (77, (cloneF 5 64)), (79, splitX), (80, (cloneF 6 80)), (81, (cloneV 8)), (93, itoaX), (145, fieldsX), (177, containsX), (241, atoiX)]
def G0 : Cfg := { ext := fun f => get f extT0, an := fun f r => ((get f anT0).bind (get r)).getD {}, kd := fun t => (get t kdT0).getD [] }
theorem QnM : evalFn Tryz.prog G0 2000 23 [] [] = some (.sc (.bool true), []) := by kernel_rfl
noncomputable abbrev pp : Program := Tryz.prog
abbrev AH := AV × Heap
abbrev XS := Ex × St
noncomputable abbrev ww : CallF := evW Tryz.prog G
noncomputable abbrev lw (m f : Nat) : Loops := lpW Tryz.prog G m (G.an f)
def Qk (r : Bool) : AV × Heap := (xo r, [])
abbrev QoP := Option Bool
noncomputable def Eh : Option Bool := (some true)
noncomputable abbrev QnN {ρ R : Type} (k : Bool → Tr ρ R) : Tr ρ R := .call (ww 23 [] []) (Eh) Qk k
theorem Eh.ok {r : Bool} (h : Eh = some r) : ww 23 [] [] = some (Qk r) := (ZQ rfl _ _).trans (QpQ h)
def Qp (r : Int) : AV × Heap := (xi r, [])
abbrev Sr := Int → Int → Option Int
def Qge (a0 : Int) (a1 : Int) : Option Int := (bif (decide (a1 ≠ 0)) then (bif (decide ((Int.tmod a0 a1) < 0)) then (some (w64 ((Int.tmod a0 a1) + a1))) else (some (Int.tmod a0 a1))) else none)
noncomputable def QR : Sr := Qge
theorem QR.eq (a0 : Int) (a1 : Int) : QR a0 a1 = Qge a0 a1 := rfl
noncomputable def Qmh (a0 : Int) (a1 : Int) : Tr Int AH := (.as (decide (a1 ≠ 0)) (.as (decide ((Int.tmod a0 a1) < 0)) (rt Qp (w64 ((Int.tmod a0 a1) + a1))) (rt Qp (Int.tmod a0 a1))) .fail)
theorem QR.ok {a0 : Int} {a1 : Int} {r : Int} (h : QR a0 a1 = some r) : ww 29 [xi a0, xi a1] [] = some (Qp r) := by
 refine fnP (Qmh a0 a1) ?_ h
 exact ⟨rfl, fun q0 => ⟨rfl, fun q1 => rfl, fun q1 => rfl⟩, fun q0 => trivial⟩
noncomputable abbrev Jg {ρ R : Type} (a0 : Int) (a1 : Int) (k : Int → Tr ρ R) : Tr ρ R := .call (ww 29 [xi a0, xi a1] []) (QR a0 a1) Qp k
abbrev Pf := Int → Option Bool
def Qag (a0 : Int) : Option Bool := (bif (decide (a0 ≥ 48)) then (some (decide (a0 ≤ (57 : Int)))) else (some false))
noncomputable def Vv : Pf := Qag
theorem Vv.eq (a0 : Int) : Vv a0 = Qag a0 := rfl
noncomputable def QkW (a0 : Int) : Tr Bool AH := (let u1 := (decide (a0 ≥ 48)); .as u1 (yesN 2 u1 (rt Qk (decide (a0 ≤ (zi 57))))) (noN 2 u1 (rt Qk false)))
theorem Vv.ok {a0 : Int} {r : Bool} (h : Vv a0 = some r) : ww 82 [xb a0] [] = some (Qk r) := by
 refine fnP (QkW a0) ?_ h
 exact ⟨rfl, fun q0 => Ql 2 (q0) (rfl), fun q0 => noN_ok 2 (q0) (rfl)⟩
noncomputable abbrev E2 {ρ R : Type} (a0 : Int) (k : Bool → Tr ρ R) : Tr ρ R := .call (ww 82 [xb a0] []) (Vv a0) Qk k
abbrev Qgf := Int → Option Bool
def Qah (C0 : Pf) (a0 : Int) : Option Bool := (bif (decide (a0 ≥ 97)) then (bif (decide (a0 ≤ (122 : Int))) then (some true) else (bif (a0 == 95) then (some true) else ((C0 a0).bind fun r1 => (some r1)))) else (bif (a0 == 95) then (some true) else ((C0 a0).bind fun r2 => (some r2))))
noncomputable def XH : Qgf := Qah Vv
theorem XH.eq (a0 : Int) : XH a0 = Qah Vv a0 := rfl
noncomputable def QkX (a0 : Int) : Tr Bool AH := (let u5 := (decide (a0 ≥ 97)); .as u5 (yesN 2 u5 (let u3 := (decide (a0 ≤ (zi 122))); .as u3 (yesN 2 u3 (yesN 3 true (rt Qk true))) (noN 2 u3 (let u2 := (a0 == 95); .as u2 (yesN 2 u2 (rt Qk true)) (.no u2 (E2 a0 fun r1 => (.no u2 (rt Qk r1)))))))) (noN 2 u5 (noN 3 false (let u4 := (a0 == 95); .as u4 (yesN 2 u4 (rt Qk true)) (.no u4 (E2 a0 fun r2 => (.no u4 (rt Qk r2))))))))
theorem XH.ok {a0 : Int} {r : Bool} (h : XH a0 = some r) : ww 73 [xb a0] [] = some (Qk r) := by
 refine fnP (QkX a0) ?_ h
 exact ⟨rfl, fun q0 => Ql 2 (q0) (⟨rfl, fun q1 => Ql 2 (q1) (Ql 3 (rfl) (rfl)), fun q1 => noN_ok 2 (q1) (⟨rfl, fun q2 => Ql 2 (q2) (rfl), fun q2 => ⟨q2, fun r1 h => ⟨Vv.ok h, ⟨q2, rfl⟩⟩⟩⟩)⟩), fun q0 => noN_ok 2 (q0) (noN_ok 3 (rfl) (⟨rfl, fun q1 => Ql 2 (q1) (rfl), fun q1 => ⟨q1, fun r2 h => ⟨Vv.ok h, ⟨q1, rfl⟩⟩⟩⟩))⟩
noncomputable abbrev QkY {ρ R : Type} (a0 : Int) (k : Bool → Tr ρ R) : Tr ρ R := .call (ww 73 [xb a0] []) (XH a0) Qk k
abbrev Qbo := ByteArray → Option Int
structure UQ where
 x0 : ByteArray
 x5 : Int
def E3 (a : UQ) : St := { n := 20, nx := 0, env := [(0, xs a.x0), (1, .fn (.func 73) [] []), (5, xi a.x5)], heap := [] }
def Z3 (a : Int) : Ex × St := (.exit 0, { n := 20, nx := 0, env := [(5, xi a)], heap := [] })
abbrev Qca := UQ → Option Int
def E4 (C0 : Qgf) (a : UQ) : Option (UQ ⊕ Int) := (bif (decide (a.x5 < ((a.x0.size : Nat) : Int))) then (bif (decide (0 ≤ a.x5 ∧ a.x5 < ((a.x0.size : Nat) : Int))) then ((C0 ((a.x0.data.getD (Int.toNat a.x5) 0).toNat : Int)).bind fun r1 => (bif r1 then (some (.inl (UQ.mk a.x0 (w64 (a.x5 + 1))))) else (some (.inr a.x5)))) else none) else (some (.inr a.x5)))
noncomputable def Wy : Qca := loopW (E4 XH)
theorem Wy.eq (a : UQ) : Wy a = (E4 XH a).bind (Sum.elim Wy some) := JM _ _
noncomputable abbrev QhK {ρ R : Type} (a : UQ) (k0 : Int → Tr ρ R) : Tr ρ R := .loop (loopAt pp 72 2) (E3 a) (Wy a) Z3 k0
noncomputable def QhL (a : UQ) : Tr (UQ ⊕ Int) XS := (let u6 := (decide (a.x5 < (zz a.x0))); .as u6 (yesN 3 u6 (.as (in1 a.x5 (zz a.x0)) (.yes u6 (QkY (gb a.x0 a.x5) fun r1 => (.yes u6 (.as r1 (lf E3 (UQ.mk a.x0 (w64 (a.x5 + 1)))) (rx Z3 a.x5))))) .fail)) (noN 5 u6 (.no false (rx Z3 a.x5))))
theorem Wy.ok {a : UQ} {r : Int} (h : Wy a = some r) : lw 0 72 (loopAt pp 72 2) (E3 a) = some (Z3 r) := by
 refine lpP h QhL fun a => ?_
 exact ⟨rfl, fun q0 => Ql 3 (q0) (⟨rfl, fun q1 => ⟨q0, fun r1 h => ⟨XH.ok h, ⟨q0, ⟨rfl, fun q2 => rfl, fun q2 => rfl⟩⟩⟩⟩, fun q1 => trivial⟩), fun q0 => noN_ok 5 (q0) (⟨rfl, rfl⟩)⟩
def Qai (L0 : Qca) (a0 : ByteArray) : Option Int := ((L0 (UQ.mk a0 (0 : Int))).bind (fun (o1 : Int) => (some o1)))
noncomputable def WC : Qbo := Qai Wy
theorem WC.eq (a0 : ByteArray) : WC a0 = Qai Wy a0 := rfl
noncomputable def QkZ (a0 : ByteArray) : Tr Int AH := (QhK (UQ.mk a0 i0) (fun o1 => (rt Qp o1)))
theorem WC.ok {a0 : ByteArray} {r : Int} (h : WC a0 = some r) : ww 72 [xs a0, .fn (.func 73) [] []] [] = some (Qp r) := by
 refine fnP (QkZ a0) ?_ h
 exact fun o1 h => ⟨Wy.ok h, rfl⟩
noncomputable abbrev Qeu {ρ R : Type} (a0 : ByteArray) (k : Int → Tr ρ R) : Tr ρ R := .call (ww 72 [xs a0, .fn (.func 73) [] []] []) (WC a0) Qp k
abbrev PY := ByteArray → Option Int
structure Uo where
 x0 : ByteArray
 x5 : Int
def GK (a : Uo) : St := { n := 20, nx := 0, env := [(0, xs a.x0), (1, .fn (.func 82) [] []), (5, xi a.x5)], heap := [] }
def Y9 (a : Int) : Ex × St := (.exit 0, { n := 20, nx := 0, env := [(5, xi a)], heap := [] })
abbrev Qaj := Uo → Option Int
def GL (C0 : Pf) (a : Uo) : Option (Uo ⊕ Int) := (bif (decide (a.x5 < ((a.x0.size : Nat) : Int))) then (bif (decide (0 ≤ a.x5 ∧ a.x5 < ((a.x0.size : Nat) : Int))) then ((C0 ((a.x0.data.getD (Int.toNat a.x5) 0).toNat : Int)).bind fun r1 => (bif r1 then (some (.inl (Uo.mk a.x0 (w64 (a.x5 + 1))))) else (some (.inr a.x5)))) else none) else (some (.inr a.x5)))
noncomputable def VT : Qaj := loopW (GL Vv)
theorem VT.eq (a : Uo) : VT a = (GL Vv a).bind (Sum.elim VT some) := JM _ _
noncomputable abbrev QfN {ρ R : Type} (a : Uo) (k0 : Int → Tr ρ R) : Tr ρ R := .loop (loopAt pp 72 2) (GK a) (VT a) Y9 k0
noncomputable def QfO (a : Uo) : Tr (Uo ⊕ Int) XS := (let u7 := (decide (a.x5 < (zz a.x0))); .as u7 (yesN 3 u7 (.as (in1 a.x5 (zz a.x0)) (.yes u7 (E2 (gb a.x0 a.x5) fun r1 => (.yes u7 (.as r1 (lf GK (Uo.mk a.x0 (w64 (a.x5 + 1)))) (rx Y9 a.x5))))) .fail)) (noN 5 u7 (.no false (rx Y9 a.x5))))
theorem VT.ok {a : Uo} {r : Int} (h : VT a = some r) : lw 0 72 (loopAt pp 72 2) (GK a) = some (Y9 r) := by
 refine lpP h QfO fun a => ?_
 exact ⟨rfl, fun q0 => Ql 3 (q0) (⟨rfl, fun q1 => ⟨q0, fun r1 h => ⟨Vv.ok h, ⟨q0, ⟨rfl, fun q2 => rfl, fun q2 => rfl⟩⟩⟩⟩, fun q1 => trivial⟩), fun q0 => noN_ok 5 (q0) (⟨rfl, rfl⟩)⟩
def FG (L0 : Qaj) (a0 : ByteArray) : Option Int := ((L0 (Uo.mk a0 (0 : Int))).bind (fun (o1 : Int) => (some o1)))
noncomputable def VM : PY := FG VT
theorem VM.eq (a0 : ByteArray) : VM a0 = FG VT a0 := rfl
noncomputable def Qix (a0 : ByteArray) : Tr Int AH := (QfN (Uo.mk a0 i0) (fun o1 => (rt Qp o1)))
theorem VM.ok {a0 : ByteArray} {r : Int} (h : VM a0 = some r) : ww 72 [xs a0, .fn (.func 82) [] []] [] = some (Qp r) := by
 refine fnP (Qix a0) ?_ h
 exact fun o1 h => ⟨VT.ok h, rfl⟩
noncomputable abbrev Qcb {ρ R : Type} (a0 : ByteArray) (k : Int → Tr ρ R) : Tr ρ R := .call (ww 72 [xs a0, .fn (.func 82) [] []] []) (VM a0) Qp k
abbrev QcQ := ByteArray → Option Bool
def Qbp (C0 : Pf) (C1 : Qbo) (C2 : PY) (a0 : ByteArray) : Option Bool := (bif (eqS a0 s_) then (some false) else (bif (decide (((a0.size : Nat) : Int) > 12)) then (some false) else (bif (decide (0 ≤ (0 : Int) ∧ (0 : Int) < ((a0.size : Nat) : Int))) then ((C0 ((a0.data.getD (Int.toNat 0) 0).toNat : Int)).bind fun r1 => (bif r1 then (some false) else ((C1 a0).bind fun r2 => (bif (r2 != ((a0.size : Nat) : Int)) then (some false) else (bif (((a0.data.getD (Int.toNat 0) 0).toNat : Int) != 114) then (some true) else (bif (((a0.size : Nat) : Int) == 1) then (some true) else (bif (decide (0 ≤ (1 : Int) ∧ (1 : Int) ≤ ((a0.size : Nat) : Int) ∧ ((a0.size : Nat) : Int) ≤ ((a0.size : Nat) : Int))) then ((C2 (a0.extract (Int.toNat 1) (Int.toNat ((a0.size : Nat) : Int)))).bind fun r3 => (some (r3 != (w64 (((a0.size : Nat) : Int) - 1))))) else none))))))) else none)))
noncomputable def W5 : QcQ := Qbp Vv WC VM
theorem W5.eq (a0 : ByteArray) : W5 a0 = Qbp Vv WC VM a0 := rfl
noncomputable def Qmi (a0 : ByteArray) : Tr Bool AH := (let u12 := (eqS a0 s_); .as u12 (yesN 3 u12 (yesN 11 true (rt Qk false))) (noN 3 u12 (let u11 := (decide ((zz a0) > 12)); .as u11 (yesN 3 u11 (yesN 7 true (rt Qk false))) (.no u11 (let u10 := (in1 i0 (zz a0)); .as u10 (.no u11 (E2 (gb a0 i0) fun r1 => (.no u11 (.as r1 (yesN 5 r1 (.yes true (rt Qk false))) (.no r1 (Qeu a0 fun r2 => (noN 4 r1 (.as (r2 != (zz a0)) (rt Qk false) (.yes u10 (let u9 := ((gb a0 i0) != 114); .as u9 (yesN 3 u9 (yesN 8 true (rt Qk true))) (noN 3 u9 (let u8 := ((zz a0) == 1); .as u8 (yesN 7 u8 (rt Qk true)) (.no u8 (.as (in2 (zi 1) (zz a0) (zz a0)) (.no u8 (Qcb (cu a0 (zi 1) (zz a0)) fun r3 => (noN 5 u8 (rt Qk (r3 != (w64 ((zz a0) - 1))))))) .fail)))))))))))))) .fail)))))
theorem W5.ok {a0 : ByteArray} {r : Bool} (h : W5 a0 = some r) : ww 33 [xs a0] [] = some (Qk r) := by
 refine fnP (Qmi a0) ?_ h
 exact ⟨rfl, fun q0 => Ql 3 (q0) (Ql 11 (rfl) (rfl)), fun q0 => noN_ok 3 (q0) (⟨rfl, fun q1 => Ql 3 (q1) (Ql 7 (rfl) (rfl)), fun q1 => ⟨q1, ⟨rfl, fun q2 => ⟨q1, fun r1 h => ⟨Vv.ok h, ⟨q1, ⟨rfl, fun q3 => Ql 5 (q3) (⟨rfl, rfl⟩), fun q3 => ⟨q3, fun r2 h => ⟨WC.ok h, noN_ok 4 (q3) (⟨rfl, fun q4 => rfl, fun q4 => ⟨q2, ⟨rfl, fun q5 => Ql 3 (q5) (Ql 8 (rfl) (rfl)), fun q5 => noN_ok 3 (q5) (⟨rfl, fun q6 => Ql 7 (q6) (rfl), fun q6 => ⟨q6, ⟨rfl, fun q7 => ⟨q6, fun r3 h => ⟨VM.ok h, noN_ok 5 (q6) (rfl)⟩⟩, fun q7 => trivial⟩⟩⟩)⟩⟩⟩)⟩⟩⟩⟩⟩⟩, fun q2 => trivial⟩⟩⟩)⟩
noncomputable abbrev Qgg {ρ R : Type} (a0 : ByteArray) (k : Bool → Tr ρ R) : Tr ρ R := .call (ww 33 [xs a0] []) (W5 a0) Qk k
abbrev Qk0 := ByteArray → Option Bool
structure Qx where
 x0 : ByteArray
 x3 : Bool
 x4 : Int
def JY (a : Qx) : St := { n := 65, nx := 0, env := [(0, xs a.x0), (3, xo a.x3), (4, xi a.x4)], heap := [] }
def Qdh (a : Bool) : Ex × St := (.ret, { n := 65, nx := 0, env := [(2, xo a)], heap := [] })
def Qdi (a : Bool) : Ex × St := (.exit 0, { n := 65, nx := 0, env := [(3, xo a)], heap := [] })
def WU (a : (Bool ⊕ Bool)) : Ex × St := Sum.elim Qdh Qdi a
abbrev Qgh := Qx → Option (Bool ⊕ Bool)
def Zi (a : Qx) : Option (Qx ⊕ (Bool ⊕ Bool)) := (bif (decide (a.x4 < ((a.x0.size : Nat) : Int))) then (bif (decide (0 ≤ a.x4 ∧ a.x4 < ((a.x0.size : Nat) : Int))) then (bif (decide (((a.x0.data.getD (Int.toNat a.x4) 0).toNat : Int) ≥ 48)) then (bif (decide (((a.x0.data.getD (Int.toNat a.x4) 0).toNat : Int) ≥ 97)) then (bif (!(decide (((a.x0.data.getD (Int.toNat a.x4) 0).toNat : Int) ≤ 122))) then (bif (((a.x0.data.getD (Int.toNat a.x4) 0).toNat : Int) != 95) then (bif (a.x4 == 0) then (some (.inr (.inl false))) else (bif (!(decide (((a.x0.data.getD (Int.toNat a.x4) 0).toNat : Int) ≤ 57))) then (some (.inr (.inl false))) else (bif (decide (a.x4 > 0)) then (some (.inl (Qx.mk a.x0 a.x3 (w64 (a.x4 + 1))))) else (some (.inl (Qx.mk a.x0 a.x3 (w64 (a.x4 + 1)))))))) else (bif (decide (a.x4 > 0)) then (bif (!(decide (((a.x0.data.getD (Int.toNat a.x4) 0).toNat : Int) ≤ 57))) then (some (.inl (Qx.mk a.x0 false (w64 (a.x4 + 1))))) else (some (.inl (Qx.mk a.x0 a.x3 (w64 (a.x4 + 1)))))) else (some (.inl (Qx.mk a.x0 a.x3 (w64 (a.x4 + 1))))))) else (bif (decide (a.x4 > 0)) then (bif (!(decide (((a.x0.data.getD (Int.toNat a.x4) 0).toNat : Int) ≤ 57))) then (some (.inl (Qx.mk a.x0 false (w64 (a.x4 + 1))))) else (some (.inl (Qx.mk a.x0 a.x3 (w64 (a.x4 + 1)))))) else (some (.inl (Qx.mk a.x0 a.x3 (w64 (a.x4 + 1))))))) else (bif (((a.x0.data.getD (Int.toNat a.x4) 0).toNat : Int) != 95) then (bif (a.x4 == 0) then (some (.inr (.inl false))) else (bif (!(decide (((a.x0.data.getD (Int.toNat a.x4) 0).toNat : Int) ≤ 57))) then (some (.inr (.inl false))) else (bif (decide (a.x4 > 0)) then (some (.inl (Qx.mk a.x0 a.x3 (w64 (a.x4 + 1))))) else (some (.inl (Qx.mk a.x0 a.x3 (w64 (a.x4 + 1)))))))) else (bif (decide (a.x4 > 0)) then (bif (!(decide (((a.x0.data.getD (Int.toNat a.x4) 0).toNat : Int) ≤ 57))) then (some (.inl (Qx.mk a.x0 false (w64 (a.x4 + 1))))) else (some (.inl (Qx.mk a.x0 a.x3 (w64 (a.x4 + 1)))))) else (some (.inl (Qx.mk a.x0 a.x3 (w64 (a.x4 + 1)))))))) else (bif (decide (((a.x0.data.getD (Int.toNat a.x4) 0).toNat : Int) ≥ 97)) then (bif (!(decide (((a.x0.data.getD (Int.toNat a.x4) 0).toNat : Int) ≤ 122))) then (bif (((a.x0.data.getD (Int.toNat a.x4) 0).toNat : Int) != 95) then (bif (a.x4 == 0) then (some (.inr (.inl false))) else (some (.inr (.inl false)))) else (bif (decide (a.x4 > 0)) then (some (.inl (Qx.mk a.x0 false (w64 (a.x4 + 1))))) else (some (.inl (Qx.mk a.x0 a.x3 (w64 (a.x4 + 1))))))) else (bif (decide (a.x4 > 0)) then (some (.inl (Qx.mk a.x0 false (w64 (a.x4 + 1))))) else (some (.inl (Qx.mk a.x0 a.x3 (w64 (a.x4 + 1))))))) else (bif (((a.x0.data.getD (Int.toNat a.x4) 0).toNat : Int) != 95) then (bif (a.x4 == 0) then (some (.inr (.inl false))) else (some (.inr (.inl false)))) else (bif (decide (a.x4 > 0)) then (some (.inl (Qx.mk a.x0 false (w64 (a.x4 + 1))))) else (some (.inl (Qx.mk a.x0 a.x3 (w64 (a.x4 + 1))))))))) else none) else (some (.inr (.inr a.x3))))
noncomputable def Vw : Qgh := loopW (Zi )
theorem Vw.eq (a : Qx) : Vw a = (Zi a).bind (Sum.elim Vw some) := JM _ _
noncomputable abbrev Qev {ρ R : Type} (a : Qx) (k0 : Bool → Tr ρ R) (k1 : Bool → Tr ρ R) : Tr ρ R := .loop2 (loopAt pp 83 5) (JY a) (Vw a) Qdh Qdi k0 k1
noncomputable def Qk1 (a : Qx) : Tr (Qx ⊕ (Bool ⊕ Bool)) XS := (.as (decide (a.x4 < (zz a.x0))) (.as (in1 a.x4 (zz a.x0)) (let u35 := (decide ((gb a.x0 a.x4) ≥ 48)); .as u35 (yesN 2 u35 (let u25 := (decide ((gb a.x0 a.x4) ≥ 97)); .as u25 (yesN 2 u25 (let u19 := (!(decide ((gb a.x0 a.x4) ≤ 122))); .as u19 (yesN 2 u19 (let u17 := ((gb a.x0 a.x4) != 95); .as u17 (yesN 2 u17 (let u15 := (a.x4 == 0); .as u15 (.yes u15 (.yes u17 (.yes u15 (.yes u17 (.yes true (rx WU (.inl false))))))) (.no u15 (.yes u17 (.no u15 (.yes u17 (let u14 := (!(decide ((gb a.x0 a.x4) ≤ 57))); .as u14 (rx WU (.inl false)) (let u13 := (decide (a.x4 > 0)); .as u13 (yesN 2 u13 (.no u14 (lf JY (Qx.mk a.x0 a.x3 (w64 (a.x4 + 1)))))) (noN 2 u13 (.no false (lf JY (Qx.mk a.x0 a.x3 (w64 (a.x4 + 1)))))))))))))) (noN 4 u17 (.no false (let u16 := (decide (a.x4 > 0)); .as u16 (yesN 2 u16 (.as (!(decide ((gb a.x0 a.x4) ≤ 57))) (lf JY (Qx.mk a.x0 false (w64 (a.x4 + 1)))) (lf JY (Qx.mk a.x0 a.x3 (w64 (a.x4 + 1)))))) (noN 2 u16 (.no false (lf JY (Qx.mk a.x0 a.x3 (w64 (a.x4 + 1))))))))))) (noN 2 u19 (noN 6 false (let u18 := (decide (a.x4 > 0)); .as u18 (yesN 2 u18 (.as (!(decide ((gb a.x0 a.x4) ≤ 57))) (lf JY (Qx.mk a.x0 false (w64 (a.x4 + 1)))) (lf JY (Qx.mk a.x0 a.x3 (w64 (a.x4 + 1)))))) (noN 2 u18 (.no false (lf JY (Qx.mk a.x0 a.x3 (w64 (a.x4 + 1))))))))))) (noN 2 u25 (yesN 3 true (let u24 := ((gb a.x0 a.x4) != 95); .as u24 (yesN 2 u24 (let u22 := (a.x4 == 0); .as u22 (.yes u22 (.yes u24 (.yes u22 (.yes u24 (.yes true (rx WU (.inl false))))))) (.no u22 (.yes u24 (.no u22 (.yes u24 (let u21 := (!(decide ((gb a.x0 a.x4) ≤ 57))); .as u21 (rx WU (.inl false)) (let u20 := (decide (a.x4 > 0)); .as u20 (yesN 2 u20 (.no u21 (lf JY (Qx.mk a.x0 a.x3 (w64 (a.x4 + 1)))))) (noN 2 u20 (.no false (lf JY (Qx.mk a.x0 a.x3 (w64 (a.x4 + 1)))))))))))))) (noN 4 u24 (.no false (let u23 := (decide (a.x4 > 0)); .as u23 (yesN 2 u23 (.as (!(decide ((gb a.x0 a.x4) ≤ 57))) (lf JY (Qx.mk a.x0 false (w64 (a.x4 + 1)))) (lf JY (Qx.mk a.x0 a.x3 (w64 (a.x4 + 1)))))) (noN 2 u23 (.no false (lf JY (Qx.mk a.x0 a.x3 (w64 (a.x4 + 1)))))))))))))) (noN 2 u35 (let u34 := (decide ((gb a.x0 a.x4) ≥ 97)); .as u34 (yesN 2 u34 (let u30 := (!(decide ((gb a.x0 a.x4) ≤ 122))); .as u30 (yesN 2 u30 (let u28 := ((gb a.x0 a.x4) != 95); .as u28 (yesN 2 u28 (let u26 := (a.x4 == 0); .as u26 (.yes u26 (.yes u28 (.yes u26 (.yes u28 (.yes true (rx WU (.inl false))))))) (.no u26 (.yes u28 (.no u26 (.yes u28 (.yes true (rx WU (.inl false))))))))) (noN 4 u28 (.no false (let u27 := (decide (a.x4 > 0)); .as u27 (yesN 2 u27 (.yes true (lf JY (Qx.mk a.x0 false (w64 (a.x4 + 1)))))) (noN 2 u27 (.no false (lf JY (Qx.mk a.x0 a.x3 (w64 (a.x4 + 1))))))))))) (noN 2 u30 (noN 6 false (let u29 := (decide (a.x4 > 0)); .as u29 (yesN 2 u29 (.yes true (lf JY (Qx.mk a.x0 false (w64 (a.x4 + 1)))))) (noN 2 u29 (.no false (lf JY (Qx.mk a.x0 a.x3 (w64 (a.x4 + 1))))))))))) (noN 2 u34 (yesN 3 true (let u33 := ((gb a.x0 a.x4) != 95); .as u33 (yesN 2 u33 (let u31 := (a.x4 == 0); .as u31 (.yes u31 (.yes u33 (.yes u31 (.yes u33 (.yes true (rx WU (.inl false))))))) (.no u31 (.yes u33 (.no u31 (.yes u33 (.yes true (rx WU (.inl false))))))))) (noN 4 u33 (.no false (let u32 := (decide (a.x4 > 0)); .as u32 (yesN 2 u32 (.yes true (lf JY (Qx.mk a.x0 false (w64 (a.x4 + 1)))))) (noN 2 u32 (.no false (lf JY (Qx.mk a.x0 a.x3 (w64 (a.x4 + 1))))))))))))))) .fail) (rx WU (.inr a.x3)))
theorem Vw.ok {a : Qx} {r : (Bool ⊕ Bool)} (h : Vw a = some r) : lw 0 83 (loopAt pp 83 5) (JY a) = some (WU r) := by
 refine lpP h Qk1 fun a => ?_
 exact ⟨rfl, fun q0 => ⟨rfl, fun q1 => ⟨rfl, fun q2 => Ql 2 (q2) (⟨rfl, fun q3 => Ql 2 (q3) (⟨rfl, fun q4 => Ql 2 (q4) (⟨rfl, fun q5 => Ql 2 (q5) (⟨rfl, fun q6 => ⟨q6, ⟨q5, ⟨q6, ⟨q5, ⟨rfl, rfl⟩⟩⟩⟩⟩, fun q6 => ⟨q6, ⟨q5, ⟨q6, ⟨q5, ⟨rfl, fun q7 => rfl, fun q7 => ⟨rfl, fun q8 => Ql 2 (q8) (⟨q7, rfl⟩), fun q8 => noN_ok 2 (q8) (⟨rfl, rfl⟩)⟩⟩⟩⟩⟩⟩⟩), fun q5 => noN_ok 4 (q5) (⟨rfl, ⟨rfl, fun q6 => Ql 2 (q6) (⟨rfl, fun q7 => rfl, fun q7 => rfl⟩), fun q6 => noN_ok 2 (q6) (⟨rfl, rfl⟩)⟩⟩)⟩), fun q4 => noN_ok 2 (q4) (noN_ok 6 (rfl) (⟨rfl, fun q5 => Ql 2 (q5) (⟨rfl, fun q6 => rfl, fun q6 => rfl⟩), fun q5 => noN_ok 2 (q5) (⟨rfl, rfl⟩)⟩))⟩), fun q3 => noN_ok 2 (q3) (Ql 3 (rfl) (⟨rfl, fun q4 => Ql 2 (q4) (⟨rfl, fun q5 => ⟨q5, ⟨q4, ⟨q5, ⟨q4, ⟨rfl, rfl⟩⟩⟩⟩⟩, fun q5 => ⟨q5, ⟨q4, ⟨q5, ⟨q4, ⟨rfl, fun q6 => rfl, fun q6 => ⟨rfl, fun q7 => Ql 2 (q7) (⟨q6, rfl⟩), fun q7 => noN_ok 2 (q7) (⟨rfl, rfl⟩)⟩⟩⟩⟩⟩⟩⟩), fun q4 => noN_ok 4 (q4) (⟨rfl, ⟨rfl, fun q5 => Ql 2 (q5) (⟨rfl, fun q6 => rfl, fun q6 => rfl⟩), fun q5 => noN_ok 2 (q5) (⟨rfl, rfl⟩)⟩⟩)⟩))⟩), fun q2 => noN_ok 2 (q2) (⟨rfl, fun q3 => Ql 2 (q3) (⟨rfl, fun q4 => Ql 2 (q4) (⟨rfl, fun q5 => Ql 2 (q5) (⟨rfl, fun q6 => ⟨q6, ⟨q5, ⟨q6, ⟨q5, ⟨rfl, rfl⟩⟩⟩⟩⟩, fun q6 => ⟨q6, ⟨q5, ⟨q6, ⟨q5, ⟨rfl, rfl⟩⟩⟩⟩⟩⟩), fun q5 => noN_ok 4 (q5) (⟨rfl, ⟨rfl, fun q6 => Ql 2 (q6) (⟨rfl, rfl⟩), fun q6 => noN_ok 2 (q6) (⟨rfl, rfl⟩)⟩⟩)⟩), fun q4 => noN_ok 2 (q4) (noN_ok 6 (rfl) (⟨rfl, fun q5 => Ql 2 (q5) (⟨rfl, rfl⟩), fun q5 => noN_ok 2 (q5) (⟨rfl, rfl⟩)⟩))⟩), fun q3 => noN_ok 2 (q3) (Ql 3 (rfl) (⟨rfl, fun q4 => Ql 2 (q4) (⟨rfl, fun q5 => ⟨q5, ⟨q4, ⟨q5, ⟨q4, ⟨rfl, rfl⟩⟩⟩⟩⟩, fun q5 => ⟨q5, ⟨q4, ⟨q5, ⟨q4, ⟨rfl, rfl⟩⟩⟩⟩⟩⟩), fun q4 => noN_ok 4 (q4) (⟨rfl, ⟨rfl, fun q5 => Ql 2 (q5) (⟨rfl, rfl⟩), fun q5 => noN_ok 2 (q5) (⟨rfl, rfl⟩)⟩⟩)⟩))⟩)⟩, fun q1 => trivial⟩, fun q0 => rfl⟩
def Qew (L0 : Qgh) (a0 : ByteArray) : Option Bool := (bif (decide (((a0.size : Nat) : Int) < 1)) then (some false) else (bif (decide (((a0.size : Nat) : Int) > 12)) then (some false) else (bif (decide (0 ≤ (0 : Int) ∧ (0 : Int) < ((a0.size : Nat) : Int))) then (bif (((a0.data.getD (Int.toNat 0) 0).toNat : Int) == 114) then ((L0 (Qx.mk a0 (decide (((a0.size : Nat) : Int) > 1)) (0 : Int))).bind fun x => Sum.elim (fun (o1 : Bool) => (some o1)) (fun (o2 : Bool) => (some (!o2))) x) else ((L0 (Qx.mk a0 false (0 : Int))).bind fun x => Sum.elim (fun (o3 : Bool) => (some o3)) (fun (o4 : Bool) => (some (!o4))) x)) else none)))
noncomputable def ZR : Qk0 := Qew Vw
theorem ZR.eq (a0 : ByteArray) : ZR a0 = Qew Vw a0 := rfl
noncomputable def QoQ (a0 : ByteArray) : Tr Bool AH := (let u37 := (decide ((zz a0) < 1)); .as u37 (yesN 3 u37 (.yes true (rt Qk false))) (noN 3 u37 (.as (decide ((zz a0) > 12)) (rt Qk false) (.as (in1 i0 (zz a0)) (let u36 := ((gb a0 i0) == 114); .as u36 (yesN 3 u36 (Qev (Qx.mk a0 (decide ((zz a0) > 1)) i0) (fun o1 => (rt Qk o1)) (fun o2 => (rt Qk (!o2))))) (noN 3 u36 (Qev (Qx.mk a0 false i0) (fun o3 => (rt Qk o3)) (fun o4 => (rt Qk (!o4)))))) .fail))))
theorem ZR.ok {a0 : ByteArray} {r : Bool} (h : ZR a0 = some r) : ww 83 [xs a0] [] = some (Qk r) := by
 refine fnP (QoQ a0) ?_ h
 exact ⟨rfl, fun q0 => Ql 3 (q0) (⟨rfl, rfl⟩), fun q0 => noN_ok 3 (q0) (⟨rfl, fun q1 => rfl, fun q1 => ⟨rfl, fun q2 => ⟨rfl, fun q3 => Ql 3 (q3) (⟨fun o1 h => ⟨Vw.ok (r := (.inl _)) h, rfl⟩, fun o2 h => ⟨Vw.ok (r := (.inr _)) h, rfl⟩⟩), fun q3 => noN_ok 3 (q3) (⟨fun o3 h => ⟨Vw.ok (r := (.inl _)) h, rfl⟩, fun o4 h => ⟨Vw.ok (r := (.inr _)) h, rfl⟩⟩)⟩, fun q2 => trivial⟩⟩)⟩
noncomputable abbrev QoR {ρ R : Type} (a0 : ByteArray) (k : Bool → Tr ρ R) : Tr ρ R := .call (ww 83 [xs a0] []) (ZR a0) Qk k
abbrev Qex := ByteArray → Int → Option Int
noncomputable def WH (a0 : ByteArray) (a1 : Int) : Option Int := indexByteS a0 a1
noncomputable abbrev QdK {ρ R : Type} (a0 : ByteArray) (a1 : Int) (k : Int → Tr ρ R) : Tr ρ R := .call (ww 70 [xs a0, xb a1] []) (WH a0 a1) Qp k
theorem WH.ok {a0 : ByteArray} {a1 : Int} {r : Int} (h : WH a0 a1 = some r) : ww 70 [xs a0, xb a1] [] = some (Qp r) := (ZQ rfl _ _).trans (QkT h)
def Qf (r : ByteArray) : AV × Heap := (xs r, [])
abbrev PZ := ByteArray → ByteArray → Option ByteArray
noncomputable def Uy (a0 : ByteArray) (a1 : ByteArray) : Option ByteArray := trimS2 a0 a1
noncomputable abbrev XA {ρ R : Type} (a0 : ByteArray) (a1 : ByteArray) (k : ByteArray → Tr ρ R) : Tr ρ R := .call (ww 74 [xs a0, xs a1] []) (Uy a0 a1) Qf k
theorem Uy.ok {a0 : ByteArray} {a1 : ByteArray} {r : ByteArray} (h : Uy a0 a1 = some r) : ww 74 [xs a0, xs a1] [] = some (Qf r) := (ZQ rfl _ _).trans (QqS h)
abbrev QhM := ByteArray → Option ByteArray
structure JQ where
 x0 : ByteArray
 x3 : Bool
 x4 : Int
def Yk (a : JQ) : St := { n := 31, nx := 0, env := [(0, xs a.x0), (3, xo a.x3), (4, xi a.x4)], heap := [] }
def Gy (a : ByteArray) : Ex × St := (.ret, { n := 31, nx := 0, env := [(2, xs a)], heap := [] })
abbrev Qdj := JQ → Option ByteArray
def Gz (C0 : PZ) (a : JQ) : Option (JQ ⊕ ByteArray) := (bif (a.x4 == ((a.x0.size : Nat) : Int)) then (bif (decide (0 ≤ (0 : Int) ∧ (0 : Int) ≤ a.x4 ∧ a.x4 ≤ ((a.x0.size : Nat) : Int))) then ((C0 (a.x0.extract (Int.toNat 0) (Int.toNat a.x4)) XN).bind fun r1 => (some (.inr r1))) else none) else (bif (decide (0 ≤ a.x4 ∧ a.x4 < ((a.x0.size : Nat) : Int))) then (bif (((a.x0.data.getD (Int.toNat a.x4) 0).toNat : Int) == 35) then (bif (!a.x3) then (bif (decide (0 ≤ (0 : Int) ∧ (0 : Int) ≤ a.x4 ∧ a.x4 ≤ ((a.x0.size : Nat) : Int))) then ((C0 (a.x0.extract (Int.toNat 0) (Int.toNat a.x4)) XN).bind fun r2 => (some (.inr r2))) else none) else (bif (((a.x0.data.getD (Int.toNat a.x4) 0).toNat : Int) == 34) then (some (.inl (JQ.mk a.x0 (!a.x3) (w64 (a.x4 + 1))))) else (some (.inl (JQ.mk a.x0 a.x3 (w64 (a.x4 + 1))))))) else (bif (((a.x0.data.getD (Int.toNat a.x4) 0).toNat : Int) == 34) then (some (.inl (JQ.mk a.x0 (!a.x3) (w64 (a.x4 + 1))))) else (some (.inl (JQ.mk a.x0 a.x3 (w64 (a.x4 + 1))))))) else none))
noncomputable def Vx : Qdj := loopW (Gz Uy)
theorem Vx.eq (a : JQ) : Vx a = (Gz Uy a).bind (Sum.elim Vx some) := JM _ _
noncomputable abbrev Qiy {ρ R : Type} (a : JQ) (k0 : ByteArray → Tr ρ R) : Tr ρ R := .loop (loopAt pp 71 3) (Yk a) (Vx a) Gy k0
noncomputable def Qiz (a : JQ) : Tr (JQ ⊕ ByteArray) XS := (let u40 := (a.x4 == (zz a.x0)); .as u40 (yesN 6 u40 (.yes true (.as (in2 i0 a.x4 (zz a.x0)) (XA (cu a.x0 i0 a.x4) XN fun r1 => (rx Gy r1)) .fail))) (noN 2 u40 (let u39 := (in1 a.x4 (zz a.x0)); .as u39 (noN 2 u40 (let u38 := ((gb a.x0 a.x4) == 35); .as u38 (.yes u38 (.no u40 (.yes u38 (.no u40 (.as (!a.x3) (.as (in2 i0 a.x4 (zz a.x0)) (XA (cu a.x0 i0 a.x4) XN fun r2 => (rx Gy r2)) .fail) (.yes u39 (.as ((gb a.x0 a.x4) == 34) (lf Yk (JQ.mk a.x0 (!a.x3) (w64 (a.x4 + 1)))) (lf Yk (JQ.mk a.x0 a.x3 (w64 (a.x4 + 1))))))))))) (.no u38 (.no u40 (.no u38 (.no u40 (.no false (.yes u39 (.as ((gb a.x0 a.x4) == 34) (lf Yk (JQ.mk a.x0 (!a.x3) (w64 (a.x4 + 1)))) (lf Yk (JQ.mk a.x0 a.x3 (w64 (a.x4 + 1))))))))))))) .fail)))
theorem Vx.ok {a : JQ} {r : ByteArray} (h : Vx a = some r) : lw 0 71 (loopAt pp 71 3) (Yk a) = some (Gy r) := by
 refine lpP h Qiz fun a => ?_
 exact ⟨rfl, fun q0 => Ql 6 (q0) (⟨rfl, ⟨rfl, fun q1 => fun r1 h => ⟨Uy.ok h, rfl⟩, fun q1 => trivial⟩⟩), fun q0 => noN_ok 2 (q0) (⟨rfl, fun q1 => noN_ok 2 (q0) (⟨rfl, fun q2 => ⟨q2, ⟨q0, ⟨q2, ⟨q0, ⟨rfl, fun q3 => ⟨rfl, fun q4 => fun r2 h => ⟨Uy.ok h, rfl⟩, fun q4 => trivial⟩, fun q3 => ⟨q1, ⟨rfl, fun q4 => rfl, fun q4 => rfl⟩⟩⟩⟩⟩⟩⟩, fun q2 => ⟨q2, ⟨q0, ⟨q2, ⟨q0, ⟨rfl, ⟨q1, ⟨rfl, fun q3 => rfl, fun q3 => rfl⟩⟩⟩⟩⟩⟩⟩⟩), fun q1 => trivial⟩)⟩
def Qbq (L0 : Qdj) (a0 : ByteArray) : Option ByteArray := ((L0 (JQ.mk a0 false (0 : Int))).bind (fun (o1 : ByteArray) => (some o1)))
noncomputable def Yc : QhM := Qbq Vx
theorem Yc.eq (a0 : ByteArray) : Yc a0 = Qbq Vx a0 := rfl
noncomputable def Qmj (a0 : ByteArray) : Tr ByteArray AH := (Qiy (JQ.mk a0 false i0) (fun o1 => (rt Qf o1)))
theorem Yc.ok {a0 : ByteArray} {r : ByteArray} (h : Yc a0 = some r) : ww 71 [xs a0] [] = some (Qf r) := by
 refine fnP (Qmj a0) ?_ h
 exact fun o1 h => ⟨Vx.ok h, rfl⟩
noncomputable abbrev Qmk {ρ R : Type} (a0 : ByteArray) (k : ByteArray → Tr ρ R) : Tr ρ R := .call (ww 71 [xs a0] []) (Yc a0) Qf k
abbrev Qgi := Int → Option Bool
def Qak (a0 : Int) : Option Bool := (bif (a0 != 32) then (some (a0 != 9)) else (some false))
noncomputable def XI : Qgi := Qak
theorem XI.eq (a0 : Int) : XI a0 = Qak a0 := rfl
noncomputable def Qk2 (a0 : Int) : Tr Bool AH := (let u41 := (a0 != 32); .as u41 (yesN 2 u41 (rt Qk (a0 != 9))) (noN 2 u41 (rt Qk false)))
theorem XI.ok {a0 : Int} {r : Bool} (h : XI a0 = some r) : ww 75 [xb a0] [] = some (Qk r) := by
 refine fnP (Qk2 a0) ?_ h
 exact ⟨rfl, fun q0 => Ql 2 (q0) (rfl), fun q0 => noN_ok 2 (q0) (rfl)⟩
noncomputable abbrev Qk3 {ρ R : Type} (a0 : Int) (k : Bool → Tr ρ R) : Tr ρ R := .call (ww 75 [xb a0] []) (XI a0) Qk k
abbrev Qdk := ByteArray → Option Int
structure Up where
 x0 : ByteArray
 x5 : Int
def GM (a : Up) : St := { n := 20, nx := 0, env := [(0, xs a.x0), (1, .fn (.func 75) [] []), (5, xi a.x5)], heap := [] }
def Za (a : Int) : Ex × St := (.exit 0, { n := 20, nx := 0, env := [(5, xi a)], heap := [] })
abbrev Qal := Up → Option Int
def GN (C0 : Qgi) (a : Up) : Option (Up ⊕ Int) := (bif (decide (a.x5 < ((a.x0.size : Nat) : Int))) then (bif (decide (0 ≤ a.x5 ∧ a.x5 < ((a.x0.size : Nat) : Int))) then ((C0 ((a.x0.data.getD (Int.toNat a.x5) 0).toNat : Int)).bind fun r1 => (bif r1 then (some (.inl (Up.mk a.x0 (w64 (a.x5 + 1))))) else (some (.inr a.x5)))) else none) else (some (.inr a.x5)))
noncomputable def VU : Qal := loopW (GN XI)
theorem VU.eq (a : Up) : VU a = (GN XI a).bind (Sum.elim VU some) := JM _ _
noncomputable abbrev QfP {ρ R : Type} (a : Up) (k0 : Int → Tr ρ R) : Tr ρ R := .loop (loopAt pp 72 2) (GM a) (VU a) Za k0
noncomputable def QfQ (a : Up) : Tr (Up ⊕ Int) XS := (let u42 := (decide (a.x5 < (zz a.x0))); .as u42 (yesN 3 u42 (.as (in1 a.x5 (zz a.x0)) (.yes u42 (Qk3 (gb a.x0 a.x5) fun r1 => (.yes u42 (.as r1 (lf GM (Up.mk a.x0 (w64 (a.x5 + 1)))) (rx Za a.x5))))) .fail)) (noN 5 u42 (.no false (rx Za a.x5))))
theorem VU.ok {a : Up} {r : Int} (h : VU a = some r) : lw 0 72 (loopAt pp 72 2) (GM a) = some (Za r) := by
 refine lpP h QfQ fun a => ?_
 exact ⟨rfl, fun q0 => Ql 3 (q0) (⟨rfl, fun q1 => ⟨q0, fun r1 h => ⟨XI.ok h, ⟨q0, ⟨rfl, fun q2 => rfl, fun q2 => rfl⟩⟩⟩⟩, fun q1 => trivial⟩), fun q0 => noN_ok 5 (q0) (⟨rfl, rfl⟩)⟩
def FH (L0 : Qal) (a0 : ByteArray) : Option Int := ((L0 (Up.mk a0 (0 : Int))).bind (fun (o1 : Int) => (some o1)))
noncomputable def Vy : Qdk := FH VU
theorem Vy.eq (a0 : ByteArray) : Vy a0 = FH VU a0 := rfl
noncomputable def QiA (a0 : ByteArray) : Tr Int AH := (QfP (Up.mk a0 i0) (fun o1 => (rt Qp o1)))
theorem Vy.ok {a0 : ByteArray} {r : Int} (h : Vy a0 = some r) : ww 72 [xs a0, .fn (.func 75) [] []] [] = some (Qp r) := by
 refine fnP (QiA a0) ?_ h
 exact fun o1 h => ⟨VU.ok h, rfl⟩
noncomputable abbrev FJ {ρ R : Type} (a0 : ByteArray) (k : Int → Tr ρ R) : Tr ρ R := .call (ww 72 [xs a0, .fn (.func 75) [] []] []) (Vy a0) Qp k
def Qa0 (r : (List ByteArray)) : AV × Heap := (.arr 0, [(0, .arr false 1 (Qi r))])
abbrev QiB := ByteArray → ByteArray → Option (List ByteArray)
noncomputable def XU (a0 : ByteArray) (a1 : ByteArray) : Option (List ByteArray) := splitS a0 a1
noncomputable abbrev QhN {ρ R : Type} (a0 : ByteArray) (a1 : ByteArray) (k : (List ByteArray) → Tr ρ R) : Tr ρ R := .call (ww 79 [xs a0, xs a1] []) (XU a0 a1) Qa0 k
theorem XU.ok {a0 : ByteArray} {a1 : ByteArray} {r : (List ByteArray)} (h : XU a0 a1 = some r) : ww 79 [xs a0, xs a1] [] = some (Qa0 r) := (ZQ rfl _ _).trans (QpP h)
def Jp (r : (List ByteArray)) : AV × Heap := (.sl (Qi r), [])
abbrev Qcc := ByteArray → Option (List ByteArray)
structure J9 where
 x10 : Int
 x11 : Int
 r0 : (List ByteArray)
def Gc (a : J9) : St := { n := 24, nx := 1, env := [(3, .arr 0), (10, xi a.x10), (11, xi a.x11)], heap := [(0, .arr false 1 (Qi a.r0))] }
def Gd (a : (List ByteArray)) : Ex × St := (.exit 0, { n := 24, nx := 1, env := [(3, .arr 0)], heap := [(0, .arr false 1 (Qi a))] })
abbrev P9 := J9 → Option (List ByteArray)
def YQ (C0 : PZ) (a : J9) : Option (J9 ⊕ (List ByteArray)) := (bif (decide (a.x11 < a.x10)) then (bif (decide (0 ≤ a.x11 ∧ a.x11 < ((a.r0.length : Nat) : Int))) then ((a.r0[(Int.toNat a.x11)]?).bind fun e1 => ((C0 e1 XN).bind fun r2 => ((a.r0[(Int.toNat a.x11)]?).bind fun e3 => (some (.inl (J9.mk a.x10 (w64 (a.x11 + 1)) (a.r0.set (Int.toNat a.x11) r2))))))) else none) else (some (.inr a.r0)))
noncomputable def UD : P9 := loopW (YQ Uy)
theorem UD.eq (a : J9) : UD a = (YQ Uy a).bind (Sum.elim UD some) := JM _ _
noncomputable abbrev Qey {ρ R : Type} (a : J9) (k0 : (List ByteArray) → Tr ρ R) : Tr ρ R := .loop (loopAt pp 123 5) (Gc a) (UD a) Gd k0
noncomputable def Qez (a : J9) : Tr (J9 ⊕ (List ByteArray)) XS := (.as (decide (a.x11 < a.x10)) (let u43 := (in1 a.x11 (((Qi a.r0).length : Nat) : Int)); .ask u43 (in1 a.x11 ((a.r0.length : Nat) : Int)) (.row ((Qi a.r0)[(Int.toNat a.x11)]?) (a.r0[(Int.toNat a.x11)]?) Q8 fun (e1 : ByteArray) => (XA e1 XN fun r2 => (.yes u43 (.row ((Qi a.r0)[(Int.toNat a.x11)]?) (a.r0[(Int.toNat a.x11)]?) Q8 fun (e3 : ByteArray) => (.rows ((Qi a.r0).set (Int.toNat a.x11) [xs r2]) (Qi (a.r0.set (Int.toNat a.x11) r2)) (lf Gc (J9.mk a.x10 (w64 (a.x11 + 1)) (a.r0.set (Int.toNat a.x11) r2)))))))) .fail) (rx Gd a.r0))
theorem UD.ok {a : J9} {r : (List ByteArray)} (h : UD a = some r) : lw 0 123 (loopAt pp 123 5) (Gc a) = some (Gd r) := by
 refine lpP h Qez fun a => ?_
 exact ⟨rfl, fun q0 => ⟨(by rw [Qs]), fun q1 => fun e1 h => ⟨Q5 h, fun r2 h => ⟨Uy.ok h, ⟨(show (decide (0 ≤ a.x11 ∧ a.x11 < (((Qi a.r0).length : Nat) : Int))) = (decide (0 ≤ a.x11 ∧ a.x11 < ((a.r0.length : Nat) : Int))) from (by rw [Qs])).trans q1, fun e3 h => ⟨Q5 h, ⟨(QkU a.r0 (Int.toNat a.x11) r2), rfl⟩⟩⟩⟩⟩, fun q1 => trivial⟩, fun q0 => rfl⟩
def E5 (C0 : QiB) (L1 : P9) (a0 : ByteArray) : Option (List ByteArray) := (bif (eqS a0 s_) then (some ([] : List ByteArray)) else ((C0 a0 h_2c).bind fun r1 => ((L1 (J9.mk (((r1.length) : Nat) : Int) (0 : Int) r1)).bind (fun (o2 : (List ByteArray)) => (some o2)))))
noncomputable def Wz : Qcc := E5 XU UD
theorem Wz.eq (a0 : ByteArray) : Wz a0 = E5 XU UD a0 := rfl
noncomputable def QhO (a0 : ByteArray) : Tr (List ByteArray) AH := (.as (eqS a0 s_) (rt Jp ([] : List ByteArray)) (QhN a0 h_2c fun r1 => (.num ((Qi r1).length) (r1.length) (Qey (J9.mk (((r1.length) : Nat) : Int) i0 r1) (fun o2 => (rt Jp o2))))))
theorem Wz.ok {a0 : ByteArray} {r : (List ByteArray)} (h : Wz a0 = some r) : ww 123 [xs a0] [] = some (Jp r) := by
 refine fnP (QhO a0) ?_ h
 exact ⟨rfl, fun q0 => rfl, fun q0 => fun r1 h => ⟨XU.ok h, ⟨(Qs _), fun o2 h => ⟨UD.ok h, rfl⟩⟩⟩⟩
noncomputable abbrev QhP {ρ R : Type} (a0 : ByteArray) (k : (List ByteArray) → Tr ρ R) : Tr ρ R := .call (ww 123 [xs a0] []) (Wz a0) Jp k
def Qbr (r : (List Qc)) : AV × Heap := (.sl (WM r), [])
abbrev YR := Option (List Qc)
def Qgj : Option (List Qc) := (some [(Qc.mk Ga (0 : Int) s_), (Qc.mk EW (1 : Int) s_), (Qc.mk Qb9 (2 : Int) s_), (Qc.mk SZ (4 : Int) s_), (Qc.mk Pr (6 : Int) s_), (Qc.mk Qab (32 : Int) s_X), (Qc.mk Qaa (48 : Int) s_X), (Qc.mk Pu (128 : Int) s_X), (Qc.mk Pv (144 : Int) s_X), (Qc.mk EX (160 : Int) s_X), (Qc.mk EY (176 : Int) s_X), (Qc.mk EU (192 : Int) s_X), (Qc.mk ES (208 : Int) s_X), (Qc.mk EV (224 : Int) s_X), (Qc.mk ET (240 : Int) s_X), (Qc.mk Qb7 (256 : Int) Jc), (Qc.mk SX (1024 : Int) Jc), (Qc.mk EZ (1280 : Int) Jc), (Qc.mk Qaf (1536 : Int) Jc), (Qc.mk S6 (3072 : Int) Jc), (Qc.mk Pt (3328 : Int) Jc), (Qc.mk Pp (8192 : Int) V2), (Qc.mk ER (8704 : Int) V2), (Qc.mk Py (9216 : Int) V2), (Qc.mk Ps (10752 : Int) Jx), (Qc.mk Qb8 (17408 : Int) Jc), (Qc.mk Pq (17664 : Int) Jc), (Qc.mk SY (17920 : Int) Jc), (Qc.mk Qb6 (18432 : Int) EL), (Qc.mk EO (24576 : Int) Jx), (Qc.mk EP (25600 : Int) Jx), (Qc.mk EQ (26112 : Int) Jx), (Qc.mk Px (26624 : Int) Jx), (Qc.mk Pw (27648 : Int) Jx), (Qc.mk S7 (32768 : Int) Wb), (Qc.mk Qac (36864 : Int) Wb), (Qc.mk S8 (40960 : Int) Wc), (Qc.mk Qad (45056 : Int) Wc), (Qc.mk S9 (49152 : Int) Wd), (Qc.mk Qae (53248 : Int) Wd), (Qc.mk Qb4 (57344 : Int) XO), (Qc.mk Qes (59392 : Int) s_T8), (Qc.mk Qb5 (59648 : Int) s_T8), (Qc.mk EM (469762048 : Int) Yt), (Qc.mk SU (402685952 : Int) Zh), (Qc.mk SV (402702336 : Int) UC), (Qc.mk QbZ (402706432 : Int) UC), (Qc.mk SW (402710528 : Int) UC), (Qc.mk Qer (1879048192 : Int) Z9), (Qc.mk QbV (805306368 : Int) Qz), (Qc.mk Qb0 (872415232 : Int) Qz), (Qc.mk QbW (939524096 : Int) Qz), (Qc.mk QbY (1342177280 : Int) Qz), (Qc.mk Qb2 (1409286144 : Int) Qz), (Qc.mk QbX (1476395008 : Int) Qz), (Qc.mk Qb1 (1543503872 : Int) Qz), (Qc.mk QhI (2013265920 : Int) Ec), (Qc.mk Qeq (2013265921 : Int) Ec), (Qc.mk Qep (2046820352 : Int) UI), (Qc.mk QbU (2046820353 : Int) UI), (Qc.mk QhG (2080375316 : Int) Ve), (Qc.mk Qet (2080374864 : Int) Ve), (Qc.mk Qb3 (2080375254 : Int) Ve), (Qc.mk QhH (2080374840 : Int) Vd), (Qc.mk s_or (2080375672 : Int) Vd), (Qc.mk QhJ (2080375416 : Int) Vd)])
noncomputable def U6 : YR := Qgj
noncomputable def Qml : Tr (List Qc) AH := (.rows [[xs Ga, .sc (.int .u32 i0), xs s_], [xs EW, .sc (.int .u32 (zi 1)), xs s_], [xs Qb9, .sc (.int .u32 (zi 2)), xs s_], [xs SZ, .sc (.int .u32 (zi 4)), xs s_], [xs Pr, .sc (.int .u32 (zi 6)), xs s_], [xs Qab, .sc (.int .u32 (zi 32)), xs s_X], [xs Qaa, .sc (.int .u32 (zi 48)), xs s_X], [xs Pu, .sc (.int .u32 (zi 128)), xs s_X], [xs Pv, .sc (.int .u32 (zi 144)), xs s_X], [xs EX, .sc (.int .u32 (zi 160)), xs s_X], [xs EY, .sc (.int .u32 (zi 176)), xs s_X], [xs EU, .sc (.int .u32 (zi 192)), xs s_X], [xs ES, .sc (.int .u32 (zi 208)), xs s_X], [xs EV, .sc (.int .u32 (zi 224)), xs s_X], [xs ET, .sc (.int .u32 (zi 240)), xs s_X], [xs Qb7, .sc (.int .u32 (zi 256)), xs Jc], [xs SX, .sc (.int .u32 (zi 1024)), xs Jc], [xs EZ, .sc (.int .u32 (zi 1280)), xs Jc], [xs Qaf, .sc (.int .u32 (zi 1536)), xs Jc], [xs S6, .sc (.int .u32 (zi 3072)), xs Jc], [xs Pt, .sc (.int .u32 (zi 3328)), xs Jc], [xs Pp, .sc (.int .u32 (zi 8192)), xs V2], [xs ER, .sc (.int .u32 (zi 8704)), xs V2], [xs Py, .sc (.int .u32 (zi 9216)), xs V2], [xs Ps, .sc (.int .u32 (zi 10752)), xs Jx], [xs Qb8, .sc (.int .u32 (zi 17408)), xs Jc], [xs Pq, .sc (.int .u32 (zi 17664)), xs Jc], [xs SY, .sc (.int .u32 (zi 17920)), xs Jc], [xs Qb6, .sc (.int .u32 (zi 18432)), xs EL], [xs EO, .sc (.int .u32 (zi 24576)), xs Jx], [xs EP, .sc (.int .u32 (zi 25600)), xs Jx], [xs EQ, .sc (.int .u32 (zi 26112)), xs Jx], [xs Px, .sc (.int .u32 (zi 26624)), xs Jx], [xs Pw, .sc (.int .u32 (zi 27648)), xs Jx], [xs S7, .sc (.int .u32 (zi 32768)), xs Wb], [xs Qac, .sc (.int .u32 (zi 36864)), xs Wb], [xs S8, .sc (.int .u32 (zi 40960)), xs Wc], [xs Qad, .sc (.int .u32 (zi 45056)), xs Wc], [xs S9, .sc (.int .u32 (zi 49152)), xs Wd], [xs Qae, .sc (.int .u32 (zi 53248)), xs Wd], [xs Qb4, .sc (.int .u32 (zi 57344)), xs XO], [xs Qes, .sc (.int .u32 (zi 59392)), xs s_T8], [xs Qb5, .sc (.int .u32 (zi 59648)), xs s_T8], [xs EM, .sc (.int .u32 (zi 469762048)), xs Yt], [xs SU, .sc (.int .u32 (zi 402685952)), xs Zh], [xs SV, .sc (.int .u32 (zi 402702336)), xs UC], [xs QbZ, .sc (.int .u32 (zi 402706432)), xs UC], [xs SW, .sc (.int .u32 (zi 402710528)), xs UC], [xs Qer, .sc (.int .u32 (zi 1879048192)), xs Z9], [xs QbV, .sc (.int .u32 (zi 805306368)), xs Qz], [xs Qb0, .sc (.int .u32 (zi 872415232)), xs Qz], [xs QbW, .sc (.int .u32 (zi 939524096)), xs Qz], [xs QbY, .sc (.int .u32 (zi 1342177280)), xs Qz], [xs Qb2, .sc (.int .u32 (zi 1409286144)), xs Qz], [xs QbX, .sc (.int .u32 (zi 1476395008)), xs Qz], [xs Qb1, .sc (.int .u32 (zi 1543503872)), xs Qz], [xs QhI, .sc (.int .u32 (zi 2013265920)), xs Ec], [xs Qeq, .sc (.int .u32 (zi 2013265921)), xs Ec], [xs Qep, .sc (.int .u32 (zi 2046820352)), xs UI], [xs QbU, .sc (.int .u32 (zi 2046820353)), xs UI], [xs QhG, .sc (.int .u32 (zi 2080375316)), xs Ve], [xs Qet, .sc (.int .u32 (zi 2080374864)), xs Ve], [xs Qb3, .sc (.int .u32 (zi 2080375254)), xs Ve], [xs QhH, .sc (.int .u32 (zi 2080374840)), xs Vd], [xs s_or, .sc (.int .u32 (zi 2080375672)), xs Vd], [xs QhJ, .sc (.int .u32 (zi 2080375416)), xs Vd]] (WM [(Qc.mk Ga i0 s_), (Qc.mk EW (zi 1) s_), (Qc.mk Qb9 (zi 2) s_), (Qc.mk SZ (zi 4) s_), (Qc.mk Pr (zi 6) s_), (Qc.mk Qab (zi 32) s_X), (Qc.mk Qaa (zi 48) s_X), (Qc.mk Pu (zi 128) s_X), (Qc.mk Pv (zi 144) s_X), (Qc.mk EX (zi 160) s_X), (Qc.mk EY (zi 176) s_X), (Qc.mk EU (zi 192) s_X), (Qc.mk ES (zi 208) s_X), (Qc.mk EV (zi 224) s_X), (Qc.mk ET (zi 240) s_X), (Qc.mk Qb7 (zi 256) Jc), (Qc.mk SX (zi 1024) Jc), (Qc.mk EZ (zi 1280) Jc), (Qc.mk Qaf (zi 1536) Jc), (Qc.mk S6 (zi 3072) Jc), (Qc.mk Pt (zi 3328) Jc), (Qc.mk Pp (zi 8192) V2), (Qc.mk ER (zi 8704) V2), (Qc.mk Py (zi 9216) V2), (Qc.mk Ps (zi 10752) Jx), (Qc.mk Qb8 (zi 17408) Jc), (Qc.mk Pq (zi 17664) Jc), (Qc.mk SY (zi 17920) Jc), (Qc.mk Qb6 (zi 18432) EL), (Qc.mk EO (zi 24576) Jx), (Qc.mk EP (zi 25600) Jx), (Qc.mk EQ (zi 26112) Jx), (Qc.mk Px (zi 26624) Jx), (Qc.mk Pw (zi 27648) Jx), (Qc.mk S7 (zi 32768) Wb), (Qc.mk Qac (zi 36864) Wb), (Qc.mk S8 (zi 40960) Wc), (Qc.mk Qad (zi 45056) Wc), (Qc.mk S9 (zi 49152) Wd), (Qc.mk Qae (zi 53248) Wd), (Qc.mk Qb4 (zi 57344) XO), (Qc.mk Qes (zi 59392) s_T8), (Qc.mk Qb5 (zi 59648) s_T8), (Qc.mk EM (zi 469762048) Yt), (Qc.mk SU (zi 402685952) Zh), (Qc.mk SV (zi 402702336) UC), (Qc.mk QbZ (zi 402706432) UC), (Qc.mk SW (zi 402710528) UC), (Qc.mk Qer (zi 1879048192) Z9), (Qc.mk QbV (zi 805306368) Qz), (Qc.mk Qb0 (zi 872415232) Qz), (Qc.mk QbW (zi 939524096) Qz), (Qc.mk QbY (zi 1342177280) Qz), (Qc.mk Qb2 (zi 1409286144) Qz), (Qc.mk QbX (zi 1476395008) Qz), (Qc.mk Qb1 (zi 1543503872) Qz), (Qc.mk QhI (zi 2013265920) Ec), (Qc.mk Qeq (zi 2013265921) Ec), (Qc.mk Qep (zi 2046820352) UI), (Qc.mk QbU (zi 2046820353) UI), (Qc.mk QhG (zi 2080375316) Ve), (Qc.mk Qet (zi 2080374864) Ve), (Qc.mk Qb3 (zi 2080375254) Ve), (Qc.mk QhH (zi 2080374840) Vd), (Qc.mk s_or (zi 2080375672) Vd), (Qc.mk QhJ (zi 2080375416) Vd)]) (rt Qbr [(Qc.mk Ga i0 s_), (Qc.mk EW (zi 1) s_), (Qc.mk Qb9 (zi 2) s_), (Qc.mk SZ (zi 4) s_), (Qc.mk Pr (zi 6) s_), (Qc.mk Qab (zi 32) s_X), (Qc.mk Qaa (zi 48) s_X), (Qc.mk Pu (zi 128) s_X), (Qc.mk Pv (zi 144) s_X), (Qc.mk EX (zi 160) s_X), (Qc.mk EY (zi 176) s_X), (Qc.mk EU (zi 192) s_X), (Qc.mk ES (zi 208) s_X), (Qc.mk EV (zi 224) s_X), (Qc.mk ET (zi 240) s_X), (Qc.mk Qb7 (zi 256) Jc), (Qc.mk SX (zi 1024) Jc), (Qc.mk EZ (zi 1280) Jc), (Qc.mk Qaf (zi 1536) Jc), (Qc.mk S6 (zi 3072) Jc), (Qc.mk Pt (zi 3328) Jc), (Qc.mk Pp (zi 8192) V2), (Qc.mk ER (zi 8704) V2), (Qc.mk Py (zi 9216) V2), (Qc.mk Ps (zi 10752) Jx), (Qc.mk Qb8 (zi 17408) Jc), (Qc.mk Pq (zi 17664) Jc), (Qc.mk SY (zi 17920) Jc), (Qc.mk Qb6 (zi 18432) EL), (Qc.mk EO (zi 24576) Jx), (Qc.mk EP (zi 25600) Jx), (Qc.mk EQ (zi 26112) Jx), (Qc.mk Px (zi 26624) Jx), (Qc.mk Pw (zi 27648) Jx), (Qc.mk S7 (zi 32768) Wb), (Qc.mk Qac (zi 36864) Wb), (Qc.mk S8 (zi 40960) Wc), (Qc.mk Qad (zi 45056) Wc), (Qc.mk S9 (zi 49152) Wd), (Qc.mk Qae (zi 53248) Wd), (Qc.mk Qb4 (zi 57344) XO), (Qc.mk Qes (zi 59392) s_T8), (Qc.mk Qb5 (zi 59648) s_T8), (Qc.mk EM (zi 469762048) Yt), (Qc.mk SU (zi 402685952) Zh), (Qc.mk SV (zi 402702336) UC), (Qc.mk QbZ (zi 402706432) UC), (Qc.mk SW (zi 402710528) UC), (Qc.mk Qer (zi 1879048192) Z9), (Qc.mk QbV (zi 805306368) Qz), (Qc.mk Qb0 (zi 872415232) Qz), (Qc.mk QbW (zi 939524096) Qz), (Qc.mk QbY (zi 1342177280) Qz), (Qc.mk Qb2 (zi 1409286144) Qz), (Qc.mk QbX (zi 1476395008) Qz), (Qc.mk Qb1 (zi 1543503872) Qz), (Qc.mk QhI (zi 2013265920) Ec), (Qc.mk Qeq (zi 2013265921) Ec), (Qc.mk Qep (zi 2046820352) UI), (Qc.mk QbU (zi 2046820353) UI), (Qc.mk QhG (zi 2080375316) Ve), (Qc.mk Qet (zi 2080374864) Ve), (Qc.mk Qb3 (zi 2080375254) Ve), (Qc.mk QhH (zi 2080374840) Vd), (Qc.mk s_or (zi 2080375672) Vd), (Qc.mk QhJ (zi 2080375416) Vd)]))
theorem U6.ok {r : (List Qc)} (h : U6 = some r) : ww 139 [] [] = some (Qbr r) := by
 refine fnP (Qml) ?_ h
 exact ⟨(PU [(Qc.mk Ga (0 : Int) s_), (Qc.mk EW (1 : Int) s_), (Qc.mk Qb9 (2 : Int) s_), (Qc.mk SZ (4 : Int) s_), (Qc.mk Pr (6 : Int) s_), (Qc.mk Qab (32 : Int) s_X), (Qc.mk Qaa (48 : Int) s_X), (Qc.mk Pu (128 : Int) s_X), (Qc.mk Pv (144 : Int) s_X), (Qc.mk EX (160 : Int) s_X), (Qc.mk EY (176 : Int) s_X), (Qc.mk EU (192 : Int) s_X), (Qc.mk ES (208 : Int) s_X), (Qc.mk EV (224 : Int) s_X), (Qc.mk ET (240 : Int) s_X), (Qc.mk Qb7 (256 : Int) Jc), (Qc.mk SX (1024 : Int) Jc), (Qc.mk EZ (1280 : Int) Jc), (Qc.mk Qaf (1536 : Int) Jc), (Qc.mk S6 (3072 : Int) Jc), (Qc.mk Pt (3328 : Int) Jc), (Qc.mk Pp (8192 : Int) V2), (Qc.mk ER (8704 : Int) V2), (Qc.mk Py (9216 : Int) V2), (Qc.mk Ps (10752 : Int) Jx), (Qc.mk Qb8 (17408 : Int) Jc), (Qc.mk Pq (17664 : Int) Jc), (Qc.mk SY (17920 : Int) Jc), (Qc.mk Qb6 (18432 : Int) EL), (Qc.mk EO (24576 : Int) Jx), (Qc.mk EP (25600 : Int) Jx), (Qc.mk EQ (26112 : Int) Jx), (Qc.mk Px (26624 : Int) Jx), (Qc.mk Pw (27648 : Int) Jx), (Qc.mk S7 (32768 : Int) Wb), (Qc.mk Qac (36864 : Int) Wb), (Qc.mk S8 (40960 : Int) Wc), (Qc.mk Qad (45056 : Int) Wc), (Qc.mk S9 (49152 : Int) Wd), (Qc.mk Qae (53248 : Int) Wd), (Qc.mk Qb4 (57344 : Int) XO), (Qc.mk Qes (59392 : Int) s_T8), (Qc.mk Qb5 (59648 : Int) s_T8), (Qc.mk EM (469762048 : Int) Yt), (Qc.mk SU (402685952 : Int) Zh), (Qc.mk SV (402702336 : Int) UC), (Qc.mk QbZ (402706432 : Int) UC), (Qc.mk SW (402710528 : Int) UC), (Qc.mk Qer (1879048192 : Int) Z9), (Qc.mk QbV (805306368 : Int) Qz), (Qc.mk Qb0 (872415232 : Int) Qz), (Qc.mk QbW (939524096 : Int) Qz), (Qc.mk QbY (1342177280 : Int) Qz), (Qc.mk Qb2 (1409286144 : Int) Qz), (Qc.mk QbX (1476395008 : Int) Qz), (Qc.mk Qb1 (1543503872 : Int) Qz), (Qc.mk QhI (2013265920 : Int) Ec), (Qc.mk Qeq (2013265921 : Int) Ec), (Qc.mk Qep (2046820352 : Int) UI), (Qc.mk QbU (2046820353 : Int) UI), (Qc.mk QhG (2080375316 : Int) Ve), (Qc.mk Qet (2080374864 : Int) Ve), (Qc.mk Qb3 (2080375254 : Int) Ve), (Qc.mk QhH (2080374840 : Int) Vd), (Qc.mk s_or (2080375672 : Int) Vd), (Qc.mk QhJ (2080375416 : Int) Vd)]), rfl⟩
noncomputable abbrev Qbs {ρ R : Type} (k : (List Qc) → Tr ρ R) : Tr ρ R := .call (ww 139 [] []) (U6) Qbr k
noncomputable def U6.s : Nat → Option (List Qc)
 | 0 => none
 | k + 1 => Qgj
theorem U6.cv : Cv (fun k => U6.s k ) (U6 ) := .un rfl (by exact .const _)
def Qam (r : (Bool × ByteArray)) : AV × Heap := (xo r.1, [(0, .box [] (Q8 r.2))])
abbrev Qgk := Qc → ByteArray → Option (Bool × ByteArray)
def Qan (a0 : Qc) (h0 : ByteArray) : Option (Bool × ByteArray) := (some ((eqS a0.name h0), h0))
noncomputable def X0 : Qgk := Qan
theorem X0.eq (a0 : Qc) (h0 : ByteArray) : X0 a0 h0 = Qan a0 h0 := rfl
noncomputable def Qk4 (a0 : Qc) (h0 : ByteArray) : Tr (Bool × ByteArray) AH := (rt Qam ((eqS a0.name h0), h0))
theorem X0.ok {a0 : Qc} {h0 : ByteArray} {r : (Bool × ByteArray)} (h : X0 a0 h0 = some r) : ww 176 [.agg (Xq a0), .ptr 0 0] [(0, .box [] (Q8 h0))] = some (Qam r) := by
 refine fnP (Qk4 a0 h0) ?_ h
 exact rfl
noncomputable abbrev Qk5 {ρ R : Type} (a0 : Qc) (h0 : ByteArray) (k : (Bool × ByteArray) → Tr ρ R) : Tr ρ R := .call (ww 176 [.agg (Xq a0), .ptr 0 0] [(0, .box [] (Q8 h0))]) (X0 a0 h0) Qam k
def YS (r : (Int × ByteArray)) : AV × Heap := (xi r.1, [(0, .box [] (Q8 r.2))])
abbrev Sa := (List Qc) → ByteArray → Option (Int × ByteArray)
structure JE where
 x0 : (List Qc)
 x7 : Int
 x8 : Int
 h0 : ByteArray
structure Ug where
 x4 : Int
 h0 : ByteArray
def Zj (a : JE) : St := { n := 19, nx := 1, env := [(0, .sl (WM a.x0)), (1, .fn (.func 176) [] [.ptr 0 0]), (7, xi a.x7), (8, xi a.x8)], heap := [(0, .box [] (Q8 a.h0))] }
def GV (a : Ug) : Ex × St := (.ret, { n := 19, nx := 1, env := [(4, xi a.x4)], heap := [(0, .box [] (Q8 a.h0))] })
def GW (a : ByteArray) : Ex × St := (.exit 0, { n := 19, nx := 1, env := [], heap := [(0, .box [] (Q8 a))] })
def Zk (a : (Ug ⊕ ByteArray)) : Ex × St := Sum.elim GV GW a
abbrev E6 := JE → Option (Ug ⊕ ByteArray)
def Zl (C0 : Qgk) (a : JE) : Option (JE ⊕ (Ug ⊕ ByteArray)) := (bif (decide (a.x8 < a.x7)) then (bif (decide (0 ≤ a.x8)) then ((a.x0[(Int.toNat a.x8)]?).bind fun e1 => ((C0 e1 a.h0).bind fun r2 => (bif r2.1 then (some (.inr (.inl (Ug.mk a.x8 r2.2)))) else (some (.inl (JE.mk a.x0 a.x7 (w64 (a.x8 + 1)) r2.2)))))) else none) else (some (.inr (.inr a.h0))))
noncomputable def Ud : E6 := loopW (Zl X0)
theorem Ud.eq (a : JE) : Ud a = (Zl X0 a).bind (Sum.elim Ud some) := JM _ _
noncomputable abbrev Qcd {ρ R : Type} (a : JE) (k0 : Ug → Tr ρ R) (k1 : ByteArray → Tr ρ R) : Tr ρ R := .loop2 (loopAt pp 175 2) (Zj a) (Ud a) GV GW k0 k1
noncomputable def Qce (a : JE) : Tr (JE ⊕ (Ug ⊕ ByteArray)) XS := (.as (decide (a.x8 < a.x7)) (.as (decide (0 ≤ a.x8)) (.row ((WM a.x0)[(Int.toNat a.x8)]?) (a.x0[(Int.toNat a.x8)]?) Xq fun (e1 : Qc) => (Qk5 e1 a.h0 fun r2 => (.as r2.1 (rx Zk (.inl (Ug.mk a.x8 r2.2))) (lf Zj (JE.mk a.x0 a.x7 (w64 (a.x8 + 1)) r2.2))))) .fail) (rx Zk (.inr a.h0)))
theorem Ud.ok {a : JE} {r : (Ug ⊕ ByteArray)} (h : Ud a = some r) : lw 1 175 (loopAt pp 175 2) (Zj a) = some (Zk r) := by
 refine lpP h Qce fun a => ?_
 exact ⟨rfl, fun q0 => ⟨rfl, fun q1 => fun e1 h => ⟨PV h, fun r2 h => ⟨X0.ok h, ⟨rfl, fun q2 => rfl, fun q2 => rfl⟩⟩⟩, fun q1 => trivial⟩, fun q0 => rfl⟩
def Ge (L0 : E6) (a0 : (List Qc)) (h0 : ByteArray) : Option (Int × ByteArray) := ((L0 (JE.mk a0 (((a0.length) : Nat) : Int) (0 : Int) h0)).bind fun x => Sum.elim (fun (o1 : Ug) => (some (o1.x4, o1.h0))) (fun (o2 : ByteArray) => (some ((-1 : Int), o2))) x)
noncomputable def V3 : Sa := Ge Ud
theorem V3.eq (a0 : (List Qc)) (h0 : ByteArray) : V3 a0 h0 = Ge Ud a0 h0 := rfl
noncomputable def QeA (a0 : (List Qc)) (h0 : ByteArray) : Tr (Int × ByteArray) AH := (.num ((WM a0).length) (a0.length) (Qcd (JE.mk a0 (((a0.length) : Nat) : Int) i0 h0) (fun o1 => (rt YS (o1.x4, o1.h0))) (fun o2 => (rt YS ((-1 : Int), o2)))))
theorem V3.ok {a0 : (List Qc)} {h0 : ByteArray} {r : (Int × ByteArray)} (h : V3 a0 h0 = some r) : ww 175 [.sl (WM a0), .fn (.func 176) [] [.ptr 0 0]] [(0, .box [] (Q8 h0))] = some (YS r) := by
 refine fnP (QeA a0 h0) ?_ h
 exact ⟨(PW _), ⟨fun o1 h => ⟨Ud.ok (r := (.inl _)) h, rfl⟩, fun o2 h => ⟨Ud.ok (r := (.inr _)) h, rfl⟩⟩⟩
noncomputable abbrev QeB {ρ R : Type} (a0 : (List Qc)) (h0 : ByteArray) (k : (Int × ByteArray) → Tr ρ R) : Tr ρ R := .call (ww 175 [.sl (WM a0), .fn (.func 176) [] [.ptr 0 0]] [(0, .box [] (Q8 h0))]) (V3 a0 h0) YS k
def W1 (r : (Int × Bool)) : AV × Heap := (.tup [xi r.1, xo r.2], [])
abbrev Qjm := ByteArray → Option (Int × Bool)
def QcR (C0 : YR) (C1 : Sa) (a0 : ByteArray) : Option (Int × Bool) := ((C0).bind fun r1 => ((C1 r1 a0).bind fun r2 => (some ((if (0 : Int) > r2.1 then (0 : Int) else r2.1), (decide (r2.1 ≥ 0))))))
noncomputable def XB : Qjm := QcR U6 V3
theorem XB.eq (a0 : ByteArray) : XB a0 = QcR U6 V3 a0 := rfl
noncomputable def QnO (a0 : ByteArray) : Tr (Int × Bool) AH := (Qbs fun r1 => (QeB r1 a0 fun r2 => (rt W1 ((if i0 > r2.1 then i0 else r2.1), (decide (r2.1 ≥ 0))))))
theorem XB.ok {a0 : ByteArray} {r : (Int × Bool)} (h : XB a0 = some r) : ww 124 [xs a0] [] = some (W1 r) := by
 refine fnP (QnO a0) ?_ h
 exact fun r1 h => ⟨U6.ok h, fun r2 h => ⟨V3.ok h, rfl⟩⟩
noncomputable abbrev QnP {ρ R : Type} (a0 : ByteArray) (k : (Int × Bool) → Tr ρ R) : Tr ρ R := .call (ww 124 [xs a0] []) (XB a0) W1 k
abbrev Zb := Qc → Option ByteArray
def Pz (a0 : Qc) : Option ByteArray := (some a0.kinds)
noncomputable def Vf : Zb := Pz
noncomputable def QeC (a0 : Qc) : Tr ByteArray AH := (rt Qf a0.kinds)
theorem Vf.ok {a0 : Qc} {r : ByteArray} (h : Vf a0 = some r) : ww 200 [.agg (Xq a0)] [] = some (Qf r) := by
 refine fnP (QeC a0) ?_ h
 exact rfl
noncomputable abbrev QeD {ρ R : Type} (a0 : Qc) (k : ByteArray → Tr ρ R) : Tr ρ R := .call (ww 200 [.agg (Xq a0)] []) (Vf a0) Qf k
noncomputable def Vf.s : Nat → Qc → Option ByteArray
 | 0, _ => none
 | k + 1, a0 => Pz a0
theorem Vf.cv (a0 : Qc) : Cv (fun k => Vf.s k a0) (Vf a0) := .un rfl (by exact .const _)
abbrev Qfz := Int → Option ByteArray
def Qao (C0 : YR) (C1 : Zb) (a0 : Int) : Option ByteArray := ((C0).bind fun r1 => (bif (decide (a0 ≥ 0)) then (bif (decide (a0 < (((r1.length) : Nat) : Int))) then (bif (decide (0 ≤ a0)) then ((r1[(Int.toNat a0)]?).bind fun e2 => ((C1 e2).bind fun r3 => (some r3))) else none) else (some s_)) else (some s_)))
theorem QpS {C0 : Nat → YR} {D0 : YR} (H0 : Cv C0 D0) {C1 : Nat → Zb} {D1 : Zb} (H1 : Cv1 C1 D1) (a0 : Int) : Cv (fun k => Qao (C0 k) (C1 k) a0) (Qao D0 D1 a0) := by
 unfold Qao
 exact .bind (H0) fun r1 => .cond (.cond (.cond (.bind (.const _) fun e2 => .bind (H1 _) fun r3 => by exact .const _) cst) cst) cst
noncomputable def Gf : Qfz := Qao U6 Vf
noncomputable def QpT (a0 : Int) : Tr ByteArray AH := (Qbs fun r1 => (let u44 := (decide (a0 ≥ 0)); .as u44 (yesN 2 u44 (.num ((WM r1).length) (r1.length) (yesN 2 u44 (.as (decide (a0 < (((r1.length) : Nat) : Int))) (.as (decide (0 ≤ a0)) (.row ((WM r1)[(Int.toNat a0)]?) (r1[(Int.toNat a0)]?) Xq fun (e2 : Qc) => (QeD e2 fun r3 => (rt Qf r3))) .fail) (rt Qf s_))))) (noN 4 u44 (.no false (rt Qf s_)))))
theorem Gf.ok {a0 : Int} {r : ByteArray} (h : Gf a0 = some r) : ww 166 [xi a0, .fn (.func 200) [] []] [] = some (Qf r) := by
 refine fnP (QpT a0) ?_ h
 exact fun r1 h => ⟨U6.ok h, ⟨rfl, fun q0 => Ql 2 (q0) (⟨(PW _), Ql 2 (q0) (⟨rfl, fun q1 => ⟨rfl, fun q2 => fun e2 h => ⟨PV h, fun r3 h => ⟨Vf.ok h, rfl⟩⟩, fun q2 => trivial⟩, fun q1 => rfl⟩)⟩), fun q0 => noN_ok 4 (q0) (⟨rfl, rfl⟩)⟩⟩
noncomputable abbrev QpU {ρ R : Type} (a0 : Int) (k : ByteArray → Tr ρ R) : Tr ρ R := .call (ww 166 [xi a0, .fn (.func 200) [] []] []) (Gf a0) Qf k
noncomputable def Gf.s : Nat → Int → Option ByteArray
 | 0, _ => none
 | k + 1, a0 => Qao (U6.s k) (Vf.s k) a0
theorem Gf.cv (a0 : Int) : Cv (fun k => Gf.s k a0) (Gf a0) := .un rfl (QpS U6.cv Vf.cv a0)
abbrev QhQ := Int → Option ByteArray
def GX (C0 : Qfz) (a0 : Int) : Option ByteArray := ((C0 a0).bind fun r1 => (some r1))
theorem Qmm {C0 : Nat → Qfz} {D0 : Qfz} (H0 : Cv1 C0 D0) (a0 : Int) : Cv (fun k => GX (C0 k) a0) (GX D0 a0) := by
 unfold GX
 exact .bind (H0 _) fun r1 => by exact .const _
noncomputable def WN : QhQ := GX Gf
noncomputable def Qmn (a0 : Int) : Tr ByteArray AH := (QpU a0 fun r1 => (rt Qf r1))
theorem WN.ok {a0 : Int} {r : ByteArray} (h : WN a0 = some r) : ww 146 [xi a0] [] = some (Qf r) := by
 refine fnP (Qmn a0) ?_ h
 exact fun r1 h => ⟨Gf.ok h, rfl⟩
noncomputable abbrev Qmo {ρ R : Type} (a0 : Int) (k : ByteArray → Tr ρ R) : Tr ρ R := .call (ww 146 [xi a0] []) (WN a0) Qf k
noncomputable def WN.s : Nat → Int → Option ByteArray
 | 0, _ => none
 | k + 1, a0 => GX (Gf.s k) a0
theorem WN.cv (a0 : Int) : Cv (fun k => WN.s k a0) (WN a0) := .un rfl (Qmm Gf.cv a0)
abbrev QhR := ByteArray → Option (List ByteArray)
noncomputable def XC (a0 : ByteArray) : Option (List ByteArray) := fieldsS a0
noncomputable abbrev QgS {ρ R : Type} (a0 : ByteArray) (k : (List ByteArray) → Tr ρ R) : Tr ρ R := .call (ww 145 [xs a0] []) (XC a0) Jp k
theorem XC.ok {a0 : ByteArray} {r : (List ByteArray)} (h : XC a0 = some r) : ww 145 [xs a0] [] = some (Jp r) := (ZQ rfl _ _).trans (QoJ h)
abbrev QfR := ByteArray → ByteArray → Option Bool
noncomputable def W2 (a0 : ByteArray) (a1 : ByteArray) : Option Bool := containsS a0 a1
noncomputable abbrev QeE {ρ R : Type} (a0 : ByteArray) (a1 : ByteArray) (k : Bool → Tr ρ R) : Tr ρ R := .call (ww 177 [xs a0, xs a1] []) (W2 a0 a1) Qk k
theorem W2.ok {a0 : ByteArray} {a1 : ByteArray} {r : Bool} (h : W2 a0 a1 = some r) : ww 177 [xs a0, xs a1] [] = some (Qk r) := (ZQ rfl _ _).trans (Qme h)
def P0 (r : (List (List Int))) : AV × Heap := (.sl (Pn r), [])
abbrev Yu := Option (List (List Int))
def Qdl : Option (List (List Int)) := (some [[(9 : Int)], [(8 : Int)], [(10 : Int), (11 : Int)], [(5 : Int), (6 : Int)], [(7 : Int)]])
noncomputable def VB : Yu := Qdl
theorem VB.eq : VB = Qdl := rfl
noncomputable def Qj4 : Tr (List (List Int)) AH := (.rows [[xi (zi 9)]] (Ja [(zi 9)]) (.rows [[xi (zi 8)]] (Ja [(zi 8)]) (.rows [[xi (zi 10)], [xi (zi 11)]] (Ja [(zi 10), (zi 11)]) (.rows [[xi (zi 5)], [xi (zi 6)]] (Ja [(zi 5), (zi 6)]) (.rows [[xi (zi 7)]] (Ja [(zi 7)]) (.rows [[.sl (Ja [(zi 9)])], [.sl (Ja [(zi 8)])], [.sl (Ja [(zi 10), (zi 11)])], [.sl (Ja [(zi 5), (zi 6)])], [.sl (Ja [(zi 7)])]] (Pn [[(zi 9)], [(zi 8)], [(zi 10), (zi 11)], [(zi 5), (zi 6)], [(zi 7)]]) (rt P0 [[(zi 9)], [(zi 8)], [(zi 10), (zi 11)], [(zi 5), (zi 6)], [(zi 7)]])))))))
theorem VB.ok {r : (List (List Int))} (h : VB = some r) : ww 242 [] [] = some (P0 r) := by
 refine fnP (Qj4) ?_ h
 exact ⟨(Ut [(9 : Int)]), ⟨(Ut [(8 : Int)]), ⟨(Ut [(10 : Int), (11 : Int)]), ⟨(Ut [(5 : Int), (6 : Int)]), ⟨(Ut [(7 : Int)]), ⟨(QcO [[(9 : Int)], [(8 : Int)], [(10 : Int), (11 : Int)], [(5 : Int), (6 : Int)], [(7 : Int)]]), rfl⟩⟩⟩⟩⟩⟩
noncomputable abbrev P1 {ρ R : Type} (k : (List (List Int)) → Tr ρ R) : Tr ρ R := .call (ww 242 [] []) (VB) P0 k
abbrev Ey := ByteArray → Int → Option ByteArray
structure Jj where
 x0 : ByteArray
 x1 : Int
def X1 (a : Jj) : St := { n := 17, nx := 0, env := [(0, xs a.x0), (1, xb a.x1)], heap := [] }
def Xa (a : ByteArray) : Ex × St := (.exit 0, { n := 17, nx := 0, env := [(0, xs a)], heap := [] })
abbrev Gg := Jj → Option ByteArray
def X2 (a : Jj) : Option (Jj ⊕ ByteArray) := (bif (decide (((a.x0.size : Nat) : Int) > 0)) then (bif (decide (0 ≤ (0 : Int) ∧ (0 : Int) < ((a.x0.size : Nat) : Int))) then (bif (((a.x0.data.getD (Int.toNat 0) 0).toNat : Int) == a.x1) then (bif (decide (0 ≤ (1 : Int) ∧ (1 : Int) ≤ ((a.x0.size : Nat) : Int) ∧ ((a.x0.size : Nat) : Int) ≤ ((a.x0.size : Nat) : Int))) then (some (.inl (Jj.mk (a.x0.extract (Int.toNat 1) (Int.toNat ((a.x0.size : Nat) : Int))) a.x1))) else none) else (some (.inr a.x0))) else none) else (some (.inr a.x0)))
noncomputable def JD : Gg := loopW (X2 )
theorem JD.eq (a : Jj) : JD a = (X2 a).bind (Sum.elim JD some) := JM _ _
noncomputable abbrev Ss {ρ R : Type} (a : Jj) (k0 : ByteArray → Tr ρ R) : Tr ρ R := .loop (loopAt pp 116 1) (X1 a) (JD a) Xa k0
noncomputable def Su (a : Jj) : Tr (Jj ⊕ ByteArray) XS := (let u45 := (decide ((zz a.x0) > 0)); .as u45 (.yes u45 (.as (in1 i0 (zz a.x0)) (yesN 3 u45 (.as ((gb a.x0 i0) == a.x1) (.as (in2 (zi 1) (zz a.x0) (zz a.x0)) (lf X1 (Jj.mk (cu a.x0 (zi 1) (zz a.x0)) a.x1)) .fail) (rx Xa a.x0))) .fail)) (noN 4 u45 (.no false (rx Xa a.x0))))
theorem JD.ok {a : Jj} {r : ByteArray} (h : JD a = some r) : lw 0 116 (loopAt pp 116 1) (X1 a) = some (Xa r) := by
 refine lpP h Su fun a => ?_
 exact ⟨rfl, fun q0 => ⟨q0, ⟨rfl, fun q1 => Ql 3 (q0) (⟨rfl, fun q2 => ⟨rfl, fun q3 => rfl, fun q3 => trivial⟩, fun q2 => rfl⟩), fun q1 => trivial⟩⟩, fun q0 => noN_ok 4 (q0) (⟨rfl, rfl⟩)⟩
def Y1 (L0 : Gg) (a0 : ByteArray) (a1 : Int) : Option ByteArray := ((L0 (Jj.mk a0 a1)).bind (fun (o1 : ByteArray) => (some o1)))
noncomputable def U1 : Ey := Y1 JD
theorem U1.eq (a0 : ByteArray) (a1 : Int) : U1 a0 a1 = Y1 JD a0 a1 := rfl
noncomputable def Qbt (a0 : ByteArray) (a1 : Int) : Tr ByteArray AH := (Ss (Jj.mk a0 a1) (fun o1 => (rt Qf o1)))
theorem U1.ok {a0 : ByteArray} {a1 : Int} {r : ByteArray} (h : U1 a0 a1 = some r) : ww 116 [xs a0, xb a1] [] = some (Qf r) := by
 refine fnP (Qbt a0 a1) ?_ h
 exact fun o1 h => ⟨JD.ok h, rfl⟩
noncomputable abbrev Qbu {ρ R : Type} (a0 : ByteArray) (a1 : Int) (k : ByteArray → Tr ρ R) : Tr ρ R := .call (ww 116 [xs a0, xb a1] []) (U1 a0 a1) Qf k
abbrev Sb := ByteArray → Option ByteArray
def Gh (C0 : Ey) (a0 : ByteArray) : Option ByteArray := (bif (eqS a0 s_) then (some a0) else ((C0 a0 (32 : Int)).bind fun r1 => (some r1)))
noncomputable def VC : Sb := Gh U1
theorem VC.eq (a0 : ByteArray) : VC a0 = Gh U1 a0 := rfl
noncomputable def QeF (a0 : ByteArray) : Tr ByteArray AH := (let u46 := (eqS a0 s_); .as u46 (yesN 2 u46 (.yes true (rt Qf a0))) (noN 2 u46 (.no false (yesN 2 true (.yes (in1 i0 (zz h_20)) (yesN 3 true (.yes (in1 i0 (zz h_20)) (Qbu a0 (zi 32) fun r1 => (rt Qf r1)))))))))
theorem VC.ok {a0 : ByteArray} {r : ByteArray} (h : VC a0 = some r) : ww 245 [xs a0, xs h_20] [] = some (Qf r) := by
 refine fnP (QeF a0) ?_ h
 exact ⟨rfl, fun q0 => Ql 2 (q0) (⟨rfl, rfl⟩), fun q0 => noN_ok 2 (q0) (⟨rfl, Ql 2 (rfl) (⟨(by decide), Ql 3 (rfl) (⟨(by decide), fun r1 h => ⟨U1.ok h, rfl⟩⟩)⟩)⟩)⟩
noncomputable abbrev QeG {ρ R : Type} (a0 : ByteArray) (k : ByteArray → Tr ρ R) : Tr ρ R := .call (ww 245 [xs a0, xs h_20] []) (VC a0) Qf k
def ZB (r : Qb) : AV × Heap := (.tup [], [(0, .box [] (QM r))])
abbrev ZW := Qb → Option Qb
def ZC (C0 : Sb) (h0 : Qb) : Option Qb := ((C0 h0.left).bind fun r1 => (some (Qb.mk r1 h0.deep h0.bad)))
noncomputable def Ua : ZW := ZC VC
theorem Ua.eq (h0 : Qb) : Ua h0 = ZC VC h0 := rfl
noncomputable def QcS (h0 : Qb) : Tr Qb AH := (QeG h0.left fun r1 => (rt ZB (Qb.mk r1 h0.deep h0.bad)))
theorem Ua.ok {h0 : Qb} {r : Qb} (h : Ua h0 = some r) : ww 216 [.ptr 0 0] [(0, .box [] (QM h0))] = some (ZB r) := by
 refine fnP (QcS h0) ?_ h
 exact fun r1 h => ⟨VC.ok h, rfl⟩
noncomputable abbrev E7 {ρ R : Type} (h0 : Qb) (k : Qb → Tr ρ R) : Tr ρ R := .call (ww 216 [.ptr 0 0] [(0, .box [] (QM h0))]) (Ua h0) ZB k
abbrev Y2 := ByteArray → ByteArray → Option Bool
def YE (a0 : ByteArray) (a1 : ByteArray) : Option Bool := (bif (decide (((a0.size : Nat) : Int) ≥ ((a1.size : Nat) : Int))) then (bif (decide (0 ≤ (0 : Int) ∧ (0 : Int) ≤ ((a1.size : Nat) : Int) ∧ ((a1.size : Nat) : Int) ≤ ((a0.size : Nat) : Int))) then (some (eqS (a0.extract (Int.toNat 0) (Int.toNat ((a1.size : Nat) : Int))) a1)) else none) else (some false))
noncomputable def JT : Y2 := YE
theorem JT.eq (a0 : ByteArray) (a1 : ByteArray) : JT a0 a1 = YE a0 a1 := rfl
noncomputable def QaR (a0 : ByteArray) (a1 : ByteArray) : Tr Bool AH := (let u47 := (decide ((zz a0) ≥ (zz a1))); .as u47 (yesN 3 u47 (.as (in2 i0 (zz a1) (zz a0)) (yesN 3 u47 (rt Qk (eqS (cu a0 i0 (zz a1)) a1))) .fail)) (noN 6 u47 (rt Qk false)))
theorem JT.ok {a0 : ByteArray} {a1 : ByteArray} {r : Bool} (h : JT a0 a1 = some r) : ww 284 [xs a0, xs a1] [] = some (Qk r) := by
 refine fnP (QaR a0 a1) ?_ h
 exact ⟨rfl, fun q0 => Ql 3 (q0) (⟨rfl, fun q1 => Ql 3 (q0) (rfl), fun q1 => trivial⟩), fun q0 => noN_ok 6 (q0) (rfl)⟩
noncomputable abbrev GJ {ρ R : Type} (a0 : ByteArray) (a1 : ByteArray) (k : Bool → Tr ρ R) : Tr ρ R := .call (ww 284 [xs a0, xs a1] []) (JT a0 a1) Qk k
abbrev PB := ByteArray → ByteArray → Option Bool
def Yz (C0 : Y2) (a0 : ByteArray) (a1 : ByteArray) : Option Bool := ((C0 a0 a1).bind fun r1 => (some r1))
noncomputable def UX : PB := Yz JT
theorem UX.eq (a0 : ByteArray) (a1 : ByteArray) : UX a0 a1 = Yz JT a0 a1 := rfl
noncomputable def QdL (a0 : ByteArray) (a1 : ByteArray) : Tr Bool AH := (GJ a0 a1 fun r1 => (rt Qk r1))
theorem UX.ok {a0 : ByteArray} {a1 : ByteArray} {r : Bool} (h : UX a0 a1 = some r) : ww 265 [xs a0, xs a1] [] = some (Qk r) := by
 refine fnP (QdL a0 a1) ?_ h
 exact fun r1 h => ⟨JT.ok h, rfl⟩
noncomputable abbrev QdM {ρ R : Type} (a0 : ByteArray) (a1 : ByteArray) (k : Bool → Tr ρ R) : Tr ρ R := .call (ww 265 [xs a0, xs a1] []) (UX a0 a1) Qk k
def XP (r : (Bool × Qb)) : AV × Heap := (xo r.1, [(0, .box [] (QM r.2))])
abbrev Wh := ByteArray → Qb → Option (Bool × Qb)
def Gi (C0 : ZW) (C1 : PB) (a1 : ByteArray) (h0 : Qb) : Option (Bool × Qb) := ((C0 h0).bind fun r1 => (bif r1.bad then (some (false, r1)) else ((C1 r1.left a1).bind fun r2 => (bif (!r2) then (some (false, r1)) else (bif (decide (0 ≤ ((a1.size : Nat) : Int) ∧ ((a1.size : Nat) : Int) ≤ ((r1.left.size : Nat) : Int) ∧ ((r1.left.size : Nat) : Int) ≤ ((r1.left.size : Nat) : Int))) then (some (true, (Qb.mk (r1.left.extract (Int.toNat ((a1.size : Nat) : Int)) (Int.toNat ((r1.left.size : Nat) : Int))) r1.deep r1.bad))) else none)))))
noncomputable def JC : Wh := Gi Ua UX
theorem JC.eq (a1 : ByteArray) (h0 : Qb) : JC a1 h0 = Gi Ua UX a1 h0 := rfl
noncomputable def QeH (a1 : ByteArray) (h0 : Qb) : Tr (Bool × Qb) AH := (E7 h0 fun r1 => (.as r1.bad (yesN 7 r1.bad (.yes true (rt XP (false, r1)))) (noN 5 r1.bad (QdM r1.left a1 fun r2 => (noN 2 r1.bad (.as (!r2) (rt XP (false, r1)) (.as (in2 (zz a1) (zz r1.left) (zz r1.left)) (rt XP (true, (Qb.mk (cu r1.left (zz a1) (zz r1.left)) r1.deep r1.bad))) .fail)))))))
theorem JC.ok {a1 : ByteArray} {h0 : Qb} {r : (Bool × Qb)} (h : JC a1 h0 = some r) : ww 261 [.ptr 0 0, xs a1] [(0, .box [] (QM h0))] = some (XP r) := by
 refine fnP (QeH a1 h0) ?_ h
 exact fun r1 h => ⟨Ua.ok h, ⟨rfl, fun q0 => Ql 7 (q0) (⟨rfl, rfl⟩), fun q0 => noN_ok 5 (q0) (fun r2 h => ⟨UX.ok h, noN_ok 2 (q0) (⟨rfl, fun q1 => rfl, fun q1 => ⟨rfl, fun q2 => rfl, fun q2 => trivial⟩⟩)⟩)⟩⟩
noncomputable abbrev XQ {ρ R : Type} (a1 : ByteArray) (h0 : Qb) (k : (Bool × Qb) → Tr ρ R) : Tr ρ R := .call (ww 261 [.ptr 0 0, xs a1] [(0, .box [] (QM h0))]) (JC a1 h0) XP k
def Qq (r : (Qa × Qb)) : AV × Heap := (.agg (QL r.1), [(0, .box [] (QM r.2))])
abbrev JV := Qb → Option (Qa × Qb)
def PC (h0 : Qb) : Option (Qa × Qb) := (some ((Qa.mk (0 : Int) (0 : Int) s_ ([] : List Qa)), (Qb.mk h0.left h0.deep true)))
noncomputable def QV : JV := PC
theorem QV.eq (h0 : Qb) : QV h0 = PC h0 := rfl
noncomputable def QeI (h0 : Qb) : Tr (Qa × Qb) AH := (rt Qq ((Qa.mk i0 i0 s_ ([] : List Qa)), (Qb.mk h0.left h0.deep true)))
theorem QV.ok {h0 : Qb} {r : (Qa × Qb)} (h : QV h0 = some r) : ww 273 [.ptr 0 0] [(0, .box [] (QM h0))] = some (Qq r) := by
 refine fnP (QeI h0) ?_ h
 exact rfl
noncomputable abbrev VW {ρ R : Type} (h0 : Qb) (k : (Qa × Qb) → Tr ρ R) : Tr ρ R := .call (ww 273 [.ptr 0 0] [(0, .box [] (QM h0))]) (QV h0) Qq k
abbrev X4 := ByteArray → Option Bool
def Zm (C0 : Y2) (a0 : ByteArray) : Option Bool := ((C0 a0 s_0x).bind fun r1 => (some r1))
noncomputable def UT : X4 := Zm JT
theorem UT.eq (a0 : ByteArray) : UT a0 = Zm JT a0 := rfl
noncomputable def Qcf (a0 : ByteArray) : Tr Bool AH := (GJ a0 s_0x fun r1 => (rt Qk r1))
theorem UT.ok {a0 : ByteArray} {r : Bool} (h : UT a0 = some r) : ww 265 [xs a0, xs s_0x] [] = some (Qk r) := by
 refine fnP (Qcf a0) ?_ h
 exact fun r1 h => ⟨JT.ok h, rfl⟩
noncomputable abbrev Qcg {ρ R : Type} (a0 : ByteArray) (k : Bool → Tr ρ R) : Tr ρ R := .call (ww 265 [xs a0, xs s_0x] []) (UT a0) Qk k
abbrev GY := Int → Option Bool
def Qap (a0 : Int) : Option Bool := (bif (decide (a0 ≥ 48)) then (some (decide (a0 ≤ (57 : Int)))) else (some false))
noncomputable def U2 : GY := Qap
theorem U2.eq (a0 : Int) : U2 a0 = Qap a0 := rfl
noncomputable def Qk6 (a0 : Int) : Tr Bool AH := (let u48 := (decide (a0 ≥ 48)); .as u48 (yesN 2 u48 (rt Qk (decide (a0 ≤ (zi 57))))) (noN 2 u48 (rt Qk false)))
theorem U2.ok {a0 : Int} {r : Bool} (h : U2 a0 = some r) : ww 270 [.sc (.int .i32 a0)] [] = some (Qk r) := by
 refine fnP (Qk6 a0) ?_ h
 exact ⟨rfl, fun q0 => Ql 2 (q0) (rfl), fun q0 => noN_ok 2 (q0) (rfl)⟩
noncomputable abbrev E8 {ρ R : Type} (a0 : Int) (k : Bool → Tr ρ R) : Tr ρ R := .call (ww 270 [.sc (.int .i32 a0)] []) (U2 a0) Qk k
abbrev Qjn := Int → Option Bool
def QcT (C0 : GY) (a0 : Int) : Option Bool := ((C0 a0).bind fun r1 => (bif r1 then (some true) else (bif (decide (a0 ≥ 97)) then (some (decide (a0 ≤ (102 : Int)))) else (some false))))
noncomputable def Y3 : Qjn := QcT U2
theorem Y3.eq (a0 : Int) : Y3 a0 = QcT U2 a0 := rfl
noncomputable def QnQ (a0 : Int) : Tr Bool AH := (E8 a0 fun r1 => (.as r1 (yesN 4 r1 (rt Qk true)) (noN 2 r1 (let u49 := (decide (a0 ≥ 97)); .as u49 (.yes u49 (.no r1 (.yes u49 (.no r1 (rt Qk (decide (a0 ≤ (zi 102)))))))) (.no u49 (.no r1 (.no u49 (.no r1 (rt Qk false)))))))))
theorem Y3.ok {a0 : Int} {r : Bool} (h : Y3 a0 = some r) : ww 267 [.sc (.int .i32 a0)] [] = some (Qk r) := by
 refine fnP (QnQ a0) ?_ h
 exact fun r1 h => ⟨U2.ok h, ⟨rfl, fun q0 => Ql 4 (q0) (rfl), fun q0 => noN_ok 2 (q0) (⟨rfl, fun q1 => ⟨q1, ⟨q0, ⟨q1, ⟨q0, rfl⟩⟩⟩⟩, fun q1 => ⟨q1, ⟨q0, ⟨q1, ⟨q0, rfl⟩⟩⟩⟩⟩)⟩⟩
noncomputable abbrev QnR {ρ R : Type} (a0 : Int) (k : Bool → Tr ρ R) : Tr ρ R := .call (ww 267 [.sc (.int .i32 a0)] []) (Y3 a0) Qk k
abbrev QcU := ByteArray → Option ByteArray
structure VN where
 x0 : ByteArray
 i0s : ByteArray
 i0p : Nat
def Qaq (a : VN) : St := { n := 21, nx := 1, env := [(0, xs a.x0), (1, .fn (.func 267) [] []), (8, .it 0)], heap := [(0, .iter a.i0s a.i0p)] }
def Qdm (a : ByteArray) : Ex × St := (.ret, { n := 21, nx := 0, env := [(4, xs a)], heap := [] })
def Qdn (a : ByteArray) : Ex × St := (.exit 0, { n := 21, nx := 0, env := [(0, xs a)], heap := [] })
def Qar (a : (ByteArray ⊕ ByteArray)) : Ex × St := Sum.elim Qdm Qdn a
abbrev Qgl := VN → Option (ByteArray ⊕ ByteArray)
def Qas (C0 : Qjn) (a : VN) : Option (VN ⊕ (ByteArray ⊕ ByteArray)) := (bif (decide (a.i0p < a.i0s.size)) then ((C0 (((Utf8.decode a.i0s a.i0p).1 : Nat) : Int)).bind fun r1 => (bif (!r1) then (bif (decide (0 ≤ (0 : Int) ∧ (0 : Int) ≤ ((a.i0p : Nat) : Int) ∧ ((a.i0p : Nat) : Int) ≤ ((a.x0.size : Nat) : Int))) then (some (.inr (.inl (a.x0.extract (Int.toNat 0) (Int.toNat ((a.i0p : Nat) : Int)))))) else none) else (some (.inl (VN.mk a.x0 a.i0s (a.i0p + (Utf8.decode a.i0s a.i0p).2)))))) else (some (.inr (.inr a.x0))))
noncomputable def Xf : Qgl := loopW (Qas Y3)
theorem Xf.eq (a : VN) : Xf a = (Qas Y3 a).bind (Sum.elim Xf some) := JM _ _
noncomputable abbrev Qk7 {ρ R : Type} (a : VN) (k0 : ByteArray → Tr ρ R) (k1 : ByteArray → Tr ρ R) : Tr ρ R := .loop2 (loopAt pp 266 2) (Qaq a) (Xf a) Qdm Qdn k0 k1
noncomputable def Qk8 (a : VN) : Tr (VN ⊕ (ByteArray ⊕ ByteArray)) XS := (.as (decide (a.i0p < a.i0s.size)) (.yes true (QnR (((Utf8.decode a.i0s a.i0p).1 : Nat) : Int) fun r1 => (.as (!r1) (.as (in2 i0 ((a.i0p : Nat) : Int) (zz a.x0)) (rx Qar (.inl (cu a.x0 i0 ((a.i0p : Nat) : Int)))) .fail) (lf Qaq (VN.mk a.x0 a.i0s (a.i0p + (Utf8.decode a.i0s a.i0p).2)))))) (.no false (rx Qar (.inr a.x0))))
theorem Xf.ok {a : VN} {r : (ByteArray ⊕ ByteArray)} (h : Xf a = some r) : lw 0 266 (loopAt pp 266 2) (Qaq a) = some (Qar r) := by
 refine lpP h Qk8 fun a => ?_
 exact ⟨rfl, fun q0 => ⟨rfl, fun r1 h => ⟨Y3.ok h, ⟨rfl, fun q1 => ⟨rfl, fun q2 => rfl, fun q2 => trivial⟩, fun q1 => rfl⟩⟩⟩, fun q0 => ⟨rfl, rfl⟩⟩
def QeJ (L0 : Qgl) (a0 : ByteArray) : Option ByteArray := ((L0 (VN.mk a0 a0 0)).bind fun x => Sum.elim (fun (o1 : ByteArray) => (some o1)) (fun (o2 : ByteArray) => (some o2)) x)
noncomputable def Zo : QcU := QeJ Xf
theorem Zo.eq (a0 : ByteArray) : Zo a0 = QeJ Xf a0 := rfl
noncomputable def QoS (a0 : ByteArray) : Tr ByteArray AH := (Qk7 (VN.mk a0 a0 0) (fun o1 => (rt Qf o1)) (fun o2 => (rt Qf o2)))
theorem Zo.ok {a0 : ByteArray} {r : ByteArray} (h : Zo a0 = some r) : ww 266 [xs a0, .fn (.func 267) [] []] [] = some (Qf r) := by
 refine fnP (QoS a0) ?_ h
 exact ⟨fun o1 h => ⟨Xf.ok (r := (.inl _)) h, rfl⟩, fun o2 h => ⟨Xf.ok (r := (.inr _)) h, rfl⟩⟩
noncomputable abbrev Qjo {ρ R : Type} (a0 : ByteArray) (k : ByteArray → Tr ρ R) : Tr ρ R := .call (ww 266 [xs a0, .fn (.func 267) [] []] []) (Zo a0) Qf k
abbrev YA := ByteArray → Int → Qb → Option (Qa × Qb)
structure Jd where
 x1 : ByteArray
 x2 : Int
 x7 : Int
 h0 : Qb
 h1 : Qa
 i2s : ByteArray
 i2p : Nat
structure Jw where
 h0 : Qb
 h1 : Qa
structure JZ where
 x1 : ByteArray
 x7 : Int
 h0 : Qb
 h1 : Qa
def Xt (a : Jd) : St := { n := 46, nx := 3, env := [(0, .ptr 0 0), (1, xs a.x1), (2, xi a.x2), (6, .ptr 1 0), (7, xi a.x7), (12, .it 2)], heap := [(0, .box [] (QM a.h0)), (1, .box [] (QL a.h1)), (2, .iter a.i2s a.i2p)] }
def Gj (a : Jw) : Ex × St := (.ret, { n := 46, nx := 2, env := [(6, .ptr 1 0)], heap := [(0, .box [] (QM a.h0)), (1, .box [] (QL a.h1))] })
def Gk (a : JZ) : Ex × St := (.exit 0, { n := 46, nx := 2, env := [(0, .ptr 0 0), (1, xs a.x1), (6, .ptr 1 0), (7, xi a.x7)], heap := [(0, .box [] (QM a.h0)), (1, .box [] (QL a.h1))] })
def Xu (a : (Jw ⊕ JZ)) : Ex × St := Sum.elim Gj Gk a
abbrev GZ := Jd → Option (Jw ⊕ JZ)
def YF (C0 : JV) (a : Jd) : Option (Jd ⊕ (Jw ⊕ JZ)) := (bif (decide (a.i2p < a.i2s.size)) then (bif (decide ((((Utf8.decode a.i2s a.i2p).1 : Nat) : Int) ≥ 97)) then (bif (decide ((w64 ((w64 (a.x7 * a.x2)) + (w64 ((w64 (IntKind.i32.wrap ((((Utf8.decode a.i2s a.i2p).1 : Nat) : Int) - 97))) + 10)))) ≥ 4294967296)) then ((C0 a.h0).bind fun r1 => (some (.inr (.inl (Jw.mk r1.2 r1.1))))) else (some (.inl (Jd.mk a.x1 a.x2 (w64 ((w64 (a.x7 * a.x2)) + (w64 ((w64 (IntKind.i32.wrap ((((Utf8.decode a.i2s a.i2p).1 : Nat) : Int) - 97))) + 10)))) a.h0 a.h1 a.i2s (a.i2p + (Utf8.decode a.i2s a.i2p).2))))) else (bif (decide ((w64 ((w64 (a.x7 * a.x2)) + (w64 (IntKind.i32.wrap ((((Utf8.decode a.i2s a.i2p).1 : Nat) : Int) - 48))))) ≥ 4294967296)) then ((C0 a.h0).bind fun r2 => (some (.inr (.inl (Jw.mk r2.2 r2.1))))) else (some (.inl (Jd.mk a.x1 a.x2 (w64 ((w64 (a.x7 * a.x2)) + (w64 (IntKind.i32.wrap ((((Utf8.decode a.i2s a.i2p).1 : Nat) : Int) - 48))))) a.h0 a.h1 a.i2s (a.i2p + (Utf8.decode a.i2s a.i2p).2)))))) else (some (.inr (.inr (JZ.mk a.x1 a.x7 a.h0 a.h1)))))
noncomputable def Ub : GZ := loopW (YF QV)
theorem Ub.eq (a : Jd) : Ub a = (YF QV a).bind (Sum.elim Ub some) := JM _ _
noncomputable abbrev QaS {ρ R : Type} (a : Jd) (k0 : Jw → Tr ρ R) (k1 : JZ → Tr ρ R) : Tr ρ R := .loop2 (loopAt pp 269 3) (Xt a) (Ub a) Gj Gk k0 k1
noncomputable def QaT (a : Jd) : Tr (Jd ⊕ (Jw ⊕ JZ)) XS := (.as (decide (a.i2p < a.i2s.size)) (.yes true (.as (decide ((((Utf8.decode a.i2s a.i2p).1 : Nat) : Int) ≥ 97)) (.as (decide ((w64 ((w64 (a.x7 * a.x2)) + (w64 ((w64 (IntKind.i32.wrap ((((Utf8.decode a.i2s a.i2p).1 : Nat) : Int) - 97))) + 10)))) ≥ 4294967296)) (VW a.h0 fun r1 => (rx Xu (.inl (Jw.mk r1.2 r1.1)))) (lf Xt (Jd.mk a.x1 a.x2 (w64 ((w64 (a.x7 * a.x2)) + (w64 ((w64 (IntKind.i32.wrap ((((Utf8.decode a.i2s a.i2p).1 : Nat) : Int) - 97))) + 10)))) a.h0 a.h1 a.i2s (a.i2p + (Utf8.decode a.i2s a.i2p).2)))) (.as (decide ((w64 ((w64 (a.x7 * a.x2)) + (w64 (IntKind.i32.wrap ((((Utf8.decode a.i2s a.i2p).1 : Nat) : Int) - 48))))) ≥ 4294967296)) (VW a.h0 fun r2 => (rx Xu (.inl (Jw.mk r2.2 r2.1)))) (lf Xt (Jd.mk a.x1 a.x2 (w64 ((w64 (a.x7 * a.x2)) + (w64 (IntKind.i32.wrap ((((Utf8.decode a.i2s a.i2p).1 : Nat) : Int) - 48))))) a.h0 a.h1 a.i2s (a.i2p + (Utf8.decode a.i2s a.i2p).2)))))) (.no false (rx Xu (.inr (JZ.mk a.x1 a.x7 a.h0 a.h1)))))
theorem Ub.ok {a : Jd} {r : (Jw ⊕ JZ)} (h : Ub a = some r) : lw 1 269 (loopAt pp 269 3) (Xt a) = some (Xu r) := by
 refine lpP h QaT fun a => ?_
 exact ⟨rfl, fun q0 => ⟨rfl, ⟨rfl, fun q1 => ⟨rfl, fun q2 => fun r1 h => ⟨QV.ok h, rfl⟩, fun q2 => rfl⟩, fun q1 => ⟨rfl, fun q2 => fun r2 h => ⟨QV.ok h, rfl⟩, fun q2 => rfl⟩⟩⟩, fun q0 => ⟨rfl, rfl⟩⟩
def ZD (L0 : GZ) (a1 : ByteArray) (a2 : Int) (h0 : Qb) : Option (Qa × Qb) := ((L0 (Jd.mk a1 a2 (0 : Int) h0 (Qa.mk (0 : Int) (0 : Int) s_ ([] : List Qa)) a1 0)).bind fun x => Sum.elim (fun (o1 : Jw) => (some (o1.h1, o1.h0))) (fun (o2 : JZ) => (bif (decide (0 ≤ ((o2.x1.size : Nat) : Int) ∧ ((o2.x1.size : Nat) : Int) ≤ ((o2.h0.left.size : Nat) : Int) ∧ ((o2.h0.left.size : Nat) : Int) ≤ ((o2.h0.left.size : Nat) : Int))) then (some ((Qa.mk (1 : Int) o2.x7 s_ ([] : List Qa)), (Qb.mk (o2.h0.left.extract (Int.toNat ((o2.x1.size : Nat) : Int)) (Int.toNat ((o2.h0.left.size : Nat) : Int))) o2.h0.deep o2.h0.bad))) else none)) x)
noncomputable def JX : YA := ZD Ub
theorem JX.eq (a1 : ByteArray) (a2 : Int) (h0 : Qb) : JX a1 a2 h0 = ZD Ub a1 a2 h0 := rfl
noncomputable def QcV (a1 : ByteArray) (a2 : Int) (h0 : Qb) : Tr (Qa × Qb) AH := (QaS (Jd.mk a1 a2 i0 h0 (Qa.mk i0 i0 s_ ([] : List Qa)) a1 0) (fun o1 => (rt Qq (o1.h1, o1.h0))) (fun o2 => (.as (in2 (zz o2.x1) (zz o2.h0.left) (zz o2.h0.left)) (rt Qq ((Qa.mk (zi 1) o2.x7 s_ ([] : List Qa)), (Qb.mk (cu o2.h0.left (zz o2.x1) (zz o2.h0.left)) o2.h0.deep o2.h0.bad))) .fail)))
theorem JX.ok {a1 : ByteArray} {a2 : Int} {h0 : Qb} {r : (Qa × Qb)} (h : JX a1 a2 h0 = some r) : ww 269 [.ptr 0 0, xs a1, xi a2] [(0, .box [] (QM h0))] = some (Qq r) := by
 refine fnP (QcV a1 a2 h0) ?_ h
 exact ⟨fun o1 h => ⟨Ub.ok (r := (.inl _)) h, rfl⟩, fun o2 h => ⟨Ub.ok (r := (.inr _)) h, ⟨rfl, fun q0 => rfl, fun q0 => trivial⟩⟩⟩
noncomputable abbrev ZE {ρ R : Type} (a1 : ByteArray) (a2 : Int) (h0 : Qb) (k : (Qa × Qb) → Tr ρ R) : Tr ρ R := .call (ww 269 [.ptr 0 0, xs a1, xi a2] [(0, .box [] (QM h0))]) (JX a1 a2 h0) Qq k
abbrev Qgm := Int → Option Bool
def Qat (a0 : Int) : Option Bool := (bif (decide (a0 ≥ 97)) then (bif (decide (a0 ≤ (122 : Int))) then (some true) else (some (a0 == 95))) else (some (a0 == 95)))
noncomputable def XJ : Qgm := Qat
theorem XJ.eq (a0 : Int) : XJ a0 = Qat a0 := rfl
noncomputable def Qk9 (a0 : Int) : Tr Bool AH := (let u51 := (decide (a0 ≥ 97)); .as u51 (yesN 2 u51 (let u50 := (decide (a0 ≤ (zi 122))); .as u50 (yesN 2 u50 (rt Qk true)) (noN 2 u50 (rt Qk (a0 == 95))))) (noN 2 u51 (noN 3 false (rt Qk (a0 == 95)))))
theorem XJ.ok {a0 : Int} {r : Bool} (h : XJ a0 = some r) : ww 285 [.sc (.int .i32 a0)] [] = some (Qk r) := by
 refine fnP (Qk9 a0) ?_ h
 exact ⟨rfl, fun q0 => Ql 2 (q0) (⟨rfl, fun q1 => Ql 2 (q1) (rfl), fun q1 => noN_ok 2 (q1) (rfl)⟩), fun q0 => noN_ok 2 (q0) (noN_ok 3 (rfl) (rfl))⟩
noncomputable abbrev Qla {ρ R : Type} (a0 : Int) (k : Bool → Tr ρ R) : Tr ρ R := .call (ww 285 [.sc (.int .i32 a0)] []) (XJ a0) Qk k
abbrev Qgn := Int → Option Bool
def Qau (C0 : Qgm) (C1 : GY) (a0 : Int) : Option Bool := ((C0 a0).bind fun r1 => (bif r1 then (some true) else ((C1 a0).bind fun r2 => (some r2))))
noncomputable def XK : Qgn := Qau XJ U2
theorem XK.eq (a0 : Int) : XK a0 = Qau XJ U2 a0 := rfl
noncomputable def Qlb (a0 : Int) : Tr Bool AH := (Qla a0 fun r1 => (.as r1 (yesN 2 r1 (rt Qk true)) (.no r1 (E8 a0 fun r2 => (.no r1 (rt Qk r2))))))
theorem XK.ok {a0 : Int} {r : Bool} (h : XK a0 = some r) : ww 271 [.sc (.int .i32 a0)] [] = some (Qk r) := by
 refine fnP (Qlb a0) ?_ h
 exact fun r1 h => ⟨XJ.ok h, ⟨rfl, fun q0 => Ql 2 (q0) (rfl), fun q0 => ⟨q0, fun r2 h => ⟨U2.ok h, ⟨q0, rfl⟩⟩⟩⟩⟩
noncomputable abbrev Qlc {ρ R : Type} (a0 : Int) (k : Bool → Tr ρ R) : Tr ρ R := .call (ww 271 [.sc (.int .i32 a0)] []) (XK a0) Qk k
abbrev GA := ByteArray → Option ByteArray
structure U7 where
 x0 : ByteArray
 i0s : ByteArray
 i0p : Nat
def FK (a : U7) : St := { n := 21, nx := 1, env := [(0, xs a.x0), (1, .fn (.func 271) [] []), (8, .it 0)], heap := [(0, .iter a.i0s a.i0p)] }
def Qa1 (a : ByteArray) : Ex × St := (.ret, { n := 21, nx := 0, env := [(4, xs a)], heap := [] })
def Qa2 (a : ByteArray) : Ex × St := (.exit 0, { n := 21, nx := 0, env := [(0, xs a)], heap := [] })
def FL (a : (ByteArray ⊕ ByteArray)) : Ex × St := Sum.elim Qa1 Qa2 a
abbrev Qdo := U7 → Option (ByteArray ⊕ ByteArray)
def FM (C0 : Qgn) (a : U7) : Option (U7 ⊕ (ByteArray ⊕ ByteArray)) := (bif (decide (a.i0p < a.i0s.size)) then ((C0 (((Utf8.decode a.i0s a.i0p).1 : Nat) : Int)).bind fun r1 => (bif (!r1) then (bif (decide (0 ≤ (0 : Int) ∧ (0 : Int) ≤ ((a.i0p : Nat) : Int) ∧ ((a.i0p : Nat) : Int) ≤ ((a.x0.size : Nat) : Int))) then (some (.inr (.inl (a.x0.extract (Int.toNat 0) (Int.toNat ((a.i0p : Nat) : Int)))))) else none) else (some (.inl (U7.mk a.x0 a.i0s (a.i0p + (Utf8.decode a.i0s a.i0p).2)))))) else (some (.inr (.inr a.x0))))
noncomputable def Wu : Qdo := loopW (FM XK)
theorem Wu.eq (a : U7) : Wu a = (FM XK a).bind (Sum.elim Wu some) := JM _ _
noncomputable abbrev QiC {ρ R : Type} (a : U7) (k0 : ByteArray → Tr ρ R) (k1 : ByteArray → Tr ρ R) : Tr ρ R := .loop2 (loopAt pp 266 2) (FK a) (Wu a) Qa1 Qa2 k0 k1
noncomputable def QiD (a : U7) : Tr (U7 ⊕ (ByteArray ⊕ ByteArray)) XS := (.as (decide (a.i0p < a.i0s.size)) (.yes true (Qlc (((Utf8.decode a.i0s a.i0p).1 : Nat) : Int) fun r1 => (.as (!r1) (.as (in2 i0 ((a.i0p : Nat) : Int) (zz a.x0)) (rx FL (.inl (cu a.x0 i0 ((a.i0p : Nat) : Int)))) .fail) (lf FK (U7.mk a.x0 a.i0s (a.i0p + (Utf8.decode a.i0s a.i0p).2)))))) (.no false (rx FL (.inr a.x0))))
theorem Wu.ok {a : U7} {r : (ByteArray ⊕ ByteArray)} (h : Wu a = some r) : lw 0 266 (loopAt pp 266 2) (FK a) = some (FL r) := by
 refine lpP h QiD fun a => ?_
 exact ⟨rfl, fun q0 => ⟨rfl, fun r1 h => ⟨XK.ok h, ⟨rfl, fun q1 => ⟨rfl, fun q2 => rfl, fun q2 => trivial⟩, fun q1 => rfl⟩⟩⟩, fun q0 => ⟨rfl, rfl⟩⟩
def Qbv (L0 : Qdo) (a0 : ByteArray) : Option ByteArray := ((L0 (U7.mk a0 a0 0)).bind fun x => Sum.elim (fun (o1 : ByteArray) => (some o1)) (fun (o2 : ByteArray) => (some o2)) x)
noncomputable def VX : GA := Qbv Wu
theorem VX.eq (a0 : ByteArray) : VX a0 = Qbv Wu a0 := rfl
noncomputable def Qmp (a0 : ByteArray) : Tr ByteArray AH := (QiC (U7.mk a0 a0 0) (fun o1 => (rt Qf o1)) (fun o2 => (rt Qf o2)))
theorem VX.ok {a0 : ByteArray} {r : ByteArray} (h : VX a0 = some r) : ww 266 [xs a0, .fn (.func 271) [] []] [] = some (Qf r) := by
 refine fnP (Qmp a0) ?_ h
 exact ⟨fun o1 h => ⟨Wu.ok (r := (.inl _)) h, rfl⟩, fun o2 h => ⟨Wu.ok (r := (.inr _)) h, rfl⟩⟩
noncomputable abbrev Pg {ρ R : Type} (a0 : ByteArray) (k : ByteArray → Tr ρ R) : Tr ρ R := .call (ww 266 [xs a0, .fn (.func 271) [] []] []) (VX a0) Qf k
abbrev YT := Qa → Qb → Option (Qa × Qb)
def ZX (C0 : GA) (C1 : JV) (a1 : Qa) (h0 : Qb) : Option (Qa × Qb) := ((C0 h0.left).bind fun r1 => (bif (!(eqS r1 s_)) then ((C1 h0).bind fun r2 => (some (r2.1, r2.2))) else (some (a1, h0))))
noncomputable def J5 : YT := ZX VX QV
theorem J5.eq (a1 : Qa) (h0 : Qb) : J5 a1 h0 = ZX VX QV a1 h0 := rfl
noncomputable def QdN (a1 : Qa) (h0 : Qb) : Tr (Qa × Qb) AH := (Pg h0.left fun r1 => (.as (!(eqS r1 s_)) (VW h0 fun r2 => (rt Qq (r2.1, r2.2))) (rt Qq (a1, h0))))
theorem J5.ok {a1 : Qa} {h0 : Qb} {r : (Qa × Qb)} (h : J5 a1 h0 = some r) : ww 268 [.ptr 0 0, .agg (QL a1)] [(0, .box [] (QM h0))] = some (Qq r) := by
 refine fnP (QdN a1 h0) ?_ h
 exact fun r1 h => ⟨VX.ok h, ⟨rfl, fun q0 => fun r2 h => ⟨QV.ok h, rfl⟩, fun q0 => rfl⟩⟩
noncomputable abbrev ZY {ρ R : Type} (a1 : Qa) (h0 : Qb) (k : (Qa × Qb) → Tr ρ R) : Tr ρ R := .call (ww 268 [.ptr 0 0, .agg (QL a1)] [(0, .box [] (QM h0))]) (J5 a1 h0) Qq k
abbrev E9 := ByteArray → Option ByteArray
structure U8 where
 x0 : ByteArray
 i0s : ByteArray
 i0p : Nat
def FN (a : U8) : St := { n := 21, nx := 1, env := [(0, xs a.x0), (1, .fn (.func 270) [] []), (8, .it 0)], heap := [(0, .iter a.i0s a.i0p)] }
def Qa3 (a : ByteArray) : Ex × St := (.ret, { n := 21, nx := 0, env := [(4, xs a)], heap := [] })
def Qa4 (a : ByteArray) : Ex × St := (.exit 0, { n := 21, nx := 0, env := [(0, xs a)], heap := [] })
def FO (a : (ByteArray ⊕ ByteArray)) : Ex × St := Sum.elim Qa3 Qa4 a
abbrev Qdp := U8 → Option (ByteArray ⊕ ByteArray)
def FP (C0 : GY) (a : U8) : Option (U8 ⊕ (ByteArray ⊕ ByteArray)) := (bif (decide (a.i0p < a.i0s.size)) then ((C0 (((Utf8.decode a.i0s a.i0p).1 : Nat) : Int)).bind fun r1 => (bif (!r1) then (bif (decide (0 ≤ (0 : Int) ∧ (0 : Int) ≤ ((a.i0p : Nat) : Int) ∧ ((a.i0p : Nat) : Int) ≤ ((a.x0.size : Nat) : Int))) then (some (.inr (.inl (a.x0.extract (Int.toNat 0) (Int.toNat ((a.i0p : Nat) : Int)))))) else none) else (some (.inl (U8.mk a.x0 a.i0s (a.i0p + (Utf8.decode a.i0s a.i0p).2)))))) else (some (.inr (.inr a.x0))))
noncomputable def Wv : Qdp := loopW (FP U2)
theorem Wv.eq (a : U8) : Wv a = (FP U2 a).bind (Sum.elim Wv some) := JM _ _
noncomputable abbrev QiE {ρ R : Type} (a : U8) (k0 : ByteArray → Tr ρ R) (k1 : ByteArray → Tr ρ R) : Tr ρ R := .loop2 (loopAt pp 266 2) (FN a) (Wv a) Qa3 Qa4 k0 k1
noncomputable def QiF (a : U8) : Tr (U8 ⊕ (ByteArray ⊕ ByteArray)) XS := (.as (decide (a.i0p < a.i0s.size)) (.yes true (E8 (((Utf8.decode a.i0s a.i0p).1 : Nat) : Int) fun r1 => (.as (!r1) (.as (in2 i0 ((a.i0p : Nat) : Int) (zz a.x0)) (rx FO (.inl (cu a.x0 i0 ((a.i0p : Nat) : Int)))) .fail) (lf FN (U8.mk a.x0 a.i0s (a.i0p + (Utf8.decode a.i0s a.i0p).2)))))) (.no false (rx FO (.inr a.x0))))
theorem Wv.ok {a : U8} {r : (ByteArray ⊕ ByteArray)} (h : Wv a = some r) : lw 0 266 (loopAt pp 266 2) (FN a) = some (FO r) := by
 refine lpP h QiF fun a => ?_
 exact ⟨rfl, fun q0 => ⟨rfl, fun r1 h => ⟨U2.ok h, ⟨rfl, fun q1 => ⟨rfl, fun q2 => rfl, fun q2 => trivial⟩, fun q1 => rfl⟩⟩⟩, fun q0 => ⟨rfl, rfl⟩⟩
def Qbw (L0 : Qdp) (a0 : ByteArray) : Option ByteArray := ((L0 (U8.mk a0 a0 0)).bind fun x => Sum.elim (fun (o1 : ByteArray) => (some o1)) (fun (o2 : ByteArray) => (some o2)) x)
noncomputable def WO : E9 := Qbw Wv
theorem WO.eq (a0 : ByteArray) : WO a0 = Qbw Wv a0 := rfl
noncomputable def Qmq (a0 : ByteArray) : Tr ByteArray AH := (QiE (U8.mk a0 a0 0) (fun o1 => (rt Qf o1)) (fun o2 => (rt Qf o2)))
theorem WO.ok {a0 : ByteArray} {r : ByteArray} (h : WO a0 = some r) : ww 266 [xs a0, .fn (.func 270) [] []] [] = some (Qf r) := by
 refine fnP (Qmq a0) ?_ h
 exact ⟨fun o1 h => ⟨Wv.ok (r := (.inl _)) h, rfl⟩, fun o2 h => ⟨Wv.ok (r := (.inr _)) h, rfl⟩⟩
noncomputable abbrev Qbx {ρ R : Type} (a0 : ByteArray) (k : ByteArray → Tr ρ R) : Tr ρ R := .call (ww 266 [xs a0, .fn (.func 270) [] []] []) (WO a0) Qf k
abbrev Sv := ByteArray → Option Bool
def Qby (C0 : GY) (C1 : GA) (C2 : E9) (a0 : ByteArray) : Option Bool := (bif (eqS a0 s_) then (some false) else (bif (decide (((a0.size : Nat) : Int) > 12)) then (some false) else (bif (decide (0 ≤ (0 : Int) ∧ (0 : Int) < ((a0.size : Nat) : Int))) then ((C0 (IntKind.i32.wrap ((a0.data.getD (Int.toNat 0) 0).toNat : Int))).bind fun r1 => (bif r1 then (some false) else ((C1 a0).bind fun r2 => (bif (!(eqS r2 a0)) then (some false) else (bif (((a0.data.getD (Int.toNat 0) 0).toNat : Int) != 114) then (some true) else (bif (((a0.size : Nat) : Int) == 1) then (some true) else (bif (decide (0 ≤ (1 : Int) ∧ (1 : Int) ≤ ((a0.size : Nat) : Int) ∧ ((a0.size : Nat) : Int) ≤ ((a0.size : Nat) : Int))) then ((C2 (a0.extract (Int.toNat 1) (Int.toNat ((a0.size : Nat) : Int)))).bind fun r3 => (some (!(eqS r3 (a0.extract (Int.toNat 1) (Int.toNat ((a0.size : Nat) : Int))))))) else none))))))) else none)))
noncomputable def XR : Sv := Qby U2 VX WO
theorem XR.eq (a0 : ByteArray) : XR a0 = Qby U2 VX WO a0 := rfl
noncomputable def Qmr (a0 : ByteArray) : Tr Bool AH := (let u57 := (eqS a0 s_); .as u57 (yesN 3 u57 (yesN 11 true (rt Qk false))) (noN 3 u57 (let u56 := (decide ((zz a0) > 12)); .as u56 (yesN 4 u56 (yesN 6 true (rt Qk false))) (.no u56 (let u55 := (in1 i0 (zz a0)); .as u55 (noN 2 u56 (E8 (IntKind.i32.wrap (gb a0 i0)) fun r1 => (.no u56 (.as r1 (yesN 4 r1 (.yes true (rt Qk false))) (.no r1 (Pg a0 fun r2 => (noN 3 r1 (.as (!(eqS r2 a0)) (rt Qk false) (.yes u55 (let u54 := ((gb a0 i0) != 114); .as u54 (yesN 3 u54 (yesN 7 true (rt Qk true))) (noN 3 u54 (let u53 := ((zz a0) == 1); .as u53 (yesN 6 u53 (rt Qk true)) (.no u53 (let u52 := (in2 (zi 1) (zz a0) (zz a0)); .as u52 (.no u53 (Qbx (cu a0 (zi 1) (zz a0)) fun r3 => (noN 2 u53 (.yes u52 (noN 2 u53 (rt Qk (!(eqS r3 (cu a0 (zi 1) (zz a0)))))))))) .fail)))))))))))))) .fail)))))
theorem XR.ok {a0 : ByteArray} {r : Bool} (h : XR a0 = some r) : ww 272 [xs a0] [] = some (Qk r) := by
 refine fnP (Qmr a0) ?_ h
 exact ⟨rfl, fun q0 => Ql 3 (q0) (Ql 11 (rfl) (rfl)), fun q0 => noN_ok 3 (q0) (⟨rfl, fun q1 => Ql 4 (q1) (Ql 6 (rfl) (rfl)), fun q1 => ⟨q1, ⟨rfl, fun q2 => noN_ok 2 (q1) (fun r1 h => ⟨U2.ok h, ⟨q1, ⟨rfl, fun q3 => Ql 4 (q3) (⟨rfl, rfl⟩), fun q3 => ⟨q3, fun r2 h => ⟨VX.ok h, noN_ok 3 (q3) (⟨rfl, fun q4 => rfl, fun q4 => ⟨q2, ⟨rfl, fun q5 => Ql 3 (q5) (Ql 7 (rfl) (rfl)), fun q5 => noN_ok 3 (q5) (⟨rfl, fun q6 => Ql 6 (q6) (rfl), fun q6 => ⟨q6, ⟨rfl, fun q7 => ⟨q6, fun r3 h => ⟨WO.ok h, noN_ok 2 (q6) (⟨q7, noN_ok 2 (q6) (rfl)⟩)⟩⟩, fun q7 => trivial⟩⟩⟩)⟩⟩⟩)⟩⟩⟩⟩⟩), fun q2 => trivial⟩⟩⟩)⟩
noncomputable abbrev Qgo {ρ R : Type} (a0 : ByteArray) (k : Bool → Tr ρ R) : Tr ρ R := .call (ww 272 [xs a0] []) (XR a0) Qk k
abbrev Qbz := Option (List ByteArray)
def QeK : Option (List ByteArray) := (some [s_, s_, s_, h_2e, h_2d, h_2b, h_2d, h_2a, h_26, h_7c, SS, ST])
noncomputable def Wl : Qbz := QeK
theorem Wl.eq : Wl = QeK := rfl
noncomputable def Qld : Tr (List ByteArray) AH := (.rows [[xs s_], [xs s_], [xs s_], [xs h_2e], [xs h_2d], [xs h_2b], [xs h_2d], [xs h_2a], [xs h_26], [xs h_7c], [xs SS], [xs ST]] (Qi [s_, s_, s_, h_2e, h_2d, h_2b, h_2d, h_2a, h_26, h_7c, SS, ST]) (rt Jp [s_, s_, s_, h_2e, h_2d, h_2b, h_2d, h_2a, h_26, h_7c, SS, ST]))
theorem Wl.ok {r : (List ByteArray)} (h : Wl = some r) : ww 208 [] [] = some (Jp r) := by
 refine fnP (Qld) ?_ h
 exact ⟨(QU [s_, s_, s_, h_2e, h_2d, h_2b, h_2d, h_2a, h_26, h_7c, SS, ST]), rfl⟩
noncomputable abbrev Qav {ρ R : Type} (k : (List ByteArray) → Tr ρ R) : Tr ρ R := .call (ww 208 [] []) (Wl) Jp k
def YU (r : (Int × Qb)) : AV × Heap := (xi r.1, [(0, .box [] (QM r.2))])
abbrev WI := (List Int) → Qb → Option (Int × Qb)
structure JF where
 x7 : (List Int)
 x8 : Int
 x9 : Int
 h0 : Qb
structure Uh where
 x4 : Int
 h0 : Qb
def Zp (a : JF) : St := { n := 21, nx := 1, env := [(0, .ptr 0 0), (7, .sl (Ja a.x7)), (8, xi a.x8), (9, xi a.x9)], heap := [(0, .box [] (QM a.h0))] }
def G2 (a : Uh) : Ex × St := (.ret, { n := 21, nx := 1, env := [(4, xi a.x4)], heap := [(0, .box [] (QM a.h0))] })
def G3 (a : Qb) : Ex × St := (.exit 0, { n := 21, nx := 1, env := [], heap := [(0, .box [] (QM a))] })
def Zq (a : (Uh ⊕ Qb)) : Ex × St := Sum.elim G2 G3 a
abbrev Fa := JF → Option (Uh ⊕ Qb)
def Zr (C0 : Qbz) (C1 : Wh) (a : JF) : Option (JF ⊕ (Uh ⊕ Qb)) := (bif (decide (a.x9 < a.x8)) then (bif (decide (0 ≤ a.x9)) then ((a.x7[(Int.toNat a.x9)]?).bind fun e1 => ((C0).bind fun r2 => (bif (decide (0 ≤ e1)) then ((r2[(Int.toNat e1)]?).bind fun e3 => ((C1 e3 a.h0).bind fun r4 => (bif r4.1 then (some (.inr (.inl (Uh.mk e1 r4.2)))) else (some (.inl (JF.mk a.x7 a.x8 (w64 (a.x9 + 1)) r4.2)))))) else none))) else none) else (some (.inr (.inr a.h0))))
noncomputable def Uz : Fa := loopW (Zr Wl JC)
theorem Uz.eq (a : JF) : Uz a = (Zr Wl JC a).bind (Sum.elim Uz some) := JM _ _
noncomputable abbrev Qch {ρ R : Type} (a : JF) (k0 : Uh → Tr ρ R) (k1 : Qb → Tr ρ R) : Tr ρ R := .loop2 (loopAt pp 244 2) (Zp a) (Uz a) G2 G3 k0 k1
noncomputable def Qci (a : JF) : Tr (JF ⊕ (Uh ⊕ Qb)) XS := (.as (decide (a.x9 < a.x8)) (.as (decide (0 ≤ a.x9)) (.row ((Ja a.x7)[(Int.toNat a.x9)]?) (a.x7[(Int.toNat a.x9)]?) Xd fun (e1 : Int) => (Qav fun r2 => (.as (decide (0 ≤ e1)) (.row ((Qi r2)[(Int.toNat e1)]?) (r2[(Int.toNat e1)]?) Q8 fun (e3 : ByteArray) => (XQ e3 a.h0 fun r4 => (.as r4.1 (rx Zq (.inl (Uh.mk e1 r4.2))) (lf Zp (JF.mk a.x7 a.x8 (w64 (a.x9 + 1)) r4.2))))) .fail))) .fail) (rx Zq (.inr a.h0)))
theorem Uz.ok {a : JF} {r : (Uh ⊕ Qb)} (h : Uz a = some r) : lw 1 244 (loopAt pp 244 2) (Zp a) = some (Zq r) := by
 refine lpP h Qci fun a => ?_
 exact ⟨rfl, fun q0 => ⟨rfl, fun q1 => fun e1 h => ⟨Vt h, fun r2 h => ⟨Wl.ok h, ⟨rfl, fun q2 => fun e3 h => ⟨Q5 h, fun r4 h => ⟨JC.ok h, ⟨rfl, fun q3 => rfl, fun q3 => rfl⟩⟩⟩, fun q2 => trivial⟩⟩⟩, fun q1 => trivial⟩, fun q0 => rfl⟩
def Gl (L0 : Fa) (a1 : (List Int)) (h0 : Qb) : Option (Int × Qb) := ((L0 (JF.mk a1 (((a1.length) : Nat) : Int) (0 : Int) h0)).bind fun x => Sum.elim (fun (o1 : Uh) => (some (o1.x4, o1.h0))) (fun (o2 : Qb) => (some ((0 : Int), o2))) x)
noncomputable def JW : WI := Gl Uz
theorem JW.eq (a1 : (List Int)) (h0 : Qb) : JW a1 h0 = Gl Uz a1 h0 := rfl
noncomputable def QeL (a1 : (List Int)) (h0 : Qb) : Tr (Int × Qb) AH := (.num ((Ja a1).length) (a1.length) (Qch (JF.mk a1 (((a1.length) : Nat) : Int) i0 h0) (fun o1 => (rt YU (o1.x4, o1.h0))) (fun o2 => (rt YU (i0, o2)))))
theorem JW.ok {a1 : (List Int)} {h0 : Qb} {r : (Int × Qb)} (h : JW a1 h0 = some r) : ww 244 [.ptr 0 0, .sl (Ja a1)] [(0, .box [] (QM h0))] = some (YU r) := by
 refine fnP (QeL a1 h0) ?_ h
 exact ⟨(Vj _), ⟨fun o1 h => ⟨Uz.ok (r := (.inl _)) h, rfl⟩, fun o2 h => ⟨Uz.ok (r := (.inr _)) h, rfl⟩⟩⟩
noncomputable abbrev PD {ρ R : Type} (a1 : (List Int)) (h0 : Qb) (k : (Int × Qb) → Tr ρ R) : Tr ρ R := .call (ww 244 [.ptr 0 0, .sl (Ja a1)] [(0, .box [] (QM h0))]) (JW a1 h0) YU k
abbrev W6 := Qb → Option (Qa × Qb)
abbrev QeM (c : W6) : Prop := ∀ (h0 : Qb) (r : (Qa × Qb)), c h0 = some r → ww 263 [.ptr 0 0] [(0, .box [] (QM h0))] = some (Qq r)
abbrev WQ := Qb → Option (Qa × Qb)
abbrev QdO (c : WQ) : Prop := ∀ (h0 : Qb) (r : (Qa × Qb)), c h0 = some r → ww 262 [.ptr 0 0, .fn (.func 263) [.ptr 0 0] []] [(0, .box [] (QM h0))] = some (Qq r)
abbrev W7 := Qb → Option (Qa × Qb)
abbrev QeN (c : W7) : Prop := ∀ (h0 : Qb) (r : (Qa × Qb)), c h0 = some r → ww 264 [.ptr 0 0] [(0, .box [] (QM h0))] = some (Qq r)
abbrev Ws := Qb → Option (Qa × Qb)
abbrev Qcj (c : Ws) : Prop := ∀ (h0 : Qb) (r : (Qa × Qb)), c h0 = some r → ww 262 [.ptr 0 0, .fn (.func 264) [.ptr 0 0] []] [(0, .box [] (QM h0))] = some (Qq r)
abbrev VD := Qb → Option (Qa × Qb)
abbrev QgT (c : VD) : Prop := ∀ (h0 : Qb) (r : (Qa × Qb)), c h0 = some r → ww 243 [.ptr 0 0] [(0, .box [] (QM h0))] = some (Qq r)
abbrev Je := Int → Qb → Option (Qa × Qb)
abbrev Qaw (c : Je) : Prop := ∀ (a1 : Int) (h0 : Qb) (r : (Qa × Qb)), c a1 h0 = some r → ww 215 [.ptr 0 0, xi a1] [(0, .box [] (QM h0))] = some (Qq r)
noncomputable abbrev QdP {ρ R : Type} (c : W6) (h0 : Qb) (k : (Qa × Qb) → Tr ρ R) : Tr ρ R := .call (ww 263 [.ptr 0 0] [(0, .box [] (QM h0))]) (c h0) Qq k
noncomputable abbrev QcW {ρ R : Type} (c : WQ) (h0 : Qb) (k : (Qa × Qb) → Tr ρ R) : Tr ρ R := .call (ww 262 [.ptr 0 0, .fn (.func 263) [.ptr 0 0] []] [(0, .box [] (QM h0))]) (c h0) Qq k
noncomputable abbrev QdQ {ρ R : Type} (c : W7) (h0 : Qb) (k : (Qa × Qb) → Tr ρ R) : Tr ρ R := .call (ww 264 [.ptr 0 0] [(0, .box [] (QM h0))]) (c h0) Qq k
noncomputable abbrev QbA {ρ R : Type} (c : Ws) (h0 : Qb) (k : (Qa × Qb) → Tr ρ R) : Tr ρ R := .call (ww 262 [.ptr 0 0, .fn (.func 264) [.ptr 0 0] []] [(0, .box [] (QM h0))]) (c h0) Qq k
noncomputable abbrev Sc {ρ R : Type} (c : VD) (h0 : Qb) (k : (Qa × Qb) → Tr ρ R) : Tr ρ R := .call (ww 243 [.ptr 0 0] [(0, .box [] (QM h0))]) (c h0) Qq k
noncomputable abbrev Zc {ρ R : Type} (c : Je) (a1 : Int) (h0 : Qb) (k : (Qa × Qb) → Tr ρ R) : Tr ρ R := .call (ww 215 [.ptr 0 0, xi a1] [(0, .box [] (QM h0))]) (c a1 h0) Qq k
def WR (C0 : Je) (C1 : Wh) (C2 : JV) (h0 : Qb) : Option (Qa × Qb) := ((C0 (0 : Int) h0).bind fun r1 => ((C1 h_29 r1.2).bind fun r2 => (bif (!r2.1) then ((C2 r2.2).bind fun r3 => (some (r3.1, r3.2))) else (some (r1.1, r2.2)))))
theorem FA {C0 : Nat → Je} {D0 : Je} (H0 : Cv2 C0 D0) {C1 : Nat → Wh} {D1 : Wh} (H1 : Cv2 C1 D1) {C2 : Nat → JV} {D2 : JV} (H2 : Cv1 C2 D2) (h0 : Qb) : Cv (fun k => WR (C0 k) (C1 k) (C2 k) h0) (WR D0 D1 D2 h0) := by
 unfold WR
 exact .bind (H0 _ _) fun r1 => .bind (H1 _ _) fun r2 => .cond (.bind (H2 _) fun r3 => by exact .const _) cst
noncomputable def QdR (C0 : Je) (h0 : Qb) : Tr (Qa × Qb) AH := (Zc C0 i0 h0 fun r1 => (XQ h_29 r1.2 fun r2 => (.as (!r2.1) (VW r2.2 fun r3 => (rt Qq (r3.1, r3.2))) (rt Qq (r1.1, r2.2)))))
def V4 (C0 : JV) (C1 : W6) (h0 : Qb) : Option (Qa × Qb) := (bif (decide (h0.deep ≥ 12)) then ((C0 h0).bind fun r1 => (some (r1.1, r1.2))) else ((C1 (Qb.mk h0.left (w64 (h0.deep + 1)) h0.bad)).bind fun r2 => (some (r2.1, (Qb.mk r2.2.left (w64 (r2.2.deep - 1)) r2.2.bad)))))
theorem Fb {C0 : Nat → JV} {D0 : JV} (H0 : Cv1 C0 D0) {C1 : Nat → W6} {D1 : W6} (H1 : Cv1 C1 D1) (h0 : Qb) : Cv (fun k => V4 (C0 k) (C1 k) h0) (V4 D0 D1 h0) := by
 unfold V4
 exact .cond (.bind (H0 _) fun r1 => by exact .const _) (.bind (H1 _) fun r2 => by exact .const _)
noncomputable def QcX (C0 : W6) (h0 : Qb) : Tr (Qa × Qb) AH := (.as (decide (h0.deep ≥ 12)) (VW h0 fun r1 => (rt Qq (r1.1, r1.2))) (QdP C0 (Qb.mk h0.left (w64 (h0.deep + 1)) h0.bad) fun r2 => (rt Qq (r2.1, (Qb.mk r2.2.left (w64 (r2.2.deep - 1)) r2.2.bad)))))
def WS (C0 : VD) (h0 : Qb) : Option (Qa × Qb) := ((C0 h0).bind fun r1 => (some ((Qa.mk (4 : Int) (0 : Int) s_ [r1.1]), r1.2)))
theorem FB {C0 : Nat → VD} {D0 : VD} (H0 : Cv1 C0 D0) (h0 : Qb) : Cv (fun k => WS (C0 k) h0) (WS D0 h0) := by
 unfold WS
 exact .bind (H0 _) fun r1 => by exact .const _
noncomputable def QdS (C0 : VD) (h0 : Qb) : Tr (Qa × Qb) AH := (Sc C0 h0 fun r1 => (.rows [[xi r1.1.Kind, xi r1.1.N, xs r1.1.Name, .sl (QC r1.1.L)]] (QC [r1.1]) (rt Qq ((Qa.mk (zi 4) i0 s_ [r1.1]), r1.2))))
def VE (C0 : JV) (C1 : W7) (h0 : Qb) : Option (Qa × Qb) := (bif (decide (h0.deep ≥ 12)) then ((C0 h0).bind fun r1 => (some (r1.1, r1.2))) else ((C1 (Qb.mk h0.left (w64 (h0.deep + 1)) h0.bad)).bind fun r2 => (some (r2.1, (Qb.mk r2.2.left (w64 (r2.2.deep - 1)) r2.2.bad)))))
theorem G4 {C0 : Nat → JV} {D0 : JV} (H0 : Cv1 C0 D0) {C1 : Nat → W7} {D1 : W7} (H1 : Cv1 C1 D1) (h0 : Qb) : Cv (fun k => VE (C0 k) (C1 k) h0) (VE D0 D1 h0) := by
 unfold VE
 exact .cond (.bind (H0 _) fun r1 => by exact .const _) (.bind (H1 _) fun r2 => by exact .const _)
noncomputable def QbB (C0 : W7) (h0 : Qb) : Tr (Qa × Qb) AH := (.as (decide (h0.deep ≥ 12)) (VW h0 fun r1 => (rt Qq (r1.1, r1.2))) (QdQ C0 (Qb.mk h0.left (w64 (h0.deep + 1)) h0.bad) fun r2 => (rt Qq (r2.1, (Qb.mk r2.2.left (w64 (r2.2.deep - 1)) r2.2.bad)))))
def VL (C0 : Wh) (C1 : WQ) (C2 : Ws) (C3 : X4) (C4 : QcU) (C5 : YA) (C6 : YT) (C7 : E9) (C8 : GA) (C9 : Sv) (C10 : JV) (h0 : Qb) : Option (Qa × Qb) := ((C0 h_28 h0).bind fun r1 => (bif r1.1 then ((C1 r1.2).bind fun r2 => (some (r2.1, r2.2))) else ((C0 h_2d r1.2).bind fun r3 => (bif r3.1 then ((C2 r3.2).bind fun r4 => (some (r4.1, r4.2))) else ((C0 h_2e r3.2).bind fun r5 => (bif r5.1 then (some ((Qa.mk (3 : Int) (0 : Int) s_ ([] : List Qa)), r5.2)) else (bif r5.2.bad then (some ((Qa.mk (0 : Int) (0 : Int) s_ ([] : List Qa)), r5.2)) else ((C3 r5.2.left).bind fun r6 => (bif r6 then (bif (decide (0 ≤ (2 : Int) ∧ (2 : Int) ≤ ((r5.2.left.size : Nat) : Int) ∧ ((r5.2.left.size : Nat) : Int) ≤ ((r5.2.left.size : Nat) : Int))) then ((C4 (r5.2.left.extract (Int.toNat 2) (Int.toNat ((r5.2.left.size : Nat) : Int)))).bind fun r7 => (bif (!(eqS r7 s_)) then ((C4 (r5.2.left.extract (Int.toNat 2) (Int.toNat ((r5.2.left.size : Nat) : Int)))).bind fun r8 => ((C5 r8 (16 : Int) (Qb.mk (r5.2.left.extract (Int.toNat 2) (Int.toNat ((r5.2.left.size : Nat) : Int))) r5.2.deep r5.2.bad)).bind fun r9 => ((C6 r9.1 r9.2).bind fun r10 => (some (r10.1, r10.2))))) else ((C7 r5.2.left).bind fun r11 => (bif (!(eqS r11 s_)) then ((C5 r11 (10 : Int) r5.2).bind fun r12 => ((C6 r12.1 r12.2).bind fun r13 => (some (r13.1, r13.2)))) else ((C8 r5.2.left).bind fun r14 => ((C9 r14).bind fun r15 => (bif r15 then (bif (decide (0 ≤ ((r14.size : Nat) : Int) ∧ ((r14.size : Nat) : Int) ≤ ((r5.2.left.size : Nat) : Int) ∧ ((r5.2.left.size : Nat) : Int) ≤ ((r5.2.left.size : Nat) : Int))) then (some ((Qa.mk (2 : Int) (0 : Int) r14 ([] : List Qa)), (Qb.mk (r5.2.left.extract (Int.toNat ((r14.size : Nat) : Int)) (Int.toNat ((r5.2.left.size : Nat) : Int))) r5.2.deep r5.2.bad))) else none) else ((C10 r5.2).bind fun r16 => (some (r16.1, r16.2)))))))))) else none) else ((C7 r5.2.left).bind fun r17 => (bif (!(eqS r17 s_)) then ((C5 r17 (10 : Int) r5.2).bind fun r18 => ((C6 r18.1 r18.2).bind fun r19 => (some (r19.1, r19.2)))) else ((C8 r5.2.left).bind fun r20 => ((C9 r20).bind fun r21 => (bif r21 then (bif (decide (0 ≤ ((r20.size : Nat) : Int) ∧ ((r20.size : Nat) : Int) ≤ ((r5.2.left.size : Nat) : Int) ∧ ((r5.2.left.size : Nat) : Int) ≤ ((r5.2.left.size : Nat) : Int))) then (some ((Qa.mk (2 : Int) (0 : Int) r20 ([] : List Qa)), (Qb.mk (r5.2.left.extract (Int.toNat ((r20.size : Nat) : Int)) (Int.toNat ((r5.2.left.size : Nat) : Int))) r5.2.deep r5.2.bad))) else none) else ((C10 r5.2).bind fun r22 => (some (r22.1, r22.2)))))))))))))))))
theorem Sd {C0 : Nat → Wh} {D0 : Wh} (H0 : Cv2 C0 D0) {C1 : Nat → WQ} {D1 : WQ} (H1 : Cv1 C1 D1) {C2 : Nat → Ws} {D2 : Ws} (H2 : Cv1 C2 D2) {C3 : Nat → X4} {D3 : X4} (H3 : Cv1 C3 D3) {C4 : Nat → QcU} {D4 : QcU} (H4 : Cv1 C4 D4) {C5 : Nat → YA} {D5 : YA} (H5 : Cv3 C5 D5) {C6 : Nat → YT} {D6 : YT} (H6 : Cv2 C6 D6) {C7 : Nat → E9} {D7 : E9} (H7 : Cv1 C7 D7) {C8 : Nat → GA} {D8 : GA} (H8 : Cv1 C8 D8) {C9 : Nat → Sv} {D9 : Sv} (H9 : Cv1 C9 D9) {C10 : Nat → JV} {D10 : JV} (H10 : Cv1 C10 D10) (h0 : Qb) : Cv (fun k => VL (C0 k) (C1 k) (C2 k) (C3 k) (C4 k) (C5 k) (C6 k) (C7 k) (C8 k) (C9 k) (C10 k) h0) (VL D0 D1 D2 D3 D4 D5 D6 D7 D8 D9 D10 h0) := by
 unfold VL
 exact .bind (H0 _ _) fun r1 => .cond (.bind (H1 _) fun r2 => by exact .const _) (.bind (H0 _ _) fun r3 => .cond (.bind (H2 _) fun r4 => by exact .const _) (.bind (H0 _ _) fun r5 => .cond cst (.cond cst (.bind (H3 _) fun r6 => .cond (.cond (.bind (H4 _) fun r7 => .cond (.bind (H4 _) fun r8 => .bind (H5 _ _ _) fun r9 => .bind (H6 _ _) fun r10 => by exact .const _) (.bind (H7 _) fun r11 => .cond (.bind (H5 _ _ _) fun r12 => .bind (H6 _ _) fun r13 => by exact .const _) (.bind (H8 _) fun r14 => .bind (H9 _) fun r15 => .cond cst (.bind (H10 _) fun r16 => by exact .const _)))) cst) (.bind (H7 _) fun r17 => .cond (.bind (H5 _ _ _) fun r18 => .bind (H6 _ _) fun r19 => by exact .const _) (.bind (H8 _) fun r20 => .bind (H9 _) fun r21 => .cond cst (.bind (H10 _) fun r22 => by exact .const _)))))))
noncomputable def QfS (C0 : WQ) (C1 : Ws) (h0 : Qb) : Tr (Qa × Qb) AH := (XQ h_28 h0 fun r1 => (.as r1.1 (QcW C0 r1.2 fun r2 => (rt Qq (r2.1, r2.2))) (XQ h_2d r1.2 fun r3 => (.as r3.1 (QbA C1 r3.2 fun r4 => (rt Qq (r4.1, r4.2))) (XQ h_2e r3.2 fun r5 => (.as r5.1 (rt Qq ((Qa.mk (zi 3) i0 s_ ([] : List Qa)), r5.2)) (.as r5.2.bad (rt Qq ((Qa.mk i0 i0 s_ ([] : List Qa)), r5.2)) (Qcg r5.2.left fun r6 => (.as r6 (yesN 4 r6 (let u58 := (in2 (zi 2) (zz r5.2.left) (zz r5.2.left)); .as u58 (.yes r6 (Qjo (cu r5.2.left (zi 2) (zz r5.2.left)) fun r7 => (yesN 2 r6 (.as (!(eqS r7 s_)) (.yes u58 (Qjo (cu r5.2.left (zi 2) (zz r5.2.left)) fun r8 => (ZE r8 (zi 16) (Qb.mk (cu r5.2.left (zi 2) (zz r5.2.left)) r5.2.deep r5.2.bad) fun r9 => (ZY r9.1 r9.2 fun r10 => (rt Qq (r10.1, r10.2)))))) (Qbx r5.2.left fun r11 => (.as (!(eqS r11 s_)) (ZE r11 (zi 10) r5.2 fun r12 => (ZY r12.1 r12.2 fun r13 => (rt Qq (r13.1, r13.2)))) (Pg r5.2.left fun r14 => (Qgo r14 fun r15 => (.as r15 (.as (in2 (zz r14) (zz r5.2.left) (zz r5.2.left)) (rt Qq ((Qa.mk (zi 2) i0 r14 ([] : List Qa)), (Qb.mk (cu r5.2.left (zz r14) (zz r5.2.left)) r5.2.deep r5.2.bad))) .fail) (VW r5.2 fun r16 => (rt Qq (r16.1, r16.2)))))))))))) .fail)) (noN 7 r6 (.no false (Qbx r5.2.left fun r17 => (.as (!(eqS r17 s_)) (ZE r17 (zi 10) r5.2 fun r18 => (ZY r18.1 r18.2 fun r19 => (rt Qq (r19.1, r19.2)))) (Pg r5.2.left fun r20 => (Qgo r20 fun r21 => (.as r21 (.as (in2 (zz r20) (zz r5.2.left) (zz r5.2.left)) (rt Qq ((Qa.mk (zi 2) i0 r20 ([] : List Qa)), (Qb.mk (cu r5.2.left (zz r20) (zz r5.2.left)) r5.2.deep r5.2.bad))) .fail) (VW r5.2 fun r22 => (rt Qq (r22.1, r22.2)))))))))))))))))))
structure Jm where
 x1 : Int
 x6 : Int
 h0 : Qb
 h1 : Qa
 h2 : Qa
structure Uc where
 h0 : Qb
 h1 : Qa
 h2 : Qa
def ZF (a : Jm) : St := { n := 47, nx := 3, env := [(0, .ptr 0 0), (1, xi a.x1), (4, .ptr 1 0), (5, .ptr 2 0), (6, xi a.x6)], heap := [(0, .box [] (QM a.h0)), (1, .box [] (QL a.h1)), (2, .box [] (QL a.h2))] }
def X5 (a : Uc) : Ex × St := (.exit 0, { n := 47, nx := 3, env := [(4, .ptr 1 0), (5, .ptr 2 0)], heap := [(0, .box [] (QM a.h0)), (1, .box [] (QL a.h1)), (2, .box [] (QL a.h2))] })
abbrev VJ := Jm → Option Uc
def V5 (C0 : Je) (C1 : Yu) (C2 : WI) (a : Jm) : Option (Jm ⊕ Uc) := (bif (a.x6 != 0) then (bif (!a.h0.bad) then ((C0 (w64 (a.x1 + 1)) a.h0).bind fun r1 => ((C1).bind fun r2 => (bif (decide (0 ≤ a.x1)) then ((r2[(Int.toNat a.x1)]?).bind fun e3 => ((C2 e3 r1.2).bind fun r4 => (some (.inl (Jm.mk a.x1 r4.1 r4.2 a.h1 (Qa.mk a.x6 (0 : Int) s_ [a.h2, r1.1])))))) else none))) else (some (.inr (Uc.mk a.h0 a.h1 a.h2)))) else (some (.inr (Uc.mk a.h0 a.h1 a.h2))))
theorem Fc {C0 : Nat → Je} {D0 : Je} (H0 : Cv2 C0 D0) {C1 : Nat → Yu} {D1 : Yu} (H1 : Cv C1 D1) {C2 : Nat → WI} {D2 : WI} (H2 : Cv2 C2 D2) (a : Jm) : Cv (fun k => V5 (C0 k) (C1 k) (C2 k) a) (V5 D0 D1 D2 a) := by
 unfold V5
 exact .cond (.cond (.bind (H0 _ _) fun r1 => .bind (H1) fun r2 => .cond (.bind (.const _) fun e3 => .bind (H2 _ _) fun r4 => by exact .const _) cst) cst) cst
noncomputable abbrev QcY {ρ R : Type} (l : VJ) (a : Jm) (k0 : Uc → Tr ρ R) : Tr ρ R := .loop (loopAt pp 215 5) (ZF a) (l a) X5 k0
noncomputable def QcZ (C0 : Je) (a : Jm) : Tr (Jm ⊕ Uc) XS := (let u59 := (a.x6 != 0); .as u59 (yesN 5 u59 (.as (!a.h0.bad) (Zc C0 (w64 (a.x1 + 1)) a.h0 fun r1 => (.rows [[xi a.h2.Kind, xi a.h2.N, xs a.h2.Name, .sl (QC a.h2.L)], [xi r1.1.Kind, xi r1.1.N, xs r1.1.Name, .sl (QC r1.1.L)]] (QC [a.h2, r1.1]) (P1 fun r2 => (.as (decide (0 ≤ a.x1)) (.row ((Pn r2)[(Int.toNat a.x1)]?) (r2[(Int.toNat a.x1)]?) Qen fun (e3 : (List Int)) => (PD e3 r1.2 fun r4 => (lf ZF (Jm.mk a.x1 r4.1 r4.2 a.h1 (Qa.mk a.x6 i0 s_ [a.h2, r1.1]))))) .fail)))) (rx X5 (Uc.mk a.h0 a.h1 a.h2)))) (noN 5 u59 (.no false (rx X5 (Uc.mk a.h0 a.h1 a.h2)))))
noncomputable def Q3.s (k : Nat) (C0 : Je) : VJ := iter (V5 C0 VB JW) k
theorem Qck (k : Nat) {C0 : Je} (i_expr_parser_two : Qaw C0) {a : Jm} {r : Uc} (h : Q3.s k C0 a = some r) : lw 1 215 (loopAt pp 215 5) (ZF a) = some (X5 r) := by
 refine lpP (itP h) (QcZ C0) fun a => ?_
 exact ⟨rfl, fun q0 => Ql 5 (q0) (⟨rfl, fun q1 => fun r1 h => ⟨i_expr_parser_two _ _ _ h, ⟨(W3 [a.h2, r1.1]), fun r2 h => ⟨VB.ok h, ⟨rfl, fun q2 => fun e3 h => ⟨QhF h, fun r4 h => ⟨JW.ok h, rfl⟩⟩, fun q2 => trivial⟩⟩⟩⟩, fun q1 => rfl⟩), fun q0 => noN_ok 5 (q0) (⟨rfl, rfl⟩)⟩
theorem Q3.m {j k : Nat} (hj : j ≤ k) (C0 : Je) (D0 : Je) (H0 : Le2 C0 D0) (a : Jm) : Le (Q3.s j C0 a) (Q3.s k D0 a) := Le.iter (fun a => (Fc (tw2 H0) ks0 ks2 a).1 0) hj a
noncomputable def Q3.w (C0 : Je) : VJ := loopW (V5 C0 VB JW)
theorem Q3.cv (C0 : Nat → Je) (D0 : Je) (H0 : Cv2 C0 D0) (a : Jm) : Cv (fun k => Q3.s k (C0 k) a) (Q3.w D0 a) := Cv.iter (fun a => Fc H0 ks0 ks2 a) a
def WJ (C0 : Yu) (C1 : VD) (C2 : Je) (C3 : WI) (L4 : VJ) (a1 : Int) (h0 : Qb) : Option (Qa × Qb) := ((C0).bind fun r1 => (bif (a1 == (((r1.length) : Nat) : Int)) then ((C1 h0).bind fun r2 => (some (r2.1, r2.2))) else ((C2 (w64 (a1 + 1)) h0).bind fun r3 => ((C0).bind fun r4 => (bif (decide (0 ≤ a1)) then ((r4[(Int.toNat a1)]?).bind fun e5 => ((C3 e5 r3.2).bind fun r6 => ((L4 (Jm.mk a1 r6.1 r6.2 (Qa.mk (0 : Int) (0 : Int) s_ ([] : List Qa)) r3.1)).bind (fun (o7 : Uc) => (some (o7.h2, o7.h0)))))) else none)))))
theorem Se {C0 : Nat → Yu} {D0 : Yu} (H0 : Cv C0 D0) {C1 : Nat → VD} {D1 : VD} (H1 : Cv1 C1 D1) {C2 : Nat → Je} {D2 : Je} (H2 : Cv2 C2 D2) {C3 : Nat → WI} {D3 : WI} (H3 : Cv2 C3 D3) {L4 : Nat → VJ} {M4 : VJ} (N4 : Cv1 L4 M4) (a1 : Int) (h0 : Qb) : Cv (fun k => WJ (C0 k) (C1 k) (C2 k) (C3 k) (L4 k) a1 h0) (WJ D0 D1 D2 D3 M4 a1 h0) := by
 unfold WJ
 exact .bind (H0) fun r1 => .cond (.bind (H1 _) fun r2 => by exact .const _) (.bind (H2 _ _) fun r3 => .bind (H0) fun r4 => .cond (.bind (.const _) fun e5 => .bind (H3 _ _) fun r6 => .bind (N4 _) (fun o7 => by exact .const _)) cst)
noncomputable def QfT (C0 : VD) (C1 : Je) (L2 : VJ) (a1 : Int) (h0 : Qb) : Tr (Qa × Qb) AH := (P1 fun r1 => (.num ((Pn r1).length) (r1.length) (.as (a1 == (((r1.length) : Nat) : Int)) (Sc C0 h0 fun r2 => (rt Qq (r2.1, r2.2))) (Zc C1 (w64 (a1 + 1)) h0 fun r3 => (P1 fun r4 => (.as (decide (0 ≤ a1)) (.row ((Pn r4)[(Int.toNat a1)]?) (r4[(Int.toNat a1)]?) Qen fun (e5 : (List Int)) => (PD e5 r3.2 fun r6 => (QcY L2 (Jm.mk a1 r6.1 r6.2 (Qa.mk i0 i0 s_ ([] : List Qa)) r3.1) (fun o7 => (rt Qq (o7.h2, o7.h0)))))) .fail))))))
mutual
noncomputable def JK.s : Nat → Qb → Option (Qa × Qb)
 | 0, _ => none
 | k + 1, h0 => WR (fun a1 h0 => Qm.s k a1 h0) JC QV h0
termination_by structural k => k
noncomputable def Q4.s : Nat → Qb → Option (Qa × Qb)
 | 0, _ => none
 | k + 1, h0 => V4 QV (fun h0 => JK.s k h0) h0
termination_by structural k => k
noncomputable def JL.s : Nat → Qb → Option (Qa × Qb)
 | 0, _ => none
 | k + 1, h0 => WS (fun h0 => QD.s k h0) h0
termination_by structural k => k
noncomputable def QT.s : Nat → Qb → Option (Qa × Qb)
 | 0, _ => none
 | k + 1, h0 => VE QV (fun h0 => JL.s k h0) h0
termination_by structural k => k
noncomputable def QD.s : Nat → Qb → Option (Qa × Qb)
 | 0, _ => none
 | k + 1, h0 => VL JC (fun h0 => Q4.s k h0) (fun h0 => QT.s k h0) UT Zo JX J5 WO VX XR QV h0
termination_by structural k => k
noncomputable def Qm.s : Nat → Int → Qb → Option (Qa × Qb)
 | 0, _, _ => none
 | k + 1, a1, h0 => WJ VB (fun h0 => QD.s k h0) (fun a1 h0 => Qm.s k a1 h0) JW (Q3.s k (fun a1 h0 => Qm.s k a1 h0)) a1 h0
termination_by structural k => k
end
theorem Ez : ∀ (k : Nat), (QeM (JK.s k)) ∧ (QdO (Q4.s k)) ∧ (QeN (JL.s k)) ∧ (Qcj (QT.s k)) ∧ (QgT (QD.s k)) ∧ (Qaw (Qm.s k))
 | 0 => ⟨fun _ _ h => (nomatch h), fun _ _ h => (nomatch h), fun _ _ h => (nomatch h), fun _ _ h => (nomatch h), fun _ _ h => (nomatch h), fun _ _ _ h => (nomatch h)⟩
 | k + 1 => by
  obtain ⟨i_expr_parser_group, i_expr_parser_within, i_expr_parser_minus, i_expr_parser_within_2, i_expr_parser_one, i_expr_parser_two⟩ := Ez k
  exact ⟨fun h0 r h => by
    refine fnP (QdR (Qm.s k) h0) ?_ h
    exact fun r1 h => ⟨i_expr_parser_two _ _ _ h, fun r2 h => ⟨JC.ok h, ⟨rfl, fun q0 => fun r3 h => ⟨QV.ok h, rfl⟩, fun q0 => rfl⟩⟩⟩,
   fun h0 r h => by
    refine fnP (QcX (JK.s k) h0) ?_ h
    exact ⟨rfl, fun q0 => fun r1 h => ⟨QV.ok h, rfl⟩, fun q0 => fun r2 h => ⟨i_expr_parser_group _ _ h, rfl⟩⟩,
   fun h0 r h => by
    refine fnP (QdS (QD.s k) h0) ?_ h
    exact fun r1 h => ⟨i_expr_parser_one _ _ h, ⟨(W3 [r1.1]), rfl⟩⟩,
   fun h0 r h => by
    refine fnP (QbB (JL.s k) h0) ?_ h
    exact ⟨rfl, fun q0 => fun r1 h => ⟨QV.ok h, rfl⟩, fun q0 => fun r2 h => ⟨i_expr_parser_minus _ _ h, rfl⟩⟩,
   fun h0 r h => by
    refine fnP (QfS (Q4.s k) (QT.s k) h0) ?_ h
    exact fun r1 h => ⟨JC.ok h, ⟨rfl, fun q0 => fun r2 h => ⟨i_expr_parser_within _ _ h, rfl⟩, fun q0 => fun r3 h => ⟨JC.ok h, ⟨rfl, fun q1 => fun r4 h => ⟨i_expr_parser_within_2 _ _ h, rfl⟩, fun q1 => fun r5 h => ⟨JC.ok h, ⟨rfl, fun q2 => rfl, fun q2 => ⟨rfl, fun q3 => rfl, fun q3 => fun r6 h => ⟨UT.ok h, ⟨rfl, fun q4 => Ql 4 (q4) (⟨rfl, fun q5 => ⟨q4, fun r7 h => ⟨Zo.ok h, Ql 2 (q4) (⟨rfl, fun q6 => ⟨q5, fun r8 h => ⟨Zo.ok h, fun r9 h => ⟨JX.ok h, fun r10 h => ⟨J5.ok h, rfl⟩⟩⟩⟩, fun q6 => fun r11 h => ⟨WO.ok h, ⟨rfl, fun q7 => fun r12 h => ⟨JX.ok h, fun r13 h => ⟨J5.ok h, rfl⟩⟩, fun q7 => fun r14 h => ⟨VX.ok h, fun r15 h => ⟨XR.ok h, ⟨rfl, fun q8 => ⟨rfl, fun q9 => rfl, fun q9 => trivial⟩, fun q8 => fun r16 h => ⟨QV.ok h, rfl⟩⟩⟩⟩⟩⟩⟩)⟩⟩, fun q5 => trivial⟩), fun q4 => noN_ok 7 (q4) (⟨rfl, fun r17 h => ⟨WO.ok h, ⟨rfl, fun q5 => fun r18 h => ⟨JX.ok h, fun r19 h => ⟨J5.ok h, rfl⟩⟩, fun q5 => fun r20 h => ⟨VX.ok h, fun r21 h => ⟨XR.ok h, ⟨rfl, fun q6 => ⟨rfl, fun q7 => rfl, fun q7 => trivial⟩, fun q6 => fun r22 h => ⟨QV.ok h, rfl⟩⟩⟩⟩⟩⟩⟩)⟩⟩⟩⟩⟩⟩⟩⟩⟩,
   fun a1 h0 r h => by
    refine fnP (QfT (QD.s k) (Qm.s k) (Q3.s k (Qm.s k)) a1 h0) ?_ h
    exact fun r1 h => ⟨VB.ok h, ⟨(QnL _), ⟨rfl, fun q0 => fun r2 h => ⟨i_expr_parser_one _ _ h, rfl⟩, fun q0 => fun r3 h => ⟨i_expr_parser_two _ _ _ h, fun r4 h => ⟨VB.ok h, ⟨rfl, fun q1 => fun e5 h => ⟨QhF h, fun r6 h => ⟨JW.ok h, fun o7 h => ⟨Qck k i_expr_parser_two h, rfl⟩⟩⟩, fun q1 => trivial⟩⟩⟩⟩⟩⟩⟩
theorem VF : ∀ (k : Nat), (∀ (h0 : Qb), Le (JK.s k h0) (JK.s (k + 1) h0)) ∧ (∀ (h0 : Qb), Le (Q4.s k h0) (Q4.s (k + 1) h0)) ∧ (∀ (h0 : Qb), Le (JL.s k h0) (JL.s (k + 1) h0)) ∧ (∀ (h0 : Qb), Le (QT.s k h0) (QT.s (k + 1) h0)) ∧ (∀ (h0 : Qb), Le (QD.s k h0) (QD.s (k + 1) h0)) ∧ (∀ (a1 : Int) (h0 : Qb), Le (Qm.s k a1 h0) (Qm.s (k + 1) a1 h0))
 | 0 => ⟨fun _ _ h => (nomatch h), fun _ _ h => (nomatch h), fun _ _ h => (nomatch h), fun _ _ h => (nomatch h), fun _ _ h => (nomatch h), fun _ _ _ h => (nomatch h)⟩
 | k + 1 => by
  obtain ⟨i_expr_parser_group, i_expr_parser_within, i_expr_parser_minus, i_expr_parser_within_2, i_expr_parser_one, i_expr_parser_two⟩ := VF k
  exact ⟨fun h0 => (FA (tw2 i_expr_parser_two) ks2 ks1 h0).1 0,
   fun h0 => (Fb ks1 (tw1 i_expr_parser_group) h0).1 0,
   fun h0 => (FB (tw1 i_expr_parser_one) h0).1 0,
   fun h0 => (G4 ks1 (tw1 i_expr_parser_minus) h0).1 0,
   fun h0 => (Sd ks2 (tw1 i_expr_parser_within) (tw1 i_expr_parser_within_2) ks1 ks1 ks3 ks2 ks1 ks1 ks1 ks1 h0).1 0,
   fun a1 h0 => (Se ks0 (tw1 i_expr_parser_one) (tw2 i_expr_parser_two) ks2 (tw1 (Q3.m (Nat.le_succ k) (Qm.s k) (Qm.s (k + 1)) i_expr_parser_two)) a1 h0).1 0⟩
noncomputable def JK (h0 : Qb) : Option (Qa × Qb) := lim fun k => JK.s k h0
theorem JK.cv (h0 : Qb) : Cv (fun k => JK.s k h0) (JK h0) := .lim fun k => (VF k).1 h0
noncomputable def Q4 (h0 : Qb) : Option (Qa × Qb) := lim fun k => Q4.s k h0
theorem Q4.cv (h0 : Qb) : Cv (fun k => Q4.s k h0) (Q4 h0) := .lim fun k => (VF k).2.1 h0
noncomputable def JL (h0 : Qb) : Option (Qa × Qb) := lim fun k => JL.s k h0
theorem JL.cv (h0 : Qb) : Cv (fun k => JL.s k h0) (JL h0) := .lim fun k => (VF k).2.2.1 h0
noncomputable def QT (h0 : Qb) : Option (Qa × Qb) := lim fun k => QT.s k h0
theorem QT.cv (h0 : Qb) : Cv (fun k => QT.s k h0) (QT h0) := .lim fun k => (VF k).2.2.2.1 h0
noncomputable def QD (h0 : Qb) : Option (Qa × Qb) := lim fun k => QD.s k h0
theorem QD.cv (h0 : Qb) : Cv (fun k => QD.s k h0) (QD h0) := .lim fun k => (VF k).2.2.2.2.1 h0
noncomputable def Qm (a1 : Int) (h0 : Qb) : Option (Qa × Qb) := lim fun k => Qm.s k a1 h0
theorem Qm.cv (a1 : Int) (h0 : Qb) : Cv (fun k => Qm.s k a1 h0) (Qm a1 h0) := .lim fun k => (VF k).2.2.2.2.2 a1 h0
theorem Qm.ok {a1 : Int} {h0 : Qb} {r : (Qa × Qb)} (h : Qm a1 h0 = some r) : ww 215 [.ptr 0 0, xi a1] [(0, .box [] (QM h0))] = some (Qq r) := let ⟨k, e⟩ := ((Qm.cv a1 h0).2 r).1 h; (Ez k).2.2.2.2.2 a1 h0 _ e
noncomputable def Q3 : VJ := Q3.w Qm
theorem Q3.eq (a : Jm) : Q3 a = (V5 Qm VB JW a).bind (Sum.elim Q3 some) := JM _ _
theorem JK.eq (h0 : Qb) : JK h0 = WR Qm JC QV h0 := Cv.uniq (JK.cv h0).shift (FA Qm.cv ks2 ks1 h0)
theorem Q4.eq (h0 : Qb) : Q4 h0 = V4 QV JK h0 := Cv.uniq (Q4.cv h0).shift (Fb ks1 JK.cv h0)
theorem JL.eq (h0 : Qb) : JL h0 = WS QD h0 := Cv.uniq (JL.cv h0).shift (FB QD.cv h0)
theorem QT.eq (h0 : Qb) : QT h0 = VE QV JL h0 := Cv.uniq (QT.cv h0).shift (G4 ks1 JL.cv h0)
theorem QD.eq (h0 : Qb) : QD h0 = VL JC Q4 QT UT Zo JX J5 WO VX XR QV h0 := Cv.uniq (QD.cv h0).shift (Sd ks2 Q4.cv QT.cv ks1 ks1 ks3 ks2 ks1 ks1 ks1 ks1 h0)
theorem Qm.eq (a1 : Int) (h0 : Qb) : Qm a1 h0 = WJ VB QD Qm JW Q3 a1 h0 := Cv.uniq (Qm.cv a1 h0).shift (Se ks0 QD.cv Qm.cv ks2 (Q3.cv (fun k => Qm.s k) Qm Qm.cv) a1 h0)
noncomputable abbrev QfU {ρ R : Type} (a1 : Int) (h0 : Qb) (k : (Qa × Qb) → Tr ρ R) : Tr ρ R := Zc Qm a1 h0 k
def WV (r : (Qa × Bool)) : AV × Heap := (.tup [.agg (QL r.1), xo r.2], [])
abbrev Qgp := ByteArray → Option (Qa × Bool)
def Qax (C0 : Je) (C1 : ZW) (a0 : ByteArray) : Option (Qa × Bool) := ((C0 (0 : Int) (Qb.mk a0 (0 : Int) false)).bind fun r1 => ((C1 r1.2).bind fun r2 => (bif r2.bad then (some ((Qa.mk (0 : Int) (0 : Int) s_ ([] : List Qa)), false)) else (bif (!(eqS r2.left s_)) then (some ((Qa.mk (0 : Int) (0 : Int) s_ ([] : List Qa)), false)) else (some (r1.1, true))))))
noncomputable def Wm : Qgp := Qax Qm Ua
theorem Wm.eq (a0 : ByteArray) : Wm a0 = Qax Qm Ua a0 := rfl
noncomputable def Qle (a0 : ByteArray) : Tr (Qa × Bool) AH := (QfU i0 (Qb.mk a0 i0 false) fun r1 => (E7 r1.2 fun r2 => (.as r2.bad (yesN 5 r2.bad (.yes true (rt WV ((Qa.mk i0 i0 s_ ([] : List Qa)), false)))) (noN 5 r2.bad (.as (!(eqS r2.left s_)) (rt WV ((Qa.mk i0 i0 s_ ([] : List Qa)), false)) (rt WV (r1.1, true)))))))
theorem Wm.ok {a0 : ByteArray} {r : (Qa × Bool)} (h : Wm a0 = some r) : ww 179 [xs a0] [] = some (WV r) := by
 refine fnP (Qle a0) ?_ h
 exact fun r1 h => ⟨Qm.ok h, fun r2 h => ⟨Ua.ok h, ⟨rfl, fun q0 => Ql 5 (q0) (⟨rfl, rfl⟩), fun q0 => noN_ok 5 (q0) (⟨rfl, fun q1 => rfl, fun q1 => rfl⟩)⟩⟩⟩
noncomputable abbrev Qlf {ρ R : Type} (a0 : ByteArray) (k : (Qa × Bool) → Tr ρ R) : Tr ρ R := .call (ww 179 [xs a0] []) (Wm a0) WV k
def Qt (r : (Bool × Qh)) : AV × Heap := (xo r.1, [(0, .box [0, 0, 0, 0, 0, 5] [xi r.2.x.Line, xs r.2.x.Label, xi r.2.x.Kind, xi r.2.x.Op, xs r.2.x.Text, .arr 2]), (2, .arr true 5 (Qj r.2.x.Args))])
abbrev PE := ByteArray → Qh → Option (Bool × Qh)
def ZZ (C0 : Qgp) (a1 : ByteArray) (h0 : Qh) : Option (Bool × Qh) := ((C0 a1).bind fun r1 => (bif (decide ((h0.x.Args.length + [(Qd.mk (-1 : Int) r1.1)].length) * 64 ≤ most)) then (some (r1.2, (Qh.mk (Qg.mk h0.x.Line h0.x.Label h0.x.Kind h0.x.Op h0.x.Text (h0.x.Args ++ [(Qd.mk (-1 : Int) r1.1)]))))) else none))
noncomputable def Vm : PE := ZZ Wm
theorem Vm.eq (a1 : ByteArray) (h0 : Qh) : Vm a1 h0 = ZZ Wm a1 h0 := rfl
noncomputable def QdT (a1 : ByteArray) (h0 : Qh) : Tr (Bool × Qh) AH := (Qlf a1 fun r1 => (.rows [[xi (-1 : Int), xi r1.1.Kind, xi r1.1.N, xs r1.1.Name, .sl (QC r1.1.L)]] (Qj [(Qd.mk (-1 : Int) r1.1)]) (.yes (decide ((Qj [(Qd.mk (-1 : Int) r1.1)]).all (fun r => r.length == 5) = true)) (.ask (decide (((Qj h0.x.Args).length + (Qj [(Qd.mk (-1 : Int) r1.1)]).length) * 64 ≤ most)) (decide ((h0.x.Args.length + [(Qd.mk (-1 : Int) r1.1)].length) * 64 ≤ most)) (.rows ((Qj h0.x.Args) ++ (Qj [(Qd.mk (-1 : Int) r1.1)])) (Qj (h0.x.Args ++ [(Qd.mk (-1 : Int) r1.1)])) (rt Qt (r1.2, (Qh.mk (Qg.mk h0.x.Line h0.x.Label h0.x.Kind h0.x.Op h0.x.Text (h0.x.Args ++ [(Qd.mk (-1 : Int) r1.1)])))))) .fail))))
theorem Vm.ok {a1 : ByteArray} {h0 : Qh} {r : (Bool × Qh)} (h : Vm a1 h0 = some r) : ww 129 [.ptr 0 0, xs a1] [(0, .box [0, 0, 0, 0, 0, 5] [xi h0.x.Line, xs h0.x.Label, xi h0.x.Kind, xi h0.x.Op, xs h0.x.Text, .arr 1]), (1, .arr true 5 (Qj h0.x.Args))] = some (Qt r) := by
 refine fnP (QdT a1 h0) ?_ h
 exact fun r1 h => ⟨Wm.ok h, ⟨(JS [(Qd.mk (-1 : Int) r1.1)]), ⟨(decide_eq_true (Wx _)), ⟨(by rw [QX, QX]), fun q0 => ⟨(VA _ _), rfl⟩, fun q0 => trivial⟩⟩⟩⟩
noncomputable abbrev QdU {ρ R : Type} (a1 : ByteArray) (h0 : Qh) (k : (Bool × Qh) → Tr ρ R) : Tr ρ R := .call (ww 129 [.ptr 0 0, xs a1] [(0, .box [0, 0, 0, 0, 0, 5] [xi h0.x.Line, xs h0.x.Label, xi h0.x.Kind, xi h0.x.Op, xs h0.x.Text, .arr 1]), (1, .arr true 5 (Qj h0.x.Args))]) (Vm a1 h0) Qt k
abbrev Sf := ByteArray → Qh → Option (Bool × Qh)
def Gm (C0 : QcQ) (a1 : ByteArray) (h0 : Qh) : Option (Bool × Qh) := ((C0 a1).bind fun r1 => (some (r1, (Qh.mk (Qg.mk h0.x.Line h0.x.Label h0.x.Kind h0.x.Op a1 h0.x.Args)))))
noncomputable def VG : Sf := Gm W5
theorem VG.eq (a1 : ByteArray) (h0 : Qh) : VG a1 h0 = Gm W5 a1 h0 := rfl
noncomputable def QeO (a1 : ByteArray) (h0 : Qh) : Tr (Bool × Qh) AH := (Qgg a1 fun r1 => (rt Qt (r1, (Qh.mk (Qg.mk h0.x.Line h0.x.Label h0.x.Kind h0.x.Op a1 h0.x.Args)))))
theorem VG.ok {a1 : ByteArray} {h0 : Qh} {r : (Bool × Qh)} (h : VG a1 h0 = some r) : ww 131 [.ptr 0 0, xs a1] [(0, .box [0, 0, 0, 0, 0, 5] [xi h0.x.Line, xs h0.x.Label, xi h0.x.Kind, xi h0.x.Op, xs h0.x.Text, .arr 1]), (1, .arr true 5 (Qj h0.x.Args))] = some (Qt r) := by
 refine fnP (QeO a1 h0) ?_ h
 exact fun r1 h => ⟨W5.ok h, rfl⟩
noncomputable abbrev QeP {ρ R : Type} (a1 : ByteArray) (h0 : Qh) (k : (Bool × Qh) → Tr ρ R) : Tr ρ R := .call (ww 131 [.ptr 0 0, xs a1] [(0, .box [0, 0, 0, 0, 0, 5] [xi h0.x.Line, xs h0.x.Label, xi h0.x.Kind, xi h0.x.Op, xs h0.x.Text, .arr 1]), (1, .arr true 5 (Qj h0.x.Args))]) (VG a1 h0) Qt k
def Qcl (r : Int) : AV × Heap := (.tup [xi r, .sc .nilIface], [])
abbrev Qj5 := ByteArray → Option Int
noncomputable def Xg (a0 : ByteArray) : Option Int := atoiS a0
noncomputable abbrev Qcm {ρ R : Type} (a0 : ByteArray) (k : Int → Tr ρ R) : Tr ρ R := .call (ww 241 [xs a0] []) (Xg a0) Qcl k
theorem Xg.ok {a0 : ByteArray} {r : Int} (h : Xg a0 = some r) : ww 241 [xs a0] [] = some (Qcl r) := (ZQ rfl _ _).trans (QqU h)
abbrev Qcn := ByteArray → Option (Int × Bool)
def Fd (C0 : PY) (C1 : Qj5) (a0 : ByteArray) : Option (Int × Bool) := (bif (decide (((a0.size : Nat) : Int) < 2)) then (some ((0 : Int), false)) else (bif (decide (((a0.size : Nat) : Int) > 3)) then (some ((0 : Int), false)) else (bif (decide (0 ≤ (0 : Int) ∧ (0 : Int) < ((a0.size : Nat) : Int))) then (bif (((a0.data.getD (Int.toNat 0) 0).toNat : Int) != 114) then (some ((0 : Int), false)) else (bif (decide (0 ≤ (1 : Int) ∧ (1 : Int) ≤ ((a0.size : Nat) : Int) ∧ ((a0.size : Nat) : Int) ≤ ((a0.size : Nat) : Int))) then ((C0 (a0.extract (Int.toNat 1) (Int.toNat ((a0.size : Nat) : Int)))).bind fun r1 => (bif (r1 != (w64 (((a0.size : Nat) : Int) - 1))) then (some ((0 : Int), false)) else (bif (((a0.size : Nat) : Int) == 3) then (bif (decide (0 ≤ (1 : Int) ∧ (1 : Int) < ((a0.size : Nat) : Int))) then (bif (((a0.data.getD (Int.toNat 1) 0).toNat : Int) == 48) then (some ((0 : Int), false)) else ((C1 (a0.extract (Int.toNat 1) (Int.toNat ((a0.size : Nat) : Int)))).bind fun r2 => (some (r2, (decide (r2 < 32)))))) else none) else ((C1 (a0.extract (Int.toNat 1) (Int.toNat ((a0.size : Nat) : Int)))).bind fun r3 => (some (r3, (decide (r3 < 32)))))))) else none)) else none)))
noncomputable def WA : Qcn := Fd VM Xg
theorem WA.eq (a0 : ByteArray) : WA a0 = Fd VM Xg a0 := rfl
noncomputable def QhS (a0 : ByteArray) : Tr (Int × Bool) AH := (let u65 := (decide ((zz a0) < 2)); .as u65 (yesN 3 u65 (yesN 19 true (rt W1 (i0, false)))) (noN 3 u65 (let u64 := (decide ((zz a0) > 3)); .as u64 (yesN 3 u64 (yesN 15 true (rt W1 (i0, false)))) (.no u64 (.as (in1 i0 (zz a0)) (noN 2 u64 (let u63 := ((gb a0 i0) != 114); .as u63 (yesN 7 u63 (yesN 7 true (rt W1 (i0, false)))) (.no u63 (let u62 := (in2 (zi 1) (zz a0) (zz a0)); .as u62 (.no u63 (Qcb (cu a0 (zi 1) (zz a0)) fun r1 => (noN 5 u63 (let u61 := (r1 != (w64 ((zz a0) - 1))); .as u61 (yesN 5 u61 (.yes true (rt W1 (i0, false)))) (noN 3 u61 (let u60 := ((zz a0) == 3); .as u60 (.yes u60 (.as (in1 (zi 1) (zz a0)) (.yes u60 (.no u61 (.yes u60 (.no u61 (.as ((gb a0 (zi 1)) == 48) (rt W1 (i0, false)) (.yes u62 (Qcm (cu a0 (zi 1) (zz a0)) fun r2 => (rt W1 (r2, (decide (r2 < 32))))))))))) .fail)) (noN 2 u60 (.no u61 (.no u60 (.no u61 (.no false (.yes u62 (Qcm (cu a0 (zi 1) (zz a0)) fun r3 => (rt W1 (r3, (decide (r3 < 32))))))))))))))))) .fail)))) .fail)))))
theorem WA.ok {a0 : ByteArray} {r : (Int × Bool)} (h : WA a0 = some r) : ww 214 [xs a0] [] = some (W1 r) := by
 refine fnP (QhS a0) ?_ h
 exact ⟨rfl, fun q0 => Ql 3 (q0) (Ql 19 (rfl) (rfl)), fun q0 => noN_ok 3 (q0) (⟨rfl, fun q1 => Ql 3 (q1) (Ql 15 (rfl) (rfl)), fun q1 => ⟨q1, ⟨rfl, fun q2 => noN_ok 2 (q1) (⟨rfl, fun q3 => Ql 7 (q3) (Ql 7 (rfl) (rfl)), fun q3 => ⟨q3, ⟨rfl, fun q4 => ⟨q3, fun r1 h => ⟨VM.ok h, noN_ok 5 (q3) (⟨rfl, fun q5 => Ql 5 (q5) (⟨rfl, rfl⟩), fun q5 => noN_ok 3 (q5) (⟨rfl, fun q6 => ⟨q6, ⟨rfl, fun q7 => ⟨q6, ⟨q5, ⟨q6, ⟨q5, ⟨rfl, fun q8 => rfl, fun q8 => ⟨q4, fun r2 h => ⟨Xg.ok h, rfl⟩⟩⟩⟩⟩⟩⟩, fun q7 => trivial⟩⟩, fun q6 => noN_ok 2 (q6) (⟨q5, ⟨q6, ⟨q5, ⟨rfl, ⟨q4, fun r3 h => ⟨Xg.ok h, rfl⟩⟩⟩⟩⟩⟩)⟩)⟩)⟩⟩, fun q4 => trivial⟩⟩⟩), fun q2 => trivial⟩⟩⟩)⟩
noncomputable abbrev QhT {ρ R : Type} (a0 : ByteArray) (k : (Int × Bool) → Tr ρ R) : Tr ρ R := .call (ww 214 [xs a0] []) (WA a0) W1 k
abbrev EA := ByteArray → Qh → Option (Bool × Qh)
def Y4 (C0 : Qcn) (a1 : ByteArray) (h0 : Qh) : Option (Bool × Qh) := ((C0 a1).bind fun r1 => (bif (decide ((h0.x.Args.length + [(Qd.mk r1.1 (Qa.mk (0 : Int) (0 : Int) s_ ([] : List Qa)))].length) * 64 ≤ most)) then (some (r1.2, (Qh.mk (Qg.mk h0.x.Line h0.x.Label h0.x.Kind h0.x.Op h0.x.Text (h0.x.Args ++ [(Qd.mk r1.1 (Qa.mk (0 : Int) (0 : Int) s_ ([] : List Qa)))]))))) else none))
noncomputable def UJ : EA := Y4 WA
theorem UJ.eq (a1 : ByteArray) (h0 : Qh) : UJ a1 h0 = Y4 WA a1 h0 := rfl
noncomputable def QbC (a1 : ByteArray) (h0 : Qh) : Tr (Bool × Qh) AH := (QhT a1 fun r1 => (.rows [[xi r1.1, xi i0, xi i0, xs s_, .sl (QC ([] : List Qa))]] (Qj [(Qd.mk r1.1 (Qa.mk i0 i0 s_ ([] : List Qa)))]) (.yes (decide ((Qj [(Qd.mk r1.1 (Qa.mk i0 i0 s_ ([] : List Qa)))]).all (fun r => r.length == 5) = true)) (.ask (decide (((Qj h0.x.Args).length + (Qj [(Qd.mk r1.1 (Qa.mk i0 i0 s_ ([] : List Qa)))]).length) * 64 ≤ most)) (decide ((h0.x.Args.length + [(Qd.mk r1.1 (Qa.mk i0 i0 s_ ([] : List Qa)))].length) * 64 ≤ most)) (.rows ((Qj h0.x.Args) ++ (Qj [(Qd.mk r1.1 (Qa.mk i0 i0 s_ ([] : List Qa)))])) (Qj (h0.x.Args ++ [(Qd.mk r1.1 (Qa.mk i0 i0 s_ ([] : List Qa)))])) (rt Qt (r1.2, (Qh.mk (Qg.mk h0.x.Line h0.x.Label h0.x.Kind h0.x.Op h0.x.Text (h0.x.Args ++ [(Qd.mk r1.1 (Qa.mk i0 i0 s_ ([] : List Qa)))])))))) .fail))))
theorem UJ.ok {a1 : ByteArray} {h0 : Qh} {r : (Bool × Qh)} (h : UJ a1 h0 = some r) : ww 178 [.ptr 0 0, xs a1] [(0, .box [0, 0, 0, 0, 0, 5] [xi h0.x.Line, xs h0.x.Label, xi h0.x.Kind, xi h0.x.Op, xs h0.x.Text, .arr 1]), (1, .arr true 5 (Qj h0.x.Args))] = some (Qt r) := by
 refine fnP (QbC a1 h0) ?_ h
 exact fun r1 h => ⟨WA.ok h, ⟨(JS [(Qd.mk r1.1 (Qa.mk (0 : Int) (0 : Int) s_ ([] : List Qa)))]), ⟨(decide_eq_true (Wx _)), ⟨(by rw [QX, QX]), fun q0 => ⟨(VA _ _), rfl⟩, fun q0 => trivial⟩⟩⟩⟩
noncomputable abbrev QbD {ρ R : Type} (a1 : ByteArray) (h0 : Qh) (k : (Bool × Qh) → Tr ρ R) : Tr ρ R := .call (ww 178 [.ptr 0 0, xs a1] [(0, .box [0, 0, 0, 0, 0, 5] [xi h0.x.Line, xs h0.x.Label, xi h0.x.Kind, xi h0.x.Op, xs h0.x.Text, .arr 1]), (1, .arr true 5 (Qj h0.x.Args))]) (UJ a1 h0) Qt k
def Qc0 (r : (Bool × Qh)) : AV × Heap := (xo r.1, [(1, .box [0, 0, 0, 0, 0, 5] [xi r.2.x.Line, xs r.2.x.Label, xi r.2.x.Kind, xi r.2.x.Op, xs r.2.x.Text, .arr 3]), (3, .arr true 5 (Qj r.2.x.Args))])
abbrev QeQ := (List ByteArray) → Qh → (List Nat) → Option (Bool × Qh)
structure Uu where
 x0 : (List ByteArray)
 x5 : Bool
 x6 : Int
 h1 : Qh
 r4 : (List Nat)
structure VO where
 x5 : Bool
 h1 : Qh
def ZN (a : Uu) : St := { n := 31, nx := 5, env := [(0, .sl (Qi a.x0)), (1, .arr 4), (5, xo a.x5), (6, xi a.x6)], heap := [(1, .box [0, 0, 0, 0, 0, 5] [xi a.h1.x.Line, xs a.h1.x.Label, xi a.h1.x.Kind, xi a.h1.x.Op, xs a.h1.x.Text, .arr 3]), (3, .arr true 5 (Qj a.h1.x.Args)), (4, .fs (some 1) (J8 a.r4))] }
def Ed (a : VO) : Ex × St := (.exit 0, { n := 31, nx := 4, env := [(5, xo a.x5)], heap := [(1, .box [0, 0, 0, 0, 0, 5] [xi a.h1.x.Line, xs a.h1.x.Label, xi a.h1.x.Kind, xi a.h1.x.Op, xs a.h1.x.Text, .arr 3]), (3, .arr true 5 (Qj a.h1.x.Args))] })
abbrev QeR := Uu → Option VO
def Xr (C0 : PE) (C1 : Sf) (C2 : EA) (a : Uu) : Option (Uu ⊕ VO) := (bif (decide (a.x6 < (((a.r4.length) : Nat) : Int))) then (bif a.x5 then (bif (decide (0 ≤ a.x6 ∧ a.x6 < ((a.r4.length : Nat) : Int))) then ((a.r4[(Int.toNat a.x6)]?).bind fun e1 => (bif (decide (e1 = 129)) then (bif (decide (0 ≤ a.x6)) then ((a.x0[(Int.toNat a.x6)]?).bind fun e2 => ((C0 e2 a.h1).bind fun r3 => (some (.inl (Uu.mk a.x0 r3.1 (w64 (a.x6 + 1)) r3.2 a.r4))))) else none) else (bif (decide (e1 = 131)) then (bif (decide (0 ≤ a.x6)) then ((a.x0[(Int.toNat a.x6)]?).bind fun e4 => ((C1 e4 a.h1).bind fun r5 => (some (.inl (Uu.mk a.x0 r5.1 (w64 (a.x6 + 1)) r5.2 a.r4))))) else none) else (bif (decide (e1 = 178)) then (bif (decide (0 ≤ a.x6)) then ((a.x0[(Int.toNat a.x6)]?).bind fun e6 => ((C2 e6 a.h1).bind fun r7 => (some (.inl (Uu.mk a.x0 r7.1 (w64 (a.x6 + 1)) r7.2 a.r4))))) else none) else none)))) else none) else (some (.inr (VO.mk a.x5 a.h1)))) else (some (.inr (VO.mk a.x5 a.h1))))
noncomputable def J0 : QeR := loopW (Xr Vm VG UJ)
theorem J0.eq (a : Uu) : J0 a = (Xr Vm VG UJ a).bind (Sum.elim J0 some) := JM _ _
noncomputable abbrev Qj6 {ρ R : Type} (a : Uu) (k0 : VO → Tr ρ R) : Tr ρ R := .loop (loopAt pp 127 3) (ZN a) (J0 a) Ed k0
noncomputable def Qj7 (a : Uu) : Tr (Uu ⊕ VO) XS := (.num ((J8 a.r4).length) (a.r4.length) (let u66 := (decide (a.x6 < (((a.r4.length) : Nat) : Int))); .as u66 (.yes u66 (.as a.x5 (.ask (in1 a.x6 (((J8 a.r4).length : Nat) : Int)) (in1 a.x6 ((a.r4.length : Nat) : Int)) (.row ((J8 a.r4)[(Int.toNat a.x6)]?) (a.r4[(Int.toNat a.x6)]?) Qem fun (e1 : Nat) => (.as (decide (e1 = 129)) (.as (decide (0 ≤ a.x6)) (.row ((Qi a.x0)[(Int.toNat a.x6)]?) (a.x0[(Int.toNat a.x6)]?) Q8 fun (e2 : ByteArray) => (QdU e2 a.h1 fun r3 => (lf ZN (Uu.mk a.x0 r3.1 (w64 (a.x6 + 1)) r3.2 a.r4)))) .fail) (.as (decide (e1 = 131)) (.as (decide (0 ≤ a.x6)) (.row ((Qi a.x0)[(Int.toNat a.x6)]?) (a.x0[(Int.toNat a.x6)]?) Q8 fun (e4 : ByteArray) => (QeP e4 a.h1 fun r5 => (lf ZN (Uu.mk a.x0 r5.1 (w64 (a.x6 + 1)) r5.2 a.r4)))) .fail) (.as (decide (e1 = 178)) (.as (decide (0 ≤ a.x6)) (.row ((Qi a.x0)[(Int.toNat a.x6)]?) (a.x0[(Int.toNat a.x6)]?) Q8 fun (e6 : ByteArray) => (QbD e6 a.h1 fun r7 => (lf ZN (Uu.mk a.x0 r7.1 (w64 (a.x6 + 1)) r7.2 a.r4)))) .fail) .fail)))) .fail) (rx Ed (VO.mk a.x5 a.h1)))) (.no u66 (.no false (rx Ed (VO.mk a.x5 a.h1))))))
theorem J0.ok {a : Uu} {r : VO} (h : J0 a = some r) : lw 3 127 (loopAt pp 127 3) (ZN a) = some (Ed r) := by
 refine lpP h Qj7 fun a => ?_
 exact ⟨(XZ _), ⟨rfl, fun q0 => ⟨q0, ⟨rfl, fun q1 => ⟨(by rw [XZ]), fun q2 => fun e1 h => ⟨QnK h, ⟨rfl, fun q3 => ⟨rfl, fun q4 => fun e2 h => ⟨Q5 h, fun r3 h => ⟨Vm.ok h, rfl⟩⟩, fun q4 => trivial⟩, fun q3 => ⟨rfl, fun q4 => ⟨rfl, fun q5 => fun e4 h => ⟨Q5 h, fun r5 h => ⟨VG.ok h, rfl⟩⟩, fun q5 => trivial⟩, fun q4 => ⟨rfl, fun q5 => ⟨rfl, fun q6 => fun e6 h => ⟨Q5 h, fun r7 h => ⟨UJ.ok h, rfl⟩⟩, fun q6 => trivial⟩, fun q5 => trivial⟩⟩⟩⟩, fun q2 => trivial⟩, fun q1 => rfl⟩⟩, fun q0 => ⟨q0, ⟨rfl, rfl⟩⟩⟩⟩
def Sw (L0 : QeR) (a0 : (List ByteArray)) (h1 : Qh) (r0 : (List Nat)) : Option (Bool × Qh) := ((L0 (Uu.mk a0 ((((a0.length) : Nat) : Int) == (((r0.length) : Nat) : Int)) (0 : Int) h1 r0)).bind (fun (o1 : VO) => (some (o1.x5, o1.h1))))
noncomputable def U3 : QeQ := Sw J0
theorem U3.eq (a0 : (List ByteArray)) (h1 : Qh) (r0 : (List Nat)) : U3 a0 h1 r0 = Sw J0 a0 h1 r0 := rfl
noncomputable def QnS (a0 : (List ByteArray)) (h1 : Qh) (r0 : (List Nat)) : Tr (Bool × Qh) AH := (.num ((Qi a0).length) (a0.length) (.num ((J8 r0).length) (r0.length) (Qj6 (Uu.mk a0 ((((a0.length) : Nat) : Int) == (((r0.length) : Nat) : Int)) i0 h1 r0) (fun o1 => (rt Qc0 (o1.x5, o1.h1))))))
theorem U3.ok {a0 : (List ByteArray)} {h1 : Qh} {r0 : (List Nat)} {r : (Bool × Qh)} (h : U3 a0 h1 r0 = some r) : ww 127 [.sl (Qi a0), .arr 0] [(0, .fs (some 1) (J8 r0)), (1, .box [0, 0, 0, 0, 0, 5] [xi h1.x.Line, xs h1.x.Label, xi h1.x.Kind, xi h1.x.Op, xs h1.x.Text, .arr 2]), (2, .arr true 5 (Qj h1.x.Args))] = some (Qc0 r) := by
 refine fnP (QnS a0 h1 r0) ?_ h
 exact ⟨(Qs _), ⟨(XZ _), fun o1 h => ⟨J0.ok h, rfl⟩⟩⟩
noncomputable abbrev YV {ρ R : Type} (a0 : (List ByteArray)) (h1 : Qh) (r0 : (List Nat)) (k : (Bool × Qh) → Tr ρ R) : Tr ρ R := .call (ww 127 [.sl (Qi a0), .arr 0] [(0, .fs (some 1) (J8 r0)), (1, .box [0, 0, 0, 0, 0, 5] [xi h1.x.Line, xs h1.x.Label, xi h1.x.Kind, xi h1.x.Op, xs h1.x.Text, .arr 2]), (2, .arr true 5 (Qj h1.x.Args))]) (U3 a0 h1 r0) Qc0 k
abbrev Gn := (List ByteArray) → Qh → Option (Bool × Qh)
structure QW where
 x1 : (List ByteArray)
 x14 : (List ByteArray)
 x15 : Int
 x16 : Int
 h0 : Qh
 r3 : (List Nat)
structure JI where
 x1 : (List ByteArray)
 h0 : Qh
 r3 : (List Nat)
def WD (a : QW) : St := { n := 38, nx := 4, env := [(0, .ptr 0 0), (1, .sl (Qi a.x1)), (5, .arr 3), (14, .sl (Qi a.x14)), (15, xi a.x15), (16, xi a.x16)], heap := [(0, .box [0, 0, 0, 0, 0, 5] [xi a.h0.x.Line, xs a.h0.x.Label, xi a.h0.x.Kind, xi a.h0.x.Op, xs a.h0.x.Text, .arr 2]), (2, .arr true 5 (Qj a.h0.x.Args)), (3, .fs (some 0) (J8 a.r3))] }
def XD (a : JI) : Ex × St := (.exit 0, { n := 38, nx := 4, env := [(1, .sl (Qi a.x1)), (5, .arr 3)], heap := [(0, .box [0, 0, 0, 0, 0, 5] [xi a.h0.x.Line, xs a.h0.x.Label, xi a.h0.x.Kind, xi a.h0.x.Op, xs a.h0.x.Text, .arr 2]), (2, .arr true 5 (Qj a.h0.x.Args)), (3, .fs (some 0) (J8 a.r3))] })
abbrev Zy := QW → Option JI
def WE (C0 : QfR) (a : QW) : Option (QW ⊕ JI) := (bif (decide (a.x16 < a.x15)) then (bif (decide (0 ≤ a.x16)) then ((a.x14[(Int.toNat a.x16)]?).bind fun e1 => (bif (decide (((h_20.size + e1.size : Nat) : Int) ≤ IntKind.i64.max)) then (bif (decide ((((h_20 ++ e1).size + h_20.size : Nat) : Int) ≤ IntKind.i64.max)) then ((C0 UM ((h_20 ++ e1) ++ h_20)).bind fun r2 => (bif r2 then (bif (decide ((a.r3.length + [178].length) * 8 ≤ most)) then (some (.inl (QW.mk a.x1 a.x14 a.x15 (w64 (a.x16 + 1)) a.h0 (a.r3 ++ [178])))) else none) else (bif (decide ((a.r3.length + [129].length) * 8 ≤ most)) then (some (.inl (QW.mk a.x1 a.x14 a.x15 (w64 (a.x16 + 1)) a.h0 (a.r3 ++ [129])))) else none))) else none) else none)) else none) else (some (.inr (JI.mk a.x1 a.h0 a.r3))))
noncomputable def Q2 : Zy := loopW (WE W2)
theorem Q2.eq (a : QW) : Q2 a = (WE W2 a).bind (Sum.elim Q2 some) := JM _ _
noncomputable abbrev FQ {ρ R : Type} (a : QW) (k0 : JI → Tr ρ R) : Tr ρ R := .loop (loopAt pp 125 3) (WD a) (Q2 a) XD k0
noncomputable def FR (a : QW) : Tr (QW ⊕ JI) XS := (.as (decide (a.x16 < a.x15)) (.as (decide (0 ≤ a.x16)) (.row ((Qi a.x14)[(Int.toNat a.x16)]?) (a.x14[(Int.toNat a.x16)]?) Q8 fun (e1 : ByteArray) => (.as (decide (((h_20.size + e1.size : Nat) : Int) ≤ IntKind.i64.max)) (.as (decide ((((h_20 ++ e1).size + h_20.size : Nat) : Int) ≤ IntKind.i64.max)) (QeE UM ((h_20 ++ e1) ++ h_20) fun r2 => (.as r2 (.rows [[.fn (.func 178) [] []]] (J8 [178]) (.yes (decide ((J8 [178]).all (fun r => r.length == 1) = true)) (.ask (decide (((J8 a.r3).length + (J8 [178]).length) * 8 ≤ most)) (decide ((a.r3.length + [178].length) * 8 ≤ most)) (.rows ((J8 a.r3) ++ (J8 [178])) (J8 (a.r3 ++ [178])) (lf WD (QW.mk a.x1 a.x14 a.x15 (w64 (a.x16 + 1)) a.h0 (a.r3 ++ [178])))) .fail))) (.rows [[.fn (.func 129) [] []]] (J8 [129]) (.yes (decide ((J8 [129]).all (fun r => r.length == 1) = true)) (.ask (decide (((J8 a.r3).length + (J8 [129]).length) * 8 ≤ most)) (decide ((a.r3.length + [129].length) * 8 ≤ most)) (.rows ((J8 a.r3) ++ (J8 [129])) (J8 (a.r3 ++ [129])) (lf WD (QW.mk a.x1 a.x14 a.x15 (w64 (a.x16 + 1)) a.h0 (a.r3 ++ [129])))) .fail))))) .fail) .fail)) .fail) (rx XD (JI.mk a.x1 a.h0 a.r3)))
theorem Q2.ok {a : QW} {r : JI} (h : Q2 a = some r) : lw 2 125 (loopAt pp 125 3) (WD a) = some (XD r) := by
 refine lpP h FR fun a => ?_
 exact ⟨rfl, fun q0 => ⟨rfl, fun q1 => fun e1 h => ⟨Q5 h, ⟨rfl, fun q2 => ⟨rfl, fun q3 => fun r2 h => ⟨W2.ok h, ⟨rfl, fun q4 => ⟨(YP [178]), ⟨(decide_eq_true (QcN _)), ⟨(by rw [XZ, XZ]), fun q5 => ⟨(PX _ _), rfl⟩, fun q5 => trivial⟩⟩⟩, fun q4 => ⟨(YP [129]), ⟨(decide_eq_true (QcN _)), ⟨(by rw [XZ, XZ]), fun q5 => ⟨(PX _ _), rfl⟩, fun q5 => trivial⟩⟩⟩⟩⟩, fun q3 => trivial⟩, fun q2 => trivial⟩⟩, fun q1 => trivial⟩, fun q0 => rfl⟩
def X6 (C0 : QhQ) (C1 : QhR) (C2 : QeQ) (L3 : Zy) (a1 : (List ByteArray)) (h0 : Qh) : Option (Bool × Qh) := ((C0 h0.x.Op).bind fun r1 => ((C1 r1).bind fun r2 => ((L3 (QW.mk a1 r2 (((r2.length) : Nat) : Int) (0 : Int) h0 ([] : List Nat))).bind (fun (o3 : JI) => ((C2 o3.x1 o3.h0 o3.r3).bind fun r4 => (some (r4.1, r4.2)))))))
noncomputable def J6 : Gn := X6 WN XC U3 Q2
theorem J6.eq (a1 : (List ByteArray)) (h0 : Qh) : J6 a1 h0 = X6 WN XC U3 Q2 a1 h0 := rfl
noncomputable def Sx (a1 : (List ByteArray)) (h0 : Qh) : Tr (Bool × Qh) AH := (Qmo h0.x.Op fun r1 => (QgS r1 fun r2 => (.num ((Qi r2).length) (r2.length) (FQ (QW.mk a1 r2 (((r2.length) : Nat) : Int) i0 h0 ([] : List Nat)) (fun o3 => (YV o3.x1 o3.h0 o3.r3 fun r4 => (rt Qt (r4.1, r4.2))))))))
theorem J6.ok {a1 : (List ByteArray)} {h0 : Qh} {r : (Bool × Qh)} (h : J6 a1 h0 = some r) : ww 125 [.ptr 0 0, .sl (Qi a1)] [(0, .box [0, 0, 0, 0, 0, 5] [xi h0.x.Line, xs h0.x.Label, xi h0.x.Kind, xi h0.x.Op, xs h0.x.Text, .arr 1]), (1, .arr true 5 (Qj h0.x.Args))] = some (Qt r) := by
 refine fnP (Sx a1 h0) ?_ h
 exact fun r1 h => ⟨WN.ok h, fun r2 h => ⟨XC.ok h, ⟨(Qs _), fun o3 h => ⟨Q2.ok h, fun r4 h => ⟨U3.ok h, rfl⟩⟩⟩⟩⟩
noncomputable abbrev Sy {ρ R : Type} (a1 : (List ByteArray)) (h0 : Qh) (k : (Bool × Qh) → Tr ρ R) : Tr ρ R := .call (ww 125 [.ptr 0 0, .sl (Qi a1)] [(0, .box [0, 0, 0, 0, 0, 5] [xi h0.x.Line, xs h0.x.Label, xi h0.x.Kind, xi h0.x.Op, xs h0.x.Text, .arr 1]), (1, .arr true 5 (Qj h0.x.Args))]) (J6 a1 h0) Qt k
abbrev QbE := Option (List ByteArray)
def QeS : Option (List ByteArray) := (some [s_b, s_bl, s_bc])
noncomputable def Wn : QbE := QeS
theorem Wn.eq : Wn = QeS := rfl
noncomputable def Qlg : Tr (List ByteArray) AH := (.rows [[xs s_b], [xs s_bl], [xs s_bc]] (Qi [s_b, s_bl, s_bc]) (rt Jp [s_b, s_bl, s_bc]))
theorem Wn.ok {r : (List ByteArray)} (h : Wn = some r) : ww 111 [] [] = some (Jp r) := by
 refine fnP (Qlg) ?_ h
 exact ⟨(QU [s_b, s_bl, s_bc]), rfl⟩
noncomputable abbrev Qay {ρ R : Type} (k : (List ByteArray) → Tr ρ R) : Tr ρ R := .call (ww 111 [] []) (Wn) Jp k
abbrev Qdq := (List ByteArray) → ByteArray → Option Int
structure Uq where
 x0 : (List ByteArray)
 x1 : ByteArray
 x7 : Int
 x8 : Int
def GO (a : Uq) : St := { n := 19, nx := 0, env := [(0, .sl (Qi a.x0)), (1, xs a.x1), (7, xi a.x7), (8, xi a.x8)], heap := [] }
def PF (a : Int) : Ex × St := (.ret, { n := 19, nx := 0, env := [(4, xi a)], heap := [] })
def PG (a : Unit) : Ex × St := (.exit 0, { n := 19, nx := 0, env := [], heap := [] })
def GP (a : (Int ⊕ Unit)) : Ex × St := Sum.elim PF PG a
abbrev Qaz := Uq → Option (Int ⊕ Unit)
def Zd (a : Uq) : Option (Uq ⊕ (Int ⊕ Unit)) := (bif (decide (a.x8 < a.x7)) then (bif (decide (0 ≤ a.x8)) then ((a.x0[(Int.toNat a.x8)]?).bind fun e1 => (bif (eqS a.x1 e1) then (some (.inr (.inl a.x8))) else (some (.inl (Uq.mk a.x0 a.x1 a.x7 (w64 (a.x8 + 1))))))) else none) else (some (.inr (.inr ()))))
noncomputable def Q7 : Qaz := loopW (Zd )
theorem Q7.eq (a : Uq) : Q7 a = (Zd a).bind (Sum.elim Q7 some) := JM _ _
noncomputable abbrev QfV {ρ R : Type} (a : Uq) (k0 : Int → Tr ρ R) (k1 : Unit → Tr ρ R) : Tr ρ R := .loop2 (loopAt pp 126 2) (GO a) (Q7 a) PF PG k0 k1
noncomputable def QfW (a : Uq) : Tr (Uq ⊕ (Int ⊕ Unit)) XS := (.as (decide (a.x8 < a.x7)) (.as (decide (0 ≤ a.x8)) (.row ((Qi a.x0)[(Int.toNat a.x8)]?) (a.x0[(Int.toNat a.x8)]?) Q8 fun (e1 : ByteArray) => (.as (eqS a.x1 e1) (rx GP (.inl a.x8)) (lf GO (Uq.mk a.x0 a.x1 a.x7 (w64 (a.x8 + 1)))))) .fail) (rx GP (.inr ())))
theorem Q7.ok {a : Uq} {r : (Int ⊕ Unit)} (h : Q7 a = some r) : lw 0 126 (loopAt pp 126 2) (GO a) = some (GP r) := by
 refine lpP h QfW fun a => ?_
 exact ⟨rfl, fun q0 => ⟨rfl, fun q1 => fun e1 h => ⟨Q5 h, ⟨rfl, fun q2 => rfl, fun q2 => rfl⟩⟩, fun q1 => trivial⟩, fun q0 => rfl⟩
def GB (L0 : Qaz) (a0 : (List ByteArray)) (a1 : ByteArray) : Option Int := ((L0 (Uq.mk a0 a1 (((a0.length) : Nat) : Int) (0 : Int))).bind fun x => Sum.elim (fun (o1 : Int) => (some o1)) (fun (o2 : Unit) => (some (-1 : Int))) x)
noncomputable def UO : Qdq := GB Q7
theorem UO.eq (a0 : (List ByteArray)) (a1 : ByteArray) : UO a0 a1 = GB Q7 a0 a1 := rfl
noncomputable def QiG (a0 : (List ByteArray)) (a1 : ByteArray) : Tr Int AH := (.num ((Qi a0).length) (a0.length) (QfV (Uq.mk a0 a1 (((a0.length) : Nat) : Int) i0) (fun o1 => (rt Qp o1)) (fun o2 => (rt Qp (-1 : Int)))))
theorem UO.ok {a0 : (List ByteArray)} {a1 : ByteArray} {r : Int} (h : UO a0 a1 = some r) : ww 126 [.sl (Qi a0), xs a1] [] = some (Qp r) := by
 refine fnP (QiG a0 a1) ?_ h
 exact ⟨(Qs _), ⟨fun o1 h => ⟨Q7.ok (r := (.inl _)) h, rfl⟩, fun o2 h => ⟨Q7.ok (r := (.inr _)) h, rfl⟩⟩⟩
noncomputable abbrev Yl {ρ R : Type} (a0 : (List ByteArray)) (a1 : ByteArray) (k : Int → Tr ρ R) : Tr ρ R := .call (ww 126 [.sl (Qi a0), xs a1] []) (UO a0 a1) Qp k
def QbF (r : (Qh × (List Nat))) : AV × Heap := (.arr 3, [(0, .box [0, 0, 0, 0, 0, 5] [xi r.1.x.Line, xs r.1.x.Label, xi r.1.x.Kind, xi r.1.x.Op, xs r.1.x.Text, .arr 2]), (2, .arr true 5 (Qj r.1.x.Args)), (3, .fs (some 0) (J8 r.2))])
abbrev QhU := Int → Qh → Option (Qh × (List Nat))
structure U9 where
 x6 : Int
 x7 : Int
 h0 : Qh
 r3 : (List Nat)
structure Wo where
 h0 : Qh
 r3 : (List Nat)
def FS (a : U9) : St := { n := 15, nx := 4, env := [(0, .fn (.func 129) [.ptr 0 0] []), (5, .arr 3), (6, xi a.x6), (7, xi a.x7)], heap := [(0, .box [0, 0, 0, 0, 0, 5] [xi a.h0.x.Line, xs a.h0.x.Label, xi a.h0.x.Kind, xi a.h0.x.Op, xs a.h0.x.Text, .arr 2]), (2, .arr true 5 (Qj a.h0.x.Args)), (3, .fs (some 0) (J8 a.r3))] }
def FT (a : Wo) : Ex × St := (.exit 0, { n := 15, nx := 4, env := [(5, .arr 3)], heap := [(0, .box [0, 0, 0, 0, 0, 5] [xi a.h0.x.Line, xs a.h0.x.Label, xi a.h0.x.Kind, xi a.h0.x.Op, xs a.h0.x.Text, .arr 2]), (2, .arr true 5 (Qj a.h0.x.Args)), (3, .fs (some 0) (J8 a.r3))] })
abbrev Qdr := U9 → Option Wo
def GC (a : U9) : Option (U9 ⊕ Wo) := (bif (decide (a.x7 < a.x6)) then (bif (decide ((a.r3.length + [129].length) * 8 ≤ most)) then (some (.inl (U9.mk a.x6 (w64 (a.x7 + 1)) a.h0 (a.r3 ++ [129])))) else none) else (some (.inr (Wo.mk a.h0 a.r3))))
noncomputable def VP : Qdr := loopW (GC )
theorem VP.eq (a : U9) : VP a = (GC a).bind (Sum.elim VP some) := JM _ _
noncomputable abbrev QiH {ρ R : Type} (a : U9) (k0 : Wo → Tr ρ R) : Tr ρ R := .loop (loopAt pp 128 3) (FS a) (VP a) FT k0
noncomputable def QiI (a : U9) : Tr (U9 ⊕ Wo) XS := (.as (decide (a.x7 < a.x6)) (.rows [[.fn (.func 129) [] []]] (J8 [129]) (.yes (decide ((J8 [129]).all (fun r => r.length == 1) = true)) (.ask (decide (((J8 a.r3).length + (J8 [129]).length) * 8 ≤ most)) (decide ((a.r3.length + [129].length) * 8 ≤ most)) (.rows ((J8 a.r3) ++ (J8 [129])) (J8 (a.r3 ++ [129])) (lf FS (U9.mk a.x6 (w64 (a.x7 + 1)) a.h0 (a.r3 ++ [129])))) .fail))) (rx FT (Wo.mk a.h0 a.r3)))
theorem VP.ok {a : U9} {r : Wo} (h : VP a = some r) : lw 2 128 (loopAt pp 128 3) (FS a) = some (FT r) := by
 refine lpP h QiI fun a => ?_
 exact ⟨rfl, fun q0 => ⟨(YP [129]), ⟨(decide_eq_true (QcN _)), ⟨(by rw [XZ, XZ]), fun q1 => ⟨(PX _ _), rfl⟩, fun q1 => trivial⟩⟩⟩, fun q0 => rfl⟩
def QbG (L0 : Qdr) (a1 : Int) (h0 : Qh) : Option (Qh × (List Nat)) := ((L0 (U9.mk a1 (0 : Int) h0 ([] : List Nat))).bind (fun (o1 : Wo) => (some (o1.h0, o1.r3))))
noncomputable def VY : QhU := QbG VP
theorem VY.eq (a1 : Int) (h0 : Qh) : VY a1 h0 = QbG VP a1 h0 := rfl
noncomputable def Qms (a1 : Int) (h0 : Qh) : Tr (Qh × (List Nat)) AH := (QiH (U9.mk a1 i0 h0 ([] : List Nat)) (fun o1 => (rt QbF (o1.h0, o1.r3))))
theorem VY.ok {a1 : Int} {h0 : Qh} {r : (Qh × (List Nat))} (h : VY a1 h0 = some r) : ww 128 [.fn (.func 129) [.ptr 0 0] [], xi a1] [(0, .box [0, 0, 0, 0, 0, 5] [xi h0.x.Line, xs h0.x.Label, xi h0.x.Kind, xi h0.x.Op, xs h0.x.Text, .arr 1]), (1, .arr true 5 (Qj h0.x.Args))] = some (QbF r) := by
 refine fnP (Qms a1 h0) ?_ h
 exact fun o1 h => ⟨VP.ok h, rfl⟩
noncomputable abbrev ZS {ρ R : Type} (a1 : Int) (h0 : Qh) (k : (Qh × (List Nat)) → Tr ρ R) : Tr ρ R := .call (ww 128 [.fn (.func 129) [.ptr 0 0] [], xi a1] [(0, .box [0, 0, 0, 0, 0, 5] [xi h0.x.Line, xs h0.x.Label, xi h0.x.Kind, xi h0.x.Op, xs h0.x.Text, .arr 1]), (1, .arr true 5 (Qj h0.x.Args))]) (VY a1 h0) QbF k
abbrev Fe := Int → Option Bool
def Zs (a0 : Int) : Option Bool := (bif (decide (a0 ≥ 32)) then (bif (decide (a0 ≤ (126 : Int))) then (some (a0 != 34)) else (some false)) else (some false))
noncomputable def UU : Fe := Zs
theorem UU.eq (a0 : Int) : UU a0 = Zs a0 := rfl
noncomputable def Qco (a0 : Int) : Tr Bool AH := (let u68 := (decide (a0 ≥ 32)); .as u68 (yesN 2 u68 (let u67 := (decide (a0 ≤ (zi 126))); .as u67 (yesN 2 u67 (rt Qk (a0 != 34))) (noN 2 u67 (rt Qk false)))) (noN 2 u68 (noN 3 false (rt Qk false))))
theorem UU.ok {a0 : Int} {r : Bool} (h : UU a0 = some r) : ww 180 [xb a0] [] = some (Qk r) := by
 refine fnP (Qco a0) ?_ h
 exact ⟨rfl, fun q0 => Ql 2 (q0) (⟨rfl, fun q1 => Ql 2 (q1) (rfl), fun q1 => noN_ok 2 (q1) (rfl)⟩), fun q0 => noN_ok 2 (q0) (noN_ok 3 (rfl) (rfl))⟩
noncomputable abbrev Qcp {ρ R : Type} (a0 : Int) (k : Bool → Tr ρ R) : Tr ρ R := .call (ww 180 [xb a0] []) (UU a0) Qk k
abbrev Qds := ByteArray → Option Int
structure Ur where
 x0 : ByteArray
 x5 : Int
def GQ (a : Ur) : St := { n := 20, nx := 0, env := [(0, xs a.x0), (1, .fn (.func 180) [] []), (5, xi a.x5)], heap := [] }
def Ze (a : Int) : Ex × St := (.exit 0, { n := 20, nx := 0, env := [(5, xi a)], heap := [] })
abbrev QaA := Ur → Option Int
def GR (C0 : Fe) (a : Ur) : Option (Ur ⊕ Int) := (bif (decide (a.x5 < ((a.x0.size : Nat) : Int))) then (bif (decide (0 ≤ a.x5 ∧ a.x5 < ((a.x0.size : Nat) : Int))) then ((C0 ((a.x0.data.getD (Int.toNat a.x5) 0).toNat : Int)).bind fun r1 => (bif r1 then (some (.inl (Ur.mk a.x0 (w64 (a.x5 + 1))))) else (some (.inr a.x5)))) else none) else (some (.inr a.x5)))
noncomputable def VV : QaA := loopW (GR UU)
theorem VV.eq (a : Ur) : VV a = (GR UU a).bind (Sum.elim VV some) := JM _ _
noncomputable abbrev QfX {ρ R : Type} (a : Ur) (k0 : Int → Tr ρ R) : Tr ρ R := .loop (loopAt pp 72 2) (GQ a) (VV a) Ze k0
noncomputable def QfY (a : Ur) : Tr (Ur ⊕ Int) XS := (let u69 := (decide (a.x5 < (zz a.x0))); .as u69 (yesN 3 u69 (.as (in1 a.x5 (zz a.x0)) (.yes u69 (Qcp (gb a.x0 a.x5) fun r1 => (.yes u69 (.as r1 (lf GQ (Ur.mk a.x0 (w64 (a.x5 + 1)))) (rx Ze a.x5))))) .fail)) (noN 5 u69 (.no false (rx Ze a.x5))))
theorem VV.ok {a : Ur} {r : Int} (h : VV a = some r) : lw 0 72 (loopAt pp 72 2) (GQ a) = some (Ze r) := by
 refine lpP h QfY fun a => ?_
 exact ⟨rfl, fun q0 => Ql 3 (q0) (⟨rfl, fun q1 => ⟨q0, fun r1 h => ⟨UU.ok h, ⟨q0, ⟨rfl, fun q2 => rfl, fun q2 => rfl⟩⟩⟩⟩, fun q1 => trivial⟩), fun q0 => noN_ok 5 (q0) (⟨rfl, rfl⟩)⟩
def FU (L0 : QaA) (a0 : ByteArray) : Option Int := ((L0 (Ur.mk a0 (0 : Int))).bind (fun (o1 : Int) => (some o1)))
noncomputable def WW : Qds := FU VV
theorem WW.eq (a0 : ByteArray) : WW a0 = FU VV a0 := rfl
noncomputable def QiJ (a0 : ByteArray) : Tr Int AH := (QfX (Ur.mk a0 i0) (fun o1 => (rt Qp o1)))
theorem WW.ok {a0 : ByteArray} {r : Int} (h : WW a0 = some r) : ww 72 [xs a0, .fn (.func 180) [] []] [] = some (Qp r) := by
 refine fnP (QiJ a0) ?_ h
 exact fun o1 h => ⟨VV.ok h, rfl⟩
noncomputable abbrev QiK {ρ R : Type} (a0 : ByteArray) (k : Int → Tr ρ R) : Tr ρ R := .call (ww 72 [xs a0, .fn (.func 180) [] []] []) (WW a0) Qp k
abbrev PH := ByteArray → Qh → Option (Bool × Qh)
def Z0 (C0 : Qds) (a1 : ByteArray) (h0 : Qh) : Option (Bool × Qh) := (bif (decide (((a1.size : Nat) : Int) < 2)) then (some (false, h0)) else (bif (decide (((a1.size : Nat) : Int) > 62)) then (some (false, h0)) else (bif (decide (0 ≤ (0 : Int) ∧ (0 : Int) < ((a1.size : Nat) : Int))) then (bif (((a1.data.getD (Int.toNat 0) 0).toNat : Int) != 34) then (some (false, h0)) else (bif (decide (0 ≤ (w64 (((a1.size : Nat) : Int) - 1)) ∧ (w64 (((a1.size : Nat) : Int) - 1)) < ((a1.size : Nat) : Int))) then (bif (((a1.data.getD (Int.toNat (w64 (((a1.size : Nat) : Int) - 1))) 0).toNat : Int) != 34) then (some (false, h0)) else (bif (decide (0 ≤ (1 : Int) ∧ (1 : Int) ≤ (w64 (((a1.size : Nat) : Int) - 1)) ∧ (w64 (((a1.size : Nat) : Int) - 1)) ≤ ((a1.size : Nat) : Int))) then ((C0 (a1.extract (Int.toNat 1) (Int.toNat (w64 (((a1.size : Nat) : Int) - 1))))).bind fun r1 => (some ((r1 == (((a1.extract (Int.toNat 1) (Int.toNat (w64 (((a1.size : Nat) : Int) - 1)))).size : Nat) : Int)), (Qh.mk (Qg.mk h0.x.Line h0.x.Label h0.x.Kind h0.x.Op (a1.extract (Int.toNat 1) (Int.toNat (w64 (((a1.size : Nat) : Int) - 1)))) h0.x.Args))))) else none)) else none)) else none)))
noncomputable def Vn : PH := Z0 WW
theorem Vn.eq (a1 : ByteArray) (h0 : Qh) : Vn a1 h0 = Z0 WW a1 h0 := rfl
noncomputable def QdV (a1 : ByteArray) (h0 : Qh) : Tr (Bool × Qh) AH := (let u72 := (decide ((zz a1) < 2)); .as u72 (yesN 3 u72 (yesN 12 true (rt Qt (false, h0)))) (noN 3 u72 (let u71 := (decide ((zz a1) > 62)); .as u71 (yesN 3 u71 (yesN 8 true (rt Qt (false, h0)))) (.no u71 (.as (in1 i0 (zz a1)) (noN 2 u71 (let u70 := ((gb a1 i0) != 34); .as u70 (yesN 6 u70 (.yes true (rt Qt (false, h0)))) (noN 4 u70 (.as (in1 (w64 ((zz a1) - 1)) (zz a1)) (noN 2 u70 (.as ((gb a1 (w64 ((zz a1) - 1))) != 34) (rt Qt (false, h0)) (.as (in2 (zi 1) (w64 ((zz a1) - 1)) (zz a1)) (QiK (cu a1 (zi 1) (w64 ((zz a1) - 1))) fun r1 => (rt Qt ((r1 == (zz (cu a1 (zi 1) (w64 ((zz a1) - 1))))), (Qh.mk (Qg.mk h0.x.Line h0.x.Label h0.x.Kind h0.x.Op (cu a1 (zi 1) (w64 ((zz a1) - 1))) h0.x.Args))))) .fail))) .fail)))) .fail)))))
theorem Vn.ok {a1 : ByteArray} {h0 : Qh} {r : (Bool × Qh)} (h : Vn a1 h0 = some r) : ww 130 [.ptr 0 0, xs a1] [(0, .box [0, 0, 0, 0, 0, 5] [xi h0.x.Line, xs h0.x.Label, xi h0.x.Kind, xi h0.x.Op, xs h0.x.Text, .arr 1]), (1, .arr true 5 (Qj h0.x.Args))] = some (Qt r) := by
 refine fnP (QdV a1 h0) ?_ h
 exact ⟨rfl, fun q0 => Ql 3 (q0) (Ql 12 (rfl) (rfl)), fun q0 => noN_ok 3 (q0) (⟨rfl, fun q1 => Ql 3 (q1) (Ql 8 (rfl) (rfl)), fun q1 => ⟨q1, ⟨rfl, fun q2 => noN_ok 2 (q1) (⟨rfl, fun q3 => Ql 6 (q3) (⟨rfl, rfl⟩), fun q3 => noN_ok 4 (q3) (⟨rfl, fun q4 => noN_ok 2 (q3) (⟨rfl, fun q5 => rfl, fun q5 => ⟨rfl, fun q6 => fun r1 h => ⟨WW.ok h, rfl⟩, fun q6 => trivial⟩⟩), fun q4 => trivial⟩)⟩), fun q2 => trivial⟩⟩⟩)⟩
noncomputable abbrev QdW {ρ R : Type} (a1 : ByteArray) (h0 : Qh) (k : (Bool × Qh) → Tr ρ R) : Tr ρ R := .call (ww 130 [.ptr 0 0, xs a1] [(0, .box [0, 0, 0, 0, 0, 5] [xi h0.x.Line, xs h0.x.Label, xi h0.x.Kind, xi h0.x.Op, xs h0.x.Text, .arr 1]), (1, .arr true 5 (Qj h0.x.Args))]) (Vn a1 h0) Qt k
abbrev G5 := ByteArray → ByteArray → Qh → Option (Bool × Qh)
def YG (C0 : Qcc) (C1 : Qjm) (C2 : Gn) (C3 : QbE) (C4 : Qdq) (C5 : QhU) (C6 : QeQ) (C7 : PH) (a1 : ByteArray) (a2 : ByteArray) (h0 : Qh) : Option (Bool × Qh) := ((C0 a2).bind fun r1 => ((C1 a1).bind fun r2 => (bif r2.2 then ((C2 r1 (Qh.mk (Qg.mk h0.x.Line h0.x.Label (1 : Int) r2.1 h0.x.Text h0.x.Args))).bind fun r3 => (some (r3.1, r3.2))) else ((C3).bind fun r4 => ((C4 r4 a1).bind fun r5 => (bif (decide (r5 ≥ 0)) then ((C5 (w64 ((1 : Int) + (w64 ((w64 (Int.tdiv r5 (2 : Int))) * (2 : Int))))) (Qh.mk (Qg.mk h0.x.Line h0.x.Label (2 : Int) r5 h0.x.Text h0.x.Args))).bind fun r6 => ((C6 r1 r6.1 r6.2).bind fun r7 => (some (r7.1, r7.2)))) else (bif (eqS a1 QO) then ((C4 [QO, QP, QQ] a1).bind fun r8 => (bif (decide ((((r1.length) : Nat) : Int) ≥ 1)) then (bif (decide ((((r1.length) : Nat) : Int) ≤ 16)) then ((C5 (((r1.length) : Nat) : Int) (Qh.mk (Qg.mk h0.x.Line h0.x.Label (w64 ((3 : Int) + r8)) h0.x.Op h0.x.Text h0.x.Args))).bind fun r9 => ((C6 r1 r9.1 r9.2).bind fun r10 => (some (r10.1, r10.2)))) else (some (false, (Qh.mk (Qg.mk h0.x.Line h0.x.Label (w64 ((3 : Int) + r8)) h0.x.Op h0.x.Text h0.x.Args))))) else (some (false, (Qh.mk (Qg.mk h0.x.Line h0.x.Label (w64 ((3 : Int) + r8)) h0.x.Op h0.x.Text h0.x.Args)))))) else (bif (eqS a1 QP) then ((C4 [QO, QP, QQ] a1).bind fun r11 => (bif (decide ((((r1.length) : Nat) : Int) ≥ 1)) then (bif (decide ((((r1.length) : Nat) : Int) ≤ 16)) then ((C5 (((r1.length) : Nat) : Int) (Qh.mk (Qg.mk h0.x.Line h0.x.Label (w64 ((3 : Int) + r11)) h0.x.Op h0.x.Text h0.x.Args))).bind fun r12 => ((C6 r1 r12.1 r12.2).bind fun r13 => (some (r13.1, r13.2)))) else (some (false, (Qh.mk (Qg.mk h0.x.Line h0.x.Label (w64 ((3 : Int) + r11)) h0.x.Op h0.x.Text h0.x.Args))))) else (some (false, (Qh.mk (Qg.mk h0.x.Line h0.x.Label (w64 ((3 : Int) + r11)) h0.x.Op h0.x.Text h0.x.Args)))))) else (bif (eqS a1 QQ) then ((C4 [QO, QP, QQ] a1).bind fun r14 => (bif (decide ((((r1.length) : Nat) : Int) ≥ 1)) then (bif (decide ((((r1.length) : Nat) : Int) ≤ 16)) then ((C5 (((r1.length) : Nat) : Int) (Qh.mk (Qg.mk h0.x.Line h0.x.Label (w64 ((3 : Int) + r14)) h0.x.Op h0.x.Text h0.x.Args))).bind fun r15 => ((C6 r1 r15.1 r15.2).bind fun r16 => (some (r16.1, r16.2)))) else (some (false, (Qh.mk (Qg.mk h0.x.Line h0.x.Label (w64 ((3 : Int) + r14)) h0.x.Op h0.x.Text h0.x.Args))))) else (some (false, (Qh.mk (Qg.mk h0.x.Line h0.x.Label (w64 ((3 : Int) + r14)) h0.x.Op h0.x.Text h0.x.Args)))))) else (bif (eqS a1 Jf) then ((C7 a2 (Qh.mk (Qg.mk h0.x.Line h0.x.Label (6 : Int) h0.x.Op h0.x.Text h0.x.Args))).bind fun r17 => (some (r17.1, r17.2))) else (bif (eqS a1 QJ) then ((C4 [QJ, QK] a1).bind fun r18 => ((C5 (1 : Int) (Qh.mk (Qg.mk h0.x.Line h0.x.Label (w64 ((7 : Int) + r18)) h0.x.Op h0.x.Text h0.x.Args))).bind fun r19 => ((C6 r1 r19.1 r19.2).bind fun r20 => (some (r20.1, r20.2))))) else (bif (eqS a1 QK) then ((C4 [QJ, QK] a1).bind fun r21 => ((C5 (1 : Int) (Qh.mk (Qg.mk h0.x.Line h0.x.Label (w64 ((7 : Int) + r21)) h0.x.Op h0.x.Text h0.x.Args))).bind fun r22 => ((C6 r1 r22.1 r22.2).bind fun r23 => (some (r23.1, r23.2))))) else (bif (eqS a1 J2) then ((C6 r1 (Qh.mk (Qg.mk h0.x.Line h0.x.Label (9 : Int) h0.x.Op h0.x.Text h0.x.Args)) [131, 129]).bind fun r24 => (some (r24.1, r24.2))) else (some (false, h0)))))))))))))))
noncomputable def JG : G5 := YG Wz XB J6 Wn UO VY U3 Vn
theorem JG.eq (a1 : ByteArray) (a2 : ByteArray) (h0 : Qh) : JG a1 a2 h0 = YG Wz XB J6 Wn UO VY U3 Vn a1 a2 h0 := rfl
noncomputable def QaU (a1 : ByteArray) (a2 : ByteArray) (h0 : Qh) : Tr (Bool × Qh) AH := (QhP a2 fun r1 => (QnP a1 fun r2 => (.as r2.2 (Sy r1 (Qh.mk (Qg.mk h0.x.Line h0.x.Label (zi 1) r2.1 h0.x.Text h0.x.Args)) fun r3 => (rt Qt (r3.1, r3.2))) (Qay fun r4 => (Yl r4 a1 fun r5 => (.as (decide (r5 ≥ 0)) (.yes (decide ((zi 2) ≠ 0)) (ZS (w64 ((zi 1) + (w64 ((w64 (Int.tdiv r5 (zi 2))) * (zi 2))))) (Qh.mk (Qg.mk h0.x.Line h0.x.Label (zi 2) r5 h0.x.Text h0.x.Args)) fun r6 => (YV r1 r6.1 r6.2 fun r7 => (rt Qt (r7.1, r7.2))))) (let u81 := (eqS a1 QO); .as u81 (.yes u81 (.rows [[xs QO], [xs QP], [xs QQ]] (Qi [QO, QP, QQ]) (Yl [QO, QP, QQ] a1 fun r8 => (.num ((Qi r1).length) (r1.length) (let u74 := (decide ((((r1.length) : Nat) : Int) ≥ 1)); .as u74 (.yes u74 (.num ((Qi r1).length) (r1.length) (yesN 2 u74 (let u73 := (decide ((((r1.length) : Nat) : Int) ≤ 16)); .as u73 (yesN 4 u73 (.num ((Qi r1).length) (r1.length) (.yes u73 (ZS (((r1.length) : Nat) : Int) (Qh.mk (Qg.mk h0.x.Line h0.x.Label (w64 ((zi 3) + r8)) h0.x.Op h0.x.Text h0.x.Args)) fun r9 => (.yes u73 (YV r1 r9.1 r9.2 fun r10 => (.yes u73 (rt Qt (r10.1, r10.2))))))))) (noN 7 u73 (rt Qt (false, (Qh.mk (Qg.mk h0.x.Line h0.x.Label (w64 ((zi 3) + r8)) h0.x.Op h0.x.Text h0.x.Args))))))))) (noN 3 u74 (noN 8 false (rt Qt (false, (Qh.mk (Qg.mk h0.x.Line h0.x.Label (w64 ((zi 3) + r8)) h0.x.Op h0.x.Text h0.x.Args))))))))))) (let u80 := (eqS a1 QP); .as u80 (.yes u80 (.rows [[xs QO], [xs QP], [xs QQ]] (Qi [QO, QP, QQ]) (Yl [QO, QP, QQ] a1 fun r11 => (.num ((Qi r1).length) (r1.length) (let u76 := (decide ((((r1.length) : Nat) : Int) ≥ 1)); .as u76 (.yes u76 (.num ((Qi r1).length) (r1.length) (yesN 2 u76 (let u75 := (decide ((((r1.length) : Nat) : Int) ≤ 16)); .as u75 (yesN 4 u75 (.num ((Qi r1).length) (r1.length) (.yes u75 (ZS (((r1.length) : Nat) : Int) (Qh.mk (Qg.mk h0.x.Line h0.x.Label (w64 ((zi 3) + r11)) h0.x.Op h0.x.Text h0.x.Args)) fun r12 => (.yes u75 (YV r1 r12.1 r12.2 fun r13 => (.yes u75 (rt Qt (r13.1, r13.2))))))))) (noN 7 u75 (rt Qt (false, (Qh.mk (Qg.mk h0.x.Line h0.x.Label (w64 ((zi 3) + r11)) h0.x.Op h0.x.Text h0.x.Args))))))))) (noN 3 u76 (noN 8 false (rt Qt (false, (Qh.mk (Qg.mk h0.x.Line h0.x.Label (w64 ((zi 3) + r11)) h0.x.Op h0.x.Text h0.x.Args))))))))))) (.as (eqS a1 QQ) (.rows [[xs QO], [xs QP], [xs QQ]] (Qi [QO, QP, QQ]) (Yl [QO, QP, QQ] a1 fun r14 => (.num ((Qi r1).length) (r1.length) (let u78 := (decide ((((r1.length) : Nat) : Int) ≥ 1)); .as u78 (.yes u78 (.num ((Qi r1).length) (r1.length) (yesN 2 u78 (let u77 := (decide ((((r1.length) : Nat) : Int) ≤ 16)); .as u77 (yesN 4 u77 (.num ((Qi r1).length) (r1.length) (.yes u77 (ZS (((r1.length) : Nat) : Int) (Qh.mk (Qg.mk h0.x.Line h0.x.Label (w64 ((zi 3) + r14)) h0.x.Op h0.x.Text h0.x.Args)) fun r15 => (.yes u77 (YV r1 r15.1 r15.2 fun r16 => (.yes u77 (rt Qt (r16.1, r16.2))))))))) (noN 7 u77 (rt Qt (false, (Qh.mk (Qg.mk h0.x.Line h0.x.Label (w64 ((zi 3) + r14)) h0.x.Op h0.x.Text h0.x.Args))))))))) (noN 3 u78 (noN 8 false (rt Qt (false, (Qh.mk (Qg.mk h0.x.Line h0.x.Label (w64 ((zi 3) + r14)) h0.x.Op h0.x.Text h0.x.Args)))))))))) (.as (eqS a1 Jf) (QdW a2 (Qh.mk (Qg.mk h0.x.Line h0.x.Label (zi 6) h0.x.Op h0.x.Text h0.x.Args)) fun r17 => (rt Qt (r17.1, r17.2))) (let u79 := (eqS a1 QJ); .as u79 (.yes u79 (.rows [[xs QJ], [xs QK]] (Qi [QJ, QK]) (Yl [QJ, QK] a1 fun r18 => (ZS (zi 1) (Qh.mk (Qg.mk h0.x.Line h0.x.Label (w64 ((zi 7) + r18)) h0.x.Op h0.x.Text h0.x.Args)) fun r19 => (YV r1 r19.1 r19.2 fun r20 => (rt Qt (r20.1, r20.2))))))) (.as (eqS a1 QK) (.rows [[xs QJ], [xs QK]] (Qi [QJ, QK]) (Yl [QJ, QK] a1 fun r21 => (ZS (zi 1) (Qh.mk (Qg.mk h0.x.Line h0.x.Label (w64 ((zi 7) + r21)) h0.x.Op h0.x.Text h0.x.Args)) fun r22 => (YV r1 r22.1 r22.2 fun r23 => (rt Qt (r23.1, r23.2)))))) (.as (eqS a1 J2) (.rows [[.fn (.func 131) [] []], [.fn (.func 129) [] []]] (J8 [131, 129]) (YV r1 (Qh.mk (Qg.mk h0.x.Line h0.x.Label (zi 9) h0.x.Op h0.x.Text h0.x.Args)) [131, 129] fun r24 => (rt Qt (r24.1, r24.2)))) (rt Qt (false, h0)))))))))))))))
theorem JG.ok {a1 : ByteArray} {a2 : ByteArray} {h0 : Qh} {r : (Bool × Qh)} (h : JG a1 a2 h0 = some r) : ww 76 [.ptr 0 0, xs a1, xs a2] [(0, .box [0, 0, 0, 0, 0, 5] [xi h0.x.Line, xs h0.x.Label, xi h0.x.Kind, xi h0.x.Op, xs h0.x.Text, .arr 1]), (1, .arr true 5 (Qj h0.x.Args))] = some (Qt r) := by
 refine fnP (QaU a1 a2 h0) ?_ h
 exact fun r1 h => ⟨Wz.ok h, fun r2 h => ⟨XB.ok h, ⟨rfl, fun q0 => fun r3 h => ⟨J6.ok h, rfl⟩, fun q0 => fun r4 h => ⟨Wn.ok h, fun r5 h => ⟨UO.ok h, ⟨rfl, fun q1 => ⟨rfl, fun r6 h => ⟨VY.ok h, fun r7 h => ⟨U3.ok h, rfl⟩⟩⟩, fun q1 => ⟨rfl, fun q2 => ⟨q2, ⟨(QU [QO, QP, QQ]), fun r8 h => ⟨UO.ok h, ⟨(Qs _), ⟨rfl, fun q3 => ⟨q3, ⟨(Qs _), Ql 2 (q3) (⟨rfl, fun q4 => Ql 4 (q4) (⟨(Qs _), ⟨q4, fun r9 h => ⟨VY.ok h, ⟨q4, fun r10 h => ⟨U3.ok h, ⟨q4, rfl⟩⟩⟩⟩⟩⟩), fun q4 => noN_ok 7 (q4) (rfl)⟩)⟩⟩, fun q3 => noN_ok 3 (q3) (noN_ok 8 (rfl) (rfl))⟩⟩⟩⟩⟩, fun q2 => ⟨rfl, fun q3 => ⟨q3, ⟨(QU [QO, QP, QQ]), fun r11 h => ⟨UO.ok h, ⟨(Qs _), ⟨rfl, fun q4 => ⟨q4, ⟨(Qs _), Ql 2 (q4) (⟨rfl, fun q5 => Ql 4 (q5) (⟨(Qs _), ⟨q5, fun r12 h => ⟨VY.ok h, ⟨q5, fun r13 h => ⟨U3.ok h, ⟨q5, rfl⟩⟩⟩⟩⟩⟩), fun q5 => noN_ok 7 (q5) (rfl)⟩)⟩⟩, fun q4 => noN_ok 3 (q4) (noN_ok 8 (rfl) (rfl))⟩⟩⟩⟩⟩, fun q3 => ⟨rfl, fun q4 => ⟨(QU [QO, QP, QQ]), fun r14 h => ⟨UO.ok h, ⟨(Qs _), ⟨rfl, fun q5 => ⟨q5, ⟨(Qs _), Ql 2 (q5) (⟨rfl, fun q6 => Ql 4 (q6) (⟨(Qs _), ⟨q6, fun r15 h => ⟨VY.ok h, ⟨q6, fun r16 h => ⟨U3.ok h, ⟨q6, rfl⟩⟩⟩⟩⟩⟩), fun q6 => noN_ok 7 (q6) (rfl)⟩)⟩⟩, fun q5 => noN_ok 3 (q5) (noN_ok 8 (rfl) (rfl))⟩⟩⟩⟩, fun q4 => ⟨rfl, fun q5 => fun r17 h => ⟨Vn.ok h, rfl⟩, fun q5 => ⟨rfl, fun q6 => ⟨q6, ⟨(QU [QJ, QK]), fun r18 h => ⟨UO.ok h, fun r19 h => ⟨VY.ok h, fun r20 h => ⟨U3.ok h, rfl⟩⟩⟩⟩⟩, fun q6 => ⟨rfl, fun q7 => ⟨(QU [QJ, QK]), fun r21 h => ⟨UO.ok h, fun r22 h => ⟨VY.ok h, fun r23 h => ⟨U3.ok h, rfl⟩⟩⟩⟩, fun q7 => ⟨rfl, fun q8 => ⟨(YP [131, 129]), fun r24 h => ⟨U3.ok h, rfl⟩⟩, fun q8 => rfl⟩⟩⟩⟩⟩⟩⟩⟩⟩⟩⟩⟩⟩
noncomputable abbrev YH {ρ R : Type} (a1 : ByteArray) (a2 : ByteArray) (h0 : Qh) (k : (Bool × Qh) → Tr ρ R) : Tr ρ R := .call (ww 76 [.ptr 0 0, xs a1, xs a2] [(0, .box [0, 0, 0, 0, 0, 5] [xi h0.x.Line, xs h0.x.Label, xi h0.x.Kind, xi h0.x.Op, xs h0.x.Text, .arr 1]), (1, .arr true 5 (Qj h0.x.Args))]) (JG a1 a2 h0) Qt k
def Qcq (r : (List Qd)) : AV × Heap := (.sl (Qj r), [])
abbrev Qj8 := (List Qd) → Option (List Qd)
noncomputable def WX (a0 : (List Qd)) : Option (List Qd) := cloneT 64 a0
noncomputable abbrev FV {ρ R : Type} (a0 : (List Qd)) (k : (List Qd) → Tr ρ R) : Tr ρ R := .call (ww 77 [.sl (Qj a0)] []) (WX a0) Qcq k
theorem WX.ok {a0 : (List Qd)} {r : (List Qd)} (h : WX a0 = some r) : ww 77 [.sl (Qj a0)] [] = some (Qcq r) := (ZQ rfl _ _).trans (QoM Wg (fun _ => rfl) (fun _ => rfl) (JS _) (JS _) h)
def Wp (r : (Qg × Bool)) : AV × Heap := (.tup [.agg (U0 r.1), xo r.2], [])
abbrev Qjp := ByteArray → Option (Qg × Bool)
def Qc1 (C0 : Qex) (C1 : QhM) (C2 : Qbo) (C3 : QcQ) (C4 : PZ) (C5 : Qdk) (C6 : G5) (C7 : Qj8) (a0 : ByteArray) : Option (Qg × Bool) := ((C0 a0 (10 : Int)).bind fun r1 => (bif (decide (r1 ≥ 0)) then (some ((Qg.mk (0 : Int) s_ (0 : Int) (0 : Int) s_ ([] : List Qd)), false)) else ((C1 a0).bind fun r2 => ((C2 r2).bind fun r3 => (bif (decide (r3 < ((r2.size : Nat) : Int))) then (bif (decide (0 ≤ r3 ∧ r3 < ((r2.size : Nat) : Int))) then (bif (((r2.data.getD (Int.toNat r3) 0).toNat : Int) == 58) then (bif (decide (0 ≤ (0 : Int) ∧ (0 : Int) ≤ r3 ∧ r3 ≤ ((r2.size : Nat) : Int))) then ((C3 (r2.extract (Int.toNat 0) (Int.toNat r3))).bind fun r4 => (bif (!r4) then (some ((Qg.mk (0 : Int) s_ (0 : Int) (0 : Int) s_ ([] : List Qd)), false)) else (bif (decide (0 ≤ (w64 (r3 + 1)) ∧ (w64 (r3 + 1)) ≤ ((r2.size : Nat) : Int) ∧ ((r2.size : Nat) : Int) ≤ ((r2.size : Nat) : Int))) then ((C4 (r2.extract (Int.toNat (w64 (r3 + 1))) (Int.toNat ((r2.size : Nat) : Int))) XN).bind fun r5 => (bif (eqS r5 s_) then (bif (eqS (r2.extract (Int.toNat 0) (Int.toNat r3)) s_) then (some ((Qg.mk (0 : Int) s_ (0 : Int) (0 : Int) s_ ([] : List Qd)), true)) else (some ((Qg.mk (1 : Int) (r2.extract (Int.toNat 0) (Int.toNat r3)) (0 : Int) (0 : Int) s_ ([] : List Qd)), true))) else ((C5 r5).bind fun r6 => (bif (decide (0 ≤ (0 : Int) ∧ (0 : Int) ≤ r6 ∧ r6 ≤ ((r5.size : Nat) : Int))) then (bif (decide (0 ≤ r6 ∧ r6 ≤ ((r5.size : Nat) : Int) ∧ ((r5.size : Nat) : Int) ≤ ((r5.size : Nat) : Int))) then ((C4 (r5.extract (Int.toNat r6) (Int.toNat ((r5.size : Nat) : Int))) XN).bind fun r7 => ((C6 (r5.extract (Int.toNat 0) (Int.toNat r6)) r7 (Qh.mk (Qg.mk (1 : Int) (r2.extract (Int.toNat 0) (Int.toNat r3)) (0 : Int) (0 : Int) s_ ([] : List Qd)))).bind fun r8 => (bif (!r8.1) then (some ((Qg.mk (0 : Int) s_ (0 : Int) (0 : Int) s_ ([] : List Qd)), false)) else ((C7 r8.2.x.Args).bind fun r9 => (some ((Qg.mk r8.2.x.Line r8.2.x.Label r8.2.x.Kind r8.2.x.Op r8.2.x.Text r9), true)))))) else none) else none)))) else none))) else none) else (bif (eqS r2 s_) then (some ((Qg.mk (0 : Int) s_ (0 : Int) (0 : Int) s_ ([] : List Qd)), true)) else ((C5 r2).bind fun r10 => (bif (decide (0 ≤ (0 : Int) ∧ (0 : Int) ≤ r10 ∧ r10 ≤ ((r2.size : Nat) : Int))) then (bif (decide (0 ≤ r10 ∧ r10 ≤ ((r2.size : Nat) : Int) ∧ ((r2.size : Nat) : Int) ≤ ((r2.size : Nat) : Int))) then ((C4 (r2.extract (Int.toNat r10) (Int.toNat ((r2.size : Nat) : Int))) XN).bind fun r11 => ((C6 (r2.extract (Int.toNat 0) (Int.toNat r10)) r11 (Qh.mk (Qg.mk (1 : Int) s_ (0 : Int) (0 : Int) s_ ([] : List Qd)))).bind fun r12 => (bif (!r12.1) then (some ((Qg.mk (0 : Int) s_ (0 : Int) (0 : Int) s_ ([] : List Qd)), false)) else ((C7 r12.2.x.Args).bind fun r13 => (some ((Qg.mk r12.2.x.Line r12.2.x.Label r12.2.x.Kind r12.2.x.Op r12.2.x.Text r13), true)))))) else none) else none)))) else none) else (bif (eqS r2 s_) then (some ((Qg.mk (0 : Int) s_ (0 : Int) (0 : Int) s_ ([] : List Qd)), true)) else ((C5 r2).bind fun r14 => (bif (decide (0 ≤ (0 : Int) ∧ (0 : Int) ≤ r14 ∧ r14 ≤ ((r2.size : Nat) : Int))) then (bif (decide (0 ≤ r14 ∧ r14 ≤ ((r2.size : Nat) : Int) ∧ ((r2.size : Nat) : Int) ≤ ((r2.size : Nat) : Int))) then ((C4 (r2.extract (Int.toNat r14) (Int.toNat ((r2.size : Nat) : Int))) XN).bind fun r15 => ((C6 (r2.extract (Int.toNat 0) (Int.toNat r14)) r15 (Qh.mk (Qg.mk (1 : Int) s_ (0 : Int) (0 : Int) s_ ([] : List Qd)))).bind fun r16 => (bif (!r16.1) then (some ((Qg.mk (0 : Int) s_ (0 : Int) (0 : Int) s_ ([] : List Qd)), false)) else ((C7 r16.2.x.Args).bind fun r17 => (some ((Qg.mk r16.2.x.Line r16.2.x.Label r16.2.x.Kind r16.2.x.Op r16.2.x.Text r17), true)))))) else none) else none))))))))
noncomputable def Y5 : Qjp := Qc1 WH Yc WC W5 Uy Vy JG WX
theorem Y5.eq (a0 : ByteArray) : Y5 a0 = Qc1 WH Yc WC W5 Uy Vy JG WX a0 := rfl
noncomputable def QnT (a0 : ByteArray) : Tr (Qg × Bool) AH := (QdK a0 (zi 10) fun r1 => (.as (decide (r1 ≥ 0)) (rt Wp ((Qg.mk i0 s_ i0 i0 s_ ([] : List Qd)), false)) (Qmk a0 fun r2 => (Qeu r2 fun r3 => (let u83 := (decide (r3 < (zz r2))); .as u83 (yesN 2 u83 (.as (in1 r3 (zz r2)) (yesN 2 u83 (.as ((gb r2 r3) == 58) (let u82 := (in2 i0 r3 (zz r2)); .as u82 (Qgg (cu r2 i0 r3) fun r4 => (.as (!r4) (rt Wp ((Qg.mk i0 s_ i0 i0 s_ ([] : List Qd)), false)) (.yes u82 (.as (in2 (w64 (r3 + 1)) (zz r2) (zz r2)) (XA (cu r2 (w64 (r3 + 1)) (zz r2)) XN fun r5 => (.as (eqS r5 s_) (.as (eqS (cu r2 i0 r3) s_) (rt Wp ((Qg.mk i0 s_ i0 i0 s_ ([] : List Qd)), true)) (rt Wp ((Qg.mk (zi 1) (cu r2 i0 r3) i0 i0 s_ ([] : List Qd)), true))) (FJ r5 fun r6 => (.as (in2 i0 r6 (zz r5)) (.as (in2 r6 (zz r5) (zz r5)) (XA (cu r5 r6 (zz r5)) XN fun r7 => (YH (cu r5 i0 r6) r7 (Qh.mk (Qg.mk (zi 1) (cu r2 i0 r3) i0 i0 s_ ([] : List Qd))) fun r8 => (.as (!r8.1) (rt Wp ((Qg.mk i0 s_ i0 i0 s_ ([] : List Qd)), false)) (FV r8.2.x.Args fun r9 => (rt Wp ((Qg.mk r8.2.x.Line r8.2.x.Label r8.2.x.Kind r8.2.x.Op r8.2.x.Text r9), true)))))) .fail) .fail)))) .fail)))) .fail) (.as (eqS r2 s_) (.yes true (rt Wp ((Qg.mk i0 s_ i0 i0 s_ ([] : List Qd)), true))) (FJ r2 fun r10 => (.as (in2 i0 r10 (zz r2)) (.as (in2 r10 (zz r2) (zz r2)) (XA (cu r2 r10 (zz r2)) XN fun r11 => (YH (cu r2 i0 r10) r11 (Qh.mk (Qg.mk (zi 1) s_ i0 i0 s_ ([] : List Qd))) fun r12 => (.as (!r12.1) (rt Wp ((Qg.mk i0 s_ i0 i0 s_ ([] : List Qd)), false)) (FV r12.2.x.Args fun r13 => (rt Wp ((Qg.mk r12.2.x.Line r12.2.x.Label r12.2.x.Kind r12.2.x.Op r12.2.x.Text r13), true)))))) .fail) .fail))))) .fail)) (noN 4 u83 (.no false (.as (eqS r2 s_) (.yes true (rt Wp ((Qg.mk i0 s_ i0 i0 s_ ([] : List Qd)), true))) (FJ r2 fun r14 => (.as (in2 i0 r14 (zz r2)) (.as (in2 r14 (zz r2) (zz r2)) (XA (cu r2 r14 (zz r2)) XN fun r15 => (YH (cu r2 i0 r14) r15 (Qh.mk (Qg.mk (zi 1) s_ i0 i0 s_ ([] : List Qd))) fun r16 => (.as (!r16.1) (rt Wp ((Qg.mk i0 s_ i0 i0 s_ ([] : List Qd)), false)) (FV r16.2.x.Args fun r17 => (rt Wp ((Qg.mk r16.2.x.Line r16.2.x.Label r16.2.x.Kind r16.2.x.Op r16.2.x.Text r17), true)))))) .fail) .fail))))))))))
theorem Y5.ok {a0 : ByteArray} {r : (Qg × Bool)} (h : Y5 a0 = some r) : ww 27 [xs a0] [] = some (Wp r) := by
 refine fnP (QnT a0) ?_ h
 exact fun r1 h => ⟨WH.ok h, ⟨rfl, fun q0 => rfl, fun q0 => fun r2 h => ⟨Yc.ok h, fun r3 h => ⟨WC.ok h, ⟨rfl, fun q1 => Ql 2 (q1) (⟨rfl, fun q2 => Ql 2 (q1) (⟨rfl, fun q3 => ⟨rfl, fun q4 => fun r4 h => ⟨W5.ok h, ⟨rfl, fun q5 => rfl, fun q5 => ⟨q4, ⟨rfl, fun q6 => fun r5 h => ⟨Uy.ok h, ⟨rfl, fun q7 => ⟨rfl, fun q8 => rfl, fun q8 => rfl⟩, fun q7 => fun r6 h => ⟨Vy.ok h, ⟨rfl, fun q8 => ⟨rfl, fun q9 => fun r7 h => ⟨Uy.ok h, fun r8 h => ⟨JG.ok h, ⟨rfl, fun q10 => rfl, fun q10 => fun r9 h => ⟨WX.ok h, rfl⟩⟩⟩⟩, fun q9 => trivial⟩, fun q8 => trivial⟩⟩⟩⟩, fun q6 => trivial⟩⟩⟩⟩, fun q4 => trivial⟩, fun q3 => ⟨rfl, fun q4 => ⟨rfl, rfl⟩, fun q4 => fun r10 h => ⟨Vy.ok h, ⟨rfl, fun q5 => ⟨rfl, fun q6 => fun r11 h => ⟨Uy.ok h, fun r12 h => ⟨JG.ok h, ⟨rfl, fun q7 => rfl, fun q7 => fun r13 h => ⟨WX.ok h, rfl⟩⟩⟩⟩, fun q6 => trivial⟩, fun q5 => trivial⟩⟩⟩⟩), fun q2 => trivial⟩), fun q1 => noN_ok 4 (q1) (⟨rfl, ⟨rfl, fun q2 => ⟨rfl, rfl⟩, fun q2 => fun r14 h => ⟨Vy.ok h, ⟨rfl, fun q3 => ⟨rfl, fun q4 => fun r15 h => ⟨Uy.ok h, fun r16 h => ⟨JG.ok h, ⟨rfl, fun q5 => rfl, fun q5 => fun r17 h => ⟨WX.ok h, rfl⟩⟩⟩⟩, fun q4 => trivial⟩, fun q3 => trivial⟩⟩⟩⟩)⟩⟩⟩⟩⟩
noncomputable abbrev QnU {ρ R : Type} (a0 : ByteArray) (k : (Qg × Bool) → Tr ρ R) : Tr ρ R := .call (ww 27 [xs a0] []) (Y5 a0) Wp k
abbrev Ee := Int → Option ByteArray
noncomputable def WY (a0 : Int) : Option ByteArray := itoaQ a0
noncomputable abbrev Qcr {ρ R : Type} (a0 : Int) (k : ByteArray → Tr ρ R) : Tr ρ R := .call (ww 93 [xi a0] []) (WY a0) Qf k
theorem WY.ok {a0 : Int} {r : ByteArray} (h : WY a0 = some r) : ww 93 [xi a0] [] = some (Qf r) := (ZQ rfl _ _).trans (QqN ((QkR _).symm.trans h))
abbrev Sz := Int → Option ByteArray
def QbH (C0 : Qbz) (a0 : Int) : Option ByteArray := (bif (decide (a0 < 0)) then (some s_) else ((C0).bind fun r1 => (bif (decide (a0 ≥ (((r1.length) : Nat) : Int))) then (some s_) else ((C0).bind fun r2 => (bif (decide (0 ≤ a0)) then ((r2[(Int.toNat a0)]?).bind fun e3 => (some e3)) else none)))))
noncomputable def Yd : Sz := QbH Wl
theorem Yd.eq (a0 : Int) : Yd a0 = QbH Wl a0 := rfl
noncomputable def Qmt (a0 : Int) : Tr ByteArray AH := (let u84 := (decide (a0 < 0)); .as u84 (yesN 4 u84 (.yes true (rt Qf s_))) (.no u84 (Qav fun r1 => (.no u84 (.num ((Qi r1).length) (r1.length) (noN 2 u84 (.as (decide (a0 ≥ (((r1.length) : Nat) : Int))) (rt Qf s_) (Qav fun r2 => (.as (decide (0 ≤ a0)) (.row ((Qi r2)[(Int.toNat a0)]?) (r2[(Int.toNat a0)]?) Q8 fun (e3 : ByteArray) => (rt Qf e3)) .fail)))))))))
theorem Yd.ok {a0 : Int} {r : ByteArray} (h : Yd a0 = some r) : ww 165 [xi a0] [] = some (Qf r) := by
 refine fnP (Qmt a0) ?_ h
 exact ⟨rfl, fun q0 => Ql 4 (q0) (⟨rfl, rfl⟩), fun q0 => ⟨q0, fun r1 h => ⟨Wl.ok h, ⟨q0, ⟨(Qs _), noN_ok 2 (q0) (⟨rfl, fun q1 => rfl, fun q1 => fun r2 h => ⟨Wl.ok h, ⟨rfl, fun q2 => fun e3 h => ⟨Q5 h, rfl⟩, fun q2 => trivial⟩⟩⟩)⟩⟩⟩⟩⟩
noncomputable abbrev Qmu {ρ R : Type} (a0 : Int) (k : ByteArray → Tr ρ R) : Tr ρ R := .call (ww 165 [xi a0] []) (Yd a0) Qf k
abbrev GD := Qa → Option ByteArray
abbrev QnV (c : GD) : Prop := ∀ (a0 : Qa) (r : ByteArray), c a0 = some r → ww 164 [.agg (QL a0)] [] = some (Qf r)
abbrev ZG := Qa → Option ByteArray
abbrev QnW (c : ZG) : Prop := ∀ (a0 : Qa) (r : ByteArray), c a0 = some r → ww 109 [.agg (QL a0)] [] = some (Qf r)
noncomputable abbrev QbI {ρ R : Type} (c : GD) (a0 : Qa) (k : ByteArray → Tr ρ R) : Tr ρ R := .call (ww 164 [.agg (QL a0)] []) (c a0) Qf k
noncomputable abbrev QbJ {ρ R : Type} (c : ZG) (a0 : Qa) (k : ByteArray → Tr ρ R) : Tr ρ R := .call (ww 109 [.agg (QL a0)] []) (c a0) Qf k
def ZT (C0 : ZG) (a0 : Qa) : Option ByteArray := (bif ((((a0.L.length) : Nat) : Int) == 2) then ((C0 a0).bind fun r1 => (bif (decide (((h_28.size + r1.size : Nat) : Int) ≤ IntKind.i64.max)) then (bif (decide ((((h_28 ++ r1).size + h_29.size : Nat) : Int) ≤ IntKind.i64.max)) then (some ((h_28 ++ r1) ++ h_29)) else none) else none)) else ((C0 a0).bind fun r2 => (some r2)))
theorem Qgq {C0 : Nat → ZG} {D0 : ZG} (H0 : Cv1 C0 D0) (a0 : Qa) : Cv (fun k => ZT (C0 k) a0) (ZT D0 a0) := by
 unfold ZT
 exact .cond (.bind (H0 _) fun r1 => by exact .const _) (.bind (H0 _) fun r2 => by exact .const _)
noncomputable def Qmv (C0 : ZG) (a0 : Qa) : Tr ByteArray AH := (.num ((QC a0.L).length) (a0.L.length) (.as ((((a0.L.length) : Nat) : Int) == 2) (QbJ C0 a0 fun r1 => (.as (decide (((h_28.size + r1.size : Nat) : Int) ≤ IntKind.i64.max)) (.as (decide ((((h_28 ++ r1).size + h_29.size : Nat) : Int) ≤ IntKind.i64.max)) (rt Qf ((h_28 ++ r1) ++ h_29)) .fail) .fail)) (QbJ C0 a0 fun r2 => (rt Qf r2))))
def XL (C0 : GD) (C1 : Sz) (C2 : Ee) (a0 : Qa) : Option ByteArray := (bif ((((a0.L.length) : Nat) : Int) == 1) then ((a0.L[(Int.toNat 0)]?).bind fun e1 => ((C0 e1).bind fun r2 => (bif (decide (((h_2d.size + r2.size : Nat) : Int) ≤ IntKind.i64.max)) then (some (h_2d ++ r2)) else none))) else (bif ((((a0.L.length) : Nat) : Int) == 2) then ((a0.L[(Int.toNat 0)]?).bind fun e3 => ((C0 e3).bind fun r4 => (bif (decide (((r4.size + h_20.size : Nat) : Int) ≤ IntKind.i64.max)) then ((C1 a0.Kind).bind fun r5 => (bif (decide ((((r4 ++ h_20).size + r5.size : Nat) : Int) ≤ IntKind.i64.max)) then (bif (decide (((((r4 ++ h_20) ++ r5).size + h_20.size : Nat) : Int) ≤ IntKind.i64.max)) then ((a0.L[(Int.toNat 1)]?).bind fun e6 => ((C0 e6).bind fun r7 => (bif (decide ((((((r4 ++ h_20) ++ r5) ++ h_20).size + r7.size : Nat) : Int) ≤ IntKind.i64.max)) then (some ((((r4 ++ h_20) ++ r5) ++ h_20) ++ r7)) else none))) else none) else none)) else none))) else (bif (a0.Kind == 1) then ((C2 a0.N).bind fun r8 => (some r8)) else (bif (a0.Kind == 2) then (some a0.Name) else (some h_2e)))))
theorem Qgr {C0 : Nat → GD} {D0 : GD} (H0 : Cv1 C0 D0) {C1 : Nat → Sz} {D1 : Sz} (H1 : Cv1 C1 D1) {C2 : Nat → Ee} {D2 : Ee} (H2 : Cv1 C2 D2) (a0 : Qa) : Cv (fun k => XL (C0 k) (C1 k) (C2 k) a0) (XL D0 D1 D2 a0) := by
 unfold XL
 exact .cond (.bind (.const _) fun e1 => .bind (H0 _) fun r2 => by exact .const _) (.cond (.bind (.const _) fun e3 => .bind (H0 _) fun r4 => .cond (.bind (H1 _) fun r5 => .cond (.cond (.bind (.const _) fun e6 => .bind (H0 _) fun r7 => by exact .const _) cst) cst) cst) (.cond (.bind (H2 _) fun r8 => by exact .const _) cst))
noncomputable def Qmw (C0 : GD) (a0 : Qa) : Tr ByteArray AH := (.num ((QC a0.L).length) (a0.L.length) (.as ((((a0.L.length) : Nat) : Int) == 1) (.yes (decide (0 ≤ i0)) (.row ((QC a0.L)[(Int.toNat 0)]?) (a0.L[(Int.toNat 0)]?) QL fun (e1 : Qa) => (QbI C0 e1 fun r2 => (.as (decide (((h_2d.size + r2.size : Nat) : Int) ≤ IntKind.i64.max)) (rt Qf (h_2d ++ r2)) .fail)))) (.as ((((a0.L.length) : Nat) : Int) == 2) (.yes (decide (0 ≤ i0)) (.row ((QC a0.L)[(Int.toNat 0)]?) (a0.L[(Int.toNat 0)]?) QL fun (e3 : Qa) => (QbI C0 e3 fun r4 => (.as (decide (((r4.size + h_20.size : Nat) : Int) ≤ IntKind.i64.max)) (Qmu a0.Kind fun r5 => (.as (decide ((((r4 ++ h_20).size + r5.size : Nat) : Int) ≤ IntKind.i64.max)) (.as (decide (((((r4 ++ h_20) ++ r5).size + h_20.size : Nat) : Int) ≤ IntKind.i64.max)) (.yes (decide (0 ≤ (zi 1))) (.row ((QC a0.L)[(Int.toNat 1)]?) (a0.L[(Int.toNat 1)]?) QL fun (e6 : Qa) => (QbI C0 e6 fun r7 => (.as (decide ((((((r4 ++ h_20) ++ r5) ++ h_20).size + r7.size : Nat) : Int) ≤ IntKind.i64.max)) (rt Qf ((((r4 ++ h_20) ++ r5) ++ h_20) ++ r7)) .fail)))) .fail) .fail)) .fail)))) (.as (a0.Kind == 1) (Qcr a0.N fun r8 => (rt Qf r8)) (.as (a0.Kind == 2) (rt Qf a0.Name) (rt Qf h_2e))))))
mutual
noncomputable def VK.s : Nat → Qa → Option ByteArray
 | 0, _ => none
 | k + 1, a0 => ZT (fun a0 => Ju.s k a0) a0
termination_by structural k => k
noncomputable def Ju.s : Nat → Qa → Option ByteArray
 | 0, _ => none
 | k + 1, a0 => XL (fun a0 => VK.s k a0) Yd WY a0
termination_by structural k => k
end
theorem Qdt : ∀ (k : Nat), (QnV (VK.s k)) ∧ (QnW (Ju.s k))
 | 0 => ⟨fun _ _ h => (nomatch h), fun _ _ h => (nomatch h)⟩
 | k + 1 => by
  obtain ⟨i_expr_part, i_expr_Text⟩ := Qdt k
  exact ⟨fun a0 r h => by
    refine fnP (Qmv (Ju.s k) a0) ?_ h
    exact ⟨(Yj _), ⟨rfl, fun q0 => fun r1 h => ⟨i_expr_Text _ _ h, ⟨rfl, fun q1 => ⟨rfl, fun q2 => rfl, fun q2 => trivial⟩, fun q1 => trivial⟩⟩, fun q0 => fun r2 h => ⟨i_expr_Text _ _ h, rfl⟩⟩⟩,
   fun a0 r h => by
    refine fnP (Qmw (VK.s k) a0) ?_ h
    exact ⟨(Yj _), ⟨rfl, fun q0 => ⟨rfl, fun e1 h => ⟨W4 h, fun r2 h => ⟨i_expr_part _ _ h, ⟨rfl, fun q1 => rfl, fun q1 => trivial⟩⟩⟩⟩, fun q0 => ⟨rfl, fun q1 => ⟨rfl, fun e3 h => ⟨W4 h, fun r4 h => ⟨i_expr_part _ _ h, ⟨rfl, fun q2 => fun r5 h => ⟨Yd.ok h, ⟨rfl, fun q3 => ⟨rfl, fun q4 => ⟨rfl, fun e6 h => ⟨W4 h, fun r7 h => ⟨i_expr_part _ _ h, ⟨rfl, fun q5 => rfl, fun q5 => trivial⟩⟩⟩⟩, fun q4 => trivial⟩, fun q3 => trivial⟩⟩, fun q2 => trivial⟩⟩⟩⟩, fun q1 => ⟨rfl, fun q2 => fun r8 h => ⟨WY.ok h, rfl⟩, fun q2 => ⟨rfl, fun q3 => rfl, fun q3 => rfl⟩⟩⟩⟩⟩⟩
theorem FW : ∀ (k : Nat), (∀ (a0 : Qa), Le (VK.s k a0) (VK.s (k + 1) a0)) ∧ (∀ (a0 : Qa), Le (Ju.s k a0) (Ju.s (k + 1) a0))
 | 0 => ⟨fun _ _ h => (nomatch h), fun _ _ h => (nomatch h)⟩
 | k + 1 => by
  obtain ⟨i_expr_part, i_expr_Text⟩ := FW k
  exact ⟨fun a0 => (Qgq (tw1 i_expr_Text) a0).1 0,
   fun a0 => (Qgr (tw1 i_expr_part) ks1 ks1 a0).1 0⟩
noncomputable def VK (a0 : Qa) : Option ByteArray := lim fun k => VK.s k a0
theorem VK.cv (a0 : Qa) : Cv (fun k => VK.s k a0) (VK a0) := .lim fun k => (FW k).1 a0
noncomputable def Ju (a0 : Qa) : Option ByteArray := lim fun k => Ju.s k a0
theorem Ju.cv (a0 : Qa) : Cv (fun k => Ju.s k a0) (Ju a0) := .lim fun k => (FW k).2 a0
theorem Ju.ok {a0 : Qa} {r : ByteArray} (h : Ju a0 = some r) : ww 109 [.agg (QL a0)] [] = some (Qf r) := let ⟨k, e⟩ := ((Ju.cv a0).2 r).1 h; (Qdt k).2 a0 _ e
theorem VK.eq (a0 : Qa) : VK a0 = ZT Ju a0 := Cv.uniq (VK.cv a0).shift (Qgq Ju.cv a0)
theorem Ju.eq (a0 : Qa) : Ju a0 = XL VK Yd WY a0 := Cv.uniq (Ju.cv a0).shift (Qgr VK.cv ks1 ks1 a0)
noncomputable abbrev Qmx {ρ R : Type} (a0 : Qa) (k : ByteArray → Tr ρ R) : Tr ρ R := QbJ Ju a0 k
abbrev Qjq := Qd → Option ByteArray
def Qc2 (C0 : Ee) (C1 : ZG) (a0 : Qd) : Option ByteArray := (bif (decide (a0.Reg ≥ 0)) then ((C0 a0.Reg).bind fun r1 => (bif (decide (((s_r.size + r1.size : Nat) : Int) ≤ IntKind.i64.max)) then (some (s_r ++ r1)) else none)) else ((C1 a0.E).bind fun r2 => (some r2)))
noncomputable def Y6 : Qjq := Qc2 WY Ju
theorem Y6.eq (a0 : Qd) : Y6 a0 = Qc2 WY Ju a0 := rfl
noncomputable def QnX (a0 : Qd) : Tr ByteArray AH := (.as (decide (a0.Reg ≥ 0)) (Qcr a0.Reg fun r1 => (.as (decide (((s_r.size + r1.size : Nat) : Int) ≤ IntKind.i64.max)) (rt Qf (s_r ++ r1)) .fail)) (Qmx a0.E fun r2 => (rt Qf r2)))
theorem Y6.ok {a0 : Qd} {r : ByteArray} (h : Y6 a0 = some r) : ww 67 [.agg (Wg a0)] [] = some (Qf r) := by
 refine fnP (QnX a0) ?_ h
 exact ⟨rfl, fun q0 => fun r1 h => ⟨WY.ok h, ⟨rfl, fun q1 => rfl, fun q1 => trivial⟩⟩, fun q0 => fun r2 h => ⟨Ju.ok h, rfl⟩⟩
noncomputable abbrev QnY {ρ R : Type} (a0 : Qd) (k : ByteArray → Tr ρ R) : Tr ρ R := .call (ww 67 [.agg (Wg a0)] []) (Y6 a0) Qf k
abbrev GE := Qc → Option ByteArray
def Qa5 (a0 : Qc) : Option ByteArray := (some a0.name)
noncomputable def V7 : GE := Qa5
noncomputable def QhV (a0 : Qc) : Tr ByteArray AH := (rt Qf a0.name)
theorem V7.ok {a0 : Qc} {r : ByteArray} (h : V7 a0 = some r) : ww 167 [.agg (Xq a0)] [] = some (Qf r) := by
 refine fnP (QhV a0) ?_ h
 exact rfl
noncomputable abbrev QhW {ρ R : Type} (a0 : Qc) (k : ByteArray → Tr ρ R) : Tr ρ R := .call (ww 167 [.agg (Xq a0)] []) (V7 a0) Qf k
noncomputable def V7.s : Nat → Qc → Option ByteArray
 | 0, _ => none
 | k + 1, a0 => Qa5 a0
theorem V7.cv (a0 : Qc) : Cv (fun k => V7.s k a0) (V7 a0) := .un rfl (by exact .const _)
abbrev Qa6 := Int → Option ByteArray
def Ff (C0 : YR) (C1 : GE) (a0 : Int) : Option ByteArray := ((C0).bind fun r1 => (bif (decide (a0 ≥ 0)) then (bif (decide (a0 < (((r1.length) : Nat) : Int))) then (bif (decide (0 ≤ a0)) then ((r1[(Int.toNat a0)]?).bind fun e2 => ((C1 e2).bind fun r3 => (some r3))) else none) else (some s_)) else (some s_)))
theorem QnZ {C0 : Nat → YR} {D0 : YR} (H0 : Cv C0 D0) {C1 : Nat → GE} {D1 : GE} (H1 : Cv1 C1 D1) (a0 : Int) : Cv (fun k => Ff (C0 k) (C1 k) a0) (Ff D0 D1 a0) := by
 unfold Ff
 exact .bind (H0) fun r1 => .cond (.cond (.cond (.bind (.const _) fun e2 => .bind (H1 _) fun r3 => by exact .const _) cst) cst) cst
noncomputable def Yv : Qa6 := Ff U6 V7
noncomputable def Qn0 (a0 : Int) : Tr ByteArray AH := (Qbs fun r1 => (let u85 := (decide (a0 ≥ 0)); .as u85 (yesN 2 u85 (.num ((WM r1).length) (r1.length) (yesN 2 u85 (.as (decide (a0 < (((r1.length) : Nat) : Int))) (.as (decide (0 ≤ a0)) (.row ((WM r1)[(Int.toNat a0)]?) (r1[(Int.toNat a0)]?) Xq fun (e2 : Qc) => (QhW e2 fun r3 => (rt Qf r3))) .fail) (rt Qf s_))))) (noN 4 u85 (.no false (rt Qf s_)))))
theorem Yv.ok {a0 : Int} {r : ByteArray} (h : Yv a0 = some r) : ww 166 [xi a0, .fn (.func 167) [] []] [] = some (Qf r) := by
 refine fnP (Qn0 a0) ?_ h
 exact fun r1 h => ⟨U6.ok h, ⟨rfl, fun q0 => Ql 2 (q0) (⟨(PW _), Ql 2 (q0) (⟨rfl, fun q1 => ⟨rfl, fun q2 => fun e2 h => ⟨PV h, fun r3 h => ⟨V7.ok h, rfl⟩⟩, fun q2 => trivial⟩, fun q1 => rfl⟩)⟩), fun q0 => noN_ok 4 (q0) (⟨rfl, rfl⟩)⟩⟩
noncomputable abbrev Qn1 {ρ R : Type} (a0 : Int) (k : ByteArray → Tr ρ R) : Tr ρ R := .call (ww 166 [xi a0, .fn (.func 167) [] []] []) (Yv a0) Qf k
noncomputable def Yv.s : Nat → Int → Option ByteArray
 | 0, _ => none
 | k + 1, a0 => Ff (U6.s k) (V7.s k) a0
theorem Yv.cv (a0 : Int) : Cv (fun k => Yv.s k a0) (Yv a0) := .un rfl (QnZ U6.cv V7.cv a0)
abbrev Qjr := Int → Option ByteArray
def Fg (C0 : Qa6) (a0 : Int) : Option ByteArray := ((C0 a0).bind fun r1 => (some r1))
theorem Qn2 {C0 : Nat → Qa6} {D0 : Qa6} (H0 : Cv1 C0 D0) (a0 : Int) : Cv (fun k => Fg (C0 k) a0) (Fg D0 a0) := by
 unfold Fg
 exact .bind (H0 _) fun r1 => by exact .const _
noncomputable def Xh : Qjr := Fg Yv
noncomputable def Qn3 (a0 : Int) : Tr ByteArray AH := (Qn1 a0 fun r1 => (rt Qf r1))
theorem Xh.ok {a0 : Int} {r : ByteArray} (h : Xh a0 = some r) : ww 110 [xi a0] [] = some (Qf r) := by
 refine fnP (Qn3 a0) ?_ h
 exact fun r1 h => ⟨Yv.ok h, rfl⟩
noncomputable abbrev Qn4 {ρ R : Type} (a0 : Int) (k : ByteArray → Tr ρ R) : Tr ρ R := .call (ww 110 [xi a0] []) (Xh a0) Qf k
noncomputable def Xh.s : Nat → Int → Option ByteArray
 | 0, _ => none
 | k + 1, a0 => Fg (Yv.s k) a0
theorem Xh.cv (a0 : Int) : Cv (fun k => Xh.s k a0) (Xh a0) := .un rfl (Qn2 Yv.cv a0)
abbrev QhX := Qg → Option ByteArray
def QbK (C0 : Qjr) (C1 : QbE) (a0 : Qg) : Option ByteArray := (bif (a0.Kind == 1) then ((C0 a0.Op).bind fun r1 => (some r1)) else (bif (a0.Kind == 2) then (bif (decide (a0.Op ≥ 0)) then ((C1).bind fun r2 => (bif (decide (a0.Op < (((r2.length) : Nat) : Int))) then ((C1).bind fun r3 => (bif (decide (0 ≤ a0.Op)) then ((r3[(Int.toNat a0.Op)]?).bind fun e4 => (some e4)) else none)) else (some s_))) else (some s_)) else (bif (a0.Kind == 3) then (some QO) else (bif (a0.Kind == 4) then (some QP) else (bif (a0.Kind == 5) then (some QQ) else (bif (a0.Kind == 6) then (some Jf) else (bif (a0.Kind == 7) then (some QJ) else (bif (a0.Kind == 8) then (some QK) else (bif (a0.Kind == 9) then (some J2) else (some s_))))))))))
noncomputable def Vk : QhX := QbK Xh Wn
theorem Vk.eq (a0 : Qg) : Vk a0 = QbK Xh Wn a0 := rfl
noncomputable def Qmy (a0 : Qg) : Tr ByteArray AH := (.as (a0.Kind == 1) (Qn4 a0.Op fun r1 => (rt Qf r1)) (.as (a0.Kind == 2) (let u86 := (decide (a0.Op ≥ 0)); .as u86 (yesN 2 u86 (Qay fun r2 => (.yes u86 (.num ((Qi r2).length) (r2.length) (yesN 2 u86 (.as (decide (a0.Op < (((r2.length) : Nat) : Int))) (Qay fun r3 => (.as (decide (0 ≤ a0.Op)) (.row ((Qi r3)[(Int.toNat a0.Op)]?) (r3[(Int.toNat a0.Op)]?) Q8 fun (e4 : ByteArray) => (rt Qf e4)) .fail)) (rt Qf s_))))))) (noN 5 u86 (.no false (rt Qf s_)))) (.as (a0.Kind == 3) (rt Qf QO) (.as (a0.Kind == 4) (rt Qf QP) (.as (a0.Kind == 5) (rt Qf QQ) (.as (a0.Kind == 6) (rt Qf Jf) (.as (a0.Kind == 7) (rt Qf QJ) (.as (a0.Kind == 8) (rt Qf QK) (.as (a0.Kind == 9) (rt Qf J2) (rt Qf s_))))))))))
theorem Vk.ok {a0 : Qg} {r : ByteArray} (h : Vk a0 = some r) : ww 68 [.agg (U0 a0)] [] = some (Qf r) := by
 refine fnP (Qmy a0) ?_ h
 exact ⟨rfl, fun q0 => fun r1 h => ⟨Xh.ok h, rfl⟩, fun q0 => ⟨rfl, fun q1 => ⟨rfl, fun q2 => Ql 2 (q2) (fun r2 h => ⟨Wn.ok h, ⟨q2, ⟨(Qs _), Ql 2 (q2) (⟨rfl, fun q3 => fun r3 h => ⟨Wn.ok h, ⟨rfl, fun q4 => fun e4 h => ⟨Q5 h, rfl⟩, fun q4 => trivial⟩⟩, fun q3 => rfl⟩)⟩⟩⟩), fun q2 => noN_ok 5 (q2) (⟨rfl, rfl⟩)⟩, fun q1 => ⟨rfl, fun q2 => rfl, fun q2 => ⟨rfl, fun q3 => rfl, fun q3 => ⟨rfl, fun q4 => rfl, fun q4 => ⟨rfl, fun q5 => rfl, fun q5 => ⟨rfl, fun q6 => rfl, fun q6 => ⟨rfl, fun q7 => rfl, fun q7 => ⟨rfl, fun q8 => rfl, fun q8 => rfl⟩⟩⟩⟩⟩⟩⟩⟩⟩
noncomputable abbrev XM {ρ R : Type} (a0 : Qg) (k : ByteArray → Tr ρ R) : Tr ρ R := .call (ww 68 [.agg (U0 a0)] []) (Vk a0) Qf k
abbrev Qj9 := (List ByteArray) → ByteArray → Option ByteArray
noncomputable def UP (a0 : (List ByteArray)) (a1 : ByteArray) : Option ByteArray := joinS a0 a1
noncomputable abbrev WF {ρ R : Type} (a0 : (List ByteArray)) (a1 : ByteArray) (k : ByteArray → Tr ρ R) : Tr ρ R := .call (ww 69 [.sl (Qi a0), xs a1] []) (UP a0 a1) Qf k
theorem UP.ok {a0 : (List ByteArray)} {a1 : ByteArray} {r : ByteArray} (h : UP a0 a1 = some r) : ww 69 [.sl (Qi a0), xs a1] [] = some (Qf r) := (ZQ rfl _ _).trans (QqR h)
abbrev QhY := Qg → Option ByteArray
structure QS where
 x3 : ByteArray
 x40 : (List Qd)
 x41 : Int
 x42 : Int
 h0 : Qg
 r1 : (List ByteArray)
structure JP where
 x3 : ByteArray
 h0 : Qg
 r1 : (List ByteArray)
def FX (a : QS) : St := { n := 65, nx := 2, env := [(1, .ptr 0 0), (3, xs a.x3), (4, .arr 1), (40, .sl (Qj a.x40)), (41, xi a.x41), (42, xi a.x42)], heap := [(0, .box [0, 0, 0, 0, 0, 5] (U0 a.h0)), (1, .arr true 1 (Qi a.r1))] }
def FY (a : JP) : Ex × St := (.exit 1, { n := 65, nx := 2, env := [(1, .ptr 0 0), (3, xs a.x3), (4, .arr 1)], heap := [(0, .box [0, 0, 0, 0, 0, 5] (U0 a.h0)), (1, .arr true 1 (Qi a.r1))] })
abbrev Qdu := QS → Option JP
def GF (C0 : Qjq) (a : QS) : Option (QS ⊕ JP) := (bif (decide (a.x42 < a.x41)) then (bif (decide (0 ≤ a.x42)) then ((a.x40[(Int.toNat a.x42)]?).bind fun e1 => ((C0 e1).bind fun r2 => (bif (decide ((a.r1.length + [r2].length) * 16 ≤ most)) then (some (.inl (QS.mk a.x3 a.x40 a.x41 (w64 (a.x42 + 1)) a.h0 (a.r1 ++ [r2])))) else none))) else none) else (some (.inr (JP.mk a.x3 a.h0 a.r1))))
noncomputable def Js : Qdu := loopW (GF Y6)
theorem Js.eq (a : QS) : Js a = (GF Y6 a).bind (Sum.elim Js some) := JM _ _
noncomputable abbrev WG {ρ R : Type} (a : QS) (k0 : JP → Tr ρ R) : Tr ρ R := .loop (loopAt pp 26 15) (FX a) (Js a) FY k0
noncomputable def QiL (a : QS) : Tr (QS ⊕ JP) XS := (.as (decide (a.x42 < a.x41)) (.as (decide (0 ≤ a.x42)) (.row ((Qj a.x40)[(Int.toNat a.x42)]?) (a.x40[(Int.toNat a.x42)]?) Wg fun (e1 : Qd) => (QnY e1 fun r2 => (.rows [[xs r2]] (Qi [r2]) (.yes (decide ((Qi [r2]).all (fun r => r.length == 1) = true)) (.ask (decide (((Qi a.r1).length + (Qi [r2]).length) * 16 ≤ most)) (decide ((a.r1.length + [r2].length) * 16 ≤ most)) (.rows ((Qi a.r1) ++ (Qi [r2])) (Qi (a.r1 ++ [r2])) (lf FX (QS.mk a.x3 a.x40 a.x41 (w64 (a.x42 + 1)) a.h0 (a.r1 ++ [r2])))) .fail))))) .fail) (rx FY (JP.mk a.x3 a.h0 a.r1)))
theorem Js.ok {a : QS} {r : JP} (h : Js a = some r) : lw 0 26 (loopAt pp 26 15) (FX a) = some (FY r) := by
 refine lpP h QiL fun a => ?_
 exact ⟨rfl, fun q0 => ⟨rfl, fun q1 => fun e1 h => ⟨Xp h, fun r2 h => ⟨Y6.ok h, ⟨(QU [r2]), ⟨(decide_eq_true (J7 _)), ⟨(by rw [Qs, Qs]), fun q2 => ⟨(WL _ _), rfl⟩, fun q2 => trivial⟩⟩⟩⟩⟩, fun q1 => trivial⟩, fun q0 => rfl⟩
def QbL (C0 : QhX) (C1 : Qj9) (L2 : Qdu) (a0 : Qg) : Option ByteArray := (bif (!(eqS a0.Label s_)) then (bif (decide (((a0.Label.size + h_3a.size : Nat) : Int) ≤ IntKind.i64.max)) then (bif (a0.Kind == 0) then (some (a0.Label ++ h_3a)) else (bif (!(eqS (a0.Label ++ h_3a) s_)) then (bif (decide ((((a0.Label ++ h_3a).size + h_20.size : Nat) : Int) ≤ IntKind.i64.max)) then (bif (a0.Kind == 6) then (bif (decide (((h_22.size + a0.Text.size : Nat) : Int) ≤ IntKind.i64.max)) then (bif (decide ((((h_22 ++ a0.Text).size + h_22.size : Nat) : Int) ≤ IntKind.i64.max)) then (bif (decide ([((h_22 ++ a0.Text) ++ h_22)].length * 16 ≤ most)) then ((L2 (QS.mk ((a0.Label ++ h_3a) ++ h_20) a0.Args (((a0.Args.length) : Nat) : Int) (0 : Int) a0 [((h_22 ++ a0.Text) ++ h_22)])).bind (fun (o1 : JP) => ((C0 o1.h0).bind fun r2 => (bif (decide (((o1.x3.size + r2.size : Nat) : Int) ≤ IntKind.i64.max)) then (bif (decide ((((o1.r1.length) : Nat) : Int) > 0)) then ((C1 o1.r1 Vu).bind fun r3 => (bif (decide (((h_20.size + r3.size : Nat) : Int) ≤ IntKind.i64.max)) then (bif (decide ((((o1.x3 ++ r2).size + (h_20 ++ r3).size : Nat) : Int) ≤ IntKind.i64.max)) then (some ((o1.x3 ++ r2) ++ (h_20 ++ r3))) else none) else none)) else (some (o1.x3 ++ r2))) else none)))) else none) else none) else none) else (bif (a0.Kind == 9) then (bif (decide ([a0.Text].length * 16 ≤ most)) then ((L2 (QS.mk ((a0.Label ++ h_3a) ++ h_20) a0.Args (((a0.Args.length) : Nat) : Int) (0 : Int) a0 [a0.Text])).bind (fun (o4 : JP) => ((C0 o4.h0).bind fun r5 => (bif (decide (((o4.x3.size + r5.size : Nat) : Int) ≤ IntKind.i64.max)) then (bif (decide ((((o4.r1.length) : Nat) : Int) > 0)) then ((C1 o4.r1 Vu).bind fun r6 => (bif (decide (((h_20.size + r6.size : Nat) : Int) ≤ IntKind.i64.max)) then (bif (decide ((((o4.x3 ++ r5).size + (h_20 ++ r6).size : Nat) : Int) ≤ IntKind.i64.max)) then (some ((o4.x3 ++ r5) ++ (h_20 ++ r6))) else none) else none)) else (some (o4.x3 ++ r5))) else none)))) else none) else ((L2 (QS.mk ((a0.Label ++ h_3a) ++ h_20) a0.Args (((a0.Args.length) : Nat) : Int) (0 : Int) a0 ([] : List ByteArray))).bind (fun (o7 : JP) => ((C0 o7.h0).bind fun r8 => (bif (decide (((o7.x3.size + r8.size : Nat) : Int) ≤ IntKind.i64.max)) then (bif (decide ((((o7.r1.length) : Nat) : Int) > 0)) then ((C1 o7.r1 Vu).bind fun r9 => (bif (decide (((h_20.size + r9.size : Nat) : Int) ≤ IntKind.i64.max)) then (bif (decide ((((o7.x3 ++ r8).size + (h_20 ++ r9).size : Nat) : Int) ≤ IntKind.i64.max)) then (some ((o7.x3 ++ r8) ++ (h_20 ++ r9))) else none) else none)) else (some (o7.x3 ++ r8))) else none)))))) else none) else (bif (a0.Kind == 6) then (bif (decide (((h_22.size + a0.Text.size : Nat) : Int) ≤ IntKind.i64.max)) then (bif (decide ((((h_22 ++ a0.Text).size + h_22.size : Nat) : Int) ≤ IntKind.i64.max)) then (bif (decide ([((h_22 ++ a0.Text) ++ h_22)].length * 16 ≤ most)) then ((L2 (QS.mk (a0.Label ++ h_3a) a0.Args (((a0.Args.length) : Nat) : Int) (0 : Int) a0 [((h_22 ++ a0.Text) ++ h_22)])).bind (fun (o10 : JP) => ((C0 o10.h0).bind fun r11 => (bif (decide (((o10.x3.size + r11.size : Nat) : Int) ≤ IntKind.i64.max)) then (bif (decide ((((o10.r1.length) : Nat) : Int) > 0)) then ((C1 o10.r1 Vu).bind fun r12 => (bif (decide (((h_20.size + r12.size : Nat) : Int) ≤ IntKind.i64.max)) then (bif (decide ((((o10.x3 ++ r11).size + (h_20 ++ r12).size : Nat) : Int) ≤ IntKind.i64.max)) then (some ((o10.x3 ++ r11) ++ (h_20 ++ r12))) else none) else none)) else (some (o10.x3 ++ r11))) else none)))) else none) else none) else none) else (bif (a0.Kind == 9) then (bif (decide ([a0.Text].length * 16 ≤ most)) then ((L2 (QS.mk (a0.Label ++ h_3a) a0.Args (((a0.Args.length) : Nat) : Int) (0 : Int) a0 [a0.Text])).bind (fun (o13 : JP) => ((C0 o13.h0).bind fun r14 => (bif (decide (((o13.x3.size + r14.size : Nat) : Int) ≤ IntKind.i64.max)) then (bif (decide ((((o13.r1.length) : Nat) : Int) > 0)) then ((C1 o13.r1 Vu).bind fun r15 => (bif (decide (((h_20.size + r15.size : Nat) : Int) ≤ IntKind.i64.max)) then (bif (decide ((((o13.x3 ++ r14).size + (h_20 ++ r15).size : Nat) : Int) ≤ IntKind.i64.max)) then (some ((o13.x3 ++ r14) ++ (h_20 ++ r15))) else none) else none)) else (some (o13.x3 ++ r14))) else none)))) else none) else ((L2 (QS.mk (a0.Label ++ h_3a) a0.Args (((a0.Args.length) : Nat) : Int) (0 : Int) a0 ([] : List ByteArray))).bind (fun (o16 : JP) => ((C0 o16.h0).bind fun r17 => (bif (decide (((o16.x3.size + r17.size : Nat) : Int) ≤ IntKind.i64.max)) then (bif (decide ((((o16.r1.length) : Nat) : Int) > 0)) then ((C1 o16.r1 Vu).bind fun r18 => (bif (decide (((h_20.size + r18.size : Nat) : Int) ≤ IntKind.i64.max)) then (bif (decide ((((o16.x3 ++ r17).size + (h_20 ++ r18).size : Nat) : Int) ≤ IntKind.i64.max)) then (some ((o16.x3 ++ r17) ++ (h_20 ++ r18))) else none) else none)) else (some (o16.x3 ++ r17))) else none)))))))) else none) else (bif (a0.Kind == 0) then (some s_) else (bif (a0.Kind == 6) then (bif (decide (((h_22.size + a0.Text.size : Nat) : Int) ≤ IntKind.i64.max)) then (bif (decide ((((h_22 ++ a0.Text).size + h_22.size : Nat) : Int) ≤ IntKind.i64.max)) then (bif (decide ([((h_22 ++ a0.Text) ++ h_22)].length * 16 ≤ most)) then ((L2 (QS.mk s_ a0.Args (((a0.Args.length) : Nat) : Int) (0 : Int) a0 [((h_22 ++ a0.Text) ++ h_22)])).bind (fun (o19 : JP) => ((C0 o19.h0).bind fun r20 => (bif (decide (((o19.x3.size + r20.size : Nat) : Int) ≤ IntKind.i64.max)) then (bif (decide ((((o19.r1.length) : Nat) : Int) > 0)) then ((C1 o19.r1 Vu).bind fun r21 => (bif (decide (((h_20.size + r21.size : Nat) : Int) ≤ IntKind.i64.max)) then (bif (decide ((((o19.x3 ++ r20).size + (h_20 ++ r21).size : Nat) : Int) ≤ IntKind.i64.max)) then (some ((o19.x3 ++ r20) ++ (h_20 ++ r21))) else none) else none)) else (some (o19.x3 ++ r20))) else none)))) else none) else none) else none) else (bif (a0.Kind == 9) then (bif (decide ([a0.Text].length * 16 ≤ most)) then ((L2 (QS.mk s_ a0.Args (((a0.Args.length) : Nat) : Int) (0 : Int) a0 [a0.Text])).bind (fun (o22 : JP) => ((C0 o22.h0).bind fun r23 => (bif (decide (((o22.x3.size + r23.size : Nat) : Int) ≤ IntKind.i64.max)) then (bif (decide ((((o22.r1.length) : Nat) : Int) > 0)) then ((C1 o22.r1 Vu).bind fun r24 => (bif (decide (((h_20.size + r24.size : Nat) : Int) ≤ IntKind.i64.max)) then (bif (decide ((((o22.x3 ++ r23).size + (h_20 ++ r24).size : Nat) : Int) ≤ IntKind.i64.max)) then (some ((o22.x3 ++ r23) ++ (h_20 ++ r24))) else none) else none)) else (some (o22.x3 ++ r23))) else none)))) else none) else ((L2 (QS.mk s_ a0.Args (((a0.Args.length) : Nat) : Int) (0 : Int) a0 ([] : List ByteArray))).bind (fun (o25 : JP) => ((C0 o25.h0).bind fun r26 => (bif (decide (((o25.x3.size + r26.size : Nat) : Int) ≤ IntKind.i64.max)) then (bif (decide ((((o25.r1.length) : Nat) : Int) > 0)) then ((C1 o25.r1 Vu).bind fun r27 => (bif (decide (((h_20.size + r27.size : Nat) : Int) ≤ IntKind.i64.max)) then (bif (decide ((((o25.x3 ++ r26).size + (h_20 ++ r27).size : Nat) : Int) ≤ IntKind.i64.max)) then (some ((o25.x3 ++ r26) ++ (h_20 ++ r27))) else none) else none)) else (some (o25.x3 ++ r26))) else none))))))))
noncomputable def Ye : QhY := QbL Vk UP Js
theorem Ye.eq (a0 : Qg) : Ye a0 = QbL Vk UP Js a0 := rfl
noncomputable def Qmz (a0 : Qg) : Tr ByteArray AH := (.as (!(eqS a0.Label s_)) (.as (decide (((a0.Label.size + h_3a.size : Nat) : Int) ≤ IntKind.i64.max)) (.as (a0.Kind == 0) (rt Qf (a0.Label ++ h_3a)) (.as (!(eqS (a0.Label ++ h_3a) s_)) (.as (decide ((((a0.Label ++ h_3a).size + h_20.size : Nat) : Int) ≤ IntKind.i64.max)) (.as (a0.Kind == 6) (.as (decide (((h_22.size + a0.Text.size : Nat) : Int) ≤ IntKind.i64.max)) (.as (decide ((((h_22 ++ a0.Text).size + h_22.size : Nat) : Int) ≤ IntKind.i64.max)) (.rows [[xs ((h_22 ++ a0.Text) ++ h_22)]] (Qi [((h_22 ++ a0.Text) ++ h_22)]) (.yes (decide ((Qi [((h_22 ++ a0.Text) ++ h_22)]).all (fun r => r.length == 1) = true)) (.ask (decide ((Qi [((h_22 ++ a0.Text) ++ h_22)]).length * 16 ≤ most)) (decide ([((h_22 ++ a0.Text) ++ h_22)].length * 16 ≤ most)) (.rows (Qi [((h_22 ++ a0.Text) ++ h_22)]) (Qi [((h_22 ++ a0.Text) ++ h_22)]) (.num ((Qj a0.Args).length) (a0.Args.length) (WG (QS.mk ((a0.Label ++ h_3a) ++ h_20) a0.Args (((a0.Args.length) : Nat) : Int) i0 a0 [((h_22 ++ a0.Text) ++ h_22)]) (fun o1 => (XM o1.h0 fun r2 => (.as (decide (((o1.x3.size + r2.size : Nat) : Int) ≤ IntKind.i64.max)) (.num ((Qi o1.r1).length) (o1.r1.length) (.as (decide ((((o1.r1.length) : Nat) : Int) > 0)) (WF o1.r1 Vu fun r3 => (.as (decide (((h_20.size + r3.size : Nat) : Int) ≤ IntKind.i64.max)) (.as (decide ((((o1.x3 ++ r2).size + (h_20 ++ r3).size : Nat) : Int) ≤ IntKind.i64.max)) (rt Qf ((o1.x3 ++ r2) ++ (h_20 ++ r3))) .fail) .fail)) (rt Qf (o1.x3 ++ r2)))) .fail)))))) .fail))) .fail) .fail) (.as (a0.Kind == 9) (.rows [[xs a0.Text]] (Qi [a0.Text]) (.yes (decide ((Qi [a0.Text]).all (fun r => r.length == 1) = true)) (.ask (decide ((Qi [a0.Text]).length * 16 ≤ most)) (decide ([a0.Text].length * 16 ≤ most)) (.rows (Qi [a0.Text]) (Qi [a0.Text]) (.num ((Qj a0.Args).length) (a0.Args.length) (WG (QS.mk ((a0.Label ++ h_3a) ++ h_20) a0.Args (((a0.Args.length) : Nat) : Int) i0 a0 [a0.Text]) (fun o4 => (XM o4.h0 fun r5 => (.as (decide (((o4.x3.size + r5.size : Nat) : Int) ≤ IntKind.i64.max)) (.num ((Qi o4.r1).length) (o4.r1.length) (.as (decide ((((o4.r1.length) : Nat) : Int) > 0)) (WF o4.r1 Vu fun r6 => (.as (decide (((h_20.size + r6.size : Nat) : Int) ≤ IntKind.i64.max)) (.as (decide ((((o4.x3 ++ r5).size + (h_20 ++ r6).size : Nat) : Int) ≤ IntKind.i64.max)) (rt Qf ((o4.x3 ++ r5) ++ (h_20 ++ r6))) .fail) .fail)) (rt Qf (o4.x3 ++ r5)))) .fail)))))) .fail))) (.num ((Qj a0.Args).length) (a0.Args.length) (WG (QS.mk ((a0.Label ++ h_3a) ++ h_20) a0.Args (((a0.Args.length) : Nat) : Int) i0 a0 ([] : List ByteArray)) (fun o7 => (XM o7.h0 fun r8 => (.as (decide (((o7.x3.size + r8.size : Nat) : Int) ≤ IntKind.i64.max)) (.num ((Qi o7.r1).length) (o7.r1.length) (.as (decide ((((o7.r1.length) : Nat) : Int) > 0)) (WF o7.r1 Vu fun r9 => (.as (decide (((h_20.size + r9.size : Nat) : Int) ≤ IntKind.i64.max)) (.as (decide ((((o7.x3 ++ r8).size + (h_20 ++ r9).size : Nat) : Int) ≤ IntKind.i64.max)) (rt Qf ((o7.x3 ++ r8) ++ (h_20 ++ r9))) .fail) .fail)) (rt Qf (o7.x3 ++ r8)))) .fail))))))) .fail) (.as (a0.Kind == 6) (.as (decide (((h_22.size + a0.Text.size : Nat) : Int) ≤ IntKind.i64.max)) (.as (decide ((((h_22 ++ a0.Text).size + h_22.size : Nat) : Int) ≤ IntKind.i64.max)) (.rows [[xs ((h_22 ++ a0.Text) ++ h_22)]] (Qi [((h_22 ++ a0.Text) ++ h_22)]) (.yes (decide ((Qi [((h_22 ++ a0.Text) ++ h_22)]).all (fun r => r.length == 1) = true)) (.ask (decide ((Qi [((h_22 ++ a0.Text) ++ h_22)]).length * 16 ≤ most)) (decide ([((h_22 ++ a0.Text) ++ h_22)].length * 16 ≤ most)) (.rows (Qi [((h_22 ++ a0.Text) ++ h_22)]) (Qi [((h_22 ++ a0.Text) ++ h_22)]) (.num ((Qj a0.Args).length) (a0.Args.length) (WG (QS.mk (a0.Label ++ h_3a) a0.Args (((a0.Args.length) : Nat) : Int) i0 a0 [((h_22 ++ a0.Text) ++ h_22)]) (fun o10 => (XM o10.h0 fun r11 => (.as (decide (((o10.x3.size + r11.size : Nat) : Int) ≤ IntKind.i64.max)) (.num ((Qi o10.r1).length) (o10.r1.length) (.as (decide ((((o10.r1.length) : Nat) : Int) > 0)) (WF o10.r1 Vu fun r12 => (.as (decide (((h_20.size + r12.size : Nat) : Int) ≤ IntKind.i64.max)) (.as (decide ((((o10.x3 ++ r11).size + (h_20 ++ r12).size : Nat) : Int) ≤ IntKind.i64.max)) (rt Qf ((o10.x3 ++ r11) ++ (h_20 ++ r12))) .fail) .fail)) (rt Qf (o10.x3 ++ r11)))) .fail)))))) .fail))) .fail) .fail) (.as (a0.Kind == 9) (.rows [[xs a0.Text]] (Qi [a0.Text]) (.yes (decide ((Qi [a0.Text]).all (fun r => r.length == 1) = true)) (.ask (decide ((Qi [a0.Text]).length * 16 ≤ most)) (decide ([a0.Text].length * 16 ≤ most)) (.rows (Qi [a0.Text]) (Qi [a0.Text]) (.num ((Qj a0.Args).length) (a0.Args.length) (WG (QS.mk (a0.Label ++ h_3a) a0.Args (((a0.Args.length) : Nat) : Int) i0 a0 [a0.Text]) (fun o13 => (XM o13.h0 fun r14 => (.as (decide (((o13.x3.size + r14.size : Nat) : Int) ≤ IntKind.i64.max)) (.num ((Qi o13.r1).length) (o13.r1.length) (.as (decide ((((o13.r1.length) : Nat) : Int) > 0)) (WF o13.r1 Vu fun r15 => (.as (decide (((h_20.size + r15.size : Nat) : Int) ≤ IntKind.i64.max)) (.as (decide ((((o13.x3 ++ r14).size + (h_20 ++ r15).size : Nat) : Int) ≤ IntKind.i64.max)) (rt Qf ((o13.x3 ++ r14) ++ (h_20 ++ r15))) .fail) .fail)) (rt Qf (o13.x3 ++ r14)))) .fail)))))) .fail))) (.num ((Qj a0.Args).length) (a0.Args.length) (WG (QS.mk (a0.Label ++ h_3a) a0.Args (((a0.Args.length) : Nat) : Int) i0 a0 ([] : List ByteArray)) (fun o16 => (XM o16.h0 fun r17 => (.as (decide (((o16.x3.size + r17.size : Nat) : Int) ≤ IntKind.i64.max)) (.num ((Qi o16.r1).length) (o16.r1.length) (.as (decide ((((o16.r1.length) : Nat) : Int) > 0)) (WF o16.r1 Vu fun r18 => (.as (decide (((h_20.size + r18.size : Nat) : Int) ≤ IntKind.i64.max)) (.as (decide ((((o16.x3 ++ r17).size + (h_20 ++ r18).size : Nat) : Int) ≤ IntKind.i64.max)) (rt Qf ((o16.x3 ++ r17) ++ (h_20 ++ r18))) .fail) .fail)) (rt Qf (o16.x3 ++ r17)))) .fail))))))))) .fail) (.as (a0.Kind == 0) (rt Qf s_) (.no false (.as (a0.Kind == 6) (.as (decide (((h_22.size + a0.Text.size : Nat) : Int) ≤ IntKind.i64.max)) (.as (decide ((((h_22 ++ a0.Text).size + h_22.size : Nat) : Int) ≤ IntKind.i64.max)) (.rows [[xs ((h_22 ++ a0.Text) ++ h_22)]] (Qi [((h_22 ++ a0.Text) ++ h_22)]) (.yes (decide ((Qi [((h_22 ++ a0.Text) ++ h_22)]).all (fun r => r.length == 1) = true)) (.ask (decide ((Qi [((h_22 ++ a0.Text) ++ h_22)]).length * 16 ≤ most)) (decide ([((h_22 ++ a0.Text) ++ h_22)].length * 16 ≤ most)) (.rows (Qi [((h_22 ++ a0.Text) ++ h_22)]) (Qi [((h_22 ++ a0.Text) ++ h_22)]) (.num ((Qj a0.Args).length) (a0.Args.length) (WG (QS.mk s_ a0.Args (((a0.Args.length) : Nat) : Int) i0 a0 [((h_22 ++ a0.Text) ++ h_22)]) (fun o19 => (XM o19.h0 fun r20 => (.as (decide (((o19.x3.size + r20.size : Nat) : Int) ≤ IntKind.i64.max)) (.num ((Qi o19.r1).length) (o19.r1.length) (.as (decide ((((o19.r1.length) : Nat) : Int) > 0)) (WF o19.r1 Vu fun r21 => (.as (decide (((h_20.size + r21.size : Nat) : Int) ≤ IntKind.i64.max)) (.as (decide ((((o19.x3 ++ r20).size + (h_20 ++ r21).size : Nat) : Int) ≤ IntKind.i64.max)) (rt Qf ((o19.x3 ++ r20) ++ (h_20 ++ r21))) .fail) .fail)) (rt Qf (o19.x3 ++ r20)))) .fail)))))) .fail))) .fail) .fail) (.as (a0.Kind == 9) (.rows [[xs a0.Text]] (Qi [a0.Text]) (.yes (decide ((Qi [a0.Text]).all (fun r => r.length == 1) = true)) (.ask (decide ((Qi [a0.Text]).length * 16 ≤ most)) (decide ([a0.Text].length * 16 ≤ most)) (.rows (Qi [a0.Text]) (Qi [a0.Text]) (.num ((Qj a0.Args).length) (a0.Args.length) (WG (QS.mk s_ a0.Args (((a0.Args.length) : Nat) : Int) i0 a0 [a0.Text]) (fun o22 => (XM o22.h0 fun r23 => (.as (decide (((o22.x3.size + r23.size : Nat) : Int) ≤ IntKind.i64.max)) (.num ((Qi o22.r1).length) (o22.r1.length) (.as (decide ((((o22.r1.length) : Nat) : Int) > 0)) (WF o22.r1 Vu fun r24 => (.as (decide (((h_20.size + r24.size : Nat) : Int) ≤ IntKind.i64.max)) (.as (decide ((((o22.x3 ++ r23).size + (h_20 ++ r24).size : Nat) : Int) ≤ IntKind.i64.max)) (rt Qf ((o22.x3 ++ r23) ++ (h_20 ++ r24))) .fail) .fail)) (rt Qf (o22.x3 ++ r23)))) .fail)))))) .fail))) (.num ((Qj a0.Args).length) (a0.Args.length) (WG (QS.mk s_ a0.Args (((a0.Args.length) : Nat) : Int) i0 a0 ([] : List ByteArray)) (fun o25 => (XM o25.h0 fun r26 => (.as (decide (((o25.x3.size + r26.size : Nat) : Int) ≤ IntKind.i64.max)) (.num ((Qi o25.r1).length) (o25.r1.length) (.as (decide ((((o25.r1.length) : Nat) : Int) > 0)) (WF o25.r1 Vu fun r27 => (.as (decide (((h_20.size + r27.size : Nat) : Int) ≤ IntKind.i64.max)) (.as (decide ((((o25.x3 ++ r26).size + (h_20 ++ r27).size : Nat) : Int) ≤ IntKind.i64.max)) (rt Qf ((o25.x3 ++ r26) ++ (h_20 ++ r27))) .fail) .fail)) (rt Qf (o25.x3 ++ r26)))) .fail))))))))))
theorem Ye.ok {a0 : Qg} {r : ByteArray} (h : Ye a0 = some r) : ww 26 [.agg (U0 a0)] [] = some (Qf r) := by
 refine fnP (Qmz a0) ?_ h
 exact ⟨rfl, fun q0 => ⟨rfl, fun q1 => ⟨rfl, fun q2 => rfl, fun q2 => ⟨rfl, fun q3 => ⟨rfl, fun q4 => ⟨rfl, fun q5 => ⟨rfl, fun q6 => ⟨rfl, fun q7 => ⟨(QU [((h_22 ++ a0.Text) ++ h_22)]), ⟨(decide_eq_true (J7 _)), ⟨(by rw [Qs]), fun q8 => ⟨rfl, ⟨(QX _), fun o1 h => ⟨Js.ok h, fun r2 h => ⟨Vk.ok h, ⟨rfl, fun q9 => ⟨(Qs _), ⟨rfl, fun q10 => fun r3 h => ⟨UP.ok h, ⟨rfl, fun q11 => ⟨rfl, fun q12 => rfl, fun q12 => trivial⟩, fun q11 => trivial⟩⟩, fun q10 => rfl⟩⟩, fun q9 => trivial⟩⟩⟩⟩⟩, fun q8 => trivial⟩⟩⟩, fun q7 => trivial⟩, fun q6 => trivial⟩, fun q5 => ⟨rfl, fun q6 => ⟨(QU [a0.Text]), ⟨(decide_eq_true (J7 _)), ⟨(by rw [Qs]), fun q7 => ⟨rfl, ⟨(QX _), fun o4 h => ⟨Js.ok h, fun r5 h => ⟨Vk.ok h, ⟨rfl, fun q8 => ⟨(Qs _), ⟨rfl, fun q9 => fun r6 h => ⟨UP.ok h, ⟨rfl, fun q10 => ⟨rfl, fun q11 => rfl, fun q11 => trivial⟩, fun q10 => trivial⟩⟩, fun q9 => rfl⟩⟩, fun q8 => trivial⟩⟩⟩⟩⟩, fun q7 => trivial⟩⟩⟩, fun q6 => ⟨(QX _), fun o7 h => ⟨Js.ok h, fun r8 h => ⟨Vk.ok h, ⟨rfl, fun q7 => ⟨(Qs _), ⟨rfl, fun q8 => fun r9 h => ⟨UP.ok h, ⟨rfl, fun q9 => ⟨rfl, fun q10 => rfl, fun q10 => trivial⟩, fun q9 => trivial⟩⟩, fun q8 => rfl⟩⟩, fun q7 => trivial⟩⟩⟩⟩⟩⟩, fun q4 => trivial⟩, fun q3 => ⟨rfl, fun q4 => ⟨rfl, fun q5 => ⟨rfl, fun q6 => ⟨(QU [((h_22 ++ a0.Text) ++ h_22)]), ⟨(decide_eq_true (J7 _)), ⟨(by rw [Qs]), fun q7 => ⟨rfl, ⟨(QX _), fun o10 h => ⟨Js.ok h, fun r11 h => ⟨Vk.ok h, ⟨rfl, fun q8 => ⟨(Qs _), ⟨rfl, fun q9 => fun r12 h => ⟨UP.ok h, ⟨rfl, fun q10 => ⟨rfl, fun q11 => rfl, fun q11 => trivial⟩, fun q10 => trivial⟩⟩, fun q9 => rfl⟩⟩, fun q8 => trivial⟩⟩⟩⟩⟩, fun q7 => trivial⟩⟩⟩, fun q6 => trivial⟩, fun q5 => trivial⟩, fun q4 => ⟨rfl, fun q5 => ⟨(QU [a0.Text]), ⟨(decide_eq_true (J7 _)), ⟨(by rw [Qs]), fun q6 => ⟨rfl, ⟨(QX _), fun o13 h => ⟨Js.ok h, fun r14 h => ⟨Vk.ok h, ⟨rfl, fun q7 => ⟨(Qs _), ⟨rfl, fun q8 => fun r15 h => ⟨UP.ok h, ⟨rfl, fun q9 => ⟨rfl, fun q10 => rfl, fun q10 => trivial⟩, fun q9 => trivial⟩⟩, fun q8 => rfl⟩⟩, fun q7 => trivial⟩⟩⟩⟩⟩, fun q6 => trivial⟩⟩⟩, fun q5 => ⟨(QX _), fun o16 h => ⟨Js.ok h, fun r17 h => ⟨Vk.ok h, ⟨rfl, fun q6 => ⟨(Qs _), ⟨rfl, fun q7 => fun r18 h => ⟨UP.ok h, ⟨rfl, fun q8 => ⟨rfl, fun q9 => rfl, fun q9 => trivial⟩, fun q8 => trivial⟩⟩, fun q7 => rfl⟩⟩, fun q6 => trivial⟩⟩⟩⟩⟩⟩⟩⟩, fun q1 => trivial⟩, fun q0 => ⟨rfl, fun q1 => rfl, fun q1 => ⟨rfl, ⟨rfl, fun q2 => ⟨rfl, fun q3 => ⟨rfl, fun q4 => ⟨(QU [((h_22 ++ a0.Text) ++ h_22)]), ⟨(decide_eq_true (J7 _)), ⟨(by rw [Qs]), fun q5 => ⟨rfl, ⟨(QX _), fun o19 h => ⟨Js.ok h, fun r20 h => ⟨Vk.ok h, ⟨rfl, fun q6 => ⟨(Qs _), ⟨rfl, fun q7 => fun r21 h => ⟨UP.ok h, ⟨rfl, fun q8 => ⟨rfl, fun q9 => rfl, fun q9 => trivial⟩, fun q8 => trivial⟩⟩, fun q7 => rfl⟩⟩, fun q6 => trivial⟩⟩⟩⟩⟩, fun q5 => trivial⟩⟩⟩, fun q4 => trivial⟩, fun q3 => trivial⟩, fun q2 => ⟨rfl, fun q3 => ⟨(QU [a0.Text]), ⟨(decide_eq_true (J7 _)), ⟨(by rw [Qs]), fun q4 => ⟨rfl, ⟨(QX _), fun o22 h => ⟨Js.ok h, fun r23 h => ⟨Vk.ok h, ⟨rfl, fun q5 => ⟨(Qs _), ⟨rfl, fun q6 => fun r24 h => ⟨UP.ok h, ⟨rfl, fun q7 => ⟨rfl, fun q8 => rfl, fun q8 => trivial⟩, fun q7 => trivial⟩⟩, fun q6 => rfl⟩⟩, fun q5 => trivial⟩⟩⟩⟩⟩, fun q4 => trivial⟩⟩⟩, fun q3 => ⟨(QX _), fun o25 h => ⟨Js.ok h, fun r26 h => ⟨Vk.ok h, ⟨rfl, fun q4 => ⟨(Qs _), ⟨rfl, fun q5 => fun r27 h => ⟨UP.ok h, ⟨rfl, fun q6 => ⟨rfl, fun q7 => rfl, fun q7 => trivial⟩, fun q6 => trivial⟩⟩, fun q5 => rfl⟩⟩, fun q4 => trivial⟩⟩⟩⟩⟩⟩⟩⟩⟩
noncomputable abbrev QmA {ρ R : Type} (a0 : Qg) (k : ByteArray → Tr ρ R) : Tr ρ R := .call (ww 26 [.agg (U0 a0)] []) (Ye a0) Qf k
abbrev Xi := (List Qy) → Int → Option Int
abbrev QgU (c : Xi) : Prop := ∀ (a0 : (List Qy)) (a1 : Int) (r : Int), c a0 a1 = some r → ww 105 [.sl (UV a0), xi a1] [] = some (Qp r)
noncomputable abbrev Qjs {ρ R : Type} (c : Xi) (a0 : (List Qy)) (a1 : Int) (k : Int → Tr ρ R) : Tr ρ R := .call (ww 105 [.sl (UV a0), xi a1] []) (c a0 a1) Qp k
structure UY where
 x0 : (List Qy)
 x1 : Int
 x5 : Int
 x6 : Int
def QaB (a : UY) : St := { n := 31, nx := 0, env := [(0, .sl (UV a.x0)), (1, xi a.x1), (5, xi a.x5), (6, xi a.x6)], heap := [] }
def Fh (a : Int) : Ex × St := (.exit 0, { n := 31, nx := 0, env := [(5, xi a)], heap := [] })
abbrev Yf := UY → Option Int
def Yw (C0 : Xi) (a : UY) : Option (UY ⊕ Int) := (bif (decide (a.x6 < (((a.x0.length) : Nat) : Int))) then (bif (decide (a.x5 ≤ 16)) then (bif (decide (0 ≤ a.x6)) then ((a.x0[(Int.toNat a.x6)]?).bind fun e1 => ((C0 e1.L (w64 (a.x1 + 1))).bind fun r2 => (some (.inl (UY.mk a.x0 a.x1 (w64 ((w64 (a.x5 + 1)) + r2)) (w64 (a.x6 + 1))))))) else none) else (some (.inr a.x5))) else (some (.inr a.x5)))
theorem QeT {C0 : Nat → Xi} {D0 : Xi} (H0 : Cv2 C0 D0) (a : UY) : Cv (fun k => Yw (C0 k) a) (Yw D0 a) := by
 unfold Yw
 exact .cond (.cond (.cond (.bind (.const _) fun e1 => .bind (H0 _ _) fun r2 => by exact .const _) cst) cst) cst
noncomputable abbrev Qlh {ρ R : Type} (l : Yf) (a : UY) (k0 : Int → Tr ρ R) : Tr ρ R := .loop (loopAt pp 105 5) (QaB a) (l a) Fh k0
noncomputable def Qli (C0 : Xi) (a : UY) : Tr (UY ⊕ Int) XS := (.num ((UV a.x0).length) (a.x0.length) (let u87 := (decide (a.x6 < (((a.x0.length) : Nat) : Int))); .as u87 (yesN 2 u87 (.as (decide (a.x5 ≤ 16)) (.as (decide (0 ≤ a.x6)) (.row ((UV a.x0)[(Int.toNat a.x6)]?) (a.x0[(Int.toNat a.x6)]?) Xz fun (e1 : Qy) => (Qjs C0 e1.L (w64 (a.x1 + 1)) fun r2 => (lf QaB (UY.mk a.x0 a.x1 (w64 ((w64 (a.x5 + 1)) + r2)) (w64 (a.x6 + 1)))))) .fail) (rx Fh a.x5))) (noN 2 u87 (.no false (rx Fh a.x5)))))
noncomputable def U4.s (k : Nat) (C0 : Xi) : Yf := iter (Yw C0) k
theorem Qka (k : Nat) {C0 : Xi} (i_w3_size : QgU C0) {a : UY} {r : Int} (h : U4.s k C0 a = some r) : lw 0 105 (loopAt pp 105 5) (QaB a) = some (Fh r) := by
 refine lpP (itP h) (Qli C0) fun a => ?_
 exact ⟨(Z8 _), ⟨rfl, fun q0 => Ql 2 (q0) (⟨rfl, fun q1 => ⟨rfl, fun q2 => fun e1 h => ⟨SN h, fun r2 h => ⟨i_w3_size _ _ _ h, rfl⟩⟩, fun q2 => trivial⟩, fun q1 => rfl⟩), fun q0 => noN_ok 2 (q0) (⟨rfl, rfl⟩)⟩⟩
theorem U4.m {j k : Nat} (hj : j ≤ k) (C0 : Xi) (D0 : Xi) (H0 : Le2 C0 D0) (a : UY) : Le (U4.s j C0 a) (U4.s k D0 a) := Le.iter (fun a => (QeT (tw2 H0) a).1 0) hj a
noncomputable def U4.w (C0 : Xi) : Yf := loopW (Yw C0)
theorem U4.cv (C0 : Nat → Xi) (D0 : Xi) (H0 : Cv2 C0 D0) (a : UY) : Cv (fun k => U4.s k (C0 k) a) (U4.w D0 a) := Cv.iter (fun a => QeT H0 a) a
def Gp (L0 : Yf) (a0 : (List Qy)) (a1 : Int) : Option Int := (bif (decide (a1 > 7)) then (some (1000 : Int)) else ((L0 (UY.mk a0 a1 (0 : Int) (0 : Int))).bind (fun (o1 : Int) => (some o1))))
theorem Qjt {L0 : Nat → Yf} {M0 : Yf} (N0 : Cv1 L0 M0) (a0 : (List Qy)) (a1 : Int) : Cv (fun k => Gp (L0 k) a0 a1) (Gp M0 a0 a1) := by
 unfold Gp
 exact .cond cst (.bind (N0 _) (fun o1 => by exact .const _))
noncomputable def QoT (L0 : Yf) (a0 : (List Qy)) (a1 : Int) : Tr Int AH := (.as (decide (a1 > 7)) (rt Qp (zi 1000)) (Qlh L0 (UY.mk a0 a1 i0 i0) (fun o1 => (rt Qp o1))))
noncomputable def JU.s : Nat → (List Qy) → Int → Option Int
 | 0, _, _ => none
 | k + 1, a0, a1 => Gp (U4.s k (fun a0 a1 => JU.s k a0 a1)) a0 a1
termination_by structural k => k
theorem Qgs : ∀ (k : Nat), (QgU (JU.s k))
 | 0 => fun _ _ _ h => (nomatch h)
 | k + 1 => by
  have i_w3_size : QgU (JU.s k) := Qgs k
  exact fun a0 a1 r h => by
    refine fnP (QoT (U4.s k (JU.s k)) a0 a1) ?_ h
    exact ⟨rfl, fun q0 => rfl, fun q0 => fun o1 h => ⟨Qka k i_w3_size h, rfl⟩⟩
theorem QeU : ∀ (k : Nat), (∀ (a0 : (List Qy)) (a1 : Int), Le (JU.s k a0 a1) (JU.s (k + 1) a0 a1))
 | 0 => fun _ _ _ h => (nomatch h)
 | k + 1 => by
  have i_w3_size : ∀ (a0 : (List Qy)) (a1 : Int), Le (JU.s k a0 a1) (JU.s (k + 1) a0 a1) := QeU k
  exact fun a0 a1 => (Qjt (tw1 (U4.m (Nat.le_succ k) (JU.s k) (JU.s (k + 1)) i_w3_size)) a0 a1).1 0
noncomputable def JU (a0 : (List Qy)) (a1 : Int) : Option Int := lim fun k => JU.s k a0 a1
theorem JU.cv (a0 : (List Qy)) (a1 : Int) : Cv (fun k => JU.s k a0 a1) (JU a0 a1) := .lim fun k => (QeU k) a0 a1
theorem JU.ok {a0 : (List Qy)} {a1 : Int} {r : Int} (h : JU a0 a1 = some r) : ww 105 [.sl (UV a0), xi a1] [] = some (Qp r) := let ⟨k, e⟩ := ((JU.cv a0 a1).2 r).1 h; (Qgs k) a0 a1 _ e
noncomputable def U4 : Yf := U4.w JU
theorem U4.eq (a : UY) : U4 a = (Yw JU a).bind (Sum.elim U4 some) := JM _ _
theorem JU.eq (a0 : (List Qy)) (a1 : Int) : JU a0 a1 = Gp U4 a0 a1 := Cv.uniq (JU.cv a0 a1).shift (Qjt (U4.cv (fun k => JU.s k) JU JU.cv) a0 a1)
noncomputable abbrev QoU {ρ R : Type} (a0 : (List Qy)) (a1 : Int) (k : Int → Tr ρ R) : Tr ρ R := Qjs JU a0 a1 k
abbrev Qm0 := (List Qy) → Option Bool
def QgV (C0 : Xi) (a0 : (List Qy)) : Option Bool := ((C0 a0 (0 : Int)).bind fun r1 => (some (decide (r1 ≤ 16))))
noncomputable def G6 : Qm0 := QgV JU
theorem G6.eq (a0 : (List Qy)) : G6 a0 = QgV JU a0 := rfl
noncomputable def QpV (a0 : (List Qy)) : Tr Bool AH := (QoU a0 i0 fun r1 => (rt Qk (decide (r1 ≤ 16))))
theorem G6.ok {a0 : (List Qy)} {r : Bool} (h : G6 a0 = some r) : ww 61 [.sl (UV a0)] [] = some (Qk r) := by
 refine fnP (QpV a0) ?_ h
 exact fun r1 h => ⟨JU.ok h, rfl⟩
noncomputable abbrev QpW {ρ R : Type} (a0 : (List Qy)) (k : Bool → Tr ρ R) : Tr ρ R := .call (ww 61 [.sl (UV a0)] []) (G6 a0) Qk k
abbrev Qm1 := (List QB) → Option Bool
structure We where
 x0 : (List QB)
 x3 : Int
def QbM (a : We) : St := { n := 26, nx := 0, env := [(0, .sl (Xe a.x0)), (3, xi a.x3)], heap := [] }
def QeV (a : Bool) : Ex × St := (.ret, { n := 26, nx := 0, env := [(2, xo a)], heap := [] })
def QeW (a : Unit) : Ex × St := (.exit 0, { n := 26, nx := 0, env := [], heap := [] })
def Ph (a : (Bool ⊕ Unit)) : Ex × St := Sum.elim QeV QeW a
abbrev QhZ := We → Option (Bool ⊕ Unit)
def Pi (C0 : Qm0) (a : We) : Option (We ⊕ (Bool ⊕ Unit)) := (bif (decide (a.x3 < (((a.x0.length) : Nat) : Int))) then (bif (decide (0 ≤ a.x3)) then ((a.x0[(Int.toNat a.x3)]?).bind fun e1 => ((C0 e1.E).bind fun r2 => (bif (!r2) then (some (.inr (.inl false))) else ((a.x0[(Int.toNat a.x3)]?).bind fun e3 => (bif (decide ((((e3.Ns.length) : Nat) : Int) > 60)) then (some (.inr (.inl false))) else (some (.inl (We.mk a.x0 (w64 (a.x3 + 1)))))))))) else none) else (some (.inr (.inr ()))))
noncomputable def WP : QhZ := loopW (Pi G6)
theorem WP.eq (a : We) : WP a = (Pi G6 a).bind (Sum.elim WP some) := JM _ _
noncomputable abbrev QmB {ρ R : Type} (a : We) (k0 : Bool → Tr ρ R) (k1 : Unit → Tr ρ R) : Tr ρ R := .loop2 (loopAt pp 24 2) (QbM a) (WP a) QeV QeW k0 k1
noncomputable def QmC (a : We) : Tr (We ⊕ (Bool ⊕ Unit)) XS := (.num ((Xe a.x0).length) (a.x0.length) (.as (decide (a.x3 < (((a.x0.length) : Nat) : Int))) (let u88 := (decide (0 ≤ a.x3)); .as u88 (.row ((Xe a.x0)[(Int.toNat a.x3)]?) (a.x0[(Int.toNat a.x3)]?) V1 fun (e1 : QB) => (QpW e1.E fun r2 => (.as (!r2) (yesN 7 (!r2) (.yes true (rx Ph (.inl false)))) (noN 2 (!r2) (.yes u88 (.row ((Xe a.x0)[(Int.toNat a.x3)]?) (a.x0[(Int.toNat a.x3)]?) V1 fun (e3 : QB) => (noN 3 (!r2) (.num ((Ja e3.Ns).length) (e3.Ns.length) (noN 2 (!r2) (.as (decide ((((e3.Ns.length) : Nat) : Int) > 60)) (rx Ph (.inl false)) (lf QbM (We.mk a.x0 (w64 (a.x3 + 1)))))))))))))) .fail) (rx Ph (.inr ()))))
theorem WP.ok {a : We} {r : (Bool ⊕ Unit)} (h : WP a = some r) : lw 0 24 (loopAt pp 24 2) (QbM a) = some (Ph r) := by
 refine lpP h QmC fun a => ?_
 exact ⟨(Qeo _), ⟨rfl, fun q0 => ⟨rfl, fun q1 => fun e1 h => ⟨SP h, fun r2 h => ⟨G6.ok h, ⟨rfl, fun q2 => Ql 7 (q2) (⟨rfl, rfl⟩), fun q2 => noN_ok 2 (q2) (⟨q1, fun e3 h => ⟨SP h, noN_ok 3 (q2) (⟨(Vj _), noN_ok 2 (q2) (⟨rfl, fun q3 => rfl, fun q3 => rfl⟩)⟩)⟩⟩)⟩⟩⟩, fun q1 => trivial⟩, fun q0 => rfl⟩⟩
def QgW (L0 : QhZ) (a0 : (List QB)) : Option Bool := ((L0 (We.mk a0 (0 : Int))).bind fun x => Sum.elim (fun (o1 : Bool) => (some o1)) (fun (o2 : Unit) => (some true)) x)
noncomputable def G7 : Qm1 := QgW WP
theorem G7.eq (a0 : (List QB)) : G7 a0 = QgW WP a0 := rfl
noncomputable def QpX (a0 : (List QB)) : Tr Bool AH := (QmB (We.mk a0 i0) (fun o1 => (rt Qk o1)) (fun o2 => (rt Qk true)))
theorem G7.ok {a0 : (List QB)} {r : Bool} (h : G7 a0 = some r) : ww 24 [.sl (Xe a0)] [] = some (Qk r) := by
 refine fnP (QpX a0) ?_ h
 exact ⟨fun o1 h => ⟨WP.ok (r := (.inl _)) h, rfl⟩, fun o2 h => ⟨WP.ok (r := (.inr _)) h, rfl⟩⟩
noncomputable abbrev QpY {ρ R : Type} (a0 : (List QB)) (k : Bool → Tr ρ R) : Tr ρ R := .call (ww 24 [.sl (Xe a0)] []) (G7 a0) Qk k
def Qa7 (r : (QI × Int × Bool)) : AV × Heap := (.tup [.agg (QcP r.1), xi r.2.1, xo r.2.2], [])
abbrev Qc3 := Int → ByteArray → Option (QI × Int × Bool)
structure QE where
 x0 : Int
 x1 : ByteArray
 x7 : Int
 x8 : Int
 x10 : Int
 x11 : Int
 h0 : QI
 h1_0 : ByteArray
 h1_1 : ByteArray
 h1_2 : ByteArray
structure QY where
 x5 : Int
 x6 : Bool
 h0 : QI
def Vg (a : QE) : St := { n := 56, nx := 2, env := [(0, xi a.x0), (1, xs a.x1), (4, .ptr 0 0), (7, xi a.x7), (8, xi a.x8), (9, .ptr 1 0), (10, xi a.x10), (11, xi a.x11)], heap := [(0, .box [] (QcP a.h0)), (1, .box [] [xs a.h1_0, xs a.h1_1, xs a.h1_2])] }
def Qdv (a : QY) : Ex × St := (.ret, { n := 56, nx := 1, env := [(4, .ptr 0 0), (5, xi a.x5), (6, xo a.x6)], heap := [(0, .box [] (QcP a.h0))] })
def Qdw (a : QI) : Ex × St := (.exit 0, { n := 56, nx := 1, env := [(4, .ptr 0 0)], heap := [(0, .box [] (QcP a))] })
def Vz (a : (QY ⊕ QI)) : Ex × St := Sum.elim Qdv Qdw a
abbrev Qgt := QE → Option (QY ⊕ QI)
def Gq (a : QE) : Option (QE ⊕ (QY ⊕ QI)) := (bif (decide (a.x11 < 1212)) then (bif (decide (0 ≤ a.x11 ∧ a.x11 < ((Qo.size : Nat) : Int))) then (bif (((Qo.data.getD (Int.toNat a.x11) 0).toNat : Int) != 58) then (bif (((Qo.data.getD (Int.toNat a.x11) 0).toNat : Int) != 124) then (some (.inl (QE.mk a.x0 a.x1 a.x7 a.x8 a.x10 (w64 (a.x11 + 1)) a.h0 a.h1_0 a.h1_1 a.h1_2))) else (bif (decide (0 ≤ a.x8 ∧ a.x8 ≤ a.x11 ∧ a.x11 ≤ ((Qo.size : Nat) : Int))) then (bif (decide (a.x10 = 0)) then (bif (((Qo.data.getD (Int.toNat a.x11) 0).toNat : Int) == 124) then (bif (a.x7 == a.x0) then (some (.inr (.inl (QY.mk a.x7 true (QI.mk (Qo.extract (Int.toNat a.x8) (Int.toNat a.x11)) a.h1_1 a.h1_2))))) else (bif (eqS (Qo.extract (Int.toNat a.x8) (Int.toNat a.x11)) a.x1) then (some (.inr (.inl (QY.mk a.x7 true (QI.mk (Qo.extract (Int.toNat a.x8) (Int.toNat a.x11)) a.h1_1 a.h1_2))))) else (some (.inl (QE.mk a.x0 a.x1 (w64 (a.x7 + 1)) (w64 (a.x11 + 1)) (0 : Int) (w64 (a.x11 + 1)) a.h0 (Qo.extract (Int.toNat a.x8) (Int.toNat a.x11)) a.h1_1 a.h1_2))))) else (some (.inl (QE.mk a.x0 a.x1 a.x7 (w64 (a.x11 + 1)) (w64 (a.x10 + 1)) (w64 (a.x11 + 1)) a.h0 (Qo.extract (Int.toNat a.x8) (Int.toNat a.x11)) a.h1_1 a.h1_2)))) else (bif (decide (a.x10 = 1)) then (bif (((Qo.data.getD (Int.toNat a.x11) 0).toNat : Int) == 124) then (bif (a.x7 == a.x0) then (some (.inr (.inl (QY.mk a.x7 true (QI.mk a.h1_0 (Qo.extract (Int.toNat a.x8) (Int.toNat a.x11)) a.h1_2))))) else (bif (eqS a.h1_0 a.x1) then (some (.inr (.inl (QY.mk a.x7 true (QI.mk a.h1_0 (Qo.extract (Int.toNat a.x8) (Int.toNat a.x11)) a.h1_2))))) else (some (.inl (QE.mk a.x0 a.x1 (w64 (a.x7 + 1)) (w64 (a.x11 + 1)) (0 : Int) (w64 (a.x11 + 1)) a.h0 a.h1_0 (Qo.extract (Int.toNat a.x8) (Int.toNat a.x11)) a.h1_2))))) else (some (.inl (QE.mk a.x0 a.x1 a.x7 (w64 (a.x11 + 1)) (w64 (a.x10 + 1)) (w64 (a.x11 + 1)) a.h0 a.h1_0 (Qo.extract (Int.toNat a.x8) (Int.toNat a.x11)) a.h1_2)))) else (bif (decide (a.x10 = 2)) then (bif (((Qo.data.getD (Int.toNat a.x11) 0).toNat : Int) == 124) then (bif (a.x7 == a.x0) then (some (.inr (.inl (QY.mk a.x7 true (QI.mk a.h1_0 a.h1_1 (Qo.extract (Int.toNat a.x8) (Int.toNat a.x11))))))) else (bif (eqS a.h1_0 a.x1) then (some (.inr (.inl (QY.mk a.x7 true (QI.mk a.h1_0 a.h1_1 (Qo.extract (Int.toNat a.x8) (Int.toNat a.x11))))))) else (some (.inl (QE.mk a.x0 a.x1 (w64 (a.x7 + 1)) (w64 (a.x11 + 1)) (0 : Int) (w64 (a.x11 + 1)) a.h0 a.h1_0 a.h1_1 (Qo.extract (Int.toNat a.x8) (Int.toNat a.x11))))))) else (some (.inl (QE.mk a.x0 a.x1 a.x7 (w64 (a.x11 + 1)) (w64 (a.x10 + 1)) (w64 (a.x11 + 1)) a.h0 a.h1_0 a.h1_1 (Qo.extract (Int.toNat a.x8) (Int.toNat a.x11)))))) else none))) else none)) else (bif (decide (0 ≤ a.x8 ∧ a.x8 ≤ a.x11 ∧ a.x11 ≤ ((Qo.size : Nat) : Int))) then (bif (decide (a.x10 = 0)) then (bif (((Qo.data.getD (Int.toNat a.x11) 0).toNat : Int) == 124) then (bif (a.x7 == a.x0) then (some (.inr (.inl (QY.mk a.x7 true (QI.mk (Qo.extract (Int.toNat a.x8) (Int.toNat a.x11)) a.h1_1 a.h1_2))))) else (bif (eqS (Qo.extract (Int.toNat a.x8) (Int.toNat a.x11)) a.x1) then (some (.inr (.inl (QY.mk a.x7 true (QI.mk (Qo.extract (Int.toNat a.x8) (Int.toNat a.x11)) a.h1_1 a.h1_2))))) else (some (.inl (QE.mk a.x0 a.x1 (w64 (a.x7 + 1)) (w64 (a.x11 + 1)) (0 : Int) (w64 (a.x11 + 1)) a.h0 (Qo.extract (Int.toNat a.x8) (Int.toNat a.x11)) a.h1_1 a.h1_2))))) else (some (.inl (QE.mk a.x0 a.x1 a.x7 (w64 (a.x11 + 1)) (w64 (a.x10 + 1)) (w64 (a.x11 + 1)) a.h0 (Qo.extract (Int.toNat a.x8) (Int.toNat a.x11)) a.h1_1 a.h1_2)))) else (bif (decide (a.x10 = 1)) then (bif (((Qo.data.getD (Int.toNat a.x11) 0).toNat : Int) == 124) then (bif (a.x7 == a.x0) then (some (.inr (.inl (QY.mk a.x7 true (QI.mk a.h1_0 (Qo.extract (Int.toNat a.x8) (Int.toNat a.x11)) a.h1_2))))) else (bif (eqS a.h1_0 a.x1) then (some (.inr (.inl (QY.mk a.x7 true (QI.mk a.h1_0 (Qo.extract (Int.toNat a.x8) (Int.toNat a.x11)) a.h1_2))))) else (some (.inl (QE.mk a.x0 a.x1 (w64 (a.x7 + 1)) (w64 (a.x11 + 1)) (0 : Int) (w64 (a.x11 + 1)) a.h0 a.h1_0 (Qo.extract (Int.toNat a.x8) (Int.toNat a.x11)) a.h1_2))))) else (some (.inl (QE.mk a.x0 a.x1 a.x7 (w64 (a.x11 + 1)) (w64 (a.x10 + 1)) (w64 (a.x11 + 1)) a.h0 a.h1_0 (Qo.extract (Int.toNat a.x8) (Int.toNat a.x11)) a.h1_2)))) else (bif (decide (a.x10 = 2)) then (bif (((Qo.data.getD (Int.toNat a.x11) 0).toNat : Int) == 124) then (bif (a.x7 == a.x0) then (some (.inr (.inl (QY.mk a.x7 true (QI.mk a.h1_0 a.h1_1 (Qo.extract (Int.toNat a.x8) (Int.toNat a.x11))))))) else (bif (eqS a.h1_0 a.x1) then (some (.inr (.inl (QY.mk a.x7 true (QI.mk a.h1_0 a.h1_1 (Qo.extract (Int.toNat a.x8) (Int.toNat a.x11))))))) else (some (.inl (QE.mk a.x0 a.x1 (w64 (a.x7 + 1)) (w64 (a.x11 + 1)) (0 : Int) (w64 (a.x11 + 1)) a.h0 a.h1_0 a.h1_1 (Qo.extract (Int.toNat a.x8) (Int.toNat a.x11))))))) else (some (.inl (QE.mk a.x0 a.x1 a.x7 (w64 (a.x11 + 1)) (w64 (a.x10 + 1)) (w64 (a.x11 + 1)) a.h0 a.h1_0 a.h1_1 (Qo.extract (Int.toNat a.x8) (Int.toNat a.x11)))))) else none))) else none)) else none) else (some (.inr (.inr a.h0))))
noncomputable def U5 : Qgt := loopW (Gq )
theorem U5.eq (a : QE) : U5 a = (Gq a).bind (Sum.elim U5 some) := JM _ _
noncomputable abbrev Qlj {ρ R : Type} (a : QE) (k0 : QY → Tr ρ R) (k1 : QI → Tr ρ R) : Tr ρ R := .loop2 (loopAt pp 58 5) (Vg a) (U5 a) Qdv Qdw k0 k1
noncomputable def Qlk (a : QE) : Tr (QE ⊕ (QY ⊕ QI)) XS := (.as (decide (a.x11 < 1212)) (let u96 := (in1 a.x11 (zz Qo)); .as u96 (let u95 := ((gb Qo a.x11) != 58); .as u95 (.yes u95 (.yes u96 (yesN 2 u95 (.as ((gb Qo a.x11) != 124) (lf Vg (QE.mk a.x0 a.x1 a.x7 a.x8 a.x10 (w64 (a.x11 + 1)) a.h0 a.h1_0 a.h1_1 a.h1_2)) (.as (in2 a.x8 a.x11 (zz Qo)) (.ask (decide (a.x10 = ((0 : Nat) : Int))) (decide (a.x10 = 0)) (.yes u96 (.as ((gb Qo a.x11) == 124) (let u89 := (a.x7 == a.x0); .as u89 (yesN 4 u89 (.yes true (.yes (decide (i0 = ((0 : Nat) : Int))) (.no (decide ((zi 1) = ((0 : Nat) : Int))) (.yes (decide ((zi 1) = ((1 : Nat) : Int))) (.no (decide ((zi 2) = ((0 : Nat) : Int))) (.no (decide ((zi 2) = ((1 : Nat) : Int))) (.yes (decide ((zi 2) = ((2 : Nat) : Int))) (rx Vz (.inl (QY.mk a.x7 true (QI.mk (cu Qo a.x8 a.x11) a.h1_1 a.h1_2)))))))))))) (.yes (decide (i0 = ((0 : Nat) : Int))) (noN 4 u89 (.as (eqS (cu Qo a.x8 a.x11) a.x1) (.yes (decide (i0 = ((0 : Nat) : Int))) (.no (decide ((zi 1) = ((0 : Nat) : Int))) (.yes (decide ((zi 1) = ((1 : Nat) : Int))) (.no (decide ((zi 2) = ((0 : Nat) : Int))) (.no (decide ((zi 2) = ((1 : Nat) : Int))) (.yes (decide ((zi 2) = ((2 : Nat) : Int))) (rx Vz (.inl (QY.mk a.x7 true (QI.mk (cu Qo a.x8 a.x11) a.h1_1 a.h1_2)))))))))) (lf Vg (QE.mk a.x0 a.x1 (w64 (a.x7 + 1)) (w64 (a.x11 + 1)) i0 (w64 (a.x11 + 1)) a.h0 (cu Qo a.x8 a.x11) a.h1_1 a.h1_2)))))) (lf Vg (QE.mk a.x0 a.x1 a.x7 (w64 (a.x11 + 1)) (w64 (a.x10 + 1)) (w64 (a.x11 + 1)) a.h0 (cu Qo a.x8 a.x11) a.h1_1 a.h1_2)))) (.ask (decide (a.x10 = ((1 : Nat) : Int))) (decide (a.x10 = 1)) (.yes u96 (.as ((gb Qo a.x11) == 124) (let u90 := (a.x7 == a.x0); .as u90 (yesN 4 u90 (.yes true (.yes (decide (i0 = ((0 : Nat) : Int))) (.no (decide ((zi 1) = ((0 : Nat) : Int))) (.yes (decide ((zi 1) = ((1 : Nat) : Int))) (.no (decide ((zi 2) = ((0 : Nat) : Int))) (.no (decide ((zi 2) = ((1 : Nat) : Int))) (.yes (decide ((zi 2) = ((2 : Nat) : Int))) (rx Vz (.inl (QY.mk a.x7 true (QI.mk a.h1_0 (cu Qo a.x8 a.x11) a.h1_2)))))))))))) (.yes (decide (i0 = ((0 : Nat) : Int))) (noN 4 u90 (.as (eqS a.h1_0 a.x1) (.yes (decide (i0 = ((0 : Nat) : Int))) (.no (decide ((zi 1) = ((0 : Nat) : Int))) (.yes (decide ((zi 1) = ((1 : Nat) : Int))) (.no (decide ((zi 2) = ((0 : Nat) : Int))) (.no (decide ((zi 2) = ((1 : Nat) : Int))) (.yes (decide ((zi 2) = ((2 : Nat) : Int))) (rx Vz (.inl (QY.mk a.x7 true (QI.mk a.h1_0 (cu Qo a.x8 a.x11) a.h1_2)))))))))) (lf Vg (QE.mk a.x0 a.x1 (w64 (a.x7 + 1)) (w64 (a.x11 + 1)) i0 (w64 (a.x11 + 1)) a.h0 a.h1_0 (cu Qo a.x8 a.x11) a.h1_2)))))) (lf Vg (QE.mk a.x0 a.x1 a.x7 (w64 (a.x11 + 1)) (w64 (a.x10 + 1)) (w64 (a.x11 + 1)) a.h0 a.h1_0 (cu Qo a.x8 a.x11) a.h1_2)))) (.ask (decide (a.x10 = ((2 : Nat) : Int))) (decide (a.x10 = 2)) (.yes u96 (.as ((gb Qo a.x11) == 124) (let u91 := (a.x7 == a.x0); .as u91 (yesN 4 u91 (.yes true (.yes (decide (i0 = ((0 : Nat) : Int))) (.no (decide ((zi 1) = ((0 : Nat) : Int))) (.yes (decide ((zi 1) = ((1 : Nat) : Int))) (.no (decide ((zi 2) = ((0 : Nat) : Int))) (.no (decide ((zi 2) = ((1 : Nat) : Int))) (.yes (decide ((zi 2) = ((2 : Nat) : Int))) (rx Vz (.inl (QY.mk a.x7 true (QI.mk a.h1_0 a.h1_1 (cu Qo a.x8 a.x11))))))))))))) (.yes (decide (i0 = ((0 : Nat) : Int))) (noN 4 u91 (.as (eqS a.h1_0 a.x1) (.yes (decide (i0 = ((0 : Nat) : Int))) (.no (decide ((zi 1) = ((0 : Nat) : Int))) (.yes (decide ((zi 1) = ((1 : Nat) : Int))) (.no (decide ((zi 2) = ((0 : Nat) : Int))) (.no (decide ((zi 2) = ((1 : Nat) : Int))) (.yes (decide ((zi 2) = ((2 : Nat) : Int))) (rx Vz (.inl (QY.mk a.x7 true (QI.mk a.h1_0 a.h1_1 (cu Qo a.x8 a.x11))))))))))) (lf Vg (QE.mk a.x0 a.x1 (w64 (a.x7 + 1)) (w64 (a.x11 + 1)) i0 (w64 (a.x11 + 1)) a.h0 a.h1_0 a.h1_1 (cu Qo a.x8 a.x11))))))) (lf Vg (QE.mk a.x0 a.x1 a.x7 (w64 (a.x11 + 1)) (w64 (a.x10 + 1)) (w64 (a.x11 + 1)) a.h0 a.h1_0 a.h1_1 (cu Qo a.x8 a.x11))))) .fail))) .fail))))) (noN 3 u95 (.no false (.as (in2 a.x8 a.x11 (zz Qo)) (.ask (decide (a.x10 = ((0 : Nat) : Int))) (decide (a.x10 = 0)) (.yes u96 (.as ((gb Qo a.x11) == 124) (let u92 := (a.x7 == a.x0); .as u92 (yesN 4 u92 (.yes true (.yes (decide (i0 = ((0 : Nat) : Int))) (.no (decide ((zi 1) = ((0 : Nat) : Int))) (.yes (decide ((zi 1) = ((1 : Nat) : Int))) (.no (decide ((zi 2) = ((0 : Nat) : Int))) (.no (decide ((zi 2) = ((1 : Nat) : Int))) (.yes (decide ((zi 2) = ((2 : Nat) : Int))) (rx Vz (.inl (QY.mk a.x7 true (QI.mk (cu Qo a.x8 a.x11) a.h1_1 a.h1_2)))))))))))) (.yes (decide (i0 = ((0 : Nat) : Int))) (noN 4 u92 (.as (eqS (cu Qo a.x8 a.x11) a.x1) (.yes (decide (i0 = ((0 : Nat) : Int))) (.no (decide ((zi 1) = ((0 : Nat) : Int))) (.yes (decide ((zi 1) = ((1 : Nat) : Int))) (.no (decide ((zi 2) = ((0 : Nat) : Int))) (.no (decide ((zi 2) = ((1 : Nat) : Int))) (.yes (decide ((zi 2) = ((2 : Nat) : Int))) (rx Vz (.inl (QY.mk a.x7 true (QI.mk (cu Qo a.x8 a.x11) a.h1_1 a.h1_2)))))))))) (lf Vg (QE.mk a.x0 a.x1 (w64 (a.x7 + 1)) (w64 (a.x11 + 1)) i0 (w64 (a.x11 + 1)) a.h0 (cu Qo a.x8 a.x11) a.h1_1 a.h1_2)))))) (lf Vg (QE.mk a.x0 a.x1 a.x7 (w64 (a.x11 + 1)) (w64 (a.x10 + 1)) (w64 (a.x11 + 1)) a.h0 (cu Qo a.x8 a.x11) a.h1_1 a.h1_2)))) (.ask (decide (a.x10 = ((1 : Nat) : Int))) (decide (a.x10 = 1)) (.yes u96 (.as ((gb Qo a.x11) == 124) (let u93 := (a.x7 == a.x0); .as u93 (yesN 4 u93 (.yes true (.yes (decide (i0 = ((0 : Nat) : Int))) (.no (decide ((zi 1) = ((0 : Nat) : Int))) (.yes (decide ((zi 1) = ((1 : Nat) : Int))) (.no (decide ((zi 2) = ((0 : Nat) : Int))) (.no (decide ((zi 2) = ((1 : Nat) : Int))) (.yes (decide ((zi 2) = ((2 : Nat) : Int))) (rx Vz (.inl (QY.mk a.x7 true (QI.mk a.h1_0 (cu Qo a.x8 a.x11) a.h1_2)))))))))))) (.yes (decide (i0 = ((0 : Nat) : Int))) (noN 4 u93 (.as (eqS a.h1_0 a.x1) (.yes (decide (i0 = ((0 : Nat) : Int))) (.no (decide ((zi 1) = ((0 : Nat) : Int))) (.yes (decide ((zi 1) = ((1 : Nat) : Int))) (.no (decide ((zi 2) = ((0 : Nat) : Int))) (.no (decide ((zi 2) = ((1 : Nat) : Int))) (.yes (decide ((zi 2) = ((2 : Nat) : Int))) (rx Vz (.inl (QY.mk a.x7 true (QI.mk a.h1_0 (cu Qo a.x8 a.x11) a.h1_2)))))))))) (lf Vg (QE.mk a.x0 a.x1 (w64 (a.x7 + 1)) (w64 (a.x11 + 1)) i0 (w64 (a.x11 + 1)) a.h0 a.h1_0 (cu Qo a.x8 a.x11) a.h1_2)))))) (lf Vg (QE.mk a.x0 a.x1 a.x7 (w64 (a.x11 + 1)) (w64 (a.x10 + 1)) (w64 (a.x11 + 1)) a.h0 a.h1_0 (cu Qo a.x8 a.x11) a.h1_2)))) (.ask (decide (a.x10 = ((2 : Nat) : Int))) (decide (a.x10 = 2)) (.yes u96 (.as ((gb Qo a.x11) == 124) (let u94 := (a.x7 == a.x0); .as u94 (yesN 4 u94 (.yes true (.yes (decide (i0 = ((0 : Nat) : Int))) (.no (decide ((zi 1) = ((0 : Nat) : Int))) (.yes (decide ((zi 1) = ((1 : Nat) : Int))) (.no (decide ((zi 2) = ((0 : Nat) : Int))) (.no (decide ((zi 2) = ((1 : Nat) : Int))) (.yes (decide ((zi 2) = ((2 : Nat) : Int))) (rx Vz (.inl (QY.mk a.x7 true (QI.mk a.h1_0 a.h1_1 (cu Qo a.x8 a.x11))))))))))))) (.yes (decide (i0 = ((0 : Nat) : Int))) (noN 4 u94 (.as (eqS a.h1_0 a.x1) (.yes (decide (i0 = ((0 : Nat) : Int))) (.no (decide ((zi 1) = ((0 : Nat) : Int))) (.yes (decide ((zi 1) = ((1 : Nat) : Int))) (.no (decide ((zi 2) = ((0 : Nat) : Int))) (.no (decide ((zi 2) = ((1 : Nat) : Int))) (.yes (decide ((zi 2) = ((2 : Nat) : Int))) (rx Vz (.inl (QY.mk a.x7 true (QI.mk a.h1_0 a.h1_1 (cu Qo a.x8 a.x11))))))))))) (lf Vg (QE.mk a.x0 a.x1 (w64 (a.x7 + 1)) (w64 (a.x11 + 1)) i0 (w64 (a.x11 + 1)) a.h0 a.h1_0 a.h1_1 (cu Qo a.x8 a.x11))))))) (lf Vg (QE.mk a.x0 a.x1 a.x7 (w64 (a.x11 + 1)) (w64 (a.x10 + 1)) (w64 (a.x11 + 1)) a.h0 a.h1_0 a.h1_1 (cu Qo a.x8 a.x11))))) .fail))) .fail)))) .fail) (rx Vz (.inr a.h0)))
theorem U5.ok {a : QE} {r : (QY ⊕ QI)} (h : U5 a = some r) : lw 0 58 (loopAt pp 58 5) (Vg a) = some (Vz r) := by
 refine lpP h Qlk fun a => ?_
 exact ⟨rfl, fun q0 => ⟨rfl, fun q1 => ⟨rfl, fun q2 => ⟨q2, ⟨q1, Ql 2 (q2) (⟨rfl, fun q3 => rfl, fun q3 => ⟨rfl, fun q4 => ⟨rfl, fun q5 => ⟨q1, ⟨rfl, fun q6 => ⟨rfl, fun q7 => Ql 4 (q7) (⟨rfl, ⟨rfl, ⟨rfl, ⟨rfl, ⟨rfl, ⟨rfl, ⟨rfl, rfl⟩⟩⟩⟩⟩⟩⟩), fun q7 => ⟨rfl, noN_ok 4 (q7) (⟨rfl, fun q8 => ⟨rfl, ⟨rfl, ⟨rfl, ⟨rfl, ⟨rfl, ⟨rfl, rfl⟩⟩⟩⟩⟩⟩, fun q8 => rfl⟩)⟩⟩, fun q6 => rfl⟩⟩, fun q5 => ⟨rfl, fun q6 => ⟨q1, ⟨rfl, fun q7 => ⟨rfl, fun q8 => Ql 4 (q8) (⟨rfl, ⟨rfl, ⟨rfl, ⟨rfl, ⟨rfl, ⟨rfl, ⟨rfl, rfl⟩⟩⟩⟩⟩⟩⟩), fun q8 => ⟨rfl, noN_ok 4 (q8) (⟨rfl, fun q9 => ⟨rfl, ⟨rfl, ⟨rfl, ⟨rfl, ⟨rfl, ⟨rfl, rfl⟩⟩⟩⟩⟩⟩, fun q9 => rfl⟩)⟩⟩, fun q7 => rfl⟩⟩, fun q6 => ⟨rfl, fun q7 => ⟨q1, ⟨rfl, fun q8 => ⟨rfl, fun q9 => Ql 4 (q9) (⟨rfl, ⟨rfl, ⟨rfl, ⟨rfl, ⟨rfl, ⟨rfl, ⟨rfl, rfl⟩⟩⟩⟩⟩⟩⟩), fun q9 => ⟨rfl, noN_ok 4 (q9) (⟨rfl, fun q10 => ⟨rfl, ⟨rfl, ⟨rfl, ⟨rfl, ⟨rfl, ⟨rfl, rfl⟩⟩⟩⟩⟩⟩, fun q10 => rfl⟩)⟩⟩, fun q8 => rfl⟩⟩, fun q7 => trivial⟩⟩⟩, fun q4 => trivial⟩⟩)⟩⟩, fun q2 => noN_ok 3 (q2) (⟨rfl, ⟨rfl, fun q3 => ⟨rfl, fun q4 => ⟨q1, ⟨rfl, fun q5 => ⟨rfl, fun q6 => Ql 4 (q6) (⟨rfl, ⟨rfl, ⟨rfl, ⟨rfl, ⟨rfl, ⟨rfl, ⟨rfl, rfl⟩⟩⟩⟩⟩⟩⟩), fun q6 => ⟨rfl, noN_ok 4 (q6) (⟨rfl, fun q7 => ⟨rfl, ⟨rfl, ⟨rfl, ⟨rfl, ⟨rfl, ⟨rfl, rfl⟩⟩⟩⟩⟩⟩, fun q7 => rfl⟩)⟩⟩, fun q5 => rfl⟩⟩, fun q4 => ⟨rfl, fun q5 => ⟨q1, ⟨rfl, fun q6 => ⟨rfl, fun q7 => Ql 4 (q7) (⟨rfl, ⟨rfl, ⟨rfl, ⟨rfl, ⟨rfl, ⟨rfl, ⟨rfl, rfl⟩⟩⟩⟩⟩⟩⟩), fun q7 => ⟨rfl, noN_ok 4 (q7) (⟨rfl, fun q8 => ⟨rfl, ⟨rfl, ⟨rfl, ⟨rfl, ⟨rfl, ⟨rfl, rfl⟩⟩⟩⟩⟩⟩, fun q8 => rfl⟩)⟩⟩, fun q6 => rfl⟩⟩, fun q5 => ⟨rfl, fun q6 => ⟨q1, ⟨rfl, fun q7 => ⟨rfl, fun q8 => Ql 4 (q8) (⟨rfl, ⟨rfl, ⟨rfl, ⟨rfl, ⟨rfl, ⟨rfl, ⟨rfl, rfl⟩⟩⟩⟩⟩⟩⟩), fun q8 => ⟨rfl, noN_ok 4 (q8) (⟨rfl, fun q9 => ⟨rfl, ⟨rfl, ⟨rfl, ⟨rfl, ⟨rfl, ⟨rfl, rfl⟩⟩⟩⟩⟩⟩, fun q9 => rfl⟩)⟩⟩, fun q7 => rfl⟩⟩, fun q6 => trivial⟩⟩⟩, fun q3 => trivial⟩⟩)⟩, fun q1 => trivial⟩, fun q0 => rfl⟩
def QeX (L0 : Qgt) (a0 : Int) (a1 : ByteArray) : Option (QI × Int × Bool) := ((L0 (QE.mk a0 a1 (0 : Int) (0 : Int) (0 : Int) (0 : Int) (QI.mk s_ s_ s_) s_ s_ s_)).bind fun x => Sum.elim (fun (o1 : QY) => (some (o1.h0, o1.x5, o1.x6))) (fun (o2 : QI) => (some ((QI.mk s_ s_ s_), (0 : Int), false))) x)
noncomputable def XE : Qc3 := QeX U5
theorem XE.eq (a0 : Int) (a1 : ByteArray) : XE a0 a1 = QeX U5 a0 a1 := rfl
noncomputable def QoV (a0 : Int) (a1 : ByteArray) : Tr (QI × Int × Bool) AH := (Qlj (QE.mk a0 a1 i0 i0 i0 i0 (QI.mk s_ s_ s_) s_ s_ s_) (fun o1 => (rt Qa7 (o1.h0, o1.x5, o1.x6))) (fun o2 => (rt Qa7 ((QI.mk s_ s_ s_), i0, false))))
theorem XE.ok {a0 : Int} {a1 : ByteArray} {r : (QI × Int × Bool)} (h : XE a0 a1 = some r) : ww 58 [xi a0, xs a1] [] = some (Qa7 r) := by
 refine fnP (QoV a0 a1) ?_ h
 exact ⟨fun o1 h => ⟨U5.ok (r := (.inl _)) h, rfl⟩, fun o2 h => ⟨U5.ok (r := (.inr _)) h, rfl⟩⟩
noncomputable abbrev Qju {ρ R : Type} (a0 : Int) (a1 : ByteArray) (k : (QI × Int × Bool) → Tr ρ R) : Tr ρ R := .call (ww 58 [xi a0, xs a1] []) (XE a0 a1) Qa7 k
abbrev Qjv := Int → Option ByteArray
def Qc4 (C0 : Qc3) (a0 : Int) : Option ByteArray := ((C0 a0 h_20).bind fun r1 => (some r1.1.Kinds))
noncomputable def XV : Qjv := Qc4 XE
theorem XV.eq (a0 : Int) : XV a0 = Qc4 XE a0 := rfl
noncomputable def Qn5 (a0 : Int) : Tr ByteArray AH := (Qju a0 h_20 fun r1 => (rt Qf r1.1.Kinds))
theorem XV.ok {a0 : Int} {r : ByteArray} (h : XV a0 = some r) : ww 37 [xi a0] [] = some (Qf r) := by
 refine fnP (Qn5 a0) ?_ h
 exact fun r1 h => ⟨XE.ok h, rfl⟩
noncomputable abbrev Qn6 {ρ R : Type} (a0 : Int) (k : ByteArray → Tr ρ R) : Tr ρ R := .call (ww 37 [xi a0] []) (XV a0) Qf k
abbrev Qjw := ByteArray → Option (List ByteArray)
structure JN where
 x0 : ByteArray
 x4 : Int
 x5 : Int
 r0 : (List ByteArray)
def XW (a : JN) : St := { n := 35, nx := 1, env := [(0, xs a.x0), (3, .arr 0), (4, xi a.x4), (5, xi a.x5)], heap := [(0, .arr true 1 (Qi a.r0))] }
def P2 (a : (List ByteArray)) : Ex × St := (.exit 0, { n := 35, nx := 1, env := [(3, .arr 0)], heap := [(0, .arr true 1 (Qi a))] })
abbrev Gr := JN → Option (List ByteArray)
def P4 (a : JN) : Option (JN ⊕ (List ByteArray)) := (bif (decide (a.x5 ≤ ((a.x0.size : Nat) : Int))) then (bif (a.x5 == ((a.x0.size : Nat) : Int)) then (bif (decide (a.x5 > a.x4)) then (bif (decide (0 ≤ a.x4 ∧ a.x4 ≤ a.x5 ∧ a.x5 ≤ ((a.x0.size : Nat) : Int))) then (bif (decide ((a.r0.length + [(a.x0.extract (Int.toNat a.x4) (Int.toNat a.x5))].length) * 16 ≤ most)) then (some (.inl (JN.mk a.x0 (w64 (a.x5 + 1)) (w64 (a.x5 + 1)) (a.r0 ++ [(a.x0.extract (Int.toNat a.x4) (Int.toNat a.x5))])))) else none) else none) else (some (.inl (JN.mk a.x0 (w64 (a.x5 + 1)) (w64 (a.x5 + 1)) a.r0)))) else (bif (decide (0 ≤ a.x5 ∧ a.x5 < ((a.x0.size : Nat) : Int))) then (bif (((a.x0.data.getD (Int.toNat a.x5) 0).toNat : Int) == 32) then (bif (decide (a.x5 > a.x4)) then (bif (decide (0 ≤ a.x4 ∧ a.x4 ≤ a.x5 ∧ a.x5 ≤ ((a.x0.size : Nat) : Int))) then (bif (decide ((a.r0.length + [(a.x0.extract (Int.toNat a.x4) (Int.toNat a.x5))].length) * 16 ≤ most)) then (some (.inl (JN.mk a.x0 (w64 (a.x5 + 1)) (w64 (a.x5 + 1)) (a.r0 ++ [(a.x0.extract (Int.toNat a.x4) (Int.toNat a.x5))])))) else none) else none) else (some (.inl (JN.mk a.x0 (w64 (a.x5 + 1)) (w64 (a.x5 + 1)) a.r0)))) else (some (.inl (JN.mk a.x0 a.x4 (w64 (a.x5 + 1)) a.r0)))) else none)) else (some (.inr a.r0)))
noncomputable def Xb.s (k : Nat) : Gr := iter (P4 ) k
theorem Xb.cv (a : JN) : Cv (fun k => Xb.s k a) (loopW (P4 ) a) := Cv.iter (fun a => by exact .const _) a
noncomputable def Xb : Gr := loopW (P4 )
noncomputable abbrev Qkb {ρ R : Type} (a : JN) (k0 : (List ByteArray) → Tr ρ R) : Tr ρ R := .loop (loopAt pp 36 4) (XW a) (Xb a) P2 k0
noncomputable def Qkc (a : JN) : Tr (JN ⊕ (List ByteArray)) XS := (.as (decide (a.x5 ≤ (zz a.x0))) (let u97 := (a.x5 == (zz a.x0)); .as u97 (yesN 4 u97 (.yes true (.as (decide (a.x5 > a.x4)) (.as (in2 a.x4 a.x5 (zz a.x0)) (.rows [[xs (cu a.x0 a.x4 a.x5)]] (Qi [(cu a.x0 a.x4 a.x5)]) (.yes (decide ((Qi [(cu a.x0 a.x4 a.x5)]).all (fun r => r.length == 1) = true)) (.ask (decide (((Qi a.r0).length + (Qi [(cu a.x0 a.x4 a.x5)]).length) * 16 ≤ most)) (decide ((a.r0.length + [(cu a.x0 a.x4 a.x5)].length) * 16 ≤ most)) (.rows ((Qi a.r0) ++ (Qi [(cu a.x0 a.x4 a.x5)])) (Qi (a.r0 ++ [(cu a.x0 a.x4 a.x5)])) (lf XW (JN.mk a.x0 (w64 (a.x5 + 1)) (w64 (a.x5 + 1)) (a.r0 ++ [(cu a.x0 a.x4 a.x5)])))) .fail))) .fail) (lf XW (JN.mk a.x0 (w64 (a.x5 + 1)) (w64 (a.x5 + 1)) a.r0))))) (noN 2 u97 (.as (in1 a.x5 (zz a.x0)) (noN 2 u97 (.as ((gb a.x0 a.x5) == 32) (.as (decide (a.x5 > a.x4)) (.as (in2 a.x4 a.x5 (zz a.x0)) (.rows [[xs (cu a.x0 a.x4 a.x5)]] (Qi [(cu a.x0 a.x4 a.x5)]) (.yes (decide ((Qi [(cu a.x0 a.x4 a.x5)]).all (fun r => r.length == 1) = true)) (.ask (decide (((Qi a.r0).length + (Qi [(cu a.x0 a.x4 a.x5)]).length) * 16 ≤ most)) (decide ((a.r0.length + [(cu a.x0 a.x4 a.x5)].length) * 16 ≤ most)) (.rows ((Qi a.r0) ++ (Qi [(cu a.x0 a.x4 a.x5)])) (Qi (a.r0 ++ [(cu a.x0 a.x4 a.x5)])) (lf XW (JN.mk a.x0 (w64 (a.x5 + 1)) (w64 (a.x5 + 1)) (a.r0 ++ [(cu a.x0 a.x4 a.x5)])))) .fail))) .fail) (lf XW (JN.mk a.x0 (w64 (a.x5 + 1)) (w64 (a.x5 + 1)) a.r0))) (lf XW (JN.mk a.x0 a.x4 (w64 (a.x5 + 1)) a.r0)))) .fail))) (rx P2 a.r0))
theorem Xb.ok {a : JN} {r : (List ByteArray)} (h : Xb a = some r) : lw 0 36 (loopAt pp 36 4) (XW a) = some (P2 r) := by
 refine lpP h Qkc fun a => ?_
 exact ⟨rfl, fun q0 => ⟨rfl, fun q1 => Ql 4 (q1) (⟨rfl, ⟨rfl, fun q2 => ⟨rfl, fun q3 => ⟨(QU [(a.x0.extract (Int.toNat a.x4) (Int.toNat a.x5))]), ⟨(decide_eq_true (J7 _)), ⟨(by rw [Qs, Qs]), fun q4 => ⟨(WL _ _), rfl⟩, fun q4 => trivial⟩⟩⟩, fun q3 => trivial⟩, fun q2 => rfl⟩⟩), fun q1 => noN_ok 2 (q1) (⟨rfl, fun q2 => noN_ok 2 (q1) (⟨rfl, fun q3 => ⟨rfl, fun q4 => ⟨rfl, fun q5 => ⟨(QU [(a.x0.extract (Int.toNat a.x4) (Int.toNat a.x5))]), ⟨(decide_eq_true (J7 _)), ⟨(by rw [Qs, Qs]), fun q6 => ⟨(WL _ _), rfl⟩, fun q6 => trivial⟩⟩⟩, fun q5 => trivial⟩, fun q4 => rfl⟩, fun q3 => rfl⟩), fun q2 => trivial⟩)⟩, fun q0 => rfl⟩
def Fi (L0 : Gr) (a0 : ByteArray) : Option (List ByteArray) := ((L0 (JN.mk a0 (0 : Int) (0 : Int) ([] : List ByteArray))).bind (fun (o1 : (List ByteArray)) => (some o1)))
theorem Qn7 {L0 : Nat → Gr} {M0 : Gr} (N0 : Cv1 L0 M0) (a0 : ByteArray) : Cv (fun k => Fi (L0 k) a0) (Fi M0 a0) := by
 unfold Fi
 exact .bind (N0 _) (fun o1 => by exact .const _)
noncomputable def Ww : Qjw := Fi Xb
noncomputable def Qn8 (a0 : ByteArray) : Tr (List ByteArray) AH := (Qkb (JN.mk a0 i0 i0 ([] : List ByteArray)) (fun o1 => (rt Jp o1)))
theorem Ww.ok {a0 : ByteArray} {r : (List ByteArray)} (h : Ww a0 = some r) : ww 36 [xs a0] [] = some (Jp r) := by
 refine fnP (Qn8 a0) ?_ h
 exact fun o1 h => ⟨Xb.ok h, rfl⟩
noncomputable abbrev Qn9 {ρ R : Type} (a0 : ByteArray) (k : (List ByteArray) → Tr ρ R) : Tr ρ R := .call (ww 36 [xs a0] []) (Ww a0) Jp k
noncomputable def Ww.s : Nat → ByteArray → Option (List ByteArray)
 | 0, _ => none
 | k + 1, a0 => Fi (Xb.s k) a0
theorem Ww.cv (a0 : ByteArray) : Cv (fun k => Ww.s k a0) (Ww a0) := .un rfl (Qn7 Xb.cv a0)
abbrev FZ := QB → Int → Option Int
def Fj (a0 : QB) (a1 : Int) : Option Int := (bif (decide (a1 < (((a0.Ns.length) : Nat) : Int))) then (bif (decide (0 ≤ a1)) then ((a0.Ns[(Int.toNat a1)]?).bind fun e1 => (some e1)) else none) else (some (w64 (a0.A + a1))))
noncomputable def UW : FZ := Fj
theorem UW.eq (a0 : QB) (a1 : Int) : UW a0 a1 = Fj a0 a1 := rfl
noncomputable def Qh0 (a0 : QB) (a1 : Int) : Tr Int AH := (.num ((Ja a0.Ns).length) (a0.Ns.length) (.as (decide (a1 < (((a0.Ns.length) : Nat) : Int))) (.as (decide (0 ≤ a1)) (.row ((Ja a0.Ns)[(Int.toNat a1)]?) (a0.Ns[(Int.toNat a1)]?) Xd fun (e1 : Int) => (rt Qp e1)) .fail) (rt Qp (w64 (a0.A + a1)))))
theorem UW.ok {a0 : QB} {a1 : Int} {r : Int} (h : UW a0 a1 = some r) : ww 63 [.agg (V1 a0), xi a1] [] = some (Qp r) := by
 refine fnP (Qh0 a0 a1) ?_ h
 exact ⟨(Vj _), ⟨rfl, fun q0 => ⟨rfl, fun q1 => fun e1 h => ⟨Vt h, rfl⟩, fun q1 => trivial⟩, fun q0 => rfl⟩⟩
noncomputable abbrev Qa8 {ρ R : Type} (a0 : QB) (a1 : Int) (k : Int → Tr ρ R) : Tr ρ R := .call (ww 63 [.agg (V1 a0), xi a1] []) (UW a0 a1) Qp k
abbrev QeY := ByteArray → Option Bool
structure UE where
 x0 : ByteArray
 x3 : Int
def Ei (a : UE) : St := { n := 28, nx := 0, env := [(0, xs a.x0), (3, xi a.x3)], heap := [] }
def Sg (a : Bool) : Ex × St := (.ret, { n := 28, nx := 0, env := [(2, xo a)], heap := [] })
def Si (a : Unit) : Ex × St := (.exit 0, { n := 28, nx := 0, env := [], heap := [] })
def ZH (a : (Bool ⊕ Unit)) : Ex × St := Sum.elim Sg Si a
abbrev YW := UE → Option (Bool ⊕ Unit)
def Ej (a : UE) : Option (UE ⊕ (Bool ⊕ Unit)) := (bif (decide ((w64 ((w64 (a.x3 + ((a.x0.size : Nat) : Int))) + 2)) ≤ 11)) then (bif (decide (((a.x0.size : Nat) : Int) > 0)) then (bif (decide (0 ≤ a.x3 ∧ a.x3 ≤ (w64 ((w64 (a.x3 + ((a.x0.size : Nat) : Int))) + 2)) ∧ (w64 ((w64 (a.x3 + ((a.x0.size : Nat) : Int))) + 2)) ≤ ((UM.size : Nat) : Int))) then (bif (decide (((h_20.size + a.x0.size : Nat) : Int) ≤ IntKind.i64.max)) then (bif (decide ((((h_20 ++ a.x0).size + h_20.size : Nat) : Int) ≤ IntKind.i64.max)) then (bif (eqS (UM.extract (Int.toNat a.x3) (Int.toNat (w64 ((w64 (a.x3 + ((a.x0.size : Nat) : Int))) + 2)))) ((h_20 ++ a.x0) ++ h_20)) then (some (.inr (.inl true))) else (some (.inl (UE.mk a.x0 (w64 (a.x3 + 1)))))) else none) else none) else none) else (some (.inr (.inr ())))) else (some (.inr (.inr ()))))
noncomputable def VQ.s (k : Nat) : YW := iter (Ej ) k
theorem VQ.cv (a : UE) : Cv (fun k => VQ.s k a) (loopW (Ej ) a) := Cv.iter (fun a => by exact .const _) a
noncomputable def VQ : YW := loopW (Ej )
noncomputable abbrev QgX {ρ R : Type} (a : UE) (k0 : Bool → Tr ρ R) (k1 : Unit → Tr ρ R) : Tr ρ R := .loop2 (loopAt pp 39 2) (Ei a) (VQ a) Sg Si k0 k1
noncomputable def QgY (a : UE) : Tr (UE ⊕ (Bool ⊕ Unit)) XS := (let u98 := (decide ((w64 ((w64 (a.x3 + (zz a.x0))) + 2)) ≤ 11)); .as u98 (yesN 3 u98 (.as (decide ((zz a.x0) > 0)) (.as (in2 a.x3 (w64 ((w64 (a.x3 + (zz a.x0))) + 2)) (zz UM)) (.as (decide (((h_20.size + a.x0.size : Nat) : Int) ≤ IntKind.i64.max)) (.as (decide ((((h_20 ++ a.x0).size + h_20.size : Nat) : Int) ≤ IntKind.i64.max)) (.as (eqS (cu UM a.x3 (w64 ((w64 (a.x3 + (zz a.x0))) + 2))) ((h_20 ++ a.x0) ++ h_20)) (rx ZH (.inl true)) (lf Ei (UE.mk a.x0 (w64 (a.x3 + 1))))) .fail) .fail) .fail) (rx ZH (.inr ())))) (noN 3 u98 (.no false (rx ZH (.inr ())))))
theorem VQ.ok {a : UE} {r : (Bool ⊕ Unit)} (h : VQ a = some r) : lw 0 39 (loopAt pp 39 2) (Ei a) = some (ZH r) := by
 refine lpP h QgY fun a => ?_
 exact ⟨rfl, fun q0 => Ql 3 (q0) (⟨rfl, fun q1 => ⟨rfl, fun q2 => ⟨rfl, fun q3 => ⟨rfl, fun q4 => ⟨rfl, fun q5 => rfl, fun q5 => rfl⟩, fun q4 => trivial⟩, fun q3 => trivial⟩, fun q2 => trivial⟩, fun q1 => rfl⟩), fun q0 => noN_ok 3 (q0) (⟨rfl, rfl⟩)⟩
def ZO (L0 : YW) (a0 : ByteArray) : Option Bool := ((L0 (UE.mk a0 (0 : Int))).bind fun x => Sum.elim (fun (o1 : Bool) => (some o1)) (fun (o2 : Unit) => (some false)) x)
theorem Qkd {L0 : Nat → YW} {M0 : YW} (N0 : Cv1 L0 M0) (a0 : ByteArray) : Cv (fun k => ZO (L0 k) a0) (ZO M0 a0) := by
 unfold ZO
 exact .bind (N0 _) fun x => .sum (fun o1 => by exact .const _) (fun o2 => by exact .const _) x
noncomputable def Ui : QeY := ZO VQ
noncomputable def Qke (a0 : ByteArray) : Tr Bool AH := (QgX (UE.mk a0 i0) (fun o1 => (rt Qk o1)) (fun o2 => (rt Qk false)))
theorem Ui.ok {a0 : ByteArray} {r : Bool} (h : Ui a0 = some r) : ww 39 [xs a0] [] = some (Qk r) := by
 refine fnP (Qke a0) ?_ h
 exact ⟨fun o1 h => ⟨VQ.ok (r := (.inl _)) h, rfl⟩, fun o2 h => ⟨VQ.ok (r := (.inr _)) h, rfl⟩⟩
noncomputable abbrev Qkf {ρ R : Type} (a0 : ByteArray) (k : Bool → Tr ρ R) : Tr ρ R := .call (ww 39 [xs a0] []) (Ui a0) Qk k
noncomputable def Ui.s : Nat → ByteArray → Option Bool
 | 0, _ => none
 | k + 1, a0 => ZO (VQ.s k) a0
theorem Ui.cv (a0 : ByteArray) : Cv (fun k => Ui.s k a0) (Ui a0) := .un rfl (Qkd VQ.cv a0)
abbrev QeZ := ByteArray → Option Bool
def Ef (C0 : QeY) (a0 : ByteArray) : Option Bool := ((C0 a0).bind fun r1 => (some r1))
noncomputable def WB : QeZ := Ef Ui
theorem WB.eq (a0 : ByteArray) : WB a0 = Ef Ui a0 := rfl
noncomputable def Qkg (a0 : ByteArray) : Tr Bool AH := (Qkf a0 fun r1 => (rt Qk r1))
theorem WB.ok {a0 : ByteArray} {r : Bool} (h : WB a0 = some r) : ww 106 [xs a0] [] = some (Qk r) := by
 refine fnP (Qkg a0) ?_ h
 exact fun r1 h => ⟨Ui.ok h, rfl⟩
noncomputable abbrev Qkh {ρ R : Type} (a0 : ByteArray) (k : Bool → Tr ρ R) : Tr ρ R := .call (ww 106 [xs a0] []) (WB a0) Qk k
abbrev Qh1 := Int → Int → Option Int
def Qgu (a0 : Int) (a1 : Int) : Option Int := (bif (decide (a1 ≠ 0)) then (bif (decide ((Int.tmod a0 a1) < 0)) then (some (w64 ((Int.tmod a0 a1) + a1))) else (some (Int.tmod a0 a1))) else none)
noncomputable def VZ : Qh1 := Qgu
theorem VZ.eq (a0 : Int) (a1 : Int) : VZ a0 a1 = Qgu a0 a1 := rfl
noncomputable def QmD (a0 : Int) (a1 : Int) : Tr Int AH := (.as (decide (a1 ≠ 0)) (.as (decide ((Int.tmod a0 a1) < 0)) (rt Qp (w64 ((Int.tmod a0 a1) + a1))) (rt Qp (Int.tmod a0 a1))) .fail)
theorem VZ.ok {a0 : Int} {a1 : Int} {r : Int} (h : VZ a0 a1 = some r) : ww 84 [xi a0, xi a1] [] = some (Qp r) := by
 refine fnP (QmD a0 a1) ?_ h
 exact ⟨rfl, fun q0 => ⟨rfl, fun q1 => rfl, fun q1 => rfl⟩, fun q0 => trivial⟩
noncomputable abbrev Yg {ρ R : Type} (a0 : Int) (a1 : Int) (k : Int → Tr ρ R) : Tr ρ R := .call (ww 84 [xi a0, xi a1] []) (VZ a0 a1) Qp k
abbrev Qgv := ByteArray → Int → Option Int
def Fk (C0 : Qh1) (a0 : ByteArray) (a1 : Int) : Option Int := ((C0 a1 (9 : Int)).bind fun r1 => (bif (eqS a0 s_X) then (bif (decide (0 ≤ r1 ∧ r1 < (([(0 : Int), (1 : Int), (7 : Int), (24 : Int), (31 : Int), (5 : Int), (28 : Int), (3 : Int), (30 : Int)].length : Nat) : Int))) then (([(0 : Int), (1 : Int), (7 : Int), (24 : Int), (31 : Int), (5 : Int), (28 : Int), (3 : Int), (30 : Int)][(Int.toNat r1)]?).bind fun e2 => (some e2)) else none) else (bif (eqS a0 s_Y) then (bif (decide (0 ≤ r1 ∧ r1 < (([(0 : Int), (1 : Int), (7 : Int), (24 : Int), (31 : Int), (5 : Int), (28 : Int), (3 : Int), (30 : Int)].length : Nat) : Int))) then (([(0 : Int), (1 : Int), (7 : Int), (24 : Int), (31 : Int), (5 : Int), (28 : Int), (3 : Int), (30 : Int)][(Int.toNat r1)]?).bind fun e3 => (some e3)) else none) else (bif (eqS a0 s_D) then (bif (decide (0 ≤ r1 ∧ r1 < (([(0 : Int), (31 : Int), (1 : Int), (15 : Int), (16 : Int), (7 : Int), (30 : Int), (12 : Int), (3 : Int)].length : Nat) : Int))) then (([(0 : Int), (31 : Int), (1 : Int), (15 : Int), (16 : Int), (7 : Int), (30 : Int), (12 : Int), (3 : Int)][(Int.toNat r1)]?).bind fun e4 => (some e4)) else none) else (bif (eqS a0 s_A) then (bif (decide (0 ≤ r1 ∧ r1 < (([(0 : Int), (31 : Int), (1 : Int), (15 : Int), (16 : Int), (7 : Int), (30 : Int), (12 : Int), (3 : Int)].length : Nat) : Int))) then (([(0 : Int), (31 : Int), (1 : Int), (15 : Int), (16 : Int), (7 : Int), (30 : Int), (12 : Int), (3 : Int)][(Int.toNat r1)]?).bind fun e5 => (some e5)) else none) else (bif (eqS a0 s_B) then (bif (decide (0 ≤ r1 ∧ r1 < (([(0 : Int), (31 : Int), (1 : Int), (15 : Int), (16 : Int), (7 : Int), (30 : Int), (12 : Int), (3 : Int)].length : Nat) : Int))) then (([(0 : Int), (31 : Int), (1 : Int), (15 : Int), (16 : Int), (7 : Int), (30 : Int), (12 : Int), (3 : Int)][(Int.toNat r1)]?).bind fun e6 => (some e6)) else none) else (bif (eqS a0 s_U5) then (bif (decide (0 ≤ r1 ∧ r1 < (([(0 : Int), (31 : Int), (1 : Int), (15 : Int), (16 : Int), (7 : Int), (30 : Int), (12 : Int), (3 : Int)].length : Nat) : Int))) then (([(0 : Int), (31 : Int), (1 : Int), (15 : Int), (16 : Int), (7 : Int), (30 : Int), (12 : Int), (3 : Int)][(Int.toNat r1)]?).bind fun e7 => (some e7)) else none) else (bif (eqS a0 s_U7) then (bif (decide (0 ≤ r1 ∧ r1 < (([(0 : Int), (127 : Int), (64 : Int), (1 : Int), (63 : Int), (100 : Int), (7 : Int), (15 : Int), (16 : Int)].length : Nat) : Int))) then (([(0 : Int), (127 : Int), (64 : Int), (1 : Int), (63 : Int), (100 : Int), (7 : Int), (15 : Int), (16 : Int)][(Int.toNat r1)]?).bind fun e8 => (some e8)) else none) else (bif (eqS a0 s_O5) then (bif (decide (0 ≤ r1 ∧ r1 < (([(1 : Int), (32 : Int), (2 : Int), (16 : Int), (31 : Int), (17 : Int), (8 : Int), (5 : Int), (30 : Int)].length : Nat) : Int))) then (([(1 : Int), (32 : Int), (2 : Int), (16 : Int), (31 : Int), (17 : Int), (8 : Int), (5 : Int), (30 : Int)][(Int.toNat r1)]?).bind fun e9 => (some e9)) else none) else (bif (eqS a0 s_M1) then (bif (decide (0 ≤ r1 ∧ r1 < (([(0 : Int), (15 : Int), (1 : Int), (7 : Int), (8 : Int), (4 : Int), (12 : Int), (3 : Int), (14 : Int)].length : Nat) : Int))) then (([(0 : Int), (15 : Int), (1 : Int), (7 : Int), (8 : Int), (4 : Int), (12 : Int), (3 : Int), (14 : Int)][(Int.toNat r1)]?).bind fun e10 => (some e10)) else none) else (bif (eqS a0 s_I4) then (bif (decide (0 ≤ r1 ∧ r1 < (([(0 : Int), (15 : Int), (1 : Int), (7 : Int), (8 : Int), (4 : Int), (12 : Int), (3 : Int), (14 : Int)].length : Nat) : Int))) then (([(0 : Int), (15 : Int), (1 : Int), (7 : Int), (8 : Int), (4 : Int), (12 : Int), (3 : Int), (14 : Int)][(Int.toNat r1)]?).bind fun e11 => (some e11)) else none) else (bif (eqS a0 s_M2) then (bif (decide (0 ≤ r1 ∧ r1 < (([(0 : Int), (15 : Int), (1 : Int), (7 : Int), (8 : Int), (4 : Int), (12 : Int), (3 : Int), (14 : Int)].length : Nat) : Int))) then (([(0 : Int), (15 : Int), (1 : Int), (7 : Int), (8 : Int), (4 : Int), (12 : Int), (3 : Int), (14 : Int)][(Int.toNat r1)]?).bind fun e12 => (some (w64 ((2 : Int) * e12)))) else none) else (bif (eqS a0 s_M4) then (bif (decide (0 ≤ r1 ∧ r1 < (([(0 : Int), (15 : Int), (1 : Int), (7 : Int), (8 : Int), (4 : Int), (12 : Int), (3 : Int), (14 : Int)].length : Nat) : Int))) then (([(0 : Int), (15 : Int), (1 : Int), (7 : Int), (8 : Int), (4 : Int), (12 : Int), (3 : Int), (14 : Int)][(Int.toNat r1)]?).bind fun e13 => (some (w64 ((4 : Int) * e13)))) else none) else (bif (eqS a0 s_O1) then ((C0 a1 (2 : Int)).bind fun r14 => (some r14)) else (bif (eqS a0 s_I2) then ((C0 a1 (4 : Int)).bind fun r15 => (some r15)) else (bif (eqS a0 s_O2) then ((C0 a1 (4 : Int)).bind fun r16 => (some r16)) else (bif (eqS a0 s_T8) then ((C0 a1 (256 : Int)).bind fun r17 => (some (w64 ((2 : Int) * (w64 (r17 - 128)))))) else (bif (eqS a0 Qqx) then (bif (decide (0 ≤ r1 ∧ r1 < (([(0 : Int), (32767 : Int), (-32768 : Int), (-1 : Int), (1 : Int), (255 : Int), (-256 : Int), (4660 : Int), (-4660 : Int)].length : Nat) : Int))) then (([(0 : Int), (32767 : Int), (-32768 : Int), (-1 : Int), (1 : Int), (255 : Int), (-256 : Int), (4660 : Int), (-4660 : Int)][(Int.toNat r1)]?).bind fun e18 => (some e18)) else none) else (bif (eqS a0 Qqw) then ((C0 a1 (1048576 : Int)).bind fun r19 => (some (w64 (r19 - 524288)))) else (bif (eqS a0 Qqy) then ((C0 a1 (32768 : Int)).bind fun r20 => (some (w64 ((2 : Int) * (w64 (r20 - 16384)))))) else (bif (eqS a0 Ec) then ((C0 a1 (16777216 : Int)).bind fun r21 => (some (w64 ((2 : Int) * (w64 (r21 - 8388608)))))) else (bif (decide (0 ≤ r1 ∧ r1 < (([(0 : Int), (255 : Int), (256 : Int), (65280 : Int), (-1 : Int), (-2 : Int), (16711680 : Int), (-256 : Int), (2130706432 : Int)].length : Nat) : Int))) then (([(0 : Int), (255 : Int), (256 : Int), (65280 : Int), (-1 : Int), (-2 : Int), (16711680 : Int), (-256 : Int), (2130706432 : Int)][(Int.toNat r1)]?).bind fun e22 => (some e22)) else none))))))))))))))))))))))
noncomputable def V6 : Qgv := Fk VZ
theorem V6.eq (a0 : ByteArray) (a1 : Int) : V6 a0 a1 = Fk VZ a0 a1 := rfl
end Go.Ab
