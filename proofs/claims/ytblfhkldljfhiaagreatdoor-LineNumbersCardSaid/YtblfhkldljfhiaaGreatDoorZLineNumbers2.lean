/- LineNumbers: part 2 of the proof that, whatever the input, the law returns true and the input reads as it did; its conditions are those of the given row. -/
import Derived.Test.YtblfhkldljfhiaaGreatDoorZLineNumbers1
import Derived.Test.YtblfhkldljfhiaaGreatDoorProg
set_option linter.unusedVariables false
set_option linter.unusedSimpArgs false
namespace Go.Ab
open Go.Proofs
def Q8 (x : ByteArray) : List AV := [.sc (.string x)]
def Qh (l : List ByteArray) : List (List AV) := l.map Q8
theorem Q9 (l : List ByteArray) : l.map Q8 = Qh l := rfl
theorem W9 (l m : List ByteArray) : Qh l ++ Qh m = Qh (l ++ m) := by simp only [← Q9, List.map_append]
theorem QkG (l : List ByteArray) (i : Nat) (a : ByteArray) : (Qh l).set i (Q8 a) = Qh (l.set i a) := by simp only [← Q9, List.map_set]
theorem Q3 {l : List ByteArray} {n : Nat} {a : ByteArray} (h : l[n]? = some a) : (Qh l)[n]? = some (Q8 a) := by rw [← Q9]; exact YY h
theorem VM (l : List ByteArray) : (Qh l).all (fun r => r.length == 1) = true := by rw [← Q9]; exact SV (C := Q8) (fun _ => rfl) l
theorem QD (l : List ByteArray) : (Qh l).length = l.length := by rw [← Q9, List.length_map]
def C_u8 (x : Int) : List AV := [.sc (.int .u8 x)]
def R_u8 (l : List Int) : List (List AV) := l.map C_u8
theorem Qpd (l : List Int) : l.map C_u8 = R_u8 l := rfl
def VU (x : Int) : List AV := [.sc (.int .i64 x)]
def Qm (l : List Int) : List (List AV) := l.map VU
theorem Jo (l : List Int) : l.map VU = Qm l := rfl
theorem Yj (l m : List Int) : Qm l ++ Qm m = Qm (l ++ m) := by simp only [← Jo, List.map_append]
theorem Uz {l : List Int} {n : Nat} {a : Int} (h : l[n]? = some a) : (Qm l)[n]? = some (VU a) := by rw [← Jo]; exact YY h
theorem Z5 (l : List Int) : (Qm l).all (fun r => r.length == 1) = true := by rw [← Jo]; exact SV (C := VU) (fun _ => rfl) l
theorem Q5 (l : List Int) : (Qm l).length = l.length := by rw [← Jo, List.length_map]
structure Qa where
 Kind : Int
 N : Int
 Name : ByteArray
 L : (List Qa)
deriving Inhabited
mutual
def Qhu : Qa → List AV
 | ⟨x0, x1, x2, x3⟩ => [.sc (.int .i64 x0), .sc (.int .i64 x1), .sc (.string x2), .sl (QX x3)]
def QX : List Qa → List (List AV)
 | [] => []
 | x :: l => Qhu x :: QX l
end
def Js (x : Qa) : List AV := [.sc (.int .i64 x.Kind), .sc (.int .i64 x.N), .sc (.string x.Name), .sl (QX x.L)]
theorem W0 (l : List Qa) : l.map Js = QX l := by
 induction l with
 | nil => rw [QX]; rfl
 | cons x l ih => rw [QX, List.map_cons, ih]; congr 1; cases x; rw [Qhu]; rfl
theorem FL {l : List Qa} {n : Nat} {a : Qa} (h : l[n]? = some a) : (QX l)[n]? = some (Js a) := by rw [← W0]; exact YY h
theorem Qin (l : List Qa) : (QX l).length = l.length := by rw [← W0, List.length_map]
structure Qd where
 Reg : Int
 E : Qa
deriving Inhabited
def YL (x : Qd) : List AV := [.sc (.int .i64 x.Reg), .sc (.int .i64 x.E.Kind), .sc (.int .i64 x.E.N), .sc (.string x.E.Name), .sl (QX x.E.L)]
def Qj (l : List Qd) : List (List AV) := l.map YL
theorem JS (l : List Qd) : l.map YL = Qj l := rfl
theorem VA (l m : List Qd) : Qj l ++ Qj m = Qj (l ++ m) := by simp only [← JS, List.map_append]
theorem P4 {l : List Qd} {n : Nat} {a : Qd} (h : l[n]? = some a) : (Qj l)[n]? = some (YL a) := by rw [← JS]; exact YY h
theorem Wy (l : List Qd) : (Qj l).all (fun r => r.length == 5) = true := by rw [← JS]; exact SV (C := YL) (fun _ => rfl) l
theorem JN (l : List Qd) : (Qj l).length = l.length := by rw [← JS, List.length_map]
structure Qf where
 Line : Int
 Label : ByteArray
 Kind : Int
 Op : Int
 Text : ByteArray
 Args : (List Qd)
deriving Inhabited
def WD (x : Qf) : List AV := [.sc (.int .i64 x.Line), .sc (.string x.Label), .sc (.int .i64 x.Kind), .sc (.int .i64 x.Op), .sc (.string x.Text), .sl (Qj x.Args)]
def Ug (l : List Qf) : List (List AV) := l.map WD
theorem Xs (l : List Qf) : l.map WD = Ug l := rfl
theorem QfH (l m : List Qf) : Ug l ++ Ug m = Ug (l ++ m) := by simp only [← Xs, List.map_append]
theorem Qio {l : List Qf} {n : Nat} {a : Qf} (h : l[n]? = some a) : (Ug l)[n]? = some (WD a) := by rw [← Xs]; exact YY h
theorem Qip (l : List Qf) : (Ug l).all (fun r => r.length == 6) = true := by rw [← Xs]; exact SV (C := WD) (fun _ => rfl) l
theorem Gw (l : List Qf) : (Ug l).length = l.length := by rw [← Xs, List.length_map]
structure Qg where
 x : Qf
deriving Inhabited
structure Qc where
 name : ByteArray
 bits : Int
 kinds : ByteArray
deriving Inhabited
def YM (x : Qc) : List AV := [.sc (.string x.name), .sc (.int .u32 x.bits), .sc (.string x.kinds)]
def Xj (l : List Qc) : List (List AV) := l.map YM
theorem P5 (l : List Qc) : l.map YM = Xj l := rfl
theorem Qdj {l : List Qc} {n : Nat} {a : Qc} (h : l[n]? = some a) : (Xj l)[n]? = some (YM a) := by rw [← P5]; exact YY h
theorem Qdk (l : List Qc) : (Xj l).length = l.length := by rw [← P5, List.length_map]
def Qer (x : Nat) : List AV := [.fn (.func x) [] []]
def Ub (l : List Nat) : List (List AV) := l.map Qer
theorem YN (l : List Nat) : l.map Qer = Ub l := rfl
theorem P6 (l m : List Nat) : Ub l ++ Ub m = Ub (l ++ m) := by simp only [← YN, List.map_append]
theorem Qnn {l : List Nat} {n : Nat} {a : Nat} (h : l[n]? = some a) : (Ub l)[n]? = some (Qer a) := by rw [← YN]; exact YY h
theorem QcP (l : List Nat) : (Ub l).all (fun r => r.length == 1) = true := by rw [← YN]; exact SV (C := Qer) (fun _ => rfl) l
theorem XT (l : List Nat) : (Ub l).length = l.length := by rw [← YN, List.length_map]
structure Qb where
 left : ByteArray
 deep : Int
 bad : Bool
deriving Inhabited
def QL (x : Qb) : List AV := [.sc (.string x.left), .sc (.int .i64 x.deep), .sc (.bool x.bad)]
def Qes (x : (List Int)) : List AV := [.sl (Qm x)]
def Ps (l : List (List Int)) : List (List AV) := l.map Qes
theorem QcQ (l : List (List Int)) : l.map Qes = Ps l := rfl
theorem Qhv {l : List (List Int)} {n : Nat} {a : (List Int)} (h : l[n]? = some a) : (Ps l)[n]? = some (Qes a) := by rw [← QcQ]; exact YY h
theorem Qno (l : List (List Int)) : (Ps l).length = l.length := by rw [← QcQ, List.length_map]
structure Qz where
 K : Int
 N : Int
 L : (List Qz)
deriving Inhabited
mutual
def QkH : Qz → List AV
 | ⟨x0, x1, x2⟩ => [.sc (.int .i64 x0), .sc (.int .i64 x1), .sl (U0 x2)]
def U0 : List Qz → List (List AV)
 | [] => []
 | x :: l => QkH x :: U0 l
end
def Xt (x : Qz) : List AV := [.sc (.int .i64 x.K), .sc (.int .i64 x.N), .sl (U0 x.L)]
theorem EJ (l : List Qz) : l.map Xt = U0 l := by
 induction l with
 | nil => rw [U0]; rfl
 | cons x l ih => rw [U0, List.map_cons, ih]; congr 1; cases x; rw [QkH]; rfl
theorem SX {l : List Qz} {n : Nat} {a : Qz} (h : l[n]? = some a) : (U0 l)[n]? = some (Xt a) := by rw [← EJ]; exact YY h
theorem Z6 (l : List Qz) : (U0 l).length = l.length := by rw [← EJ, List.length_map]
structure Qy where
 K : Int
 A : Int
 B : Int
 Ns : (List Int)
 E : (List Qz)
 Label : Bool
deriving Inhabited
def Vs (x : Qy) : List AV := [.sc (.int .i64 x.K), .sc (.int .i64 x.A), .sc (.int .i64 x.B), .sl (Qm x.Ns), .sl (U0 x.E), .sc (.bool x.Label)]
def V4 (l : List Qy) : List (List AV) := l.map Vs
theorem SY (l : List Qy) : l.map Vs = V4 l := rfl
theorem Zd {l : List Qy} {n : Nat} {a : Qy} (h : l[n]? = some a) : (V4 l)[n]? = some (Vs a) := by rw [← SY]; exact YY h
theorem Qet (l : List Qy) : (V4 l).length = l.length := by rw [← SY, List.length_map]
structure QK where
 Name : ByteArray
 Bits : ByteArray
 Kinds : ByteArray
deriving Inhabited
def QcR (x : QK) : List AV := [.sc (.string x.Name), .sc (.string x.Bits), .sc (.string x.Kinds)]
structure Qe where
 S : ByteArray
 P : Int
 Deep : Int
 Bad : Bool
deriving Inhabited
def Jb (x : Qe) : List AV := [.sc (.string x.S), .sc (.int .i64 x.P), .sc (.int .i64 x.Deep), .sc (.bool x.Bad)]
inductive X5 : Qz → Prop
 | mk (x : Qz) (h0 : IntKind.i64.min ≤ x.K ∧ x.K ≤ IntKind.i64.max) (h1 : IntKind.i64.min ≤ x.N ∧ x.N ≤ IntKind.i64.max) (h2 : x.L.length ≤ maxLen) (h3 : ∀ y ∈ x.L, X5 y) : X5 x
inductive Ev : Qy → Prop
 | mk (x : Qy) (h0 : IntKind.i64.min ≤ x.K ∧ x.K ≤ IntKind.i64.max) (h1 : IntKind.i64.min ≤ x.A ∧ x.A ≤ IntKind.i64.max) (h2 : IntKind.i64.min ≤ x.B ∧ x.B ≤ IntKind.i64.max) (h3 : x.Ns.length ≤ maxLen) (h4 : ∀ y ∈ x.Ns, IntKind.i64.min ≤ y ∧ y ≤ IntKind.i64.max) (h5 : x.E.length ≤ maxLen) (h6 : ∀ y ∈ x.E, X5 y) (h7 : True) : Ev x
def listB (l : List Int) : List UInt8 := l.map fun n => UInt8.ofNat n.toNat
theorem Qof (l : List Int) : bytesOfRows (R_u8 l) = some (listB l) := by
 induction l with
 | nil => rfl
 | cons x l ih => simp only [R_u8, listB, List.map_cons] at ih ⊢; simp only [bytesOfRows, C_u8, rowByte, ih, Option.bind_some, Option.map_some]
def h_0a : ByteArray := ⟨#[10]⟩
def h_20 : ByteArray := ⟨#[32]⟩
def XI : ByteArray := ⟨#[32, 9]⟩
def Yk : ByteArray := ⟨#[32, 9, 10]⟩
def US : ByteArray := ⟨#[32, 88, 32, 89, 32, 68, 32, 65, 32, 66, 32]⟩
def h_22 : ByteArray := ⟨#[34]⟩
def Xa : ByteArray := ⟨#[35, 32, 120, 10]⟩
def h_26 : ByteArray := ⟨#[38]⟩
def h_28 : ByteArray := ⟨#[40]⟩
def h_29 : ByteArray := ⟨#[41]⟩
def h_2a : ByteArray := ⟨#[42]⟩
def h_2b : ByteArray := ⟨#[43]⟩
def h_2c : ByteArray := ⟨#[44]⟩
def SZ : ByteArray := ⟨#[44, 32]⟩
def h_2d : ByteArray := ⟨#[45]⟩
def h_2e : ByteArray := ⟨#[46]⟩
def QN : ByteArray := ⟨#[46, 97, 108, 105, 103, 110]⟩
def Jm : ByteArray := ⟨#[46, 97, 115, 99, 105, 105]⟩
def QP : ByteArray := ⟨#[46, 98, 121, 116, 101]⟩
def Uo : ByteArray := ⟨#[46, 101, 113, 117]⟩
def QQ : ByteArray := ⟨#[46, 104, 97, 108, 102]⟩
def QR : ByteArray := ⟨#[46, 108, 111, 110, 103]⟩
def QO : ByteArray := ⟨#[46, 115, 112, 97, 99, 101]⟩
def h_3a : ByteArray := ⟨#[58]⟩
def S6 : ByteArray := ⟨#[60, 60]⟩
def S7 : ByteArray := ⟨#[62, 62]⟩
def Vg : ByteArray := ⟨#[65, 32, 68, 32, 66]⟩
def UI : ByteArray := ⟨#[65, 32, 68, 32, 67, 56]⟩
def Vh : ByteArray := ⟨#[68, 32, 65, 32, 66]⟩
def Ze : ByteArray := ⟨#[68, 32, 65, 32, 67, 56]⟩
def Yl : ByteArray := ⟨#[68, 32, 65, 32, 83, 49, 54]⟩
def Z7 : ByteArray := ⟨#[68, 32, 76, 50, 48]⟩
def QA : ByteArray := ⟨#[68, 32, 83, 49, 54, 32, 65]⟩
def XJ : ByteArray := ⟨#[79, 49, 32, 73, 50, 32, 84, 56]⟩
def UN : ByteArray := ⟨#[79, 50, 32, 73, 52, 32, 84, 49, 53]⟩
def V5 : ByteArray := ⟨#[88, 32, 79, 53]⟩
def Jv : ByteArray := ⟨#[88, 32, 85, 53]⟩
def EK : ByteArray := ⟨#[88, 32, 85, 55]⟩
def Jc : ByteArray := ⟨#[88, 32, 89]⟩
def Wf : ByteArray := ⟨#[89, 32, 77, 49, 32, 88]⟩
def Wg : ByteArray := ⟨#[89, 32, 77, 50, 32, 88]⟩
def Wh : ByteArray := ⟨#[89, 32, 77, 52, 32, 88]⟩
def UT : ByteArray := ⟨#[97, 32, 35, 32, 98, 44, 32, 99]⟩
def VN : ByteArray := ⟨#[110, 111, 112, 32, 49, 10]⟩
def h_7c : ByteArray := ⟨#[124]⟩
def Qp : ByteArray := ⟨#[115, 101, 95, 105, 108, 108, 101, 103, 97, 108, 58, 48, 48, 48, 48, 58, 124, 115, 101, 95, 105, 115, 121, 110, 99, 58, 48, 48, 48, 49, 58, 124, 115, 101, 95, 115, 99, 58, 48, 48, 48, 50, 58, 124, 115, 101, 95, 98, 108, 114, 58, 48, 48, 48, 52, 58, 124, 115, 101, 95, 98, 99, 116, 114, 58, 48, 48, 48, 54, 58, 124, 115, 101, 95, 110, 111, 116, 58, 48, 48, 50, 48, 58, 88, 124, 115, 101, 95, 110, 101, 103, 58, 48, 48, 51, 48, 58, 88, 124, 115, 101, 95, 109, 102, 108, 114, 58, 48, 48, 56, 48, 58, 88, 124, 115, 101, 95, 109, 116, 108, 114, 58, 48, 48, 57, 48, 58, 88, 124, 115, 101, 95, 109, 102, 99, 116, 114, 58, 48, 48, 97, 48, 58, 88, 124, 115, 101, 95, 109, 116, 99, 116, 114, 58, 48, 48, 98, 48, 58, 88, 124, 115, 101, 95, 101, 120, 116, 122, 98, 58, 48, 48, 99, 48, 58, 88, 124, 115, 101, 95, 101, 120, 116, 115, 98, 58, 48, 48, 100, 48, 58, 88, 124, 115, 101, 95, 101, 120, 116, 122, 104, 58, 48, 48, 101, 48, 58, 88, 124, 115, 101, 95, 101, 120, 116, 115, 104, 58, 48, 48, 102, 48, 58, 88, 124, 115, 101, 95, 109, 114, 58, 48, 49, 48, 48, 58, 88, 32, 89, 124, 115, 101, 95, 97, 100, 100, 58, 48, 52, 48, 48, 58, 88, 32, 89, 124, 115, 101, 95, 109, 117, 108, 108, 119, 58, 48, 53, 48, 48, 58, 88, 32, 89, 124, 115, 101, 95, 115, 117, 98, 58, 48, 54, 48, 48, 58, 88, 32, 89, 124, 115, 101, 95, 99, 109, 112, 58, 48, 99, 48, 48, 58, 88, 32, 89, 124, 115, 101, 95, 99, 109, 112, 108, 58, 48, 100, 48, 48, 58, 88, 32, 89, 124, 115, 101, 95, 97, 100, 100, 105, 58, 50, 48, 48, 48, 58, 88, 32, 79, 53, 124, 115, 101, 95, 99, 109, 112, 108, 105, 58, 50, 50, 48, 48, 58, 88, 32, 79, 53, 124, 115, 101, 95, 115, 117, 98, 105, 58, 50, 52, 48, 48, 58, 88, 32, 79, 53, 124, 115, 101, 95, 99, 109, 112, 105, 58, 50, 97, 48, 48, 58, 88, 32, 85, 53, 124, 115, 101, 95, 111, 114, 58, 52, 52, 48, 48, 58, 88, 32, 89, 124, 115, 101, 95, 97, 110, 100, 99, 58, 52, 53, 48, 48, 58, 88, 32, 89, 124, 115, 101, 95, 97, 110, 100, 58, 52, 54, 48, 48, 58, 88, 32, 89, 124, 115, 101, 95, 108, 105, 58, 52, 56, 48, 48, 58, 88, 32, 85, 55, 124, 115, 101, 95, 98, 99, 108, 114, 105, 58, 54, 48, 48, 48, 58, 88, 32, 85, 53, 124, 115, 101, 95, 98, 115, 101, 116, 105, 58, 54, 52, 48, 48, 58, 88, 32, 85, 53, 124, 115, 101, 95, 98, 116, 115, 116, 105, 58, 54, 54, 48, 48, 58, 88, 32, 85, 53, 124, 115, 101, 95, 115, 114, 119, 105, 58, 54, 56, 48, 48, 58, 88, 32, 85, 53, 124, 115, 101, 95, 115, 108, 119, 105, 58, 54, 99, 48, 48, 58, 88, 32, 85, 53, 124, 115, 101, 95, 108, 98, 122, 58, 56, 48, 48, 48, 58, 89, 32, 77, 49, 32, 88, 124, 115, 101, 95, 115, 116, 98, 58, 57, 48, 48, 48, 58, 89, 32, 77, 49, 32, 88, 124, 115, 101, 95, 108, 104, 122, 58, 97, 48, 48, 48, 58, 89, 32, 77, 50, 32, 88, 124, 115, 101, 95, 115, 116, 104, 58, 98, 48, 48, 48, 58, 89, 32, 77, 50, 32, 88, 124, 115, 101, 95, 108, 119, 122, 58, 99, 48, 48, 48, 58, 89, 32, 77, 52, 32, 88, 124, 115, 101, 95, 115, 116, 119, 58, 100, 48, 48, 48, 58, 89, 32, 77, 52, 32, 88, 124, 115, 101, 95, 98, 99, 58, 101, 48, 48, 48, 58, 79, 49, 32, 73, 50, 32, 84, 56, 124, 115, 101, 95, 98, 58, 101, 56, 48, 48, 58, 84, 56, 124, 115, 101, 95, 98, 108, 58, 101, 57, 48, 48, 58, 84, 56, 124, 101, 95, 97, 100, 100, 49, 54, 105, 58, 49, 99, 48, 48, 48, 48, 48, 48, 58, 68, 32, 65, 32, 83, 49, 54, 124, 101, 95, 97, 100, 100, 105, 58, 49, 56, 48, 48, 56, 48, 48, 48, 58, 68, 32, 65, 32, 67, 56, 124, 101, 95, 97, 110, 100, 105, 58, 49, 56, 48, 48, 99, 48, 48, 48, 58, 65, 32, 68, 32, 67, 56, 124, 101, 95, 111, 114, 105, 58, 49, 56, 48, 48, 100, 48, 48, 48, 58, 65, 32, 68, 32, 67, 56, 124, 101, 95, 120, 111, 114, 105, 58, 49, 56, 48, 48, 101, 48, 48, 48, 58, 65, 32, 68, 32, 67, 56, 124, 101, 95, 108, 105, 58, 55, 48, 48, 48, 48, 48, 48, 48, 58, 68, 32, 76, 50, 48, 124, 101, 95, 108, 98, 122, 58, 51, 48, 48, 48, 48, 48, 48, 48, 58, 68, 32, 83, 49, 54, 32, 65, 124, 101, 95, 115, 116, 98, 58, 51, 52, 48, 48, 48, 48, 48, 48, 58, 68, 32, 83, 49, 54, 32, 65, 124, 101, 95, 108, 104, 97, 58, 51, 56, 48, 48, 48, 48, 48, 48, 58, 68, 32, 83, 49, 54, 32, 65, 124, 101, 95, 108, 119, 122, 58, 53, 48, 48, 48, 48, 48, 48, 48, 58, 68, 32, 83, 49, 54, 32, 65, 124, 101, 95, 115, 116, 119, 58, 53, 52, 48, 48, 48, 48, 48, 48, 58, 68, 32, 83, 49, 54, 32, 65, 124, 101, 95, 108, 104, 122, 58, 53, 56, 48, 48, 48, 48, 48, 48, 58, 68, 32, 83, 49, 54, 32, 65, 124, 101, 95, 115, 116, 104, 58, 53, 99, 48, 48, 48, 48, 48, 48, 58, 68, 32, 83, 49, 54, 32, 65, 124, 101, 95, 98, 58, 55, 56, 48, 48, 48, 48, 48, 48, 58, 84, 50, 52, 124, 101, 95, 98, 108, 58, 55, 56, 48, 48, 48, 48, 48, 49, 58, 84, 50, 52, 124, 101, 95, 98, 99, 58, 55, 97, 48, 48, 48, 48, 48, 48, 58, 79, 50, 32, 73, 52, 32, 84, 49, 53, 124, 101, 95, 98, 99, 108, 58, 55, 97, 48, 48, 48, 48, 48, 49, 58, 79, 50, 32, 73, 52, 32, 84, 49, 53, 124, 97, 100, 100, 58, 55, 99, 48, 48, 48, 50, 49, 52, 58, 68, 32, 65, 32, 66, 124, 115, 117, 98, 102, 58, 55, 99, 48, 48, 48, 48, 53, 48, 58, 68, 32, 65, 32, 66, 124, 109, 117, 108, 108, 119, 58, 55, 99, 48, 48, 48, 49, 100, 54, 58, 68, 32, 65, 32, 66, 124, 97, 110, 100, 58, 55, 99, 48, 48, 48, 48, 51, 56, 58, 65, 32, 68, 32, 66, 124, 111, 114, 58, 55, 99, 48, 48, 48, 51, 55, 56, 58, 65, 32, 68, 32, 66, 124, 120, 111, 114, 58, 55, 99, 48, 48, 48, 50, 55, 56, 58, 65, 32, 68, 32, 66, 124]⟩
def s_ : ByteArray := ⟨#[]⟩
def Wu : ByteArray := ⟨#[48, 49, 50, 51, 52, 53, 54, 55, 56, 57]⟩
def s_0x : ByteArray := ⟨#[48, 120]⟩
def s_A : ByteArray := ⟨#[65]⟩
def s_B : ByteArray := ⟨#[66]⟩
def s_D : ByteArray := ⟨#[68]⟩
def s_I2 : ByteArray := ⟨#[73, 50]⟩
def s_I4 : ByteArray := ⟨#[73, 52]⟩
def QpV : ByteArray := ⟨#[76, 50, 48]⟩
def s_M1 : ByteArray := ⟨#[77, 49]⟩
def s_M2 : ByteArray := ⟨#[77, 50]⟩
def s_M4 : ByteArray := ⟨#[77, 52]⟩
def s_O1 : ByteArray := ⟨#[79, 49]⟩
def s_O2 : ByteArray := ⟨#[79, 50]⟩
def s_O5 : ByteArray := ⟨#[79, 53]⟩
def QpW : ByteArray := ⟨#[83, 49, 54]⟩
def QpX : ByteArray := ⟨#[84, 49, 53]⟩
def Ea : ByteArray := ⟨#[84, 50, 52]⟩
def s_T8 : ByteArray := ⟨#[84, 56]⟩
def s_U5 : ByteArray := ⟨#[85, 53]⟩
def s_U7 : ByteArray := ⟨#[85, 55]⟩
def s_X : ByteArray := ⟨#[88]⟩
def s_Y : ByteArray := ⟨#[89]⟩
def s_a : ByteArray := ⟨#[97]⟩
def Qhw : ByteArray := ⟨#[97, 100, 100]⟩
def Qhx : ByteArray := ⟨#[97, 110, 100]⟩
def s_b : ByteArray := ⟨#[98]⟩
def s_b1 : ByteArray := ⟨#[98, 49]⟩
def Pt : ByteArray := ⟨#[98, 97, 115, 101]⟩
def s_bc : ByteArray := ⟨#[98, 99]⟩
def s_bl : ByteArray := ⟨#[98, 108]⟩
def EL : ByteArray := ⟨#[101, 95, 97, 100, 100, 49, 54, 105]⟩
def S8 : ByteArray := ⟨#[101, 95, 97, 100, 100, 105]⟩
def S9 : ByteArray := ⟨#[101, 95, 97, 110, 100, 105]⟩
def Qhy : ByteArray := ⟨#[101, 95, 98]⟩
def Qeu : ByteArray := ⟨#[101, 95, 98, 99]⟩
def QbV : ByteArray := ⟨#[101, 95, 98, 99, 108]⟩
def Qev : ByteArray := ⟨#[101, 95, 98, 108]⟩
def QbW : ByteArray := ⟨#[101, 95, 108, 98, 122]⟩
def QbX : ByteArray := ⟨#[101, 95, 108, 104, 97]⟩
def QbY : ByteArray := ⟨#[101, 95, 108, 104, 122]⟩
def Qew : ByteArray := ⟨#[101, 95, 108, 105]⟩
def QbZ : ByteArray := ⟨#[101, 95, 108, 119, 122]⟩
def Qb0 : ByteArray := ⟨#[101, 95, 111, 114, 105]⟩
def Qb1 : ByteArray := ⟨#[101, 95, 115, 116, 98]⟩
def Qb2 : ByteArray := ⟨#[101, 95, 115, 116, 104]⟩
def Qb3 : ByteArray := ⟨#[101, 95, 115, 116, 119]⟩
def Qaa : ByteArray := ⟨#[101, 95, 120, 111, 114, 105]⟩
def Ew : ByteArray := ⟨#[101, 110, 100, 95, 49]⟩
def s_hi : ByteArray := ⟨#[104, 105]⟩
def s_k : ByteArray := ⟨#[107]⟩
def EM : ByteArray := ⟨#[108, 111, 111, 112]⟩
def Qb4 : ByteArray := ⟨#[109, 117, 108, 108, 119]⟩
def s_or : ByteArray := ⟨#[111, 114]⟩
def s_r : ByteArray := ⟨#[114]⟩
def Qab : ByteArray := ⟨#[115, 101, 95, 97, 100, 100]⟩
def Pu : ByteArray := ⟨#[115, 101, 95, 97, 100, 100, 105]⟩
def Qac : ByteArray := ⟨#[115, 101, 95, 97, 110, 100]⟩
def Pv : ByteArray := ⟨#[115, 101, 95, 97, 110, 100, 99]⟩
def Qex : ByteArray := ⟨#[115, 101, 95, 98]⟩
def Qb5 : ByteArray := ⟨#[115, 101, 95, 98, 99]⟩
def EN : ByteArray := ⟨#[115, 101, 95, 98, 99, 108, 114, 105]⟩
def Pw : ByteArray := ⟨#[115, 101, 95, 98, 99, 116, 114]⟩
def Qb6 : ByteArray := ⟨#[115, 101, 95, 98, 108]⟩
def Qad : ByteArray := ⟨#[115, 101, 95, 98, 108, 114]⟩
def EO : ByteArray := ⟨#[115, 101, 95, 98, 115, 101, 116, 105]⟩
def EP : ByteArray := ⟨#[115, 101, 95, 98, 116, 115, 116, 105]⟩
def Qae : ByteArray := ⟨#[115, 101, 95, 99, 109, 112]⟩
def Px : ByteArray := ⟨#[115, 101, 95, 99, 109, 112, 105]⟩
def Py : ByteArray := ⟨#[115, 101, 95, 99, 109, 112, 108]⟩
def EQ : ByteArray := ⟨#[115, 101, 95, 99, 109, 112, 108, 105]⟩
def ER : ByteArray := ⟨#[115, 101, 95, 101, 120, 116, 115, 98]⟩
def ES : ByteArray := ⟨#[115, 101, 95, 101, 120, 116, 115, 104]⟩
def ET : ByteArray := ⟨#[115, 101, 95, 101, 120, 116, 122, 98]⟩
def EU : ByteArray := ⟨#[115, 101, 95, 101, 120, 116, 122, 104]⟩
def Z8 : ByteArray := ⟨#[115, 101, 95, 105, 108, 108, 101, 103, 97, 108]⟩
def EV : ByteArray := ⟨#[115, 101, 95, 105, 115, 121, 110, 99]⟩
def Qaf : ByteArray := ⟨#[115, 101, 95, 108, 98, 122]⟩
def Qag : ByteArray := ⟨#[115, 101, 95, 108, 104, 122]⟩
def Qb7 : ByteArray := ⟨#[115, 101, 95, 108, 105]⟩
def Qah : ByteArray := ⟨#[115, 101, 95, 108, 119, 122]⟩
def EW : ByteArray := ⟨#[115, 101, 95, 109, 102, 99, 116, 114]⟩
def Pz : ByteArray := ⟨#[115, 101, 95, 109, 102, 108, 114]⟩
def Qb8 : ByteArray := ⟨#[115, 101, 95, 109, 114]⟩
def EX : ByteArray := ⟨#[115, 101, 95, 109, 116, 99, 116, 114]⟩
def PB : ByteArray := ⟨#[115, 101, 95, 109, 116, 108, 114]⟩
def EY : ByteArray := ⟨#[115, 101, 95, 109, 117, 108, 108, 119]⟩
def Qai : ByteArray := ⟨#[115, 101, 95, 110, 101, 103]⟩
def Qaj : ByteArray := ⟨#[115, 101, 95, 110, 111, 116]⟩
def Qb9 : ByteArray := ⟨#[115, 101, 95, 111, 114]⟩
def Qca : ByteArray := ⟨#[115, 101, 95, 115, 99]⟩
def PC : ByteArray := ⟨#[115, 101, 95, 115, 108, 119, 105]⟩
def PD : ByteArray := ⟨#[115, 101, 95, 115, 114, 119, 105]⟩
def Qak : ByteArray := ⟨#[115, 101, 95, 115, 116, 98]⟩
def Qal : ByteArray := ⟨#[115, 101, 95, 115, 116, 104]⟩
def Qam : ByteArray := ⟨#[115, 101, 95, 115, 116, 119]⟩
def Qan : ByteArray := ⟨#[115, 101, 95, 115, 117, 98]⟩
def PE : ByteArray := ⟨#[115, 101, 95, 115, 117, 98, 105]⟩
def Z9 : ByteArray := ⟨#[115, 105, 122, 101]⟩
def Qey : ByteArray := ⟨#[115, 117, 98, 102]⟩
def EZ : ByteArray := ⟨#[116, 97, 98]⟩
def s_x : ByteArray := ⟨#[120]⟩
def Qhz : ByteArray := ⟨#[120, 111, 114]⟩
def anT : List (Nat × List (Nat × Ann)) := [
 (13, [(9, ⟨[0, 1, 2, 7, 8, 9, 10, 11], [7, 9, 10], [6], [(9, 1), (10, 1)], false⟩), (15, ⟨[0, 1, 2, 7, 8, 9, 10, 11, 12, 13], [0, 1, 2, 7, 8, 9, 10, 11], [6], [(9, 1), (10, 1)], false⟩), (29, ⟨[9, 10, 14, 15, 16], [10, 15], [6], [(9, 1), (10, 1)], false⟩), (34, ⟨[10, 15, 17], [], [6], [(9, 1), (10, 1)], false⟩)]),
 (22, [(15, ⟨[1, 3, 4, 5], [3, 4], [2], [(4, 1)], false⟩), (21, ⟨[3, 4, 6], [3], [2], [(4, 1)], false⟩)]),
 (24, [(2, ⟨[0, 3], [], [2], [], false⟩)]),
 (25, [(8, ⟨[1, 2, 3, 5, 6], [1, 2, 3], [2], [], false⟩)]),
 (31, [(2, ⟨[2, 3, 9, 10, 11], [2, 3], [2, 3], [(2, 6), (3, 1)], false⟩)]),
 (36, [(4, ⟨[0, 3, 4, 5], [3], [2], [(3, 1)], false⟩)]),
 (39, [(2, ⟨[0, 3], [], [2], [], false⟩)]),
 (58, [(5, ⟨[0, 1, 4, 7, 8, 9, 10, 11], [4], [4, 5, 6], [], false⟩)]),
 (65, [(3, ⟨[2, 4, 5, 6], [4, 5], [4], [], false⟩)]),
 (71, [(3, ⟨[0, 3, 4], [], [2], [], false⟩)]),
 (72, [(2, ⟨[0, 1, 5], [5], [4], [], false⟩)]),
 (83, [(5, ⟨[0, 3, 4], [3], [2], [], false⟩)]),
 (105, [(5, ⟨[0, 1, 5, 6], [5], [4], [], false⟩)]),
 (116, [(1, ⟨[0, 1], [0], [4], [], false⟩)]),
 (123, [(5, ⟨[3, 10, 11], [3], [2], [(3, 1)], true⟩)]),
 (125, [(3, ⟨[0, 1, 5, 14, 15, 16], [1, 5], [4], [(5, 200)], false⟩)]),
 (126, [(2, ⟨[0, 1, 7, 8], [], [4], [], false⟩)]),
 (127, [(3, ⟨[0, 1, 5, 6], [5], [4], [], false⟩)]),
 (128, [(3, ⟨[0, 5, 6, 7], [5], [4], [(5, 200)], false⟩)]),
 (159, [(4, ⟨[0, 1, 4, 5], [], [4], [], false⟩)]),
 (160, [(0, ⟨[0], [], [], [], false⟩)]),
 (175, [(2, ⟨[0, 1, 7, 8], [], [4], [], false⟩)]),
 (207, [(2, ⟨[0, 1, 5], [], [4], [], false⟩)]),
 (215, [(5, ⟨[0, 1, 4, 5, 6], [4, 5], [4], [], false⟩)]),
 (235, [(2, ⟨[0, 1, 4, 5, 6], [0, 4, 5, 6], [4], [], false⟩)]),
 (237, [(2, ⟨[0, 2, 3], [0, 2, 3], [2], [], false⟩)]),
 (244, [(2, ⟨[0, 7, 8, 9], [], [4], [], false⟩)]),
 (266, [(2, ⟨[0, 1, 8], [0], [4], [], false⟩)]),
 (269, [(3, ⟨[0, 1, 2, 6, 7, 12], [0, 1, 6, 7], [6], [], false⟩)])]
def kdT : List (Nat × List Nat) := [(37, [0, 0, 0, 0, 0, 5]), (56, [129, 131, 178]), (60, [0, 1]), (113, [0, 0, 0, 0, 0, 5])]
def extT : List (Nat × (List AV → Heap → Option (AV × Heap))) := [(23, knownX), (70, indexByteX), (74, trimX), (77, (cloneF 5 64)), (79, splitX), (80, (cloneF 6 80)), (81, (cloneV 8)), (145, fieldsX), (177, containsX), (241, atoiX)]
def G : Cfg := { ext := fun f => get f extT, an := fun f r => ((get f anT).bind (get r)).getD {}, kd := fun t => (get t kdT).getD [] }
def anT0 : List (Nat × List (Nat × Ann)) := [
 (26, [(15, ⟨[1, 3, 4, 40, 41, 42], [1, 3, 4], [2], [(4, 1)], false⟩)]),
 (31, [(2, ⟨[2, 3, 9, 10, 11], [2, 3], [2, 3], [(2, 6), (3, 1)], false⟩)]),
 (71, [(3, ⟨[0, 3, 4], [], [2], [], false⟩)]),
 (72, [(2, ⟨[0, 1, 5], [5], [4], [], false⟩)]),
 (116, [(1, ⟨[0, 1], [0], [4], [], false⟩)]),
 (123, [(5, ⟨[3, 10, 11], [3], [2], [(3, 1)], true⟩)]),
 (125, [(3, ⟨[0, 1, 5, 14, 15, 16], [1, 5], [4], [(5, 200)], false⟩)]),
 (126, [(2, ⟨[0, 1, 7, 8], [], [4], [], false⟩)]),
 (127, [(3, ⟨[0, 1, 5, 6], [5], [4], [], false⟩)]),
 (128, [(3, ⟨[0, 5, 6, 7], [5], [4], [(5, 200)], false⟩)]),
 (175, [(2, ⟨[0, 1, 7, 8], [], [4], [], false⟩)]),
 (215, [(5, ⟨[0, 1, 4, 5, 6], [4, 5], [4], [], false⟩)]),
 (244, [(2, ⟨[0, 7, 8, 9], [], [4], [], false⟩)]),
 (266, [(2, ⟨[0, 1, 8], [0], [4], [], false⟩)]),
 (269, [(3, ⟨[0, 1, 2, 6, 7, 12], [0, 1, 6, 7], [6], [], false⟩)])]
def kdT0 : List (Nat × List Nat) := [(37, [0, 0, 0, 0, 0, 5]), (56, [129, 131, 178]), (113, [0, 0, 0, 0, 0, 5])]
def extT0 : List (Nat × (List AV → Heap → Option (AV × Heap))) := [(69, joinX), (70, indexByteX), (74, trimX), (77, (cloneF 5 64)), (79, splitX), (80, (cloneF 6 80)), (81, (cloneV 8)), (93, itoaX), (145, fieldsX), (177, containsX), (241, atoiX)]
def G0 : Cfg := { ext := fun f => get f extT0, an := fun f r => ((get f anT0).bind (get r)).getD {}, kd := fun t => (get t kdT0).getD [] }
theorem Qnp : evalFn Tryz.prog G0 2000 23 [] [] = some (.sc (.bool true), []) := by kernel_rfl
noncomputable abbrev pp : Program := Tryz.prog
abbrev AH := AV × Heap
abbrev XS := Ex × St
noncomputable abbrev ww : CallF := evW Tryz.prog G
noncomputable abbrev lw (m f : Nat) : Loops := lpW Tryz.prog G m (G.an f)
def Ql (r : Bool) : AV × Heap := (xo r, [])
abbrev Qog := Option Bool
noncomputable def Eg : Option Bool := (some true)
noncomputable abbrev Qnq {ρ R : Type} (k : Bool → Tr ρ R) : Tr ρ R := .call (ww 23 [] []) (Eg) Ql k
theorem Eg.ok {r : Bool} (h : Eg = some r) : ww 23 [] [] = some (Ql r) := (ZI rfl _ _).trans (Qpc h)
def Qq (r : Int) : AV × Heap := (xi r, [])
abbrev E1 := Int → Int → Option Int
def Qf9 (a0 : Int) (a1 : Int) : Option Int := (bif (decide (a1 ≠ 0)) then (bif (decide ((Int.tmod a0 a1) < 0)) then (some (w64 ((Int.tmod a0 a1) + a1))) else (some (Int.tmod a0 a1))) else none)
noncomputable def QF : E1 := Qf9
theorem QF.eq (a0 : Int) (a1 : Int) : QF a0 a1 = Qf9 a0 a1 := rfl
noncomputable def QlW (a0 : Int) (a1 : Int) : Tr Int AH := (.as (decide (a1 ≠ 0)) (.as (decide ((Int.tmod a0 a1) < 0)) (rt Qq (w64 ((Int.tmod a0 a1) + a1))) (rt Qq (Int.tmod a0 a1))) .fail)
theorem QF.ok {a0 : Int} {a1 : Int} {r : Int} (h : QF a0 a1 = some r) : ww 29 [xi a0, xi a1] [] = some (Qq r) := by
 refine fnP (QlW a0 a1) ?_ h
 exact ⟨rfl, fun q0 => ⟨rfl, fun q1 => rfl, fun q1 => rfl⟩, fun q0 => trivial⟩
noncomputable abbrev Q6 {ρ R : Type} (a0 : Int) (a1 : Int) (k : Int → Tr ρ R) : Tr ρ R := .call (ww 29 [xi a0, xi a1] []) (QF a0 a1) Qq k
abbrev Pk := Int → Option Bool
def Qao (a0 : Int) : Option Bool := (bif (decide (a0 ≥ 48)) then (some (decide (a0 ≤ (57 : Int)))) else (some false))
noncomputable def Vv : Pk := Qao
theorem Vv.eq (a0 : Int) : Vv a0 = Qao a0 := rfl
noncomputable def QkI (a0 : Int) : Tr Bool AH := (let u1 := (decide (a0 ≥ 48)); .as u1 (yesN 2 u1 (rt Ql (decide (a0 ≤ (zi 57))))) (noN 2 u1 (rt Ql false)))
theorem Vv.ok {a0 : Int} {r : Bool} (h : Vv a0 = some r) : ww 82 [xb a0] [] = some (Ql r) := by
 refine fnP (QkI a0) ?_ h
 exact ⟨rfl, fun q0 => Qk 2 (q0) (rfl), fun q0 => noN_ok 2 (q0) (rfl)⟩
noncomputable abbrev E2 {ρ R : Type} (a0 : Int) (k : Bool → Tr ρ R) : Tr ρ R := .call (ww 82 [xb a0] []) (Vv a0) Ql k
abbrev Qga := Int → Option Bool
def Qap (C0 : Pk) (a0 : Int) : Option Bool := (bif (decide (a0 ≥ 97)) then (bif (decide (a0 ≤ (122 : Int))) then (some true) else (bif (a0 == 95) then (some true) else ((C0 a0).bind fun r1 => (some r1)))) else (bif (a0 == 95) then (some true) else ((C0 a0).bind fun r2 => (some r2))))
noncomputable def XB : Qga := Qap Vv
theorem XB.eq (a0 : Int) : XB a0 = Qap Vv a0 := rfl
noncomputable def QkJ (a0 : Int) : Tr Bool AH := (let u5 := (decide (a0 ≥ 97)); .as u5 (yesN 2 u5 (let u3 := (decide (a0 ≤ (zi 122))); .as u3 (yesN 2 u3 (yesN 3 true (rt Ql true))) (noN 2 u3 (let u2 := (a0 == 95); .as u2 (yesN 2 u2 (rt Ql true)) (.no u2 (E2 a0 fun r1 => (.no u2 (rt Ql r1)))))))) (noN 2 u5 (noN 3 false (let u4 := (a0 == 95); .as u4 (yesN 2 u4 (rt Ql true)) (.no u4 (E2 a0 fun r2 => (.no u4 (rt Ql r2))))))))
theorem XB.ok {a0 : Int} {r : Bool} (h : XB a0 = some r) : ww 73 [xb a0] [] = some (Ql r) := by
 refine fnP (QkJ a0) ?_ h
 exact ⟨rfl, fun q0 => Qk 2 (q0) (⟨rfl, fun q1 => Qk 2 (q1) (Qk 3 (rfl) (rfl)), fun q1 => noN_ok 2 (q1) (⟨rfl, fun q2 => Qk 2 (q2) (rfl), fun q2 => ⟨q2, fun r1 h => ⟨Vv.ok h, ⟨q2, rfl⟩⟩⟩⟩)⟩), fun q0 => noN_ok 2 (q0) (noN_ok 3 (rfl) (⟨rfl, fun q1 => Qk 2 (q1) (rfl), fun q1 => ⟨q1, fun r2 h => ⟨Vv.ok h, ⟨q1, rfl⟩⟩⟩⟩))⟩
noncomputable abbrev QkK {ρ R : Type} (a0 : Int) (k : Bool → Tr ρ R) : Tr ρ R := .call (ww 73 [xb a0] []) (XB a0) Ql k
abbrev Qbw := ByteArray → Option Int
structure UW where
 x0 : ByteArray
 x5 : Int
def E3 (a : UW) : St := { n := 20, nx := 0, env := [(0, xs a.x0), (1, .fn (.func 73) [] []), (5, xi a.x5)], heap := [] }
def ZZ (a : Int) : Ex × St := (.exit 0, { n := 20, nx := 0, env := [(5, xi a)], heap := [] })
abbrev Qcb := UW → Option Int
def E4 (C0 : Qga) (a : UW) : Option (UW ⊕ Int) := (bif (decide (a.x5 < ((a.x0.size : Nat) : Int))) then (bif (decide (0 ≤ a.x5 ∧ a.x5 < ((a.x0.size : Nat) : Int))) then ((C0 ((a.x0.data.getD (Int.toNat a.x5) 0).toNat : Int)).bind fun r1 => (bif r1 then (some (.inl (UW.mk a.x0 (w64 (a.x5 + 1))))) else (some (.inr a.x5)))) else none) else (some (.inr a.x5)))
noncomputable def Wz : Qcb := loopW (E4 XB)
theorem Wz.eq (a : UW) : Wz a = (E4 XB a).bind (Sum.elim Wz some) := JD _ _
noncomputable abbrev QhA {ρ R : Type} (a : UW) (k0 : Int → Tr ρ R) : Tr ρ R := .loop (loopAt pp 72 2) (E3 a) (Wz a) ZZ k0
noncomputable def QhB (a : UW) : Tr (UW ⊕ Int) XS := (let u6 := (decide (a.x5 < (zz a.x0))); .as u6 (yesN 3 u6 (.as (in1 a.x5 (zz a.x0)) (.yes u6 (QkK (gb a.x0 a.x5) fun r1 => (.yes u6 (.as r1 (lf E3 (UW.mk a.x0 (w64 (a.x5 + 1)))) (rx ZZ a.x5))))) .fail)) (noN 5 u6 (.no false (rx ZZ a.x5))))
theorem Wz.ok {a : UW} {r : Int} (h : Wz a = some r) : lw 0 72 (loopAt pp 72 2) (E3 a) = some (ZZ r) := by
 refine lpP h QhB fun a => ?_
 exact ⟨rfl, fun q0 => Qk 3 (q0) (⟨rfl, fun q1 => ⟨q0, fun r1 h => ⟨XB.ok h, ⟨q0, ⟨rfl, fun q2 => rfl, fun q2 => rfl⟩⟩⟩⟩, fun q1 => trivial⟩), fun q0 => noN_ok 5 (q0) (⟨rfl, rfl⟩)⟩
def Qaq (L0 : Qcb) (a0 : ByteArray) : Option Int := ((L0 (UW.mk a0 (0 : Int))).bind (fun (o1 : Int) => (some o1)))
noncomputable def WE : Qbw := Qaq Wz
theorem WE.eq (a0 : ByteArray) : WE a0 = Qaq Wz a0 := rfl
noncomputable def QkL (a0 : ByteArray) : Tr Int AH := (QhA (UW.mk a0 i0) (fun o1 => (rt Qq o1)))
theorem WE.ok {a0 : ByteArray} {r : Int} (h : WE a0 = some r) : ww 72 [xs a0, .fn (.func 73) [] []] [] = some (Qq r) := by
 refine fnP (QkL a0) ?_ h
 exact fun o1 h => ⟨Wz.ok h, rfl⟩
noncomputable abbrev Qez {ρ R : Type} (a0 : ByteArray) (k : Int → Tr ρ R) : Tr ρ R := .call (ww 72 [xs a0, .fn (.func 73) [] []] []) (WE a0) Qq k
abbrev P7 := ByteArray → Option Int
structure Uu where
 x0 : ByteArray
 x5 : Int
def GH (a : Uu) : St := { n := 20, nx := 0, env := [(0, xs a.x0), (1, .fn (.func 82) [] []), (5, xi a.x5)], heap := [] }
def Y6 (a : Int) : Ex × St := (.exit 0, { n := 20, nx := 0, env := [(5, xi a)], heap := [] })
abbrev Qar := Uu → Option Int
def GI (C0 : Pk) (a : Uu) : Option (Uu ⊕ Int) := (bif (decide (a.x5 < ((a.x0.size : Nat) : Int))) then (bif (decide (0 ≤ a.x5 ∧ a.x5 < ((a.x0.size : Nat) : Int))) then ((C0 ((a.x0.data.getD (Int.toNat a.x5) 0).toNat : Int)).bind fun r1 => (bif r1 then (some (.inl (Uu.mk a.x0 (w64 (a.x5 + 1))))) else (some (.inr a.x5)))) else none) else (some (.inr a.x5)))
noncomputable def VV : Qar := loopW (GI Vv)
theorem VV.eq (a : Uu) : VV a = (GI Vv a).bind (Sum.elim VV some) := JD _ _
noncomputable abbrev QfI {ρ R : Type} (a : Uu) (k0 : Int → Tr ρ R) : Tr ρ R := .loop (loopAt pp 72 2) (GH a) (VV a) Y6 k0
noncomputable def QfJ (a : Uu) : Tr (Uu ⊕ Int) XS := (let u7 := (decide (a.x5 < (zz a.x0))); .as u7 (yesN 3 u7 (.as (in1 a.x5 (zz a.x0)) (.yes u7 (E2 (gb a.x0 a.x5) fun r1 => (.yes u7 (.as r1 (lf GH (Uu.mk a.x0 (w64 (a.x5 + 1)))) (rx Y6 a.x5))))) .fail)) (noN 5 u7 (.no false (rx Y6 a.x5))))
theorem VV.ok {a : Uu} {r : Int} (h : VV a = some r) : lw 0 72 (loopAt pp 72 2) (GH a) = some (Y6 r) := by
 refine lpP h QfJ fun a => ?_
 exact ⟨rfl, fun q0 => Qk 3 (q0) (⟨rfl, fun q1 => ⟨q0, fun r1 h => ⟨Vv.ok h, ⟨q0, ⟨rfl, fun q2 => rfl, fun q2 => rfl⟩⟩⟩⟩, fun q1 => trivial⟩), fun q0 => noN_ok 5 (q0) (⟨rfl, rfl⟩)⟩
def FM (L0 : Qar) (a0 : ByteArray) : Option Int := ((L0 (Uu.mk a0 (0 : Int))).bind (fun (o1 : Int) => (some o1)))
noncomputable def VO : P7 := FM VV
theorem VO.eq (a0 : ByteArray) : VO a0 = FM VV a0 := rfl
noncomputable def Qiq (a0 : ByteArray) : Tr Int AH := (QfI (Uu.mk a0 i0) (fun o1 => (rt Qq o1)))
theorem VO.ok {a0 : ByteArray} {r : Int} (h : VO a0 = some r) : ww 72 [xs a0, .fn (.func 82) [] []] [] = some (Qq r) := by
 refine fnP (Qiq a0) ?_ h
 exact fun o1 h => ⟨VV.ok h, rfl⟩
noncomputable abbrev Qcc {ρ R : Type} (a0 : ByteArray) (k : Int → Tr ρ R) : Tr ρ R := .call (ww 72 [xs a0, .fn (.func 82) [] []] []) (VO a0) Qq k
abbrev QcS := ByteArray → Option Bool
def Qbx (C0 : Pk) (C1 : Qbw) (C2 : P7) (a0 : ByteArray) : Option Bool := (bif (eqS a0 s_) then (some false) else (bif (decide (((a0.size : Nat) : Int) > 12)) then (some false) else (bif (decide (0 ≤ (0 : Int) ∧ (0 : Int) < ((a0.size : Nat) : Int))) then ((C0 ((a0.data.getD (Int.toNat 0) 0).toNat : Int)).bind fun r1 => (bif r1 then (some false) else ((C1 a0).bind fun r2 => (bif (r2 != ((a0.size : Nat) : Int)) then (some false) else (bif (((a0.data.getD (Int.toNat 0) 0).toNat : Int) != 114) then (some true) else (bif (((a0.size : Nat) : Int) == 1) then (some true) else (bif (decide (0 ≤ (1 : Int) ∧ (1 : Int) ≤ ((a0.size : Nat) : Int) ∧ ((a0.size : Nat) : Int) ≤ ((a0.size : Nat) : Int))) then ((C2 (a0.extract (Int.toNat 1) (Int.toNat ((a0.size : Nat) : Int)))).bind fun r3 => (some (r3 != (w64 (((a0.size : Nat) : Int) - 1))))) else none))))))) else none)))
noncomputable def W1 : QcS := Qbx Vv WE VO
theorem W1.eq (a0 : ByteArray) : W1 a0 = Qbx Vv WE VO a0 := rfl
noncomputable def QlX (a0 : ByteArray) : Tr Bool AH := (let u12 := (eqS a0 s_); .as u12 (yesN 3 u12 (yesN 11 true (rt Ql false))) (noN 3 u12 (let u11 := (decide ((zz a0) > 12)); .as u11 (yesN 3 u11 (yesN 7 true (rt Ql false))) (.no u11 (let u10 := (in1 i0 (zz a0)); .as u10 (.no u11 (E2 (gb a0 i0) fun r1 => (.no u11 (.as r1 (yesN 5 r1 (.yes true (rt Ql false))) (.no r1 (Qez a0 fun r2 => (noN 4 r1 (.as (r2 != (zz a0)) (rt Ql false) (.yes u10 (let u9 := ((gb a0 i0) != 114); .as u9 (yesN 3 u9 (yesN 8 true (rt Ql true))) (noN 3 u9 (let u8 := ((zz a0) == 1); .as u8 (yesN 7 u8 (rt Ql true)) (.no u8 (.as (in2 (zi 1) (zz a0) (zz a0)) (.no u8 (Qcc (cu a0 (zi 1) (zz a0)) fun r3 => (noN 5 u8 (rt Ql (r3 != (w64 ((zz a0) - 1))))))) .fail)))))))))))))) .fail)))))
theorem W1.ok {a0 : ByteArray} {r : Bool} (h : W1 a0 = some r) : ww 33 [xs a0] [] = some (Ql r) := by
 refine fnP (QlX a0) ?_ h
 exact ⟨rfl, fun q0 => Qk 3 (q0) (Qk 11 (rfl) (rfl)), fun q0 => noN_ok 3 (q0) (⟨rfl, fun q1 => Qk 3 (q1) (Qk 7 (rfl) (rfl)), fun q1 => ⟨q1, ⟨rfl, fun q2 => ⟨q1, fun r1 h => ⟨Vv.ok h, ⟨q1, ⟨rfl, fun q3 => Qk 5 (q3) (⟨rfl, rfl⟩), fun q3 => ⟨q3, fun r2 h => ⟨WE.ok h, noN_ok 4 (q3) (⟨rfl, fun q4 => rfl, fun q4 => ⟨q2, ⟨rfl, fun q5 => Qk 3 (q5) (Qk 8 (rfl) (rfl)), fun q5 => noN_ok 3 (q5) (⟨rfl, fun q6 => Qk 7 (q6) (rfl), fun q6 => ⟨q6, ⟨rfl, fun q7 => ⟨q6, fun r3 h => ⟨VO.ok h, noN_ok 5 (q6) (rfl)⟩⟩, fun q7 => trivial⟩⟩⟩)⟩⟩⟩)⟩⟩⟩⟩⟩⟩, fun q2 => trivial⟩⟩⟩)⟩
noncomputable abbrev Qgb {ρ R : Type} (a0 : ByteArray) (k : Bool → Tr ρ R) : Tr ρ R := .call (ww 33 [xs a0] []) (W1 a0) Ql k
abbrev QkM := ByteArray → Option Bool
structure Qx where
 x0 : ByteArray
 x3 : Bool
 x4 : Int
def J2 (a : Qx) : St := { n := 65, nx := 0, env := [(0, xs a.x0), (3, xo a.x3), (4, xi a.x4)], heap := [] }
def Qdl (a : Bool) : Ex × St := (.ret, { n := 65, nx := 0, env := [(2, xo a)], heap := [] })
def Qdm (a : Bool) : Ex × St := (.exit 0, { n := 65, nx := 0, env := [(3, xo a)], heap := [] })
def WT (a : (Bool ⊕ Bool)) : Ex × St := Sum.elim Qdl Qdm a
abbrev Qgc := Qx → Option (Bool ⊕ Bool)
def Zf (a : Qx) : Option (Qx ⊕ (Bool ⊕ Bool)) := (bif (decide (a.x4 < ((a.x0.size : Nat) : Int))) then (bif (decide (0 ≤ a.x4 ∧ a.x4 < ((a.x0.size : Nat) : Int))) then (bif (decide (((a.x0.data.getD (Int.toNat a.x4) 0).toNat : Int) ≥ 48)) then (bif (decide (((a.x0.data.getD (Int.toNat a.x4) 0).toNat : Int) ≥ 97)) then (bif (!(decide (((a.x0.data.getD (Int.toNat a.x4) 0).toNat : Int) ≤ 122))) then (bif (((a.x0.data.getD (Int.toNat a.x4) 0).toNat : Int) != 95) then (bif (a.x4 == 0) then (some (.inr (.inl false))) else (bif (!(decide (((a.x0.data.getD (Int.toNat a.x4) 0).toNat : Int) ≤ 57))) then (some (.inr (.inl false))) else (bif (decide (a.x4 > 0)) then (some (.inl (Qx.mk a.x0 a.x3 (w64 (a.x4 + 1))))) else (some (.inl (Qx.mk a.x0 a.x3 (w64 (a.x4 + 1)))))))) else (bif (decide (a.x4 > 0)) then (bif (!(decide (((a.x0.data.getD (Int.toNat a.x4) 0).toNat : Int) ≤ 57))) then (some (.inl (Qx.mk a.x0 false (w64 (a.x4 + 1))))) else (some (.inl (Qx.mk a.x0 a.x3 (w64 (a.x4 + 1)))))) else (some (.inl (Qx.mk a.x0 a.x3 (w64 (a.x4 + 1))))))) else (bif (decide (a.x4 > 0)) then (bif (!(decide (((a.x0.data.getD (Int.toNat a.x4) 0).toNat : Int) ≤ 57))) then (some (.inl (Qx.mk a.x0 false (w64 (a.x4 + 1))))) else (some (.inl (Qx.mk a.x0 a.x3 (w64 (a.x4 + 1)))))) else (some (.inl (Qx.mk a.x0 a.x3 (w64 (a.x4 + 1))))))) else (bif (((a.x0.data.getD (Int.toNat a.x4) 0).toNat : Int) != 95) then (bif (a.x4 == 0) then (some (.inr (.inl false))) else (bif (!(decide (((a.x0.data.getD (Int.toNat a.x4) 0).toNat : Int) ≤ 57))) then (some (.inr (.inl false))) else (bif (decide (a.x4 > 0)) then (some (.inl (Qx.mk a.x0 a.x3 (w64 (a.x4 + 1))))) else (some (.inl (Qx.mk a.x0 a.x3 (w64 (a.x4 + 1)))))))) else (bif (decide (a.x4 > 0)) then (bif (!(decide (((a.x0.data.getD (Int.toNat a.x4) 0).toNat : Int) ≤ 57))) then (some (.inl (Qx.mk a.x0 false (w64 (a.x4 + 1))))) else (some (.inl (Qx.mk a.x0 a.x3 (w64 (a.x4 + 1)))))) else (some (.inl (Qx.mk a.x0 a.x3 (w64 (a.x4 + 1)))))))) else (bif (decide (((a.x0.data.getD (Int.toNat a.x4) 0).toNat : Int) ≥ 97)) then (bif (!(decide (((a.x0.data.getD (Int.toNat a.x4) 0).toNat : Int) ≤ 122))) then (bif (((a.x0.data.getD (Int.toNat a.x4) 0).toNat : Int) != 95) then (bif (a.x4 == 0) then (some (.inr (.inl false))) else (some (.inr (.inl false)))) else (bif (decide (a.x4 > 0)) then (some (.inl (Qx.mk a.x0 false (w64 (a.x4 + 1))))) else (some (.inl (Qx.mk a.x0 a.x3 (w64 (a.x4 + 1))))))) else (bif (decide (a.x4 > 0)) then (some (.inl (Qx.mk a.x0 false (w64 (a.x4 + 1))))) else (some (.inl (Qx.mk a.x0 a.x3 (w64 (a.x4 + 1))))))) else (bif (((a.x0.data.getD (Int.toNat a.x4) 0).toNat : Int) != 95) then (bif (a.x4 == 0) then (some (.inr (.inl false))) else (some (.inr (.inl false)))) else (bif (decide (a.x4 > 0)) then (some (.inl (Qx.mk a.x0 false (w64 (a.x4 + 1))))) else (some (.inl (Qx.mk a.x0 a.x3 (w64 (a.x4 + 1))))))))) else none) else (some (.inr (.inr a.x3))))
noncomputable def Vw : Qgc := loopW (Zf )
theorem Vw.eq (a : Qx) : Vw a = (Zf a).bind (Sum.elim Vw some) := JD _ _
noncomputable abbrev QeA {ρ R : Type} (a : Qx) (k0 : Bool → Tr ρ R) (k1 : Bool → Tr ρ R) : Tr ρ R := .loop2 (loopAt pp 83 5) (J2 a) (Vw a) Qdl Qdm k0 k1
noncomputable def QkN (a : Qx) : Tr (Qx ⊕ (Bool ⊕ Bool)) XS := (.as (decide (a.x4 < (zz a.x0))) (.as (in1 a.x4 (zz a.x0)) (let u35 := (decide ((gb a.x0 a.x4) ≥ 48)); .as u35 (yesN 2 u35 (let u25 := (decide ((gb a.x0 a.x4) ≥ 97)); .as u25 (yesN 2 u25 (let u19 := (!(decide ((gb a.x0 a.x4) ≤ 122))); .as u19 (yesN 2 u19 (let u17 := ((gb a.x0 a.x4) != 95); .as u17 (yesN 2 u17 (let u15 := (a.x4 == 0); .as u15 (.yes u15 (.yes u17 (.yes u15 (.yes u17 (.yes true (rx WT (.inl false))))))) (.no u15 (.yes u17 (.no u15 (.yes u17 (let u14 := (!(decide ((gb a.x0 a.x4) ≤ 57))); .as u14 (rx WT (.inl false)) (let u13 := (decide (a.x4 > 0)); .as u13 (yesN 2 u13 (.no u14 (lf J2 (Qx.mk a.x0 a.x3 (w64 (a.x4 + 1)))))) (noN 2 u13 (.no false (lf J2 (Qx.mk a.x0 a.x3 (w64 (a.x4 + 1)))))))))))))) (noN 4 u17 (.no false (let u16 := (decide (a.x4 > 0)); .as u16 (yesN 2 u16 (.as (!(decide ((gb a.x0 a.x4) ≤ 57))) (lf J2 (Qx.mk a.x0 false (w64 (a.x4 + 1)))) (lf J2 (Qx.mk a.x0 a.x3 (w64 (a.x4 + 1)))))) (noN 2 u16 (.no false (lf J2 (Qx.mk a.x0 a.x3 (w64 (a.x4 + 1))))))))))) (noN 2 u19 (noN 6 false (let u18 := (decide (a.x4 > 0)); .as u18 (yesN 2 u18 (.as (!(decide ((gb a.x0 a.x4) ≤ 57))) (lf J2 (Qx.mk a.x0 false (w64 (a.x4 + 1)))) (lf J2 (Qx.mk a.x0 a.x3 (w64 (a.x4 + 1)))))) (noN 2 u18 (.no false (lf J2 (Qx.mk a.x0 a.x3 (w64 (a.x4 + 1))))))))))) (noN 2 u25 (yesN 3 true (let u24 := ((gb a.x0 a.x4) != 95); .as u24 (yesN 2 u24 (let u22 := (a.x4 == 0); .as u22 (.yes u22 (.yes u24 (.yes u22 (.yes u24 (.yes true (rx WT (.inl false))))))) (.no u22 (.yes u24 (.no u22 (.yes u24 (let u21 := (!(decide ((gb a.x0 a.x4) ≤ 57))); .as u21 (rx WT (.inl false)) (let u20 := (decide (a.x4 > 0)); .as u20 (yesN 2 u20 (.no u21 (lf J2 (Qx.mk a.x0 a.x3 (w64 (a.x4 + 1)))))) (noN 2 u20 (.no false (lf J2 (Qx.mk a.x0 a.x3 (w64 (a.x4 + 1)))))))))))))) (noN 4 u24 (.no false (let u23 := (decide (a.x4 > 0)); .as u23 (yesN 2 u23 (.as (!(decide ((gb a.x0 a.x4) ≤ 57))) (lf J2 (Qx.mk a.x0 false (w64 (a.x4 + 1)))) (lf J2 (Qx.mk a.x0 a.x3 (w64 (a.x4 + 1)))))) (noN 2 u23 (.no false (lf J2 (Qx.mk a.x0 a.x3 (w64 (a.x4 + 1)))))))))))))) (noN 2 u35 (let u34 := (decide ((gb a.x0 a.x4) ≥ 97)); .as u34 (yesN 2 u34 (let u30 := (!(decide ((gb a.x0 a.x4) ≤ 122))); .as u30 (yesN 2 u30 (let u28 := ((gb a.x0 a.x4) != 95); .as u28 (yesN 2 u28 (let u26 := (a.x4 == 0); .as u26 (.yes u26 (.yes u28 (.yes u26 (.yes u28 (.yes true (rx WT (.inl false))))))) (.no u26 (.yes u28 (.no u26 (.yes u28 (.yes true (rx WT (.inl false))))))))) (noN 4 u28 (.no false (let u27 := (decide (a.x4 > 0)); .as u27 (yesN 2 u27 (.yes true (lf J2 (Qx.mk a.x0 false (w64 (a.x4 + 1)))))) (noN 2 u27 (.no false (lf J2 (Qx.mk a.x0 a.x3 (w64 (a.x4 + 1))))))))))) (noN 2 u30 (noN 6 false (let u29 := (decide (a.x4 > 0)); .as u29 (yesN 2 u29 (.yes true (lf J2 (Qx.mk a.x0 false (w64 (a.x4 + 1)))))) (noN 2 u29 (.no false (lf J2 (Qx.mk a.x0 a.x3 (w64 (a.x4 + 1))))))))))) (noN 2 u34 (yesN 3 true (let u33 := ((gb a.x0 a.x4) != 95); .as u33 (yesN 2 u33 (let u31 := (a.x4 == 0); .as u31 (.yes u31 (.yes u33 (.yes u31 (.yes u33 (.yes true (rx WT (.inl false))))))) (.no u31 (.yes u33 (.no u31 (.yes u33 (.yes true (rx WT (.inl false))))))))) (noN 4 u33 (.no false (let u32 := (decide (a.x4 > 0)); .as u32 (yesN 2 u32 (.yes true (lf J2 (Qx.mk a.x0 false (w64 (a.x4 + 1)))))) (noN 2 u32 (.no false (lf J2 (Qx.mk a.x0 a.x3 (w64 (a.x4 + 1))))))))))))))) .fail) (rx WT (.inr a.x3)))
theorem Vw.ok {a : Qx} {r : (Bool ⊕ Bool)} (h : Vw a = some r) : lw 0 83 (loopAt pp 83 5) (J2 a) = some (WT r) := by
 refine lpP h QkN fun a => ?_
 exact ⟨rfl, fun q0 => ⟨rfl, fun q1 => ⟨rfl, fun q2 => Qk 2 (q2) (⟨rfl, fun q3 => Qk 2 (q3) (⟨rfl, fun q4 => Qk 2 (q4) (⟨rfl, fun q5 => Qk 2 (q5) (⟨rfl, fun q6 => ⟨q6, ⟨q5, ⟨q6, ⟨q5, ⟨rfl, rfl⟩⟩⟩⟩⟩, fun q6 => ⟨q6, ⟨q5, ⟨q6, ⟨q5, ⟨rfl, fun q7 => rfl, fun q7 => ⟨rfl, fun q8 => Qk 2 (q8) (⟨q7, rfl⟩), fun q8 => noN_ok 2 (q8) (⟨rfl, rfl⟩)⟩⟩⟩⟩⟩⟩⟩), fun q5 => noN_ok 4 (q5) (⟨rfl, ⟨rfl, fun q6 => Qk 2 (q6) (⟨rfl, fun q7 => rfl, fun q7 => rfl⟩), fun q6 => noN_ok 2 (q6) (⟨rfl, rfl⟩)⟩⟩)⟩), fun q4 => noN_ok 2 (q4) (noN_ok 6 (rfl) (⟨rfl, fun q5 => Qk 2 (q5) (⟨rfl, fun q6 => rfl, fun q6 => rfl⟩), fun q5 => noN_ok 2 (q5) (⟨rfl, rfl⟩)⟩))⟩), fun q3 => noN_ok 2 (q3) (Qk 3 (rfl) (⟨rfl, fun q4 => Qk 2 (q4) (⟨rfl, fun q5 => ⟨q5, ⟨q4, ⟨q5, ⟨q4, ⟨rfl, rfl⟩⟩⟩⟩⟩, fun q5 => ⟨q5, ⟨q4, ⟨q5, ⟨q4, ⟨rfl, fun q6 => rfl, fun q6 => ⟨rfl, fun q7 => Qk 2 (q7) (⟨q6, rfl⟩), fun q7 => noN_ok 2 (q7) (⟨rfl, rfl⟩)⟩⟩⟩⟩⟩⟩⟩), fun q4 => noN_ok 4 (q4) (⟨rfl, ⟨rfl, fun q5 => Qk 2 (q5) (⟨rfl, fun q6 => rfl, fun q6 => rfl⟩), fun q5 => noN_ok 2 (q5) (⟨rfl, rfl⟩)⟩⟩)⟩))⟩), fun q2 => noN_ok 2 (q2) (⟨rfl, fun q3 => Qk 2 (q3) (⟨rfl, fun q4 => Qk 2 (q4) (⟨rfl, fun q5 => Qk 2 (q5) (⟨rfl, fun q6 => ⟨q6, ⟨q5, ⟨q6, ⟨q5, ⟨rfl, rfl⟩⟩⟩⟩⟩, fun q6 => ⟨q6, ⟨q5, ⟨q6, ⟨q5, ⟨rfl, rfl⟩⟩⟩⟩⟩⟩), fun q5 => noN_ok 4 (q5) (⟨rfl, ⟨rfl, fun q6 => Qk 2 (q6) (⟨rfl, rfl⟩), fun q6 => noN_ok 2 (q6) (⟨rfl, rfl⟩)⟩⟩)⟩), fun q4 => noN_ok 2 (q4) (noN_ok 6 (rfl) (⟨rfl, fun q5 => Qk 2 (q5) (⟨rfl, rfl⟩), fun q5 => noN_ok 2 (q5) (⟨rfl, rfl⟩)⟩))⟩), fun q3 => noN_ok 2 (q3) (Qk 3 (rfl) (⟨rfl, fun q4 => Qk 2 (q4) (⟨rfl, fun q5 => ⟨q5, ⟨q4, ⟨q5, ⟨q4, ⟨rfl, rfl⟩⟩⟩⟩⟩, fun q5 => ⟨q5, ⟨q4, ⟨q5, ⟨q4, ⟨rfl, rfl⟩⟩⟩⟩⟩⟩), fun q4 => noN_ok 4 (q4) (⟨rfl, ⟨rfl, fun q5 => Qk 2 (q5) (⟨rfl, rfl⟩), fun q5 => noN_ok 2 (q5) (⟨rfl, rfl⟩)⟩⟩)⟩))⟩)⟩, fun q1 => trivial⟩, fun q0 => rfl⟩
def QeB (L0 : Qgc) (a0 : ByteArray) : Option Bool := (bif (decide (((a0.size : Nat) : Int) < 1)) then (some false) else (bif (decide (((a0.size : Nat) : Int) > 12)) then (some false) else (bif (decide (0 ≤ (0 : Int) ∧ (0 : Int) < ((a0.size : Nat) : Int))) then (bif (((a0.data.getD (Int.toNat 0) 0).toNat : Int) == 114) then ((L0 (Qx.mk a0 (decide (((a0.size : Nat) : Int) > 1)) (0 : Int))).bind fun x => Sum.elim (fun (o1 : Bool) => (some o1)) (fun (o2 : Bool) => (some (!o2))) x) else ((L0 (Qx.mk a0 false (0 : Int))).bind fun x => Sum.elim (fun (o3 : Bool) => (some o3)) (fun (o4 : Bool) => (some (!o4))) x)) else none)))
noncomputable def ZJ : QkM := QeB Vw
theorem ZJ.eq (a0 : ByteArray) : ZJ a0 = QeB Vw a0 := rfl
noncomputable def Qoh (a0 : ByteArray) : Tr Bool AH := (let u37 := (decide ((zz a0) < 1)); .as u37 (yesN 3 u37 (.yes true (rt Ql false))) (noN 3 u37 (.as (decide ((zz a0) > 12)) (rt Ql false) (.as (in1 i0 (zz a0)) (let u36 := ((gb a0 i0) == 114); .as u36 (yesN 3 u36 (QeA (Qx.mk a0 (decide ((zz a0) > 1)) i0) (fun o1 => (rt Ql o1)) (fun o2 => (rt Ql (!o2))))) (noN 3 u36 (QeA (Qx.mk a0 false i0) (fun o3 => (rt Ql o3)) (fun o4 => (rt Ql (!o4)))))) .fail))))
theorem ZJ.ok {a0 : ByteArray} {r : Bool} (h : ZJ a0 = some r) : ww 83 [xs a0] [] = some (Ql r) := by
 refine fnP (Qoh a0) ?_ h
 exact ⟨rfl, fun q0 => Qk 3 (q0) (⟨rfl, rfl⟩), fun q0 => noN_ok 3 (q0) (⟨rfl, fun q1 => rfl, fun q1 => ⟨rfl, fun q2 => ⟨rfl, fun q3 => Qk 3 (q3) (⟨fun o1 h => ⟨Vw.ok (r := (.inl _)) h, rfl⟩, fun o2 h => ⟨Vw.ok (r := (.inr _)) h, rfl⟩⟩), fun q3 => noN_ok 3 (q3) (⟨fun o3 h => ⟨Vw.ok (r := (.inl _)) h, rfl⟩, fun o4 h => ⟨Vw.ok (r := (.inr _)) h, rfl⟩⟩)⟩, fun q2 => trivial⟩⟩)⟩
noncomputable abbrev Qoi {ρ R : Type} (a0 : ByteArray) (k : Bool → Tr ρ R) : Tr ρ R := .call (ww 83 [xs a0] []) (ZJ a0) Ql k
abbrev QeC := ByteArray → Int → Option Int
noncomputable def WH (a0 : ByteArray) (a1 : Int) : Option Int := indexByteS a0 a1
noncomputable abbrev QdH {ρ R : Type} (a0 : ByteArray) (a1 : Int) (k : Int → Tr ρ R) : Tr ρ R := .call (ww 70 [xs a0, xb a1] []) (WH a0 a1) Qq k
theorem WH.ok {a0 : ByteArray} {a1 : Int} {r : Int} (h : WH a0 a1 = some r) : ww 70 [xs a0, xb a1] [] = some (Qq r) := (ZI rfl _ _).trans (QkF h)
def Qi (r : ByteArray) : AV × Heap := (xs r, [])
abbrev P8 := ByteArray → ByteArray → Option ByteArray
noncomputable def UE (a0 : ByteArray) (a1 : ByteArray) : Option ByteArray := trimS2 a0 a1
noncomputable abbrev Xu {ρ R : Type} (a0 : ByteArray) (a1 : ByteArray) (k : ByteArray → Tr ρ R) : Tr ρ R := .call (ww 74 [xs a0, xs a1] []) (UE a0 a1) Qi k
theorem UE.ok {a0 : ByteArray} {a1 : ByteArray} {r : ByteArray} (h : UE a0 a1 = some r) : ww 74 [xs a0, xs a1] [] = some (Qi r) := (ZI rfl _ _).trans (Qqe h)
abbrev QhC := ByteArray → Option ByteArray
structure JQ where
 x0 : ByteArray
 x3 : Bool
 x4 : Int
def Ya (a : JQ) : St := { n := 31, nx := 0, env := [(0, xs a.x0), (3, xo a.x3), (4, xi a.x4)], heap := [] }
def Gx (a : ByteArray) : Ex × St := (.ret, { n := 31, nx := 0, env := [(2, xs a)], heap := [] })
abbrev Qdn := JQ → Option ByteArray
def Gy (C0 : P8) (a : JQ) : Option (JQ ⊕ ByteArray) := (bif (a.x4 == ((a.x0.size : Nat) : Int)) then (bif (decide (0 ≤ (0 : Int) ∧ (0 : Int) ≤ a.x4 ∧ a.x4 ≤ ((a.x0.size : Nat) : Int))) then ((C0 (a.x0.extract (Int.toNat 0) (Int.toNat a.x4)) XI).bind fun r1 => (some (.inr r1))) else none) else (bif (decide (0 ≤ a.x4 ∧ a.x4 < ((a.x0.size : Nat) : Int))) then (bif (((a.x0.data.getD (Int.toNat a.x4) 0).toNat : Int) == 35) then (bif (!a.x3) then (bif (decide (0 ≤ (0 : Int) ∧ (0 : Int) ≤ a.x4 ∧ a.x4 ≤ ((a.x0.size : Nat) : Int))) then ((C0 (a.x0.extract (Int.toNat 0) (Int.toNat a.x4)) XI).bind fun r2 => (some (.inr r2))) else none) else (bif (((a.x0.data.getD (Int.toNat a.x4) 0).toNat : Int) == 34) then (some (.inl (JQ.mk a.x0 (!a.x3) (w64 (a.x4 + 1))))) else (some (.inl (JQ.mk a.x0 a.x3 (w64 (a.x4 + 1))))))) else (bif (((a.x0.data.getD (Int.toNat a.x4) 0).toNat : Int) == 34) then (some (.inl (JQ.mk a.x0 (!a.x3) (w64 (a.x4 + 1))))) else (some (.inl (JQ.mk a.x0 a.x3 (w64 (a.x4 + 1))))))) else none))
noncomputable def Vx : Qdn := loopW (Gy UE)
theorem Vx.eq (a : JQ) : Vx a = (Gy UE a).bind (Sum.elim Vx some) := JD _ _
noncomputable abbrev Qir {ρ R : Type} (a : JQ) (k0 : ByteArray → Tr ρ R) : Tr ρ R := .loop (loopAt pp 71 3) (Ya a) (Vx a) Gx k0
noncomputable def Qis (a : JQ) : Tr (JQ ⊕ ByteArray) XS := (let u40 := (a.x4 == (zz a.x0)); .as u40 (yesN 6 u40 (.yes true (.as (in2 i0 a.x4 (zz a.x0)) (Xu (cu a.x0 i0 a.x4) XI fun r1 => (rx Gx r1)) .fail))) (noN 2 u40 (let u39 := (in1 a.x4 (zz a.x0)); .as u39 (noN 2 u40 (let u38 := ((gb a.x0 a.x4) == 35); .as u38 (.yes u38 (.no u40 (.yes u38 (.no u40 (.as (!a.x3) (.as (in2 i0 a.x4 (zz a.x0)) (Xu (cu a.x0 i0 a.x4) XI fun r2 => (rx Gx r2)) .fail) (.yes u39 (.as ((gb a.x0 a.x4) == 34) (lf Ya (JQ.mk a.x0 (!a.x3) (w64 (a.x4 + 1)))) (lf Ya (JQ.mk a.x0 a.x3 (w64 (a.x4 + 1))))))))))) (.no u38 (.no u40 (.no u38 (.no u40 (.no false (.yes u39 (.as ((gb a.x0 a.x4) == 34) (lf Ya (JQ.mk a.x0 (!a.x3) (w64 (a.x4 + 1)))) (lf Ya (JQ.mk a.x0 a.x3 (w64 (a.x4 + 1))))))))))))) .fail)))
theorem Vx.ok {a : JQ} {r : ByteArray} (h : Vx a = some r) : lw 0 71 (loopAt pp 71 3) (Ya a) = some (Gx r) := by
 refine lpP h Qis fun a => ?_
 exact ⟨rfl, fun q0 => Qk 6 (q0) (⟨rfl, ⟨rfl, fun q1 => fun r1 h => ⟨UE.ok h, rfl⟩, fun q1 => trivial⟩⟩), fun q0 => noN_ok 2 (q0) (⟨rfl, fun q1 => noN_ok 2 (q0) (⟨rfl, fun q2 => ⟨q2, ⟨q0, ⟨q2, ⟨q0, ⟨rfl, fun q3 => ⟨rfl, fun q4 => fun r2 h => ⟨UE.ok h, rfl⟩, fun q4 => trivial⟩, fun q3 => ⟨q1, ⟨rfl, fun q4 => rfl, fun q4 => rfl⟩⟩⟩⟩⟩⟩⟩, fun q2 => ⟨q2, ⟨q0, ⟨q2, ⟨q0, ⟨rfl, ⟨q1, ⟨rfl, fun q3 => rfl, fun q3 => rfl⟩⟩⟩⟩⟩⟩⟩⟩), fun q1 => trivial⟩)⟩
def Qby (L0 : Qdn) (a0 : ByteArray) : Option ByteArray := ((L0 (JQ.mk a0 false (0 : Int))).bind (fun (o1 : ByteArray) => (some o1)))
noncomputable def X6 : QhC := Qby Vx
theorem X6.eq (a0 : ByteArray) : X6 a0 = Qby Vx a0 := rfl
noncomputable def QlY (a0 : ByteArray) : Tr ByteArray AH := (Qir (JQ.mk a0 false i0) (fun o1 => (rt Qi o1)))
theorem X6.ok {a0 : ByteArray} {r : ByteArray} (h : X6 a0 = some r) : ww 71 [xs a0] [] = some (Qi r) := by
 refine fnP (QlY a0) ?_ h
 exact fun o1 h => ⟨Vx.ok h, rfl⟩
noncomputable abbrev QlZ {ρ R : Type} (a0 : ByteArray) (k : ByteArray → Tr ρ R) : Tr ρ R := .call (ww 71 [xs a0] []) (X6 a0) Qi k
abbrev Qgd := Int → Option Bool
def Qas (a0 : Int) : Option Bool := (bif (a0 != 32) then (some (a0 != 9)) else (some false))
noncomputable def XC : Qgd := Qas
theorem XC.eq (a0 : Int) : XC a0 = Qas a0 := rfl
noncomputable def QkO (a0 : Int) : Tr Bool AH := (let u41 := (a0 != 32); .as u41 (yesN 2 u41 (rt Ql (a0 != 9))) (noN 2 u41 (rt Ql false)))
theorem XC.ok {a0 : Int} {r : Bool} (h : XC a0 = some r) : ww 75 [xb a0] [] = some (Ql r) := by
 refine fnP (QkO a0) ?_ h
 exact ⟨rfl, fun q0 => Qk 2 (q0) (rfl), fun q0 => noN_ok 2 (q0) (rfl)⟩
noncomputable abbrev QkP {ρ R : Type} (a0 : Int) (k : Bool → Tr ρ R) : Tr ρ R := .call (ww 75 [xb a0] []) (XC a0) Ql k
abbrev Qdo := ByteArray → Option Int
structure Uv where
 x0 : ByteArray
 x5 : Int
def GJ (a : Uv) : St := { n := 20, nx := 0, env := [(0, xs a.x0), (1, .fn (.func 75) [] []), (5, xi a.x5)], heap := [] }
def Y7 (a : Int) : Ex × St := (.exit 0, { n := 20, nx := 0, env := [(5, xi a)], heap := [] })
abbrev Qat := Uv → Option Int
def GK (C0 : Qgd) (a : Uv) : Option (Uv ⊕ Int) := (bif (decide (a.x5 < ((a.x0.size : Nat) : Int))) then (bif (decide (0 ≤ a.x5 ∧ a.x5 < ((a.x0.size : Nat) : Int))) then ((C0 ((a.x0.data.getD (Int.toNat a.x5) 0).toNat : Int)).bind fun r1 => (bif r1 then (some (.inl (Uv.mk a.x0 (w64 (a.x5 + 1))))) else (some (.inr a.x5)))) else none) else (some (.inr a.x5)))
noncomputable def VW : Qat := loopW (GK XC)
theorem VW.eq (a : Uv) : VW a = (GK XC a).bind (Sum.elim VW some) := JD _ _
noncomputable abbrev QfK {ρ R : Type} (a : Uv) (k0 : Int → Tr ρ R) : Tr ρ R := .loop (loopAt pp 72 2) (GJ a) (VW a) Y7 k0
noncomputable def QfL (a : Uv) : Tr (Uv ⊕ Int) XS := (let u42 := (decide (a.x5 < (zz a.x0))); .as u42 (yesN 3 u42 (.as (in1 a.x5 (zz a.x0)) (.yes u42 (QkP (gb a.x0 a.x5) fun r1 => (.yes u42 (.as r1 (lf GJ (Uv.mk a.x0 (w64 (a.x5 + 1)))) (rx Y7 a.x5))))) .fail)) (noN 5 u42 (.no false (rx Y7 a.x5))))
theorem VW.ok {a : Uv} {r : Int} (h : VW a = some r) : lw 0 72 (loopAt pp 72 2) (GJ a) = some (Y7 r) := by
 refine lpP h QfL fun a => ?_
 exact ⟨rfl, fun q0 => Qk 3 (q0) (⟨rfl, fun q1 => ⟨q0, fun r1 h => ⟨XC.ok h, ⟨q0, ⟨rfl, fun q2 => rfl, fun q2 => rfl⟩⟩⟩⟩, fun q1 => trivial⟩), fun q0 => noN_ok 5 (q0) (⟨rfl, rfl⟩)⟩
def FN (L0 : Qat) (a0 : ByteArray) : Option Int := ((L0 (Uv.mk a0 (0 : Int))).bind (fun (o1 : Int) => (some o1)))
noncomputable def Vy : Qdo := FN VW
theorem Vy.eq (a0 : ByteArray) : Vy a0 = FN VW a0 := rfl
noncomputable def Qit (a0 : ByteArray) : Tr Int AH := (QfK (Uv.mk a0 i0) (fun o1 => (rt Qq o1)))
theorem Vy.ok {a0 : ByteArray} {r : Int} (h : Vy a0 = some r) : ww 72 [xs a0, .fn (.func 75) [] []] [] = some (Qq r) := by
 refine fnP (Qit a0) ?_ h
 exact fun o1 h => ⟨VW.ok h, rfl⟩
noncomputable abbrev FO {ρ R : Type} (a0 : ByteArray) (k : Int → Tr ρ R) : Tr ρ R := .call (ww 72 [xs a0, .fn (.func 75) [] []] []) (Vy a0) Qq k
def Qa8 (r : (List ByteArray)) : AV × Heap := (.arr 0, [(0, .arr false 1 (Qh r))])
abbrev Qcd := ByteArray → ByteArray → Option (List ByteArray)
noncomputable def Wb (a0 : ByteArray) (a1 : ByteArray) : Option (List ByteArray) := splitS a0 a1
noncomputable abbrev Qa9 {ρ R : Type} (a0 : ByteArray) (a1 : ByteArray) (k : (List ByteArray) → Tr ρ R) : Tr ρ R := .call (ww 79 [xs a0, xs a1] []) (Wb a0 a1) Qa8 k
theorem Wb.ok {a0 : ByteArray} {a1 : ByteArray} {r : (List ByteArray)} (h : Wb a0 a1 = some r) : ww 79 [xs a0, xs a1] [] = some (Qa8 r) := (ZI rfl _ _).trans (Qpb h)
def Jp (r : (List ByteArray)) : AV × Heap := (.sl (Qh r), [])
abbrev Qce := ByteArray → Option (List ByteArray)
structure Uc where
 x10 : Int
 x11 : Int
 r0 : (List ByteArray)
def Ga (a : Uc) : St := { n := 24, nx := 1, env := [(3, .arr 0), (10, xi a.x10), (11, xi a.x11)], heap := [(0, .arr false 1 (Qh a.r0))] }
def Gb (a : (List ByteArray)) : Ex × St := (.exit 0, { n := 24, nx := 1, env := [(3, .arr 0)], heap := [(0, .arr false 1 (Qh a))] })
abbrev Sg := Uc → Option (List ByteArray)
def YO (C0 : P8) (a : Uc) : Option (Uc ⊕ (List ByteArray)) := (bif (decide (a.x11 < a.x10)) then (bif (decide (0 ≤ a.x11 ∧ a.x11 < ((a.r0.length : Nat) : Int))) then ((a.r0[(Int.toNat a.x11)]?).bind fun e1 => ((C0 e1 XI).bind fun r2 => ((a.r0[(Int.toNat a.x11)]?).bind fun e3 => (some (.inl (Uc.mk a.x10 (w64 (a.x11 + 1)) (a.r0.set (Int.toNat a.x11) r2))))))) else none) else (some (.inr a.r0)))
noncomputable def UJ : Sg := loopW (YO UE)
theorem UJ.eq (a : Uc) : UJ a = (YO UE a).bind (Sum.elim UJ some) := JD _ _
noncomputable abbrev QeD {ρ R : Type} (a : Uc) (k0 : (List ByteArray) → Tr ρ R) : Tr ρ R := .loop (loopAt pp 123 5) (Ga a) (UJ a) Gb k0
noncomputable def QeE (a : Uc) : Tr (Uc ⊕ (List ByteArray)) XS := (.as (decide (a.x11 < a.x10)) (let u43 := (in1 a.x11 (((Qh a.r0).length : Nat) : Int)); .ask u43 (in1 a.x11 ((a.r0.length : Nat) : Int)) (.row ((Qh a.r0)[(Int.toNat a.x11)]?) (a.r0[(Int.toNat a.x11)]?) Q8 fun (e1 : ByteArray) => (Xu e1 XI fun r2 => (.yes u43 (.row ((Qh a.r0)[(Int.toNat a.x11)]?) (a.r0[(Int.toNat a.x11)]?) Q8 fun (e3 : ByteArray) => (.rows ((Qh a.r0).set (Int.toNat a.x11) [xs r2]) (Qh (a.r0.set (Int.toNat a.x11) r2)) (lf Ga (Uc.mk a.x10 (w64 (a.x11 + 1)) (a.r0.set (Int.toNat a.x11) r2)))))))) .fail) (rx Gb a.r0))
theorem UJ.ok {a : Uc} {r : (List ByteArray)} (h : UJ a = some r) : lw 0 123 (loopAt pp 123 5) (Ga a) = some (Gb r) := by
 refine lpP h QeE fun a => ?_
 exact ⟨rfl, fun q0 => ⟨(by rw [QD]), fun q1 => fun e1 h => ⟨Q3 h, fun r2 h => ⟨UE.ok h, ⟨(show (decide (0 ≤ a.x11 ∧ a.x11 < (((Qh a.r0).length : Nat) : Int))) = (decide (0 ≤ a.x11 ∧ a.x11 < ((a.r0.length : Nat) : Int))) from (by rw [QD])).trans q1, fun e3 h => ⟨Q3 h, ⟨(QkG a.r0 (Int.toNat a.x11) r2), rfl⟩⟩⟩⟩⟩, fun q1 => trivial⟩, fun q0 => rfl⟩
def E5 (C0 : Qcd) (L1 : Sg) (a0 : ByteArray) : Option (List ByteArray) := (bif (eqS a0 s_) then (some ([] : List ByteArray)) else ((C0 a0 h_2c).bind fun r1 => ((L1 (Uc.mk (((r1.length) : Nat) : Int) (0 : Int) r1)).bind (fun (o2 : (List ByteArray)) => (some o2)))))
noncomputable def WA : Qce := E5 Wb UJ
theorem WA.eq (a0 : ByteArray) : WA a0 = E5 Wb UJ a0 := rfl
noncomputable def QhD (a0 : ByteArray) : Tr (List ByteArray) AH := (.as (eqS a0 s_) (rt Jp ([] : List ByteArray)) (Qa9 a0 h_2c fun r1 => (.num ((Qh r1).length) (r1.length) (QeD (Uc.mk (((r1.length) : Nat) : Int) i0 r1) (fun o2 => (rt Jp o2))))))
theorem WA.ok {a0 : ByteArray} {r : (List ByteArray)} (h : WA a0 = some r) : ww 123 [xs a0] [] = some (Jp r) := by
 refine fnP (QhD a0) ?_ h
 exact ⟨rfl, fun q0 => rfl, fun q0 => fun r1 h => ⟨Wb.ok h, ⟨(QD _), fun o2 h => ⟨UJ.ok h, rfl⟩⟩⟩⟩
noncomputable abbrev QhE {ρ R : Type} (a0 : ByteArray) (k : (List ByteArray) → Tr ρ R) : Tr ρ R := .call (ww 123 [xs a0] []) (WA a0) Jp k
def Qbz (r : (List Qc)) : AV × Heap := (.sl (Xj r), [])
abbrev E6 := Option (List Qc)
def Qge : Option (List Qc) := (some [(Qc.mk Z8 (0 : Int) s_), (Qc.mk EV (1 : Int) s_), (Qc.mk Qca (2 : Int) s_), (Qc.mk Qad (4 : Int) s_), (Qc.mk Pw (6 : Int) s_), (Qc.mk Qaj (32 : Int) s_X), (Qc.mk Qai (48 : Int) s_X), (Qc.mk Pz (128 : Int) s_X), (Qc.mk PB (144 : Int) s_X), (Qc.mk EW (160 : Int) s_X), (Qc.mk EX (176 : Int) s_X), (Qc.mk ET (192 : Int) s_X), (Qc.mk ER (208 : Int) s_X), (Qc.mk EU (224 : Int) s_X), (Qc.mk ES (240 : Int) s_X), (Qc.mk Qb8 (256 : Int) Jc), (Qc.mk Qab (1024 : Int) Jc), (Qc.mk EY (1280 : Int) Jc), (Qc.mk Qan (1536 : Int) Jc), (Qc.mk Qae (3072 : Int) Jc), (Qc.mk Py (3328 : Int) Jc), (Qc.mk Pu (8192 : Int) V5), (Qc.mk EQ (8704 : Int) V5), (Qc.mk PE (9216 : Int) V5), (Qc.mk Px (10752 : Int) Jv), (Qc.mk Qb9 (17408 : Int) Jc), (Qc.mk Pv (17664 : Int) Jc), (Qc.mk Qac (17920 : Int) Jc), (Qc.mk Qb7 (18432 : Int) EK), (Qc.mk EN (24576 : Int) Jv), (Qc.mk EO (25600 : Int) Jv), (Qc.mk EP (26112 : Int) Jv), (Qc.mk PD (26624 : Int) Jv), (Qc.mk PC (27648 : Int) Jv), (Qc.mk Qaf (32768 : Int) Wf), (Qc.mk Qak (36864 : Int) Wf), (Qc.mk Qag (40960 : Int) Wg), (Qc.mk Qal (45056 : Int) Wg), (Qc.mk Qah (49152 : Int) Wh), (Qc.mk Qam (53248 : Int) Wh), (Qc.mk Qb5 (57344 : Int) XJ), (Qc.mk Qex (59392 : Int) s_T8), (Qc.mk Qb6 (59648 : Int) s_T8), (Qc.mk EL (469762048 : Int) Yl), (Qc.mk S8 (402685952 : Int) Ze), (Qc.mk S9 (402702336 : Int) UI), (Qc.mk Qb0 (402706432 : Int) UI), (Qc.mk Qaa (402710528 : Int) UI), (Qc.mk Qew (1879048192 : Int) Z7), (Qc.mk QbW (805306368 : Int) QA), (Qc.mk Qb1 (872415232 : Int) QA), (Qc.mk QbX (939524096 : Int) QA), (Qc.mk QbZ (1342177280 : Int) QA), (Qc.mk Qb3 (1409286144 : Int) QA), (Qc.mk QbY (1476395008 : Int) QA), (Qc.mk Qb2 (1543503872 : Int) QA), (Qc.mk Qhy (2013265920 : Int) Ea), (Qc.mk Qev (2013265921 : Int) Ea), (Qc.mk Qeu (2046820352 : Int) UN), (Qc.mk QbV (2046820353 : Int) UN), (Qc.mk Qhw (2080375316 : Int) Vh), (Qc.mk Qey (2080374864 : Int) Vh), (Qc.mk Qb4 (2080375254 : Int) Vh), (Qc.mk Qhx (2080374840 : Int) Vg), (Qc.mk s_or (2080375672 : Int) Vg), (Qc.mk Qhz (2080375416 : Int) Vg)])
noncomputable def VY : E6 := Qge
noncomputable def Ql0 : Tr (List Qc) AH := (.rows [[xs Z8, .sc (.int .u32 i0), xs s_], [xs EV, .sc (.int .u32 (zi 1)), xs s_], [xs Qca, .sc (.int .u32 (zi 2)), xs s_], [xs Qad, .sc (.int .u32 (zi 4)), xs s_], [xs Pw, .sc (.int .u32 (zi 6)), xs s_], [xs Qaj, .sc (.int .u32 (zi 32)), xs s_X], [xs Qai, .sc (.int .u32 (zi 48)), xs s_X], [xs Pz, .sc (.int .u32 (zi 128)), xs s_X], [xs PB, .sc (.int .u32 (zi 144)), xs s_X], [xs EW, .sc (.int .u32 (zi 160)), xs s_X], [xs EX, .sc (.int .u32 (zi 176)), xs s_X], [xs ET, .sc (.int .u32 (zi 192)), xs s_X], [xs ER, .sc (.int .u32 (zi 208)), xs s_X], [xs EU, .sc (.int .u32 (zi 224)), xs s_X], [xs ES, .sc (.int .u32 (zi 240)), xs s_X], [xs Qb8, .sc (.int .u32 (zi 256)), xs Jc], [xs Qab, .sc (.int .u32 (zi 1024)), xs Jc], [xs EY, .sc (.int .u32 (zi 1280)), xs Jc], [xs Qan, .sc (.int .u32 (zi 1536)), xs Jc], [xs Qae, .sc (.int .u32 (zi 3072)), xs Jc], [xs Py, .sc (.int .u32 (zi 3328)), xs Jc], [xs Pu, .sc (.int .u32 (zi 8192)), xs V5], [xs EQ, .sc (.int .u32 (zi 8704)), xs V5], [xs PE, .sc (.int .u32 (zi 9216)), xs V5], [xs Px, .sc (.int .u32 (zi 10752)), xs Jv], [xs Qb9, .sc (.int .u32 (zi 17408)), xs Jc], [xs Pv, .sc (.int .u32 (zi 17664)), xs Jc], [xs Qac, .sc (.int .u32 (zi 17920)), xs Jc], [xs Qb7, .sc (.int .u32 (zi 18432)), xs EK], [xs EN, .sc (.int .u32 (zi 24576)), xs Jv], [xs EO, .sc (.int .u32 (zi 25600)), xs Jv], [xs EP, .sc (.int .u32 (zi 26112)), xs Jv], [xs PD, .sc (.int .u32 (zi 26624)), xs Jv], [xs PC, .sc (.int .u32 (zi 27648)), xs Jv], [xs Qaf, .sc (.int .u32 (zi 32768)), xs Wf], [xs Qak, .sc (.int .u32 (zi 36864)), xs Wf], [xs Qag, .sc (.int .u32 (zi 40960)), xs Wg], [xs Qal, .sc (.int .u32 (zi 45056)), xs Wg], [xs Qah, .sc (.int .u32 (zi 49152)), xs Wh], [xs Qam, .sc (.int .u32 (zi 53248)), xs Wh], [xs Qb5, .sc (.int .u32 (zi 57344)), xs XJ], [xs Qex, .sc (.int .u32 (zi 59392)), xs s_T8], [xs Qb6, .sc (.int .u32 (zi 59648)), xs s_T8], [xs EL, .sc (.int .u32 (zi 469762048)), xs Yl], [xs S8, .sc (.int .u32 (zi 402685952)), xs Ze], [xs S9, .sc (.int .u32 (zi 402702336)), xs UI], [xs Qb0, .sc (.int .u32 (zi 402706432)), xs UI], [xs Qaa, .sc (.int .u32 (zi 402710528)), xs UI], [xs Qew, .sc (.int .u32 (zi 1879048192)), xs Z7], [xs QbW, .sc (.int .u32 (zi 805306368)), xs QA], [xs Qb1, .sc (.int .u32 (zi 872415232)), xs QA], [xs QbX, .sc (.int .u32 (zi 939524096)), xs QA], [xs QbZ, .sc (.int .u32 (zi 1342177280)), xs QA], [xs Qb3, .sc (.int .u32 (zi 1409286144)), xs QA], [xs QbY, .sc (.int .u32 (zi 1476395008)), xs QA], [xs Qb2, .sc (.int .u32 (zi 1543503872)), xs QA], [xs Qhy, .sc (.int .u32 (zi 2013265920)), xs Ea], [xs Qev, .sc (.int .u32 (zi 2013265921)), xs Ea], [xs Qeu, .sc (.int .u32 (zi 2046820352)), xs UN], [xs QbV, .sc (.int .u32 (zi 2046820353)), xs UN], [xs Qhw, .sc (.int .u32 (zi 2080375316)), xs Vh], [xs Qey, .sc (.int .u32 (zi 2080374864)), xs Vh], [xs Qb4, .sc (.int .u32 (zi 2080375254)), xs Vh], [xs Qhx, .sc (.int .u32 (zi 2080374840)), xs Vg], [xs s_or, .sc (.int .u32 (zi 2080375672)), xs Vg], [xs Qhz, .sc (.int .u32 (zi 2080375416)), xs Vg]] (Xj [(Qc.mk Z8 i0 s_), (Qc.mk EV (zi 1) s_), (Qc.mk Qca (zi 2) s_), (Qc.mk Qad (zi 4) s_), (Qc.mk Pw (zi 6) s_), (Qc.mk Qaj (zi 32) s_X), (Qc.mk Qai (zi 48) s_X), (Qc.mk Pz (zi 128) s_X), (Qc.mk PB (zi 144) s_X), (Qc.mk EW (zi 160) s_X), (Qc.mk EX (zi 176) s_X), (Qc.mk ET (zi 192) s_X), (Qc.mk ER (zi 208) s_X), (Qc.mk EU (zi 224) s_X), (Qc.mk ES (zi 240) s_X), (Qc.mk Qb8 (zi 256) Jc), (Qc.mk Qab (zi 1024) Jc), (Qc.mk EY (zi 1280) Jc), (Qc.mk Qan (zi 1536) Jc), (Qc.mk Qae (zi 3072) Jc), (Qc.mk Py (zi 3328) Jc), (Qc.mk Pu (zi 8192) V5), (Qc.mk EQ (zi 8704) V5), (Qc.mk PE (zi 9216) V5), (Qc.mk Px (zi 10752) Jv), (Qc.mk Qb9 (zi 17408) Jc), (Qc.mk Pv (zi 17664) Jc), (Qc.mk Qac (zi 17920) Jc), (Qc.mk Qb7 (zi 18432) EK), (Qc.mk EN (zi 24576) Jv), (Qc.mk EO (zi 25600) Jv), (Qc.mk EP (zi 26112) Jv), (Qc.mk PD (zi 26624) Jv), (Qc.mk PC (zi 27648) Jv), (Qc.mk Qaf (zi 32768) Wf), (Qc.mk Qak (zi 36864) Wf), (Qc.mk Qag (zi 40960) Wg), (Qc.mk Qal (zi 45056) Wg), (Qc.mk Qah (zi 49152) Wh), (Qc.mk Qam (zi 53248) Wh), (Qc.mk Qb5 (zi 57344) XJ), (Qc.mk Qex (zi 59392) s_T8), (Qc.mk Qb6 (zi 59648) s_T8), (Qc.mk EL (zi 469762048) Yl), (Qc.mk S8 (zi 402685952) Ze), (Qc.mk S9 (zi 402702336) UI), (Qc.mk Qb0 (zi 402706432) UI), (Qc.mk Qaa (zi 402710528) UI), (Qc.mk Qew (zi 1879048192) Z7), (Qc.mk QbW (zi 805306368) QA), (Qc.mk Qb1 (zi 872415232) QA), (Qc.mk QbX (zi 939524096) QA), (Qc.mk QbZ (zi 1342177280) QA), (Qc.mk Qb3 (zi 1409286144) QA), (Qc.mk QbY (zi 1476395008) QA), (Qc.mk Qb2 (zi 1543503872) QA), (Qc.mk Qhy (zi 2013265920) Ea), (Qc.mk Qev (zi 2013265921) Ea), (Qc.mk Qeu (zi 2046820352) UN), (Qc.mk QbV (zi 2046820353) UN), (Qc.mk Qhw (zi 2080375316) Vh), (Qc.mk Qey (zi 2080374864) Vh), (Qc.mk Qb4 (zi 2080375254) Vh), (Qc.mk Qhx (zi 2080374840) Vg), (Qc.mk s_or (zi 2080375672) Vg), (Qc.mk Qhz (zi 2080375416) Vg)]) (rt Qbz [(Qc.mk Z8 i0 s_), (Qc.mk EV (zi 1) s_), (Qc.mk Qca (zi 2) s_), (Qc.mk Qad (zi 4) s_), (Qc.mk Pw (zi 6) s_), (Qc.mk Qaj (zi 32) s_X), (Qc.mk Qai (zi 48) s_X), (Qc.mk Pz (zi 128) s_X), (Qc.mk PB (zi 144) s_X), (Qc.mk EW (zi 160) s_X), (Qc.mk EX (zi 176) s_X), (Qc.mk ET (zi 192) s_X), (Qc.mk ER (zi 208) s_X), (Qc.mk EU (zi 224) s_X), (Qc.mk ES (zi 240) s_X), (Qc.mk Qb8 (zi 256) Jc), (Qc.mk Qab (zi 1024) Jc), (Qc.mk EY (zi 1280) Jc), (Qc.mk Qan (zi 1536) Jc), (Qc.mk Qae (zi 3072) Jc), (Qc.mk Py (zi 3328) Jc), (Qc.mk Pu (zi 8192) V5), (Qc.mk EQ (zi 8704) V5), (Qc.mk PE (zi 9216) V5), (Qc.mk Px (zi 10752) Jv), (Qc.mk Qb9 (zi 17408) Jc), (Qc.mk Pv (zi 17664) Jc), (Qc.mk Qac (zi 17920) Jc), (Qc.mk Qb7 (zi 18432) EK), (Qc.mk EN (zi 24576) Jv), (Qc.mk EO (zi 25600) Jv), (Qc.mk EP (zi 26112) Jv), (Qc.mk PD (zi 26624) Jv), (Qc.mk PC (zi 27648) Jv), (Qc.mk Qaf (zi 32768) Wf), (Qc.mk Qak (zi 36864) Wf), (Qc.mk Qag (zi 40960) Wg), (Qc.mk Qal (zi 45056) Wg), (Qc.mk Qah (zi 49152) Wh), (Qc.mk Qam (zi 53248) Wh), (Qc.mk Qb5 (zi 57344) XJ), (Qc.mk Qex (zi 59392) s_T8), (Qc.mk Qb6 (zi 59648) s_T8), (Qc.mk EL (zi 469762048) Yl), (Qc.mk S8 (zi 402685952) Ze), (Qc.mk S9 (zi 402702336) UI), (Qc.mk Qb0 (zi 402706432) UI), (Qc.mk Qaa (zi 402710528) UI), (Qc.mk Qew (zi 1879048192) Z7), (Qc.mk QbW (zi 805306368) QA), (Qc.mk Qb1 (zi 872415232) QA), (Qc.mk QbX (zi 939524096) QA), (Qc.mk QbZ (zi 1342177280) QA), (Qc.mk Qb3 (zi 1409286144) QA), (Qc.mk QbY (zi 1476395008) QA), (Qc.mk Qb2 (zi 1543503872) QA), (Qc.mk Qhy (zi 2013265920) Ea), (Qc.mk Qev (zi 2013265921) Ea), (Qc.mk Qeu (zi 2046820352) UN), (Qc.mk QbV (zi 2046820353) UN), (Qc.mk Qhw (zi 2080375316) Vh), (Qc.mk Qey (zi 2080374864) Vh), (Qc.mk Qb4 (zi 2080375254) Vh), (Qc.mk Qhx (zi 2080374840) Vg), (Qc.mk s_or (zi 2080375672) Vg), (Qc.mk Qhz (zi 2080375416) Vg)]))
theorem VY.ok {r : (List Qc)} (h : VY = some r) : ww 139 [] [] = some (Qbz r) := by
 refine fnP (Ql0) ?_ h
 exact ⟨(P5 [(Qc.mk Z8 (0 : Int) s_), (Qc.mk EV (1 : Int) s_), (Qc.mk Qca (2 : Int) s_), (Qc.mk Qad (4 : Int) s_), (Qc.mk Pw (6 : Int) s_), (Qc.mk Qaj (32 : Int) s_X), (Qc.mk Qai (48 : Int) s_X), (Qc.mk Pz (128 : Int) s_X), (Qc.mk PB (144 : Int) s_X), (Qc.mk EW (160 : Int) s_X), (Qc.mk EX (176 : Int) s_X), (Qc.mk ET (192 : Int) s_X), (Qc.mk ER (208 : Int) s_X), (Qc.mk EU (224 : Int) s_X), (Qc.mk ES (240 : Int) s_X), (Qc.mk Qb8 (256 : Int) Jc), (Qc.mk Qab (1024 : Int) Jc), (Qc.mk EY (1280 : Int) Jc), (Qc.mk Qan (1536 : Int) Jc), (Qc.mk Qae (3072 : Int) Jc), (Qc.mk Py (3328 : Int) Jc), (Qc.mk Pu (8192 : Int) V5), (Qc.mk EQ (8704 : Int) V5), (Qc.mk PE (9216 : Int) V5), (Qc.mk Px (10752 : Int) Jv), (Qc.mk Qb9 (17408 : Int) Jc), (Qc.mk Pv (17664 : Int) Jc), (Qc.mk Qac (17920 : Int) Jc), (Qc.mk Qb7 (18432 : Int) EK), (Qc.mk EN (24576 : Int) Jv), (Qc.mk EO (25600 : Int) Jv), (Qc.mk EP (26112 : Int) Jv), (Qc.mk PD (26624 : Int) Jv), (Qc.mk PC (27648 : Int) Jv), (Qc.mk Qaf (32768 : Int) Wf), (Qc.mk Qak (36864 : Int) Wf), (Qc.mk Qag (40960 : Int) Wg), (Qc.mk Qal (45056 : Int) Wg), (Qc.mk Qah (49152 : Int) Wh), (Qc.mk Qam (53248 : Int) Wh), (Qc.mk Qb5 (57344 : Int) XJ), (Qc.mk Qex (59392 : Int) s_T8), (Qc.mk Qb6 (59648 : Int) s_T8), (Qc.mk EL (469762048 : Int) Yl), (Qc.mk S8 (402685952 : Int) Ze), (Qc.mk S9 (402702336 : Int) UI), (Qc.mk Qb0 (402706432 : Int) UI), (Qc.mk Qaa (402710528 : Int) UI), (Qc.mk Qew (1879048192 : Int) Z7), (Qc.mk QbW (805306368 : Int) QA), (Qc.mk Qb1 (872415232 : Int) QA), (Qc.mk QbX (939524096 : Int) QA), (Qc.mk QbZ (1342177280 : Int) QA), (Qc.mk Qb3 (1409286144 : Int) QA), (Qc.mk QbY (1476395008 : Int) QA), (Qc.mk Qb2 (1543503872 : Int) QA), (Qc.mk Qhy (2013265920 : Int) Ea), (Qc.mk Qev (2013265921 : Int) Ea), (Qc.mk Qeu (2046820352 : Int) UN), (Qc.mk QbV (2046820353 : Int) UN), (Qc.mk Qhw (2080375316 : Int) Vh), (Qc.mk Qey (2080374864 : Int) Vh), (Qc.mk Qb4 (2080375254 : Int) Vh), (Qc.mk Qhx (2080374840 : Int) Vg), (Qc.mk s_or (2080375672 : Int) Vg), (Qc.mk Qhz (2080375416 : Int) Vg)]), rfl⟩
noncomputable abbrev Qgf {ρ R : Type} (k : (List Qc) → Tr ρ R) : Tr ρ R := .call (ww 139 [] []) (VY) Qbz k
noncomputable def VY.s : Nat → Option (List Qc)
 | 0 => none
 | k + 1 => Qge
theorem VY.cv : Cv (fun k => VY.s k ) (VY ) := .un rfl (by exact .const _)
def Qau (r : (Bool × ByteArray)) : AV × Heap := (xo r.1, [(0, .box [] (Q8 r.2))])
abbrev Qgg := Qc → ByteArray → Option (Bool × ByteArray)
def Qav (a0 : Qc) (h0 : ByteArray) : Option (Bool × ByteArray) := (some ((eqS a0.name h0), h0))
noncomputable def XU : Qgg := Qav
theorem XU.eq (a0 : Qc) (h0 : ByteArray) : XU a0 h0 = Qav a0 h0 := rfl
noncomputable def QkQ (a0 : Qc) (h0 : ByteArray) : Tr (Bool × ByteArray) AH := (rt Qau ((eqS a0.name h0), h0))
theorem XU.ok {a0 : Qc} {h0 : ByteArray} {r : (Bool × ByteArray)} (h : XU a0 h0 = some r) : ww 176 [.agg (YM a0), .ptr 0 0] [(0, .box [] (Q8 h0))] = some (Qau r) := by
 refine fnP (QkQ a0 h0) ?_ h
 exact rfl
noncomputable abbrev QkR {ρ R : Type} (a0 : Qc) (h0 : ByteArray) (k : (Bool × ByteArray) → Tr ρ R) : Tr ρ R := .call (ww 176 [.agg (YM a0), .ptr 0 0] [(0, .box [] (Q8 h0))]) (XU a0 h0) Qau k
def YP (r : (Int × ByteArray)) : AV × Heap := (xi r.1, [(0, .box [] (Q8 r.2))])
abbrev Si := (List Qc) → ByteArray → Option (Int × ByteArray)
structure JE where
 x0 : (List Qc)
 x7 : Int
 x8 : Int
 h0 : ByteArray
structure Uk where
 x4 : Int
 h0 : ByteArray
def Zg (a : JE) : St := { n := 19, nx := 1, env := [(0, .sl (Xj a.x0)), (1, .fn (.func 176) [] [.ptr 0 0]), (7, xi a.x7), (8, xi a.x8)], heap := [(0, .box [] (Q8 a.h0))] }
def GS (a : Uk) : Ex × St := (.ret, { n := 19, nx := 1, env := [(4, xi a.x4)], heap := [(0, .box [] (Q8 a.h0))] })
def GT (a : ByteArray) : Ex × St := (.exit 0, { n := 19, nx := 1, env := [], heap := [(0, .box [] (Q8 a))] })
def Zh (a : (Uk ⊕ ByteArray)) : Ex × St := Sum.elim GS GT a
abbrev E7 := JE → Option (Uk ⊕ ByteArray)
def Zi (C0 : Qgg) (a : JE) : Option (JE ⊕ (Uk ⊕ ByteArray)) := (bif (decide (a.x8 < a.x7)) then (bif (decide (0 ≤ a.x8)) then ((a.x0[(Int.toNat a.x8)]?).bind fun e1 => ((C0 e1 a.h0).bind fun r2 => (bif r2.1 then (some (.inr (.inl (Uk.mk a.x8 r2.2)))) else (some (.inl (JE.mk a.x0 a.x7 (w64 (a.x8 + 1)) r2.2)))))) else none) else (some (.inr (.inr a.h0))))
noncomputable def Uh : E7 := loopW (Zi XU)
theorem Uh.eq (a : JE) : Uh a = (Zi XU a).bind (Sum.elim Uh some) := JD _ _
noncomputable abbrev Qcf {ρ R : Type} (a : JE) (k0 : Uk → Tr ρ R) (k1 : ByteArray → Tr ρ R) : Tr ρ R := .loop2 (loopAt pp 175 2) (Zg a) (Uh a) GS GT k0 k1
noncomputable def Qcg (a : JE) : Tr (JE ⊕ (Uk ⊕ ByteArray)) XS := (.as (decide (a.x8 < a.x7)) (.as (decide (0 ≤ a.x8)) (.row ((Xj a.x0)[(Int.toNat a.x8)]?) (a.x0[(Int.toNat a.x8)]?) YM fun (e1 : Qc) => (QkR e1 a.h0 fun r2 => (.as r2.1 (rx Zh (.inl (Uk.mk a.x8 r2.2))) (lf Zg (JE.mk a.x0 a.x7 (w64 (a.x8 + 1)) r2.2))))) .fail) (rx Zh (.inr a.h0)))
theorem Uh.ok {a : JE} {r : (Uk ⊕ ByteArray)} (h : Uh a = some r) : lw 1 175 (loopAt pp 175 2) (Zg a) = some (Zh r) := by
 refine lpP h Qcg fun a => ?_
 exact ⟨rfl, fun q0 => ⟨rfl, fun q1 => fun e1 h => ⟨Qdj h, fun r2 h => ⟨XU.ok h, ⟨rfl, fun q2 => rfl, fun q2 => rfl⟩⟩⟩, fun q1 => trivial⟩, fun q0 => rfl⟩
def Gc (L0 : E7) (a0 : (List Qc)) (h0 : ByteArray) : Option (Int × ByteArray) := ((L0 (JE.mk a0 (((a0.length) : Nat) : Int) (0 : Int) h0)).bind fun x => Sum.elim (fun (o1 : Uk) => (some (o1.x4, o1.h0))) (fun (o2 : ByteArray) => (some ((-1 : Int), o2))) x)
noncomputable def V6 : Si := Gc Uh
theorem V6.eq (a0 : (List Qc)) (h0 : ByteArray) : V6 a0 h0 = Gc Uh a0 h0 := rfl
noncomputable def QeF (a0 : (List Qc)) (h0 : ByteArray) : Tr (Int × ByteArray) AH := (.num ((Xj a0).length) (a0.length) (Qcf (JE.mk a0 (((a0.length) : Nat) : Int) i0 h0) (fun o1 => (rt YP (o1.x4, o1.h0))) (fun o2 => (rt YP ((-1 : Int), o2)))))
theorem V6.ok {a0 : (List Qc)} {h0 : ByteArray} {r : (Int × ByteArray)} (h : V6 a0 h0 = some r) : ww 175 [.sl (Xj a0), .fn (.func 176) [] [.ptr 0 0]] [(0, .box [] (Q8 h0))] = some (YP r) := by
 refine fnP (QeF a0 h0) ?_ h
 exact ⟨(Qdk _), ⟨fun o1 h => ⟨Uh.ok (r := (.inl _)) h, rfl⟩, fun o2 h => ⟨Uh.ok (r := (.inr _)) h, rfl⟩⟩⟩
noncomputable abbrev QeG {ρ R : Type} (a0 : (List Qc)) (h0 : ByteArray) (k : (Int × ByteArray) → Tr ρ R) : Tr ρ R := .call (ww 175 [.sl (Xj a0), .fn (.func 176) [] [.ptr 0 0]] [(0, .box [] (Q8 h0))]) (V6 a0 h0) YP k
def WY (r : (Int × Bool)) : AV × Heap := (.tup [xi r.1, xo r.2], [])
abbrev Qje := ByteArray → Option (Int × Bool)
def QcT (C0 : E6) (C1 : Si) (a0 : ByteArray) : Option (Int × Bool) := ((C0).bind fun r1 => ((C1 r1 a0).bind fun r2 => (some ((if (0 : Int) > r2.1 then (0 : Int) else r2.1), (decide (r2.1 ≥ 0))))))
noncomputable def Xv : Qje := QcT VY V6
theorem Xv.eq (a0 : ByteArray) : Xv a0 = QcT VY V6 a0 := rfl
noncomputable def Qnr (a0 : ByteArray) : Tr (Int × Bool) AH := (Qgf fun r1 => (QeG r1 a0 fun r2 => (rt WY ((if i0 > r2.1 then i0 else r2.1), (decide (r2.1 ≥ 0))))))
theorem Xv.ok {a0 : ByteArray} {r : (Int × Bool)} (h : Xv a0 = some r) : ww 124 [xs a0] [] = some (WY r) := by
 refine fnP (Qnr a0) ?_ h
 exact fun r1 h => ⟨VY.ok h, fun r2 h => ⟨V6.ok h, rfl⟩⟩
noncomputable abbrev Qns {ρ R : Type} (a0 : ByteArray) (k : (Int × Bool) → Tr ρ R) : Tr ρ R := .call (ww 124 [xs a0] []) (Xv a0) WY k
abbrev Y8 := Qc → Option ByteArray
def PF (a0 : Qc) : Option ByteArray := (some a0.kinds)
noncomputable def Vi : Y8 := PF
noncomputable def QeH (a0 : Qc) : Tr ByteArray AH := (rt Qi a0.kinds)
theorem Vi.ok {a0 : Qc} {r : ByteArray} (h : Vi a0 = some r) : ww 200 [.agg (YM a0)] [] = some (Qi r) := by
 refine fnP (QeH a0) ?_ h
 exact rfl
noncomputable abbrev QeI {ρ R : Type} (a0 : Qc) (k : ByteArray → Tr ρ R) : Tr ρ R := .call (ww 200 [.agg (YM a0)] []) (Vi a0) Qi k
noncomputable def Vi.s : Nat → Qc → Option ByteArray
 | 0, _ => none
 | k + 1, a0 => PF a0
theorem Vi.cv (a0 : Qc) : Cv (fun k => Vi.s k a0) (Vi a0) := .un rfl (by exact .const _)
abbrev Qfv := Int → Option ByteArray
def Qaw (C0 : E6) (C1 : Y8) (a0 : Int) : Option ByteArray := ((C0).bind fun r1 => (bif (decide (a0 ≥ 0)) then (bif (decide (a0 < (((r1.length) : Nat) : Int))) then (bif (decide (0 ≤ a0)) then ((r1[(Int.toNat a0)]?).bind fun e2 => ((C1 e2).bind fun r3 => (some r3))) else none) else (some s_)) else (some s_)))
theorem Qpe {C0 : Nat → E6} {D0 : E6} (H0 : Cv C0 D0) {C1 : Nat → Y8} {D1 : Y8} (H1 : Cv1 C1 D1) (a0 : Int) : Cv (fun k => Qaw (C0 k) (C1 k) a0) (Qaw D0 D1 a0) := by
 unfold Qaw
 exact .bind (H0) fun r1 => .cond (.cond (.cond (.bind (.const _) fun e2 => .bind (H1 _) fun r3 => by exact .const _) cst) cst) cst
noncomputable def Gd : Qfv := Qaw VY Vi
noncomputable def Qpf (a0 : Int) : Tr ByteArray AH := (Qgf fun r1 => (let u44 := (decide (a0 ≥ 0)); .as u44 (yesN 2 u44 (.num ((Xj r1).length) (r1.length) (yesN 2 u44 (.as (decide (a0 < (((r1.length) : Nat) : Int))) (.as (decide (0 ≤ a0)) (.row ((Xj r1)[(Int.toNat a0)]?) (r1[(Int.toNat a0)]?) YM fun (e2 : Qc) => (QeI e2 fun r3 => (rt Qi r3))) .fail) (rt Qi s_))))) (noN 4 u44 (.no false (rt Qi s_)))))
theorem Gd.ok {a0 : Int} {r : ByteArray} (h : Gd a0 = some r) : ww 166 [xi a0, .fn (.func 200) [] []] [] = some (Qi r) := by
 refine fnP (Qpf a0) ?_ h
 exact fun r1 h => ⟨VY.ok h, ⟨rfl, fun q0 => Qk 2 (q0) (⟨(Qdk _), Qk 2 (q0) (⟨rfl, fun q1 => ⟨rfl, fun q2 => fun e2 h => ⟨Qdj h, fun r3 h => ⟨Vi.ok h, rfl⟩⟩, fun q2 => trivial⟩, fun q1 => rfl⟩)⟩), fun q0 => noN_ok 4 (q0) (⟨rfl, rfl⟩)⟩⟩
noncomputable abbrev Qpg {ρ R : Type} (a0 : Int) (k : ByteArray → Tr ρ R) : Tr ρ R := .call (ww 166 [xi a0, .fn (.func 200) [] []] []) (Gd a0) Qi k
noncomputable def Gd.s : Nat → Int → Option ByteArray
 | 0, _ => none
 | k + 1, a0 => Qaw (VY.s k) (Vi.s k) a0
theorem Gd.cv (a0 : Int) : Cv (fun k => Gd.s k a0) (Gd a0) := .un rfl (Qpe VY.cv Vi.cv a0)
abbrev QhF := Int → Option ByteArray
def GU (C0 : Qfv) (a0 : Int) : Option ByteArray := ((C0 a0).bind fun r1 => (some r1))
theorem Ql1 {C0 : Nat → Qfv} {D0 : Qfv} (H0 : Cv1 C0 D0) (a0 : Int) : Cv (fun k => GU (C0 k) a0) (GU D0 a0) := by
 unfold GU
 exact .bind (H0 _) fun r1 => by exact .const _
noncomputable def WL : QhF := GU Gd
noncomputable def Ql2 (a0 : Int) : Tr ByteArray AH := (Qpg a0 fun r1 => (rt Qi r1))
theorem WL.ok {a0 : Int} {r : ByteArray} (h : WL a0 = some r) : ww 146 [xi a0] [] = some (Qi r) := by
 refine fnP (Ql2 a0) ?_ h
 exact fun r1 h => ⟨Gd.ok h, rfl⟩
noncomputable abbrev Ql3 {ρ R : Type} (a0 : Int) (k : ByteArray → Tr ρ R) : Tr ρ R := .call (ww 146 [xi a0] []) (WL a0) Qi k
noncomputable def WL.s : Nat → Int → Option ByteArray
 | 0, _ => none
 | k + 1, a0 => GU (Gd.s k) a0
theorem WL.cv (a0 : Int) : Cv (fun k => WL.s k a0) (WL a0) := .un rfl (Ql1 Gd.cv a0)
abbrev QhG := ByteArray → Option (List ByteArray)
noncomputable def Xw (a0 : ByteArray) : Option (List ByteArray) := fieldsS a0
noncomputable abbrev QgL {ρ R : Type} (a0 : ByteArray) (k : (List ByteArray) → Tr ρ R) : Tr ρ R := .call (ww 145 [xs a0] []) (Xw a0) Jp k
theorem Xw.ok {a0 : ByteArray} {r : (List ByteArray)} (h : Xw a0 = some r) : ww 145 [xs a0] [] = some (Jp r) := (ZI rfl _ _).trans (Qn9 h)
abbrev QfM := ByteArray → ByteArray → Option Bool
noncomputable def WZ (a0 : ByteArray) (a1 : ByteArray) : Option Bool := containsS a0 a1
noncomputable abbrev QeJ {ρ R : Type} (a0 : ByteArray) (a1 : ByteArray) (k : Bool → Tr ρ R) : Tr ρ R := .call (ww 177 [xs a0, xs a1] []) (WZ a0 a1) Ql k
theorem WZ.ok {a0 : ByteArray} {a1 : ByteArray} {r : Bool} (h : WZ a0 a1 = some r) : ww 177 [xs a0, xs a1] [] = some (Ql r) := (ZI rfl _ _).trans (QlT h)
def P9 (r : (List (List Int))) : AV × Heap := (.sl (Ps r), [])
abbrev Ym := Option (List (List Int))
def Qdp : Option (List (List Int)) := (some [[(9 : Int)], [(8 : Int)], [(10 : Int), (11 : Int)], [(5 : Int), (6 : Int)], [(7 : Int)]])
noncomputable def VB : Ym := Qdp
theorem VB.eq : VB = Qdp := rfl
noncomputable def QjS : Tr (List (List Int)) AH := (.rows [[xi (zi 9)]] (Qm [(zi 9)]) (.rows [[xi (zi 8)]] (Qm [(zi 8)]) (.rows [[xi (zi 10)], [xi (zi 11)]] (Qm [(zi 10), (zi 11)]) (.rows [[xi (zi 5)], [xi (zi 6)]] (Qm [(zi 5), (zi 6)]) (.rows [[xi (zi 7)]] (Qm [(zi 7)]) (.rows [[.sl (Qm [(zi 9)])], [.sl (Qm [(zi 8)])], [.sl (Qm [(zi 10), (zi 11)])], [.sl (Qm [(zi 5), (zi 6)])], [.sl (Qm [(zi 7)])]] (Ps [[(zi 9)], [(zi 8)], [(zi 10), (zi 11)], [(zi 5), (zi 6)], [(zi 7)]]) (rt P9 [[(zi 9)], [(zi 8)], [(zi 10), (zi 11)], [(zi 5), (zi 6)], [(zi 7)]])))))))
theorem VB.ok {r : (List (List Int))} (h : VB = some r) : ww 242 [] [] = some (P9 r) := by
 refine fnP (QjS) ?_ h
 exact ⟨(Jo [(9 : Int)]), ⟨(Jo [(8 : Int)]), ⟨(Jo [(10 : Int), (11 : Int)]), ⟨(Jo [(5 : Int), (6 : Int)]), ⟨(Jo [(7 : Int)]), ⟨(QcQ [[(9 : Int)], [(8 : Int)], [(10 : Int), (11 : Int)], [(5 : Int), (6 : Int)], [(7 : Int)]]), rfl⟩⟩⟩⟩⟩⟩
noncomputable abbrev Sa {ρ R : Type} (k : (List (List Int)) → Tr ρ R) : Tr ρ R := .call (ww 242 [] []) (VB) P9 k
abbrev Ey := ByteArray → Int → Option ByteArray
structure Jh where
 x0 : ByteArray
 x1 : Int
def XV (a : Jh) : St := { n := 17, nx := 0, env := [(0, xs a.x0), (1, xb a.x1)], heap := [] }
def W7 (a : ByteArray) : Ex × St := (.exit 0, { n := 17, nx := 0, env := [(0, xs a)], heap := [] })
abbrev Gf := Jh → Option ByteArray
def XW (a : Jh) : Option (Jh ⊕ ByteArray) := (bif (decide (((a.x0.size : Nat) : Int) > 0)) then (bif (decide (0 ≤ (0 : Int) ∧ (0 : Int) < ((a.x0.size : Nat) : Int))) then (bif (((a.x0.data.getD (Int.toNat 0) 0).toNat : Int) == a.x1) then (bif (decide (0 ≤ (1 : Int) ∧ (1 : Int) ≤ ((a.x0.size : Nat) : Int) ∧ ((a.x0.size : Nat) : Int) ≤ ((a.x0.size : Nat) : Int))) then (some (.inl (Jh.mk (a.x0.extract (Int.toNat 1) (Int.toNat ((a.x0.size : Nat) : Int))) a.x1))) else none) else (some (.inr a.x0))) else none) else (some (.inr a.x0)))
noncomputable def JC : Gf := loopW (XW )
theorem JC.eq (a : Jh) : JC a = (XW a).bind (Sum.elim JC some) := JD _ _
noncomputable abbrev Sx {ρ R : Type} (a : Jh) (k0 : ByteArray → Tr ρ R) : Tr ρ R := .loop (loopAt pp 116 1) (XV a) (JC a) W7 k0
noncomputable def Sy (a : Jh) : Tr (Jh ⊕ ByteArray) XS := (let u45 := (decide ((zz a.x0) > 0)); .as u45 (.yes u45 (.as (in1 i0 (zz a.x0)) (yesN 3 u45 (.as ((gb a.x0 i0) == a.x1) (.as (in2 (zi 1) (zz a.x0) (zz a.x0)) (lf XV (Jh.mk (cu a.x0 (zi 1) (zz a.x0)) a.x1)) .fail) (rx W7 a.x0))) .fail)) (noN 4 u45 (.no false (rx W7 a.x0))))
theorem JC.ok {a : Jh} {r : ByteArray} (h : JC a = some r) : lw 0 116 (loopAt pp 116 1) (XV a) = some (W7 r) := by
 refine lpP h Sy fun a => ?_
 exact ⟨rfl, fun q0 => ⟨q0, ⟨rfl, fun q1 => Qk 3 (q0) (⟨rfl, fun q2 => ⟨rfl, fun q3 => rfl, fun q3 => trivial⟩, fun q2 => rfl⟩), fun q1 => trivial⟩⟩, fun q0 => noN_ok 4 (q0) (⟨rfl, rfl⟩)⟩
def YZ (L0 : Gf) (a0 : ByteArray) (a1 : Int) : Option ByteArray := ((L0 (Jh.mk a0 a1)).bind (fun (o1 : ByteArray) => (some o1)))
noncomputable def U4 : Ey := YZ JC
theorem U4.eq (a0 : ByteArray) (a1 : Int) : U4 a0 a1 = YZ JC a0 a1 := rfl
noncomputable def QbA (a0 : ByteArray) (a1 : Int) : Tr ByteArray AH := (Sx (Jh.mk a0 a1) (fun o1 => (rt Qi o1)))
theorem U4.ok {a0 : ByteArray} {a1 : Int} {r : ByteArray} (h : U4 a0 a1 = some r) : ww 116 [xs a0, xb a1] [] = some (Qi r) := by
 refine fnP (QbA a0 a1) ?_ h
 exact fun o1 h => ⟨JC.ok h, rfl⟩
noncomputable abbrev QbB {ρ R : Type} (a0 : ByteArray) (a1 : Int) (k : ByteArray → Tr ρ R) : Tr ρ R := .call (ww 116 [xs a0, xb a1] []) (U4 a0 a1) Qi k
abbrev Sj := ByteArray → Option ByteArray
def Gg (C0 : Ey) (a0 : ByteArray) : Option ByteArray := (bif (eqS a0 s_) then (some a0) else ((C0 a0 (32 : Int)).bind fun r1 => (some r1)))
noncomputable def VC : Sj := Gg U4
theorem VC.eq (a0 : ByteArray) : VC a0 = Gg U4 a0 := rfl
noncomputable def QeK (a0 : ByteArray) : Tr ByteArray AH := (let u46 := (eqS a0 s_); .as u46 (yesN 2 u46 (.yes true (rt Qi a0))) (noN 2 u46 (.no false (yesN 2 true (.yes (in1 i0 (zz h_20)) (yesN 3 true (.yes (in1 i0 (zz h_20)) (QbB a0 (zi 32) fun r1 => (rt Qi r1)))))))))
theorem VC.ok {a0 : ByteArray} {r : ByteArray} (h : VC a0 = some r) : ww 245 [xs a0, xs h_20] [] = some (Qi r) := by
 refine fnP (QeK a0) ?_ h
 exact ⟨rfl, fun q0 => Qk 2 (q0) (⟨rfl, rfl⟩), fun q0 => noN_ok 2 (q0) (⟨rfl, Qk 2 (rfl) (⟨(by decide), Qk 3 (rfl) (⟨(by decide), fun r1 h => ⟨U4.ok h, rfl⟩⟩)⟩)⟩)⟩
noncomputable abbrev QeL {ρ R : Type} (a0 : ByteArray) (k : ByteArray → Tr ρ R) : Tr ρ R := .call (ww 245 [xs a0, xs h_20] []) (VC a0) Qi k
def Zw (r : Qb) : AV × Heap := (.tup [], [(0, .box [] (QL r))])
abbrev ZM := Qb → Option Qb
def Zx (C0 : Sj) (h0 : Qb) : Option Qb := ((C0 h0.left).bind fun r1 => (some (Qb.mk r1 h0.deep h0.bad)))
noncomputable def Ud : ZM := Zx VC
theorem Ud.eq (h0 : Qb) : Ud h0 = Zx VC h0 := rfl
noncomputable def QcU (h0 : Qb) : Tr Qb AH := (QeL h0.left fun r1 => (rt Zw (Qb.mk r1 h0.deep h0.bad)))
theorem Ud.ok {h0 : Qb} {r : Qb} (h : Ud h0 = some r) : ww 216 [.ptr 0 0] [(0, .box [] (QL h0))] = some (Zw r) := by
 refine fnP (QcU h0) ?_ h
 exact fun r1 h => ⟨VC.ok h, rfl⟩
noncomputable abbrev E8 {ρ R : Type} (h0 : Qb) (k : Qb → Tr ρ R) : Tr ρ R := .call (ww 216 [.ptr 0 0] [(0, .box [] (QL h0))]) (Ud h0) Zw k
abbrev Y0 := ByteArray → ByteArray → Option Bool
def YA (a0 : ByteArray) (a1 : ByteArray) : Option Bool := (bif (decide (((a0.size : Nat) : Int) ≥ ((a1.size : Nat) : Int))) then (bif (decide (0 ≤ (0 : Int) ∧ (0 : Int) ≤ ((a1.size : Nat) : Int) ∧ ((a1.size : Nat) : Int) ≤ ((a0.size : Nat) : Int))) then (some (eqS (a0.extract (Int.toNat 0) (Int.toNat ((a1.size : Nat) : Int))) a1)) else none) else (some false))
noncomputable def JT : Y0 := YA
theorem JT.eq (a0 : ByteArray) (a1 : ByteArray) : JT a0 a1 = YA a0 a1 := rfl
noncomputable def QaZ (a0 : ByteArray) (a1 : ByteArray) : Tr Bool AH := (let u47 := (decide ((zz a0) ≥ (zz a1))); .as u47 (yesN 3 u47 (.as (in2 i0 (zz a1) (zz a0)) (yesN 3 u47 (rt Ql (eqS (cu a0 i0 (zz a1)) a1))) .fail)) (noN 6 u47 (rt Ql false)))
theorem JT.ok {a0 : ByteArray} {a1 : ByteArray} {r : Bool} (h : JT a0 a1 = some r) : ww 284 [xs a0, xs a1] [] = some (Ql r) := by
 refine fnP (QaZ a0 a1) ?_ h
 exact ⟨rfl, fun q0 => Qk 3 (q0) (⟨rfl, fun q1 => Qk 3 (q0) (rfl), fun q1 => trivial⟩), fun q0 => noN_ok 6 (q0) (rfl)⟩
noncomputable abbrev GG {ρ R : Type} (a0 : ByteArray) (a1 : ByteArray) (k : Bool → Tr ρ R) : Tr ρ R := .call (ww 284 [xs a0, xs a1] []) (JT a0 a1) Ql k
abbrev PG := ByteArray → ByteArray → Option Bool
def Yq (C0 : Y0) (a0 : ByteArray) (a1 : ByteArray) : Option Bool := ((C0 a0 a1).bind fun r1 => (some r1))
noncomputable def U2 : PG := Yq JT
theorem U2.eq (a0 : ByteArray) (a1 : ByteArray) : U2 a0 a1 = Yq JT a0 a1 := rfl
noncomputable def QdI (a0 : ByteArray) (a1 : ByteArray) : Tr Bool AH := (GG a0 a1 fun r1 => (rt Ql r1))
theorem U2.ok {a0 : ByteArray} {a1 : ByteArray} {r : Bool} (h : U2 a0 a1 = some r) : ww 265 [xs a0, xs a1] [] = some (Ql r) := by
 refine fnP (QdI a0 a1) ?_ h
 exact fun r1 h => ⟨JT.ok h, rfl⟩
noncomputable abbrev QdJ {ρ R : Type} (a0 : ByteArray) (a1 : ByteArray) (k : Bool → Tr ρ R) : Tr ρ R := .call (ww 265 [xs a0, xs a1] []) (U2 a0 a1) Ql k
def XK (r : (Bool × Qb)) : AV × Heap := (xo r.1, [(0, .box [] (QL r.2))])
abbrev Wl := ByteArray → Qb → Option (Bool × Qb)
def Gh (C0 : ZM) (C1 : PG) (a1 : ByteArray) (h0 : Qb) : Option (Bool × Qb) := ((C0 h0).bind fun r1 => (bif r1.bad then (some (false, r1)) else ((C1 r1.left a1).bind fun r2 => (bif (!r2) then (some (false, r1)) else (bif (decide (0 ≤ ((a1.size : Nat) : Int) ∧ ((a1.size : Nat) : Int) ≤ ((r1.left.size : Nat) : Int) ∧ ((r1.left.size : Nat) : Int) ≤ ((r1.left.size : Nat) : Int))) then (some (true, (Qb.mk (r1.left.extract (Int.toNat ((a1.size : Nat) : Int)) (Int.toNat ((r1.left.size : Nat) : Int))) r1.deep r1.bad))) else none)))))
noncomputable def Jz : Wl := Gh Ud U2
theorem Jz.eq (a1 : ByteArray) (h0 : Qb) : Jz a1 h0 = Gh Ud U2 a1 h0 := rfl
noncomputable def QeM (a1 : ByteArray) (h0 : Qb) : Tr (Bool × Qb) AH := (E8 h0 fun r1 => (.as r1.bad (yesN 7 r1.bad (.yes true (rt XK (false, r1)))) (noN 5 r1.bad (QdJ r1.left a1 fun r2 => (noN 2 r1.bad (.as (!r2) (rt XK (false, r1)) (.as (in2 (zz a1) (zz r1.left) (zz r1.left)) (rt XK (true, (Qb.mk (cu r1.left (zz a1) (zz r1.left)) r1.deep r1.bad))) .fail)))))))
theorem Jz.ok {a1 : ByteArray} {h0 : Qb} {r : (Bool × Qb)} (h : Jz a1 h0 = some r) : ww 261 [.ptr 0 0, xs a1] [(0, .box [] (QL h0))] = some (XK r) := by
 refine fnP (QeM a1 h0) ?_ h
 exact fun r1 h => ⟨Ud.ok h, ⟨rfl, fun q0 => Qk 7 (q0) (⟨rfl, rfl⟩), fun q0 => noN_ok 5 (q0) (fun r2 h => ⟨U2.ok h, noN_ok 2 (q0) (⟨rfl, fun q1 => rfl, fun q1 => ⟨rfl, fun q2 => rfl, fun q2 => trivial⟩⟩)⟩)⟩⟩
noncomputable abbrev XL {ρ R : Type} (a1 : ByteArray) (h0 : Qb) (k : (Bool × Qb) → Tr ρ R) : Tr ρ R := .call (ww 261 [.ptr 0 0, xs a1] [(0, .box [] (QL h0))]) (Jz a1 h0) XK k
def Qr (r : (Qa × Qb)) : AV × Heap := (.agg (Js r.1), [(0, .box [] (QL r.2))])
abbrev JV := Qb → Option (Qa × Qb)
def PH (h0 : Qb) : Option (Qa × Qb) := (some ((Qa.mk (0 : Int) (0 : Int) s_ ([] : List Qa)), (Qb.mk h0.left h0.deep true)))
noncomputable def QT : JV := PH
theorem QT.eq (h0 : Qb) : QT h0 = PH h0 := rfl
noncomputable def QeN (h0 : Qb) : Tr (Qa × Qb) AH := (rt Qr ((Qa.mk i0 i0 s_ ([] : List Qa)), (Qb.mk h0.left h0.deep true)))
theorem QT.ok {h0 : Qb} {r : (Qa × Qb)} (h : QT h0 = some r) : ww 273 [.ptr 0 0] [(0, .box [] (QL h0))] = some (Qr r) := by
 refine fnP (QeN h0) ?_ h
 exact rfl
noncomputable abbrev VZ {ρ R : Type} (h0 : Qb) (k : (Qa × Qb) → Tr ρ R) : Tr ρ R := .call (ww 273 [.ptr 0 0] [(0, .box [] (QL h0))]) (QT h0) Qr k
abbrev XX := ByteArray → Option Bool
def Zj (C0 : Y0) (a0 : ByteArray) : Option Bool := ((C0 a0 s_0x).bind fun r1 => (some r1))
noncomputable def UY : XX := Zj JT
theorem UY.eq (a0 : ByteArray) : UY a0 = Zj JT a0 := rfl
noncomputable def Qch (a0 : ByteArray) : Tr Bool AH := (GG a0 s_0x fun r1 => (rt Ql r1))
theorem UY.ok {a0 : ByteArray} {r : Bool} (h : UY a0 = some r) : ww 265 [xs a0, xs s_0x] [] = some (Ql r) := by
 refine fnP (Qch a0) ?_ h
 exact fun r1 h => ⟨JT.ok h, rfl⟩
noncomputable abbrev Qci {ρ R : Type} (a0 : ByteArray) (k : Bool → Tr ρ R) : Tr ρ R := .call (ww 265 [xs a0, xs s_0x] []) (UY a0) Ql k
abbrev GV := Int → Option Bool
def Qax (a0 : Int) : Option Bool := (bif (decide (a0 ≥ 48)) then (some (decide (a0 ≤ (57 : Int)))) else (some false))
noncomputable def U5 : GV := Qax
theorem U5.eq (a0 : Int) : U5 a0 = Qax a0 := rfl
noncomputable def QkS (a0 : Int) : Tr Bool AH := (let u48 := (decide (a0 ≥ 48)); .as u48 (yesN 2 u48 (rt Ql (decide (a0 ≤ (zi 57))))) (noN 2 u48 (rt Ql false)))
theorem U5.ok {a0 : Int} {r : Bool} (h : U5 a0 = some r) : ww 270 [.sc (.int .i32 a0)] [] = some (Ql r) := by
 refine fnP (QkS a0) ?_ h
 exact ⟨rfl, fun q0 => Qk 2 (q0) (rfl), fun q0 => noN_ok 2 (q0) (rfl)⟩
noncomputable abbrev E9 {ρ R : Type} (a0 : Int) (k : Bool → Tr ρ R) : Tr ρ R := .call (ww 270 [.sc (.int .i32 a0)] []) (U5 a0) Ql k
abbrev Qjf := Int → Option Bool
def QcV (C0 : GV) (a0 : Int) : Option Bool := ((C0 a0).bind fun r1 => (bif r1 then (some true) else (bif (decide (a0 ≥ 97)) then (some (decide (a0 ≤ (102 : Int)))) else (some false))))
noncomputable def Y1 : Qjf := QcV U5
theorem Y1.eq (a0 : Int) : Y1 a0 = QcV U5 a0 := rfl
noncomputable def Qnt (a0 : Int) : Tr Bool AH := (E9 a0 fun r1 => (.as r1 (yesN 4 r1 (rt Ql true)) (noN 2 r1 (let u49 := (decide (a0 ≥ 97)); .as u49 (.yes u49 (.no r1 (.yes u49 (.no r1 (rt Ql (decide (a0 ≤ (zi 102)))))))) (.no u49 (.no r1 (.no u49 (.no r1 (rt Ql false)))))))))
theorem Y1.ok {a0 : Int} {r : Bool} (h : Y1 a0 = some r) : ww 267 [.sc (.int .i32 a0)] [] = some (Ql r) := by
 refine fnP (Qnt a0) ?_ h
 exact fun r1 h => ⟨U5.ok h, ⟨rfl, fun q0 => Qk 4 (q0) (rfl), fun q0 => noN_ok 2 (q0) (⟨rfl, fun q1 => ⟨q1, ⟨q0, ⟨q1, ⟨q0, rfl⟩⟩⟩⟩, fun q1 => ⟨q1, ⟨q0, ⟨q1, ⟨q0, rfl⟩⟩⟩⟩⟩)⟩⟩
noncomputable abbrev Qnu {ρ R : Type} (a0 : Int) (k : Bool → Tr ρ R) : Tr ρ R := .call (ww 267 [.sc (.int .i32 a0)] []) (Y1 a0) Ql k
abbrev QcW := ByteArray → Option ByteArray
structure VP where
 x0 : ByteArray
 i0s : ByteArray
 i0p : Nat
def Qay (a : VP) : St := { n := 21, nx := 1, env := [(0, xs a.x0), (1, .fn (.func 267) [] []), (8, .it 0)], heap := [(0, .iter a.i0s a.i0p)] }
def Qdq (a : ByteArray) : Ex × St := (.ret, { n := 21, nx := 0, env := [(4, xs a)], heap := [] })
def Qdr (a : ByteArray) : Ex × St := (.exit 0, { n := 21, nx := 0, env := [(0, xs a)], heap := [] })
def Qaz (a : (ByteArray ⊕ ByteArray)) : Ex × St := Sum.elim Qdq Qdr a
abbrev Qgh := VP → Option (ByteArray ⊕ ByteArray)
def QaA (C0 : Qjf) (a : VP) : Option (VP ⊕ (ByteArray ⊕ ByteArray)) := (bif (decide (a.i0p < a.i0s.size)) then ((C0 (((Utf8.decode a.i0s a.i0p).1 : Nat) : Int)).bind fun r1 => (bif (!r1) then (bif (decide (0 ≤ (0 : Int) ∧ (0 : Int) ≤ ((a.i0p : Nat) : Int) ∧ ((a.i0p : Nat) : Int) ≤ ((a.x0.size : Nat) : Int))) then (some (.inr (.inl (a.x0.extract (Int.toNat 0) (Int.toNat ((a.i0p : Nat) : Int)))))) else none) else (some (.inl (VP.mk a.x0 a.i0s (a.i0p + (Utf8.decode a.i0s a.i0p).2)))))) else (some (.inr (.inr a.x0))))
noncomputable def Xb : Qgh := loopW (QaA Y1)
theorem Xb.eq (a : VP) : Xb a = (QaA Y1 a).bind (Sum.elim Xb some) := JD _ _
noncomputable abbrev QkT {ρ R : Type} (a : VP) (k0 : ByteArray → Tr ρ R) (k1 : ByteArray → Tr ρ R) : Tr ρ R := .loop2 (loopAt pp 266 2) (Qay a) (Xb a) Qdq Qdr k0 k1
noncomputable def QkU (a : VP) : Tr (VP ⊕ (ByteArray ⊕ ByteArray)) XS := (.as (decide (a.i0p < a.i0s.size)) (.yes true (Qnu (((Utf8.decode a.i0s a.i0p).1 : Nat) : Int) fun r1 => (.as (!r1) (.as (in2 i0 ((a.i0p : Nat) : Int) (zz a.x0)) (rx Qaz (.inl (cu a.x0 i0 ((a.i0p : Nat) : Int)))) .fail) (lf Qay (VP.mk a.x0 a.i0s (a.i0p + (Utf8.decode a.i0s a.i0p).2)))))) (.no false (rx Qaz (.inr a.x0))))
theorem Xb.ok {a : VP} {r : (ByteArray ⊕ ByteArray)} (h : Xb a = some r) : lw 0 266 (loopAt pp 266 2) (Qay a) = some (Qaz r) := by
 refine lpP h QkU fun a => ?_
 exact ⟨rfl, fun q0 => ⟨rfl, fun r1 h => ⟨Y1.ok h, ⟨rfl, fun q1 => ⟨rfl, fun q2 => rfl, fun q2 => trivial⟩, fun q1 => rfl⟩⟩⟩, fun q0 => ⟨rfl, rfl⟩⟩
def QeO (L0 : Qgh) (a0 : ByteArray) : Option ByteArray := ((L0 (VP.mk a0 a0 0)).bind fun x => Sum.elim (fun (o1 : ByteArray) => (some o1)) (fun (o2 : ByteArray) => (some o2)) x)
noncomputable def Zk : QcW := QeO Xb
theorem Zk.eq (a0 : ByteArray) : Zk a0 = QeO Xb a0 := rfl
noncomputable def Qoj (a0 : ByteArray) : Tr ByteArray AH := (QkT (VP.mk a0 a0 0) (fun o1 => (rt Qi o1)) (fun o2 => (rt Qi o2)))
theorem Zk.ok {a0 : ByteArray} {r : ByteArray} (h : Zk a0 = some r) : ww 266 [xs a0, .fn (.func 267) [] []] [] = some (Qi r) := by
 refine fnP (Qoj a0) ?_ h
 exact ⟨fun o1 h => ⟨Xb.ok (r := (.inl _)) h, rfl⟩, fun o2 h => ⟨Xb.ok (r := (.inr _)) h, rfl⟩⟩
noncomputable abbrev Qjg {ρ R : Type} (a0 : ByteArray) (k : ByteArray → Tr ρ R) : Tr ρ R := .call (ww 266 [xs a0, .fn (.func 267) [] []] []) (Zk a0) Qi k
abbrev Yr := ByteArray → Int → Qb → Option (Qa × Qb)
structure Jd where
 x1 : ByteArray
 x2 : Int
 x7 : Int
 h0 : Qb
 h1 : Qa
 i2s : ByteArray
 i2p : Nat
structure Ju where
 h0 : Qb
 h1 : Qa
structure J3 where
 x1 : ByteArray
 x7 : Int
 h0 : Qb
 h1 : Qa
def Xm (a : Jd) : St := { n := 46, nx := 3, env := [(0, .ptr 0 0), (1, xs a.x1), (2, xi a.x2), (6, .ptr 1 0), (7, xi a.x7), (12, .it 2)], heap := [(0, .box [] (QL a.h0)), (1, .box [] (Js a.h1)), (2, .iter a.i2s a.i2p)] }
def Gi (a : Ju) : Ex × St := (.ret, { n := 46, nx := 2, env := [(6, .ptr 1 0)], heap := [(0, .box [] (QL a.h0)), (1, .box [] (Js a.h1))] })
def Gj (a : J3) : Ex × St := (.exit 0, { n := 46, nx := 2, env := [(0, .ptr 0 0), (1, xs a.x1), (6, .ptr 1 0), (7, xi a.x7)], heap := [(0, .box [] (QL a.h0)), (1, .box [] (Js a.h1))] })
def Xn (a : (Ju ⊕ J3)) : Ex × St := Sum.elim Gi Gj a
abbrev GW := Jd → Option (Ju ⊕ J3)
def YB (C0 : JV) (a : Jd) : Option (Jd ⊕ (Ju ⊕ J3)) := (bif (decide (a.i2p < a.i2s.size)) then (bif (decide ((((Utf8.decode a.i2s a.i2p).1 : Nat) : Int) ≥ 97)) then (bif (decide ((w64 ((w64 (a.x7 * a.x2)) + (w64 ((w64 (IntKind.i32.wrap ((((Utf8.decode a.i2s a.i2p).1 : Nat) : Int) - 97))) + 10)))) ≥ 4294967296)) then ((C0 a.h0).bind fun r1 => (some (.inr (.inl (Ju.mk r1.2 r1.1))))) else (some (.inl (Jd.mk a.x1 a.x2 (w64 ((w64 (a.x7 * a.x2)) + (w64 ((w64 (IntKind.i32.wrap ((((Utf8.decode a.i2s a.i2p).1 : Nat) : Int) - 97))) + 10)))) a.h0 a.h1 a.i2s (a.i2p + (Utf8.decode a.i2s a.i2p).2))))) else (bif (decide ((w64 ((w64 (a.x7 * a.x2)) + (w64 (IntKind.i32.wrap ((((Utf8.decode a.i2s a.i2p).1 : Nat) : Int) - 48))))) ≥ 4294967296)) then ((C0 a.h0).bind fun r2 => (some (.inr (.inl (Ju.mk r2.2 r2.1))))) else (some (.inl (Jd.mk a.x1 a.x2 (w64 ((w64 (a.x7 * a.x2)) + (w64 (IntKind.i32.wrap ((((Utf8.decode a.i2s a.i2p).1 : Nat) : Int) - 48))))) a.h0 a.h1 a.i2s (a.i2p + (Utf8.decode a.i2s a.i2p).2)))))) else (some (.inr (.inr (J3.mk a.x1 a.x7 a.h0 a.h1)))))
noncomputable def Ue : GW := loopW (YB QT)
theorem Ue.eq (a : Jd) : Ue a = (YB QT a).bind (Sum.elim Ue some) := JD _ _
noncomputable abbrev Qa0 {ρ R : Type} (a : Jd) (k0 : Ju → Tr ρ R) (k1 : J3 → Tr ρ R) : Tr ρ R := .loop2 (loopAt pp 269 3) (Xm a) (Ue a) Gi Gj k0 k1
noncomputable def Qa1 (a : Jd) : Tr (Jd ⊕ (Ju ⊕ J3)) XS := (.as (decide (a.i2p < a.i2s.size)) (.yes true (.as (decide ((((Utf8.decode a.i2s a.i2p).1 : Nat) : Int) ≥ 97)) (.as (decide ((w64 ((w64 (a.x7 * a.x2)) + (w64 ((w64 (IntKind.i32.wrap ((((Utf8.decode a.i2s a.i2p).1 : Nat) : Int) - 97))) + 10)))) ≥ 4294967296)) (VZ a.h0 fun r1 => (rx Xn (.inl (Ju.mk r1.2 r1.1)))) (lf Xm (Jd.mk a.x1 a.x2 (w64 ((w64 (a.x7 * a.x2)) + (w64 ((w64 (IntKind.i32.wrap ((((Utf8.decode a.i2s a.i2p).1 : Nat) : Int) - 97))) + 10)))) a.h0 a.h1 a.i2s (a.i2p + (Utf8.decode a.i2s a.i2p).2)))) (.as (decide ((w64 ((w64 (a.x7 * a.x2)) + (w64 (IntKind.i32.wrap ((((Utf8.decode a.i2s a.i2p).1 : Nat) : Int) - 48))))) ≥ 4294967296)) (VZ a.h0 fun r2 => (rx Xn (.inl (Ju.mk r2.2 r2.1)))) (lf Xm (Jd.mk a.x1 a.x2 (w64 ((w64 (a.x7 * a.x2)) + (w64 (IntKind.i32.wrap ((((Utf8.decode a.i2s a.i2p).1 : Nat) : Int) - 48))))) a.h0 a.h1 a.i2s (a.i2p + (Utf8.decode a.i2s a.i2p).2)))))) (.no false (rx Xn (.inr (J3.mk a.x1 a.x7 a.h0 a.h1)))))
theorem Ue.ok {a : Jd} {r : (Ju ⊕ J3)} (h : Ue a = some r) : lw 1 269 (loopAt pp 269 3) (Xm a) = some (Xn r) := by
 refine lpP h Qa1 fun a => ?_
 exact ⟨rfl, fun q0 => ⟨rfl, ⟨rfl, fun q1 => ⟨rfl, fun q2 => fun r1 h => ⟨QT.ok h, rfl⟩, fun q2 => rfl⟩, fun q1 => ⟨rfl, fun q2 => fun r2 h => ⟨QT.ok h, rfl⟩, fun q2 => rfl⟩⟩⟩, fun q0 => ⟨rfl, rfl⟩⟩
def Zy (L0 : GW) (a1 : ByteArray) (a2 : Int) (h0 : Qb) : Option (Qa × Qb) := ((L0 (Jd.mk a1 a2 (0 : Int) h0 (Qa.mk (0 : Int) (0 : Int) s_ ([] : List Qa)) a1 0)).bind fun x => Sum.elim (fun (o1 : Ju) => (some (o1.h1, o1.h0))) (fun (o2 : J3) => (bif (decide (0 ≤ ((o2.x1.size : Nat) : Int) ∧ ((o2.x1.size : Nat) : Int) ≤ ((o2.h0.left.size : Nat) : Int) ∧ ((o2.h0.left.size : Nat) : Int) ≤ ((o2.h0.left.size : Nat) : Int))) then (some ((Qa.mk (1 : Int) o2.x7 s_ ([] : List Qa)), (Qb.mk (o2.h0.left.extract (Int.toNat ((o2.x1.size : Nat) : Int)) (Int.toNat ((o2.h0.left.size : Nat) : Int))) o2.h0.deep o2.h0.bad))) else none)) x)
noncomputable def JY : Yr := Zy Ue
theorem JY.eq (a1 : ByteArray) (a2 : Int) (h0 : Qb) : JY a1 a2 h0 = Zy Ue a1 a2 h0 := rfl
noncomputable def QcX (a1 : ByteArray) (a2 : Int) (h0 : Qb) : Tr (Qa × Qb) AH := (Qa0 (Jd.mk a1 a2 i0 h0 (Qa.mk i0 i0 s_ ([] : List Qa)) a1 0) (fun o1 => (rt Qr (o1.h1, o1.h0))) (fun o2 => (.as (in2 (zz o2.x1) (zz o2.h0.left) (zz o2.h0.left)) (rt Qr ((Qa.mk (zi 1) o2.x7 s_ ([] : List Qa)), (Qb.mk (cu o2.h0.left (zz o2.x1) (zz o2.h0.left)) o2.h0.deep o2.h0.bad))) .fail)))
theorem JY.ok {a1 : ByteArray} {a2 : Int} {h0 : Qb} {r : (Qa × Qb)} (h : JY a1 a2 h0 = some r) : ww 269 [.ptr 0 0, xs a1, xi a2] [(0, .box [] (QL h0))] = some (Qr r) := by
 refine fnP (QcX a1 a2 h0) ?_ h
 exact ⟨fun o1 h => ⟨Ue.ok (r := (.inl _)) h, rfl⟩, fun o2 h => ⟨Ue.ok (r := (.inr _)) h, ⟨rfl, fun q0 => rfl, fun q0 => trivial⟩⟩⟩
noncomputable abbrev Zz {ρ R : Type} (a1 : ByteArray) (a2 : Int) (h0 : Qb) (k : (Qa × Qb) → Tr ρ R) : Tr ρ R := .call (ww 269 [.ptr 0 0, xs a1, xi a2] [(0, .box [] (QL h0))]) (JY a1 a2 h0) Qr k
abbrev Qgi := Int → Option Bool
def QaB (a0 : Int) : Option Bool := (bif (decide (a0 ≥ 97)) then (bif (decide (a0 ≤ (122 : Int))) then (some true) else (some (a0 == 95))) else (some (a0 == 95)))
noncomputable def XD : Qgi := QaB
theorem XD.eq (a0 : Int) : XD a0 = QaB a0 := rfl
noncomputable def QkV (a0 : Int) : Tr Bool AH := (let u51 := (decide (a0 ≥ 97)); .as u51 (yesN 2 u51 (let u50 := (decide (a0 ≤ (zi 122))); .as u50 (yesN 2 u50 (rt Ql true)) (noN 2 u50 (rt Ql (a0 == 95))))) (noN 2 u51 (noN 3 false (rt Ql (a0 == 95)))))
theorem XD.ok {a0 : Int} {r : Bool} (h : XD a0 = some r) : ww 285 [.sc (.int .i32 a0)] [] = some (Ql r) := by
 refine fnP (QkV a0) ?_ h
 exact ⟨rfl, fun q0 => Qk 2 (q0) (⟨rfl, fun q1 => Qk 2 (q1) (rfl), fun q1 => noN_ok 2 (q1) (rfl)⟩), fun q0 => noN_ok 2 (q0) (noN_ok 3 (rfl) (rfl))⟩
noncomputable abbrev QkW {ρ R : Type} (a0 : Int) (k : Bool → Tr ρ R) : Tr ρ R := .call (ww 285 [.sc (.int .i32 a0)] []) (XD a0) Ql k
abbrev Qgj := Int → Option Bool
def QaC (C0 : Qgi) (C1 : GV) (a0 : Int) : Option Bool := ((C0 a0).bind fun r1 => (bif r1 then (some true) else ((C1 a0).bind fun r2 => (some r2))))
noncomputable def XE : Qgj := QaC XD U5
theorem XE.eq (a0 : Int) : XE a0 = QaC XD U5 a0 := rfl
noncomputable def QkX (a0 : Int) : Tr Bool AH := (QkW a0 fun r1 => (.as r1 (yesN 2 r1 (rt Ql true)) (.no r1 (E9 a0 fun r2 => (.no r1 (rt Ql r2))))))
theorem XE.ok {a0 : Int} {r : Bool} (h : XE a0 = some r) : ww 271 [.sc (.int .i32 a0)] [] = some (Ql r) := by
 refine fnP (QkX a0) ?_ h
 exact fun r1 h => ⟨XD.ok h, ⟨rfl, fun q0 => Qk 2 (q0) (rfl), fun q0 => ⟨q0, fun r2 h => ⟨U5.ok h, ⟨q0, rfl⟩⟩⟩⟩⟩
noncomputable abbrev QkY {ρ R : Type} (a0 : Int) (k : Bool → Tr ρ R) : Tr ρ R := .call (ww 271 [.sc (.int .i32 a0)] []) (XE a0) Ql k
abbrev Gz := ByteArray → Option ByteArray
structure U9 where
 x0 : ByteArray
 i0s : ByteArray
 i0p : Nat
def FP (a : U9) : St := { n := 21, nx := 1, env := [(0, xs a.x0), (1, .fn (.func 271) [] []), (8, .it 0)], heap := [(0, .iter a.i0s a.i0p)] }
def Qba (a : ByteArray) : Ex × St := (.ret, { n := 21, nx := 0, env := [(4, xs a)], heap := [] })
def Qbb (a : ByteArray) : Ex × St := (.exit 0, { n := 21, nx := 0, env := [(0, xs a)], heap := [] })
def FQ (a : (ByteArray ⊕ ByteArray)) : Ex × St := Sum.elim Qba Qbb a
abbrev Qds := U9 → Option (ByteArray ⊕ ByteArray)
def FR (C0 : Qgj) (a : U9) : Option (U9 ⊕ (ByteArray ⊕ ByteArray)) := (bif (decide (a.i0p < a.i0s.size)) then ((C0 (((Utf8.decode a.i0s a.i0p).1 : Nat) : Int)).bind fun r1 => (bif (!r1) then (bif (decide (0 ≤ (0 : Int) ∧ (0 : Int) ≤ ((a.i0p : Nat) : Int) ∧ ((a.i0p : Nat) : Int) ≤ ((a.x0.size : Nat) : Int))) then (some (.inr (.inl (a.x0.extract (Int.toNat 0) (Int.toNat ((a.i0p : Nat) : Int)))))) else none) else (some (.inl (U9.mk a.x0 a.i0s (a.i0p + (Utf8.decode a.i0s a.i0p).2)))))) else (some (.inr (.inr a.x0))))
noncomputable def Wv : Qds := loopW (FR XE)
theorem Wv.eq (a : U9) : Wv a = (FR XE a).bind (Sum.elim Wv some) := JD _ _
noncomputable abbrev Qiu {ρ R : Type} (a : U9) (k0 : ByteArray → Tr ρ R) (k1 : ByteArray → Tr ρ R) : Tr ρ R := .loop2 (loopAt pp 266 2) (FP a) (Wv a) Qba Qbb k0 k1
noncomputable def Qiv (a : U9) : Tr (U9 ⊕ (ByteArray ⊕ ByteArray)) XS := (.as (decide (a.i0p < a.i0s.size)) (.yes true (QkY (((Utf8.decode a.i0s a.i0p).1 : Nat) : Int) fun r1 => (.as (!r1) (.as (in2 i0 ((a.i0p : Nat) : Int) (zz a.x0)) (rx FQ (.inl (cu a.x0 i0 ((a.i0p : Nat) : Int)))) .fail) (lf FP (U9.mk a.x0 a.i0s (a.i0p + (Utf8.decode a.i0s a.i0p).2)))))) (.no false (rx FQ (.inr a.x0))))
theorem Wv.ok {a : U9} {r : (ByteArray ⊕ ByteArray)} (h : Wv a = some r) : lw 0 266 (loopAt pp 266 2) (FP a) = some (FQ r) := by
 refine lpP h Qiv fun a => ?_
 exact ⟨rfl, fun q0 => ⟨rfl, fun r1 h => ⟨XE.ok h, ⟨rfl, fun q1 => ⟨rfl, fun q2 => rfl, fun q2 => trivial⟩, fun q1 => rfl⟩⟩⟩, fun q0 => ⟨rfl, rfl⟩⟩
def QbC (L0 : Qds) (a0 : ByteArray) : Option ByteArray := ((L0 (U9.mk a0 a0 0)).bind fun x => Sum.elim (fun (o1 : ByteArray) => (some o1)) (fun (o2 : ByteArray) => (some o2)) x)
noncomputable def V0 : Gz := QbC Wv
theorem V0.eq (a0 : ByteArray) : V0 a0 = QbC Wv a0 := rfl
noncomputable def Ql4 (a0 : ByteArray) : Tr ByteArray AH := (Qiu (U9.mk a0 a0 0) (fun o1 => (rt Qi o1)) (fun o2 => (rt Qi o2)))
theorem V0.ok {a0 : ByteArray} {r : ByteArray} (h : V0 a0 = some r) : ww 266 [xs a0, .fn (.func 271) [] []] [] = some (Qi r) := by
 refine fnP (Ql4 a0) ?_ h
 exact ⟨fun o1 h => ⟨Wv.ok (r := (.inl _)) h, rfl⟩, fun o2 h => ⟨Wv.ok (r := (.inr _)) h, rfl⟩⟩
noncomputable abbrev Pl {ρ R : Type} (a0 : ByteArray) (k : ByteArray → Tr ρ R) : Tr ρ R := .call (ww 266 [xs a0, .fn (.func 271) [] []] []) (V0 a0) Qi k
abbrev YQ := Qa → Qb → Option (Qa × Qb)
def ZN (C0 : Gz) (C1 : JV) (a1 : Qa) (h0 : Qb) : Option (Qa × Qb) := ((C0 h0.left).bind fun r1 => (bif (!(eqS r1 s_)) then ((C1 h0).bind fun r2 => (some (r2.1, r2.2))) else (some (a1, h0))))
noncomputable def J7 : YQ := ZN V0 QT
theorem J7.eq (a1 : Qa) (h0 : Qb) : J7 a1 h0 = ZN V0 QT a1 h0 := rfl
noncomputable def QdK (a1 : Qa) (h0 : Qb) : Tr (Qa × Qb) AH := (Pl h0.left fun r1 => (.as (!(eqS r1 s_)) (VZ h0 fun r2 => (rt Qr (r2.1, r2.2))) (rt Qr (a1, h0))))
theorem J7.ok {a1 : Qa} {h0 : Qb} {r : (Qa × Qb)} (h : J7 a1 h0 = some r) : ww 268 [.ptr 0 0, .agg (Js a1)] [(0, .box [] (QL h0))] = some (Qr r) := by
 refine fnP (QdK a1 h0) ?_ h
 exact fun r1 h => ⟨V0.ok h, ⟨rfl, fun q0 => fun r2 h => ⟨QT.ok h, rfl⟩, fun q0 => rfl⟩⟩
noncomputable abbrev ZO {ρ R : Type} (a1 : Qa) (h0 : Qb) (k : (Qa × Qb) → Tr ρ R) : Tr ρ R := .call (ww 268 [.ptr 0 0, .agg (Js a1)] [(0, .box [] (QL h0))]) (J7 a1 h0) Qr k
abbrev Fa := ByteArray → Option ByteArray
structure Va where
 x0 : ByteArray
 i0s : ByteArray
 i0p : Nat
def FS (a : Va) : St := { n := 21, nx := 1, env := [(0, xs a.x0), (1, .fn (.func 270) [] []), (8, .it 0)], heap := [(0, .iter a.i0s a.i0p)] }
def Qbc (a : ByteArray) : Ex × St := (.ret, { n := 21, nx := 0, env := [(4, xs a)], heap := [] })
def Qbd (a : ByteArray) : Ex × St := (.exit 0, { n := 21, nx := 0, env := [(0, xs a)], heap := [] })
def FT (a : (ByteArray ⊕ ByteArray)) : Ex × St := Sum.elim Qbc Qbd a
abbrev Qdt := Va → Option (ByteArray ⊕ ByteArray)
def FU (C0 : GV) (a : Va) : Option (Va ⊕ (ByteArray ⊕ ByteArray)) := (bif (decide (a.i0p < a.i0s.size)) then ((C0 (((Utf8.decode a.i0s a.i0p).1 : Nat) : Int)).bind fun r1 => (bif (!r1) then (bif (decide (0 ≤ (0 : Int) ∧ (0 : Int) ≤ ((a.i0p : Nat) : Int) ∧ ((a.i0p : Nat) : Int) ≤ ((a.x0.size : Nat) : Int))) then (some (.inr (.inl (a.x0.extract (Int.toNat 0) (Int.toNat ((a.i0p : Nat) : Int)))))) else none) else (some (.inl (Va.mk a.x0 a.i0s (a.i0p + (Utf8.decode a.i0s a.i0p).2)))))) else (some (.inr (.inr a.x0))))
noncomputable def Ww : Qdt := loopW (FU U5)
theorem Ww.eq (a : Va) : Ww a = (FU U5 a).bind (Sum.elim Ww some) := JD _ _
noncomputable abbrev Qiw {ρ R : Type} (a : Va) (k0 : ByteArray → Tr ρ R) (k1 : ByteArray → Tr ρ R) : Tr ρ R := .loop2 (loopAt pp 266 2) (FS a) (Ww a) Qbc Qbd k0 k1
noncomputable def Qix (a : Va) : Tr (Va ⊕ (ByteArray ⊕ ByteArray)) XS := (.as (decide (a.i0p < a.i0s.size)) (.yes true (E9 (((Utf8.decode a.i0s a.i0p).1 : Nat) : Int) fun r1 => (.as (!r1) (.as (in2 i0 ((a.i0p : Nat) : Int) (zz a.x0)) (rx FT (.inl (cu a.x0 i0 ((a.i0p : Nat) : Int)))) .fail) (lf FS (Va.mk a.x0 a.i0s (a.i0p + (Utf8.decode a.i0s a.i0p).2)))))) (.no false (rx FT (.inr a.x0))))
theorem Ww.ok {a : Va} {r : (ByteArray ⊕ ByteArray)} (h : Ww a = some r) : lw 0 266 (loopAt pp 266 2) (FS a) = some (FT r) := by
 refine lpP h Qix fun a => ?_
 exact ⟨rfl, fun q0 => ⟨rfl, fun r1 h => ⟨U5.ok h, ⟨rfl, fun q1 => ⟨rfl, fun q2 => rfl, fun q2 => trivial⟩, fun q1 => rfl⟩⟩⟩, fun q0 => ⟨rfl, rfl⟩⟩
def QbD (L0 : Qdt) (a0 : ByteArray) : Option ByteArray := ((L0 (Va.mk a0 a0 0)).bind fun x => Sum.elim (fun (o1 : ByteArray) => (some o1)) (fun (o2 : ByteArray) => (some o2)) x)
noncomputable def WM : Fa := QbD Ww
theorem WM.eq (a0 : ByteArray) : WM a0 = QbD Ww a0 := rfl
noncomputable def Ql5 (a0 : ByteArray) : Tr ByteArray AH := (Qiw (Va.mk a0 a0 0) (fun o1 => (rt Qi o1)) (fun o2 => (rt Qi o2)))
theorem WM.ok {a0 : ByteArray} {r : ByteArray} (h : WM a0 = some r) : ww 266 [xs a0, .fn (.func 270) [] []] [] = some (Qi r) := by
 refine fnP (Ql5 a0) ?_ h
 exact ⟨fun o1 h => ⟨Ww.ok (r := (.inl _)) h, rfl⟩, fun o2 h => ⟨Ww.ok (r := (.inr _)) h, rfl⟩⟩
noncomputable abbrev QbE {ρ R : Type} (a0 : ByteArray) (k : ByteArray → Tr ρ R) : Tr ρ R := .call (ww 266 [xs a0, .fn (.func 270) [] []] []) (WM a0) Qi k
abbrev Sz := ByteArray → Option Bool
def QbF (C0 : GV) (C1 : Gz) (C2 : Fa) (a0 : ByteArray) : Option Bool := (bif (eqS a0 s_) then (some false) else (bif (decide (((a0.size : Nat) : Int) > 12)) then (some false) else (bif (decide (0 ≤ (0 : Int) ∧ (0 : Int) < ((a0.size : Nat) : Int))) then ((C0 (IntKind.i32.wrap ((a0.data.getD (Int.toNat 0) 0).toNat : Int))).bind fun r1 => (bif r1 then (some false) else ((C1 a0).bind fun r2 => (bif (!(eqS r2 a0)) then (some false) else (bif (((a0.data.getD (Int.toNat 0) 0).toNat : Int) != 114) then (some true) else (bif (((a0.size : Nat) : Int) == 1) then (some true) else (bif (decide (0 ≤ (1 : Int) ∧ (1 : Int) ≤ ((a0.size : Nat) : Int) ∧ ((a0.size : Nat) : Int) ≤ ((a0.size : Nat) : Int))) then ((C2 (a0.extract (Int.toNat 1) (Int.toNat ((a0.size : Nat) : Int)))).bind fun r3 => (some (!(eqS r3 (a0.extract (Int.toNat 1) (Int.toNat ((a0.size : Nat) : Int))))))) else none))))))) else none)))
noncomputable def XM : Sz := QbF U5 V0 WM
theorem XM.eq (a0 : ByteArray) : XM a0 = QbF U5 V0 WM a0 := rfl
noncomputable def Ql6 (a0 : ByteArray) : Tr Bool AH := (let u57 := (eqS a0 s_); .as u57 (yesN 3 u57 (yesN 11 true (rt Ql false))) (noN 3 u57 (let u56 := (decide ((zz a0) > 12)); .as u56 (yesN 4 u56 (yesN 6 true (rt Ql false))) (.no u56 (let u55 := (in1 i0 (zz a0)); .as u55 (noN 2 u56 (E9 (IntKind.i32.wrap (gb a0 i0)) fun r1 => (.no u56 (.as r1 (yesN 4 r1 (.yes true (rt Ql false))) (.no r1 (Pl a0 fun r2 => (noN 3 r1 (.as (!(eqS r2 a0)) (rt Ql false) (.yes u55 (let u54 := ((gb a0 i0) != 114); .as u54 (yesN 3 u54 (yesN 7 true (rt Ql true))) (noN 3 u54 (let u53 := ((zz a0) == 1); .as u53 (yesN 6 u53 (rt Ql true)) (.no u53 (let u52 := (in2 (zi 1) (zz a0) (zz a0)); .as u52 (.no u53 (QbE (cu a0 (zi 1) (zz a0)) fun r3 => (noN 2 u53 (.yes u52 (noN 2 u53 (rt Ql (!(eqS r3 (cu a0 (zi 1) (zz a0)))))))))) .fail)))))))))))))) .fail)))))
theorem XM.ok {a0 : ByteArray} {r : Bool} (h : XM a0 = some r) : ww 272 [xs a0] [] = some (Ql r) := by
 refine fnP (Ql6 a0) ?_ h
 exact ⟨rfl, fun q0 => Qk 3 (q0) (Qk 11 (rfl) (rfl)), fun q0 => noN_ok 3 (q0) (⟨rfl, fun q1 => Qk 4 (q1) (Qk 6 (rfl) (rfl)), fun q1 => ⟨q1, ⟨rfl, fun q2 => noN_ok 2 (q1) (fun r1 h => ⟨U5.ok h, ⟨q1, ⟨rfl, fun q3 => Qk 4 (q3) (⟨rfl, rfl⟩), fun q3 => ⟨q3, fun r2 h => ⟨V0.ok h, noN_ok 3 (q3) (⟨rfl, fun q4 => rfl, fun q4 => ⟨q2, ⟨rfl, fun q5 => Qk 3 (q5) (Qk 7 (rfl) (rfl)), fun q5 => noN_ok 3 (q5) (⟨rfl, fun q6 => Qk 6 (q6) (rfl), fun q6 => ⟨q6, ⟨rfl, fun q7 => ⟨q6, fun r3 h => ⟨WM.ok h, noN_ok 2 (q6) (⟨q7, noN_ok 2 (q6) (rfl)⟩)⟩⟩, fun q7 => trivial⟩⟩⟩)⟩⟩⟩)⟩⟩⟩⟩⟩), fun q2 => trivial⟩⟩⟩)⟩
noncomputable abbrev Qgk {ρ R : Type} (a0 : ByteArray) (k : Bool → Tr ρ R) : Tr ρ R := .call (ww 272 [xs a0] []) (XM a0) Ql k
abbrev Qgl := Option (List ByteArray)
def QeP : Option (List ByteArray) := (some [s_, s_, s_, h_2e, h_2d, h_2b, h_2d, h_2a, h_26, h_7c, S6, S7])
noncomputable def XF : Qgl := QeP
theorem XF.eq : XF = QeP := rfl
noncomputable def QkZ : Tr (List ByteArray) AH := (.rows [[xs s_], [xs s_], [xs s_], [xs h_2e], [xs h_2d], [xs h_2b], [xs h_2d], [xs h_2a], [xs h_26], [xs h_7c], [xs S6], [xs S7]] (Qh [s_, s_, s_, h_2e, h_2d, h_2b, h_2d, h_2a, h_26, h_7c, S6, S7]) (rt Jp [s_, s_, s_, h_2e, h_2d, h_2b, h_2d, h_2a, h_26, h_7c, S6, S7]))
theorem XF.ok {r : (List ByteArray)} (h : XF = some r) : ww 208 [] [] = some (Jp r) := by
 refine fnP (QkZ) ?_ h
 exact ⟨(Q9 [s_, s_, s_, h_2e, h_2d, h_2b, h_2d, h_2a, h_26, h_7c, S6, S7]), rfl⟩
noncomputable abbrev Qk0 {ρ R : Type} (k : (List ByteArray) → Tr ρ R) : Tr ρ R := .call (ww 208 [] []) (XF) Jp k
def YR (r : (Int × Qb)) : AV × Heap := (xi r.1, [(0, .box [] (QL r.2))])
abbrev WI := (List Int) → Qb → Option (Int × Qb)
structure JF where
 x7 : (List Int)
 x8 : Int
 x9 : Int
 h0 : Qb
structure Ul where
 x4 : Int
 h0 : Qb
def Zl (a : JF) : St := { n := 21, nx := 1, env := [(0, .ptr 0 0), (7, .sl (Qm a.x7)), (8, xi a.x8), (9, xi a.x9)], heap := [(0, .box [] (QL a.h0))] }
def GX (a : Ul) : Ex × St := (.ret, { n := 21, nx := 1, env := [(4, xi a.x4)], heap := [(0, .box [] (QL a.h0))] })
def GY (a : Qb) : Ex × St := (.exit 0, { n := 21, nx := 1, env := [], heap := [(0, .box [] (QL a))] })
def Zm (a : (Ul ⊕ Qb)) : Ex × St := Sum.elim GX GY a
abbrev Fb := JF → Option (Ul ⊕ Qb)
def Zo (C0 : Qgl) (C1 : Wl) (a : JF) : Option (JF ⊕ (Ul ⊕ Qb)) := (bif (decide (a.x9 < a.x8)) then (bif (decide (0 ≤ a.x9)) then ((a.x7[(Int.toNat a.x9)]?).bind fun e1 => ((C0).bind fun r2 => (bif (decide (0 ≤ e1)) then ((r2[(Int.toNat e1)]?).bind fun e3 => ((C1 e3 a.h0).bind fun r4 => (bif r4.1 then (some (.inr (.inl (Ul.mk e1 r4.2)))) else (some (.inl (JF.mk a.x7 a.x8 (w64 (a.x9 + 1)) r4.2)))))) else none))) else none) else (some (.inr (.inr a.h0))))
noncomputable def UF : Fb := loopW (Zo XF Jz)
theorem UF.eq (a : JF) : UF a = (Zo XF Jz a).bind (Sum.elim UF some) := JD _ _
noncomputable abbrev Qcj {ρ R : Type} (a : JF) (k0 : Ul → Tr ρ R) (k1 : Qb → Tr ρ R) : Tr ρ R := .loop2 (loopAt pp 244 2) (Zl a) (UF a) GX GY k0 k1
noncomputable def Qck (a : JF) : Tr (JF ⊕ (Ul ⊕ Qb)) XS := (.as (decide (a.x9 < a.x8)) (.as (decide (0 ≤ a.x9)) (.row ((Qm a.x7)[(Int.toNat a.x9)]?) (a.x7[(Int.toNat a.x9)]?) VU fun (e1 : Int) => (Qk0 fun r2 => (.as (decide (0 ≤ e1)) (.row ((Qh r2)[(Int.toNat e1)]?) (r2[(Int.toNat e1)]?) Q8 fun (e3 : ByteArray) => (XL e3 a.h0 fun r4 => (.as r4.1 (rx Zm (.inl (Ul.mk e1 r4.2))) (lf Zl (JF.mk a.x7 a.x8 (w64 (a.x9 + 1)) r4.2))))) .fail))) .fail) (rx Zm (.inr a.h0)))
theorem UF.ok {a : JF} {r : (Ul ⊕ Qb)} (h : UF a = some r) : lw 1 244 (loopAt pp 244 2) (Zl a) = some (Zm r) := by
 refine lpP h Qck fun a => ?_
 exact ⟨rfl, fun q0 => ⟨rfl, fun q1 => fun e1 h => ⟨Uz h, fun r2 h => ⟨XF.ok h, ⟨rfl, fun q2 => fun e3 h => ⟨Q3 h, fun r4 h => ⟨Jz.ok h, ⟨rfl, fun q3 => rfl, fun q3 => rfl⟩⟩⟩, fun q2 => trivial⟩⟩⟩, fun q1 => trivial⟩, fun q0 => rfl⟩
def Gk (L0 : Fb) (a1 : (List Int)) (h0 : Qb) : Option (Int × Qb) := ((L0 (JF.mk a1 (((a1.length) : Nat) : Int) (0 : Int) h0)).bind fun x => Sum.elim (fun (o1 : Ul) => (some (o1.x4, o1.h0))) (fun (o2 : Qb) => (some ((0 : Int), o2))) x)
noncomputable def JW : WI := Gk UF
theorem JW.eq (a1 : (List Int)) (h0 : Qb) : JW a1 h0 = Gk UF a1 h0 := rfl
noncomputable def QeQ (a1 : (List Int)) (h0 : Qb) : Tr (Int × Qb) AH := (.num ((Qm a1).length) (a1.length) (Qcj (JF.mk a1 (((a1.length) : Nat) : Int) i0 h0) (fun o1 => (rt YR (o1.x4, o1.h0))) (fun o2 => (rt YR (i0, o2)))))
theorem JW.ok {a1 : (List Int)} {h0 : Qb} {r : (Int × Qb)} (h : JW a1 h0 = some r) : ww 244 [.ptr 0 0, .sl (Qm a1)] [(0, .box [] (QL h0))] = some (YR r) := by
 refine fnP (QeQ a1 h0) ?_ h
 exact ⟨(Q5 _), ⟨fun o1 h => ⟨UF.ok (r := (.inl _)) h, rfl⟩, fun o2 h => ⟨UF.ok (r := (.inr _)) h, rfl⟩⟩⟩
noncomputable abbrev PI {ρ R : Type} (a1 : (List Int)) (h0 : Qb) (k : (Int × Qb) → Tr ρ R) : Tr ρ R := .call (ww 244 [.ptr 0 0, .sl (Qm a1)] [(0, .box [] (QL h0))]) (JW a1 h0) YR k
abbrev W2 := Qb → Option (Qa × Qb)
abbrev QeR (c : W2) : Prop := ∀ (h0 : Qb) (r : (Qa × Qb)), c h0 = some r → ww 263 [.ptr 0 0] [(0, .box [] (QL h0))] = some (Qr r)
abbrev WP := Qb → Option (Qa × Qb)
abbrev QdL (c : WP) : Prop := ∀ (h0 : Qb) (r : (Qa × Qb)), c h0 = some r → ww 262 [.ptr 0 0, .fn (.func 263) [.ptr 0 0] []] [(0, .box [] (QL h0))] = some (Qr r)
abbrev W3 := Qb → Option (Qa × Qb)
abbrev QeS (c : W3) : Prop := ∀ (h0 : Qb) (r : (Qa × Qb)), c h0 = some r → ww 264 [.ptr 0 0] [(0, .box [] (QL h0))] = some (Qr r)
abbrev Wt := Qb → Option (Qa × Qb)
abbrev Qcl (c : Wt) : Prop := ∀ (h0 : Qb) (r : (Qa × Qb)), c h0 = some r → ww 262 [.ptr 0 0, .fn (.func 264) [.ptr 0 0] []] [(0, .box [] (QL h0))] = some (Qr r)
abbrev VD := Qb → Option (Qa × Qb)
abbrev QgM (c : VD) : Prop := ∀ (h0 : Qb) (r : (Qa × Qb)), c h0 = some r → ww 243 [.ptr 0 0] [(0, .box [] (QL h0))] = some (Qr r)
abbrev Je := Int → Qb → Option (Qa × Qb)
abbrev QaD (c : Je) : Prop := ∀ (a1 : Int) (h0 : Qb) (r : (Qa × Qb)), c a1 h0 = some r → ww 215 [.ptr 0 0, xi a1] [(0, .box [] (QL h0))] = some (Qr r)
noncomputable abbrev QdM {ρ R : Type} (c : W2) (h0 : Qb) (k : (Qa × Qb) → Tr ρ R) : Tr ρ R := .call (ww 263 [.ptr 0 0] [(0, .box [] (QL h0))]) (c h0) Qr k
noncomputable abbrev QcY {ρ R : Type} (c : WP) (h0 : Qb) (k : (Qa × Qb) → Tr ρ R) : Tr ρ R := .call (ww 262 [.ptr 0 0, .fn (.func 263) [.ptr 0 0] []] [(0, .box [] (QL h0))]) (c h0) Qr k
noncomputable abbrev QdN {ρ R : Type} (c : W3) (h0 : Qb) (k : (Qa × Qb) → Tr ρ R) : Tr ρ R := .call (ww 264 [.ptr 0 0] [(0, .box [] (QL h0))]) (c h0) Qr k
noncomputable abbrev QbG {ρ R : Type} (c : Wt) (h0 : Qb) (k : (Qa × Qb) → Tr ρ R) : Tr ρ R := .call (ww 262 [.ptr 0 0, .fn (.func 264) [.ptr 0 0] []] [(0, .box [] (QL h0))]) (c h0) Qr k
noncomputable abbrev Sk {ρ R : Type} (c : VD) (h0 : Qb) (k : (Qa × Qb) → Tr ρ R) : Tr ρ R := .call (ww 243 [.ptr 0 0] [(0, .box [] (QL h0))]) (c h0) Qr k
noncomputable abbrev Y9 {ρ R : Type} (c : Je) (a1 : Int) (h0 : Qb) (k : (Qa × Qb) → Tr ρ R) : Tr ρ R := .call (ww 215 [.ptr 0 0, xi a1] [(0, .box [] (QL h0))]) (c a1 h0) Qr k
def WQ (C0 : Je) (C1 : Wl) (C2 : JV) (h0 : Qb) : Option (Qa × Qb) := ((C0 (0 : Int) h0).bind fun r1 => ((C1 h_29 r1.2).bind fun r2 => (bif (!r2.1) then ((C2 r2.2).bind fun r3 => (some (r3.1, r3.2))) else (some (r1.1, r2.2)))))
theorem FD {C0 : Nat → Je} {D0 : Je} (H0 : Cv2 C0 D0) {C1 : Nat → Wl} {D1 : Wl} (H1 : Cv2 C1 D1) {C2 : Nat → JV} {D2 : JV} (H2 : Cv1 C2 D2) (h0 : Qb) : Cv (fun k => WQ (C0 k) (C1 k) (C2 k) h0) (WQ D0 D1 D2 h0) := by
 unfold WQ
 exact .bind (H0 _ _) fun r1 => .bind (H1 _ _) fun r2 => .cond (.bind (H2 _) fun r3 => by exact .const _) cst
noncomputable def QdO (C0 : Je) (h0 : Qb) : Tr (Qa × Qb) AH := (Y9 C0 i0 h0 fun r1 => (XL h_29 r1.2 fun r2 => (.as (!r2.1) (VZ r2.2 fun r3 => (rt Qr (r3.1, r3.2))) (rt Qr (r1.1, r2.2)))))
def V7 (C0 : JV) (C1 : W2) (h0 : Qb) : Option (Qa × Qb) := (bif (decide (h0.deep ≥ 12)) then ((C0 h0).bind fun r1 => (some (r1.1, r1.2))) else ((C1 (Qb.mk h0.left (w64 (h0.deep + 1)) h0.bad)).bind fun r2 => (some (r2.1, (Qb.mk r2.2.left (w64 (r2.2.deep - 1)) r2.2.bad)))))
theorem Fc {C0 : Nat → JV} {D0 : JV} (H0 : Cv1 C0 D0) {C1 : Nat → W2} {D1 : W2} (H1 : Cv1 C1 D1) (h0 : Qb) : Cv (fun k => V7 (C0 k) (C1 k) h0) (V7 D0 D1 h0) := by
 unfold V7
 exact .cond (.bind (H0 _) fun r1 => by exact .const _) (.bind (H1 _) fun r2 => by exact .const _)
noncomputable def QcZ (C0 : W2) (h0 : Qb) : Tr (Qa × Qb) AH := (.as (decide (h0.deep ≥ 12)) (VZ h0 fun r1 => (rt Qr (r1.1, r1.2))) (QdM C0 (Qb.mk h0.left (w64 (h0.deep + 1)) h0.bad) fun r2 => (rt Qr (r2.1, (Qb.mk r2.2.left (w64 (r2.2.deep - 1)) r2.2.bad)))))
def WR (C0 : VD) (h0 : Qb) : Option (Qa × Qb) := ((C0 h0).bind fun r1 => (some ((Qa.mk (4 : Int) (0 : Int) s_ [r1.1]), r1.2)))
theorem FE {C0 : Nat → VD} {D0 : VD} (H0 : Cv1 C0 D0) (h0 : Qb) : Cv (fun k => WR (C0 k) h0) (WR D0 h0) := by
 unfold WR
 exact .bind (H0 _) fun r1 => by exact .const _
noncomputable def QdP (C0 : VD) (h0 : Qb) : Tr (Qa × Qb) AH := (Sk C0 h0 fun r1 => (.rows [[xi r1.1.Kind, xi r1.1.N, xs r1.1.Name, .sl (QX r1.1.L)]] (QX [r1.1]) (rt Qr ((Qa.mk (zi 4) i0 s_ [r1.1]), r1.2))))
def VE (C0 : JV) (C1 : W3) (h0 : Qb) : Option (Qa × Qb) := (bif (decide (h0.deep ≥ 12)) then ((C0 h0).bind fun r1 => (some (r1.1, r1.2))) else ((C1 (Qb.mk h0.left (w64 (h0.deep + 1)) h0.bad)).bind fun r2 => (some (r2.1, (Qb.mk r2.2.left (w64 (r2.2.deep - 1)) r2.2.bad)))))
theorem GZ {C0 : Nat → JV} {D0 : JV} (H0 : Cv1 C0 D0) {C1 : Nat → W3} {D1 : W3} (H1 : Cv1 C1 D1) (h0 : Qb) : Cv (fun k => VE (C0 k) (C1 k) h0) (VE D0 D1 h0) := by
 unfold VE
 exact .cond (.bind (H0 _) fun r1 => by exact .const _) (.bind (H1 _) fun r2 => by exact .const _)
noncomputable def QbH (C0 : W3) (h0 : Qb) : Tr (Qa × Qb) AH := (.as (decide (h0.deep ≥ 12)) (VZ h0 fun r1 => (rt Qr (r1.1, r1.2))) (QdN C0 (Qb.mk h0.left (w64 (h0.deep + 1)) h0.bad) fun r2 => (rt Qr (r2.1, (Qb.mk r2.2.left (w64 (r2.2.deep - 1)) r2.2.bad)))))
def VL (C0 : Wl) (C1 : WP) (C2 : Wt) (C3 : XX) (C4 : QcW) (C5 : Yr) (C6 : YQ) (C7 : Fa) (C8 : Gz) (C9 : Sz) (C10 : JV) (h0 : Qb) : Option (Qa × Qb) := ((C0 h_28 h0).bind fun r1 => (bif r1.1 then ((C1 r1.2).bind fun r2 => (some (r2.1, r2.2))) else ((C0 h_2d r1.2).bind fun r3 => (bif r3.1 then ((C2 r3.2).bind fun r4 => (some (r4.1, r4.2))) else ((C0 h_2e r3.2).bind fun r5 => (bif r5.1 then (some ((Qa.mk (3 : Int) (0 : Int) s_ ([] : List Qa)), r5.2)) else (bif r5.2.bad then (some ((Qa.mk (0 : Int) (0 : Int) s_ ([] : List Qa)), r5.2)) else ((C3 r5.2.left).bind fun r6 => (bif r6 then (bif (decide (0 ≤ (2 : Int) ∧ (2 : Int) ≤ ((r5.2.left.size : Nat) : Int) ∧ ((r5.2.left.size : Nat) : Int) ≤ ((r5.2.left.size : Nat) : Int))) then ((C4 (r5.2.left.extract (Int.toNat 2) (Int.toNat ((r5.2.left.size : Nat) : Int)))).bind fun r7 => (bif (!(eqS r7 s_)) then ((C4 (r5.2.left.extract (Int.toNat 2) (Int.toNat ((r5.2.left.size : Nat) : Int)))).bind fun r8 => ((C5 r8 (16 : Int) (Qb.mk (r5.2.left.extract (Int.toNat 2) (Int.toNat ((r5.2.left.size : Nat) : Int))) r5.2.deep r5.2.bad)).bind fun r9 => ((C6 r9.1 r9.2).bind fun r10 => (some (r10.1, r10.2))))) else ((C7 r5.2.left).bind fun r11 => (bif (!(eqS r11 s_)) then ((C5 r11 (10 : Int) r5.2).bind fun r12 => ((C6 r12.1 r12.2).bind fun r13 => (some (r13.1, r13.2)))) else ((C8 r5.2.left).bind fun r14 => ((C9 r14).bind fun r15 => (bif r15 then (bif (decide (0 ≤ ((r14.size : Nat) : Int) ∧ ((r14.size : Nat) : Int) ≤ ((r5.2.left.size : Nat) : Int) ∧ ((r5.2.left.size : Nat) : Int) ≤ ((r5.2.left.size : Nat) : Int))) then (some ((Qa.mk (2 : Int) (0 : Int) r14 ([] : List Qa)), (Qb.mk (r5.2.left.extract (Int.toNat ((r14.size : Nat) : Int)) (Int.toNat ((r5.2.left.size : Nat) : Int))) r5.2.deep r5.2.bad))) else none) else ((C10 r5.2).bind fun r16 => (some (r16.1, r16.2)))))))))) else none) else ((C7 r5.2.left).bind fun r17 => (bif (!(eqS r17 s_)) then ((C5 r17 (10 : Int) r5.2).bind fun r18 => ((C6 r18.1 r18.2).bind fun r19 => (some (r19.1, r19.2)))) else ((C8 r5.2.left).bind fun r20 => ((C9 r20).bind fun r21 => (bif r21 then (bif (decide (0 ≤ ((r20.size : Nat) : Int) ∧ ((r20.size : Nat) : Int) ≤ ((r5.2.left.size : Nat) : Int) ∧ ((r5.2.left.size : Nat) : Int) ≤ ((r5.2.left.size : Nat) : Int))) then (some ((Qa.mk (2 : Int) (0 : Int) r20 ([] : List Qa)), (Qb.mk (r5.2.left.extract (Int.toNat ((r20.size : Nat) : Int)) (Int.toNat ((r5.2.left.size : Nat) : Int))) r5.2.deep r5.2.bad))) else none) else ((C10 r5.2).bind fun r22 => (some (r22.1, r22.2)))))))))))))))))
theorem Sl {C0 : Nat → Wl} {D0 : Wl} (H0 : Cv2 C0 D0) {C1 : Nat → WP} {D1 : WP} (H1 : Cv1 C1 D1) {C2 : Nat → Wt} {D2 : Wt} (H2 : Cv1 C2 D2) {C3 : Nat → XX} {D3 : XX} (H3 : Cv1 C3 D3) {C4 : Nat → QcW} {D4 : QcW} (H4 : Cv1 C4 D4) {C5 : Nat → Yr} {D5 : Yr} (H5 : Cv3 C5 D5) {C6 : Nat → YQ} {D6 : YQ} (H6 : Cv2 C6 D6) {C7 : Nat → Fa} {D7 : Fa} (H7 : Cv1 C7 D7) {C8 : Nat → Gz} {D8 : Gz} (H8 : Cv1 C8 D8) {C9 : Nat → Sz} {D9 : Sz} (H9 : Cv1 C9 D9) {C10 : Nat → JV} {D10 : JV} (H10 : Cv1 C10 D10) (h0 : Qb) : Cv (fun k => VL (C0 k) (C1 k) (C2 k) (C3 k) (C4 k) (C5 k) (C6 k) (C7 k) (C8 k) (C9 k) (C10 k) h0) (VL D0 D1 D2 D3 D4 D5 D6 D7 D8 D9 D10 h0) := by
 unfold VL
 exact .bind (H0 _ _) fun r1 => .cond (.bind (H1 _) fun r2 => by exact .const _) (.bind (H0 _ _) fun r3 => .cond (.bind (H2 _) fun r4 => by exact .const _) (.bind (H0 _ _) fun r5 => .cond cst (.cond cst (.bind (H3 _) fun r6 => .cond (.cond (.bind (H4 _) fun r7 => .cond (.bind (H4 _) fun r8 => .bind (H5 _ _ _) fun r9 => .bind (H6 _ _) fun r10 => by exact .const _) (.bind (H7 _) fun r11 => .cond (.bind (H5 _ _ _) fun r12 => .bind (H6 _ _) fun r13 => by exact .const _) (.bind (H8 _) fun r14 => .bind (H9 _) fun r15 => .cond cst (.bind (H10 _) fun r16 => by exact .const _)))) cst) (.bind (H7 _) fun r17 => .cond (.bind (H5 _ _ _) fun r18 => .bind (H6 _ _) fun r19 => by exact .const _) (.bind (H8 _) fun r20 => .bind (H9 _) fun r21 => .cond cst (.bind (H10 _) fun r22 => by exact .const _)))))))
noncomputable def QfN (C0 : WP) (C1 : Wt) (h0 : Qb) : Tr (Qa × Qb) AH := (XL h_28 h0 fun r1 => (.as r1.1 (QcY C0 r1.2 fun r2 => (rt Qr (r2.1, r2.2))) (XL h_2d r1.2 fun r3 => (.as r3.1 (QbG C1 r3.2 fun r4 => (rt Qr (r4.1, r4.2))) (XL h_2e r3.2 fun r5 => (.as r5.1 (rt Qr ((Qa.mk (zi 3) i0 s_ ([] : List Qa)), r5.2)) (.as r5.2.bad (rt Qr ((Qa.mk i0 i0 s_ ([] : List Qa)), r5.2)) (Qci r5.2.left fun r6 => (.as r6 (yesN 4 r6 (let u58 := (in2 (zi 2) (zz r5.2.left) (zz r5.2.left)); .as u58 (.yes r6 (Qjg (cu r5.2.left (zi 2) (zz r5.2.left)) fun r7 => (yesN 2 r6 (.as (!(eqS r7 s_)) (.yes u58 (Qjg (cu r5.2.left (zi 2) (zz r5.2.left)) fun r8 => (Zz r8 (zi 16) (Qb.mk (cu r5.2.left (zi 2) (zz r5.2.left)) r5.2.deep r5.2.bad) fun r9 => (ZO r9.1 r9.2 fun r10 => (rt Qr (r10.1, r10.2)))))) (QbE r5.2.left fun r11 => (.as (!(eqS r11 s_)) (Zz r11 (zi 10) r5.2 fun r12 => (ZO r12.1 r12.2 fun r13 => (rt Qr (r13.1, r13.2)))) (Pl r5.2.left fun r14 => (Qgk r14 fun r15 => (.as r15 (.as (in2 (zz r14) (zz r5.2.left) (zz r5.2.left)) (rt Qr ((Qa.mk (zi 2) i0 r14 ([] : List Qa)), (Qb.mk (cu r5.2.left (zz r14) (zz r5.2.left)) r5.2.deep r5.2.bad))) .fail) (VZ r5.2 fun r16 => (rt Qr (r16.1, r16.2)))))))))))) .fail)) (noN 7 r6 (.no false (QbE r5.2.left fun r17 => (.as (!(eqS r17 s_)) (Zz r17 (zi 10) r5.2 fun r18 => (ZO r18.1 r18.2 fun r19 => (rt Qr (r19.1, r19.2)))) (Pl r5.2.left fun r20 => (Qgk r20 fun r21 => (.as r21 (.as (in2 (zz r20) (zz r5.2.left) (zz r5.2.left)) (rt Qr ((Qa.mk (zi 2) i0 r20 ([] : List Qa)), (Qb.mk (cu r5.2.left (zz r20) (zz r5.2.left)) r5.2.deep r5.2.bad))) .fail) (VZ r5.2 fun r22 => (rt Qr (r22.1, r22.2)))))))))))))))))))
structure Jk where
 x1 : Int
 x6 : Int
 h0 : Qb
 h1 : Qa
 h2 : Qa
structure Uf where
 h0 : Qb
 h1 : Qa
 h2 : Qa
def ZA (a : Jk) : St := { n := 47, nx := 3, env := [(0, .ptr 0 0), (1, xi a.x1), (4, .ptr 1 0), (5, .ptr 2 0), (6, xi a.x6)], heap := [(0, .box [] (QL a.h0)), (1, .box [] (Js a.h1)), (2, .box [] (Js a.h2))] }
def XY (a : Uf) : Ex × St := (.exit 0, { n := 47, nx := 3, env := [(4, .ptr 1 0), (5, .ptr 2 0)], heap := [(0, .box [] (QL a.h0)), (1, .box [] (Js a.h1)), (2, .box [] (Js a.h2))] })
abbrev VJ := Jk → Option Uf
def V8 (C0 : Je) (C1 : Ym) (C2 : WI) (a : Jk) : Option (Jk ⊕ Uf) := (bif (a.x6 != 0) then (bif (!a.h0.bad) then ((C0 (w64 (a.x1 + 1)) a.h0).bind fun r1 => ((C1).bind fun r2 => (bif (decide (0 ≤ a.x1)) then ((r2[(Int.toNat a.x1)]?).bind fun e3 => ((C2 e3 r1.2).bind fun r4 => (some (.inl (Jk.mk a.x1 r4.1 r4.2 a.h1 (Qa.mk a.x6 (0 : Int) s_ [a.h2, r1.1])))))) else none))) else (some (.inr (Uf.mk a.h0 a.h1 a.h2)))) else (some (.inr (Uf.mk a.h0 a.h1 a.h2))))
theorem Fd {C0 : Nat → Je} {D0 : Je} (H0 : Cv2 C0 D0) {C1 : Nat → Ym} {D1 : Ym} (H1 : Cv C1 D1) {C2 : Nat → WI} {D2 : WI} (H2 : Cv2 C2 D2) (a : Jk) : Cv (fun k => V8 (C0 k) (C1 k) (C2 k) a) (V8 D0 D1 D2 a) := by
 unfold V8
 exact .cond (.cond (.bind (H0 _ _) fun r1 => .bind (H1) fun r2 => .cond (.bind (.const _) fun e3 => .bind (H2 _ _) fun r4 => by exact .const _) cst) cst) cst
noncomputable abbrev Qc0 {ρ R : Type} (l : VJ) (a : Jk) (k0 : Uf → Tr ρ R) : Tr ρ R := .loop (loopAt pp 215 5) (ZA a) (l a) XY k0
noncomputable def Qc1 (C0 : Je) (a : Jk) : Tr (Jk ⊕ Uf) XS := (let u59 := (a.x6 != 0); .as u59 (yesN 5 u59 (.as (!a.h0.bad) (Y9 C0 (w64 (a.x1 + 1)) a.h0 fun r1 => (.rows [[xi a.h2.Kind, xi a.h2.N, xs a.h2.Name, .sl (QX a.h2.L)], [xi r1.1.Kind, xi r1.1.N, xs r1.1.Name, .sl (QX r1.1.L)]] (QX [a.h2, r1.1]) (Sa fun r2 => (.as (decide (0 ≤ a.x1)) (.row ((Ps r2)[(Int.toNat a.x1)]?) (r2[(Int.toNat a.x1)]?) Qes fun (e3 : (List Int)) => (PI e3 r1.2 fun r4 => (lf ZA (Jk.mk a.x1 r4.1 r4.2 a.h1 (Qa.mk a.x6 i0 s_ [a.h2, r1.1]))))) .fail)))) (rx XY (Uf.mk a.h0 a.h1 a.h2)))) (noN 5 u59 (.no false (rx XY (Uf.mk a.h0 a.h1 a.h2)))))
noncomputable def Q1.s (k : Nat) (C0 : Je) : VJ := iter (V8 C0 VB JW) k
theorem Qcm (k : Nat) {C0 : Je} (i_expr_parser_two : QaD C0) {a : Jk} {r : Uf} (h : Q1.s k C0 a = some r) : lw 1 215 (loopAt pp 215 5) (ZA a) = some (XY r) := by
 refine lpP (itP h) (Qc1 C0) fun a => ?_
 exact ⟨rfl, fun q0 => Qk 5 (q0) (⟨rfl, fun q1 => fun r1 h => ⟨i_expr_parser_two _ _ _ h, ⟨(W0 [a.h2, r1.1]), fun r2 h => ⟨VB.ok h, ⟨rfl, fun q2 => fun e3 h => ⟨Qhv h, fun r4 h => ⟨JW.ok h, rfl⟩⟩, fun q2 => trivial⟩⟩⟩⟩, fun q1 => rfl⟩), fun q0 => noN_ok 5 (q0) (⟨rfl, rfl⟩)⟩
theorem Q1.m {j k : Nat} (hj : j ≤ k) (C0 : Je) (D0 : Je) (H0 : Le2 C0 D0) (a : Jk) : Le (Q1.s j C0 a) (Q1.s k D0 a) := Le.iter (fun a => (Fd (tw2 H0) ks0 ks2 a).1 0) hj a
noncomputable def Q1.w (C0 : Je) : VJ := loopW (V8 C0 VB JW)
theorem Q1.cv (C0 : Nat → Je) (D0 : Je) (H0 : Cv2 C0 D0) (a : Jk) : Cv (fun k => Q1.s k (C0 k) a) (Q1.w D0 a) := Cv.iter (fun a => Fd H0 ks0 ks2 a) a
def WJ (C0 : Ym) (C1 : VD) (C2 : Je) (C3 : WI) (L4 : VJ) (a1 : Int) (h0 : Qb) : Option (Qa × Qb) := ((C0).bind fun r1 => (bif (a1 == (((r1.length) : Nat) : Int)) then ((C1 h0).bind fun r2 => (some (r2.1, r2.2))) else ((C2 (w64 (a1 + 1)) h0).bind fun r3 => ((C0).bind fun r4 => (bif (decide (0 ≤ a1)) then ((r4[(Int.toNat a1)]?).bind fun e5 => ((C3 e5 r3.2).bind fun r6 => ((L4 (Jk.mk a1 r6.1 r6.2 (Qa.mk (0 : Int) (0 : Int) s_ ([] : List Qa)) r3.1)).bind (fun (o7 : Uf) => (some (o7.h2, o7.h0)))))) else none)))))
theorem Sm {C0 : Nat → Ym} {D0 : Ym} (H0 : Cv C0 D0) {C1 : Nat → VD} {D1 : VD} (H1 : Cv1 C1 D1) {C2 : Nat → Je} {D2 : Je} (H2 : Cv2 C2 D2) {C3 : Nat → WI} {D3 : WI} (H3 : Cv2 C3 D3) {L4 : Nat → VJ} {M4 : VJ} (N4 : Cv1 L4 M4) (a1 : Int) (h0 : Qb) : Cv (fun k => WJ (C0 k) (C1 k) (C2 k) (C3 k) (L4 k) a1 h0) (WJ D0 D1 D2 D3 M4 a1 h0) := by
 unfold WJ
 exact .bind (H0) fun r1 => .cond (.bind (H1 _) fun r2 => by exact .const _) (.bind (H2 _ _) fun r3 => .bind (H0) fun r4 => .cond (.bind (.const _) fun e5 => .bind (H3 _ _) fun r6 => .bind (N4 _) (fun o7 => by exact .const _)) cst)
noncomputable def QfO (C0 : VD) (C1 : Je) (L2 : VJ) (a1 : Int) (h0 : Qb) : Tr (Qa × Qb) AH := (Sa fun r1 => (.num ((Ps r1).length) (r1.length) (.as (a1 == (((r1.length) : Nat) : Int)) (Sk C0 h0 fun r2 => (rt Qr (r2.1, r2.2))) (Y9 C1 (w64 (a1 + 1)) h0 fun r3 => (Sa fun r4 => (.as (decide (0 ≤ a1)) (.row ((Ps r4)[(Int.toNat a1)]?) (r4[(Int.toNat a1)]?) Qes fun (e5 : (List Int)) => (PI e5 r3.2 fun r6 => (Qc0 L2 (Jk.mk a1 r6.1 r6.2 (Qa.mk i0 i0 s_ ([] : List Qa)) r3.1) (fun o7 => (rt Qr (o7.h2, o7.h0)))))) .fail))))))
mutual
noncomputable def JK.s : Nat → Qb → Option (Qa × Qb)
 | 0, _ => none
 | k + 1, h0 => WQ (fun a1 h0 => Qo.s k a1 h0) Jz QT h0
termination_by structural k => k
noncomputable def Q2.s : Nat → Qb → Option (Qa × Qb)
 | 0, _ => none
 | k + 1, h0 => V7 QT (fun h0 => JK.s k h0) h0
termination_by structural k => k
noncomputable def JL.s : Nat → Qb → Option (Qa × Qb)
 | 0, _ => none
 | k + 1, h0 => WR (fun h0 => QE.s k h0) h0
termination_by structural k => k
noncomputable def QS.s : Nat → Qb → Option (Qa × Qb)
 | 0, _ => none
 | k + 1, h0 => VE QT (fun h0 => JL.s k h0) h0
termination_by structural k => k
noncomputable def QE.s : Nat → Qb → Option (Qa × Qb)
 | 0, _ => none
 | k + 1, h0 => VL Jz (fun h0 => Q2.s k h0) (fun h0 => QS.s k h0) UY Zk JY J7 WM V0 XM QT h0
termination_by structural k => k
noncomputable def Qo.s : Nat → Int → Qb → Option (Qa × Qb)
 | 0, _, _ => none
 | k + 1, a1, h0 => WJ VB (fun h0 => QE.s k h0) (fun a1 h0 => Qo.s k a1 h0) JW (Q1.s k (fun a1 h0 => Qo.s k a1 h0)) a1 h0
termination_by structural k => k
end
theorem Ez : ∀ (k : Nat), (QeR (JK.s k)) ∧ (QdL (Q2.s k)) ∧ (QeS (JL.s k)) ∧ (Qcl (QS.s k)) ∧ (QgM (QE.s k)) ∧ (QaD (Qo.s k))
 | 0 => ⟨fun _ _ h => (nomatch h), fun _ _ h => (nomatch h), fun _ _ h => (nomatch h), fun _ _ h => (nomatch h), fun _ _ h => (nomatch h), fun _ _ _ h => (nomatch h)⟩
 | k + 1 => by
  obtain ⟨i_expr_parser_group, i_expr_parser_within, i_expr_parser_minus, i_expr_parser_within_2, i_expr_parser_one, i_expr_parser_two⟩ := Ez k
  exact ⟨fun h0 r h => by
    refine fnP (QdO (Qo.s k) h0) ?_ h
    exact fun r1 h => ⟨i_expr_parser_two _ _ _ h, fun r2 h => ⟨Jz.ok h, ⟨rfl, fun q0 => fun r3 h => ⟨QT.ok h, rfl⟩, fun q0 => rfl⟩⟩⟩,
   fun h0 r h => by
    refine fnP (QcZ (JK.s k) h0) ?_ h
    exact ⟨rfl, fun q0 => fun r1 h => ⟨QT.ok h, rfl⟩, fun q0 => fun r2 h => ⟨i_expr_parser_group _ _ h, rfl⟩⟩,
   fun h0 r h => by
    refine fnP (QdP (QE.s k) h0) ?_ h
    exact fun r1 h => ⟨i_expr_parser_one _ _ h, ⟨(W0 [r1.1]), rfl⟩⟩,
   fun h0 r h => by
    refine fnP (QbH (JL.s k) h0) ?_ h
    exact ⟨rfl, fun q0 => fun r1 h => ⟨QT.ok h, rfl⟩, fun q0 => fun r2 h => ⟨i_expr_parser_minus _ _ h, rfl⟩⟩,
   fun h0 r h => by
    refine fnP (QfN (Q2.s k) (QS.s k) h0) ?_ h
    exact fun r1 h => ⟨Jz.ok h, ⟨rfl, fun q0 => fun r2 h => ⟨i_expr_parser_within _ _ h, rfl⟩, fun q0 => fun r3 h => ⟨Jz.ok h, ⟨rfl, fun q1 => fun r4 h => ⟨i_expr_parser_within_2 _ _ h, rfl⟩, fun q1 => fun r5 h => ⟨Jz.ok h, ⟨rfl, fun q2 => rfl, fun q2 => ⟨rfl, fun q3 => rfl, fun q3 => fun r6 h => ⟨UY.ok h, ⟨rfl, fun q4 => Qk 4 (q4) (⟨rfl, fun q5 => ⟨q4, fun r7 h => ⟨Zk.ok h, Qk 2 (q4) (⟨rfl, fun q6 => ⟨q5, fun r8 h => ⟨Zk.ok h, fun r9 h => ⟨JY.ok h, fun r10 h => ⟨J7.ok h, rfl⟩⟩⟩⟩, fun q6 => fun r11 h => ⟨WM.ok h, ⟨rfl, fun q7 => fun r12 h => ⟨JY.ok h, fun r13 h => ⟨J7.ok h, rfl⟩⟩, fun q7 => fun r14 h => ⟨V0.ok h, fun r15 h => ⟨XM.ok h, ⟨rfl, fun q8 => ⟨rfl, fun q9 => rfl, fun q9 => trivial⟩, fun q8 => fun r16 h => ⟨QT.ok h, rfl⟩⟩⟩⟩⟩⟩⟩)⟩⟩, fun q5 => trivial⟩), fun q4 => noN_ok 7 (q4) (⟨rfl, fun r17 h => ⟨WM.ok h, ⟨rfl, fun q5 => fun r18 h => ⟨JY.ok h, fun r19 h => ⟨J7.ok h, rfl⟩⟩, fun q5 => fun r20 h => ⟨V0.ok h, fun r21 h => ⟨XM.ok h, ⟨rfl, fun q6 => ⟨rfl, fun q7 => rfl, fun q7 => trivial⟩, fun q6 => fun r22 h => ⟨QT.ok h, rfl⟩⟩⟩⟩⟩⟩⟩)⟩⟩⟩⟩⟩⟩⟩⟩⟩,
   fun a1 h0 r h => by
    refine fnP (QfO (QE.s k) (Qo.s k) (Q1.s k (Qo.s k)) a1 h0) ?_ h
    exact fun r1 h => ⟨VB.ok h, ⟨(Qno _), ⟨rfl, fun q0 => fun r2 h => ⟨i_expr_parser_one _ _ h, rfl⟩, fun q0 => fun r3 h => ⟨i_expr_parser_two _ _ _ h, fun r4 h => ⟨VB.ok h, ⟨rfl, fun q1 => fun e5 h => ⟨Qhv h, fun r6 h => ⟨JW.ok h, fun o7 h => ⟨Qcm k i_expr_parser_two h, rfl⟩⟩⟩, fun q1 => trivial⟩⟩⟩⟩⟩⟩⟩
theorem VF : ∀ (k : Nat), (∀ (h0 : Qb), Le (JK.s k h0) (JK.s (k + 1) h0)) ∧ (∀ (h0 : Qb), Le (Q2.s k h0) (Q2.s (k + 1) h0)) ∧ (∀ (h0 : Qb), Le (JL.s k h0) (JL.s (k + 1) h0)) ∧ (∀ (h0 : Qb), Le (QS.s k h0) (QS.s (k + 1) h0)) ∧ (∀ (h0 : Qb), Le (QE.s k h0) (QE.s (k + 1) h0)) ∧ (∀ (a1 : Int) (h0 : Qb), Le (Qo.s k a1 h0) (Qo.s (k + 1) a1 h0))
 | 0 => ⟨fun _ _ h => (nomatch h), fun _ _ h => (nomatch h), fun _ _ h => (nomatch h), fun _ _ h => (nomatch h), fun _ _ h => (nomatch h), fun _ _ _ h => (nomatch h)⟩
 | k + 1 => by
  obtain ⟨i_expr_parser_group, i_expr_parser_within, i_expr_parser_minus, i_expr_parser_within_2, i_expr_parser_one, i_expr_parser_two⟩ := VF k
  exact ⟨fun h0 => (FD (tw2 i_expr_parser_two) ks2 ks1 h0).1 0,
   fun h0 => (Fc ks1 (tw1 i_expr_parser_group) h0).1 0,
   fun h0 => (FE (tw1 i_expr_parser_one) h0).1 0,
   fun h0 => (GZ ks1 (tw1 i_expr_parser_minus) h0).1 0,
   fun h0 => (Sl ks2 (tw1 i_expr_parser_within) (tw1 i_expr_parser_within_2) ks1 ks1 ks3 ks2 ks1 ks1 ks1 ks1 h0).1 0,
   fun a1 h0 => (Sm ks0 (tw1 i_expr_parser_one) (tw2 i_expr_parser_two) ks2 (tw1 (Q1.m (Nat.le_succ k) (Qo.s k) (Qo.s (k + 1)) i_expr_parser_two)) a1 h0).1 0⟩
noncomputable def JK (h0 : Qb) : Option (Qa × Qb) := lim fun k => JK.s k h0
theorem JK.cv (h0 : Qb) : Cv (fun k => JK.s k h0) (JK h0) := .lim fun k => (VF k).1 h0
noncomputable def Q2 (h0 : Qb) : Option (Qa × Qb) := lim fun k => Q2.s k h0
theorem Q2.cv (h0 : Qb) : Cv (fun k => Q2.s k h0) (Q2 h0) := .lim fun k => (VF k).2.1 h0
noncomputable def JL (h0 : Qb) : Option (Qa × Qb) := lim fun k => JL.s k h0
theorem JL.cv (h0 : Qb) : Cv (fun k => JL.s k h0) (JL h0) := .lim fun k => (VF k).2.2.1 h0
noncomputable def QS (h0 : Qb) : Option (Qa × Qb) := lim fun k => QS.s k h0
theorem QS.cv (h0 : Qb) : Cv (fun k => QS.s k h0) (QS h0) := .lim fun k => (VF k).2.2.2.1 h0
noncomputable def QE (h0 : Qb) : Option (Qa × Qb) := lim fun k => QE.s k h0
theorem QE.cv (h0 : Qb) : Cv (fun k => QE.s k h0) (QE h0) := .lim fun k => (VF k).2.2.2.2.1 h0
noncomputable def Qo (a1 : Int) (h0 : Qb) : Option (Qa × Qb) := lim fun k => Qo.s k a1 h0
theorem Qo.cv (a1 : Int) (h0 : Qb) : Cv (fun k => Qo.s k a1 h0) (Qo a1 h0) := .lim fun k => (VF k).2.2.2.2.2 a1 h0
theorem Qo.ok {a1 : Int} {h0 : Qb} {r : (Qa × Qb)} (h : Qo a1 h0 = some r) : ww 215 [.ptr 0 0, xi a1] [(0, .box [] (QL h0))] = some (Qr r) := let ⟨k, e⟩ := ((Qo.cv a1 h0).2 r).1 h; (Ez k).2.2.2.2.2 a1 h0 _ e
noncomputable def Q1 : VJ := Q1.w Qo
theorem Q1.eq (a : Jk) : Q1 a = (V8 Qo VB JW a).bind (Sum.elim Q1 some) := JD _ _
theorem JK.eq (h0 : Qb) : JK h0 = WQ Qo Jz QT h0 := Cv.uniq (JK.cv h0).shift (FD Qo.cv ks2 ks1 h0)
theorem Q2.eq (h0 : Qb) : Q2 h0 = V7 QT JK h0 := Cv.uniq (Q2.cv h0).shift (Fc ks1 JK.cv h0)
theorem JL.eq (h0 : Qb) : JL h0 = WR QE h0 := Cv.uniq (JL.cv h0).shift (FE QE.cv h0)
theorem QS.eq (h0 : Qb) : QS h0 = VE QT JL h0 := Cv.uniq (QS.cv h0).shift (GZ ks1 JL.cv h0)
theorem QE.eq (h0 : Qb) : QE h0 = VL Jz Q2 QS UY Zk JY J7 WM V0 XM QT h0 := Cv.uniq (QE.cv h0).shift (Sl ks2 Q2.cv QS.cv ks1 ks1 ks3 ks2 ks1 ks1 ks1 ks1 h0)
theorem Qo.eq (a1 : Int) (h0 : Qb) : Qo a1 h0 = WJ VB QE Qo JW Q1 a1 h0 := Cv.uniq (Qo.cv a1 h0).shift (Sm ks0 QE.cv Qo.cv ks2 (Q1.cv (fun k => Qo.s k) Qo Qo.cv) a1 h0)
noncomputable abbrev QfP {ρ R : Type} (a1 : Int) (h0 : Qb) (k : (Qa × Qb) → Tr ρ R) : Tr ρ R := Y9 Qo a1 h0 k
def WU (r : (Qa × Bool)) : AV × Heap := (.tup [.agg (Js r.1), xo r.2], [])
abbrev Qgm := ByteArray → Option (Qa × Bool)
def QaE (C0 : Je) (C1 : ZM) (a0 : ByteArray) : Option (Qa × Bool) := ((C0 (0 : Int) (Qb.mk a0 (0 : Int) false)).bind fun r1 => ((C1 r1.2).bind fun r2 => (bif r2.bad then (some ((Qa.mk (0 : Int) (0 : Int) s_ ([] : List Qa)), false)) else (bif (!(eqS r2.left s_)) then (some ((Qa.mk (0 : Int) (0 : Int) s_ ([] : List Qa)), false)) else (some (r1.1, true))))))
noncomputable def Wp : Qgm := QaE Qo Ud
theorem Wp.eq (a0 : ByteArray) : Wp a0 = QaE Qo Ud a0 := rfl
noncomputable def Qk1 (a0 : ByteArray) : Tr (Qa × Bool) AH := (QfP i0 (Qb.mk a0 i0 false) fun r1 => (E8 r1.2 fun r2 => (.as r2.bad (yesN 5 r2.bad (.yes true (rt WU ((Qa.mk i0 i0 s_ ([] : List Qa)), false)))) (noN 5 r2.bad (.as (!(eqS r2.left s_)) (rt WU ((Qa.mk i0 i0 s_ ([] : List Qa)), false)) (rt WU (r1.1, true)))))))
theorem Wp.ok {a0 : ByteArray} {r : (Qa × Bool)} (h : Wp a0 = some r) : ww 179 [xs a0] [] = some (WU r) := by
 refine fnP (Qk1 a0) ?_ h
 exact fun r1 h => ⟨Qo.ok h, fun r2 h => ⟨Ud.ok h, ⟨rfl, fun q0 => Qk 5 (q0) (⟨rfl, rfl⟩), fun q0 => noN_ok 5 (q0) (⟨rfl, fun q1 => rfl, fun q1 => rfl⟩)⟩⟩⟩
noncomputable abbrev Qk2 {ρ R : Type} (a0 : ByteArray) (k : (Qa × Bool) → Tr ρ R) : Tr ρ R := .call (ww 179 [xs a0] []) (Wp a0) WU k
def Qt (r : (Bool × Qg)) : AV × Heap := (xo r.1, [(0, .box [0, 0, 0, 0, 0, 5] [xi r.2.x.Line, xs r.2.x.Label, xi r.2.x.Kind, xi r.2.x.Op, xs r.2.x.Text, .arr 2]), (2, .arr true 5 (Qj r.2.x.Args))])
abbrev PJ := ByteArray → Qg → Option (Bool × Qg)
def ZP (C0 : Qgm) (a1 : ByteArray) (h0 : Qg) : Option (Bool × Qg) := ((C0 a1).bind fun r1 => (bif (decide ((h0.x.Args.length + [(Qd.mk (-1 : Int) r1.1)].length) * 64 ≤ most)) then (some (r1.2, (Qg.mk (Qf.mk h0.x.Line h0.x.Label h0.x.Kind h0.x.Op h0.x.Text (h0.x.Args ++ [(Qd.mk (-1 : Int) r1.1)]))))) else none))
noncomputable def Vn : PJ := ZP Wp
theorem Vn.eq (a1 : ByteArray) (h0 : Qg) : Vn a1 h0 = ZP Wp a1 h0 := rfl
noncomputable def QdQ (a1 : ByteArray) (h0 : Qg) : Tr (Bool × Qg) AH := (Qk2 a1 fun r1 => (.rows [[xi (-1 : Int), xi r1.1.Kind, xi r1.1.N, xs r1.1.Name, .sl (QX r1.1.L)]] (Qj [(Qd.mk (-1 : Int) r1.1)]) (.yes (decide ((Qj [(Qd.mk (-1 : Int) r1.1)]).all (fun r => r.length == 5) = true)) (.ask (decide (((Qj h0.x.Args).length + (Qj [(Qd.mk (-1 : Int) r1.1)]).length) * 64 ≤ most)) (decide ((h0.x.Args.length + [(Qd.mk (-1 : Int) r1.1)].length) * 64 ≤ most)) (.rows ((Qj h0.x.Args) ++ (Qj [(Qd.mk (-1 : Int) r1.1)])) (Qj (h0.x.Args ++ [(Qd.mk (-1 : Int) r1.1)])) (rt Qt (r1.2, (Qg.mk (Qf.mk h0.x.Line h0.x.Label h0.x.Kind h0.x.Op h0.x.Text (h0.x.Args ++ [(Qd.mk (-1 : Int) r1.1)])))))) .fail))))
theorem Vn.ok {a1 : ByteArray} {h0 : Qg} {r : (Bool × Qg)} (h : Vn a1 h0 = some r) : ww 129 [.ptr 0 0, xs a1] [(0, .box [0, 0, 0, 0, 0, 5] [xi h0.x.Line, xs h0.x.Label, xi h0.x.Kind, xi h0.x.Op, xs h0.x.Text, .arr 1]), (1, .arr true 5 (Qj h0.x.Args))] = some (Qt r) := by
 refine fnP (QdQ a1 h0) ?_ h
 exact fun r1 h => ⟨Wp.ok h, ⟨(JS [(Qd.mk (-1 : Int) r1.1)]), ⟨(decide_eq_true (Wy _)), ⟨(by rw [JN, JN]), fun q0 => ⟨(VA _ _), rfl⟩, fun q0 => trivial⟩⟩⟩⟩
noncomputable abbrev QdR {ρ R : Type} (a1 : ByteArray) (h0 : Qg) (k : (Bool × Qg) → Tr ρ R) : Tr ρ R := .call (ww 129 [.ptr 0 0, xs a1] [(0, .box [0, 0, 0, 0, 0, 5] [xi h0.x.Line, xs h0.x.Label, xi h0.x.Kind, xi h0.x.Op, xs h0.x.Text, .arr 1]), (1, .arr true 5 (Qj h0.x.Args))]) (Vn a1 h0) Qt k
abbrev Sn := ByteArray → Qg → Option (Bool × Qg)
def Gl (C0 : QcS) (a1 : ByteArray) (h0 : Qg) : Option (Bool × Qg) := ((C0 a1).bind fun r1 => (some (r1, (Qg.mk (Qf.mk h0.x.Line h0.x.Label h0.x.Kind h0.x.Op a1 h0.x.Args)))))
noncomputable def VG : Sn := Gl W1
theorem VG.eq (a1 : ByteArray) (h0 : Qg) : VG a1 h0 = Gl W1 a1 h0 := rfl
noncomputable def QeT (a1 : ByteArray) (h0 : Qg) : Tr (Bool × Qg) AH := (Qgb a1 fun r1 => (rt Qt (r1, (Qg.mk (Qf.mk h0.x.Line h0.x.Label h0.x.Kind h0.x.Op a1 h0.x.Args)))))
theorem VG.ok {a1 : ByteArray} {h0 : Qg} {r : (Bool × Qg)} (h : VG a1 h0 = some r) : ww 131 [.ptr 0 0, xs a1] [(0, .box [0, 0, 0, 0, 0, 5] [xi h0.x.Line, xs h0.x.Label, xi h0.x.Kind, xi h0.x.Op, xs h0.x.Text, .arr 1]), (1, .arr true 5 (Qj h0.x.Args))] = some (Qt r) := by
 refine fnP (QeT a1 h0) ?_ h
 exact fun r1 h => ⟨W1.ok h, rfl⟩
noncomputable abbrev QeU {ρ R : Type} (a1 : ByteArray) (h0 : Qg) (k : (Bool × Qg) → Tr ρ R) : Tr ρ R := .call (ww 131 [.ptr 0 0, xs a1] [(0, .box [0, 0, 0, 0, 0, 5] [xi h0.x.Line, xs h0.x.Label, xi h0.x.Kind, xi h0.x.Op, xs h0.x.Text, .arr 1]), (1, .arr true 5 (Qj h0.x.Args))]) (VG a1 h0) Qt k
def Qcn (r : Int) : AV × Heap := (.tup [xi r, .sc .nilIface], [])
abbrev QjT := ByteArray → Option Int
noncomputable def Xc (a0 : ByteArray) : Option Int := atoiS a0
noncomputable abbrev Qco {ρ R : Type} (a0 : ByteArray) (k : Int → Tr ρ R) : Tr ρ R := .call (ww 241 [xs a0] []) (Xc a0) Qcn k
theorem Xc.ok {a0 : ByteArray} {r : Int} (h : Xc a0 = some r) : ww 241 [xs a0] [] = some (Qcn r) := (ZI rfl _ _).trans (Qqg h)
abbrev Qcp := ByteArray → Option (Int × Bool)
def Fe (C0 : P7) (C1 : QjT) (a0 : ByteArray) : Option (Int × Bool) := (bif (decide (((a0.size : Nat) : Int) < 2)) then (some ((0 : Int), false)) else (bif (decide (((a0.size : Nat) : Int) > 3)) then (some ((0 : Int), false)) else (bif (decide (0 ≤ (0 : Int) ∧ (0 : Int) < ((a0.size : Nat) : Int))) then (bif (((a0.data.getD (Int.toNat 0) 0).toNat : Int) != 114) then (some ((0 : Int), false)) else (bif (decide (0 ≤ (1 : Int) ∧ (1 : Int) ≤ ((a0.size : Nat) : Int) ∧ ((a0.size : Nat) : Int) ≤ ((a0.size : Nat) : Int))) then ((C0 (a0.extract (Int.toNat 1) (Int.toNat ((a0.size : Nat) : Int)))).bind fun r1 => (bif (r1 != (w64 (((a0.size : Nat) : Int) - 1))) then (some ((0 : Int), false)) else (bif (((a0.size : Nat) : Int) == 3) then (bif (decide (0 ≤ (1 : Int) ∧ (1 : Int) < ((a0.size : Nat) : Int))) then (bif (((a0.data.getD (Int.toNat 1) 0).toNat : Int) == 48) then (some ((0 : Int), false)) else ((C1 (a0.extract (Int.toNat 1) (Int.toNat ((a0.size : Nat) : Int)))).bind fun r2 => (some (r2, (decide (r2 < 32)))))) else none) else ((C1 (a0.extract (Int.toNat 1) (Int.toNat ((a0.size : Nat) : Int)))).bind fun r3 => (some (r3, (decide (r3 < 32)))))))) else none)) else none)))
noncomputable def WB : Qcp := Fe VO Xc
theorem WB.eq (a0 : ByteArray) : WB a0 = Fe VO Xc a0 := rfl
noncomputable def QhH (a0 : ByteArray) : Tr (Int × Bool) AH := (let u65 := (decide ((zz a0) < 2)); .as u65 (yesN 3 u65 (yesN 19 true (rt WY (i0, false)))) (noN 3 u65 (let u64 := (decide ((zz a0) > 3)); .as u64 (yesN 3 u64 (yesN 15 true (rt WY (i0, false)))) (.no u64 (.as (in1 i0 (zz a0)) (noN 2 u64 (let u63 := ((gb a0 i0) != 114); .as u63 (yesN 7 u63 (yesN 7 true (rt WY (i0, false)))) (.no u63 (let u62 := (in2 (zi 1) (zz a0) (zz a0)); .as u62 (.no u63 (Qcc (cu a0 (zi 1) (zz a0)) fun r1 => (noN 5 u63 (let u61 := (r1 != (w64 ((zz a0) - 1))); .as u61 (yesN 5 u61 (.yes true (rt WY (i0, false)))) (noN 3 u61 (let u60 := ((zz a0) == 3); .as u60 (.yes u60 (.as (in1 (zi 1) (zz a0)) (.yes u60 (.no u61 (.yes u60 (.no u61 (.as ((gb a0 (zi 1)) == 48) (rt WY (i0, false)) (.yes u62 (Qco (cu a0 (zi 1) (zz a0)) fun r2 => (rt WY (r2, (decide (r2 < 32))))))))))) .fail)) (noN 2 u60 (.no u61 (.no u60 (.no u61 (.no false (.yes u62 (Qco (cu a0 (zi 1) (zz a0)) fun r3 => (rt WY (r3, (decide (r3 < 32))))))))))))))))) .fail)))) .fail)))))
theorem WB.ok {a0 : ByteArray} {r : (Int × Bool)} (h : WB a0 = some r) : ww 214 [xs a0] [] = some (WY r) := by
 refine fnP (QhH a0) ?_ h
 exact ⟨rfl, fun q0 => Qk 3 (q0) (Qk 19 (rfl) (rfl)), fun q0 => noN_ok 3 (q0) (⟨rfl, fun q1 => Qk 3 (q1) (Qk 15 (rfl) (rfl)), fun q1 => ⟨q1, ⟨rfl, fun q2 => noN_ok 2 (q1) (⟨rfl, fun q3 => Qk 7 (q3) (Qk 7 (rfl) (rfl)), fun q3 => ⟨q3, ⟨rfl, fun q4 => ⟨q3, fun r1 h => ⟨VO.ok h, noN_ok 5 (q3) (⟨rfl, fun q5 => Qk 5 (q5) (⟨rfl, rfl⟩), fun q5 => noN_ok 3 (q5) (⟨rfl, fun q6 => ⟨q6, ⟨rfl, fun q7 => ⟨q6, ⟨q5, ⟨q6, ⟨q5, ⟨rfl, fun q8 => rfl, fun q8 => ⟨q4, fun r2 h => ⟨Xc.ok h, rfl⟩⟩⟩⟩⟩⟩⟩, fun q7 => trivial⟩⟩, fun q6 => noN_ok 2 (q6) (⟨q5, ⟨q6, ⟨q5, ⟨rfl, ⟨q4, fun r3 h => ⟨Xc.ok h, rfl⟩⟩⟩⟩⟩⟩)⟩)⟩)⟩⟩, fun q4 => trivial⟩⟩⟩), fun q2 => trivial⟩⟩⟩)⟩
noncomputable abbrev QhI {ρ R : Type} (a0 : ByteArray) (k : (Int × Bool) → Tr ρ R) : Tr ρ R := .call (ww 214 [xs a0] []) (WB a0) WY k
abbrev EA := ByteArray → Qg → Option (Bool × Qg)
def Y2 (C0 : Qcp) (a1 : ByteArray) (h0 : Qg) : Option (Bool × Qg) := ((C0 a1).bind fun r1 => (bif (decide ((h0.x.Args.length + [(Qd.mk r1.1 (Qa.mk (0 : Int) (0 : Int) s_ ([] : List Qa)))].length) * 64 ≤ most)) then (some (r1.2, (Qg.mk (Qf.mk h0.x.Line h0.x.Label h0.x.Kind h0.x.Op h0.x.Text (h0.x.Args ++ [(Qd.mk r1.1 (Qa.mk (0 : Int) (0 : Int) s_ ([] : List Qa)))]))))) else none))
noncomputable def UO : EA := Y2 WB
theorem UO.eq (a1 : ByteArray) (h0 : Qg) : UO a1 h0 = Y2 WB a1 h0 := rfl
noncomputable def QbI (a1 : ByteArray) (h0 : Qg) : Tr (Bool × Qg) AH := (QhI a1 fun r1 => (.rows [[xi r1.1, xi i0, xi i0, xs s_, .sl (QX ([] : List Qa))]] (Qj [(Qd.mk r1.1 (Qa.mk i0 i0 s_ ([] : List Qa)))]) (.yes (decide ((Qj [(Qd.mk r1.1 (Qa.mk i0 i0 s_ ([] : List Qa)))]).all (fun r => r.length == 5) = true)) (.ask (decide (((Qj h0.x.Args).length + (Qj [(Qd.mk r1.1 (Qa.mk i0 i0 s_ ([] : List Qa)))]).length) * 64 ≤ most)) (decide ((h0.x.Args.length + [(Qd.mk r1.1 (Qa.mk i0 i0 s_ ([] : List Qa)))].length) * 64 ≤ most)) (.rows ((Qj h0.x.Args) ++ (Qj [(Qd.mk r1.1 (Qa.mk i0 i0 s_ ([] : List Qa)))])) (Qj (h0.x.Args ++ [(Qd.mk r1.1 (Qa.mk i0 i0 s_ ([] : List Qa)))])) (rt Qt (r1.2, (Qg.mk (Qf.mk h0.x.Line h0.x.Label h0.x.Kind h0.x.Op h0.x.Text (h0.x.Args ++ [(Qd.mk r1.1 (Qa.mk i0 i0 s_ ([] : List Qa)))])))))) .fail))))
theorem UO.ok {a1 : ByteArray} {h0 : Qg} {r : (Bool × Qg)} (h : UO a1 h0 = some r) : ww 178 [.ptr 0 0, xs a1] [(0, .box [0, 0, 0, 0, 0, 5] [xi h0.x.Line, xs h0.x.Label, xi h0.x.Kind, xi h0.x.Op, xs h0.x.Text, .arr 1]), (1, .arr true 5 (Qj h0.x.Args))] = some (Qt r) := by
 refine fnP (QbI a1 h0) ?_ h
 exact fun r1 h => ⟨WB.ok h, ⟨(JS [(Qd.mk r1.1 (Qa.mk (0 : Int) (0 : Int) s_ ([] : List Qa)))]), ⟨(decide_eq_true (Wy _)), ⟨(by rw [JN, JN]), fun q0 => ⟨(VA _ _), rfl⟩, fun q0 => trivial⟩⟩⟩⟩
noncomputable abbrev QbJ {ρ R : Type} (a1 : ByteArray) (h0 : Qg) (k : (Bool × Qg) → Tr ρ R) : Tr ρ R := .call (ww 178 [.ptr 0 0, xs a1] [(0, .box [0, 0, 0, 0, 0, 5] [xi h0.x.Line, xs h0.x.Label, xi h0.x.Kind, xi h0.x.Op, xs h0.x.Text, .arr 1]), (1, .arr true 5 (Qj h0.x.Args))]) (UO a1 h0) Qt k
def Qc2 (r : (Bool × Qg)) : AV × Heap := (xo r.1, [(1, .box [0, 0, 0, 0, 0, 5] [xi r.2.x.Line, xs r.2.x.Label, xi r.2.x.Kind, xi r.2.x.Op, xs r.2.x.Text, .arr 3]), (3, .arr true 5 (Qj r.2.x.Args))])
abbrev QeV := (List ByteArray) → Qg → (List Nat) → Option (Bool × Qg)
structure UA where
 x0 : (List ByteArray)
 x5 : Bool
 x6 : Int
 h1 : Qg
 r4 : (List Nat)
structure VQ where
 x5 : Bool
 h1 : Qg
def ZF (a : UA) : St := { n := 31, nx := 5, env := [(0, .sl (Qh a.x0)), (1, .arr 4), (5, xo a.x5), (6, xi a.x6)], heap := [(1, .box [0, 0, 0, 0, 0, 5] [xi a.h1.x.Line, xs a.h1.x.Label, xi a.h1.x.Kind, xi a.h1.x.Op, xs a.h1.x.Text, .arr 3]), (3, .arr true 5 (Qj a.h1.x.Args)), (4, .fs (some 1) (Ub a.r4))] }
def Eb (a : VQ) : Ex × St := (.exit 0, { n := 31, nx := 4, env := [(5, xo a.x5)], heap := [(1, .box [0, 0, 0, 0, 0, 5] [xi a.h1.x.Line, xs a.h1.x.Label, xi a.h1.x.Kind, xi a.h1.x.Op, xs a.h1.x.Text, .arr 3]), (3, .arr true 5 (Qj a.h1.x.Args))] })
abbrev QeW := UA → Option VQ
def Xk (C0 : PJ) (C1 : Sn) (C2 : EA) (a : UA) : Option (UA ⊕ VQ) := (bif (decide (a.x6 < (((a.r4.length) : Nat) : Int))) then (bif a.x5 then (bif (decide (0 ≤ a.x6 ∧ a.x6 < ((a.r4.length : Nat) : Int))) then ((a.r4[(Int.toNat a.x6)]?).bind fun e1 => (bif (decide (e1 = 129)) then (bif (decide (0 ≤ a.x6)) then ((a.x0[(Int.toNat a.x6)]?).bind fun e2 => ((C0 e2 a.h1).bind fun r3 => (some (.inl (UA.mk a.x0 r3.1 (w64 (a.x6 + 1)) r3.2 a.r4))))) else none) else (bif (decide (e1 = 131)) then (bif (decide (0 ≤ a.x6)) then ((a.x0[(Int.toNat a.x6)]?).bind fun e4 => ((C1 e4 a.h1).bind fun r5 => (some (.inl (UA.mk a.x0 r5.1 (w64 (a.x6 + 1)) r5.2 a.r4))))) else none) else (bif (decide (e1 = 178)) then (bif (decide (0 ≤ a.x6)) then ((a.x0[(Int.toNat a.x6)]?).bind fun e6 => ((C2 e6 a.h1).bind fun r7 => (some (.inl (UA.mk a.x0 r7.1 (w64 (a.x6 + 1)) r7.2 a.r4))))) else none) else none)))) else none) else (some (.inr (VQ.mk a.x5 a.h1)))) else (some (.inr (VQ.mk a.x5 a.h1))))
noncomputable def J4 : QeW := loopW (Xk Vn VG UO)
theorem J4.eq (a : UA) : J4 a = (Xk Vn VG UO a).bind (Sum.elim J4 some) := JD _ _
noncomputable abbrev QjU {ρ R : Type} (a : UA) (k0 : VQ → Tr ρ R) : Tr ρ R := .loop (loopAt pp 127 3) (ZF a) (J4 a) Eb k0
noncomputable def QjV (a : UA) : Tr (UA ⊕ VQ) XS := (.num ((Ub a.r4).length) (a.r4.length) (let u66 := (decide (a.x6 < (((a.r4.length) : Nat) : Int))); .as u66 (.yes u66 (.as a.x5 (.ask (in1 a.x6 (((Ub a.r4).length : Nat) : Int)) (in1 a.x6 ((a.r4.length : Nat) : Int)) (.row ((Ub a.r4)[(Int.toNat a.x6)]?) (a.r4[(Int.toNat a.x6)]?) Qer fun (e1 : Nat) => (.as (decide (e1 = 129)) (.as (decide (0 ≤ a.x6)) (.row ((Qh a.x0)[(Int.toNat a.x6)]?) (a.x0[(Int.toNat a.x6)]?) Q8 fun (e2 : ByteArray) => (QdR e2 a.h1 fun r3 => (lf ZF (UA.mk a.x0 r3.1 (w64 (a.x6 + 1)) r3.2 a.r4)))) .fail) (.as (decide (e1 = 131)) (.as (decide (0 ≤ a.x6)) (.row ((Qh a.x0)[(Int.toNat a.x6)]?) (a.x0[(Int.toNat a.x6)]?) Q8 fun (e4 : ByteArray) => (QeU e4 a.h1 fun r5 => (lf ZF (UA.mk a.x0 r5.1 (w64 (a.x6 + 1)) r5.2 a.r4)))) .fail) (.as (decide (e1 = 178)) (.as (decide (0 ≤ a.x6)) (.row ((Qh a.x0)[(Int.toNat a.x6)]?) (a.x0[(Int.toNat a.x6)]?) Q8 fun (e6 : ByteArray) => (QbJ e6 a.h1 fun r7 => (lf ZF (UA.mk a.x0 r7.1 (w64 (a.x6 + 1)) r7.2 a.r4)))) .fail) .fail)))) .fail) (rx Eb (VQ.mk a.x5 a.h1)))) (.no u66 (.no false (rx Eb (VQ.mk a.x5 a.h1))))))
theorem J4.ok {a : UA} {r : VQ} (h : J4 a = some r) : lw 3 127 (loopAt pp 127 3) (ZF a) = some (Eb r) := by
 refine lpP h QjV fun a => ?_
 exact ⟨(XT _), ⟨rfl, fun q0 => ⟨q0, ⟨rfl, fun q1 => ⟨(by rw [XT]), fun q2 => fun e1 h => ⟨Qnn h, ⟨rfl, fun q3 => ⟨rfl, fun q4 => fun e2 h => ⟨Q3 h, fun r3 h => ⟨Vn.ok h, rfl⟩⟩, fun q4 => trivial⟩, fun q3 => ⟨rfl, fun q4 => ⟨rfl, fun q5 => fun e4 h => ⟨Q3 h, fun r5 h => ⟨VG.ok h, rfl⟩⟩, fun q5 => trivial⟩, fun q4 => ⟨rfl, fun q5 => ⟨rfl, fun q6 => fun e6 h => ⟨Q3 h, fun r7 h => ⟨UO.ok h, rfl⟩⟩, fun q6 => trivial⟩, fun q5 => trivial⟩⟩⟩⟩, fun q2 => trivial⟩, fun q1 => rfl⟩⟩, fun q0 => ⟨q0, ⟨rfl, rfl⟩⟩⟩⟩
def SA (L0 : QeW) (a0 : (List ByteArray)) (h1 : Qg) (r0 : (List Nat)) : Option (Bool × Qg) := ((L0 (UA.mk a0 ((((a0.length) : Nat) : Int) == (((r0.length) : Nat) : Int)) (0 : Int) h1 r0)).bind (fun (o1 : VQ) => (some (o1.x5, o1.h1))))
noncomputable def U6 : QeV := SA J4
theorem U6.eq (a0 : (List ByteArray)) (h1 : Qg) (r0 : (List Nat)) : U6 a0 h1 r0 = SA J4 a0 h1 r0 := rfl
noncomputable def Qnv (a0 : (List ByteArray)) (h1 : Qg) (r0 : (List Nat)) : Tr (Bool × Qg) AH := (.num ((Qh a0).length) (a0.length) (.num ((Ub r0).length) (r0.length) (QjU (UA.mk a0 ((((a0.length) : Nat) : Int) == (((r0.length) : Nat) : Int)) i0 h1 r0) (fun o1 => (rt Qc2 (o1.x5, o1.h1))))))
theorem U6.ok {a0 : (List ByteArray)} {h1 : Qg} {r0 : (List Nat)} {r : (Bool × Qg)} (h : U6 a0 h1 r0 = some r) : ww 127 [.sl (Qh a0), .arr 0] [(0, .fs (some 1) (Ub r0)), (1, .box [0, 0, 0, 0, 0, 5] [xi h1.x.Line, xs h1.x.Label, xi h1.x.Kind, xi h1.x.Op, xs h1.x.Text, .arr 2]), (2, .arr true 5 (Qj h1.x.Args))] = some (Qc2 r) := by
 refine fnP (Qnv a0 h1 r0) ?_ h
 exact ⟨(QD _), ⟨(XT _), fun o1 h => ⟨J4.ok h, rfl⟩⟩⟩
noncomputable abbrev YS {ρ R : Type} (a0 : (List ByteArray)) (h1 : Qg) (r0 : (List Nat)) (k : (Bool × Qg) → Tr ρ R) : Tr ρ R := .call (ww 127 [.sl (Qh a0), .arr 0] [(0, .fs (some 1) (Ub r0)), (1, .box [0, 0, 0, 0, 0, 5] [xi h1.x.Line, xs h1.x.Label, xi h1.x.Kind, xi h1.x.Op, xs h1.x.Text, .arr 2]), (2, .arr true 5 (Qj h1.x.Args))]) (U6 a0 h1 r0) Qc2 k
abbrev Gm := (List ByteArray) → Qg → Option (Bool × Qg)
structure QU where
 x1 : (List ByteArray)
 x14 : (List ByteArray)
 x15 : Int
 x16 : Int
 h0 : Qg
 r3 : (List Nat)
structure JI where
 x1 : (List ByteArray)
 h0 : Qg
 r3 : (List Nat)
def WF (a : QU) : St := { n := 38, nx := 4, env := [(0, .ptr 0 0), (1, .sl (Qh a.x1)), (5, .arr 3), (14, .sl (Qh a.x14)), (15, xi a.x15), (16, xi a.x16)], heap := [(0, .box [0, 0, 0, 0, 0, 5] [xi a.h0.x.Line, xs a.h0.x.Label, xi a.h0.x.Kind, xi a.h0.x.Op, xs a.h0.x.Text, .arr 2]), (2, .arr true 5 (Qj a.h0.x.Args)), (3, .fs (some 0) (Ub a.r3))] }
def Xx (a : JI) : Ex × St := (.exit 0, { n := 38, nx := 4, env := [(1, .sl (Qh a.x1)), (5, .arr 3)], heap := [(0, .box [0, 0, 0, 0, 0, 5] [xi a.h0.x.Line, xs a.h0.x.Label, xi a.h0.x.Kind, xi a.h0.x.Op, xs a.h0.x.Text, .arr 2]), (2, .arr true 5 (Qj a.h0.x.Args)), (3, .fs (some 0) (Ub a.r3))] })
abbrev Zu := QU → Option JI
def WG (C0 : QfM) (a : QU) : Option (QU ⊕ JI) := (bif (decide (a.x16 < a.x15)) then (bif (decide (0 ≤ a.x16)) then ((a.x14[(Int.toNat a.x16)]?).bind fun e1 => (bif (decide (((h_20.size + e1.size : Nat) : Int) ≤ IntKind.i64.max)) then (bif (decide ((((h_20 ++ e1).size + h_20.size : Nat) : Int) ≤ IntKind.i64.max)) then ((C0 US ((h_20 ++ e1) ++ h_20)).bind fun r2 => (bif r2 then (bif (decide ((a.r3.length + [178].length) * 8 ≤ most)) then (some (.inl (QU.mk a.x1 a.x14 a.x15 (w64 (a.x16 + 1)) a.h0 (a.r3 ++ [178])))) else none) else (bif (decide ((a.r3.length + [129].length) * 8 ≤ most)) then (some (.inl (QU.mk a.x1 a.x14 a.x15 (w64 (a.x16 + 1)) a.h0 (a.r3 ++ [129])))) else none))) else none) else none)) else none) else (some (.inr (JI.mk a.x1 a.h0 a.r3))))
noncomputable def Q0 : Zu := loopW (WG WZ)
theorem Q0.eq (a : QU) : Q0 a = (WG WZ a).bind (Sum.elim Q0 some) := JD _ _
noncomputable abbrev FV {ρ R : Type} (a : QU) (k0 : JI → Tr ρ R) : Tr ρ R := .loop (loopAt pp 125 3) (WF a) (Q0 a) Xx k0
noncomputable def FW (a : QU) : Tr (QU ⊕ JI) XS := (.as (decide (a.x16 < a.x15)) (.as (decide (0 ≤ a.x16)) (.row ((Qh a.x14)[(Int.toNat a.x16)]?) (a.x14[(Int.toNat a.x16)]?) Q8 fun (e1 : ByteArray) => (.as (decide (((h_20.size + e1.size : Nat) : Int) ≤ IntKind.i64.max)) (.as (decide ((((h_20 ++ e1).size + h_20.size : Nat) : Int) ≤ IntKind.i64.max)) (QeJ US ((h_20 ++ e1) ++ h_20) fun r2 => (.as r2 (.rows [[.fn (.func 178) [] []]] (Ub [178]) (.yes (decide ((Ub [178]).all (fun r => r.length == 1) = true)) (.ask (decide (((Ub a.r3).length + (Ub [178]).length) * 8 ≤ most)) (decide ((a.r3.length + [178].length) * 8 ≤ most)) (.rows ((Ub a.r3) ++ (Ub [178])) (Ub (a.r3 ++ [178])) (lf WF (QU.mk a.x1 a.x14 a.x15 (w64 (a.x16 + 1)) a.h0 (a.r3 ++ [178])))) .fail))) (.rows [[.fn (.func 129) [] []]] (Ub [129]) (.yes (decide ((Ub [129]).all (fun r => r.length == 1) = true)) (.ask (decide (((Ub a.r3).length + (Ub [129]).length) * 8 ≤ most)) (decide ((a.r3.length + [129].length) * 8 ≤ most)) (.rows ((Ub a.r3) ++ (Ub [129])) (Ub (a.r3 ++ [129])) (lf WF (QU.mk a.x1 a.x14 a.x15 (w64 (a.x16 + 1)) a.h0 (a.r3 ++ [129])))) .fail))))) .fail) .fail)) .fail) (rx Xx (JI.mk a.x1 a.h0 a.r3)))
theorem Q0.ok {a : QU} {r : JI} (h : Q0 a = some r) : lw 2 125 (loopAt pp 125 3) (WF a) = some (Xx r) := by
 refine lpP h FW fun a => ?_
 exact ⟨rfl, fun q0 => ⟨rfl, fun q1 => fun e1 h => ⟨Q3 h, ⟨rfl, fun q2 => ⟨rfl, fun q3 => fun r2 h => ⟨WZ.ok h, ⟨rfl, fun q4 => ⟨(YN [178]), ⟨(decide_eq_true (QcP _)), ⟨(by rw [XT, XT]), fun q5 => ⟨(P6 _ _), rfl⟩, fun q5 => trivial⟩⟩⟩, fun q4 => ⟨(YN [129]), ⟨(decide_eq_true (QcP _)), ⟨(by rw [XT, XT]), fun q5 => ⟨(P6 _ _), rfl⟩, fun q5 => trivial⟩⟩⟩⟩⟩, fun q3 => trivial⟩, fun q2 => trivial⟩⟩, fun q1 => trivial⟩, fun q0 => rfl⟩
def XZ (C0 : QhF) (C1 : QhG) (C2 : QeV) (L3 : Zu) (a1 : (List ByteArray)) (h0 : Qg) : Option (Bool × Qg) := ((C0 h0.x.Op).bind fun r1 => ((C1 r1).bind fun r2 => ((L3 (QU.mk a1 r2 (((r2.length) : Nat) : Int) (0 : Int) h0 ([] : List Nat))).bind (fun (o3 : JI) => ((C2 o3.x1 o3.h0 o3.r3).bind fun r4 => (some (r4.1, r4.2)))))))
noncomputable def Ua : Gm := XZ WL Xw U6 Q0
theorem Ua.eq (a1 : (List ByteArray)) (h0 : Qg) : Ua a1 h0 = XZ WL Xw U6 Q0 a1 h0 := rfl
noncomputable def SB (a1 : (List ByteArray)) (h0 : Qg) : Tr (Bool × Qg) AH := (Ql3 h0.x.Op fun r1 => (QgL r1 fun r2 => (.num ((Qh r2).length) (r2.length) (FV (QU.mk a1 r2 (((r2.length) : Nat) : Int) i0 h0 ([] : List Nat)) (fun o3 => (YS o3.x1 o3.h0 o3.r3 fun r4 => (rt Qt (r4.1, r4.2))))))))
theorem Ua.ok {a1 : (List ByteArray)} {h0 : Qg} {r : (Bool × Qg)} (h : Ua a1 h0 = some r) : ww 125 [.ptr 0 0, .sl (Qh a1)] [(0, .box [0, 0, 0, 0, 0, 5] [xi h0.x.Line, xs h0.x.Label, xi h0.x.Kind, xi h0.x.Op, xs h0.x.Text, .arr 1]), (1, .arr true 5 (Qj h0.x.Args))] = some (Qt r) := by
 refine fnP (SB a1 h0) ?_ h
 exact fun r1 h => ⟨WL.ok h, fun r2 h => ⟨Xw.ok h, ⟨(QD _), fun o3 h => ⟨Q0.ok h, fun r4 h => ⟨U6.ok h, rfl⟩⟩⟩⟩⟩
noncomputable abbrev SC {ρ R : Type} (a1 : (List ByteArray)) (h0 : Qg) (k : (Bool × Qg) → Tr ρ R) : Tr ρ R := .call (ww 125 [.ptr 0 0, .sl (Qh a1)] [(0, .box [0, 0, 0, 0, 0, 5] [xi h0.x.Line, xs h0.x.Label, xi h0.x.Kind, xi h0.x.Op, xs h0.x.Text, .arr 1]), (1, .arr true 5 (Qj h0.x.Args))]) (Ua a1 h0) Qt k
abbrev Qgn := Option (List ByteArray)
def QeX : Option (List ByteArray) := (some [s_b, s_bl, s_bc])
noncomputable def XG : Qgn := QeX
theorem XG.eq : XG = QeX := rfl
noncomputable def Qk3 : Tr (List ByteArray) AH := (.rows [[xs s_b], [xs s_bl], [xs s_bc]] (Qh [s_b, s_bl, s_bc]) (rt Jp [s_b, s_bl, s_bc]))
theorem XG.ok {r : (List ByteArray)} (h : XG = some r) : ww 111 [] [] = some (Jp r) := by
 refine fnP (Qk3) ?_ h
 exact ⟨(Q9 [s_b, s_bl, s_bc]), rfl⟩
noncomputable abbrev Qk4 {ρ R : Type} (k : (List ByteArray) → Tr ρ R) : Tr ρ R := .call (ww 111 [] []) (XG) Jp k
abbrev Qdu := (List ByteArray) → ByteArray → Option Int
structure Uw where
 x0 : (List ByteArray)
 x1 : ByteArray
 x7 : Int
 x8 : Int
def GL (a : Uw) : St := { n := 19, nx := 0, env := [(0, .sl (Qh a.x0)), (1, xs a.x1), (7, xi a.x7), (8, xi a.x8)], heap := [] }
def PK (a : Int) : Ex × St := (.ret, { n := 19, nx := 0, env := [(4, xi a)], heap := [] })
def PM (a : Unit) : Ex × St := (.exit 0, { n := 19, nx := 0, env := [], heap := [] })
def GM (a : (Int ⊕ Unit)) : Ex × St := Sum.elim PK PM a
abbrev QaF := Uw → Option (Int ⊕ Unit)
def Za (a : Uw) : Option (Uw ⊕ (Int ⊕ Unit)) := (bif (decide (a.x8 < a.x7)) then (bif (decide (0 ≤ a.x8)) then ((a.x0[(Int.toNat a.x8)]?).bind fun e1 => (bif (eqS a.x1 e1) then (some (.inr (.inl a.x8))) else (some (.inl (Uw.mk a.x0 a.x1 a.x7 (w64 (a.x8 + 1))))))) else none) else (some (.inr (.inr ()))))
noncomputable def Q7 : QaF := loopW (Za )
theorem Q7.eq (a : Uw) : Q7 a = (Za a).bind (Sum.elim Q7 some) := JD _ _
noncomputable abbrev QfQ {ρ R : Type} (a : Uw) (k0 : Int → Tr ρ R) (k1 : Unit → Tr ρ R) : Tr ρ R := .loop2 (loopAt pp 126 2) (GL a) (Q7 a) PK PM k0 k1
noncomputable def QfR (a : Uw) : Tr (Uw ⊕ (Int ⊕ Unit)) XS := (.as (decide (a.x8 < a.x7)) (.as (decide (0 ≤ a.x8)) (.row ((Qh a.x0)[(Int.toNat a.x8)]?) (a.x0[(Int.toNat a.x8)]?) Q8 fun (e1 : ByteArray) => (.as (eqS a.x1 e1) (rx GM (.inl a.x8)) (lf GL (Uw.mk a.x0 a.x1 a.x7 (w64 (a.x8 + 1)))))) .fail) (rx GM (.inr ())))
theorem Q7.ok {a : Uw} {r : (Int ⊕ Unit)} (h : Q7 a = some r) : lw 0 126 (loopAt pp 126 2) (GL a) = some (GM r) := by
 refine lpP h QfR fun a => ?_
 exact ⟨rfl, fun q0 => ⟨rfl, fun q1 => fun e1 h => ⟨Q3 h, ⟨rfl, fun q2 => rfl, fun q2 => rfl⟩⟩, fun q1 => trivial⟩, fun q0 => rfl⟩
def GA (L0 : QaF) (a0 : (List ByteArray)) (a1 : ByteArray) : Option Int := ((L0 (Uw.mk a0 a1 (((a0.length) : Nat) : Int) (0 : Int))).bind fun x => Sum.elim (fun (o1 : Int) => (some o1)) (fun (o2 : Unit) => (some (-1 : Int))) x)
noncomputable def UU : Qdu := GA Q7
theorem UU.eq (a0 : (List ByteArray)) (a1 : ByteArray) : UU a0 a1 = GA Q7 a0 a1 := rfl
noncomputable def Qiy (a0 : (List ByteArray)) (a1 : ByteArray) : Tr Int AH := (.num ((Qh a0).length) (a0.length) (QfQ (Uw.mk a0 a1 (((a0.length) : Nat) : Int) i0) (fun o1 => (rt Qq o1)) (fun o2 => (rt Qq (-1 : Int)))))
theorem UU.ok {a0 : (List ByteArray)} {a1 : ByteArray} {r : Int} (h : UU a0 a1 = some r) : ww 126 [.sl (Qh a0), xs a1] [] = some (Qq r) := by
 refine fnP (Qiy a0 a1) ?_ h
 exact ⟨(QD _), ⟨fun o1 h => ⟨Q7.ok (r := (.inl _)) h, rfl⟩, fun o2 h => ⟨Q7.ok (r := (.inr _)) h, rfl⟩⟩⟩
noncomputable abbrev Yb {ρ R : Type} (a0 : (List ByteArray)) (a1 : ByteArray) (k : Int → Tr ρ R) : Tr ρ R := .call (ww 126 [.sl (Qh a0), xs a1] []) (UU a0 a1) Qq k
def QbK (r : (Qg × (List Nat))) : AV × Heap := (.arr 3, [(0, .box [0, 0, 0, 0, 0, 5] [xi r.1.x.Line, xs r.1.x.Label, xi r.1.x.Kind, xi r.1.x.Op, xs r.1.x.Text, .arr 2]), (2, .arr true 5 (Qj r.1.x.Args)), (3, .fs (some 0) (Ub r.2))])
abbrev QhJ := Int → Qg → Option (Qg × (List Nat))
structure Vb where
 x6 : Int
 x7 : Int
 h0 : Qg
 r3 : (List Nat)
structure Wq where
 h0 : Qg
 r3 : (List Nat)
def FX (a : Vb) : St := { n := 15, nx := 4, env := [(0, .fn (.func 129) [.ptr 0 0] []), (5, .arr 3), (6, xi a.x6), (7, xi a.x7)], heap := [(0, .box [0, 0, 0, 0, 0, 5] [xi a.h0.x.Line, xs a.h0.x.Label, xi a.h0.x.Kind, xi a.h0.x.Op, xs a.h0.x.Text, .arr 2]), (2, .arr true 5 (Qj a.h0.x.Args)), (3, .fs (some 0) (Ub a.r3))] }
def FY (a : Wq) : Ex × St := (.exit 0, { n := 15, nx := 4, env := [(5, .arr 3)], heap := [(0, .box [0, 0, 0, 0, 0, 5] [xi a.h0.x.Line, xs a.h0.x.Label, xi a.h0.x.Kind, xi a.h0.x.Op, xs a.h0.x.Text, .arr 2]), (2, .arr true 5 (Qj a.h0.x.Args)), (3, .fs (some 0) (Ub a.r3))] })
abbrev Qdv := Vb → Option Wq
def GB (a : Vb) : Option (Vb ⊕ Wq) := (bif (decide (a.x7 < a.x6)) then (bif (decide ((a.r3.length + [129].length) * 8 ≤ most)) then (some (.inl (Vb.mk a.x6 (w64 (a.x7 + 1)) a.h0 (a.r3 ++ [129])))) else none) else (some (.inr (Wq.mk a.h0 a.r3))))
noncomputable def VR : Qdv := loopW (GB )
theorem VR.eq (a : Vb) : VR a = (GB a).bind (Sum.elim VR some) := JD _ _
noncomputable abbrev Qiz {ρ R : Type} (a : Vb) (k0 : Wq → Tr ρ R) : Tr ρ R := .loop (loopAt pp 128 3) (FX a) (VR a) FY k0
noncomputable def QiA (a : Vb) : Tr (Vb ⊕ Wq) XS := (.as (decide (a.x7 < a.x6)) (.rows [[.fn (.func 129) [] []]] (Ub [129]) (.yes (decide ((Ub [129]).all (fun r => r.length == 1) = true)) (.ask (decide (((Ub a.r3).length + (Ub [129]).length) * 8 ≤ most)) (decide ((a.r3.length + [129].length) * 8 ≤ most)) (.rows ((Ub a.r3) ++ (Ub [129])) (Ub (a.r3 ++ [129])) (lf FX (Vb.mk a.x6 (w64 (a.x7 + 1)) a.h0 (a.r3 ++ [129])))) .fail))) (rx FY (Wq.mk a.h0 a.r3)))
theorem VR.ok {a : Vb} {r : Wq} (h : VR a = some r) : lw 2 128 (loopAt pp 128 3) (FX a) = some (FY r) := by
 refine lpP h QiA fun a => ?_
 exact ⟨rfl, fun q0 => ⟨(YN [129]), ⟨(decide_eq_true (QcP _)), ⟨(by rw [XT, XT]), fun q1 => ⟨(P6 _ _), rfl⟩, fun q1 => trivial⟩⟩⟩, fun q0 => rfl⟩
def QbL (L0 : Qdv) (a1 : Int) (h0 : Qg) : Option (Qg × (List Nat)) := ((L0 (Vb.mk a1 (0 : Int) h0 ([] : List Nat))).bind (fun (o1 : Wq) => (some (o1.h0, o1.r3))))
noncomputable def V1 : QhJ := QbL VR
theorem V1.eq (a1 : Int) (h0 : Qg) : V1 a1 h0 = QbL VR a1 h0 := rfl
noncomputable def Ql7 (a1 : Int) (h0 : Qg) : Tr (Qg × (List Nat)) AH := (Qiz (Vb.mk a1 i0 h0 ([] : List Nat)) (fun o1 => (rt QbK (o1.h0, o1.r3))))
theorem V1.ok {a1 : Int} {h0 : Qg} {r : (Qg × (List Nat))} (h : V1 a1 h0 = some r) : ww 128 [.fn (.func 129) [.ptr 0 0] [], xi a1] [(0, .box [0, 0, 0, 0, 0, 5] [xi h0.x.Line, xs h0.x.Label, xi h0.x.Kind, xi h0.x.Op, xs h0.x.Text, .arr 1]), (1, .arr true 5 (Qj h0.x.Args))] = some (QbK r) := by
 refine fnP (Ql7 a1 h0) ?_ h
 exact fun o1 h => ⟨VR.ok h, rfl⟩
noncomputable abbrev ZK {ρ R : Type} (a1 : Int) (h0 : Qg) (k : (Qg × (List Nat)) → Tr ρ R) : Tr ρ R := .call (ww 128 [.fn (.func 129) [.ptr 0 0] [], xi a1] [(0, .box [0, 0, 0, 0, 0, 5] [xi h0.x.Line, xs h0.x.Label, xi h0.x.Kind, xi h0.x.Op, xs h0.x.Text, .arr 1]), (1, .arr true 5 (Qj h0.x.Args))]) (V1 a1 h0) QbK k
abbrev Ff := Int → Option Bool
def Zp (a0 : Int) : Option Bool := (bif (decide (a0 ≥ 32)) then (bif (decide (a0 ≤ (126 : Int))) then (some (a0 != 34)) else (some false)) else (some false))
noncomputable def UZ : Ff := Zp
theorem UZ.eq (a0 : Int) : UZ a0 = Zp a0 := rfl
noncomputable def Qcq (a0 : Int) : Tr Bool AH := (let u68 := (decide (a0 ≥ 32)); .as u68 (yesN 2 u68 (let u67 := (decide (a0 ≤ (zi 126))); .as u67 (yesN 2 u67 (rt Ql (a0 != 34))) (noN 2 u67 (rt Ql false)))) (noN 2 u68 (noN 3 false (rt Ql false))))
theorem UZ.ok {a0 : Int} {r : Bool} (h : UZ a0 = some r) : ww 180 [xb a0] [] = some (Ql r) := by
 refine fnP (Qcq a0) ?_ h
 exact ⟨rfl, fun q0 => Qk 2 (q0) (⟨rfl, fun q1 => Qk 2 (q1) (rfl), fun q1 => noN_ok 2 (q1) (rfl)⟩), fun q0 => noN_ok 2 (q0) (noN_ok 3 (rfl) (rfl))⟩
noncomputable abbrev Qcr {ρ R : Type} (a0 : Int) (k : Bool → Tr ρ R) : Tr ρ R := .call (ww 180 [xb a0] []) (UZ a0) Ql k
abbrev Qdw := ByteArray → Option Int
structure Ux where
 x0 : ByteArray
 x5 : Int
def GN (a : Ux) : St := { n := 20, nx := 0, env := [(0, xs a.x0), (1, .fn (.func 180) [] []), (5, xi a.x5)], heap := [] }
def Zb (a : Int) : Ex × St := (.exit 0, { n := 20, nx := 0, env := [(5, xi a)], heap := [] })
abbrev QaG := Ux → Option Int
def GO (C0 : Ff) (a : Ux) : Option (Ux ⊕ Int) := (bif (decide (a.x5 < ((a.x0.size : Nat) : Int))) then (bif (decide (0 ≤ a.x5 ∧ a.x5 < ((a.x0.size : Nat) : Int))) then ((C0 ((a.x0.data.getD (Int.toNat a.x5) 0).toNat : Int)).bind fun r1 => (bif r1 then (some (.inl (Ux.mk a.x0 (w64 (a.x5 + 1))))) else (some (.inr a.x5)))) else none) else (some (.inr a.x5)))
noncomputable def VX : QaG := loopW (GO UZ)
theorem VX.eq (a : Ux) : VX a = (GO UZ a).bind (Sum.elim VX some) := JD _ _
noncomputable abbrev QfS {ρ R : Type} (a : Ux) (k0 : Int → Tr ρ R) : Tr ρ R := .loop (loopAt pp 72 2) (GN a) (VX a) Zb k0
noncomputable def QfT (a : Ux) : Tr (Ux ⊕ Int) XS := (let u69 := (decide (a.x5 < (zz a.x0))); .as u69 (yesN 3 u69 (.as (in1 a.x5 (zz a.x0)) (.yes u69 (Qcr (gb a.x0 a.x5) fun r1 => (.yes u69 (.as r1 (lf GN (Ux.mk a.x0 (w64 (a.x5 + 1)))) (rx Zb a.x5))))) .fail)) (noN 5 u69 (.no false (rx Zb a.x5))))
theorem VX.ok {a : Ux} {r : Int} (h : VX a = some r) : lw 0 72 (loopAt pp 72 2) (GN a) = some (Zb r) := by
 refine lpP h QfT fun a => ?_
 exact ⟨rfl, fun q0 => Qk 3 (q0) (⟨rfl, fun q1 => ⟨q0, fun r1 h => ⟨UZ.ok h, ⟨q0, ⟨rfl, fun q2 => rfl, fun q2 => rfl⟩⟩⟩⟩, fun q1 => trivial⟩), fun q0 => noN_ok 5 (q0) (⟨rfl, rfl⟩)⟩
def FZ (L0 : QaG) (a0 : ByteArray) : Option Int := ((L0 (Ux.mk a0 (0 : Int))).bind (fun (o1 : Int) => (some o1)))
noncomputable def WV : Qdw := FZ VX
theorem WV.eq (a0 : ByteArray) : WV a0 = FZ VX a0 := rfl
noncomputable def QiB (a0 : ByteArray) : Tr Int AH := (QfS (Ux.mk a0 i0) (fun o1 => (rt Qq o1)))
theorem WV.ok {a0 : ByteArray} {r : Int} (h : WV a0 = some r) : ww 72 [xs a0, .fn (.func 180) [] []] [] = some (Qq r) := by
 refine fnP (QiB a0) ?_ h
 exact fun o1 h => ⟨VX.ok h, rfl⟩
noncomputable abbrev QiC {ρ R : Type} (a0 : ByteArray) (k : Int → Tr ρ R) : Tr ρ R := .call (ww 72 [xs a0, .fn (.func 180) [] []] []) (WV a0) Qq k
abbrev PN := ByteArray → Qg → Option (Bool × Qg)
def ZQ (C0 : Qdw) (a1 : ByteArray) (h0 : Qg) : Option (Bool × Qg) := (bif (decide (((a1.size : Nat) : Int) < 2)) then (some (false, h0)) else (bif (decide (((a1.size : Nat) : Int) > 62)) then (some (false, h0)) else (bif (decide (0 ≤ (0 : Int) ∧ (0 : Int) < ((a1.size : Nat) : Int))) then (bif (((a1.data.getD (Int.toNat 0) 0).toNat : Int) != 34) then (some (false, h0)) else (bif (decide (0 ≤ (w64 (((a1.size : Nat) : Int) - 1)) ∧ (w64 (((a1.size : Nat) : Int) - 1)) < ((a1.size : Nat) : Int))) then (bif (((a1.data.getD (Int.toNat (w64 (((a1.size : Nat) : Int) - 1))) 0).toNat : Int) != 34) then (some (false, h0)) else (bif (decide (0 ≤ (1 : Int) ∧ (1 : Int) ≤ (w64 (((a1.size : Nat) : Int) - 1)) ∧ (w64 (((a1.size : Nat) : Int) - 1)) ≤ ((a1.size : Nat) : Int))) then ((C0 (a1.extract (Int.toNat 1) (Int.toNat (w64 (((a1.size : Nat) : Int) - 1))))).bind fun r1 => (some ((r1 == (((a1.extract (Int.toNat 1) (Int.toNat (w64 (((a1.size : Nat) : Int) - 1)))).size : Nat) : Int)), (Qg.mk (Qf.mk h0.x.Line h0.x.Label h0.x.Kind h0.x.Op (a1.extract (Int.toNat 1) (Int.toNat (w64 (((a1.size : Nat) : Int) - 1)))) h0.x.Args))))) else none)) else none)) else none)))
noncomputable def Vo : PN := ZQ WV
theorem Vo.eq (a1 : ByteArray) (h0 : Qg) : Vo a1 h0 = ZQ WV a1 h0 := rfl
noncomputable def QdS (a1 : ByteArray) (h0 : Qg) : Tr (Bool × Qg) AH := (let u72 := (decide ((zz a1) < 2)); .as u72 (yesN 3 u72 (yesN 12 true (rt Qt (false, h0)))) (noN 3 u72 (let u71 := (decide ((zz a1) > 62)); .as u71 (yesN 3 u71 (yesN 8 true (rt Qt (false, h0)))) (.no u71 (.as (in1 i0 (zz a1)) (noN 2 u71 (let u70 := ((gb a1 i0) != 34); .as u70 (yesN 6 u70 (.yes true (rt Qt (false, h0)))) (noN 4 u70 (.as (in1 (w64 ((zz a1) - 1)) (zz a1)) (noN 2 u70 (.as ((gb a1 (w64 ((zz a1) - 1))) != 34) (rt Qt (false, h0)) (.as (in2 (zi 1) (w64 ((zz a1) - 1)) (zz a1)) (QiC (cu a1 (zi 1) (w64 ((zz a1) - 1))) fun r1 => (rt Qt ((r1 == (zz (cu a1 (zi 1) (w64 ((zz a1) - 1))))), (Qg.mk (Qf.mk h0.x.Line h0.x.Label h0.x.Kind h0.x.Op (cu a1 (zi 1) (w64 ((zz a1) - 1))) h0.x.Args))))) .fail))) .fail)))) .fail)))))
theorem Vo.ok {a1 : ByteArray} {h0 : Qg} {r : (Bool × Qg)} (h : Vo a1 h0 = some r) : ww 130 [.ptr 0 0, xs a1] [(0, .box [0, 0, 0, 0, 0, 5] [xi h0.x.Line, xs h0.x.Label, xi h0.x.Kind, xi h0.x.Op, xs h0.x.Text, .arr 1]), (1, .arr true 5 (Qj h0.x.Args))] = some (Qt r) := by
 refine fnP (QdS a1 h0) ?_ h
 exact ⟨rfl, fun q0 => Qk 3 (q0) (Qk 12 (rfl) (rfl)), fun q0 => noN_ok 3 (q0) (⟨rfl, fun q1 => Qk 3 (q1) (Qk 8 (rfl) (rfl)), fun q1 => ⟨q1, ⟨rfl, fun q2 => noN_ok 2 (q1) (⟨rfl, fun q3 => Qk 6 (q3) (⟨rfl, rfl⟩), fun q3 => noN_ok 4 (q3) (⟨rfl, fun q4 => noN_ok 2 (q3) (⟨rfl, fun q5 => rfl, fun q5 => ⟨rfl, fun q6 => fun r1 h => ⟨WV.ok h, rfl⟩, fun q6 => trivial⟩⟩), fun q4 => trivial⟩)⟩), fun q2 => trivial⟩⟩⟩)⟩
noncomputable abbrev QdT {ρ R : Type} (a1 : ByteArray) (h0 : Qg) (k : (Bool × Qg) → Tr ρ R) : Tr ρ R := .call (ww 130 [.ptr 0 0, xs a1] [(0, .box [0, 0, 0, 0, 0, 5] [xi h0.x.Line, xs h0.x.Label, xi h0.x.Kind, xi h0.x.Op, xs h0.x.Text, .arr 1]), (1, .arr true 5 (Qj h0.x.Args))]) (Vo a1 h0) Qt k
abbrev G2 := ByteArray → ByteArray → Qg → Option (Bool × Qg)
def YC (C0 : Qce) (C1 : Qje) (C2 : Gm) (C3 : Qgn) (C4 : Qdu) (C5 : QhJ) (C6 : QeV) (C7 : PN) (a1 : ByteArray) (a2 : ByteArray) (h0 : Qg) : Option (Bool × Qg) := ((C0 a2).bind fun r1 => ((C1 a1).bind fun r2 => (bif r2.2 then ((C2 r1 (Qg.mk (Qf.mk h0.x.Line h0.x.Label (1 : Int) r2.1 h0.x.Text h0.x.Args))).bind fun r3 => (some (r3.1, r3.2))) else ((C3).bind fun r4 => ((C4 r4 a1).bind fun r5 => (bif (decide (r5 ≥ 0)) then ((C5 (w64 ((1 : Int) + (w64 ((w64 (Int.tdiv r5 (2 : Int))) * (2 : Int))))) (Qg.mk (Qf.mk h0.x.Line h0.x.Label (2 : Int) r5 h0.x.Text h0.x.Args))).bind fun r6 => ((C6 r1 r6.1 r6.2).bind fun r7 => (some (r7.1, r7.2)))) else (bif (eqS a1 QP) then ((C4 [QP, QQ, QR] a1).bind fun r8 => (bif (decide ((((r1.length) : Nat) : Int) ≥ 1)) then (bif (decide ((((r1.length) : Nat) : Int) ≤ 16)) then ((C5 (((r1.length) : Nat) : Int) (Qg.mk (Qf.mk h0.x.Line h0.x.Label (w64 ((3 : Int) + r8)) h0.x.Op h0.x.Text h0.x.Args))).bind fun r9 => ((C6 r1 r9.1 r9.2).bind fun r10 => (some (r10.1, r10.2)))) else (some (false, (Qg.mk (Qf.mk h0.x.Line h0.x.Label (w64 ((3 : Int) + r8)) h0.x.Op h0.x.Text h0.x.Args))))) else (some (false, (Qg.mk (Qf.mk h0.x.Line h0.x.Label (w64 ((3 : Int) + r8)) h0.x.Op h0.x.Text h0.x.Args)))))) else (bif (eqS a1 QQ) then ((C4 [QP, QQ, QR] a1).bind fun r11 => (bif (decide ((((r1.length) : Nat) : Int) ≥ 1)) then (bif (decide ((((r1.length) : Nat) : Int) ≤ 16)) then ((C5 (((r1.length) : Nat) : Int) (Qg.mk (Qf.mk h0.x.Line h0.x.Label (w64 ((3 : Int) + r11)) h0.x.Op h0.x.Text h0.x.Args))).bind fun r12 => ((C6 r1 r12.1 r12.2).bind fun r13 => (some (r13.1, r13.2)))) else (some (false, (Qg.mk (Qf.mk h0.x.Line h0.x.Label (w64 ((3 : Int) + r11)) h0.x.Op h0.x.Text h0.x.Args))))) else (some (false, (Qg.mk (Qf.mk h0.x.Line h0.x.Label (w64 ((3 : Int) + r11)) h0.x.Op h0.x.Text h0.x.Args)))))) else (bif (eqS a1 QR) then ((C4 [QP, QQ, QR] a1).bind fun r14 => (bif (decide ((((r1.length) : Nat) : Int) ≥ 1)) then (bif (decide ((((r1.length) : Nat) : Int) ≤ 16)) then ((C5 (((r1.length) : Nat) : Int) (Qg.mk (Qf.mk h0.x.Line h0.x.Label (w64 ((3 : Int) + r14)) h0.x.Op h0.x.Text h0.x.Args))).bind fun r15 => ((C6 r1 r15.1 r15.2).bind fun r16 => (some (r16.1, r16.2)))) else (some (false, (Qg.mk (Qf.mk h0.x.Line h0.x.Label (w64 ((3 : Int) + r14)) h0.x.Op h0.x.Text h0.x.Args))))) else (some (false, (Qg.mk (Qf.mk h0.x.Line h0.x.Label (w64 ((3 : Int) + r14)) h0.x.Op h0.x.Text h0.x.Args)))))) else (bif (eqS a1 Jm) then ((C7 a2 (Qg.mk (Qf.mk h0.x.Line h0.x.Label (6 : Int) h0.x.Op h0.x.Text h0.x.Args))).bind fun r17 => (some (r17.1, r17.2))) else (bif (eqS a1 QN) then ((C4 [QN, QO] a1).bind fun r18 => ((C5 (1 : Int) (Qg.mk (Qf.mk h0.x.Line h0.x.Label (w64 ((7 : Int) + r18)) h0.x.Op h0.x.Text h0.x.Args))).bind fun r19 => ((C6 r1 r19.1 r19.2).bind fun r20 => (some (r20.1, r20.2))))) else (bif (eqS a1 QO) then ((C4 [QN, QO] a1).bind fun r21 => ((C5 (1 : Int) (Qg.mk (Qf.mk h0.x.Line h0.x.Label (w64 ((7 : Int) + r21)) h0.x.Op h0.x.Text h0.x.Args))).bind fun r22 => ((C6 r1 r22.1 r22.2).bind fun r23 => (some (r23.1, r23.2))))) else (bif (eqS a1 Uo) then ((C6 r1 (Qg.mk (Qf.mk h0.x.Line h0.x.Label (9 : Int) h0.x.Op h0.x.Text h0.x.Args)) [131, 129]).bind fun r24 => (some (r24.1, r24.2))) else (some (false, h0)))))))))))))))
noncomputable def JG : G2 := YC WA Xv Ua XG UU V1 U6 Vo
theorem JG.eq (a1 : ByteArray) (a2 : ByteArray) (h0 : Qg) : JG a1 a2 h0 = YC WA Xv Ua XG UU V1 U6 Vo a1 a2 h0 := rfl
noncomputable def Qa2 (a1 : ByteArray) (a2 : ByteArray) (h0 : Qg) : Tr (Bool × Qg) AH := (QhE a2 fun r1 => (Qns a1 fun r2 => (.as r2.2 (SC r1 (Qg.mk (Qf.mk h0.x.Line h0.x.Label (zi 1) r2.1 h0.x.Text h0.x.Args)) fun r3 => (rt Qt (r3.1, r3.2))) (Qk4 fun r4 => (Yb r4 a1 fun r5 => (.as (decide (r5 ≥ 0)) (.yes (decide ((zi 2) ≠ 0)) (ZK (w64 ((zi 1) + (w64 ((w64 (Int.tdiv r5 (zi 2))) * (zi 2))))) (Qg.mk (Qf.mk h0.x.Line h0.x.Label (zi 2) r5 h0.x.Text h0.x.Args)) fun r6 => (YS r1 r6.1 r6.2 fun r7 => (rt Qt (r7.1, r7.2))))) (let u81 := (eqS a1 QP); .as u81 (.yes u81 (.rows [[xs QP], [xs QQ], [xs QR]] (Qh [QP, QQ, QR]) (Yb [QP, QQ, QR] a1 fun r8 => (.num ((Qh r1).length) (r1.length) (let u74 := (decide ((((r1.length) : Nat) : Int) ≥ 1)); .as u74 (.yes u74 (.num ((Qh r1).length) (r1.length) (yesN 2 u74 (let u73 := (decide ((((r1.length) : Nat) : Int) ≤ 16)); .as u73 (yesN 4 u73 (.num ((Qh r1).length) (r1.length) (.yes u73 (ZK (((r1.length) : Nat) : Int) (Qg.mk (Qf.mk h0.x.Line h0.x.Label (w64 ((zi 3) + r8)) h0.x.Op h0.x.Text h0.x.Args)) fun r9 => (.yes u73 (YS r1 r9.1 r9.2 fun r10 => (.yes u73 (rt Qt (r10.1, r10.2))))))))) (noN 7 u73 (rt Qt (false, (Qg.mk (Qf.mk h0.x.Line h0.x.Label (w64 ((zi 3) + r8)) h0.x.Op h0.x.Text h0.x.Args))))))))) (noN 3 u74 (noN 8 false (rt Qt (false, (Qg.mk (Qf.mk h0.x.Line h0.x.Label (w64 ((zi 3) + r8)) h0.x.Op h0.x.Text h0.x.Args))))))))))) (let u80 := (eqS a1 QQ); .as u80 (.yes u80 (.rows [[xs QP], [xs QQ], [xs QR]] (Qh [QP, QQ, QR]) (Yb [QP, QQ, QR] a1 fun r11 => (.num ((Qh r1).length) (r1.length) (let u76 := (decide ((((r1.length) : Nat) : Int) ≥ 1)); .as u76 (.yes u76 (.num ((Qh r1).length) (r1.length) (yesN 2 u76 (let u75 := (decide ((((r1.length) : Nat) : Int) ≤ 16)); .as u75 (yesN 4 u75 (.num ((Qh r1).length) (r1.length) (.yes u75 (ZK (((r1.length) : Nat) : Int) (Qg.mk (Qf.mk h0.x.Line h0.x.Label (w64 ((zi 3) + r11)) h0.x.Op h0.x.Text h0.x.Args)) fun r12 => (.yes u75 (YS r1 r12.1 r12.2 fun r13 => (.yes u75 (rt Qt (r13.1, r13.2))))))))) (noN 7 u75 (rt Qt (false, (Qg.mk (Qf.mk h0.x.Line h0.x.Label (w64 ((zi 3) + r11)) h0.x.Op h0.x.Text h0.x.Args))))))))) (noN 3 u76 (noN 8 false (rt Qt (false, (Qg.mk (Qf.mk h0.x.Line h0.x.Label (w64 ((zi 3) + r11)) h0.x.Op h0.x.Text h0.x.Args))))))))))) (.as (eqS a1 QR) (.rows [[xs QP], [xs QQ], [xs QR]] (Qh [QP, QQ, QR]) (Yb [QP, QQ, QR] a1 fun r14 => (.num ((Qh r1).length) (r1.length) (let u78 := (decide ((((r1.length) : Nat) : Int) ≥ 1)); .as u78 (.yes u78 (.num ((Qh r1).length) (r1.length) (yesN 2 u78 (let u77 := (decide ((((r1.length) : Nat) : Int) ≤ 16)); .as u77 (yesN 4 u77 (.num ((Qh r1).length) (r1.length) (.yes u77 (ZK (((r1.length) : Nat) : Int) (Qg.mk (Qf.mk h0.x.Line h0.x.Label (w64 ((zi 3) + r14)) h0.x.Op h0.x.Text h0.x.Args)) fun r15 => (.yes u77 (YS r1 r15.1 r15.2 fun r16 => (.yes u77 (rt Qt (r16.1, r16.2))))))))) (noN 7 u77 (rt Qt (false, (Qg.mk (Qf.mk h0.x.Line h0.x.Label (w64 ((zi 3) + r14)) h0.x.Op h0.x.Text h0.x.Args))))))))) (noN 3 u78 (noN 8 false (rt Qt (false, (Qg.mk (Qf.mk h0.x.Line h0.x.Label (w64 ((zi 3) + r14)) h0.x.Op h0.x.Text h0.x.Args)))))))))) (.as (eqS a1 Jm) (QdT a2 (Qg.mk (Qf.mk h0.x.Line h0.x.Label (zi 6) h0.x.Op h0.x.Text h0.x.Args)) fun r17 => (rt Qt (r17.1, r17.2))) (let u79 := (eqS a1 QN); .as u79 (.yes u79 (.rows [[xs QN], [xs QO]] (Qh [QN, QO]) (Yb [QN, QO] a1 fun r18 => (ZK (zi 1) (Qg.mk (Qf.mk h0.x.Line h0.x.Label (w64 ((zi 7) + r18)) h0.x.Op h0.x.Text h0.x.Args)) fun r19 => (YS r1 r19.1 r19.2 fun r20 => (rt Qt (r20.1, r20.2))))))) (.as (eqS a1 QO) (.rows [[xs QN], [xs QO]] (Qh [QN, QO]) (Yb [QN, QO] a1 fun r21 => (ZK (zi 1) (Qg.mk (Qf.mk h0.x.Line h0.x.Label (w64 ((zi 7) + r21)) h0.x.Op h0.x.Text h0.x.Args)) fun r22 => (YS r1 r22.1 r22.2 fun r23 => (rt Qt (r23.1, r23.2)))))) (.as (eqS a1 Uo) (.rows [[.fn (.func 131) [] []], [.fn (.func 129) [] []]] (Ub [131, 129]) (YS r1 (Qg.mk (Qf.mk h0.x.Line h0.x.Label (zi 9) h0.x.Op h0.x.Text h0.x.Args)) [131, 129] fun r24 => (rt Qt (r24.1, r24.2)))) (rt Qt (false, h0)))))))))))))))
theorem JG.ok {a1 : ByteArray} {a2 : ByteArray} {h0 : Qg} {r : (Bool × Qg)} (h : JG a1 a2 h0 = some r) : ww 76 [.ptr 0 0, xs a1, xs a2] [(0, .box [0, 0, 0, 0, 0, 5] [xi h0.x.Line, xs h0.x.Label, xi h0.x.Kind, xi h0.x.Op, xs h0.x.Text, .arr 1]), (1, .arr true 5 (Qj h0.x.Args))] = some (Qt r) := by
 refine fnP (Qa2 a1 a2 h0) ?_ h
 exact fun r1 h => ⟨WA.ok h, fun r2 h => ⟨Xv.ok h, ⟨rfl, fun q0 => fun r3 h => ⟨Ua.ok h, rfl⟩, fun q0 => fun r4 h => ⟨XG.ok h, fun r5 h => ⟨UU.ok h, ⟨rfl, fun q1 => ⟨rfl, fun r6 h => ⟨V1.ok h, fun r7 h => ⟨U6.ok h, rfl⟩⟩⟩, fun q1 => ⟨rfl, fun q2 => ⟨q2, ⟨(Q9 [QP, QQ, QR]), fun r8 h => ⟨UU.ok h, ⟨(QD _), ⟨rfl, fun q3 => ⟨q3, ⟨(QD _), Qk 2 (q3) (⟨rfl, fun q4 => Qk 4 (q4) (⟨(QD _), ⟨q4, fun r9 h => ⟨V1.ok h, ⟨q4, fun r10 h => ⟨U6.ok h, ⟨q4, rfl⟩⟩⟩⟩⟩⟩), fun q4 => noN_ok 7 (q4) (rfl)⟩)⟩⟩, fun q3 => noN_ok 3 (q3) (noN_ok 8 (rfl) (rfl))⟩⟩⟩⟩⟩, fun q2 => ⟨rfl, fun q3 => ⟨q3, ⟨(Q9 [QP, QQ, QR]), fun r11 h => ⟨UU.ok h, ⟨(QD _), ⟨rfl, fun q4 => ⟨q4, ⟨(QD _), Qk 2 (q4) (⟨rfl, fun q5 => Qk 4 (q5) (⟨(QD _), ⟨q5, fun r12 h => ⟨V1.ok h, ⟨q5, fun r13 h => ⟨U6.ok h, ⟨q5, rfl⟩⟩⟩⟩⟩⟩), fun q5 => noN_ok 7 (q5) (rfl)⟩)⟩⟩, fun q4 => noN_ok 3 (q4) (noN_ok 8 (rfl) (rfl))⟩⟩⟩⟩⟩, fun q3 => ⟨rfl, fun q4 => ⟨(Q9 [QP, QQ, QR]), fun r14 h => ⟨UU.ok h, ⟨(QD _), ⟨rfl, fun q5 => ⟨q5, ⟨(QD _), Qk 2 (q5) (⟨rfl, fun q6 => Qk 4 (q6) (⟨(QD _), ⟨q6, fun r15 h => ⟨V1.ok h, ⟨q6, fun r16 h => ⟨U6.ok h, ⟨q6, rfl⟩⟩⟩⟩⟩⟩), fun q6 => noN_ok 7 (q6) (rfl)⟩)⟩⟩, fun q5 => noN_ok 3 (q5) (noN_ok 8 (rfl) (rfl))⟩⟩⟩⟩, fun q4 => ⟨rfl, fun q5 => fun r17 h => ⟨Vo.ok h, rfl⟩, fun q5 => ⟨rfl, fun q6 => ⟨q6, ⟨(Q9 [QN, QO]), fun r18 h => ⟨UU.ok h, fun r19 h => ⟨V1.ok h, fun r20 h => ⟨U6.ok h, rfl⟩⟩⟩⟩⟩, fun q6 => ⟨rfl, fun q7 => ⟨(Q9 [QN, QO]), fun r21 h => ⟨UU.ok h, fun r22 h => ⟨V1.ok h, fun r23 h => ⟨U6.ok h, rfl⟩⟩⟩⟩, fun q7 => ⟨rfl, fun q8 => ⟨(YN [131, 129]), fun r24 h => ⟨U6.ok h, rfl⟩⟩, fun q8 => rfl⟩⟩⟩⟩⟩⟩⟩⟩⟩⟩⟩⟩⟩
noncomputable abbrev YD {ρ R : Type} (a1 : ByteArray) (a2 : ByteArray) (h0 : Qg) (k : (Bool × Qg) → Tr ρ R) : Tr ρ R := .call (ww 76 [.ptr 0 0, xs a1, xs a2] [(0, .box [0, 0, 0, 0, 0, 5] [xi h0.x.Line, xs h0.x.Label, xi h0.x.Kind, xi h0.x.Op, xs h0.x.Text, .arr 1]), (1, .arr true 5 (Qj h0.x.Args))]) (JG a1 a2 h0) Qt k
def Qcs (r : (List Qd)) : AV × Heap := (.sl (Qj r), [])
abbrev QjW := (List Qd) → Option (List Qd)
noncomputable def WW (a0 : (List Qd)) : Option (List Qd) := cloneT 64 a0
noncomputable abbrev F0 {ρ R : Type} (a0 : (List Qd)) (k : (List Qd) → Tr ρ R) : Tr ρ R := .call (ww 77 [.sl (Qj a0)] []) (WW a0) Qcs k
theorem WW.ok {a0 : (List Qd)} {r : (List Qd)} (h : WW a0 = some r) : ww 77 [.sl (Qj a0)] [] = some (Qcs r) := (ZI rfl _ _).trans (Qjd YL (fun _ => rfl) (fun _ => rfl) (JS _) (JS _) h)
def Wr (r : (Qf × Bool)) : AV × Heap := (.tup [.agg (WD r.1), xo r.2], [])
abbrev Qjh := ByteArray → Option (Qf × Bool)
def Qc3 (C0 : QeC) (C1 : QhC) (C2 : Qbw) (C3 : QcS) (C4 : P8) (C5 : Qdo) (C6 : G2) (C7 : QjW) (a0 : ByteArray) : Option (Qf × Bool) := ((C0 a0 (10 : Int)).bind fun r1 => (bif (decide (r1 ≥ 0)) then (some ((Qf.mk (0 : Int) s_ (0 : Int) (0 : Int) s_ ([] : List Qd)), false)) else ((C1 a0).bind fun r2 => ((C2 r2).bind fun r3 => (bif (decide (r3 < ((r2.size : Nat) : Int))) then (bif (decide (0 ≤ r3 ∧ r3 < ((r2.size : Nat) : Int))) then (bif (((r2.data.getD (Int.toNat r3) 0).toNat : Int) == 58) then (bif (decide (0 ≤ (0 : Int) ∧ (0 : Int) ≤ r3 ∧ r3 ≤ ((r2.size : Nat) : Int))) then ((C3 (r2.extract (Int.toNat 0) (Int.toNat r3))).bind fun r4 => (bif (!r4) then (some ((Qf.mk (0 : Int) s_ (0 : Int) (0 : Int) s_ ([] : List Qd)), false)) else (bif (decide (0 ≤ (w64 (r3 + 1)) ∧ (w64 (r3 + 1)) ≤ ((r2.size : Nat) : Int) ∧ ((r2.size : Nat) : Int) ≤ ((r2.size : Nat) : Int))) then ((C4 (r2.extract (Int.toNat (w64 (r3 + 1))) (Int.toNat ((r2.size : Nat) : Int))) XI).bind fun r5 => (bif (eqS r5 s_) then (bif (eqS (r2.extract (Int.toNat 0) (Int.toNat r3)) s_) then (some ((Qf.mk (0 : Int) s_ (0 : Int) (0 : Int) s_ ([] : List Qd)), true)) else (some ((Qf.mk (1 : Int) (r2.extract (Int.toNat 0) (Int.toNat r3)) (0 : Int) (0 : Int) s_ ([] : List Qd)), true))) else ((C5 r5).bind fun r6 => (bif (decide (0 ≤ (0 : Int) ∧ (0 : Int) ≤ r6 ∧ r6 ≤ ((r5.size : Nat) : Int))) then (bif (decide (0 ≤ r6 ∧ r6 ≤ ((r5.size : Nat) : Int) ∧ ((r5.size : Nat) : Int) ≤ ((r5.size : Nat) : Int))) then ((C4 (r5.extract (Int.toNat r6) (Int.toNat ((r5.size : Nat) : Int))) XI).bind fun r7 => ((C6 (r5.extract (Int.toNat 0) (Int.toNat r6)) r7 (Qg.mk (Qf.mk (1 : Int) (r2.extract (Int.toNat 0) (Int.toNat r3)) (0 : Int) (0 : Int) s_ ([] : List Qd)))).bind fun r8 => (bif (!r8.1) then (some ((Qf.mk (0 : Int) s_ (0 : Int) (0 : Int) s_ ([] : List Qd)), false)) else ((C7 r8.2.x.Args).bind fun r9 => (some ((Qf.mk r8.2.x.Line r8.2.x.Label r8.2.x.Kind r8.2.x.Op r8.2.x.Text r9), true)))))) else none) else none)))) else none))) else none) else (bif (eqS r2 s_) then (some ((Qf.mk (0 : Int) s_ (0 : Int) (0 : Int) s_ ([] : List Qd)), true)) else ((C5 r2).bind fun r10 => (bif (decide (0 ≤ (0 : Int) ∧ (0 : Int) ≤ r10 ∧ r10 ≤ ((r2.size : Nat) : Int))) then (bif (decide (0 ≤ r10 ∧ r10 ≤ ((r2.size : Nat) : Int) ∧ ((r2.size : Nat) : Int) ≤ ((r2.size : Nat) : Int))) then ((C4 (r2.extract (Int.toNat r10) (Int.toNat ((r2.size : Nat) : Int))) XI).bind fun r11 => ((C6 (r2.extract (Int.toNat 0) (Int.toNat r10)) r11 (Qg.mk (Qf.mk (1 : Int) s_ (0 : Int) (0 : Int) s_ ([] : List Qd)))).bind fun r12 => (bif (!r12.1) then (some ((Qf.mk (0 : Int) s_ (0 : Int) (0 : Int) s_ ([] : List Qd)), false)) else ((C7 r12.2.x.Args).bind fun r13 => (some ((Qf.mk r12.2.x.Line r12.2.x.Label r12.2.x.Kind r12.2.x.Op r12.2.x.Text r13), true)))))) else none) else none)))) else none) else (bif (eqS r2 s_) then (some ((Qf.mk (0 : Int) s_ (0 : Int) (0 : Int) s_ ([] : List Qd)), true)) else ((C5 r2).bind fun r14 => (bif (decide (0 ≤ (0 : Int) ∧ (0 : Int) ≤ r14 ∧ r14 ≤ ((r2.size : Nat) : Int))) then (bif (decide (0 ≤ r14 ∧ r14 ≤ ((r2.size : Nat) : Int) ∧ ((r2.size : Nat) : Int) ≤ ((r2.size : Nat) : Int))) then ((C4 (r2.extract (Int.toNat r14) (Int.toNat ((r2.size : Nat) : Int))) XI).bind fun r15 => ((C6 (r2.extract (Int.toNat 0) (Int.toNat r14)) r15 (Qg.mk (Qf.mk (1 : Int) s_ (0 : Int) (0 : Int) s_ ([] : List Qd)))).bind fun r16 => (bif (!r16.1) then (some ((Qf.mk (0 : Int) s_ (0 : Int) (0 : Int) s_ ([] : List Qd)), false)) else ((C7 r16.2.x.Args).bind fun r17 => (some ((Qf.mk r16.2.x.Line r16.2.x.Label r16.2.x.Kind r16.2.x.Op r16.2.x.Text r17), true)))))) else none) else none))))))))
noncomputable def Y3 : Qjh := Qc3 WH X6 WE W1 UE Vy JG WW
theorem Y3.eq (a0 : ByteArray) : Y3 a0 = Qc3 WH X6 WE W1 UE Vy JG WW a0 := rfl
noncomputable def Qnw (a0 : ByteArray) : Tr (Qf × Bool) AH := (QdH a0 (zi 10) fun r1 => (.as (decide (r1 ≥ 0)) (rt Wr ((Qf.mk i0 s_ i0 i0 s_ ([] : List Qd)), false)) (QlZ a0 fun r2 => (Qez r2 fun r3 => (let u83 := (decide (r3 < (zz r2))); .as u83 (yesN 2 u83 (.as (in1 r3 (zz r2)) (yesN 2 u83 (.as ((gb r2 r3) == 58) (let u82 := (in2 i0 r3 (zz r2)); .as u82 (Qgb (cu r2 i0 r3) fun r4 => (.as (!r4) (rt Wr ((Qf.mk i0 s_ i0 i0 s_ ([] : List Qd)), false)) (.yes u82 (.as (in2 (w64 (r3 + 1)) (zz r2) (zz r2)) (Xu (cu r2 (w64 (r3 + 1)) (zz r2)) XI fun r5 => (.as (eqS r5 s_) (.as (eqS (cu r2 i0 r3) s_) (rt Wr ((Qf.mk i0 s_ i0 i0 s_ ([] : List Qd)), true)) (rt Wr ((Qf.mk (zi 1) (cu r2 i0 r3) i0 i0 s_ ([] : List Qd)), true))) (FO r5 fun r6 => (.as (in2 i0 r6 (zz r5)) (.as (in2 r6 (zz r5) (zz r5)) (Xu (cu r5 r6 (zz r5)) XI fun r7 => (YD (cu r5 i0 r6) r7 (Qg.mk (Qf.mk (zi 1) (cu r2 i0 r3) i0 i0 s_ ([] : List Qd))) fun r8 => (.as (!r8.1) (rt Wr ((Qf.mk i0 s_ i0 i0 s_ ([] : List Qd)), false)) (F0 r8.2.x.Args fun r9 => (rt Wr ((Qf.mk r8.2.x.Line r8.2.x.Label r8.2.x.Kind r8.2.x.Op r8.2.x.Text r9), true)))))) .fail) .fail)))) .fail)))) .fail) (.as (eqS r2 s_) (.yes true (rt Wr ((Qf.mk i0 s_ i0 i0 s_ ([] : List Qd)), true))) (FO r2 fun r10 => (.as (in2 i0 r10 (zz r2)) (.as (in2 r10 (zz r2) (zz r2)) (Xu (cu r2 r10 (zz r2)) XI fun r11 => (YD (cu r2 i0 r10) r11 (Qg.mk (Qf.mk (zi 1) s_ i0 i0 s_ ([] : List Qd))) fun r12 => (.as (!r12.1) (rt Wr ((Qf.mk i0 s_ i0 i0 s_ ([] : List Qd)), false)) (F0 r12.2.x.Args fun r13 => (rt Wr ((Qf.mk r12.2.x.Line r12.2.x.Label r12.2.x.Kind r12.2.x.Op r12.2.x.Text r13), true)))))) .fail) .fail))))) .fail)) (noN 4 u83 (.no false (.as (eqS r2 s_) (.yes true (rt Wr ((Qf.mk i0 s_ i0 i0 s_ ([] : List Qd)), true))) (FO r2 fun r14 => (.as (in2 i0 r14 (zz r2)) (.as (in2 r14 (zz r2) (zz r2)) (Xu (cu r2 r14 (zz r2)) XI fun r15 => (YD (cu r2 i0 r14) r15 (Qg.mk (Qf.mk (zi 1) s_ i0 i0 s_ ([] : List Qd))) fun r16 => (.as (!r16.1) (rt Wr ((Qf.mk i0 s_ i0 i0 s_ ([] : List Qd)), false)) (F0 r16.2.x.Args fun r17 => (rt Wr ((Qf.mk r16.2.x.Line r16.2.x.Label r16.2.x.Kind r16.2.x.Op r16.2.x.Text r17), true)))))) .fail) .fail))))))))))
theorem Y3.ok {a0 : ByteArray} {r : (Qf × Bool)} (h : Y3 a0 = some r) : ww 27 [xs a0] [] = some (Wr r) := by
 refine fnP (Qnw a0) ?_ h
 exact fun r1 h => ⟨WH.ok h, ⟨rfl, fun q0 => rfl, fun q0 => fun r2 h => ⟨X6.ok h, fun r3 h => ⟨WE.ok h, ⟨rfl, fun q1 => Qk 2 (q1) (⟨rfl, fun q2 => Qk 2 (q1) (⟨rfl, fun q3 => ⟨rfl, fun q4 => fun r4 h => ⟨W1.ok h, ⟨rfl, fun q5 => rfl, fun q5 => ⟨q4, ⟨rfl, fun q6 => fun r5 h => ⟨UE.ok h, ⟨rfl, fun q7 => ⟨rfl, fun q8 => rfl, fun q8 => rfl⟩, fun q7 => fun r6 h => ⟨Vy.ok h, ⟨rfl, fun q8 => ⟨rfl, fun q9 => fun r7 h => ⟨UE.ok h, fun r8 h => ⟨JG.ok h, ⟨rfl, fun q10 => rfl, fun q10 => fun r9 h => ⟨WW.ok h, rfl⟩⟩⟩⟩, fun q9 => trivial⟩, fun q8 => trivial⟩⟩⟩⟩, fun q6 => trivial⟩⟩⟩⟩, fun q4 => trivial⟩, fun q3 => ⟨rfl, fun q4 => ⟨rfl, rfl⟩, fun q4 => fun r10 h => ⟨Vy.ok h, ⟨rfl, fun q5 => ⟨rfl, fun q6 => fun r11 h => ⟨UE.ok h, fun r12 h => ⟨JG.ok h, ⟨rfl, fun q7 => rfl, fun q7 => fun r13 h => ⟨WW.ok h, rfl⟩⟩⟩⟩, fun q6 => trivial⟩, fun q5 => trivial⟩⟩⟩⟩), fun q2 => trivial⟩), fun q1 => noN_ok 4 (q1) (⟨rfl, ⟨rfl, fun q2 => ⟨rfl, rfl⟩, fun q2 => fun r14 h => ⟨Vy.ok h, ⟨rfl, fun q3 => ⟨rfl, fun q4 => fun r15 h => ⟨UE.ok h, fun r16 h => ⟨JG.ok h, ⟨rfl, fun q5 => rfl, fun q5 => fun r17 h => ⟨WW.ok h, rfl⟩⟩⟩⟩, fun q4 => trivial⟩, fun q3 => trivial⟩⟩⟩⟩)⟩⟩⟩⟩⟩
noncomputable abbrev Qnx {ρ R : Type} (a0 : ByteArray) (k : (Qf × Bool) → Tr ρ R) : Tr ρ R := .call (ww 27 [xs a0] []) (Y3 a0) Wr k
abbrev Xd := (List Qz) → Int → Option Int
abbrev QgN (c : Xd) : Prop := ∀ (a0 : (List Qz)) (a1 : Int) (r : Int), c a0 a1 = some r → ww 105 [.sl (U0 a0), xi a1] [] = some (Qq r)
noncomputable abbrev Qji {ρ R : Type} (c : Xd) (a0 : (List Qz)) (a1 : Int) (k : Int → Tr ρ R) : Tr ρ R := .call (ww 105 [.sl (U0 a0), xi a1] []) (c a0 a1) Qq k
structure U3 where
 x0 : (List Qz)
 x1 : Int
 x5 : Int
 x6 : Int
def QaH (a : U3) : St := { n := 31, nx := 0, env := [(0, .sl (U0 a.x0)), (1, xi a.x1), (5, xi a.x5), (6, xi a.x6)], heap := [] }
def Fg (a : Int) : Ex × St := (.exit 0, { n := 31, nx := 0, env := [(5, xi a)], heap := [] })
abbrev X7 := U3 → Option Int
def Yn (C0 : Xd) (a : U3) : Option (U3 ⊕ Int) := (bif (decide (a.x6 < (((a.x0.length) : Nat) : Int))) then (bif (decide (a.x5 ≤ 16)) then (bif (decide (0 ≤ a.x6)) then ((a.x0[(Int.toNat a.x6)]?).bind fun e1 => ((C0 e1.L (w64 (a.x1 + 1))).bind fun r2 => (some (.inl (U3.mk a.x0 a.x1 (w64 ((w64 (a.x5 + 1)) + r2)) (w64 (a.x6 + 1))))))) else none) else (some (.inr a.x5))) else (some (.inr a.x5)))
theorem QeY {C0 : Nat → Xd} {D0 : Xd} (H0 : Cv2 C0 D0) (a : U3) : Cv (fun k => Yn (C0 k) a) (Yn D0 a) := by
 unfold Yn
 exact .cond (.cond (.cond (.bind (.const _) fun e1 => .bind (H0 _ _) fun r2 => by exact .const _) cst) cst) cst
noncomputable abbrev Qk5 {ρ R : Type} (l : X7) (a : U3) (k0 : Int → Tr ρ R) : Tr ρ R := .loop (loopAt pp 105 5) (QaH a) (l a) Fg k0
noncomputable def Qk6 (C0 : Xd) (a : U3) : Tr (U3 ⊕ Int) XS := (.num ((U0 a.x0).length) (a.x0.length) (let u84 := (decide (a.x6 < (((a.x0.length) : Nat) : Int))); .as u84 (yesN 2 u84 (.as (decide (a.x5 ≤ 16)) (.as (decide (0 ≤ a.x6)) (.row ((U0 a.x0)[(Int.toNat a.x6)]?) (a.x0[(Int.toNat a.x6)]?) Xt fun (e1 : Qz) => (Qji C0 e1.L (w64 (a.x1 + 1)) fun r2 => (lf QaH (U3.mk a.x0 a.x1 (w64 ((w64 (a.x5 + 1)) + r2)) (w64 (a.x6 + 1)))))) .fail) (rx Fg a.x5))) (noN 2 u84 (.no false (rx Fg a.x5)))))
noncomputable def U7.s (k : Nat) (C0 : Xd) : X7 := iter (Yn C0) k
theorem QjX (k : Nat) {C0 : Xd} (i_w3_size : QgN C0) {a : U3} {r : Int} (h : U7.s k C0 a = some r) : lw 0 105 (loopAt pp 105 5) (QaH a) = some (Fg r) := by
 refine lpP (itP h) (Qk6 C0) fun a => ?_
 exact ⟨(Z6 _), ⟨rfl, fun q0 => Qk 2 (q0) (⟨rfl, fun q1 => ⟨rfl, fun q2 => fun e1 h => ⟨SX h, fun r2 h => ⟨i_w3_size _ _ _ h, rfl⟩⟩, fun q2 => trivial⟩, fun q1 => rfl⟩), fun q0 => noN_ok 2 (q0) (⟨rfl, rfl⟩)⟩⟩
theorem U7.m {j k : Nat} (hj : j ≤ k) (C0 : Xd) (D0 : Xd) (H0 : Le2 C0 D0) (a : U3) : Le (U7.s j C0 a) (U7.s k D0 a) := Le.iter (fun a => (QeY (tw2 H0) a).1 0) hj a
noncomputable def U7.w (C0 : Xd) : X7 := loopW (Yn C0)
theorem U7.cv (C0 : Nat → Xd) (D0 : Xd) (H0 : Cv2 C0 D0) (a : U3) : Cv (fun k => U7.s k (C0 k) a) (U7.w D0 a) := Cv.iter (fun a => QeY H0 a) a
def Gn (L0 : X7) (a0 : (List Qz)) (a1 : Int) : Option Int := (bif (decide (a1 > 7)) then (some (1000 : Int)) else ((L0 (U3.mk a0 a1 (0 : Int) (0 : Int))).bind (fun (o1 : Int) => (some o1))))
theorem Qjj {L0 : Nat → X7} {M0 : X7} (N0 : Cv1 L0 M0) (a0 : (List Qz)) (a1 : Int) : Cv (fun k => Gn (L0 k) a0 a1) (Gn M0 a0 a1) := by
 unfold Gn
 exact .cond cst (.bind (N0 _) (fun o1 => by exact .const _))
noncomputable def Qok (L0 : X7) (a0 : (List Qz)) (a1 : Int) : Tr Int AH := (.as (decide (a1 > 7)) (rt Qq (zi 1000)) (Qk5 L0 (U3.mk a0 a1 i0 i0) (fun o1 => (rt Qq o1))))
noncomputable def JU.s : Nat → (List Qz) → Int → Option Int
 | 0, _, _ => none
 | k + 1, a0, a1 => Gn (U7.s k (fun a0 a1 => JU.s k a0 a1)) a0 a1
termination_by structural k => k
theorem Qgo : ∀ (k : Nat), (QgN (JU.s k))
 | 0 => fun _ _ _ h => (nomatch h)
 | k + 1 => by
  have i_w3_size : QgN (JU.s k) := Qgo k
  exact fun a0 a1 r h => by
    refine fnP (Qok (U7.s k (JU.s k)) a0 a1) ?_ h
    exact ⟨rfl, fun q0 => rfl, fun q0 => fun o1 h => ⟨QjX k i_w3_size h, rfl⟩⟩
theorem QeZ : ∀ (k : Nat), (∀ (a0 : (List Qz)) (a1 : Int), Le (JU.s k a0 a1) (JU.s (k + 1) a0 a1))
 | 0 => fun _ _ _ h => (nomatch h)
 | k + 1 => by
  have i_w3_size : ∀ (a0 : (List Qz)) (a1 : Int), Le (JU.s k a0 a1) (JU.s (k + 1) a0 a1) := QeZ k
  exact fun a0 a1 => (Qjj (tw1 (U7.m (Nat.le_succ k) (JU.s k) (JU.s (k + 1)) i_w3_size)) a0 a1).1 0
noncomputable def JU (a0 : (List Qz)) (a1 : Int) : Option Int := lim fun k => JU.s k a0 a1
theorem JU.cv (a0 : (List Qz)) (a1 : Int) : Cv (fun k => JU.s k a0 a1) (JU a0 a1) := .lim fun k => (QeZ k) a0 a1
theorem JU.ok {a0 : (List Qz)} {a1 : Int} {r : Int} (h : JU a0 a1 = some r) : ww 105 [.sl (U0 a0), xi a1] [] = some (Qq r) := let ⟨k, e⟩ := ((JU.cv a0 a1).2 r).1 h; (Qgo k) a0 a1 _ e
noncomputable def U7 : X7 := U7.w JU
theorem U7.eq (a : U3) : U7 a = (Yn JU a).bind (Sum.elim U7 some) := JD _ _
theorem JU.eq (a0 : (List Qz)) (a1 : Int) : JU a0 a1 = Gn U7 a0 a1 := Cv.uniq (JU.cv a0 a1).shift (Qjj (U7.cv (fun k => JU.s k) JU JU.cv) a0 a1)
noncomputable abbrev Qol {ρ R : Type} (a0 : (List Qz)) (a1 : Int) (k : Int → Tr ρ R) : Tr ρ R := Qji JU a0 a1 k
abbrev Qmx := (List Qz) → Option Bool
def QgO (C0 : Xd) (a0 : (List Qz)) : Option Bool := ((C0 a0 (0 : Int)).bind fun r1 => (some (decide (r1 ≤ 16))))
noncomputable def G3 : Qmx := QgO JU
theorem G3.eq (a0 : (List Qz)) : G3 a0 = QgO JU a0 := rfl
noncomputable def Qph (a0 : (List Qz)) : Tr Bool AH := (Qol a0 i0 fun r1 => (rt Ql (decide (r1 ≤ 16))))
theorem G3.ok {a0 : (List Qz)} {r : Bool} (h : G3 a0 = some r) : ww 61 [.sl (U0 a0)] [] = some (Ql r) := by
 refine fnP (Qph a0) ?_ h
 exact fun r1 h => ⟨JU.ok h, rfl⟩
noncomputable abbrev Qpi {ρ R : Type} (a0 : (List Qz)) (k : Bool → Tr ρ R) : Tr ρ R := .call (ww 61 [.sl (U0 a0)] []) (G3 a0) Ql k
abbrev Qmy := (List Qy) → Option Bool
structure Wi where
 x0 : (List Qy)
 x3 : Int
def QbM (a : Wi) : St := { n := 26, nx := 0, env := [(0, .sl (V4 a.x0)), (3, xi a.x3)], heap := [] }
def Qe0 (a : Bool) : Ex × St := (.ret, { n := 26, nx := 0, env := [(2, xo a)], heap := [] })
def Qe1 (a : Unit) : Ex × St := (.exit 0, { n := 26, nx := 0, env := [], heap := [] })
def Pm (a : (Bool ⊕ Unit)) : Ex × St := Sum.elim Qe0 Qe1 a
abbrev QhK := Wi → Option (Bool ⊕ Unit)
def Pn (C0 : Qmx) (a : Wi) : Option (Wi ⊕ (Bool ⊕ Unit)) := (bif (decide (a.x3 < (((a.x0.length) : Nat) : Int))) then (bif (decide (0 ≤ a.x3)) then ((a.x0[(Int.toNat a.x3)]?).bind fun e1 => ((C0 e1.E).bind fun r2 => (bif (!r2) then (some (.inr (.inl false))) else ((a.x0[(Int.toNat a.x3)]?).bind fun e3 => (bif (decide ((((e3.Ns.length) : Nat) : Int) > 60)) then (some (.inr (.inl false))) else (some (.inl (Wi.mk a.x0 (w64 (a.x3 + 1)))))))))) else none) else (some (.inr (.inr ()))))
noncomputable def WN : QhK := loopW (Pn G3)
theorem WN.eq (a : Wi) : WN a = (Pn G3 a).bind (Sum.elim WN some) := JD _ _
noncomputable abbrev Ql8 {ρ R : Type} (a : Wi) (k0 : Bool → Tr ρ R) (k1 : Unit → Tr ρ R) : Tr ρ R := .loop2 (loopAt pp 24 2) (QbM a) (WN a) Qe0 Qe1 k0 k1
noncomputable def Ql9 (a : Wi) : Tr (Wi ⊕ (Bool ⊕ Unit)) XS := (.num ((V4 a.x0).length) (a.x0.length) (.as (decide (a.x3 < (((a.x0.length) : Nat) : Int))) (let u85 := (decide (0 ≤ a.x3)); .as u85 (.row ((V4 a.x0)[(Int.toNat a.x3)]?) (a.x0[(Int.toNat a.x3)]?) Vs fun (e1 : Qy) => (Qpi e1.E fun r2 => (.as (!r2) (yesN 7 (!r2) (.yes true (rx Pm (.inl false)))) (noN 2 (!r2) (.yes u85 (.row ((V4 a.x0)[(Int.toNat a.x3)]?) (a.x0[(Int.toNat a.x3)]?) Vs fun (e3 : Qy) => (noN 3 (!r2) (.num ((Qm e3.Ns).length) (e3.Ns.length) (noN 2 (!r2) (.as (decide ((((e3.Ns.length) : Nat) : Int) > 60)) (rx Pm (.inl false)) (lf QbM (Wi.mk a.x0 (w64 (a.x3 + 1)))))))))))))) .fail) (rx Pm (.inr ()))))
theorem WN.ok {a : Wi} {r : (Bool ⊕ Unit)} (h : WN a = some r) : lw 0 24 (loopAt pp 24 2) (QbM a) = some (Pm r) := by
 refine lpP h Ql9 fun a => ?_
 exact ⟨(Qet _), ⟨rfl, fun q0 => ⟨rfl, fun q1 => fun e1 h => ⟨Zd h, fun r2 h => ⟨G3.ok h, ⟨rfl, fun q2 => Qk 7 (q2) (⟨rfl, rfl⟩), fun q2 => noN_ok 2 (q2) (⟨q1, fun e3 h => ⟨Zd h, noN_ok 3 (q2) (⟨(Q5 _), noN_ok 2 (q2) (⟨rfl, fun q3 => rfl, fun q3 => rfl⟩)⟩)⟩⟩)⟩⟩⟩, fun q1 => trivial⟩, fun q0 => rfl⟩⟩
def QgP (L0 : QhK) (a0 : (List Qy)) : Option Bool := ((L0 (Wi.mk a0 (0 : Int))).bind fun x => Sum.elim (fun (o1 : Bool) => (some o1)) (fun (o2 : Unit) => (some true)) x)
noncomputable def G4 : Qmy := QgP WN
theorem G4.eq (a0 : (List Qy)) : G4 a0 = QgP WN a0 := rfl
noncomputable def Qpj (a0 : (List Qy)) : Tr Bool AH := (Ql8 (Wi.mk a0 i0) (fun o1 => (rt Ql o1)) (fun o2 => (rt Ql true)))
theorem G4.ok {a0 : (List Qy)} {r : Bool} (h : G4 a0 = some r) : ww 24 [.sl (V4 a0)] [] = some (Ql r) := by
 refine fnP (Qpj a0) ?_ h
 exact ⟨fun o1 h => ⟨WN.ok (r := (.inl _)) h, rfl⟩, fun o2 h => ⟨WN.ok (r := (.inr _)) h, rfl⟩⟩
noncomputable abbrev Qpk {ρ R : Type} (a0 : (List Qy)) (k : Bool → Tr ρ R) : Tr ρ R := .call (ww 24 [.sl (V4 a0)] []) (G4 a0) Ql k
def Qbe (r : (QK × Int × Bool)) : AV × Heap := (.tup [.agg (QcR r.1), xi r.2.1, xo r.2.2], [])
abbrev Qc4 := Int → ByteArray → Option (QK × Int × Bool)
structure QG where
 x0 : Int
 x1 : ByteArray
 x7 : Int
 x8 : Int
 x10 : Int
 x11 : Int
 h0 : QK
 h1_0 : ByteArray
 h1_1 : ByteArray
 h1_2 : ByteArray
structure QV where
 x5 : Int
 x6 : Bool
 h0 : QK
def Vj (a : QG) : St := { n := 56, nx := 2, env := [(0, xi a.x0), (1, xs a.x1), (4, .ptr 0 0), (7, xi a.x7), (8, xi a.x8), (9, .ptr 1 0), (10, xi a.x10), (11, xi a.x11)], heap := [(0, .box [] (QcR a.h0)), (1, .box [] [xs a.h1_0, xs a.h1_1, xs a.h1_2])] }
def Qdx (a : QV) : Ex × St := (.ret, { n := 56, nx := 1, env := [(4, .ptr 0 0), (5, xi a.x5), (6, xo a.x6)], heap := [(0, .box [] (QcR a.h0))] })
def Qdy (a : QK) : Ex × St := (.exit 0, { n := 56, nx := 1, env := [(4, .ptr 0 0)], heap := [(0, .box [] (QcR a))] })
def Vz (a : (QV ⊕ QK)) : Ex × St := Sum.elim Qdx Qdy a
abbrev Qgp := QG → Option (QV ⊕ QK)
def Gp (a : QG) : Option (QG ⊕ (QV ⊕ QK)) := (bif (decide (a.x11 < 1212)) then (bif (decide (0 ≤ a.x11 ∧ a.x11 < ((Qp.size : Nat) : Int))) then (bif (((Qp.data.getD (Int.toNat a.x11) 0).toNat : Int) != 58) then (bif (((Qp.data.getD (Int.toNat a.x11) 0).toNat : Int) != 124) then (some (.inl (QG.mk a.x0 a.x1 a.x7 a.x8 a.x10 (w64 (a.x11 + 1)) a.h0 a.h1_0 a.h1_1 a.h1_2))) else (bif (decide (0 ≤ a.x8 ∧ a.x8 ≤ a.x11 ∧ a.x11 ≤ ((Qp.size : Nat) : Int))) then (bif (decide (a.x10 = 0)) then (bif (((Qp.data.getD (Int.toNat a.x11) 0).toNat : Int) == 124) then (bif (a.x7 == a.x0) then (some (.inr (.inl (QV.mk a.x7 true (QK.mk (Qp.extract (Int.toNat a.x8) (Int.toNat a.x11)) a.h1_1 a.h1_2))))) else (bif (eqS (Qp.extract (Int.toNat a.x8) (Int.toNat a.x11)) a.x1) then (some (.inr (.inl (QV.mk a.x7 true (QK.mk (Qp.extract (Int.toNat a.x8) (Int.toNat a.x11)) a.h1_1 a.h1_2))))) else (some (.inl (QG.mk a.x0 a.x1 (w64 (a.x7 + 1)) (w64 (a.x11 + 1)) (0 : Int) (w64 (a.x11 + 1)) a.h0 (Qp.extract (Int.toNat a.x8) (Int.toNat a.x11)) a.h1_1 a.h1_2))))) else (some (.inl (QG.mk a.x0 a.x1 a.x7 (w64 (a.x11 + 1)) (w64 (a.x10 + 1)) (w64 (a.x11 + 1)) a.h0 (Qp.extract (Int.toNat a.x8) (Int.toNat a.x11)) a.h1_1 a.h1_2)))) else (bif (decide (a.x10 = 1)) then (bif (((Qp.data.getD (Int.toNat a.x11) 0).toNat : Int) == 124) then (bif (a.x7 == a.x0) then (some (.inr (.inl (QV.mk a.x7 true (QK.mk a.h1_0 (Qp.extract (Int.toNat a.x8) (Int.toNat a.x11)) a.h1_2))))) else (bif (eqS a.h1_0 a.x1) then (some (.inr (.inl (QV.mk a.x7 true (QK.mk a.h1_0 (Qp.extract (Int.toNat a.x8) (Int.toNat a.x11)) a.h1_2))))) else (some (.inl (QG.mk a.x0 a.x1 (w64 (a.x7 + 1)) (w64 (a.x11 + 1)) (0 : Int) (w64 (a.x11 + 1)) a.h0 a.h1_0 (Qp.extract (Int.toNat a.x8) (Int.toNat a.x11)) a.h1_2))))) else (some (.inl (QG.mk a.x0 a.x1 a.x7 (w64 (a.x11 + 1)) (w64 (a.x10 + 1)) (w64 (a.x11 + 1)) a.h0 a.h1_0 (Qp.extract (Int.toNat a.x8) (Int.toNat a.x11)) a.h1_2)))) else (bif (decide (a.x10 = 2)) then (bif (((Qp.data.getD (Int.toNat a.x11) 0).toNat : Int) == 124) then (bif (a.x7 == a.x0) then (some (.inr (.inl (QV.mk a.x7 true (QK.mk a.h1_0 a.h1_1 (Qp.extract (Int.toNat a.x8) (Int.toNat a.x11))))))) else (bif (eqS a.h1_0 a.x1) then (some (.inr (.inl (QV.mk a.x7 true (QK.mk a.h1_0 a.h1_1 (Qp.extract (Int.toNat a.x8) (Int.toNat a.x11))))))) else (some (.inl (QG.mk a.x0 a.x1 (w64 (a.x7 + 1)) (w64 (a.x11 + 1)) (0 : Int) (w64 (a.x11 + 1)) a.h0 a.h1_0 a.h1_1 (Qp.extract (Int.toNat a.x8) (Int.toNat a.x11))))))) else (some (.inl (QG.mk a.x0 a.x1 a.x7 (w64 (a.x11 + 1)) (w64 (a.x10 + 1)) (w64 (a.x11 + 1)) a.h0 a.h1_0 a.h1_1 (Qp.extract (Int.toNat a.x8) (Int.toNat a.x11)))))) else none))) else none)) else (bif (decide (0 ≤ a.x8 ∧ a.x8 ≤ a.x11 ∧ a.x11 ≤ ((Qp.size : Nat) : Int))) then (bif (decide (a.x10 = 0)) then (bif (((Qp.data.getD (Int.toNat a.x11) 0).toNat : Int) == 124) then (bif (a.x7 == a.x0) then (some (.inr (.inl (QV.mk a.x7 true (QK.mk (Qp.extract (Int.toNat a.x8) (Int.toNat a.x11)) a.h1_1 a.h1_2))))) else (bif (eqS (Qp.extract (Int.toNat a.x8) (Int.toNat a.x11)) a.x1) then (some (.inr (.inl (QV.mk a.x7 true (QK.mk (Qp.extract (Int.toNat a.x8) (Int.toNat a.x11)) a.h1_1 a.h1_2))))) else (some (.inl (QG.mk a.x0 a.x1 (w64 (a.x7 + 1)) (w64 (a.x11 + 1)) (0 : Int) (w64 (a.x11 + 1)) a.h0 (Qp.extract (Int.toNat a.x8) (Int.toNat a.x11)) a.h1_1 a.h1_2))))) else (some (.inl (QG.mk a.x0 a.x1 a.x7 (w64 (a.x11 + 1)) (w64 (a.x10 + 1)) (w64 (a.x11 + 1)) a.h0 (Qp.extract (Int.toNat a.x8) (Int.toNat a.x11)) a.h1_1 a.h1_2)))) else (bif (decide (a.x10 = 1)) then (bif (((Qp.data.getD (Int.toNat a.x11) 0).toNat : Int) == 124) then (bif (a.x7 == a.x0) then (some (.inr (.inl (QV.mk a.x7 true (QK.mk a.h1_0 (Qp.extract (Int.toNat a.x8) (Int.toNat a.x11)) a.h1_2))))) else (bif (eqS a.h1_0 a.x1) then (some (.inr (.inl (QV.mk a.x7 true (QK.mk a.h1_0 (Qp.extract (Int.toNat a.x8) (Int.toNat a.x11)) a.h1_2))))) else (some (.inl (QG.mk a.x0 a.x1 (w64 (a.x7 + 1)) (w64 (a.x11 + 1)) (0 : Int) (w64 (a.x11 + 1)) a.h0 a.h1_0 (Qp.extract (Int.toNat a.x8) (Int.toNat a.x11)) a.h1_2))))) else (some (.inl (QG.mk a.x0 a.x1 a.x7 (w64 (a.x11 + 1)) (w64 (a.x10 + 1)) (w64 (a.x11 + 1)) a.h0 a.h1_0 (Qp.extract (Int.toNat a.x8) (Int.toNat a.x11)) a.h1_2)))) else (bif (decide (a.x10 = 2)) then (bif (((Qp.data.getD (Int.toNat a.x11) 0).toNat : Int) == 124) then (bif (a.x7 == a.x0) then (some (.inr (.inl (QV.mk a.x7 true (QK.mk a.h1_0 a.h1_1 (Qp.extract (Int.toNat a.x8) (Int.toNat a.x11))))))) else (bif (eqS a.h1_0 a.x1) then (some (.inr (.inl (QV.mk a.x7 true (QK.mk a.h1_0 a.h1_1 (Qp.extract (Int.toNat a.x8) (Int.toNat a.x11))))))) else (some (.inl (QG.mk a.x0 a.x1 (w64 (a.x7 + 1)) (w64 (a.x11 + 1)) (0 : Int) (w64 (a.x11 + 1)) a.h0 a.h1_0 a.h1_1 (Qp.extract (Int.toNat a.x8) (Int.toNat a.x11))))))) else (some (.inl (QG.mk a.x0 a.x1 a.x7 (w64 (a.x11 + 1)) (w64 (a.x10 + 1)) (w64 (a.x11 + 1)) a.h0 a.h1_0 a.h1_1 (Qp.extract (Int.toNat a.x8) (Int.toNat a.x11)))))) else none))) else none)) else none) else (some (.inr (.inr a.h0))))
noncomputable def U8 : Qgp := loopW (Gp )
theorem U8.eq (a : QG) : U8 a = (Gp a).bind (Sum.elim U8 some) := JD _ _
noncomputable abbrev Qk7 {ρ R : Type} (a : QG) (k0 : QV → Tr ρ R) (k1 : QK → Tr ρ R) : Tr ρ R := .loop2 (loopAt pp 58 5) (Vj a) (U8 a) Qdx Qdy k0 k1
noncomputable def Qk8 (a : QG) : Tr (QG ⊕ (QV ⊕ QK)) XS := (.as (decide (a.x11 < 1212)) (let u93 := (in1 a.x11 (zz Qp)); .as u93 (let u92 := ((gb Qp a.x11) != 58); .as u92 (.yes u92 (.yes u93 (yesN 2 u92 (.as ((gb Qp a.x11) != 124) (lf Vj (QG.mk a.x0 a.x1 a.x7 a.x8 a.x10 (w64 (a.x11 + 1)) a.h0 a.h1_0 a.h1_1 a.h1_2)) (.as (in2 a.x8 a.x11 (zz Qp)) (.ask (decide (a.x10 = ((0 : Nat) : Int))) (decide (a.x10 = 0)) (.yes u93 (.as ((gb Qp a.x11) == 124) (let u86 := (a.x7 == a.x0); .as u86 (yesN 4 u86 (.yes true (.yes (decide (i0 = ((0 : Nat) : Int))) (.no (decide ((zi 1) = ((0 : Nat) : Int))) (.yes (decide ((zi 1) = ((1 : Nat) : Int))) (.no (decide ((zi 2) = ((0 : Nat) : Int))) (.no (decide ((zi 2) = ((1 : Nat) : Int))) (.yes (decide ((zi 2) = ((2 : Nat) : Int))) (rx Vz (.inl (QV.mk a.x7 true (QK.mk (cu Qp a.x8 a.x11) a.h1_1 a.h1_2)))))))))))) (.yes (decide (i0 = ((0 : Nat) : Int))) (noN 4 u86 (.as (eqS (cu Qp a.x8 a.x11) a.x1) (.yes (decide (i0 = ((0 : Nat) : Int))) (.no (decide ((zi 1) = ((0 : Nat) : Int))) (.yes (decide ((zi 1) = ((1 : Nat) : Int))) (.no (decide ((zi 2) = ((0 : Nat) : Int))) (.no (decide ((zi 2) = ((1 : Nat) : Int))) (.yes (decide ((zi 2) = ((2 : Nat) : Int))) (rx Vz (.inl (QV.mk a.x7 true (QK.mk (cu Qp a.x8 a.x11) a.h1_1 a.h1_2)))))))))) (lf Vj (QG.mk a.x0 a.x1 (w64 (a.x7 + 1)) (w64 (a.x11 + 1)) i0 (w64 (a.x11 + 1)) a.h0 (cu Qp a.x8 a.x11) a.h1_1 a.h1_2)))))) (lf Vj (QG.mk a.x0 a.x1 a.x7 (w64 (a.x11 + 1)) (w64 (a.x10 + 1)) (w64 (a.x11 + 1)) a.h0 (cu Qp a.x8 a.x11) a.h1_1 a.h1_2)))) (.ask (decide (a.x10 = ((1 : Nat) : Int))) (decide (a.x10 = 1)) (.yes u93 (.as ((gb Qp a.x11) == 124) (let u87 := (a.x7 == a.x0); .as u87 (yesN 4 u87 (.yes true (.yes (decide (i0 = ((0 : Nat) : Int))) (.no (decide ((zi 1) = ((0 : Nat) : Int))) (.yes (decide ((zi 1) = ((1 : Nat) : Int))) (.no (decide ((zi 2) = ((0 : Nat) : Int))) (.no (decide ((zi 2) = ((1 : Nat) : Int))) (.yes (decide ((zi 2) = ((2 : Nat) : Int))) (rx Vz (.inl (QV.mk a.x7 true (QK.mk a.h1_0 (cu Qp a.x8 a.x11) a.h1_2)))))))))))) (.yes (decide (i0 = ((0 : Nat) : Int))) (noN 4 u87 (.as (eqS a.h1_0 a.x1) (.yes (decide (i0 = ((0 : Nat) : Int))) (.no (decide ((zi 1) = ((0 : Nat) : Int))) (.yes (decide ((zi 1) = ((1 : Nat) : Int))) (.no (decide ((zi 2) = ((0 : Nat) : Int))) (.no (decide ((zi 2) = ((1 : Nat) : Int))) (.yes (decide ((zi 2) = ((2 : Nat) : Int))) (rx Vz (.inl (QV.mk a.x7 true (QK.mk a.h1_0 (cu Qp a.x8 a.x11) a.h1_2)))))))))) (lf Vj (QG.mk a.x0 a.x1 (w64 (a.x7 + 1)) (w64 (a.x11 + 1)) i0 (w64 (a.x11 + 1)) a.h0 a.h1_0 (cu Qp a.x8 a.x11) a.h1_2)))))) (lf Vj (QG.mk a.x0 a.x1 a.x7 (w64 (a.x11 + 1)) (w64 (a.x10 + 1)) (w64 (a.x11 + 1)) a.h0 a.h1_0 (cu Qp a.x8 a.x11) a.h1_2)))) (.ask (decide (a.x10 = ((2 : Nat) : Int))) (decide (a.x10 = 2)) (.yes u93 (.as ((gb Qp a.x11) == 124) (let u88 := (a.x7 == a.x0); .as u88 (yesN 4 u88 (.yes true (.yes (decide (i0 = ((0 : Nat) : Int))) (.no (decide ((zi 1) = ((0 : Nat) : Int))) (.yes (decide ((zi 1) = ((1 : Nat) : Int))) (.no (decide ((zi 2) = ((0 : Nat) : Int))) (.no (decide ((zi 2) = ((1 : Nat) : Int))) (.yes (decide ((zi 2) = ((2 : Nat) : Int))) (rx Vz (.inl (QV.mk a.x7 true (QK.mk a.h1_0 a.h1_1 (cu Qp a.x8 a.x11))))))))))))) (.yes (decide (i0 = ((0 : Nat) : Int))) (noN 4 u88 (.as (eqS a.h1_0 a.x1) (.yes (decide (i0 = ((0 : Nat) : Int))) (.no (decide ((zi 1) = ((0 : Nat) : Int))) (.yes (decide ((zi 1) = ((1 : Nat) : Int))) (.no (decide ((zi 2) = ((0 : Nat) : Int))) (.no (decide ((zi 2) = ((1 : Nat) : Int))) (.yes (decide ((zi 2) = ((2 : Nat) : Int))) (rx Vz (.inl (QV.mk a.x7 true (QK.mk a.h1_0 a.h1_1 (cu Qp a.x8 a.x11))))))))))) (lf Vj (QG.mk a.x0 a.x1 (w64 (a.x7 + 1)) (w64 (a.x11 + 1)) i0 (w64 (a.x11 + 1)) a.h0 a.h1_0 a.h1_1 (cu Qp a.x8 a.x11))))))) (lf Vj (QG.mk a.x0 a.x1 a.x7 (w64 (a.x11 + 1)) (w64 (a.x10 + 1)) (w64 (a.x11 + 1)) a.h0 a.h1_0 a.h1_1 (cu Qp a.x8 a.x11))))) .fail))) .fail))))) (noN 3 u92 (.no false (.as (in2 a.x8 a.x11 (zz Qp)) (.ask (decide (a.x10 = ((0 : Nat) : Int))) (decide (a.x10 = 0)) (.yes u93 (.as ((gb Qp a.x11) == 124) (let u89 := (a.x7 == a.x0); .as u89 (yesN 4 u89 (.yes true (.yes (decide (i0 = ((0 : Nat) : Int))) (.no (decide ((zi 1) = ((0 : Nat) : Int))) (.yes (decide ((zi 1) = ((1 : Nat) : Int))) (.no (decide ((zi 2) = ((0 : Nat) : Int))) (.no (decide ((zi 2) = ((1 : Nat) : Int))) (.yes (decide ((zi 2) = ((2 : Nat) : Int))) (rx Vz (.inl (QV.mk a.x7 true (QK.mk (cu Qp a.x8 a.x11) a.h1_1 a.h1_2)))))))))))) (.yes (decide (i0 = ((0 : Nat) : Int))) (noN 4 u89 (.as (eqS (cu Qp a.x8 a.x11) a.x1) (.yes (decide (i0 = ((0 : Nat) : Int))) (.no (decide ((zi 1) = ((0 : Nat) : Int))) (.yes (decide ((zi 1) = ((1 : Nat) : Int))) (.no (decide ((zi 2) = ((0 : Nat) : Int))) (.no (decide ((zi 2) = ((1 : Nat) : Int))) (.yes (decide ((zi 2) = ((2 : Nat) : Int))) (rx Vz (.inl (QV.mk a.x7 true (QK.mk (cu Qp a.x8 a.x11) a.h1_1 a.h1_2)))))))))) (lf Vj (QG.mk a.x0 a.x1 (w64 (a.x7 + 1)) (w64 (a.x11 + 1)) i0 (w64 (a.x11 + 1)) a.h0 (cu Qp a.x8 a.x11) a.h1_1 a.h1_2)))))) (lf Vj (QG.mk a.x0 a.x1 a.x7 (w64 (a.x11 + 1)) (w64 (a.x10 + 1)) (w64 (a.x11 + 1)) a.h0 (cu Qp a.x8 a.x11) a.h1_1 a.h1_2)))) (.ask (decide (a.x10 = ((1 : Nat) : Int))) (decide (a.x10 = 1)) (.yes u93 (.as ((gb Qp a.x11) == 124) (let u90 := (a.x7 == a.x0); .as u90 (yesN 4 u90 (.yes true (.yes (decide (i0 = ((0 : Nat) : Int))) (.no (decide ((zi 1) = ((0 : Nat) : Int))) (.yes (decide ((zi 1) = ((1 : Nat) : Int))) (.no (decide ((zi 2) = ((0 : Nat) : Int))) (.no (decide ((zi 2) = ((1 : Nat) : Int))) (.yes (decide ((zi 2) = ((2 : Nat) : Int))) (rx Vz (.inl (QV.mk a.x7 true (QK.mk a.h1_0 (cu Qp a.x8 a.x11) a.h1_2)))))))))))) (.yes (decide (i0 = ((0 : Nat) : Int))) (noN 4 u90 (.as (eqS a.h1_0 a.x1) (.yes (decide (i0 = ((0 : Nat) : Int))) (.no (decide ((zi 1) = ((0 : Nat) : Int))) (.yes (decide ((zi 1) = ((1 : Nat) : Int))) (.no (decide ((zi 2) = ((0 : Nat) : Int))) (.no (decide ((zi 2) = ((1 : Nat) : Int))) (.yes (decide ((zi 2) = ((2 : Nat) : Int))) (rx Vz (.inl (QV.mk a.x7 true (QK.mk a.h1_0 (cu Qp a.x8 a.x11) a.h1_2)))))))))) (lf Vj (QG.mk a.x0 a.x1 (w64 (a.x7 + 1)) (w64 (a.x11 + 1)) i0 (w64 (a.x11 + 1)) a.h0 a.h1_0 (cu Qp a.x8 a.x11) a.h1_2)))))) (lf Vj (QG.mk a.x0 a.x1 a.x7 (w64 (a.x11 + 1)) (w64 (a.x10 + 1)) (w64 (a.x11 + 1)) a.h0 a.h1_0 (cu Qp a.x8 a.x11) a.h1_2)))) (.ask (decide (a.x10 = ((2 : Nat) : Int))) (decide (a.x10 = 2)) (.yes u93 (.as ((gb Qp a.x11) == 124) (let u91 := (a.x7 == a.x0); .as u91 (yesN 4 u91 (.yes true (.yes (decide (i0 = ((0 : Nat) : Int))) (.no (decide ((zi 1) = ((0 : Nat) : Int))) (.yes (decide ((zi 1) = ((1 : Nat) : Int))) (.no (decide ((zi 2) = ((0 : Nat) : Int))) (.no (decide ((zi 2) = ((1 : Nat) : Int))) (.yes (decide ((zi 2) = ((2 : Nat) : Int))) (rx Vz (.inl (QV.mk a.x7 true (QK.mk a.h1_0 a.h1_1 (cu Qp a.x8 a.x11))))))))))))) (.yes (decide (i0 = ((0 : Nat) : Int))) (noN 4 u91 (.as (eqS a.h1_0 a.x1) (.yes (decide (i0 = ((0 : Nat) : Int))) (.no (decide ((zi 1) = ((0 : Nat) : Int))) (.yes (decide ((zi 1) = ((1 : Nat) : Int))) (.no (decide ((zi 2) = ((0 : Nat) : Int))) (.no (decide ((zi 2) = ((1 : Nat) : Int))) (.yes (decide ((zi 2) = ((2 : Nat) : Int))) (rx Vz (.inl (QV.mk a.x7 true (QK.mk a.h1_0 a.h1_1 (cu Qp a.x8 a.x11))))))))))) (lf Vj (QG.mk a.x0 a.x1 (w64 (a.x7 + 1)) (w64 (a.x11 + 1)) i0 (w64 (a.x11 + 1)) a.h0 a.h1_0 a.h1_1 (cu Qp a.x8 a.x11))))))) (lf Vj (QG.mk a.x0 a.x1 a.x7 (w64 (a.x11 + 1)) (w64 (a.x10 + 1)) (w64 (a.x11 + 1)) a.h0 a.h1_0 a.h1_1 (cu Qp a.x8 a.x11))))) .fail))) .fail)))) .fail) (rx Vz (.inr a.h0)))
theorem U8.ok {a : QG} {r : (QV ⊕ QK)} (h : U8 a = some r) : lw 0 58 (loopAt pp 58 5) (Vj a) = some (Vz r) := by
 refine lpP h Qk8 fun a => ?_
 exact ⟨rfl, fun q0 => ⟨rfl, fun q1 => ⟨rfl, fun q2 => ⟨q2, ⟨q1, Qk 2 (q2) (⟨rfl, fun q3 => rfl, fun q3 => ⟨rfl, fun q4 => ⟨rfl, fun q5 => ⟨q1, ⟨rfl, fun q6 => ⟨rfl, fun q7 => Qk 4 (q7) (⟨rfl, ⟨rfl, ⟨rfl, ⟨rfl, ⟨rfl, ⟨rfl, ⟨rfl, rfl⟩⟩⟩⟩⟩⟩⟩), fun q7 => ⟨rfl, noN_ok 4 (q7) (⟨rfl, fun q8 => ⟨rfl, ⟨rfl, ⟨rfl, ⟨rfl, ⟨rfl, ⟨rfl, rfl⟩⟩⟩⟩⟩⟩, fun q8 => rfl⟩)⟩⟩, fun q6 => rfl⟩⟩, fun q5 => ⟨rfl, fun q6 => ⟨q1, ⟨rfl, fun q7 => ⟨rfl, fun q8 => Qk 4 (q8) (⟨rfl, ⟨rfl, ⟨rfl, ⟨rfl, ⟨rfl, ⟨rfl, ⟨rfl, rfl⟩⟩⟩⟩⟩⟩⟩), fun q8 => ⟨rfl, noN_ok 4 (q8) (⟨rfl, fun q9 => ⟨rfl, ⟨rfl, ⟨rfl, ⟨rfl, ⟨rfl, ⟨rfl, rfl⟩⟩⟩⟩⟩⟩, fun q9 => rfl⟩)⟩⟩, fun q7 => rfl⟩⟩, fun q6 => ⟨rfl, fun q7 => ⟨q1, ⟨rfl, fun q8 => ⟨rfl, fun q9 => Qk 4 (q9) (⟨rfl, ⟨rfl, ⟨rfl, ⟨rfl, ⟨rfl, ⟨rfl, ⟨rfl, rfl⟩⟩⟩⟩⟩⟩⟩), fun q9 => ⟨rfl, noN_ok 4 (q9) (⟨rfl, fun q10 => ⟨rfl, ⟨rfl, ⟨rfl, ⟨rfl, ⟨rfl, ⟨rfl, rfl⟩⟩⟩⟩⟩⟩, fun q10 => rfl⟩)⟩⟩, fun q8 => rfl⟩⟩, fun q7 => trivial⟩⟩⟩, fun q4 => trivial⟩⟩)⟩⟩, fun q2 => noN_ok 3 (q2) (⟨rfl, ⟨rfl, fun q3 => ⟨rfl, fun q4 => ⟨q1, ⟨rfl, fun q5 => ⟨rfl, fun q6 => Qk 4 (q6) (⟨rfl, ⟨rfl, ⟨rfl, ⟨rfl, ⟨rfl, ⟨rfl, ⟨rfl, rfl⟩⟩⟩⟩⟩⟩⟩), fun q6 => ⟨rfl, noN_ok 4 (q6) (⟨rfl, fun q7 => ⟨rfl, ⟨rfl, ⟨rfl, ⟨rfl, ⟨rfl, ⟨rfl, rfl⟩⟩⟩⟩⟩⟩, fun q7 => rfl⟩)⟩⟩, fun q5 => rfl⟩⟩, fun q4 => ⟨rfl, fun q5 => ⟨q1, ⟨rfl, fun q6 => ⟨rfl, fun q7 => Qk 4 (q7) (⟨rfl, ⟨rfl, ⟨rfl, ⟨rfl, ⟨rfl, ⟨rfl, ⟨rfl, rfl⟩⟩⟩⟩⟩⟩⟩), fun q7 => ⟨rfl, noN_ok 4 (q7) (⟨rfl, fun q8 => ⟨rfl, ⟨rfl, ⟨rfl, ⟨rfl, ⟨rfl, ⟨rfl, rfl⟩⟩⟩⟩⟩⟩, fun q8 => rfl⟩)⟩⟩, fun q6 => rfl⟩⟩, fun q5 => ⟨rfl, fun q6 => ⟨q1, ⟨rfl, fun q7 => ⟨rfl, fun q8 => Qk 4 (q8) (⟨rfl, ⟨rfl, ⟨rfl, ⟨rfl, ⟨rfl, ⟨rfl, ⟨rfl, rfl⟩⟩⟩⟩⟩⟩⟩), fun q8 => ⟨rfl, noN_ok 4 (q8) (⟨rfl, fun q9 => ⟨rfl, ⟨rfl, ⟨rfl, ⟨rfl, ⟨rfl, ⟨rfl, rfl⟩⟩⟩⟩⟩⟩, fun q9 => rfl⟩)⟩⟩, fun q7 => rfl⟩⟩, fun q6 => trivial⟩⟩⟩, fun q3 => trivial⟩⟩)⟩, fun q1 => trivial⟩, fun q0 => rfl⟩
def Qe2 (L0 : Qgp) (a0 : Int) (a1 : ByteArray) : Option (QK × Int × Bool) := ((L0 (QG.mk a0 a1 (0 : Int) (0 : Int) (0 : Int) (0 : Int) (QK.mk s_ s_ s_) s_ s_ s_)).bind fun x => Sum.elim (fun (o1 : QV) => (some (o1.h0, o1.x5, o1.x6))) (fun (o2 : QK) => (some ((QK.mk s_ s_ s_), (0 : Int), false))) x)
noncomputable def Xy : Qc4 := Qe2 U8
theorem Xy.eq (a0 : Int) (a1 : ByteArray) : Xy a0 a1 = Qe2 U8 a0 a1 := rfl
noncomputable def Qom (a0 : Int) (a1 : ByteArray) : Tr (QK × Int × Bool) AH := (Qk7 (QG.mk a0 a1 i0 i0 i0 i0 (QK.mk s_ s_ s_) s_ s_ s_) (fun o1 => (rt Qbe (o1.h0, o1.x5, o1.x6))) (fun o2 => (rt Qbe ((QK.mk s_ s_ s_), i0, false))))
theorem Xy.ok {a0 : Int} {a1 : ByteArray} {r : (QK × Int × Bool)} (h : Xy a0 a1 = some r) : ww 58 [xi a0, xs a1] [] = some (Qbe r) := by
 refine fnP (Qom a0 a1) ?_ h
 exact ⟨fun o1 h => ⟨U8.ok (r := (.inl _)) h, rfl⟩, fun o2 h => ⟨U8.ok (r := (.inr _)) h, rfl⟩⟩
noncomputable abbrev Qjk {ρ R : Type} (a0 : Int) (a1 : ByteArray) (k : (QK × Int × Bool) → Tr ρ R) : Tr ρ R := .call (ww 58 [xi a0, xs a1] []) (Xy a0 a1) Qbe k
abbrev Qjl := Int → Option ByteArray
def Qc5 (C0 : Qc4) (a0 : Int) : Option ByteArray := ((C0 a0 h_20).bind fun r1 => (some r1.1.Kinds))
noncomputable def XO : Qjl := Qc5 Xy
theorem XO.eq (a0 : Int) : XO a0 = Qc5 Xy a0 := rfl
noncomputable def Qny (a0 : Int) : Tr ByteArray AH := (Qjk a0 h_20 fun r1 => (rt Qi r1.1.Kinds))
theorem XO.ok {a0 : Int} {r : ByteArray} (h : XO a0 = some r) : ww 37 [xi a0] [] = some (Qi r) := by
 refine fnP (Qny a0) ?_ h
 exact fun r1 h => ⟨Xy.ok h, rfl⟩
noncomputable abbrev Qnz {ρ R : Type} (a0 : Int) (k : ByteArray → Tr ρ R) : Tr ρ R := .call (ww 37 [xi a0] []) (XO a0) Qi k
abbrev Qjm := ByteArray → Option (List ByteArray)
structure JO where
 x0 : ByteArray
 x4 : Int
 x5 : Int
 r0 : (List ByteArray)
def XP (a : JO) : St := { n := 35, nx := 1, env := [(0, xs a.x0), (3, .arr 0), (4, xi a.x4), (5, xi a.x5)], heap := [(0, .arr true 1 (Qh a.r0))] }
def Sb (a : (List ByteArray)) : Ex × St := (.exit 0, { n := 35, nx := 1, env := [(3, .arr 0)], heap := [(0, .arr true 1 (Qh a))] })
abbrev Gq := JO → Option (List ByteArray)
def Sc (a : JO) : Option (JO ⊕ (List ByteArray)) := (bif (decide (a.x5 ≤ ((a.x0.size : Nat) : Int))) then (bif (a.x5 == ((a.x0.size : Nat) : Int)) then (bif (decide (a.x5 > a.x4)) then (bif (decide (0 ≤ a.x4 ∧ a.x4 ≤ a.x5 ∧ a.x5 ≤ ((a.x0.size : Nat) : Int))) then (bif (decide ((a.r0.length + [(a.x0.extract (Int.toNat a.x4) (Int.toNat a.x5))].length) * 16 ≤ most)) then (some (.inl (JO.mk a.x0 (w64 (a.x5 + 1)) (w64 (a.x5 + 1)) (a.r0 ++ [(a.x0.extract (Int.toNat a.x4) (Int.toNat a.x5))])))) else none) else none) else (some (.inl (JO.mk a.x0 (w64 (a.x5 + 1)) (w64 (a.x5 + 1)) a.r0)))) else (bif (decide (0 ≤ a.x5 ∧ a.x5 < ((a.x0.size : Nat) : Int))) then (bif (((a.x0.data.getD (Int.toNat a.x5) 0).toNat : Int) == 32) then (bif (decide (a.x5 > a.x4)) then (bif (decide (0 ≤ a.x4 ∧ a.x4 ≤ a.x5 ∧ a.x5 ≤ ((a.x0.size : Nat) : Int))) then (bif (decide ((a.r0.length + [(a.x0.extract (Int.toNat a.x4) (Int.toNat a.x5))].length) * 16 ≤ most)) then (some (.inl (JO.mk a.x0 (w64 (a.x5 + 1)) (w64 (a.x5 + 1)) (a.r0 ++ [(a.x0.extract (Int.toNat a.x4) (Int.toNat a.x5))])))) else none) else none) else (some (.inl (JO.mk a.x0 (w64 (a.x5 + 1)) (w64 (a.x5 + 1)) a.r0)))) else (some (.inl (JO.mk a.x0 a.x4 (w64 (a.x5 + 1)) a.r0)))) else none)) else (some (.inr a.r0)))
noncomputable def W8.s (k : Nat) : Gq := iter (Sc ) k
theorem W8.cv (a : JO) : Cv (fun k => W8.s k a) (loopW (Sc ) a) := Cv.iter (fun a => by exact .const _) a
noncomputable def W8 : Gq := loopW (Sc )
noncomputable abbrev QjY {ρ R : Type} (a : JO) (k0 : (List ByteArray) → Tr ρ R) : Tr ρ R := .loop (loopAt pp 36 4) (XP a) (W8 a) Sb k0
noncomputable def QjZ (a : JO) : Tr (JO ⊕ (List ByteArray)) XS := (.as (decide (a.x5 ≤ (zz a.x0))) (let u94 := (a.x5 == (zz a.x0)); .as u94 (yesN 4 u94 (.yes true (.as (decide (a.x5 > a.x4)) (.as (in2 a.x4 a.x5 (zz a.x0)) (.rows [[xs (cu a.x0 a.x4 a.x5)]] (Qh [(cu a.x0 a.x4 a.x5)]) (.yes (decide ((Qh [(cu a.x0 a.x4 a.x5)]).all (fun r => r.length == 1) = true)) (.ask (decide (((Qh a.r0).length + (Qh [(cu a.x0 a.x4 a.x5)]).length) * 16 ≤ most)) (decide ((a.r0.length + [(cu a.x0 a.x4 a.x5)].length) * 16 ≤ most)) (.rows ((Qh a.r0) ++ (Qh [(cu a.x0 a.x4 a.x5)])) (Qh (a.r0 ++ [(cu a.x0 a.x4 a.x5)])) (lf XP (JO.mk a.x0 (w64 (a.x5 + 1)) (w64 (a.x5 + 1)) (a.r0 ++ [(cu a.x0 a.x4 a.x5)])))) .fail))) .fail) (lf XP (JO.mk a.x0 (w64 (a.x5 + 1)) (w64 (a.x5 + 1)) a.r0))))) (noN 2 u94 (.as (in1 a.x5 (zz a.x0)) (noN 2 u94 (.as ((gb a.x0 a.x5) == 32) (.as (decide (a.x5 > a.x4)) (.as (in2 a.x4 a.x5 (zz a.x0)) (.rows [[xs (cu a.x0 a.x4 a.x5)]] (Qh [(cu a.x0 a.x4 a.x5)]) (.yes (decide ((Qh [(cu a.x0 a.x4 a.x5)]).all (fun r => r.length == 1) = true)) (.ask (decide (((Qh a.r0).length + (Qh [(cu a.x0 a.x4 a.x5)]).length) * 16 ≤ most)) (decide ((a.r0.length + [(cu a.x0 a.x4 a.x5)].length) * 16 ≤ most)) (.rows ((Qh a.r0) ++ (Qh [(cu a.x0 a.x4 a.x5)])) (Qh (a.r0 ++ [(cu a.x0 a.x4 a.x5)])) (lf XP (JO.mk a.x0 (w64 (a.x5 + 1)) (w64 (a.x5 + 1)) (a.r0 ++ [(cu a.x0 a.x4 a.x5)])))) .fail))) .fail) (lf XP (JO.mk a.x0 (w64 (a.x5 + 1)) (w64 (a.x5 + 1)) a.r0))) (lf XP (JO.mk a.x0 a.x4 (w64 (a.x5 + 1)) a.r0)))) .fail))) (rx Sb a.r0))
theorem W8.ok {a : JO} {r : (List ByteArray)} (h : W8 a = some r) : lw 0 36 (loopAt pp 36 4) (XP a) = some (Sb r) := by
 refine lpP h QjZ fun a => ?_
 exact ⟨rfl, fun q0 => ⟨rfl, fun q1 => Qk 4 (q1) (⟨rfl, ⟨rfl, fun q2 => ⟨rfl, fun q3 => ⟨(Q9 [(a.x0.extract (Int.toNat a.x4) (Int.toNat a.x5))]), ⟨(decide_eq_true (VM _)), ⟨(by rw [QD, QD]), fun q4 => ⟨(W9 _ _), rfl⟩, fun q4 => trivial⟩⟩⟩, fun q3 => trivial⟩, fun q2 => rfl⟩⟩), fun q1 => noN_ok 2 (q1) (⟨rfl, fun q2 => noN_ok 2 (q1) (⟨rfl, fun q3 => ⟨rfl, fun q4 => ⟨rfl, fun q5 => ⟨(Q9 [(a.x0.extract (Int.toNat a.x4) (Int.toNat a.x5))]), ⟨(decide_eq_true (VM _)), ⟨(by rw [QD, QD]), fun q6 => ⟨(W9 _ _), rfl⟩, fun q6 => trivial⟩⟩⟩, fun q5 => trivial⟩, fun q4 => rfl⟩, fun q3 => rfl⟩), fun q2 => trivial⟩)⟩, fun q0 => rfl⟩
def Fh (L0 : Gq) (a0 : ByteArray) : Option (List ByteArray) := ((L0 (JO.mk a0 (0 : Int) (0 : Int) ([] : List ByteArray))).bind (fun (o1 : (List ByteArray)) => (some o1)))
theorem QnA {L0 : Nat → Gq} {M0 : Gq} (N0 : Cv1 L0 M0) (a0 : ByteArray) : Cv (fun k => Fh (L0 k) a0) (Fh M0 a0) := by
 unfold Fh
 exact .bind (N0 _) (fun o1 => by exact .const _)
noncomputable def Wx : Qjm := Fh W8
noncomputable def QnB (a0 : ByteArray) : Tr (List ByteArray) AH := (QjY (JO.mk a0 i0 i0 ([] : List ByteArray)) (fun o1 => (rt Jp o1)))
theorem Wx.ok {a0 : ByteArray} {r : (List ByteArray)} (h : Wx a0 = some r) : ww 36 [xs a0] [] = some (Jp r) := by
 refine fnP (QnB a0) ?_ h
 exact fun o1 h => ⟨W8.ok h, rfl⟩
noncomputable abbrev QnC {ρ R : Type} (a0 : ByteArray) (k : (List ByteArray) → Tr ρ R) : Tr ρ R := .call (ww 36 [xs a0] []) (Wx a0) Jp k
noncomputable def Wx.s : Nat → ByteArray → Option (List ByteArray)
 | 0, _ => none
 | k + 1, a0 => Fh (W8.s k) a0
theorem Wx.cv (a0 : ByteArray) : Cv (fun k => Wx.s k a0) (Wx a0) := .un rfl (QnA W8.cv a0)
abbrev F1 := Qy → Int → Option Int
def Fi (a0 : Qy) (a1 : Int) : Option Int := (bif (decide (a1 < (((a0.Ns.length) : Nat) : Int))) then (bif (decide (0 ≤ a1)) then ((a0.Ns[(Int.toNat a1)]?).bind fun e1 => (some e1)) else none) else (some (w64 (a0.A + a1))))
noncomputable def U1 : F1 := Fi
theorem U1.eq (a0 : Qy) (a1 : Int) : U1 a0 a1 = Fi a0 a1 := rfl
noncomputable def QhL (a0 : Qy) (a1 : Int) : Tr Int AH := (.num ((Qm a0.Ns).length) (a0.Ns.length) (.as (decide (a1 < (((a0.Ns.length) : Nat) : Int))) (.as (decide (0 ≤ a1)) (.row ((Qm a0.Ns)[(Int.toNat a1)]?) (a0.Ns[(Int.toNat a1)]?) VU fun (e1 : Int) => (rt Qq e1)) .fail) (rt Qq (w64 (a0.A + a1)))))
theorem U1.ok {a0 : Qy} {a1 : Int} {r : Int} (h : U1 a0 a1 = some r) : ww 63 [.agg (Vs a0), xi a1] [] = some (Qq r) := by
 refine fnP (QhL a0 a1) ?_ h
 exact ⟨(Q5 _), ⟨rfl, fun q0 => ⟨rfl, fun q1 => fun e1 h => ⟨Uz h, rfl⟩, fun q1 => trivial⟩, fun q0 => rfl⟩⟩
noncomputable abbrev Qbf {ρ R : Type} (a0 : Qy) (a1 : Int) (k : Int → Tr ρ R) : Tr ρ R := .call (ww 63 [.agg (Vs a0), xi a1] []) (U1 a0 a1) Qq k
abbrev Qe3 := ByteArray → Option Bool
structure UK where
 x0 : ByteArray
 x3 : Int
def Eh (a : UK) : St := { n := 28, nx := 0, env := [(0, xs a.x0), (3, xi a.x3)], heap := [] }
def So (a : Bool) : Ex × St := (.ret, { n := 28, nx := 0, env := [(2, xo a)], heap := [] })
def Sq (a : Unit) : Ex × St := (.exit 0, { n := 28, nx := 0, env := [], heap := [] })
def ZB (a : (Bool ⊕ Unit)) : Ex × St := Sum.elim So Sq a
abbrev YT := UK → Option (Bool ⊕ Unit)
def Ei (a : UK) : Option (UK ⊕ (Bool ⊕ Unit)) := (bif (decide ((w64 ((w64 (a.x3 + ((a.x0.size : Nat) : Int))) + 2)) ≤ 11)) then (bif (decide (((a.x0.size : Nat) : Int) > 0)) then (bif (decide (0 ≤ a.x3 ∧ a.x3 ≤ (w64 ((w64 (a.x3 + ((a.x0.size : Nat) : Int))) + 2)) ∧ (w64 ((w64 (a.x3 + ((a.x0.size : Nat) : Int))) + 2)) ≤ ((US.size : Nat) : Int))) then (bif (decide (((h_20.size + a.x0.size : Nat) : Int) ≤ IntKind.i64.max)) then (bif (decide ((((h_20 ++ a.x0).size + h_20.size : Nat) : Int) ≤ IntKind.i64.max)) then (bif (eqS (US.extract (Int.toNat a.x3) (Int.toNat (w64 ((w64 (a.x3 + ((a.x0.size : Nat) : Int))) + 2)))) ((h_20 ++ a.x0) ++ h_20)) then (some (.inr (.inl true))) else (some (.inl (UK.mk a.x0 (w64 (a.x3 + 1)))))) else none) else none) else none) else (some (.inr (.inr ())))) else (some (.inr (.inr ()))))
noncomputable def VS.s (k : Nat) : YT := iter (Ei ) k
theorem VS.cv (a : UK) : Cv (fun k => VS.s k a) (loopW (Ei ) a) := Cv.iter (fun a => by exact .const _) a
noncomputable def VS : YT := loopW (Ei )
noncomputable abbrev QgQ {ρ R : Type} (a : UK) (k0 : Bool → Tr ρ R) (k1 : Unit → Tr ρ R) : Tr ρ R := .loop2 (loopAt pp 39 2) (Eh a) (VS a) So Sq k0 k1
noncomputable def QgR (a : UK) : Tr (UK ⊕ (Bool ⊕ Unit)) XS := (let u95 := (decide ((w64 ((w64 (a.x3 + (zz a.x0))) + 2)) ≤ 11)); .as u95 (yesN 3 u95 (.as (decide ((zz a.x0) > 0)) (.as (in2 a.x3 (w64 ((w64 (a.x3 + (zz a.x0))) + 2)) (zz US)) (.as (decide (((h_20.size + a.x0.size : Nat) : Int) ≤ IntKind.i64.max)) (.as (decide ((((h_20 ++ a.x0).size + h_20.size : Nat) : Int) ≤ IntKind.i64.max)) (.as (eqS (cu US a.x3 (w64 ((w64 (a.x3 + (zz a.x0))) + 2))) ((h_20 ++ a.x0) ++ h_20)) (rx ZB (.inl true)) (lf Eh (UK.mk a.x0 (w64 (a.x3 + 1))))) .fail) .fail) .fail) (rx ZB (.inr ())))) (noN 3 u95 (.no false (rx ZB (.inr ())))))
theorem VS.ok {a : UK} {r : (Bool ⊕ Unit)} (h : VS a = some r) : lw 0 39 (loopAt pp 39 2) (Eh a) = some (ZB r) := by
 refine lpP h QgR fun a => ?_
 exact ⟨rfl, fun q0 => Qk 3 (q0) (⟨rfl, fun q1 => ⟨rfl, fun q2 => ⟨rfl, fun q3 => ⟨rfl, fun q4 => ⟨rfl, fun q5 => rfl, fun q5 => rfl⟩, fun q4 => trivial⟩, fun q3 => trivial⟩, fun q2 => trivial⟩, fun q1 => rfl⟩), fun q0 => noN_ok 3 (q0) (⟨rfl, rfl⟩)⟩
def ZG (L0 : YT) (a0 : ByteArray) : Option Bool := ((L0 (UK.mk a0 (0 : Int))).bind fun x => Sum.elim (fun (o1 : Bool) => (some o1)) (fun (o2 : Unit) => (some false)) x)
theorem Qj0 {L0 : Nat → YT} {M0 : YT} (N0 : Cv1 L0 M0) (a0 : ByteArray) : Cv (fun k => ZG (L0 k) a0) (ZG M0 a0) := by
 unfold ZG
 exact .bind (N0 _) fun x => .sum (fun o1 => by exact .const _) (fun o2 => by exact .const _) x
noncomputable def Um : Qe3 := ZG VS
noncomputable def Qj1 (a0 : ByteArray) : Tr Bool AH := (QgQ (UK.mk a0 i0) (fun o1 => (rt Ql o1)) (fun o2 => (rt Ql false)))
theorem Um.ok {a0 : ByteArray} {r : Bool} (h : Um a0 = some r) : ww 39 [xs a0] [] = some (Ql r) := by
 refine fnP (Qj1 a0) ?_ h
 exact ⟨fun o1 h => ⟨VS.ok (r := (.inl _)) h, rfl⟩, fun o2 h => ⟨VS.ok (r := (.inr _)) h, rfl⟩⟩
noncomputable abbrev Qj2 {ρ R : Type} (a0 : ByteArray) (k : Bool → Tr ρ R) : Tr ρ R := .call (ww 39 [xs a0] []) (Um a0) Ql k
noncomputable def Um.s : Nat → ByteArray → Option Bool
 | 0, _ => none
 | k + 1, a0 => ZG (VS.s k) a0
theorem Um.cv (a0 : ByteArray) : Cv (fun k => Um.s k a0) (Um a0) := .un rfl (Qj0 VS.cv a0)
abbrev Qe4 := ByteArray → Option Bool
def Ec (C0 : Qe3) (a0 : ByteArray) : Option Bool := ((C0 a0).bind fun r1 => (some r1))
noncomputable def WC : Qe4 := Ec Um
theorem WC.eq (a0 : ByteArray) : WC a0 = Ec Um a0 := rfl
noncomputable def Qj3 (a0 : ByteArray) : Tr Bool AH := (Qj2 a0 fun r1 => (rt Ql r1))
theorem WC.ok {a0 : ByteArray} {r : Bool} (h : WC a0 = some r) : ww 106 [xs a0] [] = some (Ql r) := by
 refine fnP (Qj3 a0) ?_ h
 exact fun r1 h => ⟨Um.ok h, rfl⟩
noncomputable abbrev Qj4 {ρ R : Type} (a0 : ByteArray) (k : Bool → Tr ρ R) : Tr ρ R := .call (ww 106 [xs a0] []) (WC a0) Ql k
abbrev QhM := Int → Int → Option Int
def Qgq (a0 : Int) (a1 : Int) : Option Int := (bif (decide (a1 ≠ 0)) then (bif (decide ((Int.tmod a0 a1) < 0)) then (some (w64 ((Int.tmod a0 a1) + a1))) else (some (Int.tmod a0 a1))) else none)
noncomputable def V2 : QhM := Qgq
theorem V2.eq (a0 : Int) (a1 : Int) : V2 a0 a1 = Qgq a0 a1 := rfl
noncomputable def Qma (a0 : Int) (a1 : Int) : Tr Int AH := (.as (decide (a1 ≠ 0)) (.as (decide ((Int.tmod a0 a1) < 0)) (rt Qq (w64 ((Int.tmod a0 a1) + a1))) (rt Qq (Int.tmod a0 a1))) .fail)
theorem V2.ok {a0 : Int} {a1 : Int} {r : Int} (h : V2 a0 a1 = some r) : ww 84 [xi a0, xi a1] [] = some (Qq r) := by
 refine fnP (Qma a0 a1) ?_ h
 exact ⟨rfl, fun q0 => ⟨rfl, fun q1 => rfl, fun q1 => rfl⟩, fun q0 => trivial⟩
noncomputable abbrev X8 {ρ R : Type} (a0 : Int) (a1 : Int) (k : Int → Tr ρ R) : Tr ρ R := .call (ww 84 [xi a0, xi a1] []) (V2 a0 a1) Qq k
abbrev Qgr := ByteArray → Int → Option Int
def Fj (C0 : QhM) (a0 : ByteArray) (a1 : Int) : Option Int := ((C0 a1 (9 : Int)).bind fun r1 => (bif (eqS a0 s_X) then (bif (decide (0 ≤ r1 ∧ r1 < (([(0 : Int), (1 : Int), (7 : Int), (24 : Int), (31 : Int), (5 : Int), (28 : Int), (3 : Int), (30 : Int)].length : Nat) : Int))) then (([(0 : Int), (1 : Int), (7 : Int), (24 : Int), (31 : Int), (5 : Int), (28 : Int), (3 : Int), (30 : Int)][(Int.toNat r1)]?).bind fun e2 => (some e2)) else none) else (bif (eqS a0 s_Y) then (bif (decide (0 ≤ r1 ∧ r1 < (([(0 : Int), (1 : Int), (7 : Int), (24 : Int), (31 : Int), (5 : Int), (28 : Int), (3 : Int), (30 : Int)].length : Nat) : Int))) then (([(0 : Int), (1 : Int), (7 : Int), (24 : Int), (31 : Int), (5 : Int), (28 : Int), (3 : Int), (30 : Int)][(Int.toNat r1)]?).bind fun e3 => (some e3)) else none) else (bif (eqS a0 s_D) then (bif (decide (0 ≤ r1 ∧ r1 < (([(0 : Int), (31 : Int), (1 : Int), (15 : Int), (16 : Int), (7 : Int), (30 : Int), (12 : Int), (3 : Int)].length : Nat) : Int))) then (([(0 : Int), (31 : Int), (1 : Int), (15 : Int), (16 : Int), (7 : Int), (30 : Int), (12 : Int), (3 : Int)][(Int.toNat r1)]?).bind fun e4 => (some e4)) else none) else (bif (eqS a0 s_A) then (bif (decide (0 ≤ r1 ∧ r1 < (([(0 : Int), (31 : Int), (1 : Int), (15 : Int), (16 : Int), (7 : Int), (30 : Int), (12 : Int), (3 : Int)].length : Nat) : Int))) then (([(0 : Int), (31 : Int), (1 : Int), (15 : Int), (16 : Int), (7 : Int), (30 : Int), (12 : Int), (3 : Int)][(Int.toNat r1)]?).bind fun e5 => (some e5)) else none) else (bif (eqS a0 s_B) then (bif (decide (0 ≤ r1 ∧ r1 < (([(0 : Int), (31 : Int), (1 : Int), (15 : Int), (16 : Int), (7 : Int), (30 : Int), (12 : Int), (3 : Int)].length : Nat) : Int))) then (([(0 : Int), (31 : Int), (1 : Int), (15 : Int), (16 : Int), (7 : Int), (30 : Int), (12 : Int), (3 : Int)][(Int.toNat r1)]?).bind fun e6 => (some e6)) else none) else (bif (eqS a0 s_U5) then (bif (decide (0 ≤ r1 ∧ r1 < (([(0 : Int), (31 : Int), (1 : Int), (15 : Int), (16 : Int), (7 : Int), (30 : Int), (12 : Int), (3 : Int)].length : Nat) : Int))) then (([(0 : Int), (31 : Int), (1 : Int), (15 : Int), (16 : Int), (7 : Int), (30 : Int), (12 : Int), (3 : Int)][(Int.toNat r1)]?).bind fun e7 => (some e7)) else none) else (bif (eqS a0 s_U7) then (bif (decide (0 ≤ r1 ∧ r1 < (([(0 : Int), (127 : Int), (64 : Int), (1 : Int), (63 : Int), (100 : Int), (7 : Int), (15 : Int), (16 : Int)].length : Nat) : Int))) then (([(0 : Int), (127 : Int), (64 : Int), (1 : Int), (63 : Int), (100 : Int), (7 : Int), (15 : Int), (16 : Int)][(Int.toNat r1)]?).bind fun e8 => (some e8)) else none) else (bif (eqS a0 s_O5) then (bif (decide (0 ≤ r1 ∧ r1 < (([(1 : Int), (32 : Int), (2 : Int), (16 : Int), (31 : Int), (17 : Int), (8 : Int), (5 : Int), (30 : Int)].length : Nat) : Int))) then (([(1 : Int), (32 : Int), (2 : Int), (16 : Int), (31 : Int), (17 : Int), (8 : Int), (5 : Int), (30 : Int)][(Int.toNat r1)]?).bind fun e9 => (some e9)) else none) else (bif (eqS a0 s_M1) then (bif (decide (0 ≤ r1 ∧ r1 < (([(0 : Int), (15 : Int), (1 : Int), (7 : Int), (8 : Int), (4 : Int), (12 : Int), (3 : Int), (14 : Int)].length : Nat) : Int))) then (([(0 : Int), (15 : Int), (1 : Int), (7 : Int), (8 : Int), (4 : Int), (12 : Int), (3 : Int), (14 : Int)][(Int.toNat r1)]?).bind fun e10 => (some e10)) else none) else (bif (eqS a0 s_I4) then (bif (decide (0 ≤ r1 ∧ r1 < (([(0 : Int), (15 : Int), (1 : Int), (7 : Int), (8 : Int), (4 : Int), (12 : Int), (3 : Int), (14 : Int)].length : Nat) : Int))) then (([(0 : Int), (15 : Int), (1 : Int), (7 : Int), (8 : Int), (4 : Int), (12 : Int), (3 : Int), (14 : Int)][(Int.toNat r1)]?).bind fun e11 => (some e11)) else none) else (bif (eqS a0 s_M2) then (bif (decide (0 ≤ r1 ∧ r1 < (([(0 : Int), (15 : Int), (1 : Int), (7 : Int), (8 : Int), (4 : Int), (12 : Int), (3 : Int), (14 : Int)].length : Nat) : Int))) then (([(0 : Int), (15 : Int), (1 : Int), (7 : Int), (8 : Int), (4 : Int), (12 : Int), (3 : Int), (14 : Int)][(Int.toNat r1)]?).bind fun e12 => (some (w64 ((2 : Int) * e12)))) else none) else (bif (eqS a0 s_M4) then (bif (decide (0 ≤ r1 ∧ r1 < (([(0 : Int), (15 : Int), (1 : Int), (7 : Int), (8 : Int), (4 : Int), (12 : Int), (3 : Int), (14 : Int)].length : Nat) : Int))) then (([(0 : Int), (15 : Int), (1 : Int), (7 : Int), (8 : Int), (4 : Int), (12 : Int), (3 : Int), (14 : Int)][(Int.toNat r1)]?).bind fun e13 => (some (w64 ((4 : Int) * e13)))) else none) else (bif (eqS a0 s_O1) then ((C0 a1 (2 : Int)).bind fun r14 => (some r14)) else (bif (eqS a0 s_I2) then ((C0 a1 (4 : Int)).bind fun r15 => (some r15)) else (bif (eqS a0 s_O2) then ((C0 a1 (4 : Int)).bind fun r16 => (some r16)) else (bif (eqS a0 s_T8) then ((C0 a1 (256 : Int)).bind fun r17 => (some (w64 ((2 : Int) * (w64 (r17 - 128)))))) else (bif (eqS a0 QpW) then (bif (decide (0 ≤ r1 ∧ r1 < (([(0 : Int), (32767 : Int), (-32768 : Int), (-1 : Int), (1 : Int), (255 : Int), (-256 : Int), (4660 : Int), (-4660 : Int)].length : Nat) : Int))) then (([(0 : Int), (32767 : Int), (-32768 : Int), (-1 : Int), (1 : Int), (255 : Int), (-256 : Int), (4660 : Int), (-4660 : Int)][(Int.toNat r1)]?).bind fun e18 => (some e18)) else none) else (bif (eqS a0 QpV) then ((C0 a1 (1048576 : Int)).bind fun r19 => (some (w64 (r19 - 524288)))) else (bif (eqS a0 QpX) then ((C0 a1 (32768 : Int)).bind fun r20 => (some (w64 ((2 : Int) * (w64 (r20 - 16384)))))) else (bif (eqS a0 Ea) then ((C0 a1 (16777216 : Int)).bind fun r21 => (some (w64 ((2 : Int) * (w64 (r21 - 8388608)))))) else (bif (decide (0 ≤ r1 ∧ r1 < (([(0 : Int), (255 : Int), (256 : Int), (65280 : Int), (-1 : Int), (-2 : Int), (16711680 : Int), (-256 : Int), (2130706432 : Int)].length : Nat) : Int))) then (([(0 : Int), (255 : Int), (256 : Int), (65280 : Int), (-1 : Int), (-2 : Int), (16711680 : Int), (-256 : Int), (2130706432 : Int)][(Int.toNat r1)]?).bind fun e22 => (some e22)) else none))))))))))))))))))))))
noncomputable def V9 : Qgr := Fj V2
theorem V9.eq (a0 : ByteArray) (a1 : Int) : V9 a0 a1 = Fj V2 a0 a1 := rfl
noncomputable def Qk9 (a0 : ByteArray) (a1 : Int) : Tr Int AH := (X8 a1 (zi 9) fun r1 => (let u101 := (eqS a0 s_X); .as u101 (.yes u101 (.rows [[xi i0], [xi (zi 1)], [xi (zi 7)], [xi (zi 24)], [xi (zi 31)], [xi (zi 5)], [xi (zi 28)], [xi (zi 3)], [xi (zi 30)]] (Qm [i0, (zi 1), (zi 7), (zi 24), (zi 31), (zi 5), (zi 28), (zi 3), (zi 30)]) (.ask (in1 r1 (((Qm [i0, (zi 1), (zi 7), (zi 24), (zi 31), (zi 5), (zi 28), (zi 3), (zi 30)]).length : Nat) : Int)) (in1 r1 (([i0, (zi 1), (zi 7), (zi 24), (zi 31), (zi 5), (zi 28), (zi 3), (zi 30)].length : Nat) : Int)) (.row ((Qm [i0, (zi 1), (zi 7), (zi 24), (zi 31), (zi 5), (zi 28), (zi 3), (zi 30)])[(Int.toNat r1)]?) ([i0, (zi 1), (zi 7), (zi 24), (zi 31), (zi 5), (zi 28), (zi 3), (zi 30)][(Int.toNat r1)]?) VU fun (e2 : Int) => (rt Qq e2)) .fail))) (.as (eqS a0 s_Y) (.rows [[xi i0], [xi (zi 1)], [xi (zi 7)], [xi (zi 24)], [xi (zi 31)], [xi (zi 5)], [xi (zi 28)], [xi (zi 3)], [xi (zi 30)]] (Qm [i0, (zi 1), (zi 7), (zi 24), (zi 31), (zi 5), (zi 28), (zi 3), (zi 30)]) (.ask (in1 r1 (((Qm [i0, (zi 1), (zi 7), (zi 24), (zi 31), (zi 5), (zi 28), (zi 3), (zi 30)]).length : Nat) : Int)) (in1 r1 (([i0, (zi 1), (zi 7), (zi 24), (zi 31), (zi 5), (zi 28), (zi 3), (zi 30)].length : Nat) : Int)) (.row ((Qm [i0, (zi 1), (zi 7), (zi 24), (zi 31), (zi 5), (zi 28), (zi 3), (zi 30)])[(Int.toNat r1)]?) ([i0, (zi 1), (zi 7), (zi 24), (zi 31), (zi 5), (zi 28), (zi 3), (zi 30)][(Int.toNat r1)]?) VU fun (e3 : Int) => (rt Qq e3)) .fail)) (let u100 := (eqS a0 s_D); .as u100 (.yes u100 (.rows [[xi i0], [xi (zi 31)], [xi (zi 1)], [xi (zi 15)], [xi (zi 16)], [xi (zi 7)], [xi (zi 30)], [xi (zi 12)], [xi (zi 3)]] (Qm [i0, (zi 31), (zi 1), (zi 15), (zi 16), (zi 7), (zi 30), (zi 12), (zi 3)]) (.ask (in1 r1 (((Qm [i0, (zi 31), (zi 1), (zi 15), (zi 16), (zi 7), (zi 30), (zi 12), (zi 3)]).length : Nat) : Int)) (in1 r1 (([i0, (zi 31), (zi 1), (zi 15), (zi 16), (zi 7), (zi 30), (zi 12), (zi 3)].length : Nat) : Int)) (.row ((Qm [i0, (zi 31), (zi 1), (zi 15), (zi 16), (zi 7), (zi 30), (zi 12), (zi 3)])[(Int.toNat r1)]?) ([i0, (zi 31), (zi 1), (zi 15), (zi 16), (zi 7), (zi 30), (zi 12), (zi 3)][(Int.toNat r1)]?) VU fun (e4 : Int) => (rt Qq e4)) .fail))) (let u99 := (eqS a0 s_A); .as u99 (.yes u99 (.rows [[xi i0], [xi (zi 31)], [xi (zi 1)], [xi (zi 15)], [xi (zi 16)], [xi (zi 7)], [xi (zi 30)], [xi (zi 12)], [xi (zi 3)]] (Qm [i0, (zi 31), (zi 1), (zi 15), (zi 16), (zi 7), (zi 30), (zi 12), (zi 3)]) (.ask (in1 r1 (((Qm [i0, (zi 31), (zi 1), (zi 15), (zi 16), (zi 7), (zi 30), (zi 12), (zi 3)]).length : Nat) : Int)) (in1 r1 (([i0, (zi 31), (zi 1), (zi 15), (zi 16), (zi 7), (zi 30), (zi 12), (zi 3)].length : Nat) : Int)) (.row ((Qm [i0, (zi 31), (zi 1), (zi 15), (zi 16), (zi 7), (zi 30), (zi 12), (zi 3)])[(Int.toNat r1)]?) ([i0, (zi 31), (zi 1), (zi 15), (zi 16), (zi 7), (zi 30), (zi 12), (zi 3)][(Int.toNat r1)]?) VU fun (e5 : Int) => (rt Qq e5)) .fail))) (let u98 := (eqS a0 s_B); .as u98 (.yes u98 (.rows [[xi i0], [xi (zi 31)], [xi (zi 1)], [xi (zi 15)], [xi (zi 16)], [xi (zi 7)], [xi (zi 30)], [xi (zi 12)], [xi (zi 3)]] (Qm [i0, (zi 31), (zi 1), (zi 15), (zi 16), (zi 7), (zi 30), (zi 12), (zi 3)]) (.ask (in1 r1 (((Qm [i0, (zi 31), (zi 1), (zi 15), (zi 16), (zi 7), (zi 30), (zi 12), (zi 3)]).length : Nat) : Int)) (in1 r1 (([i0, (zi 31), (zi 1), (zi 15), (zi 16), (zi 7), (zi 30), (zi 12), (zi 3)].length : Nat) : Int)) (.row ((Qm [i0, (zi 31), (zi 1), (zi 15), (zi 16), (zi 7), (zi 30), (zi 12), (zi 3)])[(Int.toNat r1)]?) ([i0, (zi 31), (zi 1), (zi 15), (zi 16), (zi 7), (zi 30), (zi 12), (zi 3)][(Int.toNat r1)]?) VU fun (e6 : Int) => (rt Qq e6)) .fail))) (.as (eqS a0 s_U5) (.rows [[xi i0], [xi (zi 31)], [xi (zi 1)], [xi (zi 15)], [xi (zi 16)], [xi (zi 7)], [xi (zi 30)], [xi (zi 12)], [xi (zi 3)]] (Qm [i0, (zi 31), (zi 1), (zi 15), (zi 16), (zi 7), (zi 30), (zi 12), (zi 3)]) (.ask (in1 r1 (((Qm [i0, (zi 31), (zi 1), (zi 15), (zi 16), (zi 7), (zi 30), (zi 12), (zi 3)]).length : Nat) : Int)) (in1 r1 (([i0, (zi 31), (zi 1), (zi 15), (zi 16), (zi 7), (zi 30), (zi 12), (zi 3)].length : Nat) : Int)) (.row ((Qm [i0, (zi 31), (zi 1), (zi 15), (zi 16), (zi 7), (zi 30), (zi 12), (zi 3)])[(Int.toNat r1)]?) ([i0, (zi 31), (zi 1), (zi 15), (zi 16), (zi 7), (zi 30), (zi 12), (zi 3)][(Int.toNat r1)]?) VU fun (e7 : Int) => (rt Qq e7)) .fail)) (.as (eqS a0 s_U7) (.rows [[xi i0], [xi (zi 127)], [xi (zi 64)], [xi (zi 1)], [xi (zi 63)], [xi (zi 100)], [xi (zi 7)], [xi (zi 15)], [xi (zi 16)]] (Qm [i0, (zi 127), (zi 64), (zi 1), (zi 63), (zi 100), (zi 7), (zi 15), (zi 16)]) (.ask (in1 r1 (((Qm [i0, (zi 127), (zi 64), (zi 1), (zi 63), (zi 100), (zi 7), (zi 15), (zi 16)]).length : Nat) : Int)) (in1 r1 (([i0, (zi 127), (zi 64), (zi 1), (zi 63), (zi 100), (zi 7), (zi 15), (zi 16)].length : Nat) : Int)) (.row ((Qm [i0, (zi 127), (zi 64), (zi 1), (zi 63), (zi 100), (zi 7), (zi 15), (zi 16)])[(Int.toNat r1)]?) ([i0, (zi 127), (zi 64), (zi 1), (zi 63), (zi 100), (zi 7), (zi 15), (zi 16)][(Int.toNat r1)]?) VU fun (e8 : Int) => (rt Qq e8)) .fail)) (.as (eqS a0 s_O5) (.rows [[xi (zi 1)], [xi (zi 32)], [xi (zi 2)], [xi (zi 16)], [xi (zi 31)], [xi (zi 17)], [xi (zi 8)], [xi (zi 5)], [xi (zi 30)]] (Qm [(zi 1), (zi 32), (zi 2), (zi 16), (zi 31), (zi 17), (zi 8), (zi 5), (zi 30)]) (.ask (in1 r1 (((Qm [(zi 1), (zi 32), (zi 2), (zi 16), (zi 31), (zi 17), (zi 8), (zi 5), (zi 30)]).length : Nat) : Int)) (in1 r1 (([(zi 1), (zi 32), (zi 2), (zi 16), (zi 31), (zi 17), (zi 8), (zi 5), (zi 30)].length : Nat) : Int)) (.row ((Qm [(zi 1), (zi 32), (zi 2), (zi 16), (zi 31), (zi 17), (zi 8), (zi 5), (zi 30)])[(Int.toNat r1)]?) ([(zi 1), (zi 32), (zi 2), (zi 16), (zi 31), (zi 17), (zi 8), (zi 5), (zi 30)][(Int.toNat r1)]?) VU fun (e9 : Int) => (rt Qq e9)) .fail)) (let u97 := (eqS a0 s_M1); .as u97 (.yes u97 (.rows [[xi i0], [xi (zi 15)], [xi (zi 1)], [xi (zi 7)], [xi (zi 8)], [xi (zi 4)], [xi (zi 12)], [xi (zi 3)], [xi (zi 14)]] (Qm [i0, (zi 15), (zi 1), (zi 7), (zi 8), (zi 4), (zi 12), (zi 3), (zi 14)]) (.ask (in1 r1 (((Qm [i0, (zi 15), (zi 1), (zi 7), (zi 8), (zi 4), (zi 12), (zi 3), (zi 14)]).length : Nat) : Int)) (in1 r1 (([i0, (zi 15), (zi 1), (zi 7), (zi 8), (zi 4), (zi 12), (zi 3), (zi 14)].length : Nat) : Int)) (.row ((Qm [i0, (zi 15), (zi 1), (zi 7), (zi 8), (zi 4), (zi 12), (zi 3), (zi 14)])[(Int.toNat r1)]?) ([i0, (zi 15), (zi 1), (zi 7), (zi 8), (zi 4), (zi 12), (zi 3), (zi 14)][(Int.toNat r1)]?) VU fun (e10 : Int) => (rt Qq e10)) .fail))) (.as (eqS a0 s_I4) (.rows [[xi i0], [xi (zi 15)], [xi (zi 1)], [xi (zi 7)], [xi (zi 8)], [xi (zi 4)], [xi (zi 12)], [xi (zi 3)], [xi (zi 14)]] (Qm [i0, (zi 15), (zi 1), (zi 7), (zi 8), (zi 4), (zi 12), (zi 3), (zi 14)]) (.ask (in1 r1 (((Qm [i0, (zi 15), (zi 1), (zi 7), (zi 8), (zi 4), (zi 12), (zi 3), (zi 14)]).length : Nat) : Int)) (in1 r1 (([i0, (zi 15), (zi 1), (zi 7), (zi 8), (zi 4), (zi 12), (zi 3), (zi 14)].length : Nat) : Int)) (.row ((Qm [i0, (zi 15), (zi 1), (zi 7), (zi 8), (zi 4), (zi 12), (zi 3), (zi 14)])[(Int.toNat r1)]?) ([i0, (zi 15), (zi 1), (zi 7), (zi 8), (zi 4), (zi 12), (zi 3), (zi 14)][(Int.toNat r1)]?) VU fun (e11 : Int) => (rt Qq e11)) .fail)) (.as (eqS a0 s_M2) (.rows [[xi i0], [xi (zi 15)], [xi (zi 1)], [xi (zi 7)], [xi (zi 8)], [xi (zi 4)], [xi (zi 12)], [xi (zi 3)], [xi (zi 14)]] (Qm [i0, (zi 15), (zi 1), (zi 7), (zi 8), (zi 4), (zi 12), (zi 3), (zi 14)]) (.ask (in1 r1 (((Qm [i0, (zi 15), (zi 1), (zi 7), (zi 8), (zi 4), (zi 12), (zi 3), (zi 14)]).length : Nat) : Int)) (in1 r1 (([i0, (zi 15), (zi 1), (zi 7), (zi 8), (zi 4), (zi 12), (zi 3), (zi 14)].length : Nat) : Int)) (.row ((Qm [i0, (zi 15), (zi 1), (zi 7), (zi 8), (zi 4), (zi 12), (zi 3), (zi 14)])[(Int.toNat r1)]?) ([i0, (zi 15), (zi 1), (zi 7), (zi 8), (zi 4), (zi 12), (zi 3), (zi 14)][(Int.toNat r1)]?) VU fun (e12 : Int) => (rt Qq (w64 ((zi 2) * e12)))) .fail)) (.as (eqS a0 s_M4) (.rows [[xi i0], [xi (zi 15)], [xi (zi 1)], [xi (zi 7)], [xi (zi 8)], [xi (zi 4)], [xi (zi 12)], [xi (zi 3)], [xi (zi 14)]] (Qm [i0, (zi 15), (zi 1), (zi 7), (zi 8), (zi 4), (zi 12), (zi 3), (zi 14)]) (.ask (in1 r1 (((Qm [i0, (zi 15), (zi 1), (zi 7), (zi 8), (zi 4), (zi 12), (zi 3), (zi 14)]).length : Nat) : Int)) (in1 r1 (([i0, (zi 15), (zi 1), (zi 7), (zi 8), (zi 4), (zi 12), (zi 3), (zi 14)].length : Nat) : Int)) (.row ((Qm [i0, (zi 15), (zi 1), (zi 7), (zi 8), (zi 4), (zi 12), (zi 3), (zi 14)])[(Int.toNat r1)]?) ([i0, (zi 15), (zi 1), (zi 7), (zi 8), (zi 4), (zi 12), (zi 3), (zi 14)][(Int.toNat r1)]?) VU fun (e13 : Int) => (rt Qq (w64 ((zi 4) * e13)))) .fail)) (.as (eqS a0 s_O1) (X8 a1 (zi 2) fun r14 => (rt Qq r14)) (let u96 := (eqS a0 s_I2); .as u96 (.yes u96 (X8 a1 (zi 4) fun r15 => (rt Qq r15))) (.as (eqS a0 s_O2) (X8 a1 (zi 4) fun r16 => (rt Qq r16)) (.as (eqS a0 s_T8) (X8 a1 (zi 256) fun r17 => (rt Qq (w64 ((zi 2) * (w64 (r17 - 128)))))) (.as (eqS a0 QpW) (.rows [[xi i0], [xi (zi 32767)], [xi (-32768 : Int)], [xi (-1 : Int)], [xi (zi 1)], [xi (zi 255)], [xi (-256 : Int)], [xi (zi 4660)], [xi (-4660 : Int)]] (Qm [i0, (zi 32767), (-32768 : Int), (-1 : Int), (zi 1), (zi 255), (-256 : Int), (zi 4660), (-4660 : Int)]) (.ask (in1 r1 (((Qm [i0, (zi 32767), (-32768 : Int), (-1 : Int), (zi 1), (zi 255), (-256 : Int), (zi 4660), (-4660 : Int)]).length : Nat) : Int)) (in1 r1 (([i0, (zi 32767), (-32768 : Int), (-1 : Int), (zi 1), (zi 255), (-256 : Int), (zi 4660), (-4660 : Int)].length : Nat) : Int)) (.row ((Qm [i0, (zi 32767), (-32768 : Int), (-1 : Int), (zi 1), (zi 255), (-256 : Int), (zi 4660), (-4660 : Int)])[(Int.toNat r1)]?) ([i0, (zi 32767), (-32768 : Int), (-1 : Int), (zi 1), (zi 255), (-256 : Int), (zi 4660), (-4660 : Int)][(Int.toNat r1)]?) VU fun (e18 : Int) => (rt Qq e18)) .fail)) (.as (eqS a0 QpV) (X8 a1 (zi 1048576) fun r19 => (rt Qq (w64 (r19 - 524288)))) (.as (eqS a0 QpX) (X8 a1 (zi 32768) fun r20 => (rt Qq (w64 ((zi 2) * (w64 (r20 - 16384)))))) (.as (eqS a0 Ea) (X8 a1 (zi 16777216) fun r21 => (rt Qq (w64 ((zi 2) * (w64 (r21 - 8388608)))))) (.rows [[xi i0], [xi (zi 255)], [xi (zi 256)], [xi (zi 65280)], [xi (-1 : Int)], [xi (-2 : Int)], [xi (zi 16711680)], [xi (-256 : Int)], [xi (zi 2130706432)]] (Qm [i0, (zi 255), (zi 256), (zi 65280), (-1 : Int), (-2 : Int), (zi 16711680), (-256 : Int), (zi 2130706432)]) (.ask (in1 r1 (((Qm [i0, (zi 255), (zi 256), (zi 65280), (-1 : Int), (-2 : Int), (zi 16711680), (-256 : Int), (zi 2130706432)]).length : Nat) : Int)) (in1 r1 (([i0, (zi 255), (zi 256), (zi 65280), (-1 : Int), (-2 : Int), (zi 16711680), (-256 : Int), (zi 2130706432)].length : Nat) : Int)) (.row ((Qm [i0, (zi 255), (zi 256), (zi 65280), (-1 : Int), (-2 : Int), (zi 16711680), (-256 : Int), (zi 2130706432)])[(Int.toNat r1)]?) ([i0, (zi 255), (zi 256), (zi 65280), (-1 : Int), (-2 : Int), (zi 16711680), (-256 : Int), (zi 2130706432)][(Int.toNat r1)]?) VU fun (e22 : Int) => (rt Qq e22)) .fail)))))))))))))))))))))))
theorem V9.ok {a0 : ByteArray} {a1 : Int} {r : Int} (h : V9 a0 a1 = some r) : ww 85 [xs a0, xi a1] [] = some (Qq r) := by
 refine fnP (Qk9 a0 a1) ?_ h
 exact fun r1 h => ⟨V2.ok h, ⟨rfl, fun q0 => ⟨q0, ⟨(Jo [(0 : Int), (1 : Int), (7 : Int), (24 : Int), (31 : Int), (5 : Int), (28 : Int), (3 : Int), (30 : Int)]), ⟨(by rw [Q5]), fun q1 => fun e2 h => ⟨Uz h, rfl⟩, fun q1 => trivial⟩⟩⟩, fun q0 => ⟨rfl, fun q1 => ⟨(Jo [(0 : Int), (1 : Int), (7 : Int), (24 : Int), (31 : Int), (5 : Int), (28 : Int), (3 : Int), (30 : Int)]), ⟨(by rw [Q5]), fun q2 => fun e3 h => ⟨Uz h, rfl⟩, fun q2 => trivial⟩⟩, fun q1 => ⟨rfl, fun q2 => ⟨q2, ⟨(Jo [(0 : Int), (31 : Int), (1 : Int), (15 : Int), (16 : Int), (7 : Int), (30 : Int), (12 : Int), (3 : Int)]), ⟨(by rw [Q5]), fun q3 => fun e4 h => ⟨Uz h, rfl⟩, fun q3 => trivial⟩⟩⟩, fun q2 => ⟨rfl, fun q3 => ⟨q3, ⟨(Jo [(0 : Int), (31 : Int), (1 : Int), (15 : Int), (16 : Int), (7 : Int), (30 : Int), (12 : Int), (3 : Int)]), ⟨(by rw [Q5]), fun q4 => fun e5 h => ⟨Uz h, rfl⟩, fun q4 => trivial⟩⟩⟩, fun q3 => ⟨rfl, fun q4 => ⟨q4, ⟨(Jo [(0 : Int), (31 : Int), (1 : Int), (15 : Int), (16 : Int), (7 : Int), (30 : Int), (12 : Int), (3 : Int)]), ⟨(by rw [Q5]), fun q5 => fun e6 h => ⟨Uz h, rfl⟩, fun q5 => trivial⟩⟩⟩, fun q4 => ⟨rfl, fun q5 => ⟨(Jo [(0 : Int), (31 : Int), (1 : Int), (15 : Int), (16 : Int), (7 : Int), (30 : Int), (12 : Int), (3 : Int)]), ⟨(by rw [Q5]), fun q6 => fun e7 h => ⟨Uz h, rfl⟩, fun q6 => trivial⟩⟩, fun q5 => ⟨rfl, fun q6 => ⟨(Jo [(0 : Int), (127 : Int), (64 : Int), (1 : Int), (63 : Int), (100 : Int), (7 : Int), (15 : Int), (16 : Int)]), ⟨(by rw [Q5]), fun q7 => fun e8 h => ⟨Uz h, rfl⟩, fun q7 => trivial⟩⟩, fun q6 => ⟨rfl, fun q7 => ⟨(Jo [(1 : Int), (32 : Int), (2 : Int), (16 : Int), (31 : Int), (17 : Int), (8 : Int), (5 : Int), (30 : Int)]), ⟨(by rw [Q5]), fun q8 => fun e9 h => ⟨Uz h, rfl⟩, fun q8 => trivial⟩⟩, fun q7 => ⟨rfl, fun q8 => ⟨q8, ⟨(Jo [(0 : Int), (15 : Int), (1 : Int), (7 : Int), (8 : Int), (4 : Int), (12 : Int), (3 : Int), (14 : Int)]), ⟨(by rw [Q5]), fun q9 => fun e10 h => ⟨Uz h, rfl⟩, fun q9 => trivial⟩⟩⟩, fun q8 => ⟨rfl, fun q9 => ⟨(Jo [(0 : Int), (15 : Int), (1 : Int), (7 : Int), (8 : Int), (4 : Int), (12 : Int), (3 : Int), (14 : Int)]), ⟨(by rw [Q5]), fun q10 => fun e11 h => ⟨Uz h, rfl⟩, fun q10 => trivial⟩⟩, fun q9 => ⟨rfl, fun q10 => ⟨(Jo [(0 : Int), (15 : Int), (1 : Int), (7 : Int), (8 : Int), (4 : Int), (12 : Int), (3 : Int), (14 : Int)]), ⟨(by rw [Q5]), fun q11 => fun e12 h => ⟨Uz h, rfl⟩, fun q11 => trivial⟩⟩, fun q10 => ⟨rfl, fun q11 => ⟨(Jo [(0 : Int), (15 : Int), (1 : Int), (7 : Int), (8 : Int), (4 : Int), (12 : Int), (3 : Int), (14 : Int)]), ⟨(by rw [Q5]), fun q12 => fun e13 h => ⟨Uz h, rfl⟩, fun q12 => trivial⟩⟩, fun q11 => ⟨rfl, fun q12 => fun r14 h => ⟨V2.ok h, rfl⟩, fun q12 => ⟨rfl, fun q13 => ⟨q13, fun r15 h => ⟨V2.ok h, rfl⟩⟩, fun q13 => ⟨rfl, fun q14 => fun r16 h => ⟨V2.ok h, rfl⟩, fun q14 => ⟨rfl, fun q15 => fun r17 h => ⟨V2.ok h, rfl⟩, fun q15 => ⟨rfl, fun q16 => ⟨(Jo [(0 : Int), (32767 : Int), (-32768 : Int), (-1 : Int), (1 : Int), (255 : Int), (-256 : Int), (4660 : Int), (-4660 : Int)]), ⟨(by rw [Q5]), fun q17 => fun e18 h => ⟨Uz h, rfl⟩, fun q17 => trivial⟩⟩, fun q16 => ⟨rfl, fun q17 => fun r19 h => ⟨V2.ok h, rfl⟩, fun q17 => ⟨rfl, fun q18 => fun r20 h => ⟨V2.ok h, rfl⟩, fun q18 => ⟨rfl, fun q19 => fun r21 h => ⟨V2.ok h, rfl⟩, fun q19 => ⟨(Jo [(0 : Int), (255 : Int), (256 : Int), (65280 : Int), (-1 : Int), (-2 : Int), (16711680 : Int), (-256 : Int), (2130706432 : Int)]), ⟨(by rw [Q5]), fun q20 => fun e22 h => ⟨Uz h, rfl⟩, fun q20 => trivial⟩⟩⟩⟩⟩⟩⟩⟩⟩⟩⟩⟩⟩⟩⟩⟩⟩⟩⟩⟩⟩⟩⟩
noncomputable abbrev QaI {ρ R : Type} (a0 : ByteArray) (a1 : Int) (k : Int → Tr ρ R) : Tr ρ R := .call (ww 85 [xs a0, xi a1] []) (V9 a0 a1) Qq k
abbrev ZC := Int → Int → Option Int
def Qgs (a0 : Int) (a1 : Int) : Option Int := (bif (decide (a1 ≠ 0)) then (bif (decide ((Int.tmod a0 a1) < 0)) then (some (w64 ((Int.tmod a0 a1) + a1))) else (some (Int.tmod a0 a1))) else none)
noncomputable def Vm : ZC := Qgs
theorem Vm.eq (a0 : Int) (a1 : Int) : Vm a0 a1 = Qgs a0 a1 := rfl
noncomputable def Qmb (a0 : Int) (a1 : Int) : Tr Int AH := (.as (decide (a1 ≠ 0)) (.as (decide ((Int.tmod a0 a1) < 0)) (rt Qq (w64 ((Int.tmod a0 a1) + a1))) (rt Qq (Int.tmod a0 a1))) .fail)
theorem Vm.ok {a0 : Int} {a1 : Int} {r : Int} (h : Vm a0 a1 = some r) : ww 161 [xi a0, xi a1] [] = some (Qq r) := by
 refine fnP (Qmb a0 a1) ?_ h
 exact ⟨rfl, fun q0 => ⟨rfl, fun q1 => rfl, fun q1 => rfl⟩, fun q0 => trivial⟩
noncomputable abbrev Po {ρ R : Type} (a0 : Int) (a1 : Int) (k : Int → Tr ρ R) : Tr ρ R := .call (ww 161 [xi a0, xi a1] []) (Vm a0 a1) Qq k
abbrev Qbg := Option (List ByteArray)
def QhN : Option (List ByteArray) := (some [Pt, s_x, Ew, s_r])
noncomputable def Y4 : Qbg := QhN
theorem Y4.eq : Y4 = QhN := rfl
noncomputable def QnD : Tr (List ByteArray) AH := (.rows [[xs Pt], [xs s_x], [xs Ew], [xs s_r]] (Qh [Pt, s_x, Ew, s_r]) (rt Jp [Pt, s_x, Ew, s_r]))
theorem Y4.ok {r : (List ByteArray)} (h : Y4 = some r) : ww 162 [] [] = some (Jp r) := by
 refine fnP (QnD) ?_ h
 exact ⟨(Q9 [Pt, s_x, Ew, s_r]), rfl⟩
noncomputable abbrev QnE {ρ R : Type} (k : (List ByteArray) → Tr ρ R) : Tr ρ R := .call (ww 162 [] []) (Y4) Jp k
def UL (r : Qa) : AV × Heap := (.agg (Js r), [])
abbrev Zq := Qz → Int → Option Qa
abbrev Qla (c : Zq) : Prop := ∀ (a0 : Qz) (a1 : Int) (r : Qa), c a0 a1 = some r → ww 163 [.agg (Xt a0), xi a1] [] = some (UL r)
abbrev Yo := Qz → Option Qa
abbrev Qlb (c : Yo) : Prop := ∀ (a0 : Qz) (r : Qa), c a0 = some r → ww 108 [.agg (Xt a0)] [] = some (UL r)
noncomputable abbrev Sd {ρ R : Type} (c : Zq) (a0 : Qz) (a1 : Int) (k : Qa → Tr ρ R) : Tr ρ R := .call (ww 163 [.agg (Xt a0), xi a1] []) (c a0 a1) UL k
noncomputable abbrev Qdz {ρ R : Type} (c : Yo) (a0 : Qz) (k : Qa → Tr ρ R) : Tr ρ R := .call (ww 108 [.agg (Xt a0)] []) (c a0) UL k
def YF (C0 : Yo) (C1 : ZC) (a0 : Qz) (a1 : Int) : Option Qa := (bif (decide (a1 < (((a0.L.length) : Nat) : Int))) then (bif (decide (0 ≤ a1)) then ((a0.L[(Int.toNat a1)]?).bind fun e1 => ((C0 e1).bind fun r2 => (some r2))) else none) else ((C1 (w64 (a0.N + a1)) (5 : Int)).bind fun r3 => (some (Qa.mk (1 : Int) r3 s_ ([] : List Qa)))))
theorem QdA {C0 : Nat → Yo} {D0 : Yo} (H0 : Cv1 C0 D0) {C1 : Nat → ZC} {D1 : ZC} (H1 : Cv2 C1 D1) (a0 : Qz) (a1 : Int) : Cv (fun k => YF (C0 k) (C1 k) a0 a1) (YF D0 D1 a0 a1) := by
 unfold YF
 exact .cond (.cond (.bind (.const _) fun e1 => .bind (H0 _) fun r2 => by exact .const _) cst) (.bind (H1 _ _) fun r3 => by exact .const _)
noncomputable def Qj5 (C0 : Yo) (a0 : Qz) (a1 : Int) : Tr Qa AH := (.num ((U0 a0.L).length) (a0.L.length) (.as (decide (a1 < (((a0.L.length) : Nat) : Int))) (.as (decide (0 ≤ a1)) (.row ((U0 a0.L)[(Int.toNat a1)]?) (a0.L[(Int.toNat a1)]?) Xt fun (e1 : Qz) => (Qdz C0 e1 fun r2 => (rt UL r2))) .fail) (Po (w64 (a0.N + a1)) (zi 5) fun r3 => (rt UL (Qa.mk (zi 1) r3 s_ ([] : List Qa))))))
def YG (C0 : ZC) (C1 : Qbg) (C2 : Zq) (a0 : Qz) : Option Qa := ((C0 a0.K (18 : Int)).bind fun r1 => (bif (decide (r1 < 4)) then ((C0 a0.N (8 : Int)).bind fun r2 => (bif (decide (0 ≤ r2 ∧ r2 < (([(0 : Int), (1 : Int), (2 : Int), (255 : Int), (65536 : Int), (4294967295 : Int), (40 : Int), (7 : Int)].length : Nat) : Int))) then (([(0 : Int), (1 : Int), (2 : Int), (255 : Int), (65536 : Int), (4294967295 : Int), (40 : Int), (7 : Int)][(Int.toNat r2)]?).bind fun e3 => (some (Qa.mk (1 : Int) e3 s_ ([] : List Qa)))) else none)) else (bif (decide (r1 < 8)) then ((C1).bind fun r4 => ((C0 a0.N (4 : Int)).bind fun r5 => (bif (decide (0 ≤ r5)) then ((r4[(Int.toNat r5)]?).bind fun e6 => (some (Qa.mk (2 : Int) (0 : Int) e6 ([] : List Qa)))) else none))) else (bif (r1 == 8) then (some (Qa.mk (3 : Int) (0 : Int) s_ ([] : List Qa))) else (bif (decide (r1 < 11)) then ((C2 a0 (0 : Int)).bind fun r7 => (some (Qa.mk (4 : Int) (0 : Int) s_ [r7]))) else ((C2 a0 (0 : Int)).bind fun r8 => ((C2 a0 (1 : Int)).bind fun r9 => (some (Qa.mk (w64 ((w64 ((5 : Int) + r1)) - 11)) (0 : Int) s_ [r8, r9])))))))))
theorem QdB {C0 : Nat → ZC} {D0 : ZC} (H0 : Cv2 C0 D0) {C1 : Nat → Qbg} {D1 : Qbg} (H1 : Cv C1 D1) {C2 : Nat → Zq} {D2 : Zq} (H2 : Cv2 C2 D2) (a0 : Qz) : Cv (fun k => YG (C0 k) (C1 k) (C2 k) a0) (YG D0 D1 D2 a0) := by
 unfold YG
 exact .bind (H0 _ _) fun r1 => .cond (.bind (H0 _ _) fun r2 => by exact .const _) (.cond (.bind (H1) fun r4 => .bind (H0 _ _) fun r5 => by exact .const _) (.cond cst (.cond (.bind (H2 _ _) fun r7 => by exact .const _) (.bind (H2 _ _) fun r8 => .bind (H2 _ _) fun r9 => by exact .const _))))
noncomputable def Qj6 (C0 : Zq) (a0 : Qz) : Tr Qa AH := (Po a0.K (zi 18) fun r1 => (.as (decide (r1 < 4)) (.rows [[xi i0], [xi (zi 1)], [xi (zi 2)], [xi (zi 255)], [xi (zi 65536)], [xi (zi 4294967295)], [xi (zi 40)], [xi (zi 7)]] (Qm [i0, (zi 1), (zi 2), (zi 255), (zi 65536), (zi 4294967295), (zi 40), (zi 7)]) (Po a0.N (zi 8) fun r2 => (.ask (in1 r2 (((Qm [i0, (zi 1), (zi 2), (zi 255), (zi 65536), (zi 4294967295), (zi 40), (zi 7)]).length : Nat) : Int)) (in1 r2 (([i0, (zi 1), (zi 2), (zi 255), (zi 65536), (zi 4294967295), (zi 40), (zi 7)].length : Nat) : Int)) (.row ((Qm [i0, (zi 1), (zi 2), (zi 255), (zi 65536), (zi 4294967295), (zi 40), (zi 7)])[(Int.toNat r2)]?) ([i0, (zi 1), (zi 2), (zi 255), (zi 65536), (zi 4294967295), (zi 40), (zi 7)][(Int.toNat r2)]?) VU fun (e3 : Int) => (rt UL (Qa.mk (zi 1) e3 s_ ([] : List Qa)))) .fail))) (.as (decide (r1 < 8)) (QnE fun r4 => (Po a0.N (zi 4) fun r5 => (.as (decide (0 ≤ r5)) (.row ((Qh r4)[(Int.toNat r5)]?) (r4[(Int.toNat r5)]?) Q8 fun (e6 : ByteArray) => (rt UL (Qa.mk (zi 2) i0 e6 ([] : List Qa)))) .fail))) (.as (r1 == 8) (rt UL (Qa.mk (zi 3) i0 s_ ([] : List Qa))) (.as (decide (r1 < 11)) (Sd C0 a0 i0 fun r7 => (.rows [[xi r7.Kind, xi r7.N, xs r7.Name, .sl (QX r7.L)]] (QX [r7]) (rt UL (Qa.mk (zi 4) i0 s_ [r7])))) (Sd C0 a0 i0 fun r8 => (Sd C0 a0 (zi 1) fun r9 => (.rows [[xi r8.Kind, xi r8.N, xs r8.Name, .sl (QX r8.L)], [xi r9.Kind, xi r9.N, xs r9.Name, .sl (QX r9.L)]] (QX [r8, r9]) (rt UL (Qa.mk (w64 ((w64 ((zi 5) + r1)) - 11)) i0 s_ [r8, r9]))))))))))
mutual
noncomputable def UP.s : Nat → Qz → Int → Option Qa
 | 0, _, _ => none
 | k + 1, a0, a1 => YF (fun a0 => JR.s k a0) Vm a0 a1
termination_by structural k => k
noncomputable def JR.s : Nat → Qz → Option Qa
 | 0, _ => none
 | k + 1, a0 => YG Vm Y4 (fun a0 a1 => UP.s k a0 a1) a0
termination_by structural k => k
end
theorem Qbh : ∀ (k : Nat), (Qla (UP.s k)) ∧ (Qlb (JR.s k))
 | 0 => ⟨fun _ _ _ h => (nomatch h), fun _ _ h => (nomatch h)⟩
 | k + 1 => by
  obtain ⟨i_w3_Raw_part, i_w3_Raw_Make⟩ := Qbh k
  exact ⟨fun a0 a1 r h => by
    refine fnP (Qj5 (JR.s k) a0 a1) ?_ h
    exact ⟨(Z6 _), ⟨rfl, fun q0 => ⟨rfl, fun q1 => fun e1 h => ⟨SX h, fun r2 h => ⟨i_w3_Raw_Make _ _ h, rfl⟩⟩, fun q1 => trivial⟩, fun q0 => fun r3 h => ⟨Vm.ok h, rfl⟩⟩⟩,
   fun a0 r h => by
    refine fnP (Qj6 (UP.s k) a0) ?_ h
    exact fun r1 h => ⟨Vm.ok h, ⟨rfl, fun q0 => ⟨(Jo [(0 : Int), (1 : Int), (2 : Int), (255 : Int), (65536 : Int), (4294967295 : Int), (40 : Int), (7 : Int)]), fun r2 h => ⟨Vm.ok h, ⟨(by rw [Q5]), fun q1 => fun e3 h => ⟨Uz h, rfl⟩, fun q1 => trivial⟩⟩⟩, fun q0 => ⟨rfl, fun q1 => fun r4 h => ⟨Y4.ok h, fun r5 h => ⟨Vm.ok h, ⟨rfl, fun q2 => fun e6 h => ⟨Q3 h, rfl⟩, fun q2 => trivial⟩⟩⟩, fun q1 => ⟨rfl, fun q2 => rfl, fun q2 => ⟨rfl, fun q3 => fun r7 h => ⟨i_w3_Raw_part _ _ _ h, ⟨(W0 [r7]), rfl⟩⟩, fun q3 => fun r8 h => ⟨i_w3_Raw_part _ _ _ h, fun r9 h => ⟨i_w3_Raw_part _ _ _ h, ⟨(W0 [r8, r9]), rfl⟩⟩⟩⟩⟩⟩⟩⟩⟩
theorem Ej : ∀ (k : Nat), (∀ (a0 : Qz) (a1 : Int), Le (UP.s k a0 a1) (UP.s (k + 1) a0 a1)) ∧ (∀ (a0 : Qz), Le (JR.s k a0) (JR.s (k + 1) a0))
 | 0 => ⟨fun _ _ _ h => (nomatch h), fun _ _ h => (nomatch h)⟩
 | k + 1 => by
  obtain ⟨i_w3_Raw_part, i_w3_Raw_Make⟩ := Ej k
  exact ⟨fun a0 a1 => (QdA (tw1 i_w3_Raw_Make) ks2 a0 a1).1 0,
   fun a0 => (QdB ks2 ks0 (tw2 i_w3_Raw_part) a0).1 0⟩
noncomputable def UP (a0 : Qz) (a1 : Int) : Option Qa := lim fun k => UP.s k a0 a1
theorem UP.cv (a0 : Qz) (a1 : Int) : Cv (fun k => UP.s k a0 a1) (UP a0 a1) := .lim fun k => (Ej k).1 a0 a1
noncomputable def JR (a0 : Qz) : Option Qa := lim fun k => JR.s k a0
theorem JR.cv (a0 : Qz) : Cv (fun k => JR.s k a0) (JR a0) := .lim fun k => (Ej k).2 a0
theorem JR.ok {a0 : Qz} {r : Qa} (h : JR a0 = some r) : ww 108 [.agg (Xt a0)] [] = some (UL r) := let ⟨k, e⟩ := ((JR.cv a0).2 r).1 h; (Qbh k).2 a0 _ e
theorem UP.eq (a0 : Qz) (a1 : Int) : UP a0 a1 = YF JR Vm a0 a1 := Cv.uniq (UP.cv a0 a1).shift (QdA JR.cv ks2 a0 a1)
theorem JR.eq (a0 : Qz) : JR a0 = YG Vm Y4 UP a0 := Cv.uniq (JR.cv a0).shift (QdB ks2 ks0 UP.cv a0)
noncomputable abbrev Qj7 {ρ R : Type} (a0 : Qz) (k : Qa → Tr ρ R) : Tr ρ R := Qdz JR a0 k
abbrev Qfw := (List Qz) → Option Qa
def QgS (C0 : Yo) (a0 : (List Qz)) : Option Qa := (bif ((((a0.length) : Nat) : Int) == 0) then (some (Qa.mk (1 : Int) (1 : Int) s_ ([] : List Qa))) else ((a0[(Int.toNat 0)]?).bind fun e1 => ((C0 e1).bind fun r2 => (some r2))))
noncomputable def Xo : Qfw := QgS JR
theorem Xo.eq (a0 : (List Qz)) : Xo a0 = QgS JR a0 := rfl
noncomputable def Qpl (a0 : (List Qz)) : Tr Qa AH := (.num ((U0 a0).length) (a0.length) (.as ((((a0.length) : Nat) : Int) == 0) (rt UL (Qa.mk (zi 1) (zi 1) s_ ([] : List Qa))) (.yes (decide (0 ≤ i0)) (.row ((U0 a0)[(Int.toNat 0)]?) (a0[(Int.toNat 0)]?) Xt fun (e1 : Qz) => (Qj7 e1 fun r2 => (rt UL r2))))))
theorem Xo.ok {a0 : (List Qz)} {r : Qa} (h : Xo a0 = some r) : ww 66 [.sl (U0 a0)] [] = some (UL r) := by
 refine fnP (Qpl a0) ?_ h
 exact ⟨(Z6 _), ⟨rfl, fun q0 => rfl, fun q0 => ⟨rfl, fun e1 h => ⟨SX h, fun r2 h => ⟨JR.ok h, rfl⟩⟩⟩⟩⟩
noncomputable abbrev QgT {ρ R : Type} (a0 : (List Qz)) (k : Qa → Tr ρ R) : Tr ρ R := .call (ww 66 [.sl (U0 a0)] []) (Xo a0) UL k
abbrev SD := Option (List ByteArray)
def Qgt : Option (List ByteArray) := (some [s_a, s_b1, EM, s_x])
noncomputable def Jx : SD := Qgt
theorem Jx.eq : Jx = Qgt := rfl
noncomputable def Qmc : Tr (List ByteArray) AH := (.rows [[xs s_a], [xs s_b1], [xs EM], [xs s_x]] (Qh [s_a, s_b1, EM, s_x]) (rt Jp [s_a, s_b1, EM, s_x]))
theorem Jx.ok {r : (List ByteArray)} (h : Jx = some r) : ww 64 [] [] = some (Jp r) := by
 refine fnP (Qmc) ?_ h
 exact ⟨(Q9 [s_a, s_b1, EM, s_x]), rfl⟩
noncomputable abbrev Vp {ρ R : Type} (k : (List ByteArray) → Tr ρ R) : Tr ρ R := .call (ww 64 [] []) (Jx) Jp k
abbrev Xe := Int → Option ByteArray
abbrev QhO (c : Xe) : Prop := ∀ (a0 : Int) (r : ByteArray), c a0 = some r → ww 40 [xi a0] [] = some (Qi r)
noncomputable abbrev Pp {ρ R : Type} (c : Xe) (a0 : Int) (k : ByteArray → Tr ρ R) : Tr ρ R := .call (ww 40 [xi a0] []) (c a0) Qi k
def Y5 (C0 : Xe) (a0 : Int) : Option ByteArray := (bif (decide (a0 < 0)) then ((C0 (w64 ((0 : Int) - a0))).bind fun r1 => (bif (decide (((h_2d.size + r1.size : Nat) : Int) ≤ IntKind.i64.max)) then (some (h_2d ++ r1)) else none)) else (bif (decide (a0 ≥ 10)) then ((C0 (w64 (Int.tdiv a0 (10 : Int)))).bind fun r2 => ((C0 (Int.tmod a0 (10 : Int))).bind fun r3 => (bif (decide (((r2.size + r3.size : Nat) : Int) ≤ IntKind.i64.max)) then (some (r2 ++ r3)) else none))) else ((some (listB [(IntKind.u8.wrap (w64 ((48 : Int) + a0)))])).bind fun e4 => (some (⟨e4.toArray⟩ : ByteArray)))))
theorem Qgu {C0 : Nat → Xe} {D0 : Xe} (H0 : Cv1 C0 D0) (a0 : Int) : Cv (fun k => Y5 (C0 k) a0) (Y5 D0 a0) := by
 unfold Y5
 exact .cond (.bind (H0 _) fun r1 => by exact .const _) (.cond (.bind (H0 _) fun r2 => .bind (H0 _) fun r3 => by exact .const _) cst)
noncomputable def Qmd (C0 : Xe) (a0 : Int) : Tr ByteArray AH := (.as (decide (a0 < 0)) (Pp C0 (w64 (i0 - a0)) fun r1 => (.as (decide (((h_2d.size + r1.size : Nat) : Int) ≤ IntKind.i64.max)) (rt Qi (h_2d ++ r1)) .fail)) (.as (decide (a0 ≥ 10)) (.yes (decide ((zi 10) ≠ 0)) (Pp C0 (w64 (Int.tdiv a0 (zi 10))) fun r2 => (.yes (decide ((zi 10) ≠ 0)) (Pp C0 (Int.tmod a0 (zi 10)) fun r3 => (.as (decide (((r2.size + r3.size : Nat) : Int) ≤ IntKind.i64.max)) (rt Qi (r2 ++ r3)) .fail))))) (.rows [[xb (IntKind.u8.wrap (w64 ((zi 48) + a0)))]] (R_u8 [(IntKind.u8.wrap (w64 ((zi 48) + a0)))]) (.byt (bytesOfRows (R_u8 [(IntKind.u8.wrap (w64 ((zi 48) + a0)))])) (some (listB [(IntKind.u8.wrap (w64 ((zi 48) + a0)))])) fun (e4 : List UInt8) => (rt Qi (⟨e4.toArray⟩ : ByteArray))))))
noncomputable def Ji.s : Nat → Int → Option ByteArray
 | 0, _ => none
 | k + 1, a0 => Y5 (fun a0 => Ji.s k a0) a0
termination_by structural k => k
theorem QdC : ∀ (k : Nat), (QhO (Ji.s k))
 | 0 => fun _ _ h => (nomatch h)
 | k + 1 => by
  have i_r3_Digits : QhO (Ji.s k) := QdC k
  exact fun a0 r h => by
    refine fnP (Qmd (Ji.s k) a0) ?_ h
    exact ⟨rfl, fun q0 => fun r1 h => ⟨i_r3_Digits _ _ h, ⟨rfl, fun q1 => rfl, fun q1 => trivial⟩⟩, fun q0 => ⟨rfl, fun q1 => ⟨rfl, fun r2 h => ⟨i_r3_Digits _ _ h, ⟨rfl, fun r3 h => ⟨i_r3_Digits _ _ h, ⟨rfl, fun q2 => rfl, fun q2 => trivial⟩⟩⟩⟩⟩, fun q1 => ⟨(Qpd [(IntKind.u8.wrap (w64 ((48 : Int) + a0)))]), fun e4 h => ⟨(Qof _).trans h, rfl⟩⟩⟩⟩
theorem Qct : ∀ (k : Nat), (∀ (a0 : Int), Le (Ji.s k a0) (Ji.s (k + 1) a0))
 | 0 => fun _ _ h => (nomatch h)
 | k + 1 => by
  have i_r3_Digits : ∀ (a0 : Int), Le (Ji.s k a0) (Ji.s (k + 1) a0) := Qct k
  exact fun a0 => (Qgu (tw1 i_r3_Digits) a0).1 0
noncomputable def Ji (a0 : Int) : Option ByteArray := lim fun k => Ji.s k a0
theorem Ji.cv (a0 : Int) : Cv (fun k => Ji.s k a0) (Ji a0) := .lim fun k => (Qct k) a0
theorem Ji.ok {a0 : Int} {r : ByteArray} (h : Ji a0 = some r) : ww 40 [xi a0] [] = some (Qi r) := let ⟨k, e⟩ := ((Ji.cv a0).2 r).1 h; (QdC k) a0 _ e
theorem Ji.eq (a0 : Int) : Ji a0 = Y5 Ji a0 := Cv.uniq (Ji.cv a0).shift (Qgu Ji.cv a0)
noncomputable abbrev Pq {ρ R : Type} (a0 : Int) (k : ByteArray → Tr ρ R) : Tr ρ R := Pp Ji a0 k
def Ek (r : Qe) : AV × Heap := (.tup [], [(0, .box [] (Jb r))])
abbrev Fk := Qe → Option Qe
def ZR (a : Qe) : St := { n := 31, nx := 1, env := [(0, .ptr 0 0)], heap := [(0, .box [] (Jb a))] }
def Ys (a : Qe) : Ex × St := (.exit 0, { n := 31, nx := 1, env := [], heap := [(0, .box [] (Jb a))] })
abbrev PO := Qe → Option Qe
def Yt (a : Qe) : Option (Qe ⊕ Qe) := (bif (decide (a.P < ((a.S.size : Nat) : Int))) then (bif (decide (0 ≤ a.P ∧ a.P < ((a.S.size : Nat) : Int))) then (bif (((a.S.data.getD (Int.toNat a.P) 0).toNat : Int) == 32) then (some (.inl (Qe.mk a.S (w64 (a.P + 1)) a.Deep a.Bad))) else (some (.inr a))) else none) else (some (.inr a)))
noncomputable def UM : PO := loopW (Yt )
theorem UM.eq (a : Qe) : UM a = (Yt a).bind (Sum.elim UM some) := JD _ _
noncomputable abbrev QdU {ρ R : Type} (a : Qe) (k0 : Qe → Tr ρ R) : Tr ρ R := .loop (loopAt pp 160 0) (ZR a) (UM a) Ys k0
noncomputable def QdV (a : Qe) : Tr (Qe ⊕ Qe) XS := (let u102 := (decide (a.P < (zz a.S))); .as u102 (yesN 8 u102 (.as (in1 a.P (zz a.S)) (yesN 2 u102 (.as ((gb a.S a.P) == 32) (lf ZR (Qe.mk a.S (w64 (a.P + 1)) a.Deep a.Bad)) (rx Ys a))) .fail)) (noN 10 u102 (.no false (rx Ys a))))
theorem UM.ok {a : Qe} {r : Qe} (h : UM a = some r) : lw 1 160 (loopAt pp 160 0) (ZR a) = some (Ys r) := by
 refine lpP h QdV fun a => ?_
 exact ⟨rfl, fun q0 => Qk 8 (q0) (⟨rfl, fun q1 => Qk 2 (q0) (⟨rfl, fun q2 => rfl, fun q2 => rfl⟩), fun q1 => trivial⟩), fun q0 => noN_ok 10 (q0) (⟨rfl, rfl⟩)⟩
def El (L0 : PO) (h0 : Qe) : Option Qe := ((L0 h0).bind (fun (o1 : Qe) => (some o1)))
noncomputable def UX : Fk := El UM
theorem UX.eq (h0 : Qe) : UX h0 = El UM h0 := rfl
noncomputable def QgU (h0 : Qe) : Tr Qe AH := (QdU h0 (fun o1 => (rt Ek o1)))
theorem UX.ok {h0 : Qe} {r : Qe} (h : UX h0 = some r) : ww 160 [.ptr 0 0] [(0, .box [] (Jb h0))] = some (Ek r) := by
 refine fnP (QgU h0) ?_ h
 exact fun o1 h => ⟨UM.ok h, rfl⟩
noncomputable abbrev QaJ {ρ R : Type} (h0 : Qe) (k : Qe → Tr ρ R) : Tr ρ R := .call (ww 160 [.ptr 0 0] [(0, .box [] (Jb h0))]) (UX h0) Ek k
def Zr (r : (Bool × Qe)) : AV × Heap := (xo r.1, [(0, .box [] (Jb r.2))])
abbrev Xl := ByteArray → Qe → Option (Bool × Qe)
def F2 (C0 : Fk) (a1 : ByteArray) (h0 : Qe) : Option (Bool × Qe) := ((C0 h0).bind fun r1 => (bif (decide ((w64 (r1.P + ((a1.size : Nat) : Int))) > ((r1.S.size : Nat) : Int))) then (some (false, r1)) else (bif (decide (0 ≤ r1.P ∧ r1.P ≤ (w64 (r1.P + ((a1.size : Nat) : Int))) ∧ (w64 (r1.P + ((a1.size : Nat) : Int))) ≤ ((r1.S.size : Nat) : Int))) then (bif (!(eqS (r1.S.extract (Int.toNat r1.P) (Int.toNat (w64 (r1.P + ((a1.size : Nat) : Int))))) a1)) then (some (false, r1)) else (some (true, (Qe.mk r1.S (w64 (r1.P + ((a1.size : Nat) : Int))) r1.Deep r1.Bad)))) else none)))
noncomputable def Up : Xl := F2 UX
theorem Up.eq (a1 : ByteArray) (h0 : Qe) : Up a1 h0 = F2 UX a1 h0 := rfl
noncomputable def QiD (a1 : ByteArray) (h0 : Qe) : Tr (Bool × Qe) AH := (QaJ h0 fun r1 => (let u103 := (decide ((w64 (r1.P + (zz a1))) > (zz r1.S))); .as u103 (yesN 18 u103 (.yes true (rt Zr (false, r1)))) (noN 15 u103 (.as (in2 r1.P (w64 (r1.P + (zz a1))) (zz r1.S)) (noN 3 u103 (.as (!(eqS (cu r1.S r1.P (w64 (r1.P + (zz a1)))) a1)) (rt Zr (false, r1)) (rt Zr (true, (Qe.mk r1.S (w64 (r1.P + (zz a1))) r1.Deep r1.Bad))))) .fail))))
theorem Up.ok {a1 : ByteArray} {h0 : Qe} {r : (Bool × Qe)} (h : Up a1 h0 = some r) : ww 233 [.ptr 0 0, xs a1] [(0, .box [] (Jb h0))] = some (Zr r) := by
 refine fnP (QiD a1 h0) ?_ h
 exact fun r1 h => ⟨UX.ok h, ⟨rfl, fun q0 => Qk 18 (q0) (⟨rfl, rfl⟩), fun q0 => noN_ok 15 (q0) (⟨rfl, fun q1 => noN_ok 3 (q0) (⟨rfl, fun q2 => rfl, fun q2 => rfl⟩), fun q1 => trivial⟩)⟩⟩
noncomputable abbrev Yc {ρ R : Type} (a1 : ByteArray) (h0 : Qe) (k : (Bool × Qe) → Tr ρ R) : Tr ρ R := .call (ww 233 [.ptr 0 0, xs a1] [(0, .box [] (Jb h0))]) (Up a1 h0) Zr k
abbrev PP := Int → Int → Option Int
def Fl (a0 : Int) (a1 : Int) : Option Int := (bif (decide (a0 ≥ 48)) then (bif (decide (a0 ≤ (57 : Int))) then (some (w64 (IntKind.u8.wrap (a0 - 48)))) else (bif (a1 == 16) then (bif (decide (a0 ≥ 97)) then (bif (decide (a0 ≤ (102 : Int))) then (some (w64 ((w64 (IntKind.u8.wrap (a0 - 97))) + 10))) else (some (-1 : Int))) else (some (-1 : Int))) else (some (-1 : Int)))) else (bif (a1 == 16) then (bif (decide (a0 ≥ 97)) then (bif (decide (a0 ≤ (102 : Int))) then (some (w64 ((w64 (IntKind.u8.wrap (a0 - 97))) + 10))) else (some (-1 : Int))) else (some (-1 : Int))) else (some (-1 : Int))))
noncomputable def VH : PP := Fl
theorem VH.eq (a0 : Int) (a1 : Int) : VH a0 a1 = Fl a0 a1 := rfl
noncomputable def QnF (a0 : Int) (a1 : Int) : Tr Int AH := (let u108 := (decide (a0 ≥ 48)); .as u108 (yesN 2 u108 (.as (decide (a0 ≤ (zi 57))) (rt Qq (w64 (IntKind.u8.wrap (a0 - 48)))) (let u105 := (a1 == 16); .as u105 (yesN 2 u105 (let u104 := (decide (a0 ≥ 97)); .as u104 (yesN 2 u104 (.as (decide (a0 ≤ (zi 102))) (rt Qq (w64 ((w64 (IntKind.u8.wrap (a0 - 97))) + 10))) (rt Qq (-1 : Int)))) (noN 2 u104 (.no false (rt Qq (-1 : Int)))))) (noN 2 u105 (noN 4 false (rt Qq (-1 : Int))))))) (noN 2 u108 (.no false (let u107 := (a1 == 16); .as u107 (yesN 2 u107 (let u106 := (decide (a0 ≥ 97)); .as u106 (yesN 2 u106 (.as (decide (a0 ≤ (zi 102))) (rt Qq (w64 ((w64 (IntKind.u8.wrap (a0 - 97))) + 10))) (rt Qq (-1 : Int)))) (noN 2 u106 (.no false (rt Qq (-1 : Int)))))) (noN 2 u107 (noN 4 false (rt Qq (-1 : Int))))))))
theorem VH.ok {a0 : Int} {a1 : Int} {r : Int} (h : VH a0 a1 = some r) : ww 236 [xb a0, xi a1] [] = some (Qq r) := by
 refine fnP (QnF a0 a1) ?_ h
 exact ⟨rfl, fun q0 => Qk 2 (q0) (⟨rfl, fun q1 => rfl, fun q1 => ⟨rfl, fun q2 => Qk 2 (q2) (⟨rfl, fun q3 => Qk 2 (q3) (⟨rfl, fun q4 => rfl, fun q4 => rfl⟩), fun q3 => noN_ok 2 (q3) (⟨rfl, rfl⟩)⟩), fun q2 => noN_ok 2 (q2) (noN_ok 4 (rfl) (rfl))⟩⟩), fun q0 => noN_ok 2 (q0) (⟨rfl, ⟨rfl, fun q1 => Qk 2 (q1) (⟨rfl, fun q2 => Qk 2 (q2) (⟨rfl, fun q3 => rfl, fun q3 => rfl⟩), fun q2 => noN_ok 2 (q2) (⟨rfl, rfl⟩)⟩), fun q1 => noN_ok 2 (q1) (noN_ok 4 (rfl) (rfl))⟩⟩)⟩
noncomputable abbrev Qc6 {ρ R : Type} (a0 : Int) (a1 : Int) (k : Int → Tr ρ R) : Tr ρ R := .call (ww 236 [xb a0, xi a1] []) (VH a0 a1) Qq k
def QC (r : (Qa × Qe)) : AV × Heap := (.agg (Js r.1), [(0, .box [] (Jb r.2))])
abbrev Zc := Int → Qe → Option (Qa × Qe)
structure JH where
 x1 : Int
 x5 : Int
 x6 : Int
 h0 : Qe
 h1 : Qa
structure Un where
 h0 : Qe
 h1 : Qa
structure JP where
 x5 : Int
 x6 : Int
 h0 : Qe
 h1 : Qa
def Zs (a : JH) : St := { n := 74, nx := 2, env := [(0, .ptr 0 0), (1, xi a.x1), (4, .ptr 1 0), (5, xi a.x5), (6, xi a.x6)], heap := [(0, .box [] (Jb a.h0)), (1, .box [] (Js a.h1))] }
def G5 (a : Un) : Ex × St := (.ret, { n := 74, nx := 2, env := [(4, .ptr 1 0)], heap := [(0, .box [] (Jb a.h0)), (1, .box [] (Js a.h1))] })
def G6 (a : JP) : Ex × St := (.exit 0, { n := 74, nx := 2, env := [(0, .ptr 0 0), (4, .ptr 1 0), (5, xi a.x5), (6, xi a.x6)], heap := [(0, .box [] (Jb a.h0)), (1, .box [] (Js a.h1))] })
def XN (a : (Un ⊕ JP)) : Ex × St := Sum.elim G5 G6 a
abbrev Fm := JH → Option (Un ⊕ JP)
def W4 (C0 : PP) (a : JH) : Option (JH ⊕ (Un ⊕ JP)) := (bif (decide (a.h0.P < ((a.h0.S.size : Nat) : Int))) then (bif (decide (0 ≤ a.h0.P ∧ a.h0.P < ((a.h0.S.size : Nat) : Int))) then ((C0 ((a.h0.S.data.getD (Int.toNat a.h0.P) 0).toNat : Int) a.x1).bind fun r1 => (bif (decide (r1 ≥ 0)) then ((C0 ((a.h0.S.data.getD (Int.toNat a.h0.P) 0).toNat : Int) a.x1).bind fun r2 => (bif (decide ((w64 ((w64 (a.x1 * a.x5)) + r2)) ≥ 4294967296)) then (some (.inr (.inl (Un.mk (Qe.mk a.h0.S (w64 (a.h0.P + 1)) a.h0.Deep true) (Qa.mk (0 : Int) (0 : Int) s_ ([] : List Qa)))))) else (some (.inl (JH.mk a.x1 (w64 ((w64 (a.x1 * a.x5)) + r2)) a.x6 (Qe.mk a.h0.S (w64 (a.h0.P + 1)) a.h0.Deep a.h0.Bad) a.h1))))) else (some (.inr (.inr (JP.mk a.x5 a.x6 a.h0 a.h1)))))) else none) else (some (.inr (.inr (JP.mk a.x5 a.x6 a.h0 a.h1)))))
noncomputable def Ja : Fm := loopW (W4 VH)
theorem Ja.eq (a : JH) : Ja a = (W4 VH a).bind (Sum.elim Ja some) := JD _ _
noncomputable abbrev Qcu {ρ R : Type} (a : JH) (k0 : Un → Tr ρ R) (k1 : JP → Tr ρ R) : Tr ρ R := .loop2 (loopAt pp 235 2) (Zs a) (Ja a) G5 G6 k0 k1
noncomputable def Qcv (a : JH) : Tr (JH ⊕ (Un ⊕ JP)) XS := (let u110 := (decide (a.h0.P < (zz a.h0.S))); .as u110 (yesN 8 u110 (let u109 := (in1 a.h0.P (zz a.h0.S)); .as u109 (yesN 2 u110 (Qc6 (gb a.h0.S a.h0.P) a.x1 fun r1 => (yesN 2 u110 (.as (decide (r1 ≥ 0)) (.yes u109 (Qc6 (gb a.h0.S a.h0.P) a.x1 fun r2 => (.as (decide ((w64 ((w64 (a.x1 * a.x5)) + r2)) ≥ 4294967296)) (rx XN (.inl (Un.mk (Qe.mk a.h0.S (w64 (a.h0.P + 1)) a.h0.Deep true) (Qa.mk i0 i0 s_ ([] : List Qa))))) (lf Zs (JH.mk a.x1 (w64 ((w64 (a.x1 * a.x5)) + r2)) a.x6 (Qe.mk a.h0.S (w64 (a.h0.P + 1)) a.h0.Deep a.h0.Bad) a.h1))))) (rx XN (.inr (JP.mk a.x5 a.x6 a.h0 a.h1))))))) .fail)) (noN 12 u110 (.no false (rx XN (.inr (JP.mk a.x5 a.x6 a.h0 a.h1))))))
theorem Ja.ok {a : JH} {r : (Un ⊕ JP)} (h : Ja a = some r) : lw 1 235 (loopAt pp 235 2) (Zs a) = some (XN r) := by
 refine lpP h Qcv fun a => ?_
 exact ⟨rfl, fun q0 => Qk 8 (q0) (⟨rfl, fun q1 => Qk 2 (q0) (fun r1 h => ⟨VH.ok h, Qk 2 (q0) (⟨rfl, fun q2 => ⟨q1, fun r2 h => ⟨VH.ok h, ⟨rfl, fun q3 => rfl, fun q3 => rfl⟩⟩⟩, fun q2 => rfl⟩)⟩), fun q1 => trivial⟩), fun q0 => noN_ok 12 (q0) (⟨rfl, rfl⟩)⟩
def YU (L0 : Fm) (a1 : Int) (h0 : Qe) : Option (Qa × Qe) := ((L0 (JH.mk a1 (0 : Int) h0.P h0 (Qa.mk (0 : Int) (0 : Int) s_ ([] : List Qa)))).bind fun x => Sum.elim (fun (o1 : Un) => (some (o1.h1, o1.h0))) (fun (o2 : JP) => (bif (o2.x6 == o2.h0.P) then (some ((Qa.mk (1 : Int) o2.x5 s_ ([] : List Qa)), (Qe.mk o2.h0.S o2.h0.P o2.h0.Deep true))) else (some ((Qa.mk (1 : Int) o2.x5 s_ ([] : List Qa)), o2.h0)))) x)
noncomputable def J6 : Zc := YU Ja
theorem J6.eq (a1 : Int) (h0 : Qe) : J6 a1 h0 = YU Ja a1 h0 := rfl
noncomputable def Qe5 (a1 : Int) (h0 : Qe) : Tr (Qa × Qe) AH := (Qcu (JH.mk a1 i0 h0.P h0 (Qa.mk i0 i0 s_ ([] : List Qa))) (fun o1 => (rt QC (o1.h1, o1.h0))) (fun o2 => (.as (o2.x6 == o2.h0.P) (rt QC ((Qa.mk (zi 1) o2.x5 s_ ([] : List Qa)), (Qe.mk o2.h0.S o2.h0.P o2.h0.Deep true))) (rt QC ((Qa.mk (zi 1) o2.x5 s_ ([] : List Qa)), o2.h0)))))
theorem J6.ok {a1 : Int} {h0 : Qe} {r : (Qa × Qe)} (h : J6 a1 h0 = some r) : ww 235 [.ptr 0 0, xi a1] [(0, .box [] (Jb h0))] = some (QC r) := by
 refine fnP (Qe5 a1 h0) ?_ h
 exact ⟨fun o1 h => ⟨Ja.ok (r := (.inl _)) h, rfl⟩, fun o2 h => ⟨Ja.ok (r := (.inr _)) h, ⟨rfl, fun q0 => rfl, fun q0 => rfl⟩⟩⟩
noncomputable abbrev PQ {ρ R : Type} (a1 : Int) (h0 : Qe) (k : (Qa × Qe) → Tr ρ R) : Tr ρ R := .call (ww 235 [.ptr 0 0, xi a1] [(0, .box [] (Jb h0))]) (J6 a1 h0) QC k
abbrev Z0 := Qe → Option (Qa × Qe)
structure QM where
 x3 : Int
 h0 : Qe
 h1 : Qa
structure Jf where
 x3 : Int
 h0 : Qe
 h1 : Qa
def Vk (a : QM) : St := { n := 111, nx := 2, env := [(0, .ptr 0 0), (2, .ptr 1 0), (3, xi a.x3)], heap := [(0, .box [] (Jb a.h0)), (1, .box [] (Js a.h1))] }
def Wo (a : Jf) : Ex × St := (.exit 0, { n := 111, nx := 2, env := [(0, .ptr 0 0), (2, .ptr 1 0), (3, xi a.x3)], heap := [(0, .box [] (Jb a.h0)), (1, .box [] (Js a.h1))] })
abbrev PT := QM → Option Jf
def Yu (a : QM) : Option (QM ⊕ Jf) := (bif (decide (a.h0.P < ((a.h0.S.size : Nat) : Int))) then (bif (decide (0 ≤ a.h0.P ∧ a.h0.P < ((a.h0.S.size : Nat) : Int))) then (bif (decide (((a.h0.S.data.getD (Int.toNat a.h0.P) 0).toNat : Int) ≥ 97)) then (bif (decide (((a.h0.S.data.getD (Int.toNat a.h0.P) 0).toNat : Int) ≤ 122)) then (some (.inl (QM.mk a.x3 (Qe.mk a.h0.S (w64 (a.h0.P + 1)) a.h0.Deep a.h0.Bad) a.h1))) else (bif (decide (((a.h0.S.data.getD (Int.toNat a.h0.P) 0).toNat : Int) ≥ 48)) then (bif (decide (((a.h0.S.data.getD (Int.toNat a.h0.P) 0).toNat : Int) ≤ 57)) then (some (.inl (QM.mk a.x3 (Qe.mk a.h0.S (w64 (a.h0.P + 1)) a.h0.Deep a.h0.Bad) a.h1))) else (bif (((a.h0.S.data.getD (Int.toNat a.h0.P) 0).toNat : Int) == 95) then (some (.inl (QM.mk a.x3 (Qe.mk a.h0.S (w64 (a.h0.P + 1)) a.h0.Deep a.h0.Bad) a.h1))) else (some (.inr (Jf.mk a.x3 a.h0 a.h1))))) else (bif (((a.h0.S.data.getD (Int.toNat a.h0.P) 0).toNat : Int) == 95) then (some (.inl (QM.mk a.x3 (Qe.mk a.h0.S (w64 (a.h0.P + 1)) a.h0.Deep a.h0.Bad) a.h1))) else (some (.inr (Jf.mk a.x3 a.h0 a.h1)))))) else (bif (decide (((a.h0.S.data.getD (Int.toNat a.h0.P) 0).toNat : Int) ≥ 48)) then (bif (decide (((a.h0.S.data.getD (Int.toNat a.h0.P) 0).toNat : Int) ≤ 57)) then (some (.inl (QM.mk a.x3 (Qe.mk a.h0.S (w64 (a.h0.P + 1)) a.h0.Deep a.h0.Bad) a.h1))) else (bif (((a.h0.S.data.getD (Int.toNat a.h0.P) 0).toNat : Int) == 95) then (some (.inl (QM.mk a.x3 (Qe.mk a.h0.S (w64 (a.h0.P + 1)) a.h0.Deep a.h0.Bad) a.h1))) else (some (.inr (Jf.mk a.x3 a.h0 a.h1))))) else (bif (((a.h0.S.data.getD (Int.toNat a.h0.P) 0).toNat : Int) == 95) then (some (.inl (QM.mk a.x3 (Qe.mk a.h0.S (w64 (a.h0.P + 1)) a.h0.Deep a.h0.Bad) a.h1))) else (some (.inr (Jf.mk a.x3 a.h0 a.h1)))))) else none) else (some (.inr (Jf.mk a.x3 a.h0 a.h1))))
noncomputable def Uy : PT := loopW (Yu )
theorem Uy.eq (a : QM) : Uy a = (Yu a).bind (Sum.elim Uy some) := JD _ _
noncomputable abbrev QdW {ρ R : Type} (a : QM) (k0 : Jf → Tr ρ R) : Tr ρ R := .loop (loopAt pp 237 2) (Vk a) (Uy a) Wo k0
noncomputable def QdX (a : QM) : Tr (QM ⊕ Jf) XS := (let u118 := (decide (a.h0.P < (zz a.h0.S))); .as u118 (yesN 8 u118 (let u117 := (in1 a.h0.P (zz a.h0.S)); .as u117 (yesN 2 u118 (let u116 := (decide ((gb a.h0.S a.h0.P) ≥ 97)); .as u116 (yesN 8 u116 (.yes u117 (.yes u116 (.yes u118 (.yes u116 (.yes u118 (let u113 := (decide ((gb a.h0.S a.h0.P) ≤ 122)); .as u113 (yesN 11 u113 (.yes u118 (.yes u113 (.yes u118 (yesN 10 true (.yes u118 (.yes true (.yes u118 (.yes true (lf Vk (QM.mk a.x3 (Qe.mk a.h0.S (w64 (a.h0.P + 1)) a.h0.Deep a.h0.Bad) a.h1))))))))))) (noN 8 u113 (.yes u117 (noN 2 u113 (let u112 := (decide ((gb a.h0.S a.h0.P) ≥ 48)); .as u112 (yesN 8 u112 (.yes u117 (.yes u112 (.no u113 (.yes u112 (.yes u118 (.no u113 (.yes u118 (let u111 := (decide ((gb a.h0.S a.h0.P) ≤ 57)); .as u111 (yesN 9 u111 (.yes u118 (.yes u111 (.yes u118 (.yes true (lf Vk (QM.mk a.x3 (Qe.mk a.h0.S (w64 (a.h0.P + 1)) a.h0.Deep a.h0.Bad) a.h1))))))) (noN 8 u111 (.yes u117 (.no u111 (.yes u118 (.no u111 (.yes u118 (.as ((gb a.h0.S a.h0.P) == 95) (lf Vk (QM.mk a.x3 (Qe.mk a.h0.S (w64 (a.h0.P + 1)) a.h0.Deep a.h0.Bad) a.h1)) (rx Wo (Jf.mk a.x3 a.h0 a.h1)))))))))))))))))) (noN 9 u112 (.no u113 (.no u112 (.yes u118 (.no u113 (.yes u118 (noN 9 false (.yes u117 (.no false (.yes u118 (.no false (.yes u118 (.as ((gb a.h0.S a.h0.P) == 95) (lf Vk (QM.mk a.x3 (Qe.mk a.h0.S (w64 (a.h0.P + 1)) a.h0.Deep a.h0.Bad) a.h1)) (rx Wo (Jf.mk a.x3 a.h0 a.h1)))))))))))))))))))))))))) (noN 9 u116 (.yes u118 (.no u116 (.yes u118 (noN 9 false (.yes u117 (noN 2 false (let u115 := (decide ((gb a.h0.S a.h0.P) ≥ 48)); .as u115 (yesN 8 u115 (.yes u117 (.yes u115 (.no false (.yes u115 (.yes u118 (.no false (.yes u118 (let u114 := (decide ((gb a.h0.S a.h0.P) ≤ 57)); .as u114 (yesN 9 u114 (.yes u118 (.yes u114 (.yes u118 (.yes true (lf Vk (QM.mk a.x3 (Qe.mk a.h0.S (w64 (a.h0.P + 1)) a.h0.Deep a.h0.Bad) a.h1))))))) (noN 8 u114 (.yes u117 (.no u114 (.yes u118 (.no u114 (.yes u118 (.as ((gb a.h0.S a.h0.P) == 95) (lf Vk (QM.mk a.x3 (Qe.mk a.h0.S (w64 (a.h0.P + 1)) a.h0.Deep a.h0.Bad) a.h1)) (rx Wo (Jf.mk a.x3 a.h0 a.h1)))))))))))))))))) (noN 9 u115 (.no false (.no u115 (.yes u118 (.no false (.yes u118 (noN 9 false (.yes u117 (.no false (.yes u118 (.no false (.yes u118 (.as ((gb a.h0.S a.h0.P) == 95) (lf Vk (QM.mk a.x3 (Qe.mk a.h0.S (w64 (a.h0.P + 1)) a.h0.Deep a.h0.Bad) a.h1)) (rx Wo (Jf.mk a.x3 a.h0 a.h1))))))))))))))))))))))))) .fail)) (noN 16 u118 (.no false (rx Wo (Jf.mk a.x3 a.h0 a.h1)))))
theorem Uy.ok {a : QM} {r : Jf} (h : Uy a = some r) : lw 1 237 (loopAt pp 237 2) (Vk a) = some (Wo r) := by
 refine lpP h QdX fun a => ?_
 exact ⟨rfl, fun q0 => Qk 8 (q0) (⟨rfl, fun q1 => Qk 2 (q0) (⟨rfl, fun q2 => Qk 8 (q2) (⟨q1, ⟨q2, ⟨q0, ⟨q2, ⟨q0, ⟨rfl, fun q3 => Qk 11 (q3) (⟨q0, ⟨q3, ⟨q0, Qk 10 (rfl) (⟨q0, ⟨rfl, ⟨q0, ⟨rfl, rfl⟩⟩⟩⟩)⟩⟩⟩), fun q3 => noN_ok 8 (q3) (⟨q1, noN_ok 2 (q3) (⟨rfl, fun q4 => Qk 8 (q4) (⟨q1, ⟨q4, ⟨q3, ⟨q4, ⟨q0, ⟨q3, ⟨q0, ⟨rfl, fun q5 => Qk 9 (q5) (⟨q0, ⟨q5, ⟨q0, ⟨rfl, rfl⟩⟩⟩⟩), fun q5 => noN_ok 8 (q5) (⟨q1, ⟨q5, ⟨q0, ⟨q5, ⟨q0, ⟨rfl, fun q6 => rfl, fun q6 => rfl⟩⟩⟩⟩⟩⟩)⟩⟩⟩⟩⟩⟩⟩⟩), fun q4 => noN_ok 9 (q4) (⟨q3, ⟨q4, ⟨q0, ⟨q3, ⟨q0, noN_ok 9 (rfl) (⟨q1, ⟨rfl, ⟨q0, ⟨rfl, ⟨q0, ⟨rfl, fun q5 => rfl, fun q5 => rfl⟩⟩⟩⟩⟩⟩)⟩⟩⟩⟩⟩)⟩)⟩)⟩⟩⟩⟩⟩⟩), fun q2 => noN_ok 9 (q2) (⟨q0, ⟨q2, ⟨q0, noN_ok 9 (rfl) (⟨q1, noN_ok 2 (rfl) (⟨rfl, fun q3 => Qk 8 (q3) (⟨q1, ⟨q3, ⟨rfl, ⟨q3, ⟨q0, ⟨rfl, ⟨q0, ⟨rfl, fun q4 => Qk 9 (q4) (⟨q0, ⟨q4, ⟨q0, ⟨rfl, rfl⟩⟩⟩⟩), fun q4 => noN_ok 8 (q4) (⟨q1, ⟨q4, ⟨q0, ⟨q4, ⟨q0, ⟨rfl, fun q5 => rfl, fun q5 => rfl⟩⟩⟩⟩⟩⟩)⟩⟩⟩⟩⟩⟩⟩⟩), fun q3 => noN_ok 9 (q3) (⟨rfl, ⟨q3, ⟨q0, ⟨rfl, ⟨q0, noN_ok 9 (rfl) (⟨q1, ⟨rfl, ⟨q0, ⟨rfl, ⟨q0, ⟨rfl, fun q4 => rfl, fun q4 => rfl⟩⟩⟩⟩⟩⟩)⟩⟩⟩⟩⟩)⟩)⟩)⟩⟩⟩)⟩), fun q1 => trivial⟩), fun q0 => noN_ok 16 (q0) (⟨rfl, rfl⟩)⟩
def Em (C0 : QkM) (L1 : PT) (h0 : Qe) : Option (Qa × Qe) := ((L1 (QM.mk h0.P h0 (Qa.mk (0 : Int) (0 : Int) s_ ([] : List Qa)))).bind (fun (o1 : Jf) => (bif (decide (0 ≤ o1.x3 ∧ o1.x3 ≤ o1.h0.P ∧ o1.h0.P ≤ ((o1.h0.S.size : Nat) : Int))) then ((C0 (o1.h0.S.extract (Int.toNat o1.x3) (Int.toNat o1.h0.P))).bind fun r2 => (bif (!r2) then (some ((Qa.mk (2 : Int) (0 : Int) (o1.h0.S.extract (Int.toNat o1.x3) (Int.toNat o1.h0.P)) ([] : List Qa)), (Qe.mk o1.h0.S o1.h0.P o1.h0.Deep true))) else (some ((Qa.mk (2 : Int) (0 : Int) (o1.h0.S.extract (Int.toNat o1.x3) (Int.toNat o1.h0.P)) ([] : List Qa)), o1.h0)))) else none)))
noncomputable def Vt : Z0 := Em ZJ Uy
theorem Vt.eq (h0 : Qe) : Vt h0 = Em ZJ Uy h0 := rfl
noncomputable def QgV (h0 : Qe) : Tr (Qa × Qe) AH := (QdW (QM.mk h0.P h0 (Qa.mk i0 i0 s_ ([] : List Qa))) (fun o1 => (let u119 := (in2 o1.x3 o1.h0.P (zz o1.h0.S)); .as u119 (Qoi (cu o1.h0.S o1.x3 o1.h0.P) fun r2 => (.as (!r2) (.yes u119 (rt QC ((Qa.mk (zi 2) i0 (cu o1.h0.S o1.x3 o1.h0.P) ([] : List Qa)), (Qe.mk o1.h0.S o1.h0.P o1.h0.Deep true)))) (.yes u119 (rt QC ((Qa.mk (zi 2) i0 (cu o1.h0.S o1.x3 o1.h0.P) ([] : List Qa)), o1.h0))))) .fail)))
theorem Vt.ok {h0 : Qe} {r : (Qa × Qe)} (h : Vt h0 = some r) : ww 237 [.ptr 0 0] [(0, .box [] (Jb h0))] = some (QC r) := by
 refine fnP (QgV h0) ?_ h
 exact fun o1 h => ⟨Uy.ok h, ⟨rfl, fun q0 => fun r2 h => ⟨ZJ.ok h, ⟨rfl, fun q1 => ⟨q0, rfl⟩, fun q1 => ⟨q0, rfl⟩⟩⟩, fun q0 => trivial⟩⟩
noncomputable abbrev QaK {ρ R : Type} (h0 : Qe) (k : (Qa × Qe) → Tr ρ R) : Tr ρ R := .call (ww 237 [.ptr 0 0] [(0, .box [] (Jb h0))]) (Vt h0) QC k
def YV (r : (ByteArray × Int)) : AV × Heap := (.tup [xs r.1, xi r.2], [])
abbrev QaL := Int → Option (ByteArray × Int)
end Go.Ab
