/- LineLabels: part 2 of the proof that, whatever the input, the law returns true and the input reads as it did; its conditions are those of the given row. -/
import Derived.Test.YtblfhkldljfhiaaGreatDoorZLineLabels1
import Derived.Test.YtblfhkldljfhiaaGreatDoorProg
set_option linter.unusedVariables false
set_option linter.unusedSimpArgs false
namespace Go.Ab
open Go.Proofs
def Q2 (x : ByteArray) : List AV := [.sc (.string x)]
def Qg (l : List ByteArray) : List (List AV) := l.map Q2
theorem QS (l : List ByteArray) : l.map Q2 = Qg l := rfl
theorem UQ (l m : List ByteArray) : Qg l ++ Qg m = Qg (l ++ m) := by simp only [← QS, List.map_append]
theorem Qmo (l : List ByteArray) (i : Nat) (a : ByteArray) : (Qg l).set i (Q2 a) = Qg (l.set i a) := by simp only [← QS, List.map_set]
theorem QjX (l : List ByteArray) (i n : Nat) : ((Qg l).drop i).take n = Qg ((l.drop i).take n) := by simp only [← QS, List.map_take, List.map_drop]
theorem QT {l : List ByteArray} {n : Nat} {a : ByteArray} (h : l[n]? = some a) : (Qg l)[n]? = some (Q2 a) := by rw [← QS]; exact ZT h
theorem J7 (l : List ByteArray) : (Qg l).all (fun r => r.length == 1) = true := by rw [← QS]; exact Qh1 (C := Q2) (fun _ => rfl) l
theorem Qo (l : List ByteArray) : (Qg l).length = l.length := by rw [← QS, List.length_map]
def C_u8 (x : Int) : List AV := [.sc (.int .u8 x)]
def R_u8 (l : List Int) : List (List AV) := l.map C_u8
theorem QrF (l : List Int) : l.map C_u8 = R_u8 l := rfl
def Xq (x : Int) : List AV := [.sc (.int .i64 x)]
def Jc (l : List Int) : List (List AV) := l.map Xq
theorem Us (l : List Int) : l.map Xq = Jc l := rfl
theorem Vy {l : List Int} {n : Nat} {a : Int} (h : l[n]? = some a) : (Jc l)[n]? = some (Xq a) := by rw [← Us]; exact ZT h
theorem Vp (l : List Int) : (Jc l).length = l.length := by rw [← Us, List.length_map]
structure Qa where
 Kind : Int
 N : Int
 Name : ByteArray
 L : (List Qa)
deriving Inhabited
mutual
def QiV : Qa → List AV
 | ⟨x0, x1, x2, x3⟩ => [.sc (.int .i64 x0), .sc (.int .i64 x1), .sc (.string x2), .sl (QN x3)]
def QN : List Qa → List (List AV)
 | [] => []
 | x :: l => QiV x :: QN l
end
def Q3 (x : Qa) : List AV := [.sc (.int .i64 x.Kind), .sc (.int .i64 x.N), .sc (.string x.Name), .sl (QN x.L)]
theorem Xh (l : List Qa) : l.map Q3 = QN l := by
 induction l with
 | nil => rw [QN]; rfl
 | cons x l ih => rw [QN, List.map_cons, ih]; congr 1; cases x; rw [QiV]; rfl
theorem Zz {l : List Qa} {n : Nat} {a : Qa} (h : l[n]? = some a) : (QN l)[n]? = some (Q3 a) := by rw [← Xh]; exact ZT h
theorem GR (l : List Qa) : (QN l).length = l.length := by rw [← Xh, List.length_map]
structure Qc where
 Reg : Int
 E : Qa
deriving Inhabited
def WV (x : Qc) : List AV := [.sc (.int .i64 x.Reg), .sc (.int .i64 x.E.Kind), .sc (.int .i64 x.E.N), .sc (.string x.E.Name), .sl (QN x.E.L)]
def Qj (l : List Qc) : List (List AV) := l.map WV
theorem JE (l : List Qc) : l.map WV = Qj l := rfl
theorem UV (l m : List Qc) : Qj l ++ Qj m = Qj (l ++ m) := by simp only [← JE, List.map_append]
theorem Yc {l : List Qc} {n : Nat} {a : Qc} (h : l[n]? = some a) : (Qj l)[n]? = some (WV a) := by rw [← JE]; exact ZT h
theorem VS (l : List Qc) : (Qj l).all (fun r => r.length == 5) = true := by rw [← JE]; exact Qh1 (C := WV) (fun _ => rfl) l
theorem Jb (l : List Qc) : (Qj l).length = l.length := by rw [← JE, List.length_map]
structure Qb where
 Line : Int
 Label : ByteArray
 Kind : Int
 Op : Int
 Text : ByteArray
 Args : (List Qc)
deriving Inhabited
def WN (x : Qb) : List AV := [.sc (.int .i64 x.Line), .sc (.string x.Label), .sc (.int .i64 x.Kind), .sc (.int .i64 x.Op), .sc (.string x.Text), .sl (Qj x.Args)]
structure Qh where
 x : Qb
deriving Inhabited
structure Qe where
 name : ByteArray
 bits : Int
 kinds : ByteArray
deriving Inhabited
def Y8 (x : Qe) : List AV := [.sc (.string x.name), .sc (.int .u32 x.bits), .sc (.string x.kinds)]
def XC (l : List Qe) : List (List AV) := l.map Y8
theorem Sx (l : List Qe) : l.map Y8 = XC l := rfl
theorem Qd6 {l : List Qe} {n : Nat} {a : Qe} (h : l[n]? = some a) : (XC l)[n]? = some (Y8 a) := by rw [← Sx]; exact ZT h
theorem Qd7 (l : List Qe) : (XC l).length = l.length := by rw [← Sx, List.length_map]
def Qfh (x : Nat) : List AV := [.fn (.func x) [] []]
def J8 (l : List Nat) : List (List AV) := l.map Qfh
theorem Y9 (l : List Nat) : l.map Qfh = J8 l := rfl
theorem Sy (l m : List Nat) : J8 l ++ J8 m = J8 (l ++ m) := by simp only [← Y9, List.map_append]
theorem Qpz {l : List Nat} {n : Nat} {a : Nat} (h : l[n]? = some a) : (J8 l)[n]? = some (Qfh a) := by rw [← Y9]; exact ZT h
theorem Qdq (l : List Nat) : (J8 l).all (fun r => r.length == 1) = true := by rw [← Y9]; exact Qh1 (C := Qfh) (fun _ => rfl) l
theorem Yh (l : List Nat) : (J8 l).length = l.length := by rw [← Y9, List.length_map]
structure Qd where
 left : ByteArray
 deep : Int
 bad : Bool
deriving Inhabited
def QQ (x : Qd) : List AV := [.sc (.string x.left), .sc (.int .i64 x.deep), .sc (.bool x.bad)]
def Qfi (x : (List Int)) : List AV := [.sl (Jc x)]
def P1 (l : List (List Int)) : List (List AV) := l.map Qfi
theorem Qdr (l : List (List Int)) : l.map Qfi = P1 l := rfl
theorem QiW {l : List (List Int)} {n : Nat} {a : (List Int)} (h : l[n]? = some a) : (P1 l)[n]? = some (Qfi a) := by rw [← Qdr]; exact ZT h
theorem QpA (l : List (List Int)) : (P1 l).length = l.length := by rw [← Qdr, List.length_map]
structure QC where
 K : Int
 N : Int
 L : (List QC)
deriving Inhabited
mutual
def Qmp : QC → List AV
 | ⟨x0, x1, x2⟩ => [.sc (.int .i64 x0), .sc (.int .i64 x1), .sl (UW x2)]
def UW : List QC → List (List AV)
 | [] => []
 | x :: l => Qmp x :: UW l
end
def XN (x : QC) : List AV := [.sc (.int .i64 x.K), .sc (.int .i64 x.N), .sl (UW x.L)]
theorem Fa (l : List QC) : l.map XN = UW l := by
 induction l with
 | nil => rw [UW]; rfl
 | cons x l ih => rw [UW, List.map_cons, ih]; congr 1; cases x; rw [Qmp]; rfl
theorem Qau {l : List QC} {n : Nat} {a : QC} (h : l[n]? = some a) : (UW l)[n]? = some (XN a) := by rw [← Fa]; exact ZT h
theorem Gn (l : List QC) : (UW l).length = l.length := by rw [← Fa, List.length_map]
structure QJ where
 K : Int
 A : Int
 B : Int
 Ns : (List Int)
 E : (List QC)
 Label : Bool
deriving Inhabited
def Wd (x : QJ) : List AV := [.sc (.int .i64 x.K), .sc (.int .i64 x.A), .sc (.int .i64 x.B), .sl (Jc x.Ns), .sl (UW x.E), .sc (.bool x.Label)]
def XO (l : List QJ) : List (List AV) := l.map Wd
theorem Qav (l : List QJ) : l.map Wd = XO l := rfl
theorem Qaw {l : List QJ} {n : Nat} {a : QJ} (h : l[n]? = some a) : (XO l)[n]? = some (Wd a) := by rw [← Qav]; exact ZT h
theorem Qfj (l : List QJ) : (XO l).length = l.length := by rw [← Qav, List.length_map]
structure QP where
 Name : ByteArray
 Bits : ByteArray
 Kinds : ByteArray
deriving Inhabited
def Qds (x : QP) : List AV := [.sc (.string x.Name), .sc (.string x.Bits), .sc (.string x.Kinds)]
structure Qf where
 S : ByteArray
 P : Int
 Deep : Int
 Bad : Bool
deriving Inhabited
def Je (x : Qf) : List AV := [.sc (.string x.S), .sc (.int .i64 x.P), .sc (.int .i64 x.Deep), .sc (.bool x.Bad)]
inductive Ys : QC → Prop
 | mk (x : QC) (h0 : IntKind.i64.min ≤ x.K ∧ x.K ≤ IntKind.i64.max) (h1 : IntKind.i64.min ≤ x.N ∧ x.N ≤ IntKind.i64.max) (h2 : x.L.length ≤ maxLen) (h3 : ∀ y ∈ x.L, Ys y) : Ys x
inductive ET : QJ → Prop
 | mk (x : QJ) (h0 : IntKind.i64.min ≤ x.K ∧ x.K ≤ IntKind.i64.max) (h1 : IntKind.i64.min ≤ x.A ∧ x.A ≤ IntKind.i64.max) (h2 : IntKind.i64.min ≤ x.B ∧ x.B ≤ IntKind.i64.max) (h3 : x.Ns.length ≤ maxLen) (h4 : ∀ y ∈ x.Ns, IntKind.i64.min ≤ y ∧ y ≤ IntKind.i64.max) (h5 : x.E.length ≤ maxLen) (h6 : ∀ y ∈ x.E, Ys y) (h7 : True) : ET x
def listB (l : List Int) : List UInt8 := l.map fun n => UInt8.ofNat n.toNat
theorem Qqv (l : List Int) : bytesOfRows (R_u8 l) = some (listB l) := by
 induction l with
 | nil => rfl
 | cons x l ih => simp only [R_u8, listB, List.map_cons] at ih ⊢; simp only [bytesOfRows, C_u8, rowByte, ih, Option.bind_some, Option.map_some]
def Gp : ByteArray := ⟨#[9, 32]⟩
def h_20 : ByteArray := ⟨#[32]⟩
def X1 : ByteArray := ⟨#[32, 9]⟩
def YL : ByteArray := ⟨#[32, 32, 32]⟩
def UL : ByteArray := ⟨#[32, 88, 32, 89, 32, 68, 32, 65, 32, 66, 32]⟩
def h_22 : ByteArray := ⟨#[34]⟩
def h_26 : ByteArray := ⟨#[38]⟩
def h_28 : ByteArray := ⟨#[40]⟩
def h_29 : ByteArray := ⟨#[41]⟩
def h_2a : ByteArray := ⟨#[42]⟩
def h_2b : ByteArray := ⟨#[43]⟩
def h_2c : ByteArray := ⟨#[44]⟩
def Qax : ByteArray := ⟨#[44, 32]⟩
def h_2d : ByteArray := ⟨#[45]⟩
def h_2e : ByteArray := ⟨#[46]⟩
def QA : ByteArray := ⟨#[46, 97, 108, 105, 103, 110]⟩
def Q0 : ByteArray := ⟨#[46, 97, 115, 99, 105, 105]⟩
def QF : ByteArray := ⟨#[46, 98, 121, 116, 101]⟩
def Jx : ByteArray := ⟨#[46, 101, 113, 117]⟩
def QG : ByteArray := ⟨#[46, 104, 97, 108, 102]⟩
def QH : ByteArray := ⟨#[46, 108, 111, 110, 103]⟩
def QB : ByteArray := ⟨#[46, 115, 112, 97, 99, 101]⟩
def h_3a : ByteArray := ⟨#[58]⟩
def Qay : ByteArray := ⟨#[60, 60]⟩
def Qaz : ByteArray := ⟨#[62, 62]⟩
def Vi : ByteArray := ⟨#[65, 32, 68, 32, 66]⟩
def UC : ByteArray := ⟨#[65, 32, 68, 32, 67, 56]⟩
def Vj : ByteArray := ⟨#[68, 32, 65, 32, 66]⟩
def ZA : ByteArray := ⟨#[68, 32, 65, 32, 67, 56]⟩
def YM : ByteArray := ⟨#[68, 32, 65, 32, 83, 49, 54]⟩
def Gq : ByteArray := ⟨#[68, 32, 76, 50, 48]⟩
def QD : ByteArray := ⟨#[68, 32, 83, 49, 54, 32, 65]⟩
def X2 : ByteArray := ⟨#[79, 49, 32, 73, 50, 32, 84, 56]⟩
def UH : ByteArray := ⟨#[79, 50, 32, 73, 52, 32, 84, 49, 53]⟩
def We : ByteArray := ⟨#[88, 32, 79, 53]⟩
def Jy : ByteArray := ⟨#[88, 32, 85, 53]⟩
def Fb : ByteArray := ⟨#[88, 32, 85, 55]⟩
def Jg : ByteArray := ⟨#[88, 32, 89]⟩
def Wp : ByteArray := ⟨#[89, 32, 77, 49, 32, 88]⟩
def Wq : ByteArray := ⟨#[89, 32, 77, 50, 32, 88]⟩
def Wr : ByteArray := ⟨#[89, 32, 77, 52, 32, 88]⟩
def UM : ByteArray := ⟨#[97, 32, 35, 32, 98, 44, 32, 99]⟩
def Xr : ByteArray := ⟨#[104, 101, 114, 101, 58]⟩
def h_7c : ByteArray := ⟨#[124]⟩
def Qq : ByteArray := ⟨#[115, 101, 95, 105, 108, 108, 101, 103, 97, 108, 58, 48, 48, 48, 48, 58, 124, 115, 101, 95, 105, 115, 121, 110, 99, 58, 48, 48, 48, 49, 58, 124, 115, 101, 95, 115, 99, 58, 48, 48, 48, 50, 58, 124, 115, 101, 95, 98, 108, 114, 58, 48, 48, 48, 52, 58, 124, 115, 101, 95, 98, 99, 116, 114, 58, 48, 48, 48, 54, 58, 124, 115, 101, 95, 110, 111, 116, 58, 48, 48, 50, 48, 58, 88, 124, 115, 101, 95, 110, 101, 103, 58, 48, 48, 51, 48, 58, 88, 124, 115, 101, 95, 109, 102, 108, 114, 58, 48, 48, 56, 48, 58, 88, 124, 115, 101, 95, 109, 116, 108, 114, 58, 48, 48, 57, 48, 58, 88, 124, 115, 101, 95, 109, 102, 99, 116, 114, 58, 48, 48, 97, 48, 58, 88, 124, 115, 101, 95, 109, 116, 99, 116, 114, 58, 48, 48, 98, 48, 58, 88, 124, 115, 101, 95, 101, 120, 116, 122, 98, 58, 48, 48, 99, 48, 58, 88, 124, 115, 101, 95, 101, 120, 116, 115, 98, 58, 48, 48, 100, 48, 58, 88, 124, 115, 101, 95, 101, 120, 116, 122, 104, 58, 48, 48, 101, 48, 58, 88, 124, 115, 101, 95, 101, 120, 116, 115, 104, 58, 48, 48, 102, 48, 58, 88, 124, 115, 101, 95, 109, 114, 58, 48, 49, 48, 48, 58, 88, 32, 89, 124, 115, 101, 95, 97, 100, 100, 58, 48, 52, 48, 48, 58, 88, 32, 89, 124, 115, 101, 95, 109, 117, 108, 108, 119, 58, 48, 53, 48, 48, 58, 88, 32, 89, 124, 115, 101, 95, 115, 117, 98, 58, 48, 54, 48, 48, 58, 88, 32, 89, 124, 115, 101, 95, 99, 109, 112, 58, 48, 99, 48, 48, 58, 88, 32, 89, 124, 115, 101, 95, 99, 109, 112, 108, 58, 48, 100, 48, 48, 58, 88, 32, 89, 124, 115, 101, 95, 97, 100, 100, 105, 58, 50, 48, 48, 48, 58, 88, 32, 79, 53, 124, 115, 101, 95, 99, 109, 112, 108, 105, 58, 50, 50, 48, 48, 58, 88, 32, 79, 53, 124, 115, 101, 95, 115, 117, 98, 105, 58, 50, 52, 48, 48, 58, 88, 32, 79, 53, 124, 115, 101, 95, 99, 109, 112, 105, 58, 50, 97, 48, 48, 58, 88, 32, 85, 53, 124, 115, 101, 95, 111, 114, 58, 52, 52, 48, 48, 58, 88, 32, 89, 124, 115, 101, 95, 97, 110, 100, 99, 58, 52, 53, 48, 48, 58, 88, 32, 89, 124, 115, 101, 95, 97, 110, 100, 58, 52, 54, 48, 48, 58, 88, 32, 89, 124, 115, 101, 95, 108, 105, 58, 52, 56, 48, 48, 58, 88, 32, 85, 55, 124, 115, 101, 95, 98, 99, 108, 114, 105, 58, 54, 48, 48, 48, 58, 88, 32, 85, 53, 124, 115, 101, 95, 98, 115, 101, 116, 105, 58, 54, 52, 48, 48, 58, 88, 32, 85, 53, 124, 115, 101, 95, 98, 116, 115, 116, 105, 58, 54, 54, 48, 48, 58, 88, 32, 85, 53, 124, 115, 101, 95, 115, 114, 119, 105, 58, 54, 56, 48, 48, 58, 88, 32, 85, 53, 124, 115, 101, 95, 115, 108, 119, 105, 58, 54, 99, 48, 48, 58, 88, 32, 85, 53, 124, 115, 101, 95, 108, 98, 122, 58, 56, 48, 48, 48, 58, 89, 32, 77, 49, 32, 88, 124, 115, 101, 95, 115, 116, 98, 58, 57, 48, 48, 48, 58, 89, 32, 77, 49, 32, 88, 124, 115, 101, 95, 108, 104, 122, 58, 97, 48, 48, 48, 58, 89, 32, 77, 50, 32, 88, 124, 115, 101, 95, 115, 116, 104, 58, 98, 48, 48, 48, 58, 89, 32, 77, 50, 32, 88, 124, 115, 101, 95, 108, 119, 122, 58, 99, 48, 48, 48, 58, 89, 32, 77, 52, 32, 88, 124, 115, 101, 95, 115, 116, 119, 58, 100, 48, 48, 48, 58, 89, 32, 77, 52, 32, 88, 124, 115, 101, 95, 98, 99, 58, 101, 48, 48, 48, 58, 79, 49, 32, 73, 50, 32, 84, 56, 124, 115, 101, 95, 98, 58, 101, 56, 48, 48, 58, 84, 56, 124, 115, 101, 95, 98, 108, 58, 101, 57, 48, 48, 58, 84, 56, 124, 101, 95, 97, 100, 100, 49, 54, 105, 58, 49, 99, 48, 48, 48, 48, 48, 48, 58, 68, 32, 65, 32, 83, 49, 54, 124, 101, 95, 97, 100, 100, 105, 58, 49, 56, 48, 48, 56, 48, 48, 48, 58, 68, 32, 65, 32, 67, 56, 124, 101, 95, 97, 110, 100, 105, 58, 49, 56, 48, 48, 99, 48, 48, 48, 58, 65, 32, 68, 32, 67, 56, 124, 101, 95, 111, 114, 105, 58, 49, 56, 48, 48, 100, 48, 48, 48, 58, 65, 32, 68, 32, 67, 56, 124, 101, 95, 120, 111, 114, 105, 58, 49, 56, 48, 48, 101, 48, 48, 48, 58, 65, 32, 68, 32, 67, 56, 124, 101, 95, 108, 105, 58, 55, 48, 48, 48, 48, 48, 48, 48, 58, 68, 32, 76, 50, 48, 124, 101, 95, 108, 98, 122, 58, 51, 48, 48, 48, 48, 48, 48, 48, 58, 68, 32, 83, 49, 54, 32, 65, 124, 101, 95, 115, 116, 98, 58, 51, 52, 48, 48, 48, 48, 48, 48, 58, 68, 32, 83, 49, 54, 32, 65, 124, 101, 95, 108, 104, 97, 58, 51, 56, 48, 48, 48, 48, 48, 48, 58, 68, 32, 83, 49, 54, 32, 65, 124, 101, 95, 108, 119, 122, 58, 53, 48, 48, 48, 48, 48, 48, 48, 58, 68, 32, 83, 49, 54, 32, 65, 124, 101, 95, 115, 116, 119, 58, 53, 52, 48, 48, 48, 48, 48, 48, 58, 68, 32, 83, 49, 54, 32, 65, 124, 101, 95, 108, 104, 122, 58, 53, 56, 48, 48, 48, 48, 48, 48, 58, 68, 32, 83, 49, 54, 32, 65, 124, 101, 95, 115, 116, 104, 58, 53, 99, 48, 48, 48, 48, 48, 48, 58, 68, 32, 83, 49, 54, 32, 65, 124, 101, 95, 98, 58, 55, 56, 48, 48, 48, 48, 48, 48, 58, 84, 50, 52, 124, 101, 95, 98, 108, 58, 55, 56, 48, 48, 48, 48, 48, 49, 58, 84, 50, 52, 124, 101, 95, 98, 99, 58, 55, 97, 48, 48, 48, 48, 48, 48, 58, 79, 50, 32, 73, 52, 32, 84, 49, 53, 124, 101, 95, 98, 99, 108, 58, 55, 97, 48, 48, 48, 48, 48, 49, 58, 79, 50, 32, 73, 52, 32, 84, 49, 53, 124, 97, 100, 100, 58, 55, 99, 48, 48, 48, 50, 49, 52, 58, 68, 32, 65, 32, 66, 124, 115, 117, 98, 102, 58, 55, 99, 48, 48, 48, 48, 53, 48, 58, 68, 32, 65, 32, 66, 124, 109, 117, 108, 108, 119, 58, 55, 99, 48, 48, 48, 49, 100, 54, 58, 68, 32, 65, 32, 66, 124, 97, 110, 100, 58, 55, 99, 48, 48, 48, 48, 51, 56, 58, 65, 32, 68, 32, 66, 124, 111, 114, 58, 55, 99, 48, 48, 48, 51, 55, 56, 58, 65, 32, 68, 32, 66, 124, 120, 111, 114, 58, 55, 99, 48, 48, 48, 50, 55, 56, 58, 65, 32, 68, 32, 66, 124]⟩
def s_ : ByteArray := ⟨#[]⟩
def WD : ByteArray := ⟨#[48, 49, 50, 51, 52, 53, 54, 55, 56, 57]⟩
def s_0x : ByteArray := ⟨#[48, 120]⟩
def s_A : ByteArray := ⟨#[65]⟩
def s_B : ByteArray := ⟨#[66]⟩
def s_D : ByteArray := ⟨#[68]⟩
def s_I2 : ByteArray := ⟨#[73, 50]⟩
def s_I4 : ByteArray := ⟨#[73, 52]⟩
def Qsw : ByteArray := ⟨#[76, 50, 48]⟩
def s_M1 : ByteArray := ⟨#[77, 49]⟩
def s_M2 : ByteArray := ⟨#[77, 50]⟩
def s_M4 : ByteArray := ⟨#[77, 52]⟩
def s_O1 : ByteArray := ⟨#[79, 49]⟩
def s_O2 : ByteArray := ⟨#[79, 50]⟩
def s_O5 : ByteArray := ⟨#[79, 53]⟩
def Qsx : ByteArray := ⟨#[83, 49, 54]⟩
def Qsy : ByteArray := ⟨#[84, 49, 53]⟩
def Ez : ByteArray := ⟨#[84, 50, 52]⟩
def s_T8 : ByteArray := ⟨#[84, 56]⟩
def s_U5 : ByteArray := ⟨#[85, 53]⟩
def s_U7 : ByteArray := ⟨#[85, 55]⟩
def s_X : ByteArray := ⟨#[88]⟩
def s_Y : ByteArray := ⟨#[89]⟩
def s_a : ByteArray := ⟨#[97]⟩
def QiX : ByteArray := ⟨#[97, 100, 100]⟩
def QiY : ByteArray := ⟨#[97, 110, 100]⟩
def s_b : ByteArray := ⟨#[98]⟩
def s_b1 : ByteArray := ⟨#[98, 49]⟩
def P2 : ByteArray := ⟨#[98, 97, 115, 101]⟩
def s_bc : ByteArray := ⟨#[98, 99]⟩
def s_bl : ByteArray := ⟨#[98, 108]⟩
def Fc : ByteArray := ⟨#[101, 95, 97, 100, 100, 49, 54, 105]⟩
def QaA : ByteArray := ⟨#[101, 95, 97, 100, 100, 105]⟩
def QaB : ByteArray := ⟨#[101, 95, 97, 110, 100, 105]⟩
def QiZ : ByteArray := ⟨#[101, 95, 98]⟩
def Qfk : ByteArray := ⟨#[101, 95, 98, 99]⟩
def Qcw : ByteArray := ⟨#[101, 95, 98, 99, 108]⟩
def Qfl : ByteArray := ⟨#[101, 95, 98, 108]⟩
def Qcx : ByteArray := ⟨#[101, 95, 108, 98, 122]⟩
def Qcy : ByteArray := ⟨#[101, 95, 108, 104, 97]⟩
def Qcz : ByteArray := ⟨#[101, 95, 108, 104, 122]⟩
def Qfm : ByteArray := ⟨#[101, 95, 108, 105]⟩
def QcA : ByteArray := ⟨#[101, 95, 108, 119, 122]⟩
def QcB : ByteArray := ⟨#[101, 95, 111, 114, 105]⟩
def QcC : ByteArray := ⟨#[101, 95, 115, 116, 98]⟩
def QcD : ByteArray := ⟨#[101, 95, 115, 116, 104]⟩
def QcE : ByteArray := ⟨#[101, 95, 115, 116, 119]⟩
def QaC : ByteArray := ⟨#[101, 95, 120, 111, 114, 105]⟩
def EU : ByteArray := ⟨#[101, 110, 100, 95, 49]⟩
def Qi0 : ByteArray := ⟨#[104, 101, 114, 101]⟩
def s_hi : ByteArray := ⟨#[104, 105]⟩
def s_k : ByteArray := ⟨#[107]⟩
def Fd : ByteArray := ⟨#[108, 111, 111, 112]⟩
def QcF : ByteArray := ⟨#[109, 117, 108, 108, 119]⟩
def s_or : ByteArray := ⟨#[111, 114]⟩
def s_r : ByteArray := ⟨#[114]⟩
def QaD : ByteArray := ⟨#[115, 101, 95, 97, 100, 100]⟩
def P4 : ByteArray := ⟨#[115, 101, 95, 97, 100, 100, 105]⟩
def QaE : ByteArray := ⟨#[115, 101, 95, 97, 110, 100]⟩
def P5 : ByteArray := ⟨#[115, 101, 95, 97, 110, 100, 99]⟩
def Qfn : ByteArray := ⟨#[115, 101, 95, 98]⟩
def QcG : ByteArray := ⟨#[115, 101, 95, 98, 99]⟩
def Fe : ByteArray := ⟨#[115, 101, 95, 98, 99, 108, 114, 105]⟩
def P6 : ByteArray := ⟨#[115, 101, 95, 98, 99, 116, 114]⟩
def QcH : ByteArray := ⟨#[115, 101, 95, 98, 108]⟩
def QaF : ByteArray := ⟨#[115, 101, 95, 98, 108, 114]⟩
def Ff : ByteArray := ⟨#[115, 101, 95, 98, 115, 101, 116, 105]⟩
def Fg : ByteArray := ⟨#[115, 101, 95, 98, 116, 115, 116, 105]⟩
def QaG : ByteArray := ⟨#[115, 101, 95, 99, 109, 112]⟩
def P7 : ByteArray := ⟨#[115, 101, 95, 99, 109, 112, 105]⟩
def P8 : ByteArray := ⟨#[115, 101, 95, 99, 109, 112, 108]⟩
def Fh : ByteArray := ⟨#[115, 101, 95, 99, 109, 112, 108, 105]⟩
def Fi : ByteArray := ⟨#[115, 101, 95, 101, 120, 116, 115, 98]⟩
def Fj : ByteArray := ⟨#[115, 101, 95, 101, 120, 116, 115, 104]⟩
def Fk : ByteArray := ⟨#[115, 101, 95, 101, 120, 116, 122, 98]⟩
def Fl : ByteArray := ⟨#[115, 101, 95, 101, 120, 116, 122, 104]⟩
def Gr : ByteArray := ⟨#[115, 101, 95, 105, 108, 108, 101, 103, 97, 108]⟩
def Fm : ByteArray := ⟨#[115, 101, 95, 105, 115, 121, 110, 99]⟩
def QaH : ByteArray := ⟨#[115, 101, 95, 108, 98, 122]⟩
def QaI : ByteArray := ⟨#[115, 101, 95, 108, 104, 122]⟩
def QcI : ByteArray := ⟨#[115, 101, 95, 108, 105]⟩
def QaJ : ByteArray := ⟨#[115, 101, 95, 108, 119, 122]⟩
def Fo : ByteArray := ⟨#[115, 101, 95, 109, 102, 99, 116, 114]⟩
def P9 : ByteArray := ⟨#[115, 101, 95, 109, 102, 108, 114]⟩
def QcJ : ByteArray := ⟨#[115, 101, 95, 109, 114]⟩
def Fp : ByteArray := ⟨#[115, 101, 95, 109, 116, 99, 116, 114]⟩
def Sa : ByteArray := ⟨#[115, 101, 95, 109, 116, 108, 114]⟩
def Fq : ByteArray := ⟨#[115, 101, 95, 109, 117, 108, 108, 119]⟩
def QaK : ByteArray := ⟨#[115, 101, 95, 110, 101, 103]⟩
def QaL : ByteArray := ⟨#[115, 101, 95, 110, 111, 116]⟩
def QcK : ByteArray := ⟨#[115, 101, 95, 111, 114]⟩
def QcL : ByteArray := ⟨#[115, 101, 95, 115, 99]⟩
def Sb : ByteArray := ⟨#[115, 101, 95, 115, 108, 119, 105]⟩
def Sc : ByteArray := ⟨#[115, 101, 95, 115, 114, 119, 105]⟩
def QaM : ByteArray := ⟨#[115, 101, 95, 115, 116, 98]⟩
def QaN : ByteArray := ⟨#[115, 101, 95, 115, 116, 104]⟩
def QaO : ByteArray := ⟨#[115, 101, 95, 115, 116, 119]⟩
def QaP : ByteArray := ⟨#[115, 101, 95, 115, 117, 98]⟩
def Sd : ByteArray := ⟨#[115, 101, 95, 115, 117, 98, 105]⟩
def Gs : ByteArray := ⟨#[115, 105, 122, 101]⟩
def Qfo : ByteArray := ⟨#[115, 117, 98, 102]⟩
def Fr : ByteArray := ⟨#[116, 97, 98]⟩
def s_x : ByteArray := ⟨#[120]⟩
def Qi1 : ByteArray := ⟨#[120, 111, 114]⟩
def anT : List (Nat × List (Nat × Ann)) := [
 (20, [(2, { keep := [0, 2, 4], out := [0, 2], res := [2, 3], own := [], full := false }), (12, { keep := [2, 5, 6, 7], out := [2, 5, 6, 7], res := [2, 3], own := [], full := false })]),
 (22, [(15, { keep := [1, 3, 4, 5], out := [3, 4], res := [2], own := [(4, 1)], full := false }), (21, { keep := [3, 4, 6], out := [3], res := [2], own := [(4, 1)], full := false })]),
 (24, [(2, { keep := [0, 3], out := [], res := [2], own := [], full := false })]),
 (25, [(8, { keep := [1, 2, 3, 5, 6], out := [1, 2, 3], res := [2], own := [], full := false })]),
 (28, [(4, { keep := [2, 3, 5], out := [], res := [4], own := [], full := false })]),
 (36, [(4, { keep := [0, 3, 4, 5], out := [3], res := [2], own := [(3, 1)], full := false })]),
 (39, [(2, { keep := [0, 3], out := [], res := [2], own := [], full := false })]),
 (52, [(2, { keep := [0, 4], out := [0], res := [2, 3], own := [], full := false })]),
 (53, [(1, { keep := [0], out := [0], res := [2], own := [], full := false }), (3, { keep := [0], out := [0], res := [2], own := [], full := false })]),
 (54, [(3, { keep := [0, 3, 4], out := [0], res := [2], own := [], full := false })]),
 (55, [(4, { keep := [0, 3, 4, 5, 6], out := [3], res := [2], own := [(3, 1)], full := false })]),
 (58, [(5, { keep := [0, 1, 4, 7, 8, 9, 10, 11], out := [4], res := [4, 5, 6], own := [], full := false })]),
 (65, [(3, { keep := [2, 4, 5, 6], out := [4, 5], res := [4], own := [], full := false })]),
 (71, [(3, { keep := [0, 3, 4], out := [], res := [2], own := [], full := false })]),
 (72, [(2, { keep := [0, 1, 5], out := [5], res := [4], own := [], full := false })]),
 (78, [(4, { keep := [2, 3, 5], out := [], res := [4], own := [], full := false })]),
 (83, [(5, { keep := [0, 3, 4], out := [3], res := [2], own := [], full := false })]),
 (100, [(4, { keep := [0, 4], out := [0], res := [2, 3], own := [], full := false })]),
 (101, [(3, { keep := [0, 1, 6, 7], out := [6], res := [4, 5], own := [(6, 5)], full := false })]),
 (105, [(5, { keep := [0, 1, 5, 6], out := [5], res := [4], own := [], full := false })]),
 (116, [(1, { keep := [0, 1], out := [0], res := [4], own := [], full := false })]),
 (123, [(5, { keep := [3, 10, 11], out := [3], res := [2], own := [(3, 1)], full := true })]),
 (125, [(3, { keep := [0, 1, 5, 14, 15, 16], out := [1, 5], res := [4], own := [(5, 200)], full := false })]),
 (126, [(2, { keep := [0, 1, 7, 8], out := [], res := [4], own := [], full := false })]),
 (127, [(3, { keep := [0, 1, 5, 6], out := [5], res := [4], own := [], full := false })]),
 (128, [(3, { keep := [0, 5, 6, 7], out := [5], res := [4], own := [(5, 200)], full := false })]),
 (159, [(4, { keep := [0, 1, 4, 5], out := [], res := [4], own := [], full := false })]),
 (160, [(0, { keep := [0], out := [], res := [], own := [], full := false })]),
 (175, [(2, { keep := [0, 1, 7, 8], out := [], res := [4], own := [], full := false })]),
 (205, [(5, { keep := [0, 3, 4], out := [3], res := [2], own := [], full := false })]),
 (207, [(2, { keep := [0, 1, 5], out := [], res := [4], own := [], full := false })]),
 (215, [(5, { keep := [0, 1, 4, 5, 6], out := [4, 5], res := [4], own := [], full := false })]),
 (235, [(2, { keep := [0, 1, 4, 5, 6], out := [0, 4, 5, 6], res := [4], own := [], full := false })]),
 (237, [(2, { keep := [0, 2, 3], out := [0, 2, 3], res := [2], own := [], full := false })]),
 (244, [(2, { keep := [0, 7, 8, 9], out := [], res := [4], own := [], full := false })]),
 (266, [(2, { keep := [0, 1, 8], out := [0], res := [4], own := [], full := false })]),
 (269, [(3, { keep := [0, 1, 2, 6, 7, 12], out := [0, 1, 6, 7], res := [6], own := [], full := false })])]
def kdT : List (Nat × List Nat) := [(37, [0, 0, 0, 0, 0, 5]), (56, [129, 131, 178]), (60, [0, 1]), (113, [0, 0, 0, 0, 0, 5])]
def extT : List (Nat × (List AV → Heap → Option (AV × Heap))) := [(23, knownX), (70, indexByteX), (74, trimX), (77, (cloneF 5 64)), (79, splitX), (145, fieldsX), (177, containsX), (241, atoiX)]
def G : Cfg := { ext := fun f => get f extT, an := fun f r => ((get f anT).bind (get r)).getD {}, kd := fun t => (get t kdT).getD [] }
def anT0 : List (Nat × List (Nat × Ann)) := [
 (26, [(15, { keep := [1, 3, 4, 40, 41, 42], out := [1, 3, 4], res := [2], own := [(4, 1)], full := false })]),
 (31, [(2, { keep := [2, 3, 9, 10, 11], out := [2, 3], res := [2, 3], own := [(2, 6), (3, 1)], full := false })]),
 (71, [(3, { keep := [0, 3, 4], out := [], res := [2], own := [], full := false })]),
 (72, [(2, { keep := [0, 1, 5], out := [5], res := [4], own := [], full := false })]),
 (116, [(1, { keep := [0, 1], out := [0], res := [4], own := [], full := false })]),
 (123, [(5, { keep := [3, 10, 11], out := [3], res := [2], own := [(3, 1)], full := true })]),
 (125, [(3, { keep := [0, 1, 5, 14, 15, 16], out := [1, 5], res := [4], own := [(5, 200)], full := false })]),
 (126, [(2, { keep := [0, 1, 7, 8], out := [], res := [4], own := [], full := false })]),
 (127, [(3, { keep := [0, 1, 5, 6], out := [5], res := [4], own := [], full := false })]),
 (128, [(3, { keep := [0, 5, 6, 7], out := [5], res := [4], own := [(5, 200)], full := false })]),
 (175, [(2, { keep := [0, 1, 7, 8], out := [], res := [4], own := [], full := false })]),
 (215, [(5, { keep := [0, 1, 4, 5, 6], out := [4, 5], res := [4], own := [], full := false })]),
 (244, [(2, { keep := [0, 7, 8, 9], out := [], res := [4], own := [], full := false })]),
 (266, [(2, { keep := [0, 1, 8], out := [0], res := [4], own := [], full := false })]),
 (269, [(3, { keep := [0, 1, 2, 6, 7, 12], out := [0, 1, 6, 7], res := [6], own := [], full := false })])]
def kdT0 : List (Nat × List Nat) := [(37, [0, 0, 0, 0, 0, 5]), (56, [129, 131, 178]), (113, [0, 0, 0, 0, 0, 5])]
def extT0 : List (Nat × (List AV → Heap → Option (AV × Heap))) := [(69, joinX), (70, indexByteX), (74, trimX), (77, (cloneF 5 64)), (79, splitX), (80, (cloneF 6 80)), (81, (cloneV 8)), (93, itoaX), (145, fieldsX), (177, containsX), (241, atoiX)]
def G0 : Cfg := { ext := fun f => get f extT0, an := fun f r => ((get f anT0).bind (get r)).getD {}, kd := fun t => (get t kdT0).getD [] }
theorem QpB : evalFn Tryz.prog G0 2000 23 [] [] = some (.sc (.bool true), []) := by kernel_rfl
noncomputable abbrev pp : Program := Tryz.prog
abbrev AH := AV × Heap
abbrev XS := Ex × St
noncomputable abbrev ww : CallF := evW Tryz.prog G
noncomputable abbrev lw (m f : Nat) : Loops := lpW Tryz.prog G m (G.an f)
def Ql (r : Bool) : AV × Heap := (xo r, [])
abbrev Qqw := Option Bool
noncomputable def EF : Option Bool := (some true)
noncomputable abbrev QpC {ρ R : Type} (k : Bool → Tr ρ R) : Tr ρ R := .call (ww 23 [] []) (EF) Ql k
theorem EF.ok {r : Bool} (h : EF = some r) : ww 23 [] [] = some (Ql r) := (ES rfl _ _).trans (QrE h)
def Qm (r : Int) : AV × Heap := (xi r, [])
abbrev Fs := Int → Int → Option Int
def Qhi (a0 : Int) (a1 : Int) : Option Int := (bif (decide (a1 ≠ 0)) then (bif (decide ((Int.tmod a0 a1) < 0)) then (some (w64 ((Int.tmod a0 a1) + a1))) else (some (Int.tmod a0 a1))) else none)
noncomputable def QO : Fs := Qhi
theorem QO.eq (a0 : Int) (a1 : Int) : QO a0 a1 = Qhi a0 a1 := rfl
noncomputable def QnY (a0 : Int) (a1 : Int) : Tr Int AH := (.as (decide (a1 ≠ 0)) (.as (decide ((Int.tmod a0 a1) < 0)) (rt Qm (w64 ((Int.tmod a0 a1) + a1))) (rt Qm (Int.tmod a0 a1))) .fail)
theorem QO.ok {a0 : Int} {a1 : Int} {r : Int} (h : QO a0 a1 = some r) : ww 29 [xi a0, xi a1] [] = some (Qm r) := by
 refine fnP (QnY a0 a1) ?_ h
 exact ⟨rfl, fun q0 => ⟨rfl, fun q1 => rfl, fun q1 => rfl⟩, fun q0 => trivial⟩
noncomputable abbrev Jf {ρ R : Type} (a0 : Int) (a1 : Int) (k : Int → Tr ρ R) : Tr ρ R := .call (ww 29 [xi a0, xi a1] []) (QO a0 a1) Qm k
abbrev PN := Int → Option Bool
def QaQ (a0 : Int) : Option Bool := (bif (decide (a0 ≥ 48)) then (some (decide (a0 ≤ (57 : Int)))) else (some false))
noncomputable def Vz : PN := QaQ
theorem Vz.eq (a0 : Int) : Vz a0 = QaQ a0 := rfl
noncomputable def Qmq (a0 : Int) : Tr Bool AH := (let u1 := (decide (a0 ≥ 48)); .as u1 (yesN 2 u1 (rt Ql (decide (a0 ≤ (zi 57))))) (noN 2 u1 (rt Ql false)))
theorem Vz.ok {a0 : Int} {r : Bool} (h : Vz a0 = some r) : ww 82 [xb a0] [] = some (Ql r) := by
 refine fnP (Qmq a0) ?_ h
 exact ⟨rfl, fun q0 => Qi 2 (q0) (rfl), fun q0 => noN_ok 2 (q0) (rfl)⟩
noncomputable abbrev Ft {ρ R : Type} (a0 : Int) (k : Bool → Tr ρ R) : Tr ρ R := .call (ww 82 [xb a0] []) (Vz a0) Ql k
abbrev Qhj := Int → Option Bool
def QaR (C0 : PN) (a0 : Int) : Option Bool := (bif (decide (a0 ≥ 97)) then (bif (decide (a0 ≤ (122 : Int))) then (some true) else (bif (a0 == 95) then (some true) else ((C0 a0).bind fun r1 => (some r1)))) else (bif (a0 == 95) then (some true) else ((C0 a0).bind fun r2 => (some r2))))
noncomputable def XV : Qhj := QaR Vz
theorem XV.eq (a0 : Int) : XV a0 = QaR Vz a0 := rfl
noncomputable def Qmr (a0 : Int) : Tr Bool AH := (let u5 := (decide (a0 ≥ 97)); .as u5 (yesN 2 u5 (let u3 := (decide (a0 ≤ (zi 122))); .as u3 (yesN 2 u3 (yesN 3 true (rt Ql true))) (noN 2 u3 (let u2 := (a0 == 95); .as u2 (yesN 2 u2 (rt Ql true)) (.no u2 (Ft a0 fun r1 => (.no u2 (rt Ql r1)))))))) (noN 2 u5 (noN 3 false (let u4 := (a0 == 95); .as u4 (yesN 2 u4 (rt Ql true)) (.no u4 (Ft a0 fun r2 => (.no u4 (rt Ql r2))))))))
theorem XV.ok {a0 : Int} {r : Bool} (h : XV a0 = some r) : ww 73 [xb a0] [] = some (Ql r) := by
 refine fnP (Qmr a0) ?_ h
 exact ⟨rfl, fun q0 => Qi 2 (q0) (⟨rfl, fun q1 => Qi 2 (q1) (Qi 3 (rfl) (rfl)), fun q1 => noN_ok 2 (q1) (⟨rfl, fun q2 => Qi 2 (q2) (rfl), fun q2 => ⟨q2, fun r1 h => ⟨Vz.ok h, ⟨q2, rfl⟩⟩⟩⟩)⟩), fun q0 => noN_ok 2 (q0) (noN_ok 3 (rfl) (⟨rfl, fun q1 => Qi 2 (q1) (rfl), fun q1 => ⟨q1, fun r2 h => ⟨Vz.ok h, ⟨q1, rfl⟩⟩⟩⟩))⟩
noncomputable abbrev Qms {ρ R : Type} (a0 : Int) (k : Bool → Tr ρ R) : Tr ρ R := .call (ww 73 [xb a0] []) (XV a0) Ql k
abbrev Qb1 := ByteArray → Option Int
structure UR where
 x0 : ByteArray
 x5 : Int
def Fu (a : UR) : St := { n := 20, nx := 0, env := [(0, xs a.x0), (1, .fn (.func 73) [] []), (5, xi a.x5)], heap := [] }
def Gi (a : Int) : Ex × St := (.exit 0, { n := 20, nx := 0, env := [(5, xi a)], heap := [] })
abbrev QcM := UR → Option Int
def Fv (C0 : Qhj) (a : UR) : Option (UR ⊕ Int) := (bif (decide (a.x5 < ((a.x0.size : Nat) : Int))) then (bif (decide (0 ≤ a.x5 ∧ a.x5 < ((a.x0.size : Nat) : Int))) then ((C0 ((a.x0.data.getD (Int.toNat a.x5) 0).toNat : Int)).bind fun r1 => (bif r1 then (some (.inl (UR.mk a.x0 (w64 (a.x5 + 1))))) else (some (.inr a.x5)))) else none) else (some (.inr a.x5)))
noncomputable def WI : QcM := loopW (Fv XV)
theorem WI.eq (a : UR) : WI a = (Fv XV a).bind (Sum.elim WI some) := Jk _ _
noncomputable abbrev Qi2 {ρ R : Type} (a : UR) (k0 : Int → Tr ρ R) : Tr ρ R := .loop (loopAt pp 72 2) (Fu a) (WI a) Gi k0
noncomputable def Qi3 (a : UR) : Tr (UR ⊕ Int) XS := (let u6 := (decide (a.x5 < (zz a.x0))); .as u6 (yesN 3 u6 (.as (in1 a.x5 (zz a.x0)) (.yes u6 (Qms (gb a.x0 a.x5) fun r1 => (.yes u6 (.as r1 (lf Fu (UR.mk a.x0 (w64 (a.x5 + 1)))) (rx Gi a.x5))))) .fail)) (noN 5 u6 (.no false (rx Gi a.x5))))
theorem WI.ok {a : UR} {r : Int} (h : WI a = some r) : lw 0 72 (loopAt pp 72 2) (Fu a) = some (Gi r) := by
 refine lpP h Qi3 fun a => ?_
 exact ⟨rfl, fun q0 => Qi 3 (q0) (⟨rfl, fun q1 => ⟨q0, fun r1 h => ⟨XV.ok h, ⟨q0, ⟨rfl, fun q2 => rfl, fun q2 => rfl⟩⟩⟩⟩, fun q1 => trivial⟩), fun q0 => noN_ok 5 (q0) (⟨rfl, rfl⟩)⟩
def QaS (L0 : QcM) (a0 : ByteArray) : Option Int := ((L0 (UR.mk a0 (0 : Int))).bind (fun (o1 : Int) => (some o1)))
noncomputable def WO : Qb1 := QaS WI
theorem WO.eq (a0 : ByteArray) : WO a0 = QaS WI a0 := rfl
noncomputable def Qmt (a0 : ByteArray) : Tr Int AH := (Qi2 (UR.mk a0 i0) (fun o1 => (rt Qm o1)))
theorem WO.ok {a0 : ByteArray} {r : Int} (h : WO a0 = some r) : ww 72 [xs a0, .fn (.func 73) [] []] [] = some (Qm r) := by
 refine fnP (Qmt a0) ?_ h
 exact fun o1 h => ⟨WI.ok h, rfl⟩
noncomputable abbrev Qfp {ρ R : Type} (a0 : ByteArray) (k : Int → Tr ρ R) : Tr ρ R := .call (ww 72 [xs a0, .fn (.func 73) [] []] []) (WO a0) Qm k
abbrev Sz := ByteArray → Option Int
structure Un where
 x0 : ByteArray
 x5 : Int
def G6 (a : Un) : St := { n := 20, nx := 0, env := [(0, xs a.x0), (1, .fn (.func 82) [] []), (5, xi a.x5)], heap := [] }
def Zs (a : Int) : Ex × St := (.exit 0, { n := 20, nx := 0, env := [(5, xi a)], heap := [] })
abbrev QaT := Un → Option Int
def G7 (C0 : PN) (a : Un) : Option (Un ⊕ Int) := (bif (decide (a.x5 < ((a.x0.size : Nat) : Int))) then (bif (decide (0 ≤ a.x5 ∧ a.x5 < ((a.x0.size : Nat) : Int))) then ((C0 ((a.x0.data.getD (Int.toNat a.x5) 0).toNat : Int)).bind fun r1 => (bif r1 then (some (.inl (Un.mk a.x0 (w64 (a.x5 + 1))))) else (some (.inr a.x5)))) else none) else (some (.inr a.x5)))
noncomputable def V3 : QaT := loopW (G7 Vz)
theorem V3.eq (a : Un) : V3 a = (G7 Vz a).bind (Sum.elim V3 some) := Jk _ _
noncomputable abbrev QgR {ρ R : Type} (a : Un) (k0 : Int → Tr ρ R) : Tr ρ R := .loop (loopAt pp 72 2) (G6 a) (V3 a) Zs k0
noncomputable def QgS (a : Un) : Tr (Un ⊕ Int) XS := (let u7 := (decide (a.x5 < (zz a.x0))); .as u7 (yesN 3 u7 (.as (in1 a.x5 (zz a.x0)) (.yes u7 (Ft (gb a.x0 a.x5) fun r1 => (.yes u7 (.as r1 (lf G6 (Un.mk a.x0 (w64 (a.x5 + 1)))) (rx Zs a.x5))))) .fail)) (noN 5 u7 (.no false (rx Zs a.x5))))
theorem V3.ok {a : Un} {r : Int} (h : V3 a = some r) : lw 0 72 (loopAt pp 72 2) (G6 a) = some (Zs r) := by
 refine lpP h QgS fun a => ?_
 exact ⟨rfl, fun q0 => Qi 3 (q0) (⟨rfl, fun q1 => ⟨q0, fun r1 h => ⟨Vz.ok h, ⟨q0, ⟨rfl, fun q2 => rfl, fun q2 => rfl⟩⟩⟩⟩, fun q1 => trivial⟩), fun q0 => noN_ok 5 (q0) (⟨rfl, rfl⟩)⟩
def Pe (L0 : QaT) (a0 : ByteArray) : Option Int := ((L0 (Un.mk a0 (0 : Int))).bind (fun (o1 : Int) => (some o1)))
noncomputable def VT : Sz := Pe V3
theorem VT.eq (a0 : ByteArray) : VT a0 = Pe V3 a0 := rfl
noncomputable def QjY (a0 : ByteArray) : Tr Int AH := (QgR (Un.mk a0 i0) (fun o1 => (rt Qm o1)))
theorem VT.ok {a0 : ByteArray} {r : Int} (h : VT a0 = some r) : ww 72 [xs a0, .fn (.func 82) [] []] [] = some (Qm r) := by
 refine fnP (QjY a0) ?_ h
 exact fun o1 h => ⟨V3.ok h, rfl⟩
noncomputable abbrev QcN {ρ R : Type} (a0 : ByteArray) (k : Int → Tr ρ R) : Tr ρ R := .call (ww 72 [xs a0, .fn (.func 82) [] []] []) (VT a0) Qm k
abbrev Qdt := ByteArray → Option Bool
def Qb2 (C0 : PN) (C1 : Qb1) (C2 : Sz) (a0 : ByteArray) : Option Bool := (bif (eqS a0 s_) then (some false) else (bif (decide (((a0.size : Nat) : Int) > 12)) then (some false) else (bif (decide (0 ≤ (0 : Int) ∧ (0 : Int) < ((a0.size : Nat) : Int))) then ((C0 ((a0.data.getD (Int.toNat 0) 0).toNat : Int)).bind fun r1 => (bif r1 then (some false) else ((C1 a0).bind fun r2 => (bif (r2 != ((a0.size : Nat) : Int)) then (some false) else (bif (((a0.data.getD (Int.toNat 0) 0).toNat : Int) != 114) then (some true) else (bif (((a0.size : Nat) : Int) == 1) then (some true) else (bif (decide (0 ≤ (1 : Int) ∧ (1 : Int) ≤ ((a0.size : Nat) : Int) ∧ ((a0.size : Nat) : Int) ≤ ((a0.size : Nat) : Int))) then ((C2 (a0.extract (Int.toNat 1) (Int.toNat ((a0.size : Nat) : Int)))).bind fun r3 => (some (r3 != (w64 (((a0.size : Nat) : Int) - 1))))) else none))))))) else none)))
noncomputable def Xi : Qdt := Qb2 Vz WO VT
theorem Xi.eq (a0 : ByteArray) : Xi a0 = Qb2 Vz WO VT a0 := rfl
noncomputable def QnZ (a0 : ByteArray) : Tr Bool AH := (let u12 := (eqS a0 s_); .as u12 (yesN 3 u12 (yesN 11 true (rt Ql false))) (noN 3 u12 (let u11 := (decide ((zz a0) > 12)); .as u11 (yesN 3 u11 (yesN 7 true (rt Ql false))) (.no u11 (let u10 := (in1 i0 (zz a0)); .as u10 (.no u11 (Ft (gb a0 i0) fun r1 => (.no u11 (.as r1 (yesN 5 r1 (.yes true (rt Ql false))) (.no r1 (Qfp a0 fun r2 => (noN 4 r1 (.as (r2 != (zz a0)) (rt Ql false) (.yes u10 (let u9 := ((gb a0 i0) != 114); .as u9 (yesN 3 u9 (yesN 8 true (rt Ql true))) (noN 3 u9 (let u8 := ((zz a0) == 1); .as u8 (yesN 7 u8 (rt Ql true)) (.no u8 (.as (in2 (zi 1) (zz a0) (zz a0)) (.no u8 (QcN (cu a0 (zi 1) (zz a0)) fun r3 => (noN 5 u8 (rt Ql (r3 != (w64 ((zz a0) - 1))))))) .fail)))))))))))))) .fail)))))
theorem Xi.ok {a0 : ByteArray} {r : Bool} (h : Xi a0 = some r) : ww 33 [xs a0] [] = some (Ql r) := by
 refine fnP (QnZ a0) ?_ h
 exact ⟨rfl, fun q0 => Qi 3 (q0) (Qi 11 (rfl) (rfl)), fun q0 => noN_ok 3 (q0) (⟨rfl, fun q1 => Qi 3 (q1) (Qi 7 (rfl) (rfl)), fun q1 => ⟨q1, ⟨rfl, fun q2 => ⟨q1, fun r1 h => ⟨Vz.ok h, ⟨q1, ⟨rfl, fun q3 => Qi 5 (q3) (⟨rfl, rfl⟩), fun q3 => ⟨q3, fun r2 h => ⟨WO.ok h, noN_ok 4 (q3) (⟨rfl, fun q4 => rfl, fun q4 => ⟨q2, ⟨rfl, fun q5 => Qi 3 (q5) (Qi 8 (rfl) (rfl)), fun q5 => noN_ok 3 (q5) (⟨rfl, fun q6 => Qi 7 (q6) (rfl), fun q6 => ⟨q6, ⟨rfl, fun q7 => ⟨q6, fun r3 h => ⟨VT.ok h, noN_ok 5 (q6) (rfl)⟩⟩, fun q7 => trivial⟩⟩⟩)⟩⟩⟩)⟩⟩⟩⟩⟩⟩, fun q2 => trivial⟩⟩⟩)⟩
noncomputable abbrev Qhk {ρ R : Type} (a0 : ByteArray) (k : Bool → Tr ρ R) : Tr ρ R := .call (ww 33 [xs a0] []) (Xi a0) Ql k
abbrev Qh4 := ByteArray → Option Bool
structure Qy where
 x0 : ByteArray
 x3 : Bool
 x4 : Int
def JY (a : Qy) : St := { n := 65, nx := 0, env := [(0, xs a.x0), (3, xo a.x3), (4, xi a.x4)], heap := [] }
def Qd8 (a : Bool) : Ex × St := (.ret, { n := 65, nx := 0, env := [(2, xo a)], heap := [] })
def Qd9 (a : Bool) : Ex × St := (.exit 0, { n := 65, nx := 0, env := [(3, xo a)], heap := [] })
def W4 (a : (Bool ⊕ Bool)) : Ex × St := Sum.elim Qd8 Qd9 a
abbrev Qhl := Qy → Option (Bool ⊕ Bool)
def ZB (a : Qy) : Option (Qy ⊕ (Bool ⊕ Bool)) := (bif (decide (a.x4 < ((a.x0.size : Nat) : Int))) then (bif (decide (0 ≤ a.x4 ∧ a.x4 < ((a.x0.size : Nat) : Int))) then (bif (decide (((a.x0.data.getD (Int.toNat a.x4) 0).toNat : Int) ≥ 48)) then (bif (decide (((a.x0.data.getD (Int.toNat a.x4) 0).toNat : Int) ≥ 97)) then (bif (!(decide (((a.x0.data.getD (Int.toNat a.x4) 0).toNat : Int) ≤ 122))) then (bif (((a.x0.data.getD (Int.toNat a.x4) 0).toNat : Int) != 95) then (bif (a.x4 == 0) then (some (.inr (.inl false))) else (bif (!(decide (((a.x0.data.getD (Int.toNat a.x4) 0).toNat : Int) ≤ 57))) then (some (.inr (.inl false))) else (bif (decide (a.x4 > 0)) then (some (.inl (Qy.mk a.x0 a.x3 (w64 (a.x4 + 1))))) else (some (.inl (Qy.mk a.x0 a.x3 (w64 (a.x4 + 1)))))))) else (bif (decide (a.x4 > 0)) then (bif (!(decide (((a.x0.data.getD (Int.toNat a.x4) 0).toNat : Int) ≤ 57))) then (some (.inl (Qy.mk a.x0 false (w64 (a.x4 + 1))))) else (some (.inl (Qy.mk a.x0 a.x3 (w64 (a.x4 + 1)))))) else (some (.inl (Qy.mk a.x0 a.x3 (w64 (a.x4 + 1))))))) else (bif (decide (a.x4 > 0)) then (bif (!(decide (((a.x0.data.getD (Int.toNat a.x4) 0).toNat : Int) ≤ 57))) then (some (.inl (Qy.mk a.x0 false (w64 (a.x4 + 1))))) else (some (.inl (Qy.mk a.x0 a.x3 (w64 (a.x4 + 1)))))) else (some (.inl (Qy.mk a.x0 a.x3 (w64 (a.x4 + 1))))))) else (bif (((a.x0.data.getD (Int.toNat a.x4) 0).toNat : Int) != 95) then (bif (a.x4 == 0) then (some (.inr (.inl false))) else (bif (!(decide (((a.x0.data.getD (Int.toNat a.x4) 0).toNat : Int) ≤ 57))) then (some (.inr (.inl false))) else (bif (decide (a.x4 > 0)) then (some (.inl (Qy.mk a.x0 a.x3 (w64 (a.x4 + 1))))) else (some (.inl (Qy.mk a.x0 a.x3 (w64 (a.x4 + 1)))))))) else (bif (decide (a.x4 > 0)) then (bif (!(decide (((a.x0.data.getD (Int.toNat a.x4) 0).toNat : Int) ≤ 57))) then (some (.inl (Qy.mk a.x0 false (w64 (a.x4 + 1))))) else (some (.inl (Qy.mk a.x0 a.x3 (w64 (a.x4 + 1)))))) else (some (.inl (Qy.mk a.x0 a.x3 (w64 (a.x4 + 1)))))))) else (bif (decide (((a.x0.data.getD (Int.toNat a.x4) 0).toNat : Int) ≥ 97)) then (bif (!(decide (((a.x0.data.getD (Int.toNat a.x4) 0).toNat : Int) ≤ 122))) then (bif (((a.x0.data.getD (Int.toNat a.x4) 0).toNat : Int) != 95) then (bif (a.x4 == 0) then (some (.inr (.inl false))) else (some (.inr (.inl false)))) else (bif (decide (a.x4 > 0)) then (some (.inl (Qy.mk a.x0 false (w64 (a.x4 + 1))))) else (some (.inl (Qy.mk a.x0 a.x3 (w64 (a.x4 + 1))))))) else (bif (decide (a.x4 > 0)) then (some (.inl (Qy.mk a.x0 false (w64 (a.x4 + 1))))) else (some (.inl (Qy.mk a.x0 a.x3 (w64 (a.x4 + 1))))))) else (bif (((a.x0.data.getD (Int.toNat a.x4) 0).toNat : Int) != 95) then (bif (a.x4 == 0) then (some (.inr (.inl false))) else (some (.inr (.inl false)))) else (bif (decide (a.x4 > 0)) then (some (.inl (Qy.mk a.x0 false (w64 (a.x4 + 1))))) else (some (.inl (Qy.mk a.x0 a.x3 (w64 (a.x4 + 1))))))))) else none) else (some (.inr (.inr a.x3))))
noncomputable def VA : Qhl := loopW (ZB )
theorem VA.eq (a : Qy) : VA a = (ZB a).bind (Sum.elim VA some) := Jk _ _
noncomputable abbrev Qfq {ρ R : Type} (a : Qy) (k0 : Bool → Tr ρ R) (k1 : Bool → Tr ρ R) : Tr ρ R := .loop2 (loopAt pp 83 5) (JY a) (VA a) Qd8 Qd9 k0 k1
noncomputable def Qmu (a : Qy) : Tr (Qy ⊕ (Bool ⊕ Bool)) XS := (.as (decide (a.x4 < (zz a.x0))) (.as (in1 a.x4 (zz a.x0)) (let u35 := (decide ((gb a.x0 a.x4) ≥ 48)); .as u35 (yesN 2 u35 (let u25 := (decide ((gb a.x0 a.x4) ≥ 97)); .as u25 (yesN 2 u25 (let u19 := (!(decide ((gb a.x0 a.x4) ≤ 122))); .as u19 (yesN 2 u19 (let u17 := ((gb a.x0 a.x4) != 95); .as u17 (yesN 2 u17 (let u15 := (a.x4 == 0); .as u15 (.yes u15 (.yes u17 (.yes u15 (.yes u17 (.yes true (rx W4 (.inl false))))))) (.no u15 (.yes u17 (.no u15 (.yes u17 (let u14 := (!(decide ((gb a.x0 a.x4) ≤ 57))); .as u14 (rx W4 (.inl false)) (let u13 := (decide (a.x4 > 0)); .as u13 (yesN 2 u13 (.no u14 (lf JY (Qy.mk a.x0 a.x3 (w64 (a.x4 + 1)))))) (noN 2 u13 (.no false (lf JY (Qy.mk a.x0 a.x3 (w64 (a.x4 + 1)))))))))))))) (noN 4 u17 (.no false (let u16 := (decide (a.x4 > 0)); .as u16 (yesN 2 u16 (.as (!(decide ((gb a.x0 a.x4) ≤ 57))) (lf JY (Qy.mk a.x0 false (w64 (a.x4 + 1)))) (lf JY (Qy.mk a.x0 a.x3 (w64 (a.x4 + 1)))))) (noN 2 u16 (.no false (lf JY (Qy.mk a.x0 a.x3 (w64 (a.x4 + 1))))))))))) (noN 2 u19 (noN 6 false (let u18 := (decide (a.x4 > 0)); .as u18 (yesN 2 u18 (.as (!(decide ((gb a.x0 a.x4) ≤ 57))) (lf JY (Qy.mk a.x0 false (w64 (a.x4 + 1)))) (lf JY (Qy.mk a.x0 a.x3 (w64 (a.x4 + 1)))))) (noN 2 u18 (.no false (lf JY (Qy.mk a.x0 a.x3 (w64 (a.x4 + 1))))))))))) (noN 2 u25 (yesN 3 true (let u24 := ((gb a.x0 a.x4) != 95); .as u24 (yesN 2 u24 (let u22 := (a.x4 == 0); .as u22 (.yes u22 (.yes u24 (.yes u22 (.yes u24 (.yes true (rx W4 (.inl false))))))) (.no u22 (.yes u24 (.no u22 (.yes u24 (let u21 := (!(decide ((gb a.x0 a.x4) ≤ 57))); .as u21 (rx W4 (.inl false)) (let u20 := (decide (a.x4 > 0)); .as u20 (yesN 2 u20 (.no u21 (lf JY (Qy.mk a.x0 a.x3 (w64 (a.x4 + 1)))))) (noN 2 u20 (.no false (lf JY (Qy.mk a.x0 a.x3 (w64 (a.x4 + 1)))))))))))))) (noN 4 u24 (.no false (let u23 := (decide (a.x4 > 0)); .as u23 (yesN 2 u23 (.as (!(decide ((gb a.x0 a.x4) ≤ 57))) (lf JY (Qy.mk a.x0 false (w64 (a.x4 + 1)))) (lf JY (Qy.mk a.x0 a.x3 (w64 (a.x4 + 1)))))) (noN 2 u23 (.no false (lf JY (Qy.mk a.x0 a.x3 (w64 (a.x4 + 1)))))))))))))) (noN 2 u35 (let u34 := (decide ((gb a.x0 a.x4) ≥ 97)); .as u34 (yesN 2 u34 (let u30 := (!(decide ((gb a.x0 a.x4) ≤ 122))); .as u30 (yesN 2 u30 (let u28 := ((gb a.x0 a.x4) != 95); .as u28 (yesN 2 u28 (let u26 := (a.x4 == 0); .as u26 (.yes u26 (.yes u28 (.yes u26 (.yes u28 (.yes true (rx W4 (.inl false))))))) (.no u26 (.yes u28 (.no u26 (.yes u28 (.yes true (rx W4 (.inl false))))))))) (noN 4 u28 (.no false (let u27 := (decide (a.x4 > 0)); .as u27 (yesN 2 u27 (.yes true (lf JY (Qy.mk a.x0 false (w64 (a.x4 + 1)))))) (noN 2 u27 (.no false (lf JY (Qy.mk a.x0 a.x3 (w64 (a.x4 + 1))))))))))) (noN 2 u30 (noN 6 false (let u29 := (decide (a.x4 > 0)); .as u29 (yesN 2 u29 (.yes true (lf JY (Qy.mk a.x0 false (w64 (a.x4 + 1)))))) (noN 2 u29 (.no false (lf JY (Qy.mk a.x0 a.x3 (w64 (a.x4 + 1))))))))))) (noN 2 u34 (yesN 3 true (let u33 := ((gb a.x0 a.x4) != 95); .as u33 (yesN 2 u33 (let u31 := (a.x4 == 0); .as u31 (.yes u31 (.yes u33 (.yes u31 (.yes u33 (.yes true (rx W4 (.inl false))))))) (.no u31 (.yes u33 (.no u31 (.yes u33 (.yes true (rx W4 (.inl false))))))))) (noN 4 u33 (.no false (let u32 := (decide (a.x4 > 0)); .as u32 (yesN 2 u32 (.yes true (lf JY (Qy.mk a.x0 false (w64 (a.x4 + 1)))))) (noN 2 u32 (.no false (lf JY (Qy.mk a.x0 a.x3 (w64 (a.x4 + 1))))))))))))))) .fail) (rx W4 (.inr a.x3)))
theorem VA.ok {a : Qy} {r : (Bool ⊕ Bool)} (h : VA a = some r) : lw 0 83 (loopAt pp 83 5) (JY a) = some (W4 r) := by
 refine lpP h Qmu fun a => ?_
 exact ⟨rfl, fun q0 => ⟨rfl, fun q1 => ⟨rfl, fun q2 => Qi 2 (q2) (⟨rfl, fun q3 => Qi 2 (q3) (⟨rfl, fun q4 => Qi 2 (q4) (⟨rfl, fun q5 => Qi 2 (q5) (⟨rfl, fun q6 => ⟨q6, ⟨q5, ⟨q6, ⟨q5, ⟨rfl, rfl⟩⟩⟩⟩⟩, fun q6 => ⟨q6, ⟨q5, ⟨q6, ⟨q5, ⟨rfl, fun q7 => rfl, fun q7 => ⟨rfl, fun q8 => Qi 2 (q8) (⟨q7, rfl⟩), fun q8 => noN_ok 2 (q8) (⟨rfl, rfl⟩)⟩⟩⟩⟩⟩⟩⟩), fun q5 => noN_ok 4 (q5) (⟨rfl, ⟨rfl, fun q6 => Qi 2 (q6) (⟨rfl, fun q7 => rfl, fun q7 => rfl⟩), fun q6 => noN_ok 2 (q6) (⟨rfl, rfl⟩)⟩⟩)⟩), fun q4 => noN_ok 2 (q4) (noN_ok 6 (rfl) (⟨rfl, fun q5 => Qi 2 (q5) (⟨rfl, fun q6 => rfl, fun q6 => rfl⟩), fun q5 => noN_ok 2 (q5) (⟨rfl, rfl⟩)⟩))⟩), fun q3 => noN_ok 2 (q3) (Qi 3 (rfl) (⟨rfl, fun q4 => Qi 2 (q4) (⟨rfl, fun q5 => ⟨q5, ⟨q4, ⟨q5, ⟨q4, ⟨rfl, rfl⟩⟩⟩⟩⟩, fun q5 => ⟨q5, ⟨q4, ⟨q5, ⟨q4, ⟨rfl, fun q6 => rfl, fun q6 => ⟨rfl, fun q7 => Qi 2 (q7) (⟨q6, rfl⟩), fun q7 => noN_ok 2 (q7) (⟨rfl, rfl⟩)⟩⟩⟩⟩⟩⟩⟩), fun q4 => noN_ok 4 (q4) (⟨rfl, ⟨rfl, fun q5 => Qi 2 (q5) (⟨rfl, fun q6 => rfl, fun q6 => rfl⟩), fun q5 => noN_ok 2 (q5) (⟨rfl, rfl⟩)⟩⟩)⟩))⟩), fun q2 => noN_ok 2 (q2) (⟨rfl, fun q3 => Qi 2 (q3) (⟨rfl, fun q4 => Qi 2 (q4) (⟨rfl, fun q5 => Qi 2 (q5) (⟨rfl, fun q6 => ⟨q6, ⟨q5, ⟨q6, ⟨q5, ⟨rfl, rfl⟩⟩⟩⟩⟩, fun q6 => ⟨q6, ⟨q5, ⟨q6, ⟨q5, ⟨rfl, rfl⟩⟩⟩⟩⟩⟩), fun q5 => noN_ok 4 (q5) (⟨rfl, ⟨rfl, fun q6 => Qi 2 (q6) (⟨rfl, rfl⟩), fun q6 => noN_ok 2 (q6) (⟨rfl, rfl⟩)⟩⟩)⟩), fun q4 => noN_ok 2 (q4) (noN_ok 6 (rfl) (⟨rfl, fun q5 => Qi 2 (q5) (⟨rfl, rfl⟩), fun q5 => noN_ok 2 (q5) (⟨rfl, rfl⟩)⟩))⟩), fun q3 => noN_ok 2 (q3) (Qi 3 (rfl) (⟨rfl, fun q4 => Qi 2 (q4) (⟨rfl, fun q5 => ⟨q5, ⟨q4, ⟨q5, ⟨q4, ⟨rfl, rfl⟩⟩⟩⟩⟩, fun q5 => ⟨q5, ⟨q4, ⟨q5, ⟨q4, ⟨rfl, rfl⟩⟩⟩⟩⟩⟩), fun q4 => noN_ok 4 (q4) (⟨rfl, ⟨rfl, fun q5 => Qi 2 (q5) (⟨rfl, rfl⟩), fun q5 => noN_ok 2 (q5) (⟨rfl, rfl⟩)⟩⟩)⟩))⟩)⟩, fun q1 => trivial⟩, fun q0 => rfl⟩
def Qfr (L0 : Qhl) (a0 : ByteArray) : Option Bool := (bif (decide (((a0.size : Nat) : Int) < 1)) then (some false) else (bif (decide (((a0.size : Nat) : Int) > 12)) then (some false) else (bif (decide (0 ≤ (0 : Int) ∧ (0 : Int) < ((a0.size : Nat) : Int))) then (bif (((a0.data.getD (Int.toNat 0) 0).toNat : Int) == 114) then ((L0 (Qy.mk a0 (decide (((a0.size : Nat) : Int) > 1)) (0 : Int))).bind fun x => Sum.elim (fun (o1 : Bool) => (some o1)) (fun (o2 : Bool) => (some (!o2))) x) else ((L0 (Qy.mk a0 false (0 : Int))).bind fun x => Sum.elim (fun (o3 : Bool) => (some o3)) (fun (o4 : Bool) => (some (!o4))) x)) else none)))
noncomputable def YA : Qh4 := Qfr VA
theorem YA.eq (a0 : ByteArray) : YA a0 = Qfr VA a0 := rfl
noncomputable def Qqx (a0 : ByteArray) : Tr Bool AH := (let u37 := (decide ((zz a0) < 1)); .as u37 (yesN 3 u37 (.yes true (rt Ql false))) (noN 3 u37 (.as (decide ((zz a0) > 12)) (rt Ql false) (.as (in1 i0 (zz a0)) (let u36 := ((gb a0 i0) == 114); .as u36 (yesN 3 u36 (Qfq (Qy.mk a0 (decide ((zz a0) > 1)) i0) (fun o1 => (rt Ql o1)) (fun o2 => (rt Ql (!o2))))) (noN 3 u36 (Qfq (Qy.mk a0 false i0) (fun o3 => (rt Ql o3)) (fun o4 => (rt Ql (!o4)))))) .fail))))
theorem YA.ok {a0 : ByteArray} {r : Bool} (h : YA a0 = some r) : ww 83 [xs a0] [] = some (Ql r) := by
 refine fnP (Qqx a0) ?_ h
 exact ⟨rfl, fun q0 => Qi 3 (q0) (⟨rfl, rfl⟩), fun q0 => noN_ok 3 (q0) (⟨rfl, fun q1 => rfl, fun q1 => ⟨rfl, fun q2 => ⟨rfl, fun q3 => Qi 3 (q3) (⟨fun o1 h => ⟨VA.ok (r := (.inl _)) h, rfl⟩, fun o2 h => ⟨VA.ok (r := (.inr _)) h, rfl⟩⟩), fun q3 => noN_ok 3 (q3) (⟨fun o3 h => ⟨VA.ok (r := (.inl _)) h, rfl⟩, fun o4 h => ⟨VA.ok (r := (.inr _)) h, rfl⟩⟩)⟩, fun q2 => trivial⟩⟩)⟩
noncomputable abbrev QkL {ρ R : Type} (a0 : ByteArray) (k : Bool → Tr ρ R) : Tr ρ R := .call (ww 83 [xs a0] []) (YA a0) Ql k
abbrev Qh5 := ByteArray → Option Bool
def Qfs (C0 : Qh4) (a0 : ByteArray) : Option Bool := ((C0 a0).bind fun r1 => (some r1))
noncomputable def YB : Qh5 := Qfs YA
theorem YB.eq (a0 : ByteArray) : YB a0 = Qfs YA a0 := rfl
noncomputable def Qqy (a0 : ByteArray) : Tr Bool AH := (QkL a0 fun r1 => (rt Ql r1))
theorem YB.ok {a0 : ByteArray} {r : Bool} (h : YB a0 = some r) : ww 34 [xs a0] [] = some (Ql r) := by
 refine fnP (Qqy a0) ?_ h
 exact fun r1 h => ⟨YA.ok h, rfl⟩
noncomputable abbrev QkM {ρ R : Type} (a0 : ByteArray) (k : Bool → Tr ρ R) : Tr ρ R := .call (ww 34 [xs a0] []) (YB a0) Ql k
abbrev Qft := ByteArray → Int → Option Int
noncomputable def WR (a0 : ByteArray) (a1 : Int) : Option Int := indexByteS a0 a1
noncomputable abbrev QeF {ρ R : Type} (a0 : ByteArray) (a1 : Int) (k : Int → Tr ρ R) : Tr ρ R := .call (ww 70 [xs a0, xb a1] []) (WR a0 a1) Qm k
theorem WR.ok {a0 : ByteArray} {a1 : Int} {r : Int} (h : WR a0 a1 = some r) : ww 70 [xs a0, xb a1] [] = some (Qm r) := (ES rfl _ _).trans (Qmn h)
def Qk (r : ByteArray) : AV × Heap := (xs r, [])
abbrev SA := ByteArray → ByteArray → Option ByteArray
noncomputable def Uy (a0 : ByteArray) (a1 : ByteArray) : Option ByteArray := trimS2 a0 a1
noncomputable abbrev XP {ρ R : Type} (a0 : ByteArray) (a1 : ByteArray) (k : ByteArray → Tr ρ R) : Tr ρ R := .call (ww 74 [xs a0, xs a1] []) (Uy a0 a1) Qk k
theorem Uy.ok {a0 : ByteArray} {a1 : ByteArray} {r : ByteArray} (h : Uy a0 a1 = some r) : ww 74 [xs a0, xs a1] [] = some (Qk r) := (ES rfl _ _).trans (QsP h)
abbrev Qi4 := ByteArray → Option ByteArray
structure JR where
 x0 : ByteArray
 x3 : Bool
 x4 : Int
def YC (a : JR) : St := { n := 31, nx := 0, env := [(0, xs a.x0), (3, xo a.x3), (4, xi a.x4)], heap := [] }
def GS (a : ByteArray) : Ex × St := (.ret, { n := 31, nx := 0, env := [(2, xs a)], heap := [] })
abbrev Qea := JR → Option ByteArray
def GT (C0 : SA) (a : JR) : Option (JR ⊕ ByteArray) := (bif (a.x4 == ((a.x0.size : Nat) : Int)) then (bif (decide (0 ≤ (0 : Int) ∧ (0 : Int) ≤ a.x4 ∧ a.x4 ≤ ((a.x0.size : Nat) : Int))) then ((C0 (a.x0.extract (Int.toNat 0) (Int.toNat a.x4)) X1).bind fun r1 => (some (.inr r1))) else none) else (bif (decide (0 ≤ a.x4 ∧ a.x4 < ((a.x0.size : Nat) : Int))) then (bif (((a.x0.data.getD (Int.toNat a.x4) 0).toNat : Int) == 35) then (bif (!a.x3) then (bif (decide (0 ≤ (0 : Int) ∧ (0 : Int) ≤ a.x4 ∧ a.x4 ≤ ((a.x0.size : Nat) : Int))) then ((C0 (a.x0.extract (Int.toNat 0) (Int.toNat a.x4)) X1).bind fun r2 => (some (.inr r2))) else none) else (bif (((a.x0.data.getD (Int.toNat a.x4) 0).toNat : Int) == 34) then (some (.inl (JR.mk a.x0 (!a.x3) (w64 (a.x4 + 1))))) else (some (.inl (JR.mk a.x0 a.x3 (w64 (a.x4 + 1))))))) else (bif (((a.x0.data.getD (Int.toNat a.x4) 0).toNat : Int) == 34) then (some (.inl (JR.mk a.x0 (!a.x3) (w64 (a.x4 + 1))))) else (some (.inl (JR.mk a.x0 a.x3 (w64 (a.x4 + 1))))))) else none))
noncomputable def VB : Qea := loopW (GT Uy)
theorem VB.eq (a : JR) : VB a = (GT Uy a).bind (Sum.elim VB some) := Jk _ _
noncomputable abbrev QjZ {ρ R : Type} (a : JR) (k0 : ByteArray → Tr ρ R) : Tr ρ R := .loop (loopAt pp 71 3) (YC a) (VB a) GS k0
noncomputable def Qj0 (a : JR) : Tr (JR ⊕ ByteArray) XS := (let u40 := (a.x4 == (zz a.x0)); .as u40 (yesN 6 u40 (.yes true (.as (in2 i0 a.x4 (zz a.x0)) (XP (cu a.x0 i0 a.x4) X1 fun r1 => (rx GS r1)) .fail))) (noN 2 u40 (let u39 := (in1 a.x4 (zz a.x0)); .as u39 (noN 2 u40 (let u38 := ((gb a.x0 a.x4) == 35); .as u38 (.yes u38 (.no u40 (.yes u38 (.no u40 (.as (!a.x3) (.as (in2 i0 a.x4 (zz a.x0)) (XP (cu a.x0 i0 a.x4) X1 fun r2 => (rx GS r2)) .fail) (.yes u39 (.as ((gb a.x0 a.x4) == 34) (lf YC (JR.mk a.x0 (!a.x3) (w64 (a.x4 + 1)))) (lf YC (JR.mk a.x0 a.x3 (w64 (a.x4 + 1))))))))))) (.no u38 (.no u40 (.no u38 (.no u40 (.no false (.yes u39 (.as ((gb a.x0 a.x4) == 34) (lf YC (JR.mk a.x0 (!a.x3) (w64 (a.x4 + 1)))) (lf YC (JR.mk a.x0 a.x3 (w64 (a.x4 + 1))))))))))))) .fail)))
theorem VB.ok {a : JR} {r : ByteArray} (h : VB a = some r) : lw 0 71 (loopAt pp 71 3) (YC a) = some (GS r) := by
 refine lpP h Qj0 fun a => ?_
 exact ⟨rfl, fun q0 => Qi 6 (q0) (⟨rfl, ⟨rfl, fun q1 => fun r1 h => ⟨Uy.ok h, rfl⟩, fun q1 => trivial⟩⟩), fun q0 => noN_ok 2 (q0) (⟨rfl, fun q1 => noN_ok 2 (q0) (⟨rfl, fun q2 => ⟨q2, ⟨q0, ⟨q2, ⟨q0, ⟨rfl, fun q3 => ⟨rfl, fun q4 => fun r2 h => ⟨Uy.ok h, rfl⟩, fun q4 => trivial⟩, fun q3 => ⟨q1, ⟨rfl, fun q4 => rfl, fun q4 => rfl⟩⟩⟩⟩⟩⟩⟩, fun q2 => ⟨q2, ⟨q0, ⟨q2, ⟨q0, ⟨rfl, ⟨q1, ⟨rfl, fun q3 => rfl, fun q3 => rfl⟩⟩⟩⟩⟩⟩⟩⟩), fun q1 => trivial⟩)⟩
def Qb3 (L0 : Qea) (a0 : ByteArray) : Option ByteArray := ((L0 (JR.mk a0 false (0 : Int))).bind (fun (o1 : ByteArray) => (some o1)))
noncomputable def Yt : Qi4 := Qb3 VB
theorem Yt.eq (a0 : ByteArray) : Yt a0 = Qb3 VB a0 := rfl
noncomputable def Qn0 (a0 : ByteArray) : Tr ByteArray AH := (QjZ (JR.mk a0 false i0) (fun o1 => (rt Qk o1)))
theorem Yt.ok {a0 : ByteArray} {r : ByteArray} (h : Yt a0 = some r) : ww 71 [xs a0] [] = some (Qk r) := by
 refine fnP (Qn0 a0) ?_ h
 exact fun o1 h => ⟨VB.ok h, rfl⟩
noncomputable abbrev Qn1 {ρ R : Type} (a0 : ByteArray) (k : ByteArray → Tr ρ R) : Tr ρ R := .call (ww 71 [xs a0] []) (Yt a0) Qk k
abbrev Qhm := Int → Option Bool
def QaU (a0 : Int) : Option Bool := (bif (a0 != 32) then (some (a0 != 9)) else (some false))
noncomputable def XW : Qhm := QaU
theorem XW.eq (a0 : Int) : XW a0 = QaU a0 := rfl
noncomputable def Qmv (a0 : Int) : Tr Bool AH := (let u41 := (a0 != 32); .as u41 (yesN 2 u41 (rt Ql (a0 != 9))) (noN 2 u41 (rt Ql false)))
theorem XW.ok {a0 : Int} {r : Bool} (h : XW a0 = some r) : ww 75 [xb a0] [] = some (Ql r) := by
 refine fnP (Qmv a0) ?_ h
 exact ⟨rfl, fun q0 => Qi 2 (q0) (rfl), fun q0 => noN_ok 2 (q0) (rfl)⟩
noncomputable abbrev Qmw {ρ R : Type} (a0 : Int) (k : Bool → Tr ρ R) : Tr ρ R := .call (ww 75 [xb a0] []) (XW a0) Ql k
abbrev Qeb := ByteArray → Option Int
structure Uo where
 x0 : ByteArray
 x5 : Int
def G8 (a : Uo) : St := { n := 20, nx := 0, env := [(0, xs a.x0), (1, .fn (.func 75) [] []), (5, xi a.x5)], heap := [] }
def Zt (a : Int) : Ex × St := (.exit 0, { n := 20, nx := 0, env := [(5, xi a)], heap := [] })
abbrev QaV := Uo → Option Int
def G9 (C0 : Qhm) (a : Uo) : Option (Uo ⊕ Int) := (bif (decide (a.x5 < ((a.x0.size : Nat) : Int))) then (bif (decide (0 ≤ a.x5 ∧ a.x5 < ((a.x0.size : Nat) : Int))) then ((C0 ((a.x0.data.getD (Int.toNat a.x5) 0).toNat : Int)).bind fun r1 => (bif r1 then (some (.inl (Uo.mk a.x0 (w64 (a.x5 + 1))))) else (some (.inr a.x5)))) else none) else (some (.inr a.x5)))
noncomputable def V4 : QaV := loopW (G9 XW)
theorem V4.eq (a : Uo) : V4 a = (G9 XW a).bind (Sum.elim V4 some) := Jk _ _
noncomputable abbrev QgT {ρ R : Type} (a : Uo) (k0 : Int → Tr ρ R) : Tr ρ R := .loop (loopAt pp 72 2) (G8 a) (V4 a) Zt k0
noncomputable def QgU (a : Uo) : Tr (Uo ⊕ Int) XS := (let u42 := (decide (a.x5 < (zz a.x0))); .as u42 (yesN 3 u42 (.as (in1 a.x5 (zz a.x0)) (.yes u42 (Qmw (gb a.x0 a.x5) fun r1 => (.yes u42 (.as r1 (lf G8 (Uo.mk a.x0 (w64 (a.x5 + 1)))) (rx Zt a.x5))))) .fail)) (noN 5 u42 (.no false (rx Zt a.x5))))
theorem V4.ok {a : Uo} {r : Int} (h : V4 a = some r) : lw 0 72 (loopAt pp 72 2) (G8 a) = some (Zt r) := by
 refine lpP h QgU fun a => ?_
 exact ⟨rfl, fun q0 => Qi 3 (q0) (⟨rfl, fun q1 => ⟨q0, fun r1 h => ⟨XW.ok h, ⟨q0, ⟨rfl, fun q2 => rfl, fun q2 => rfl⟩⟩⟩⟩, fun q1 => trivial⟩), fun q0 => noN_ok 5 (q0) (⟨rfl, rfl⟩)⟩
def Pf (L0 : QaV) (a0 : ByteArray) : Option Int := ((L0 (Uo.mk a0 (0 : Int))).bind (fun (o1 : Int) => (some o1)))
noncomputable def VC : Qeb := Pf V4
theorem VC.eq (a0 : ByteArray) : VC a0 = Pf V4 a0 := rfl
noncomputable def Qj1 (a0 : ByteArray) : Tr Int AH := (QgT (Uo.mk a0 i0) (fun o1 => (rt Qm o1)))
theorem VC.ok {a0 : ByteArray} {r : Int} (h : VC a0 = some r) : ww 72 [xs a0, .fn (.func 75) [] []] [] = some (Qm r) := by
 refine fnP (Qj1 a0) ?_ h
 exact fun o1 h => ⟨V4.ok h, rfl⟩
noncomputable abbrev Pg {ρ R : Type} (a0 : ByteArray) (k : Int → Tr ρ R) : Tr ρ R := .call (ww 72 [xs a0, .fn (.func 75) [] []] []) (VC a0) Qm k
def QbC (r : (List ByteArray)) : AV × Heap := (.arr 0, [(0, .arr false 1 (Qg r))])
abbrev Qj2 := ByteArray → ByteArray → Option (List ByteArray)
noncomputable def Yd (a0 : ByteArray) (a1 : ByteArray) : Option (List ByteArray) := splitS a0 a1
noncomputable abbrev Qi5 {ρ R : Type} (a0 : ByteArray) (a1 : ByteArray) (k : (List ByteArray) → Tr ρ R) : Tr ρ R := .call (ww 79 [xs a0, xs a1] []) (Yd a0 a1) QbC k
theorem Yd.ok {a0 : ByteArray} {a1 : ByteArray} {r : (List ByteArray)} (h : Yd a0 a1 = some r) : ww 79 [xs a0, xs a1] [] = some (QbC r) := (ES rfl _ _).trans (QrD h)
def Jd (r : (List ByteArray)) : AV × Heap := (.sl (Qg r), [])
abbrev QcO := ByteArray → Option (List ByteArray)
structure J9 where
 x10 : Int
 x11 : Int
 r0 : (List ByteArray)
def Gt (a : J9) : St := { n := 24, nx := 1, env := [(3, .arr 0), (10, xi a.x10), (11, xi a.x11)], heap := [(0, .arr false 1 (Qg a.r0))] }
def Gu (a : (List ByteArray)) : Ex × St := (.exit 0, { n := 24, nx := 1, env := [(3, .arr 0)], heap := [(0, .arr false 1 (Qg a))] })
abbrev SK := J9 → Option (List ByteArray)
def Za (C0 : SA) (a : J9) : Option (J9 ⊕ (List ByteArray)) := (bif (decide (a.x11 < a.x10)) then (bif (decide (0 ≤ a.x11 ∧ a.x11 < ((a.r0.length : Nat) : Int))) then ((a.r0[(Int.toNat a.x11)]?).bind fun e1 => ((C0 e1 X1).bind fun r2 => ((a.r0[(Int.toNat a.x11)]?).bind fun e3 => (some (.inl (J9.mk a.x10 (w64 (a.x11 + 1)) (a.r0.set (Int.toNat a.x11) r2))))))) else none) else (some (.inr a.r0)))
noncomputable def UD : SK := loopW (Za Uy)
theorem UD.eq (a : J9) : UD a = (Za Uy a).bind (Sum.elim UD some) := Jk _ _
noncomputable abbrev Qfu {ρ R : Type} (a : J9) (k0 : (List ByteArray) → Tr ρ R) : Tr ρ R := .loop (loopAt pp 123 5) (Gt a) (UD a) Gu k0
noncomputable def Qfv (a : J9) : Tr (J9 ⊕ (List ByteArray)) XS := (.as (decide (a.x11 < a.x10)) (let u43 := (in1 a.x11 (((Qg a.r0).length : Nat) : Int)); .ask u43 (in1 a.x11 ((a.r0.length : Nat) : Int)) (.row ((Qg a.r0)[(Int.toNat a.x11)]?) (a.r0[(Int.toNat a.x11)]?) Q2 fun (e1 : ByteArray) => (XP e1 X1 fun r2 => (.yes u43 (.row ((Qg a.r0)[(Int.toNat a.x11)]?) (a.r0[(Int.toNat a.x11)]?) Q2 fun (e3 : ByteArray) => (.rows ((Qg a.r0).set (Int.toNat a.x11) [xs r2]) (Qg (a.r0.set (Int.toNat a.x11) r2)) (lf Gt (J9.mk a.x10 (w64 (a.x11 + 1)) (a.r0.set (Int.toNat a.x11) r2)))))))) .fail) (rx Gu a.r0))
theorem UD.ok {a : J9} {r : (List ByteArray)} (h : UD a = some r) : lw 0 123 (loopAt pp 123 5) (Gt a) = some (Gu r) := by
 refine lpP h Qfv fun a => ?_
 exact ⟨rfl, fun q0 => ⟨(by rw [Qo]), fun q1 => fun e1 h => ⟨QT h, fun r2 h => ⟨Uy.ok h, ⟨(show (decide (0 ≤ a.x11 ∧ a.x11 < (((Qg a.r0).length : Nat) : Int))) = (decide (0 ≤ a.x11 ∧ a.x11 < ((a.r0.length : Nat) : Int))) from (by rw [Qo])).trans q1, fun e3 h => ⟨QT h, ⟨(Qmo a.r0 (Int.toNat a.x11) r2), rfl⟩⟩⟩⟩⟩, fun q1 => trivial⟩, fun q0 => rfl⟩
def Fw (C0 : Qj2) (L1 : SK) (a0 : ByteArray) : Option (List ByteArray) := (bif (eqS a0 s_) then (some ([] : List ByteArray)) else ((C0 a0 h_2c).bind fun r1 => ((L1 (J9.mk (((r1.length) : Nat) : Int) (0 : Int) r1)).bind (fun (o2 : (List ByteArray)) => (some o2)))))
noncomputable def WJ : QcO := Fw Yd UD
theorem WJ.eq (a0 : ByteArray) : WJ a0 = Fw Yd UD a0 := rfl
noncomputable def Qi6 (a0 : ByteArray) : Tr (List ByteArray) AH := (.as (eqS a0 s_) (rt Jd ([] : List ByteArray)) (Qi5 a0 h_2c fun r1 => (.num ((Qg r1).length) (r1.length) (Qfu (J9.mk (((r1.length) : Nat) : Int) i0 r1) (fun o2 => (rt Jd o2))))))
theorem WJ.ok {a0 : ByteArray} {r : (List ByteArray)} (h : WJ a0 = some r) : ww 123 [xs a0] [] = some (Jd r) := by
 refine fnP (Qi6 a0) ?_ h
 exact ⟨rfl, fun q0 => rfl, fun q0 => fun r1 h => ⟨Yd.ok h, ⟨(Qo _), fun o2 h => ⟨UD.ok h, rfl⟩⟩⟩⟩
noncomputable abbrev Qi7 {ρ R : Type} (a0 : ByteArray) (k : (List ByteArray) → Tr ρ R) : Tr ρ R := .call (ww 123 [xs a0] []) (WJ a0) Jd k
def Qb4 (r : (List Qe)) : AV × Heap := (.sl (XC r), [])
abbrev Fx := Option (List Qe)
def Qhn : Option (List Qe) := (some [(Qe.mk Gr (0 : Int) s_), (Qe.mk Fm (1 : Int) s_), (Qe.mk QcL (2 : Int) s_), (Qe.mk QaF (4 : Int) s_), (Qe.mk P6 (6 : Int) s_), (Qe.mk QaL (32 : Int) s_X), (Qe.mk QaK (48 : Int) s_X), (Qe.mk P9 (128 : Int) s_X), (Qe.mk Sa (144 : Int) s_X), (Qe.mk Fo (160 : Int) s_X), (Qe.mk Fp (176 : Int) s_X), (Qe.mk Fk (192 : Int) s_X), (Qe.mk Fi (208 : Int) s_X), (Qe.mk Fl (224 : Int) s_X), (Qe.mk Fj (240 : Int) s_X), (Qe.mk QcJ (256 : Int) Jg), (Qe.mk QaD (1024 : Int) Jg), (Qe.mk Fq (1280 : Int) Jg), (Qe.mk QaP (1536 : Int) Jg), (Qe.mk QaG (3072 : Int) Jg), (Qe.mk P8 (3328 : Int) Jg), (Qe.mk P4 (8192 : Int) We), (Qe.mk Fh (8704 : Int) We), (Qe.mk Sd (9216 : Int) We), (Qe.mk P7 (10752 : Int) Jy), (Qe.mk QcK (17408 : Int) Jg), (Qe.mk P5 (17664 : Int) Jg), (Qe.mk QaE (17920 : Int) Jg), (Qe.mk QcI (18432 : Int) Fb), (Qe.mk Fe (24576 : Int) Jy), (Qe.mk Ff (25600 : Int) Jy), (Qe.mk Fg (26112 : Int) Jy), (Qe.mk Sc (26624 : Int) Jy), (Qe.mk Sb (27648 : Int) Jy), (Qe.mk QaH (32768 : Int) Wp), (Qe.mk QaM (36864 : Int) Wp), (Qe.mk QaI (40960 : Int) Wq), (Qe.mk QaN (45056 : Int) Wq), (Qe.mk QaJ (49152 : Int) Wr), (Qe.mk QaO (53248 : Int) Wr), (Qe.mk QcG (57344 : Int) X2), (Qe.mk Qfn (59392 : Int) s_T8), (Qe.mk QcH (59648 : Int) s_T8), (Qe.mk Fc (469762048 : Int) YM), (Qe.mk QaA (402685952 : Int) ZA), (Qe.mk QaB (402702336 : Int) UC), (Qe.mk QcB (402706432 : Int) UC), (Qe.mk QaC (402710528 : Int) UC), (Qe.mk Qfm (1879048192 : Int) Gq), (Qe.mk Qcx (805306368 : Int) QD), (Qe.mk QcC (872415232 : Int) QD), (Qe.mk Qcy (939524096 : Int) QD), (Qe.mk QcA (1342177280 : Int) QD), (Qe.mk QcE (1409286144 : Int) QD), (Qe.mk Qcz (1476395008 : Int) QD), (Qe.mk QcD (1543503872 : Int) QD), (Qe.mk QiZ (2013265920 : Int) Ez), (Qe.mk Qfl (2013265921 : Int) Ez), (Qe.mk Qfk (2046820352 : Int) UH), (Qe.mk Qcw (2046820353 : Int) UH), (Qe.mk QiX (2080375316 : Int) Vj), (Qe.mk Qfo (2080374864 : Int) Vj), (Qe.mk QcF (2080375254 : Int) Vj), (Qe.mk QiY (2080374840 : Int) Vi), (Qe.mk s_or (2080375672 : Int) Vi), (Qe.mk Qi1 (2080375416 : Int) Vi)])
noncomputable def V7 : Fx := Qhn
noncomputable def Qn2 : Tr (List Qe) AH := (.rows [[xs Gr, .sc (.int .u32 i0), xs s_], [xs Fm, .sc (.int .u32 (zi 1)), xs s_], [xs QcL, .sc (.int .u32 (zi 2)), xs s_], [xs QaF, .sc (.int .u32 (zi 4)), xs s_], [xs P6, .sc (.int .u32 (zi 6)), xs s_], [xs QaL, .sc (.int .u32 (zi 32)), xs s_X], [xs QaK, .sc (.int .u32 (zi 48)), xs s_X], [xs P9, .sc (.int .u32 (zi 128)), xs s_X], [xs Sa, .sc (.int .u32 (zi 144)), xs s_X], [xs Fo, .sc (.int .u32 (zi 160)), xs s_X], [xs Fp, .sc (.int .u32 (zi 176)), xs s_X], [xs Fk, .sc (.int .u32 (zi 192)), xs s_X], [xs Fi, .sc (.int .u32 (zi 208)), xs s_X], [xs Fl, .sc (.int .u32 (zi 224)), xs s_X], [xs Fj, .sc (.int .u32 (zi 240)), xs s_X], [xs QcJ, .sc (.int .u32 (zi 256)), xs Jg], [xs QaD, .sc (.int .u32 (zi 1024)), xs Jg], [xs Fq, .sc (.int .u32 (zi 1280)), xs Jg], [xs QaP, .sc (.int .u32 (zi 1536)), xs Jg], [xs QaG, .sc (.int .u32 (zi 3072)), xs Jg], [xs P8, .sc (.int .u32 (zi 3328)), xs Jg], [xs P4, .sc (.int .u32 (zi 8192)), xs We], [xs Fh, .sc (.int .u32 (zi 8704)), xs We], [xs Sd, .sc (.int .u32 (zi 9216)), xs We], [xs P7, .sc (.int .u32 (zi 10752)), xs Jy], [xs QcK, .sc (.int .u32 (zi 17408)), xs Jg], [xs P5, .sc (.int .u32 (zi 17664)), xs Jg], [xs QaE, .sc (.int .u32 (zi 17920)), xs Jg], [xs QcI, .sc (.int .u32 (zi 18432)), xs Fb], [xs Fe, .sc (.int .u32 (zi 24576)), xs Jy], [xs Ff, .sc (.int .u32 (zi 25600)), xs Jy], [xs Fg, .sc (.int .u32 (zi 26112)), xs Jy], [xs Sc, .sc (.int .u32 (zi 26624)), xs Jy], [xs Sb, .sc (.int .u32 (zi 27648)), xs Jy], [xs QaH, .sc (.int .u32 (zi 32768)), xs Wp], [xs QaM, .sc (.int .u32 (zi 36864)), xs Wp], [xs QaI, .sc (.int .u32 (zi 40960)), xs Wq], [xs QaN, .sc (.int .u32 (zi 45056)), xs Wq], [xs QaJ, .sc (.int .u32 (zi 49152)), xs Wr], [xs QaO, .sc (.int .u32 (zi 53248)), xs Wr], [xs QcG, .sc (.int .u32 (zi 57344)), xs X2], [xs Qfn, .sc (.int .u32 (zi 59392)), xs s_T8], [xs QcH, .sc (.int .u32 (zi 59648)), xs s_T8], [xs Fc, .sc (.int .u32 (zi 469762048)), xs YM], [xs QaA, .sc (.int .u32 (zi 402685952)), xs ZA], [xs QaB, .sc (.int .u32 (zi 402702336)), xs UC], [xs QcB, .sc (.int .u32 (zi 402706432)), xs UC], [xs QaC, .sc (.int .u32 (zi 402710528)), xs UC], [xs Qfm, .sc (.int .u32 (zi 1879048192)), xs Gq], [xs Qcx, .sc (.int .u32 (zi 805306368)), xs QD], [xs QcC, .sc (.int .u32 (zi 872415232)), xs QD], [xs Qcy, .sc (.int .u32 (zi 939524096)), xs QD], [xs QcA, .sc (.int .u32 (zi 1342177280)), xs QD], [xs QcE, .sc (.int .u32 (zi 1409286144)), xs QD], [xs Qcz, .sc (.int .u32 (zi 1476395008)), xs QD], [xs QcD, .sc (.int .u32 (zi 1543503872)), xs QD], [xs QiZ, .sc (.int .u32 (zi 2013265920)), xs Ez], [xs Qfl, .sc (.int .u32 (zi 2013265921)), xs Ez], [xs Qfk, .sc (.int .u32 (zi 2046820352)), xs UH], [xs Qcw, .sc (.int .u32 (zi 2046820353)), xs UH], [xs QiX, .sc (.int .u32 (zi 2080375316)), xs Vj], [xs Qfo, .sc (.int .u32 (zi 2080374864)), xs Vj], [xs QcF, .sc (.int .u32 (zi 2080375254)), xs Vj], [xs QiY, .sc (.int .u32 (zi 2080374840)), xs Vi], [xs s_or, .sc (.int .u32 (zi 2080375672)), xs Vi], [xs Qi1, .sc (.int .u32 (zi 2080375416)), xs Vi]] (XC [(Qe.mk Gr i0 s_), (Qe.mk Fm (zi 1) s_), (Qe.mk QcL (zi 2) s_), (Qe.mk QaF (zi 4) s_), (Qe.mk P6 (zi 6) s_), (Qe.mk QaL (zi 32) s_X), (Qe.mk QaK (zi 48) s_X), (Qe.mk P9 (zi 128) s_X), (Qe.mk Sa (zi 144) s_X), (Qe.mk Fo (zi 160) s_X), (Qe.mk Fp (zi 176) s_X), (Qe.mk Fk (zi 192) s_X), (Qe.mk Fi (zi 208) s_X), (Qe.mk Fl (zi 224) s_X), (Qe.mk Fj (zi 240) s_X), (Qe.mk QcJ (zi 256) Jg), (Qe.mk QaD (zi 1024) Jg), (Qe.mk Fq (zi 1280) Jg), (Qe.mk QaP (zi 1536) Jg), (Qe.mk QaG (zi 3072) Jg), (Qe.mk P8 (zi 3328) Jg), (Qe.mk P4 (zi 8192) We), (Qe.mk Fh (zi 8704) We), (Qe.mk Sd (zi 9216) We), (Qe.mk P7 (zi 10752) Jy), (Qe.mk QcK (zi 17408) Jg), (Qe.mk P5 (zi 17664) Jg), (Qe.mk QaE (zi 17920) Jg), (Qe.mk QcI (zi 18432) Fb), (Qe.mk Fe (zi 24576) Jy), (Qe.mk Ff (zi 25600) Jy), (Qe.mk Fg (zi 26112) Jy), (Qe.mk Sc (zi 26624) Jy), (Qe.mk Sb (zi 27648) Jy), (Qe.mk QaH (zi 32768) Wp), (Qe.mk QaM (zi 36864) Wp), (Qe.mk QaI (zi 40960) Wq), (Qe.mk QaN (zi 45056) Wq), (Qe.mk QaJ (zi 49152) Wr), (Qe.mk QaO (zi 53248) Wr), (Qe.mk QcG (zi 57344) X2), (Qe.mk Qfn (zi 59392) s_T8), (Qe.mk QcH (zi 59648) s_T8), (Qe.mk Fc (zi 469762048) YM), (Qe.mk QaA (zi 402685952) ZA), (Qe.mk QaB (zi 402702336) UC), (Qe.mk QcB (zi 402706432) UC), (Qe.mk QaC (zi 402710528) UC), (Qe.mk Qfm (zi 1879048192) Gq), (Qe.mk Qcx (zi 805306368) QD), (Qe.mk QcC (zi 872415232) QD), (Qe.mk Qcy (zi 939524096) QD), (Qe.mk QcA (zi 1342177280) QD), (Qe.mk QcE (zi 1409286144) QD), (Qe.mk Qcz (zi 1476395008) QD), (Qe.mk QcD (zi 1543503872) QD), (Qe.mk QiZ (zi 2013265920) Ez), (Qe.mk Qfl (zi 2013265921) Ez), (Qe.mk Qfk (zi 2046820352) UH), (Qe.mk Qcw (zi 2046820353) UH), (Qe.mk QiX (zi 2080375316) Vj), (Qe.mk Qfo (zi 2080374864) Vj), (Qe.mk QcF (zi 2080375254) Vj), (Qe.mk QiY (zi 2080374840) Vi), (Qe.mk s_or (zi 2080375672) Vi), (Qe.mk Qi1 (zi 2080375416) Vi)]) (rt Qb4 [(Qe.mk Gr i0 s_), (Qe.mk Fm (zi 1) s_), (Qe.mk QcL (zi 2) s_), (Qe.mk QaF (zi 4) s_), (Qe.mk P6 (zi 6) s_), (Qe.mk QaL (zi 32) s_X), (Qe.mk QaK (zi 48) s_X), (Qe.mk P9 (zi 128) s_X), (Qe.mk Sa (zi 144) s_X), (Qe.mk Fo (zi 160) s_X), (Qe.mk Fp (zi 176) s_X), (Qe.mk Fk (zi 192) s_X), (Qe.mk Fi (zi 208) s_X), (Qe.mk Fl (zi 224) s_X), (Qe.mk Fj (zi 240) s_X), (Qe.mk QcJ (zi 256) Jg), (Qe.mk QaD (zi 1024) Jg), (Qe.mk Fq (zi 1280) Jg), (Qe.mk QaP (zi 1536) Jg), (Qe.mk QaG (zi 3072) Jg), (Qe.mk P8 (zi 3328) Jg), (Qe.mk P4 (zi 8192) We), (Qe.mk Fh (zi 8704) We), (Qe.mk Sd (zi 9216) We), (Qe.mk P7 (zi 10752) Jy), (Qe.mk QcK (zi 17408) Jg), (Qe.mk P5 (zi 17664) Jg), (Qe.mk QaE (zi 17920) Jg), (Qe.mk QcI (zi 18432) Fb), (Qe.mk Fe (zi 24576) Jy), (Qe.mk Ff (zi 25600) Jy), (Qe.mk Fg (zi 26112) Jy), (Qe.mk Sc (zi 26624) Jy), (Qe.mk Sb (zi 27648) Jy), (Qe.mk QaH (zi 32768) Wp), (Qe.mk QaM (zi 36864) Wp), (Qe.mk QaI (zi 40960) Wq), (Qe.mk QaN (zi 45056) Wq), (Qe.mk QaJ (zi 49152) Wr), (Qe.mk QaO (zi 53248) Wr), (Qe.mk QcG (zi 57344) X2), (Qe.mk Qfn (zi 59392) s_T8), (Qe.mk QcH (zi 59648) s_T8), (Qe.mk Fc (zi 469762048) YM), (Qe.mk QaA (zi 402685952) ZA), (Qe.mk QaB (zi 402702336) UC), (Qe.mk QcB (zi 402706432) UC), (Qe.mk QaC (zi 402710528) UC), (Qe.mk Qfm (zi 1879048192) Gq), (Qe.mk Qcx (zi 805306368) QD), (Qe.mk QcC (zi 872415232) QD), (Qe.mk Qcy (zi 939524096) QD), (Qe.mk QcA (zi 1342177280) QD), (Qe.mk QcE (zi 1409286144) QD), (Qe.mk Qcz (zi 1476395008) QD), (Qe.mk QcD (zi 1543503872) QD), (Qe.mk QiZ (zi 2013265920) Ez), (Qe.mk Qfl (zi 2013265921) Ez), (Qe.mk Qfk (zi 2046820352) UH), (Qe.mk Qcw (zi 2046820353) UH), (Qe.mk QiX (zi 2080375316) Vj), (Qe.mk Qfo (zi 2080374864) Vj), (Qe.mk QcF (zi 2080375254) Vj), (Qe.mk QiY (zi 2080374840) Vi), (Qe.mk s_or (zi 2080375672) Vi), (Qe.mk Qi1 (zi 2080375416) Vi)]))
theorem V7.ok {r : (List Qe)} (h : V7 = some r) : ww 139 [] [] = some (Qb4 r) := by
 refine fnP (Qn2) ?_ h
 exact ⟨(Sx [(Qe.mk Gr (0 : Int) s_), (Qe.mk Fm (1 : Int) s_), (Qe.mk QcL (2 : Int) s_), (Qe.mk QaF (4 : Int) s_), (Qe.mk P6 (6 : Int) s_), (Qe.mk QaL (32 : Int) s_X), (Qe.mk QaK (48 : Int) s_X), (Qe.mk P9 (128 : Int) s_X), (Qe.mk Sa (144 : Int) s_X), (Qe.mk Fo (160 : Int) s_X), (Qe.mk Fp (176 : Int) s_X), (Qe.mk Fk (192 : Int) s_X), (Qe.mk Fi (208 : Int) s_X), (Qe.mk Fl (224 : Int) s_X), (Qe.mk Fj (240 : Int) s_X), (Qe.mk QcJ (256 : Int) Jg), (Qe.mk QaD (1024 : Int) Jg), (Qe.mk Fq (1280 : Int) Jg), (Qe.mk QaP (1536 : Int) Jg), (Qe.mk QaG (3072 : Int) Jg), (Qe.mk P8 (3328 : Int) Jg), (Qe.mk P4 (8192 : Int) We), (Qe.mk Fh (8704 : Int) We), (Qe.mk Sd (9216 : Int) We), (Qe.mk P7 (10752 : Int) Jy), (Qe.mk QcK (17408 : Int) Jg), (Qe.mk P5 (17664 : Int) Jg), (Qe.mk QaE (17920 : Int) Jg), (Qe.mk QcI (18432 : Int) Fb), (Qe.mk Fe (24576 : Int) Jy), (Qe.mk Ff (25600 : Int) Jy), (Qe.mk Fg (26112 : Int) Jy), (Qe.mk Sc (26624 : Int) Jy), (Qe.mk Sb (27648 : Int) Jy), (Qe.mk QaH (32768 : Int) Wp), (Qe.mk QaM (36864 : Int) Wp), (Qe.mk QaI (40960 : Int) Wq), (Qe.mk QaN (45056 : Int) Wq), (Qe.mk QaJ (49152 : Int) Wr), (Qe.mk QaO (53248 : Int) Wr), (Qe.mk QcG (57344 : Int) X2), (Qe.mk Qfn (59392 : Int) s_T8), (Qe.mk QcH (59648 : Int) s_T8), (Qe.mk Fc (469762048 : Int) YM), (Qe.mk QaA (402685952 : Int) ZA), (Qe.mk QaB (402702336 : Int) UC), (Qe.mk QcB (402706432 : Int) UC), (Qe.mk QaC (402710528 : Int) UC), (Qe.mk Qfm (1879048192 : Int) Gq), (Qe.mk Qcx (805306368 : Int) QD), (Qe.mk QcC (872415232 : Int) QD), (Qe.mk Qcy (939524096 : Int) QD), (Qe.mk QcA (1342177280 : Int) QD), (Qe.mk QcE (1409286144 : Int) QD), (Qe.mk Qcz (1476395008 : Int) QD), (Qe.mk QcD (1543503872 : Int) QD), (Qe.mk QiZ (2013265920 : Int) Ez), (Qe.mk Qfl (2013265921 : Int) Ez), (Qe.mk Qfk (2046820352 : Int) UH), (Qe.mk Qcw (2046820353 : Int) UH), (Qe.mk QiX (2080375316 : Int) Vj), (Qe.mk Qfo (2080374864 : Int) Vj), (Qe.mk QcF (2080375254 : Int) Vj), (Qe.mk QiY (2080374840 : Int) Vi), (Qe.mk s_or (2080375672 : Int) Vi), (Qe.mk Qi1 (2080375416 : Int) Vi)]), rfl⟩
noncomputable abbrev Qho {ρ R : Type} (k : (List Qe) → Tr ρ R) : Tr ρ R := .call (ww 139 [] []) (V7) Qb4 k
noncomputable def V7.s : Nat → Option (List Qe)
 | 0 => none
 | k + 1 => Qhn
theorem V7.cv : Cv (fun k => V7.s k ) (V7 ) := .un rfl (by exact .const _)
def QaW (r : (Bool × ByteArray)) : AV × Heap := (xo r.1, [(0, .box [] (Q2 r.2))])
abbrev Qhp := Qe → ByteArray → Option (Bool × ByteArray)
def QaX (a0 : Qe) (h0 : ByteArray) : Option (Bool × ByteArray) := (some ((eqS a0.name h0), h0))
noncomputable def Yi : Qhp := QaX
theorem Yi.eq (a0 : Qe) (h0 : ByteArray) : Yi a0 h0 = QaX a0 h0 := rfl
noncomputable def Qmx (a0 : Qe) (h0 : ByteArray) : Tr (Bool × ByteArray) AH := (rt QaW ((eqS a0.name h0), h0))
theorem Yi.ok {a0 : Qe} {h0 : ByteArray} {r : (Bool × ByteArray)} (h : Yi a0 h0 = some r) : ww 176 [.agg (Y8 a0), .ptr 0 0] [(0, .box [] (Q2 h0))] = some (QaW r) := by
 refine fnP (Qmx a0 h0) ?_ h
 exact rfl
noncomputable abbrev Qmy {ρ R : Type} (a0 : Qe) (h0 : ByteArray) (k : (Bool × ByteArray) → Tr ρ R) : Tr ρ R := .call (ww 176 [.agg (Y8 a0), .ptr 0 0] [(0, .box [] (Q2 h0))]) (Yi a0 h0) QaW k
def Zb (r : (Int × ByteArray)) : AV × Heap := (xi r.1, [(0, .box [] (Q2 r.2))])
abbrev SL := (List Qe) → ByteArray → Option (Int × ByteArray)
structure JH where
 x0 : (List Qe)
 x7 : Int
 x8 : Int
 h0 : ByteArray
structure Ug where
 x4 : Int
 h0 : ByteArray
def ZC (a : JH) : St := { n := 19, nx := 1, env := [(0, .sl (XC a.x0)), (1, .fn (.func 176) [] [.ptr 0 0]), (7, xi a.x7), (8, xi a.x8)], heap := [(0, .box [] (Q2 a.h0))] }
def Eh (a : Ug) : Ex × St := (.ret, { n := 19, nx := 1, env := [(4, xi a.x4)], heap := [(0, .box [] (Q2 a.h0))] })
def Ei (a : ByteArray) : Ex × St := (.exit 0, { n := 19, nx := 1, env := [], heap := [(0, .box [] (Q2 a))] })
def ZD (a : (Ug ⊕ ByteArray)) : Ex × St := Sum.elim Eh Ei a
abbrev Fy := JH → Option (Ug ⊕ ByteArray)
def ZE (C0 : Qhp) (a : JH) : Option (JH ⊕ (Ug ⊕ ByteArray)) := (bif (decide (a.x8 < a.x7)) then (bif (decide (0 ≤ a.x8)) then ((a.x0[(Int.toNat a.x8)]?).bind fun e1 => ((C0 e1 a.h0).bind fun r2 => (bif r2.1 then (some (.inr (.inl (Ug.mk a.x8 r2.2)))) else (some (.inl (JH.mk a.x0 a.x7 (w64 (a.x8 + 1)) r2.2)))))) else none) else (some (.inr (.inr a.h0))))
noncomputable def Ud : Fy := loopW (ZE Yi)
theorem Ud.eq (a : JH) : Ud a = (ZE Yi a).bind (Sum.elim Ud some) := Jk _ _
noncomputable abbrev QcP {ρ R : Type} (a : JH) (k0 : Ug → Tr ρ R) (k1 : ByteArray → Tr ρ R) : Tr ρ R := .loop2 (loopAt pp 175 2) (ZC a) (Ud a) Eh Ei k0 k1
noncomputable def QcQ (a : JH) : Tr (JH ⊕ (Ug ⊕ ByteArray)) XS := (.as (decide (a.x8 < a.x7)) (.as (decide (0 ≤ a.x8)) (.row ((XC a.x0)[(Int.toNat a.x8)]?) (a.x0[(Int.toNat a.x8)]?) Y8 fun (e1 : Qe) => (Qmy e1 a.h0 fun r2 => (.as r2.1 (rx ZD (.inl (Ug.mk a.x8 r2.2))) (lf ZC (JH.mk a.x0 a.x7 (w64 (a.x8 + 1)) r2.2))))) .fail) (rx ZD (.inr a.h0)))
theorem Ud.ok {a : JH} {r : (Ug ⊕ ByteArray)} (h : Ud a = some r) : lw 1 175 (loopAt pp 175 2) (ZC a) = some (ZD r) := by
 refine lpP h QcQ fun a => ?_
 exact ⟨rfl, fun q0 => ⟨rfl, fun q1 => fun e1 h => ⟨Qd6 h, fun r2 h => ⟨Yi.ok h, ⟨rfl, fun q2 => rfl, fun q2 => rfl⟩⟩⟩, fun q1 => trivial⟩, fun q0 => rfl⟩
def Gv (L0 : Fy) (a0 : (List Qe)) (h0 : ByteArray) : Option (Int × ByteArray) := ((L0 (JH.mk a0 (((a0.length) : Nat) : Int) (0 : Int) h0)).bind fun x => Sum.elim (fun (o1 : Ug) => (some (o1.x4, o1.h0))) (fun (o2 : ByteArray) => (some ((-1 : Int), o2))) x)
noncomputable def Wf : SL := Gv Ud
theorem Wf.eq (a0 : (List Qe)) (h0 : ByteArray) : Wf a0 h0 = Gv Ud a0 h0 := rfl
noncomputable def Qfw (a0 : (List Qe)) (h0 : ByteArray) : Tr (Int × ByteArray) AH := (.num ((XC a0).length) (a0.length) (QcP (JH.mk a0 (((a0.length) : Nat) : Int) i0 h0) (fun o1 => (rt Zb (o1.x4, o1.h0))) (fun o2 => (rt Zb ((-1 : Int), o2)))))
theorem Wf.ok {a0 : (List Qe)} {h0 : ByteArray} {r : (Int × ByteArray)} (h : Wf a0 h0 = some r) : ww 175 [.sl (XC a0), .fn (.func 176) [] [.ptr 0 0]] [(0, .box [] (Q2 h0))] = some (Zb r) := by
 refine fnP (Qfw a0 h0) ?_ h
 exact ⟨(Qd7 _), ⟨fun o1 h => ⟨Ud.ok (r := (.inl _)) h, rfl⟩, fun o2 h => ⟨Ud.ok (r := (.inr _)) h, rfl⟩⟩⟩
noncomputable abbrev Qfx {ρ R : Type} (a0 : (List Qe)) (h0 : ByteArray) (k : (Int × ByteArray) → Tr ρ R) : Tr ρ R := .call (ww 175 [.sl (XC a0), .fn (.func 176) [] [.ptr 0 0]] [(0, .box [] (Q2 h0))]) (Wf a0 h0) Zb k
def Wg (r : (Int × Bool)) : AV × Heap := (.tup [xi r.1, xo r.2], [])
abbrev QkN := ByteArray → Option (Int × Bool)
def Qdu (C0 : Fx) (C1 : SL) (a0 : ByteArray) : Option (Int × Bool) := ((C0).bind fun r1 => ((C1 r1 a0).bind fun r2 => (some ((if (0 : Int) > r2.1 then (0 : Int) else r2.1), (decide (r2.1 ≥ 0))))))
noncomputable def XQ : QkN := Qdu V7 Wf
theorem XQ.eq (a0 : ByteArray) : XQ a0 = Qdu V7 Wf a0 := rfl
noncomputable def QpD (a0 : ByteArray) : Tr (Int × Bool) AH := (Qho fun r1 => (Qfx r1 a0 fun r2 => (rt Wg ((if i0 > r2.1 then i0 else r2.1), (decide (r2.1 ≥ 0))))))
theorem XQ.ok {a0 : ByteArray} {r : (Int × Bool)} (h : XQ a0 = some r) : ww 124 [xs a0] [] = some (Wg r) := by
 refine fnP (QpD a0) ?_ h
 exact fun r1 h => ⟨V7.ok h, fun r2 h => ⟨Wf.ok h, rfl⟩⟩
noncomputable abbrev QpE {ρ R : Type} (a0 : ByteArray) (k : (Int × Bool) → Tr ρ R) : Tr ρ R := .call (ww 124 [xs a0] []) (XQ a0) Wg k
abbrev Zu := Qe → Option ByteArray
def Se (a0 : Qe) : Option ByteArray := (some a0.kinds)
noncomputable def Vk : Zu := Se
noncomputable def Qfy (a0 : Qe) : Tr ByteArray AH := (rt Qk a0.kinds)
theorem Vk.ok {a0 : Qe} {r : ByteArray} (h : Vk a0 = some r) : ww 200 [.agg (Y8 a0)] [] = some (Qk r) := by
 refine fnP (Qfy a0) ?_ h
 exact rfl
noncomputable abbrev Qfz {ρ R : Type} (a0 : Qe) (k : ByteArray → Tr ρ R) : Tr ρ R := .call (ww 200 [.agg (Y8 a0)] []) (Vk a0) Qk k
noncomputable def Vk.s : Nat → Qe → Option ByteArray
 | 0, _ => none
 | k + 1, a0 => Se a0
theorem Vk.cv (a0 : Qe) : Cv (fun k => Vk.s k a0) (Vk a0) := .un rfl (by exact .const _)
abbrev QgF := Int → Option ByteArray
def QaY (C0 : Fx) (C1 : Zu) (a0 : Int) : Option ByteArray := ((C0).bind fun r1 => (bif (decide (a0 ≥ 0)) then (bif (decide (a0 < (((r1.length) : Nat) : Int))) then (bif (decide (0 ≤ a0)) then ((r1[(Int.toNat a0)]?).bind fun e2 => ((C1 e2).bind fun r3 => (some r3))) else none) else (some s_)) else (some s_)))
theorem QrG {C0 : Nat → Fx} {D0 : Fx} (H0 : Cv C0 D0) {C1 : Nat → Zu} {D1 : Zu} (H1 : Cv1 C1 D1) (a0 : Int) : Cv (fun k => QaY (C0 k) (C1 k) a0) (QaY D0 D1 a0) := by
 unfold QaY
 exact .bind (H0) fun r1 => .cond (.cond (.cond (.bind (.const _) fun e2 => .bind (H1 _) fun r3 => by exact .const _) cst) cst) cst
noncomputable def Gw : QgF := QaY V7 Vk
noncomputable def QrH (a0 : Int) : Tr ByteArray AH := (Qho fun r1 => (let u44 := (decide (a0 ≥ 0)); .as u44 (yesN 2 u44 (.num ((XC r1).length) (r1.length) (yesN 2 u44 (.as (decide (a0 < (((r1.length) : Nat) : Int))) (.as (decide (0 ≤ a0)) (.row ((XC r1)[(Int.toNat a0)]?) (r1[(Int.toNat a0)]?) Y8 fun (e2 : Qe) => (Qfz e2 fun r3 => (rt Qk r3))) .fail) (rt Qk s_))))) (noN 4 u44 (.no false (rt Qk s_)))))
theorem Gw.ok {a0 : Int} {r : ByteArray} (h : Gw a0 = some r) : ww 166 [xi a0, .fn (.func 200) [] []] [] = some (Qk r) := by
 refine fnP (QrH a0) ?_ h
 exact fun r1 h => ⟨V7.ok h, ⟨rfl, fun q0 => Qi 2 (q0) (⟨(Qd7 _), Qi 2 (q0) (⟨rfl, fun q1 => ⟨rfl, fun q2 => fun e2 h => ⟨Qd6 h, fun r3 h => ⟨Vk.ok h, rfl⟩⟩, fun q2 => trivial⟩, fun q1 => rfl⟩)⟩), fun q0 => noN_ok 4 (q0) (⟨rfl, rfl⟩)⟩⟩
noncomputable abbrev QrI {ρ R : Type} (a0 : Int) (k : ByteArray → Tr ρ R) : Tr ρ R := .call (ww 166 [xi a0, .fn (.func 200) [] []] []) (Gw a0) Qk k
noncomputable def Gw.s : Nat → Int → Option ByteArray
 | 0, _ => none
 | k + 1, a0 => QaY (V7.s k) (Vk.s k) a0
theorem Gw.cv (a0 : Int) : Cv (fun k => Gw.s k a0) (Gw a0) := .un rfl (QrG V7.cv Vk.cv a0)
abbrev Qi8 := Int → Option ByteArray
def Ej (C0 : QgF) (a0 : Int) : Option ByteArray := ((C0 a0).bind fun r1 => (some r1))
theorem Qn3 {C0 : Nat → QgF} {D0 : QgF} (H0 : Cv1 C0 D0) (a0 : Int) : Cv (fun k => Ej (C0 k) a0) (Ej D0 a0) := by
 unfold Ej
 exact .bind (H0 _) fun r1 => by exact .const _
noncomputable def WW : Qi8 := Ej Gw
noncomputable def Qn4 (a0 : Int) : Tr ByteArray AH := (QrI a0 fun r1 => (rt Qk r1))
theorem WW.ok {a0 : Int} {r : ByteArray} (h : WW a0 = some r) : ww 146 [xi a0] [] = some (Qk r) := by
 refine fnP (Qn4 a0) ?_ h
 exact fun r1 h => ⟨Gw.ok h, rfl⟩
noncomputable abbrev Qn5 {ρ R : Type} (a0 : Int) (k : ByteArray → Tr ρ R) : Tr ρ R := .call (ww 146 [xi a0] []) (WW a0) Qk k
noncomputable def WW.s : Nat → Int → Option ByteArray
 | 0, _ => none
 | k + 1, a0 => Ej (Gw.s k) a0
theorem WW.cv (a0 : Int) : Cv (fun k => WW.s k a0) (WW a0) := .un rfl (Qn3 Gw.cv a0)
abbrev Qi9 := ByteArray → Option (List ByteArray)
noncomputable def XR (a0 : ByteArray) : Option (List ByteArray) := fieldsS a0
noncomputable abbrev Qh6 {ρ R : Type} (a0 : ByteArray) (k : (List ByteArray) → Tr ρ R) : Tr ρ R := .call (ww 145 [xs a0] []) (XR a0) Jd k
theorem XR.ok {a0 : ByteArray} {r : (List ByteArray)} (h : XR a0 = some r) : ww 145 [xs a0] [] = some (Jd r) := (ES rfl _ _).trans (Qqq h)
abbrev QgV := ByteArray → ByteArray → Option Bool
noncomputable def Xf (a0 : ByteArray) (a1 : ByteArray) : Option Bool := containsS a0 a1
noncomputable abbrev QfA {ρ R : Type} (a0 : ByteArray) (a1 : ByteArray) (k : Bool → Tr ρ R) : Tr ρ R := .call (ww 177 [xs a0, xs a1] []) (Xf a0 a1) Ql k
theorem Xf.ok {a0 : ByteArray} {a1 : ByteArray} {r : Bool} (h : Xf a0 a1 = some r) : ww 177 [xs a0, xs a1] [] = some (Ql r) := (ES rfl _ _).trans (QnV h)
def SB (r : (List (List Int))) : AV × Heap := (.sl (P1 r), [])
abbrev YN := Option (List (List Int))
def Qec : Option (List (List Int)) := (some [[(9 : Int)], [(8 : Int)], [(10 : Int), (11 : Int)], [(5 : Int), (6 : Int)], [(7 : Int)]])
noncomputable def VF : YN := Qec
theorem VF.eq : VF = Qec := rfl
noncomputable def Qly : Tr (List (List Int)) AH := (.rows [[xi (zi 9)]] (Jc [(zi 9)]) (.rows [[xi (zi 8)]] (Jc [(zi 8)]) (.rows [[xi (zi 10)], [xi (zi 11)]] (Jc [(zi 10), (zi 11)]) (.rows [[xi (zi 5)], [xi (zi 6)]] (Jc [(zi 5), (zi 6)]) (.rows [[xi (zi 7)]] (Jc [(zi 7)]) (.rows [[.sl (Jc [(zi 9)])], [.sl (Jc [(zi 8)])], [.sl (Jc [(zi 10), (zi 11)])], [.sl (Jc [(zi 5), (zi 6)])], [.sl (Jc [(zi 7)])]] (P1 [[(zi 9)], [(zi 8)], [(zi 10), (zi 11)], [(zi 5), (zi 6)], [(zi 7)]]) (rt SB [[(zi 9)], [(zi 8)], [(zi 10), (zi 11)], [(zi 5), (zi 6)], [(zi 7)]])))))))
theorem VF.ok {r : (List (List Int))} (h : VF = some r) : ww 242 [] [] = some (SB r) := by
 refine fnP (Qly) ?_ h
 exact ⟨(Us [(9 : Int)]), ⟨(Us [(8 : Int)]), ⟨(Us [(10 : Int), (11 : Int)]), ⟨(Us [(5 : Int), (6 : Int)]), ⟨(Us [(7 : Int)]), ⟨(Qdr [[(9 : Int)], [(8 : Int)], [(10 : Int), (11 : Int)], [(5 : Int), (6 : Int)], [(7 : Int)]]), rfl⟩⟩⟩⟩⟩⟩
noncomputable abbrev SC {ρ R : Type} (k : (List (List Int)) → Tr ρ R) : Tr ρ R := .call (ww 242 [] []) (VF) SB k
abbrev EV := ByteArray → Int → Option ByteArray
structure Jm where
 x0 : ByteArray
 x1 : Int
def Yj (a : Jm) : St := { n := 17, nx := 0, env := [(0, xs a.x0), (1, xb a.x1)], heap := [] }
def Xo (a : ByteArray) : Ex × St := (.exit 0, { n := 17, nx := 0, env := [(0, xs a)], heap := [] })
abbrev Gx := Jm → Option ByteArray
def Yk (a : Jm) : Option (Jm ⊕ ByteArray) := (bif (decide (((a.x0.size : Nat) : Int) > 0)) then (bif (decide (0 ≤ (0 : Int) ∧ (0 : Int) < ((a.x0.size : Nat) : Int))) then (bif (((a.x0.data.getD (Int.toNat 0) 0).toNat : Int) == a.x1) then (bif (decide (0 ≤ (1 : Int) ∧ (1 : Int) ≤ ((a.x0.size : Nat) : Int) ∧ ((a.x0.size : Nat) : Int) ≤ ((a.x0.size : Nat) : Int))) then (some (.inl (Jm.mk (a.x0.extract (Int.toNat 1) (Int.toNat ((a.x0.size : Nat) : Int))) a.x1))) else none) else (some (.inr a.x0))) else none) else (some (.inr a.x0)))
noncomputable def JF : Gx := loopW (Yk )
theorem JF.eq (a : Jm) : JF a = (Yk a).bind (Sum.elim JF some) := Jk _ _
noncomputable abbrev S6 {ρ R : Type} (a : Jm) (k0 : ByteArray → Tr ρ R) : Tr ρ R := .loop (loopAt pp 116 1) (Yj a) (JF a) Xo k0
noncomputable def S7 (a : Jm) : Tr (Jm ⊕ ByteArray) XS := (let u45 := (decide ((zz a.x0) > 0)); .as u45 (.yes u45 (.as (in1 i0 (zz a.x0)) (yesN 3 u45 (.as ((gb a.x0 i0) == a.x1) (.as (in2 (zi 1) (zz a.x0) (zz a.x0)) (lf Yj (Jm.mk (cu a.x0 (zi 1) (zz a.x0)) a.x1)) .fail) (rx Xo a.x0))) .fail)) (noN 4 u45 (.no false (rx Xo a.x0))))
theorem JF.ok {a : Jm} {r : ByteArray} (h : JF a = some r) : lw 0 116 (loopAt pp 116 1) (Yj a) = some (Xo r) := by
 refine lpP h S7 fun a => ?_
 exact ⟨rfl, fun q0 => ⟨q0, ⟨rfl, fun q1 => Qi 3 (q0) (⟨rfl, fun q2 => ⟨rfl, fun q3 => rfl, fun q3 => trivial⟩, fun q2 => rfl⟩), fun q1 => trivial⟩⟩, fun q0 => noN_ok 4 (q0) (⟨rfl, rfl⟩)⟩
def Zk (L0 : Gx) (a0 : ByteArray) (a1 : Int) : Option ByteArray := ((L0 (Jm.mk a0 a1)).bind (fun (o1 : ByteArray) => (some o1)))
noncomputable def U3 : EV := Zk JF
theorem U3.eq (a0 : ByteArray) (a1 : Int) : U3 a0 a1 = Zk JF a0 a1 := rfl
noncomputable def Qb5 (a0 : ByteArray) (a1 : Int) : Tr ByteArray AH := (S6 (Jm.mk a0 a1) (fun o1 => (rt Qk o1)))
theorem U3.ok {a0 : ByteArray} {a1 : Int} {r : ByteArray} (h : U3 a0 a1 = some r) : ww 116 [xs a0, xb a1] [] = some (Qk r) := by
 refine fnP (Qb5 a0 a1) ?_ h
 exact fun o1 h => ⟨JF.ok h, rfl⟩
noncomputable abbrev Qb6 {ρ R : Type} (a0 : ByteArray) (a1 : Int) (k : ByteArray → Tr ρ R) : Tr ρ R := .call (ww 116 [xs a0, xb a1] []) (U3 a0 a1) Qk k
abbrev SM := ByteArray → Option ByteArray
def Gy (C0 : EV) (a0 : ByteArray) : Option ByteArray := (bif (eqS a0 s_) then (some a0) else ((C0 a0 (32 : Int)).bind fun r1 => (some r1)))
noncomputable def VG : SM := Gy U3
theorem VG.eq (a0 : ByteArray) : VG a0 = Gy U3 a0 := rfl
noncomputable def QfB (a0 : ByteArray) : Tr ByteArray AH := (let u46 := (eqS a0 s_); .as u46 (yesN 2 u46 (.yes true (rt Qk a0))) (noN 2 u46 (.no false (yesN 2 true (.yes (in1 i0 (zz h_20)) (yesN 3 true (.yes (in1 i0 (zz h_20)) (Qb6 a0 (zi 32) fun r1 => (rt Qk r1)))))))))
theorem VG.ok {a0 : ByteArray} {r : ByteArray} (h : VG a0 = some r) : ww 245 [xs a0, xs h_20] [] = some (Qk r) := by
 refine fnP (QfB a0) ?_ h
 exact ⟨rfl, fun q0 => Qi 2 (q0) (⟨rfl, rfl⟩), fun q0 => noN_ok 2 (q0) (⟨rfl, Qi 2 (rfl) (⟨(by decide), Qi 3 (rfl) (⟨(by decide), fun r1 h => ⟨U3.ok h, rfl⟩⟩)⟩)⟩)⟩
noncomputable abbrev QfC {ρ R : Type} (a0 : ByteArray) (k : ByteArray → Tr ρ R) : Tr ρ R := .call (ww 245 [xs a0, xs h_20] []) (VG a0) Qk k
def ZV (r : Qd) : AV × Heap := (.tup [], [(0, .box [] (QQ r))])
abbrev Gb := Qd → Option Qd
def ZW (C0 : SM) (h0 : Qd) : Option Qd := ((C0 h0.left).bind fun r1 => (some (Qd.mk r1 h0.deep h0.bad)))
noncomputable def Ua : Gb := ZW VG
theorem Ua.eq (h0 : Qd) : Ua h0 = ZW VG h0 := rfl
noncomputable def Qdv (h0 : Qd) : Tr Qd AH := (QfC h0.left fun r1 => (rt ZV (Qd.mk r1 h0.deep h0.bad)))
theorem Ua.ok {h0 : Qd} {r : Qd} (h : Ua h0 = some r) : ww 216 [.ptr 0 0] [(0, .box [] (QQ h0))] = some (ZV r) := by
 refine fnP (Qdv h0) ?_ h
 exact fun r1 h => ⟨VG.ok h, rfl⟩
noncomputable abbrev Fz {ρ R : Type} (h0 : Qd) (k : Qd → Tr ρ R) : Tr ρ R := .call (ww 216 [.ptr 0 0] [(0, .box [] (QQ h0))]) (Ua h0) ZV k
abbrev Zl := ByteArray → ByteArray → Option Bool
def YX (a0 : ByteArray) (a1 : ByteArray) : Option Bool := (bif (decide (((a0.size : Nat) : Int) ≥ ((a1.size : Nat) : Int))) then (bif (decide (0 ≤ (0 : Int) ∧ (0 : Int) ≤ ((a1.size : Nat) : Int) ∧ ((a1.size : Nat) : Int) ≤ ((a0.size : Nat) : Int))) then (some (eqS (a0.extract (Int.toNat 0) (Int.toNat ((a1.size : Nat) : Int))) a1)) else none) else (some false))
noncomputable def JT : Zl := YX
theorem JT.eq (a0 : ByteArray) (a1 : ByteArray) : JT a0 a1 = YX a0 a1 := rfl
noncomputable def Qbt (a0 : ByteArray) (a1 : ByteArray) : Tr Bool AH := (let u47 := (decide ((zz a0) ≥ (zz a1))); .as u47 (yesN 3 u47 (.as (in2 i0 (zz a1) (zz a0)) (yesN 3 u47 (rt Ql (eqS (cu a0 i0 (zz a1)) a1))) .fail)) (noN 6 u47 (rt Ql false)))
theorem JT.ok {a0 : ByteArray} {a1 : ByteArray} {r : Bool} (h : JT a0 a1 = some r) : ww 284 [xs a0, xs a1] [] = some (Ql r) := by
 refine fnP (Qbt a0 a1) ?_ h
 exact ⟨rfl, fun q0 => Qi 3 (q0) (⟨rfl, fun q1 => Qi 3 (q0) (rfl), fun q1 => trivial⟩), fun q0 => noN_ok 6 (q0) (rfl)⟩
noncomputable abbrev G5 {ρ R : Type} (a0 : ByteArray) (a1 : ByteArray) (k : Bool → Tr ρ R) : Tr ρ R := .call (ww 284 [xs a0, xs a1] []) (JT a0 a1) Ql k
abbrev Sf := ByteArray → ByteArray → Option Bool
def YS (C0 : Zl) (a0 : ByteArray) (a1 : ByteArray) : Option Bool := ((C0 a0 a1).bind fun r1 => (some r1))
noncomputable def UZ : Sf := YS JT
theorem UZ.eq (a0 : ByteArray) (a1 : ByteArray) : UZ a0 a1 = YS JT a0 a1 := rfl
noncomputable def QeG (a0 : ByteArray) (a1 : ByteArray) : Tr Bool AH := (G5 a0 a1 fun r1 => (rt Ql r1))
theorem UZ.ok {a0 : ByteArray} {a1 : ByteArray} {r : Bool} (h : UZ a0 a1 = some r) : ww 265 [xs a0, xs a1] [] = some (Ql r) := by
 refine fnP (QeG a0 a1) ?_ h
 exact fun r1 h => ⟨JT.ok h, rfl⟩
noncomputable abbrev QeH {ρ R : Type} (a0 : ByteArray) (a1 : ByteArray) (k : Bool → Tr ρ R) : Tr ρ R := .call (ww 265 [xs a0, xs a1] []) (UZ a0 a1) Ql k
def X4 (r : (Bool × Qd)) : AV × Heap := (xo r.1, [(0, .box [] (QQ r.2))])
abbrev Wv := ByteArray → Qd → Option (Bool × Qd)
def Gz (C0 : Gb) (C1 : Sf) (a1 : ByteArray) (h0 : Qd) : Option (Bool × Qd) := ((C0 h0).bind fun r1 => (bif r1.bad then (some (false, r1)) else ((C1 r1.left a1).bind fun r2 => (bif (!r2) then (some (false, r1)) else (bif (decide (0 ≤ ((a1.size : Nat) : Int) ∧ ((a1.size : Nat) : Int) ≤ ((r1.left.size : Nat) : Int) ∧ ((r1.left.size : Nat) : Int) ≤ ((r1.left.size : Nat) : Int))) then (some (true, (Qd.mk (r1.left.extract (Int.toNat ((a1.size : Nat) : Int)) (Int.toNat ((r1.left.size : Nat) : Int))) r1.deep r1.bad))) else none)))))
noncomputable def JC : Wv := Gz Ua UZ
theorem JC.eq (a1 : ByteArray) (h0 : Qd) : JC a1 h0 = Gz Ua UZ a1 h0 := rfl
noncomputable def QfD (a1 : ByteArray) (h0 : Qd) : Tr (Bool × Qd) AH := (Fz h0 fun r1 => (.as r1.bad (yesN 7 r1.bad (.yes true (rt X4 (false, r1)))) (noN 5 r1.bad (QeH r1.left a1 fun r2 => (noN 2 r1.bad (.as (!r2) (rt X4 (false, r1)) (.as (in2 (zz a1) (zz r1.left) (zz r1.left)) (rt X4 (true, (Qd.mk (cu r1.left (zz a1) (zz r1.left)) r1.deep r1.bad))) .fail)))))))
theorem JC.ok {a1 : ByteArray} {h0 : Qd} {r : (Bool × Qd)} (h : JC a1 h0 = some r) : ww 261 [.ptr 0 0, xs a1] [(0, .box [] (QQ h0))] = some (X4 r) := by
 refine fnP (QfD a1 h0) ?_ h
 exact fun r1 h => ⟨Ua.ok h, ⟨rfl, fun q0 => Qi 7 (q0) (⟨rfl, rfl⟩), fun q0 => noN_ok 5 (q0) (fun r2 h => ⟨UZ.ok h, noN_ok 2 (q0) (⟨rfl, fun q1 => rfl, fun q1 => ⟨rfl, fun q2 => rfl, fun q2 => trivial⟩⟩)⟩)⟩⟩
noncomputable abbrev X5 {ρ R : Type} (a1 : ByteArray) (h0 : Qd) (k : (Bool × Qd) → Tr ρ R) : Tr ρ R := .call (ww 261 [.ptr 0 0, xs a1] [(0, .box [] (QQ h0))]) (JC a1 h0) X4 k
def Qr (r : (Qa × Qd)) : AV × Heap := (.agg (Q3 r.1), [(0, .box [] (QQ r.2))])
abbrev JV := Qd → Option (Qa × Qd)
def Sg (h0 : Qd) : Option (Qa × Qd) := (some ((Qa.mk (0 : Int) (0 : Int) s_ ([] : List Qa)), (Qd.mk h0.left h0.deep true)))
noncomputable def QW : JV := Sg
theorem QW.eq (h0 : Qd) : QW h0 = Sg h0 := rfl
noncomputable def QfE (h0 : Qd) : Tr (Qa × Qd) AH := (rt Qr ((Qa.mk i0 i0 s_ ([] : List Qa)), (Qd.mk h0.left h0.deep true)))
theorem QW.ok {h0 : Qd} {r : (Qa × Qd)} (h : QW h0 = some r) : ww 273 [.ptr 0 0] [(0, .box [] (QQ h0))] = some (Qr r) := by
 refine fnP (QfE h0) ?_ h
 exact rfl
noncomputable abbrev V8 {ρ R : Type} (h0 : Qd) (k : (Qa × Qd) → Tr ρ R) : Tr ρ R := .call (ww 273 [.ptr 0 0] [(0, .box [] (QQ h0))]) (QW h0) Qr k
abbrev Yl := ByteArray → Option Bool
def ZF (C0 : Zl) (a0 : ByteArray) : Option Bool := ((C0 a0 s_0x).bind fun r1 => (some r1))
noncomputable def UT : Yl := ZF JT
theorem UT.eq (a0 : ByteArray) : UT a0 = ZF JT a0 := rfl
noncomputable def QcR (a0 : ByteArray) : Tr Bool AH := (G5 a0 s_0x fun r1 => (rt Ql r1))
theorem UT.ok {a0 : ByteArray} {r : Bool} (h : UT a0 = some r) : ww 265 [xs a0, xs s_0x] [] = some (Ql r) := by
 refine fnP (QcR a0) ?_ h
 exact fun r1 h => ⟨JT.ok h, rfl⟩
noncomputable abbrev QcS {ρ R : Type} (a0 : ByteArray) (k : Bool → Tr ρ R) : Tr ρ R := .call (ww 265 [xs a0, xs s_0x] []) (UT a0) Ql k
abbrev Ek := Int → Option Bool
def QaZ (a0 : Int) : Option Bool := (bif (decide (a0 ≥ 48)) then (some (decide (a0 ≤ (57 : Int)))) else (some false))
noncomputable def U4 : Ek := QaZ
theorem U4.eq (a0 : Int) : U4 a0 = QaZ a0 := rfl
noncomputable def Qmz (a0 : Int) : Tr Bool AH := (let u48 := (decide (a0 ≥ 48)); .as u48 (yesN 2 u48 (rt Ql (decide (a0 ≤ (zi 57))))) (noN 2 u48 (rt Ql false)))
theorem U4.ok {a0 : Int} {r : Bool} (h : U4 a0 = some r) : ww 270 [.sc (.int .i32 a0)] [] = some (Ql r) := by
 refine fnP (Qmz a0) ?_ h
 exact ⟨rfl, fun q0 => Qi 2 (q0) (rfl), fun q0 => noN_ok 2 (q0) (rfl)⟩
noncomputable abbrev FA {ρ R : Type} (a0 : Int) (k : Bool → Tr ρ R) : Tr ρ R := .call (ww 270 [.sc (.int .i32 a0)] []) (U4 a0) Ql k
abbrev QkO := Int → Option Bool
def Qdw (C0 : Ek) (a0 : Int) : Option Bool := ((C0 a0).bind fun r1 => (bif r1 then (some true) else (bif (decide (a0 ≥ 97)) then (some (decide (a0 ≤ (102 : Int)))) else (some false))))
noncomputable def Zm : QkO := Qdw U4
theorem Zm.eq (a0 : Int) : Zm a0 = Qdw U4 a0 := rfl
noncomputable def QpF (a0 : Int) : Tr Bool AH := (FA a0 fun r1 => (.as r1 (yesN 4 r1 (rt Ql true)) (noN 2 r1 (let u49 := (decide (a0 ≥ 97)); .as u49 (.yes u49 (.no r1 (.yes u49 (.no r1 (rt Ql (decide (a0 ≤ (zi 102)))))))) (.no u49 (.no r1 (.no u49 (.no r1 (rt Ql false)))))))))
theorem Zm.ok {a0 : Int} {r : Bool} (h : Zm a0 = some r) : ww 267 [.sc (.int .i32 a0)] [] = some (Ql r) := by
 refine fnP (QpF a0) ?_ h
 exact fun r1 h => ⟨U4.ok h, ⟨rfl, fun q0 => Qi 4 (q0) (rfl), fun q0 => noN_ok 2 (q0) (⟨rfl, fun q1 => ⟨q1, ⟨q0, ⟨q1, ⟨q0, rfl⟩⟩⟩⟩, fun q1 => ⟨q1, ⟨q0, ⟨q1, ⟨q0, rfl⟩⟩⟩⟩⟩)⟩⟩
noncomputable abbrev QpG {ρ R : Type} (a0 : Int) (k : Bool → Tr ρ R) : Tr ρ R := .call (ww 267 [.sc (.int .i32 a0)] []) (Zm a0) Ql k
abbrev Qdx := ByteArray → Option ByteArray
structure VU where
 x0 : ByteArray
 i0s : ByteArray
 i0p : Nat
def Qa0 (a : VU) : St := { n := 21, nx := 1, env := [(0, xs a.x0), (1, .fn (.func 267) [] []), (8, .it 0)], heap := [(0, .iter a.i0s a.i0p)] }
def Qed (a : ByteArray) : Ex × St := (.ret, { n := 21, nx := 0, env := [(4, xs a)], heap := [] })
def Qee (a : ByteArray) : Ex × St := (.exit 0, { n := 21, nx := 0, env := [(0, xs a)], heap := [] })
def Qa1 (a : (ByteArray ⊕ ByteArray)) : Ex × St := Sum.elim Qed Qee a
abbrev Qhq := VU → Option (ByteArray ⊕ ByteArray)
def Qa2 (C0 : QkO) (a : VU) : Option (VU ⊕ (ByteArray ⊕ ByteArray)) := (bif (decide (a.i0p < a.i0s.size)) then ((C0 (((Utf8.decode a.i0s a.i0p).1 : Nat) : Int)).bind fun r1 => (bif (!r1) then (bif (decide (0 ≤ (0 : Int) ∧ (0 : Int) ≤ ((a.i0p : Nat) : Int) ∧ ((a.i0p : Nat) : Int) ≤ ((a.x0.size : Nat) : Int))) then (some (.inr (.inl (a.x0.extract (Int.toNat 0) (Int.toNat ((a.i0p : Nat) : Int)))))) else none) else (some (.inl (VU.mk a.x0 a.i0s (a.i0p + (Utf8.decode a.i0s a.i0p).2)))))) else (some (.inr (.inr a.x0))))
noncomputable def Xs : Qhq := loopW (Qa2 Zm)
theorem Xs.eq (a : VU) : Xs a = (Qa2 Zm a).bind (Sum.elim Xs some) := Jk _ _
noncomputable abbrev QmA {ρ R : Type} (a : VU) (k0 : ByteArray → Tr ρ R) (k1 : ByteArray → Tr ρ R) : Tr ρ R := .loop2 (loopAt pp 266 2) (Qa0 a) (Xs a) Qed Qee k0 k1
noncomputable def QmB (a : VU) : Tr (VU ⊕ (ByteArray ⊕ ByteArray)) XS := (.as (decide (a.i0p < a.i0s.size)) (.yes true (QpG (((Utf8.decode a.i0s a.i0p).1 : Nat) : Int) fun r1 => (.as (!r1) (.as (in2 i0 ((a.i0p : Nat) : Int) (zz a.x0)) (rx Qa1 (.inl (cu a.x0 i0 ((a.i0p : Nat) : Int)))) .fail) (lf Qa0 (VU.mk a.x0 a.i0s (a.i0p + (Utf8.decode a.i0s a.i0p).2)))))) (.no false (rx Qa1 (.inr a.x0))))
theorem Xs.ok {a : VU} {r : (ByteArray ⊕ ByteArray)} (h : Xs a = some r) : lw 0 266 (loopAt pp 266 2) (Qa0 a) = some (Qa1 r) := by
 refine lpP h QmB fun a => ?_
 exact ⟨rfl, fun q0 => ⟨rfl, fun r1 h => ⟨Zm.ok h, ⟨rfl, fun q1 => ⟨rfl, fun q2 => rfl, fun q2 => trivial⟩, fun q1 => rfl⟩⟩⟩, fun q0 => ⟨rfl, rfl⟩⟩
def QfF (L0 : Qhq) (a0 : ByteArray) : Option ByteArray := ((L0 (VU.mk a0 a0 0)).bind fun x => Sum.elim (fun (o1 : ByteArray) => (some o1)) (fun (o2 : ByteArray) => (some o2)) x)
noncomputable def ZG : Qdx := QfF Xs
theorem ZG.eq (a0 : ByteArray) : ZG a0 = QfF Xs a0 := rfl
noncomputable def Qqz (a0 : ByteArray) : Tr ByteArray AH := (QmA (VU.mk a0 a0 0) (fun o1 => (rt Qk o1)) (fun o2 => (rt Qk o2)))
theorem ZG.ok {a0 : ByteArray} {r : ByteArray} (h : ZG a0 = some r) : ww 266 [xs a0, .fn (.func 267) [] []] [] = some (Qk r) := by
 refine fnP (Qqz a0) ?_ h
 exact ⟨fun o1 h => ⟨Xs.ok (r := (.inl _)) h, rfl⟩, fun o2 h => ⟨Xs.ok (r := (.inr _)) h, rfl⟩⟩
noncomputable abbrev QkP {ρ R : Type} (a0 : ByteArray) (k : ByteArray → Tr ρ R) : Tr ρ R := .call (ww 266 [xs a0, .fn (.func 267) [] []] []) (ZG a0) Qk k
abbrev YT := ByteArray → Int → Qd → Option (Qa × Qd)
structure Jh where
 x1 : ByteArray
 x2 : Int
 x7 : Int
 h0 : Qd
 h1 : Qa
 i2s : ByteArray
 i2p : Nat
structure Jw where
 h0 : Qd
 h1 : Qa
structure JZ where
 x1 : ByteArray
 x7 : Int
 h0 : Qd
 h1 : Qa
def XH (a : Jh) : St := { n := 46, nx := 3, env := [(0, .ptr 0 0), (1, xs a.x1), (2, xi a.x2), (6, .ptr 1 0), (7, xi a.x7), (12, .it 2)], heap := [(0, .box [] (QQ a.h0)), (1, .box [] (Q3 a.h1)), (2, .iter a.i2s a.i2p)] }
def GA (a : Jw) : Ex × St := (.ret, { n := 46, nx := 2, env := [(6, .ptr 1 0)], heap := [(0, .box [] (QQ a.h0)), (1, .box [] (Q3 a.h1))] })
def GB (a : JZ) : Ex × St := (.exit 0, { n := 46, nx := 2, env := [(0, .ptr 0 0), (1, xs a.x1), (6, .ptr 1 0), (7, xi a.x7)], heap := [(0, .box [] (QQ a.h0)), (1, .box [] (Q3 a.h1))] })
def XI (a : (Jw ⊕ JZ)) : Ex × St := Sum.elim GA GB a
abbrev El := Jh → Option (Jw ⊕ JZ)
def YY (C0 : JV) (a : Jh) : Option (Jh ⊕ (Jw ⊕ JZ)) := (bif (decide (a.i2p < a.i2s.size)) then (bif (decide ((((Utf8.decode a.i2s a.i2p).1 : Nat) : Int) ≥ 97)) then (bif (decide ((w64 ((w64 (a.x7 * a.x2)) + (w64 ((w64 (IntKind.i32.wrap ((((Utf8.decode a.i2s a.i2p).1 : Nat) : Int) - 97))) + 10)))) ≥ 4294967296)) then ((C0 a.h0).bind fun r1 => (some (.inr (.inl (Jw.mk r1.2 r1.1))))) else (some (.inl (Jh.mk a.x1 a.x2 (w64 ((w64 (a.x7 * a.x2)) + (w64 ((w64 (IntKind.i32.wrap ((((Utf8.decode a.i2s a.i2p).1 : Nat) : Int) - 97))) + 10)))) a.h0 a.h1 a.i2s (a.i2p + (Utf8.decode a.i2s a.i2p).2))))) else (bif (decide ((w64 ((w64 (a.x7 * a.x2)) + (w64 (IntKind.i32.wrap ((((Utf8.decode a.i2s a.i2p).1 : Nat) : Int) - 48))))) ≥ 4294967296)) then ((C0 a.h0).bind fun r2 => (some (.inr (.inl (Jw.mk r2.2 r2.1))))) else (some (.inl (Jh.mk a.x1 a.x2 (w64 ((w64 (a.x7 * a.x2)) + (w64 (IntKind.i32.wrap ((((Utf8.decode a.i2s a.i2p).1 : Nat) : Int) - 48))))) a.h0 a.h1 a.i2s (a.i2p + (Utf8.decode a.i2s a.i2p).2)))))) else (some (.inr (.inr (JZ.mk a.x1 a.x7 a.h0 a.h1)))))
noncomputable def Ub : El := loopW (YY QW)
theorem Ub.eq (a : Jh) : Ub a = (YY QW a).bind (Sum.elim Ub some) := Jk _ _
noncomputable abbrev Qbu {ρ R : Type} (a : Jh) (k0 : Jw → Tr ρ R) (k1 : JZ → Tr ρ R) : Tr ρ R := .loop2 (loopAt pp 269 3) (XH a) (Ub a) GA GB k0 k1
noncomputable def Qbv (a : Jh) : Tr (Jh ⊕ (Jw ⊕ JZ)) XS := (.as (decide (a.i2p < a.i2s.size)) (.yes true (.as (decide ((((Utf8.decode a.i2s a.i2p).1 : Nat) : Int) ≥ 97)) (.as (decide ((w64 ((w64 (a.x7 * a.x2)) + (w64 ((w64 (IntKind.i32.wrap ((((Utf8.decode a.i2s a.i2p).1 : Nat) : Int) - 97))) + 10)))) ≥ 4294967296)) (V8 a.h0 fun r1 => (rx XI (.inl (Jw.mk r1.2 r1.1)))) (lf XH (Jh.mk a.x1 a.x2 (w64 ((w64 (a.x7 * a.x2)) + (w64 ((w64 (IntKind.i32.wrap ((((Utf8.decode a.i2s a.i2p).1 : Nat) : Int) - 97))) + 10)))) a.h0 a.h1 a.i2s (a.i2p + (Utf8.decode a.i2s a.i2p).2)))) (.as (decide ((w64 ((w64 (a.x7 * a.x2)) + (w64 (IntKind.i32.wrap ((((Utf8.decode a.i2s a.i2p).1 : Nat) : Int) - 48))))) ≥ 4294967296)) (V8 a.h0 fun r2 => (rx XI (.inl (Jw.mk r2.2 r2.1)))) (lf XH (Jh.mk a.x1 a.x2 (w64 ((w64 (a.x7 * a.x2)) + (w64 (IntKind.i32.wrap ((((Utf8.decode a.i2s a.i2p).1 : Nat) : Int) - 48))))) a.h0 a.h1 a.i2s (a.i2p + (Utf8.decode a.i2s a.i2p).2)))))) (.no false (rx XI (.inr (JZ.mk a.x1 a.x7 a.h0 a.h1)))))
theorem Ub.ok {a : Jh} {r : (Jw ⊕ JZ)} (h : Ub a = some r) : lw 1 269 (loopAt pp 269 3) (XH a) = some (XI r) := by
 refine lpP h Qbv fun a => ?_
 exact ⟨rfl, fun q0 => ⟨rfl, ⟨rfl, fun q1 => ⟨rfl, fun q2 => fun r1 h => ⟨QW.ok h, rfl⟩, fun q2 => rfl⟩, fun q1 => ⟨rfl, fun q2 => fun r2 h => ⟨QW.ok h, rfl⟩, fun q2 => rfl⟩⟩⟩, fun q0 => ⟨rfl, rfl⟩⟩
def ZX (L0 : El) (a1 : ByteArray) (a2 : Int) (h0 : Qd) : Option (Qa × Qd) := ((L0 (Jh.mk a1 a2 (0 : Int) h0 (Qa.mk (0 : Int) (0 : Int) s_ ([] : List Qa)) a1 0)).bind fun x => Sum.elim (fun (o1 : Jw) => (some (o1.h1, o1.h0))) (fun (o2 : JZ) => (bif (decide (0 ≤ ((o2.x1.size : Nat) : Int) ∧ ((o2.x1.size : Nat) : Int) ≤ ((o2.h0.left.size : Nat) : Int) ∧ ((o2.h0.left.size : Nat) : Int) ≤ ((o2.h0.left.size : Nat) : Int))) then (some ((Qa.mk (1 : Int) o2.x7 s_ ([] : List Qa)), (Qd.mk (o2.h0.left.extract (Int.toNat ((o2.x1.size : Nat) : Int)) (Int.toNat ((o2.h0.left.size : Nat) : Int))) o2.h0.deep o2.h0.bad))) else none)) x)
noncomputable def JX : YT := ZX Ub
theorem JX.eq (a1 : ByteArray) (a2 : Int) (h0 : Qd) : JX a1 a2 h0 = ZX Ub a1 a2 h0 := rfl
noncomputable def Qdy (a1 : ByteArray) (a2 : Int) (h0 : Qd) : Tr (Qa × Qd) AH := (Qbu (Jh.mk a1 a2 i0 h0 (Qa.mk i0 i0 s_ ([] : List Qa)) a1 0) (fun o1 => (rt Qr (o1.h1, o1.h0))) (fun o2 => (.as (in2 (zz o2.x1) (zz o2.h0.left) (zz o2.h0.left)) (rt Qr ((Qa.mk (zi 1) o2.x7 s_ ([] : List Qa)), (Qd.mk (cu o2.h0.left (zz o2.x1) (zz o2.h0.left)) o2.h0.deep o2.h0.bad))) .fail)))
theorem JX.ok {a1 : ByteArray} {a2 : Int} {h0 : Qd} {r : (Qa × Qd)} (h : JX a1 a2 h0 = some r) : ww 269 [.ptr 0 0, xs a1, xi a2] [(0, .box [] (QQ h0))] = some (Qr r) := by
 refine fnP (Qdy a1 a2 h0) ?_ h
 exact ⟨fun o1 h => ⟨Ub.ok (r := (.inl _)) h, rfl⟩, fun o2 h => ⟨Ub.ok (r := (.inr _)) h, ⟨rfl, fun q0 => rfl, fun q0 => trivial⟩⟩⟩
noncomputable abbrev ZY {ρ R : Type} (a1 : ByteArray) (a2 : Int) (h0 : Qd) (k : (Qa × Qd) → Tr ρ R) : Tr ρ R := .call (ww 269 [.ptr 0 0, xs a1, xi a2] [(0, .box [] (QQ h0))]) (JX a1 a2 h0) Qr k
abbrev Qhr := Int → Option Bool
def Qa3 (a0 : Int) : Option Bool := (bif (decide (a0 ≥ 97)) then (bif (decide (a0 ≤ (122 : Int))) then (some true) else (some (a0 == 95))) else (some (a0 == 95)))
noncomputable def XX : Qhr := Qa3
theorem XX.eq (a0 : Int) : XX a0 = Qa3 a0 := rfl
noncomputable def QmC (a0 : Int) : Tr Bool AH := (let u51 := (decide (a0 ≥ 97)); .as u51 (yesN 2 u51 (let u50 := (decide (a0 ≤ (zi 122))); .as u50 (yesN 2 u50 (rt Ql true)) (noN 2 u50 (rt Ql (a0 == 95))))) (noN 2 u51 (noN 3 false (rt Ql (a0 == 95)))))
theorem XX.ok {a0 : Int} {r : Bool} (h : XX a0 = some r) : ww 285 [.sc (.int .i32 a0)] [] = some (Ql r) := by
 refine fnP (QmC a0) ?_ h
 exact ⟨rfl, fun q0 => Qi 2 (q0) (⟨rfl, fun q1 => Qi 2 (q1) (rfl), fun q1 => noN_ok 2 (q1) (rfl)⟩), fun q0 => noN_ok 2 (q0) (noN_ok 3 (rfl) (rfl))⟩
noncomputable abbrev QmD {ρ R : Type} (a0 : Int) (k : Bool → Tr ρ R) : Tr ρ R := .call (ww 285 [.sc (.int .i32 a0)] []) (XX a0) Ql k
abbrev Qhs := Int → Option Bool
def Qa4 (C0 : Qhr) (C1 : Ek) (a0 : Int) : Option Bool := ((C0 a0).bind fun r1 => (bif r1 then (some true) else ((C1 a0).bind fun r2 => (some r2))))
noncomputable def XY : Qhs := Qa4 XX U4
theorem XY.eq (a0 : Int) : XY a0 = Qa4 XX U4 a0 := rfl
noncomputable def QmE (a0 : Int) : Tr Bool AH := (QmD a0 fun r1 => (.as r1 (yesN 2 r1 (rt Ql true)) (.no r1 (FA a0 fun r2 => (.no r1 (rt Ql r2))))))
theorem XY.ok {a0 : Int} {r : Bool} (h : XY a0 = some r) : ww 271 [.sc (.int .i32 a0)] [] = some (Ql r) := by
 refine fnP (QmE a0) ?_ h
 exact fun r1 h => ⟨XX.ok h, ⟨rfl, fun q0 => Qi 2 (q0) (rfl), fun q0 => ⟨q0, fun r2 h => ⟨U4.ok h, ⟨q0, rfl⟩⟩⟩⟩⟩
noncomputable abbrev QmF {ρ R : Type} (a0 : Int) (k : Bool → Tr ρ R) : Tr ρ R := .call (ww 271 [.sc (.int .i32 a0)] []) (XY a0) Ql k
abbrev GU := ByteArray → Option ByteArray
structure U9 where
 x0 : ByteArray
 i0s : ByteArray
 i0p : Nat
def Ph (a : U9) : St := { n := 21, nx := 1, env := [(0, xs a.x0), (1, .fn (.func 271) [] []), (8, .it 0)], heap := [(0, .iter a.i0s a.i0p)] }
def QbD (a : ByteArray) : Ex × St := (.ret, { n := 21, nx := 0, env := [(4, xs a)], heap := [] })
def QbE (a : ByteArray) : Ex × St := (.exit 0, { n := 21, nx := 0, env := [(0, xs a)], heap := [] })
def Pi (a : (ByteArray ⊕ ByteArray)) : Ex × St := Sum.elim QbD QbE a
abbrev Qef := U9 → Option (ByteArray ⊕ ByteArray)
def Pj (C0 : Qhs) (a : U9) : Option (U9 ⊕ (ByteArray ⊕ ByteArray)) := (bif (decide (a.i0p < a.i0s.size)) then ((C0 (((Utf8.decode a.i0s a.i0p).1 : Nat) : Int)).bind fun r1 => (bif (!r1) then (bif (decide (0 ≤ (0 : Int) ∧ (0 : Int) ≤ ((a.i0p : Nat) : Int) ∧ ((a.i0p : Nat) : Int) ≤ ((a.x0.size : Nat) : Int))) then (some (.inr (.inl (a.x0.extract (Int.toNat 0) (Int.toNat ((a.i0p : Nat) : Int)))))) else none) else (some (.inl (U9.mk a.x0 a.i0s (a.i0p + (Utf8.decode a.i0s a.i0p).2)))))) else (some (.inr (.inr a.x0))))
noncomputable def WE : Qef := loopW (Pj XY)
theorem WE.eq (a : U9) : WE a = (Pj XY a).bind (Sum.elim WE some) := Jk _ _
noncomputable abbrev Qj3 {ρ R : Type} (a : U9) (k0 : ByteArray → Tr ρ R) (k1 : ByteArray → Tr ρ R) : Tr ρ R := .loop2 (loopAt pp 266 2) (Ph a) (WE a) QbD QbE k0 k1
noncomputable def Qj4 (a : U9) : Tr (U9 ⊕ (ByteArray ⊕ ByteArray)) XS := (.as (decide (a.i0p < a.i0s.size)) (.yes true (QmF (((Utf8.decode a.i0s a.i0p).1 : Nat) : Int) fun r1 => (.as (!r1) (.as (in2 i0 ((a.i0p : Nat) : Int) (zz a.x0)) (rx Pi (.inl (cu a.x0 i0 ((a.i0p : Nat) : Int)))) .fail) (lf Ph (U9.mk a.x0 a.i0s (a.i0p + (Utf8.decode a.i0s a.i0p).2)))))) (.no false (rx Pi (.inr a.x0))))
theorem WE.ok {a : U9} {r : (ByteArray ⊕ ByteArray)} (h : WE a = some r) : lw 0 266 (loopAt pp 266 2) (Ph a) = some (Pi r) := by
 refine lpP h Qj4 fun a => ?_
 exact ⟨rfl, fun q0 => ⟨rfl, fun r1 h => ⟨XY.ok h, ⟨rfl, fun q1 => ⟨rfl, fun q2 => rfl, fun q2 => trivial⟩, fun q1 => rfl⟩⟩⟩, fun q0 => ⟨rfl, rfl⟩⟩
def Qb7 (L0 : Qef) (a0 : ByteArray) : Option ByteArray := ((L0 (U9.mk a0 a0 0)).bind fun x => Sum.elim (fun (o1 : ByteArray) => (some o1)) (fun (o2 : ByteArray) => (some o2)) x)
noncomputable def V9 : GU := Qb7 WE
theorem V9.eq (a0 : ByteArray) : V9 a0 = Qb7 WE a0 := rfl
noncomputable def Qn6 (a0 : ByteArray) : Tr ByteArray AH := (Qj3 (U9.mk a0 a0 0) (fun o1 => (rt Qk o1)) (fun o2 => (rt Qk o2)))
theorem V9.ok {a0 : ByteArray} {r : ByteArray} (h : V9 a0 = some r) : ww 266 [xs a0, .fn (.func 271) [] []] [] = some (Qk r) := by
 refine fnP (Qn6 a0) ?_ h
 exact ⟨fun o1 h => ⟨WE.ok (r := (.inl _)) h, rfl⟩, fun o2 h => ⟨WE.ok (r := (.inr _)) h, rfl⟩⟩
noncomputable abbrev PO {ρ R : Type} (a0 : ByteArray) (k : ByteArray → Tr ρ R) : Tr ρ R := .call (ww 266 [xs a0, .fn (.func 271) [] []] []) (V9 a0) Qk k
abbrev Zc := Qa → Qd → Option (Qa × Qd)
def Gc (C0 : GU) (C1 : JV) (a1 : Qa) (h0 : Qd) : Option (Qa × Qd) := ((C0 h0.left).bind fun r1 => (bif (!(eqS r1 s_)) then ((C1 h0).bind fun r2 => (some (r2.1, r2.2))) else (some (a1, h0))))
noncomputable def J5 : Zc := Gc V9 QW
theorem J5.eq (a1 : Qa) (h0 : Qd) : J5 a1 h0 = Gc V9 QW a1 h0 := rfl
noncomputable def QeI (a1 : Qa) (h0 : Qd) : Tr (Qa × Qd) AH := (PO h0.left fun r1 => (.as (!(eqS r1 s_)) (V8 h0 fun r2 => (rt Qr (r2.1, r2.2))) (rt Qr (a1, h0))))
theorem J5.ok {a1 : Qa} {h0 : Qd} {r : (Qa × Qd)} (h : J5 a1 h0 = some r) : ww 268 [.ptr 0 0, .agg (Q3 a1)] [(0, .box [] (QQ h0))] = some (Qr r) := by
 refine fnP (QeI a1 h0) ?_ h
 exact fun r1 h => ⟨V9.ok h, ⟨rfl, fun q0 => fun r2 h => ⟨QW.ok h, rfl⟩, fun q0 => rfl⟩⟩
noncomputable abbrev Gd {ρ R : Type} (a1 : Qa) (h0 : Qd) (k : (Qa × Qd) → Tr ρ R) : Tr ρ R := .call (ww 268 [.ptr 0 0, .agg (Q3 a1)] [(0, .box [] (QQ h0))]) (J5 a1 h0) Qr k
abbrev FB := ByteArray → Option ByteArray
structure Va where
 x0 : ByteArray
 i0s : ByteArray
 i0p : Nat
def Pk (a : Va) : St := { n := 21, nx := 1, env := [(0, xs a.x0), (1, .fn (.func 270) [] []), (8, .it 0)], heap := [(0, .iter a.i0s a.i0p)] }
def QbF (a : ByteArray) : Ex × St := (.ret, { n := 21, nx := 0, env := [(4, xs a)], heap := [] })
def QbG (a : ByteArray) : Ex × St := (.exit 0, { n := 21, nx := 0, env := [(0, xs a)], heap := [] })
def Pl (a : (ByteArray ⊕ ByteArray)) : Ex × St := Sum.elim QbF QbG a
abbrev Qeg := Va → Option (ByteArray ⊕ ByteArray)
def Pm (C0 : Ek) (a : Va) : Option (Va ⊕ (ByteArray ⊕ ByteArray)) := (bif (decide (a.i0p < a.i0s.size)) then ((C0 (((Utf8.decode a.i0s a.i0p).1 : Nat) : Int)).bind fun r1 => (bif (!r1) then (bif (decide (0 ≤ (0 : Int) ∧ (0 : Int) ≤ ((a.i0p : Nat) : Int) ∧ ((a.i0p : Nat) : Int) ≤ ((a.x0.size : Nat) : Int))) then (some (.inr (.inl (a.x0.extract (Int.toNat 0) (Int.toNat ((a.i0p : Nat) : Int)))))) else none) else (some (.inl (Va.mk a.x0 a.i0s (a.i0p + (Utf8.decode a.i0s a.i0p).2)))))) else (some (.inr (.inr a.x0))))
noncomputable def WF : Qeg := loopW (Pm U4)
theorem WF.eq (a : Va) : WF a = (Pm U4 a).bind (Sum.elim WF some) := Jk _ _
noncomputable abbrev Qj5 {ρ R : Type} (a : Va) (k0 : ByteArray → Tr ρ R) (k1 : ByteArray → Tr ρ R) : Tr ρ R := .loop2 (loopAt pp 266 2) (Pk a) (WF a) QbF QbG k0 k1
noncomputable def Qj6 (a : Va) : Tr (Va ⊕ (ByteArray ⊕ ByteArray)) XS := (.as (decide (a.i0p < a.i0s.size)) (.yes true (FA (((Utf8.decode a.i0s a.i0p).1 : Nat) : Int) fun r1 => (.as (!r1) (.as (in2 i0 ((a.i0p : Nat) : Int) (zz a.x0)) (rx Pl (.inl (cu a.x0 i0 ((a.i0p : Nat) : Int)))) .fail) (lf Pk (Va.mk a.x0 a.i0s (a.i0p + (Utf8.decode a.i0s a.i0p).2)))))) (.no false (rx Pl (.inr a.x0))))
theorem WF.ok {a : Va} {r : (ByteArray ⊕ ByteArray)} (h : WF a = some r) : lw 0 266 (loopAt pp 266 2) (Pk a) = some (Pl r) := by
 refine lpP h Qj6 fun a => ?_
 exact ⟨rfl, fun q0 => ⟨rfl, fun r1 h => ⟨U4.ok h, ⟨rfl, fun q1 => ⟨rfl, fun q2 => rfl, fun q2 => trivial⟩, fun q1 => rfl⟩⟩⟩, fun q0 => ⟨rfl, rfl⟩⟩
def Qb8 (L0 : Qeg) (a0 : ByteArray) : Option ByteArray := ((L0 (Va.mk a0 a0 0)).bind fun x => Sum.elim (fun (o1 : ByteArray) => (some o1)) (fun (o2 : ByteArray) => (some o2)) x)
noncomputable def WX : FB := Qb8 WF
theorem WX.eq (a0 : ByteArray) : WX a0 = Qb8 WF a0 := rfl
noncomputable def Qn7 (a0 : ByteArray) : Tr ByteArray AH := (Qj5 (Va.mk a0 a0 0) (fun o1 => (rt Qk o1)) (fun o2 => (rt Qk o2)))
theorem WX.ok {a0 : ByteArray} {r : ByteArray} (h : WX a0 = some r) : ww 266 [xs a0, .fn (.func 270) [] []] [] = some (Qk r) := by
 refine fnP (Qn7 a0) ?_ h
 exact ⟨fun o1 h => ⟨WF.ok (r := (.inl _)) h, rfl⟩, fun o2 h => ⟨WF.ok (r := (.inr _)) h, rfl⟩⟩
noncomputable abbrev Qb9 {ρ R : Type} (a0 : ByteArray) (k : ByteArray → Tr ρ R) : Tr ρ R := .call (ww 266 [xs a0, .fn (.func 270) [] []] []) (WX a0) Qk k
abbrev S8 := ByteArray → Option Bool
def Qca (C0 : Ek) (C1 : GU) (C2 : FB) (a0 : ByteArray) : Option Bool := (bif (eqS a0 s_) then (some false) else (bif (decide (((a0.size : Nat) : Int) > 12)) then (some false) else (bif (decide (0 ≤ (0 : Int) ∧ (0 : Int) < ((a0.size : Nat) : Int))) then ((C0 (IntKind.i32.wrap ((a0.data.getD (Int.toNat 0) 0).toNat : Int))).bind fun r1 => (bif r1 then (some false) else ((C1 a0).bind fun r2 => (bif (!(eqS r2 a0)) then (some false) else (bif (((a0.data.getD (Int.toNat 0) 0).toNat : Int) != 114) then (some true) else (bif (((a0.size : Nat) : Int) == 1) then (some true) else (bif (decide (0 ≤ (1 : Int) ∧ (1 : Int) ≤ ((a0.size : Nat) : Int) ∧ ((a0.size : Nat) : Int) ≤ ((a0.size : Nat) : Int))) then ((C2 (a0.extract (Int.toNat 1) (Int.toNat ((a0.size : Nat) : Int)))).bind fun r3 => (some (!(eqS r3 (a0.extract (Int.toNat 1) (Int.toNat ((a0.size : Nat) : Int))))))) else none))))))) else none)))
noncomputable def X6 : S8 := Qca U4 V9 WX
theorem X6.eq (a0 : ByteArray) : X6 a0 = Qca U4 V9 WX a0 := rfl
noncomputable def Qn8 (a0 : ByteArray) : Tr Bool AH := (let u57 := (eqS a0 s_); .as u57 (yesN 3 u57 (yesN 11 true (rt Ql false))) (noN 3 u57 (let u56 := (decide ((zz a0) > 12)); .as u56 (yesN 4 u56 (yesN 6 true (rt Ql false))) (.no u56 (let u55 := (in1 i0 (zz a0)); .as u55 (noN 2 u56 (FA (IntKind.i32.wrap (gb a0 i0)) fun r1 => (.no u56 (.as r1 (yesN 4 r1 (.yes true (rt Ql false))) (.no r1 (PO a0 fun r2 => (noN 3 r1 (.as (!(eqS r2 a0)) (rt Ql false) (.yes u55 (let u54 := ((gb a0 i0) != 114); .as u54 (yesN 3 u54 (yesN 7 true (rt Ql true))) (noN 3 u54 (let u53 := ((zz a0) == 1); .as u53 (yesN 6 u53 (rt Ql true)) (.no u53 (let u52 := (in2 (zi 1) (zz a0) (zz a0)); .as u52 (.no u53 (Qb9 (cu a0 (zi 1) (zz a0)) fun r3 => (noN 2 u53 (.yes u52 (noN 2 u53 (rt Ql (!(eqS r3 (cu a0 (zi 1) (zz a0)))))))))) .fail)))))))))))))) .fail)))))
theorem X6.ok {a0 : ByteArray} {r : Bool} (h : X6 a0 = some r) : ww 272 [xs a0] [] = some (Ql r) := by
 refine fnP (Qn8 a0) ?_ h
 exact ⟨rfl, fun q0 => Qi 3 (q0) (Qi 11 (rfl) (rfl)), fun q0 => noN_ok 3 (q0) (⟨rfl, fun q1 => Qi 4 (q1) (Qi 6 (rfl) (rfl)), fun q1 => ⟨q1, ⟨rfl, fun q2 => noN_ok 2 (q1) (fun r1 h => ⟨U4.ok h, ⟨q1, ⟨rfl, fun q3 => Qi 4 (q3) (⟨rfl, rfl⟩), fun q3 => ⟨q3, fun r2 h => ⟨V9.ok h, noN_ok 3 (q3) (⟨rfl, fun q4 => rfl, fun q4 => ⟨q2, ⟨rfl, fun q5 => Qi 3 (q5) (Qi 7 (rfl) (rfl)), fun q5 => noN_ok 3 (q5) (⟨rfl, fun q6 => Qi 6 (q6) (rfl), fun q6 => ⟨q6, ⟨rfl, fun q7 => ⟨q6, fun r3 h => ⟨WX.ok h, noN_ok 2 (q6) (⟨q7, noN_ok 2 (q6) (rfl)⟩)⟩⟩, fun q7 => trivial⟩⟩⟩)⟩⟩⟩)⟩⟩⟩⟩⟩), fun q2 => trivial⟩⟩⟩)⟩
noncomputable abbrev Qht {ρ R : Type} (a0 : ByteArray) (k : Bool → Tr ρ R) : Tr ρ R := .call (ww 272 [xs a0] []) (X6 a0) Ql k
abbrev Qhu := Option (List ByteArray)
def QfG : Option (List ByteArray) := (some [s_, s_, s_, h_2e, h_2d, h_2b, h_2d, h_2a, h_26, h_7c, Qay, Qaz])
noncomputable def XZ : Qhu := QfG
theorem XZ.eq : XZ = QfG := rfl
noncomputable def QmG : Tr (List ByteArray) AH := (.rows [[xs s_], [xs s_], [xs s_], [xs h_2e], [xs h_2d], [xs h_2b], [xs h_2d], [xs h_2a], [xs h_26], [xs h_7c], [xs Qay], [xs Qaz]] (Qg [s_, s_, s_, h_2e, h_2d, h_2b, h_2d, h_2a, h_26, h_7c, Qay, Qaz]) (rt Jd [s_, s_, s_, h_2e, h_2d, h_2b, h_2d, h_2a, h_26, h_7c, Qay, Qaz]))
theorem XZ.ok {r : (List ByteArray)} (h : XZ = some r) : ww 208 [] [] = some (Jd r) := by
 refine fnP (QmG) ?_ h
 exact ⟨(QS [s_, s_, s_, h_2e, h_2d, h_2b, h_2d, h_2a, h_26, h_7c, Qay, Qaz]), rfl⟩
noncomputable abbrev QmH {ρ R : Type} (k : (List ByteArray) → Tr ρ R) : Tr ρ R := .call (ww 208 [] []) (XZ) Jd k
def Zd (r : (Int × Qd)) : AV × Heap := (xi r.1, [(0, .box [] (QQ r.2))])
abbrev WS := (List Int) → Qd → Option (Int × Qd)
structure JI where
 x7 : (List Int)
 x8 : Int
 x9 : Int
 h0 : Qd
structure Uh where
 x4 : Int
 h0 : Qd
def ZH (a : JI) : St := { n := 21, nx := 1, env := [(0, .ptr 0 0), (7, .sl (Jc a.x7)), (8, xi a.x8), (9, xi a.x9)], heap := [(0, .box [] (QQ a.h0))] }
def Em (a : Uh) : Ex × St := (.ret, { n := 21, nx := 1, env := [(4, xi a.x4)], heap := [(0, .box [] (QQ a.h0))] })
def En (a : Qd) : Ex × St := (.exit 0, { n := 21, nx := 1, env := [], heap := [(0, .box [] (QQ a))] })
def ZI (a : (Uh ⊕ Qd)) : Ex × St := Sum.elim Em En a
abbrev FC := JI → Option (Uh ⊕ Qd)
def ZJ (C0 : Qhu) (C1 : Wv) (a : JI) : Option (JI ⊕ (Uh ⊕ Qd)) := (bif (decide (a.x9 < a.x8)) then (bif (decide (0 ≤ a.x9)) then ((a.x7[(Int.toNat a.x9)]?).bind fun e1 => ((C0).bind fun r2 => (bif (decide (0 ≤ e1)) then ((r2[(Int.toNat e1)]?).bind fun e3 => ((C1 e3 a.h0).bind fun r4 => (bif r4.1 then (some (.inr (.inl (Uh.mk e1 r4.2)))) else (some (.inl (JI.mk a.x7 a.x8 (w64 (a.x9 + 1)) r4.2)))))) else none))) else none) else (some (.inr (.inr a.h0))))
noncomputable def Uz : FC := loopW (ZJ XZ JC)
theorem Uz.eq (a : JI) : Uz a = (ZJ XZ JC a).bind (Sum.elim Uz some) := Jk _ _
noncomputable abbrev QcT {ρ R : Type} (a : JI) (k0 : Uh → Tr ρ R) (k1 : Qd → Tr ρ R) : Tr ρ R := .loop2 (loopAt pp 244 2) (ZH a) (Uz a) Em En k0 k1
noncomputable def QcU (a : JI) : Tr (JI ⊕ (Uh ⊕ Qd)) XS := (.as (decide (a.x9 < a.x8)) (.as (decide (0 ≤ a.x9)) (.row ((Jc a.x7)[(Int.toNat a.x9)]?) (a.x7[(Int.toNat a.x9)]?) Xq fun (e1 : Int) => (QmH fun r2 => (.as (decide (0 ≤ e1)) (.row ((Qg r2)[(Int.toNat e1)]?) (r2[(Int.toNat e1)]?) Q2 fun (e3 : ByteArray) => (X5 e3 a.h0 fun r4 => (.as r4.1 (rx ZI (.inl (Uh.mk e1 r4.2))) (lf ZH (JI.mk a.x7 a.x8 (w64 (a.x9 + 1)) r4.2))))) .fail))) .fail) (rx ZI (.inr a.h0)))
theorem Uz.ok {a : JI} {r : (Uh ⊕ Qd)} (h : Uz a = some r) : lw 1 244 (loopAt pp 244 2) (ZH a) = some (ZI r) := by
 refine lpP h QcU fun a => ?_
 exact ⟨rfl, fun q0 => ⟨rfl, fun q1 => fun e1 h => ⟨Vy h, fun r2 h => ⟨XZ.ok h, ⟨rfl, fun q2 => fun e3 h => ⟨QT h, fun r4 h => ⟨JC.ok h, ⟨rfl, fun q3 => rfl, fun q3 => rfl⟩⟩⟩, fun q2 => trivial⟩⟩⟩, fun q1 => trivial⟩, fun q0 => rfl⟩
def GC (L0 : FC) (a1 : (List Int)) (h0 : Qd) : Option (Int × Qd) := ((L0 (JI.mk a1 (((a1.length) : Nat) : Int) (0 : Int) h0)).bind fun x => Sum.elim (fun (o1 : Uh) => (some (o1.x4, o1.h0))) (fun (o2 : Qd) => (some ((0 : Int), o2))) x)
noncomputable def JW : WS := GC Uz
theorem JW.eq (a1 : (List Int)) (h0 : Qd) : JW a1 h0 = GC Uz a1 h0 := rfl
noncomputable def QfH (a1 : (List Int)) (h0 : Qd) : Tr (Int × Qd) AH := (.num ((Jc a1).length) (a1.length) (QcT (JI.mk a1 (((a1.length) : Nat) : Int) i0 h0) (fun o1 => (rt Zd (o1.x4, o1.h0))) (fun o2 => (rt Zd (i0, o2)))))
theorem JW.ok {a1 : (List Int)} {h0 : Qd} {r : (Int × Qd)} (h : JW a1 h0 = some r) : ww 244 [.ptr 0 0, .sl (Jc a1)] [(0, .box [] (QQ h0))] = some (Zd r) := by
 refine fnP (QfH a1 h0) ?_ h
 exact ⟨(Vp _), ⟨fun o1 h => ⟨Uz.ok (r := (.inl _)) h, rfl⟩, fun o2 h => ⟨Uz.ok (r := (.inr _)) h, rfl⟩⟩⟩
noncomputable abbrev Si {ρ R : Type} (a1 : (List Int)) (h0 : Qd) (k : (Int × Qd) → Tr ρ R) : Tr ρ R := .call (ww 244 [.ptr 0 0, .sl (Jc a1)] [(0, .box [] (QQ h0))]) (JW a1 h0) Zd k
abbrev Xj := Qd → Option (Qa × Qd)
abbrev QfI (c : Xj) : Prop := ∀ (h0 : Qd) (r : (Qa × Qd)), c h0 = some r → ww 263 [.ptr 0 0] [(0, .box [] (QQ h0))] = some (Qr r)
abbrev W0 := Qd → Option (Qa × Qd)
abbrev QeJ (c : W0) : Prop := ∀ (h0 : Qd) (r : (Qa × Qd)), c h0 = some r → ww 262 [.ptr 0 0, .fn (.func 263) [.ptr 0 0] []] [(0, .box [] (QQ h0))] = some (Qr r)
abbrev Xk := Qd → Option (Qa × Qd)
abbrev QfJ (c : Xk) : Prop := ∀ (h0 : Qd) (r : (Qa × Qd)), c h0 = some r → ww 264 [.ptr 0 0] [(0, .box [] (QQ h0))] = some (Qr r)
abbrev WC := Qd → Option (Qa × Qd)
abbrev QcV (c : WC) : Prop := ∀ (h0 : Qd) (r : (Qa × Qd)), c h0 = some r → ww 262 [.ptr 0 0, .fn (.func 264) [.ptr 0 0] []] [(0, .box [] (QQ h0))] = some (Qr r)
abbrev VH := Qd → Option (Qa × Qd)
abbrev Qh7 (c : VH) : Prop := ∀ (h0 : Qd) (r : (Qa × Qd)), c h0 = some r → ww 243 [.ptr 0 0] [(0, .box [] (QQ h0))] = some (Qr r)
abbrev Ji := Int → Qd → Option (Qa × Qd)
abbrev Qa5 (c : Ji) : Prop := ∀ (a1 : Int) (h0 : Qd) (r : (Qa × Qd)), c a1 h0 = some r → ww 215 [.ptr 0 0, xi a1] [(0, .box [] (QQ h0))] = some (Qr r)
noncomputable abbrev QeK {ρ R : Type} (c : Xj) (h0 : Qd) (k : (Qa × Qd) → Tr ρ R) : Tr ρ R := .call (ww 263 [.ptr 0 0] [(0, .box [] (QQ h0))]) (c h0) Qr k
noncomputable abbrev Qdz {ρ R : Type} (c : W0) (h0 : Qd) (k : (Qa × Qd) → Tr ρ R) : Tr ρ R := .call (ww 262 [.ptr 0 0, .fn (.func 263) [.ptr 0 0] []] [(0, .box [] (QQ h0))]) (c h0) Qr k
noncomputable abbrev QeL {ρ R : Type} (c : Xk) (h0 : Qd) (k : (Qa × Qd) → Tr ρ R) : Tr ρ R := .call (ww 264 [.ptr 0 0] [(0, .box [] (QQ h0))]) (c h0) Qr k
noncomputable abbrev Qcb {ρ R : Type} (c : WC) (h0 : Qd) (k : (Qa × Qd) → Tr ρ R) : Tr ρ R := .call (ww 262 [.ptr 0 0, .fn (.func 264) [.ptr 0 0] []] [(0, .box [] (QQ h0))]) (c h0) Qr k
noncomputable abbrev SN {ρ R : Type} (c : VH) (h0 : Qd) (k : (Qa × Qd) → Tr ρ R) : Tr ρ R := .call (ww 243 [.ptr 0 0] [(0, .box [] (QQ h0))]) (c h0) Qr k
noncomputable abbrev Zv {ρ R : Type} (c : Ji) (a1 : Int) (h0 : Qd) (k : (Qa × Qd) → Tr ρ R) : Tr ρ R := .call (ww 215 [.ptr 0 0, xi a1] [(0, .box [] (QQ h0))]) (c a1 h0) Qr k
def W1 (C0 : Ji) (C1 : Wv) (C2 : JV) (h0 : Qd) : Option (Qa × Qd) := ((C0 (0 : Int) h0).bind fun r1 => ((C1 h_29 r1.2).bind fun r2 => (bif (!r2.1) then ((C2 r2.2).bind fun r3 => (some (r3.1, r3.2))) else (some (r1.1, r2.2)))))
theorem F9 {C0 : Nat → Ji} {D0 : Ji} (H0 : Cv2 C0 D0) {C1 : Nat → Wv} {D1 : Wv} (H1 : Cv2 C1 D1) {C2 : Nat → JV} {D2 : JV} (H2 : Cv1 C2 D2) (h0 : Qd) : Cv (fun k => W1 (C0 k) (C1 k) (C2 k) h0) (W1 D0 D1 D2 h0) := by
 unfold W1
 exact .bind (H0 _ _) fun r1 => .bind (H1 _ _) fun r2 => .cond (.bind (H2 _) fun r3 => by exact .const _) cst
noncomputable def QeM (C0 : Ji) (h0 : Qd) : Tr (Qa × Qd) AH := (Zv C0 i0 h0 fun r1 => (X5 h_29 r1.2 fun r2 => (.as (!r2.1) (V8 r2.2 fun r3 => (rt Qr (r3.1, r3.2))) (rt Qr (r1.1, r2.2)))))
def Wh (C0 : JV) (C1 : Xj) (h0 : Qd) : Option (Qa × Qd) := (bif (decide (h0.deep ≥ 12)) then ((C0 h0).bind fun r1 => (some (r1.1, r1.2))) else ((C1 (Qd.mk h0.left (w64 (h0.deep + 1)) h0.bad)).bind fun r2 => (some (r2.1, (Qd.mk r2.2.left (w64 (r2.2.deep - 1)) r2.2.bad)))))
theorem FD {C0 : Nat → JV} {D0 : JV} (H0 : Cv1 C0 D0) {C1 : Nat → Xj} {D1 : Xj} (H1 : Cv1 C1 D1) (h0 : Qd) : Cv (fun k => Wh (C0 k) (C1 k) h0) (Wh D0 D1 h0) := by
 unfold Wh
 exact .cond (.bind (H0 _) fun r1 => by exact .const _) (.bind (H1 _) fun r2 => by exact .const _)
noncomputable def QdA (C0 : Xj) (h0 : Qd) : Tr (Qa × Qd) AH := (.as (decide (h0.deep ≥ 12)) (V8 h0 fun r1 => (rt Qr (r1.1, r1.2))) (QeK C0 (Qd.mk h0.left (w64 (h0.deep + 1)) h0.bad) fun r2 => (rt Qr (r2.1, (Qd.mk r2.2.left (w64 (r2.2.deep - 1)) r2.2.bad)))))
def W2 (C0 : VH) (h0 : Qd) : Option (Qa × Qd) := ((C0 h0).bind fun r1 => (some ((Qa.mk (4 : Int) (0 : Int) s_ [r1.1]), r1.2)))
theorem Pa {C0 : Nat → VH} {D0 : VH} (H0 : Cv1 C0 D0) (h0 : Qd) : Cv (fun k => W2 (C0 k) h0) (W2 D0 h0) := by
 unfold W2
 exact .bind (H0 _) fun r1 => by exact .const _
noncomputable def QeN (C0 : VH) (h0 : Qd) : Tr (Qa × Qd) AH := (SN C0 h0 fun r1 => (.rows [[xi r1.1.Kind, xi r1.1.N, xs r1.1.Name, .sl (QN r1.1.L)]] (QN [r1.1]) (rt Qr ((Qa.mk (zi 4) i0 s_ [r1.1]), r1.2))))
def VI (C0 : JV) (C1 : Xk) (h0 : Qd) : Option (Qa × Qd) := (bif (decide (h0.deep ≥ 12)) then ((C0 h0).bind fun r1 => (some (r1.1, r1.2))) else ((C1 (Qd.mk h0.left (w64 (h0.deep + 1)) h0.bad)).bind fun r2 => (some (r2.1, (Qd.mk r2.2.left (w64 (r2.2.deep - 1)) r2.2.bad)))))
theorem Eo {C0 : Nat → JV} {D0 : JV} (H0 : Cv1 C0 D0) {C1 : Nat → Xk} {D1 : Xk} (H1 : Cv1 C1 D1) (h0 : Qd) : Cv (fun k => VI (C0 k) (C1 k) h0) (VI D0 D1 h0) := by
 unfold VI
 exact .cond (.bind (H0 _) fun r1 => by exact .const _) (.bind (H1 _) fun r2 => by exact .const _)
noncomputable def Qcc (C0 : Xk) (h0 : Qd) : Tr (Qa × Qd) AH := (.as (decide (h0.deep ≥ 12)) (V8 h0 fun r1 => (rt Qr (r1.1, r1.2))) (QeL C0 (Qd.mk h0.left (w64 (h0.deep + 1)) h0.bad) fun r2 => (rt Qr (r2.1, (Qd.mk r2.2.left (w64 (r2.2.deep - 1)) r2.2.bad)))))
def VQ (C0 : Wv) (C1 : W0) (C2 : WC) (C3 : Yl) (C4 : Qdx) (C5 : YT) (C6 : Zc) (C7 : FB) (C8 : GU) (C9 : S8) (C10 : JV) (h0 : Qd) : Option (Qa × Qd) := ((C0 h_28 h0).bind fun r1 => (bif r1.1 then ((C1 r1.2).bind fun r2 => (some (r2.1, r2.2))) else ((C0 h_2d r1.2).bind fun r3 => (bif r3.1 then ((C2 r3.2).bind fun r4 => (some (r4.1, r4.2))) else ((C0 h_2e r3.2).bind fun r5 => (bif r5.1 then (some ((Qa.mk (3 : Int) (0 : Int) s_ ([] : List Qa)), r5.2)) else (bif r5.2.bad then (some ((Qa.mk (0 : Int) (0 : Int) s_ ([] : List Qa)), r5.2)) else ((C3 r5.2.left).bind fun r6 => (bif r6 then (bif (decide (0 ≤ (2 : Int) ∧ (2 : Int) ≤ ((r5.2.left.size : Nat) : Int) ∧ ((r5.2.left.size : Nat) : Int) ≤ ((r5.2.left.size : Nat) : Int))) then ((C4 (r5.2.left.extract (Int.toNat 2) (Int.toNat ((r5.2.left.size : Nat) : Int)))).bind fun r7 => (bif (!(eqS r7 s_)) then ((C4 (r5.2.left.extract (Int.toNat 2) (Int.toNat ((r5.2.left.size : Nat) : Int)))).bind fun r8 => ((C5 r8 (16 : Int) (Qd.mk (r5.2.left.extract (Int.toNat 2) (Int.toNat ((r5.2.left.size : Nat) : Int))) r5.2.deep r5.2.bad)).bind fun r9 => ((C6 r9.1 r9.2).bind fun r10 => (some (r10.1, r10.2))))) else ((C7 r5.2.left).bind fun r11 => (bif (!(eqS r11 s_)) then ((C5 r11 (10 : Int) r5.2).bind fun r12 => ((C6 r12.1 r12.2).bind fun r13 => (some (r13.1, r13.2)))) else ((C8 r5.2.left).bind fun r14 => ((C9 r14).bind fun r15 => (bif r15 then (bif (decide (0 ≤ ((r14.size : Nat) : Int) ∧ ((r14.size : Nat) : Int) ≤ ((r5.2.left.size : Nat) : Int) ∧ ((r5.2.left.size : Nat) : Int) ≤ ((r5.2.left.size : Nat) : Int))) then (some ((Qa.mk (2 : Int) (0 : Int) r14 ([] : List Qa)), (Qd.mk (r5.2.left.extract (Int.toNat ((r14.size : Nat) : Int)) (Int.toNat ((r5.2.left.size : Nat) : Int))) r5.2.deep r5.2.bad))) else none) else ((C10 r5.2).bind fun r16 => (some (r16.1, r16.2)))))))))) else none) else ((C7 r5.2.left).bind fun r17 => (bif (!(eqS r17 s_)) then ((C5 r17 (10 : Int) r5.2).bind fun r18 => ((C6 r18.1 r18.2).bind fun r19 => (some (r19.1, r19.2)))) else ((C8 r5.2.left).bind fun r20 => ((C9 r20).bind fun r21 => (bif r21 then (bif (decide (0 ≤ ((r20.size : Nat) : Int) ∧ ((r20.size : Nat) : Int) ≤ ((r5.2.left.size : Nat) : Int) ∧ ((r5.2.left.size : Nat) : Int) ≤ ((r5.2.left.size : Nat) : Int))) then (some ((Qa.mk (2 : Int) (0 : Int) r20 ([] : List Qa)), (Qd.mk (r5.2.left.extract (Int.toNat ((r20.size : Nat) : Int)) (Int.toNat ((r5.2.left.size : Nat) : Int))) r5.2.deep r5.2.bad))) else none) else ((C10 r5.2).bind fun r22 => (some (r22.1, r22.2)))))))))))))))))
theorem SO {C0 : Nat → Wv} {D0 : Wv} (H0 : Cv2 C0 D0) {C1 : Nat → W0} {D1 : W0} (H1 : Cv1 C1 D1) {C2 : Nat → WC} {D2 : WC} (H2 : Cv1 C2 D2) {C3 : Nat → Yl} {D3 : Yl} (H3 : Cv1 C3 D3) {C4 : Nat → Qdx} {D4 : Qdx} (H4 : Cv1 C4 D4) {C5 : Nat → YT} {D5 : YT} (H5 : Cv3 C5 D5) {C6 : Nat → Zc} {D6 : Zc} (H6 : Cv2 C6 D6) {C7 : Nat → FB} {D7 : FB} (H7 : Cv1 C7 D7) {C8 : Nat → GU} {D8 : GU} (H8 : Cv1 C8 D8) {C9 : Nat → S8} {D9 : S8} (H9 : Cv1 C9 D9) {C10 : Nat → JV} {D10 : JV} (H10 : Cv1 C10 D10) (h0 : Qd) : Cv (fun k => VQ (C0 k) (C1 k) (C2 k) (C3 k) (C4 k) (C5 k) (C6 k) (C7 k) (C8 k) (C9 k) (C10 k) h0) (VQ D0 D1 D2 D3 D4 D5 D6 D7 D8 D9 D10 h0) := by
 unfold VQ
 exact .bind (H0 _ _) fun r1 => .cond (.bind (H1 _) fun r2 => by exact .const _) (.bind (H0 _ _) fun r3 => .cond (.bind (H2 _) fun r4 => by exact .const _) (.bind (H0 _ _) fun r5 => .cond cst (.cond cst (.bind (H3 _) fun r6 => .cond (.cond (.bind (H4 _) fun r7 => .cond (.bind (H4 _) fun r8 => .bind (H5 _ _ _) fun r9 => .bind (H6 _ _) fun r10 => by exact .const _) (.bind (H7 _) fun r11 => .cond (.bind (H5 _ _ _) fun r12 => .bind (H6 _ _) fun r13 => by exact .const _) (.bind (H8 _) fun r14 => .bind (H9 _) fun r15 => .cond cst (.bind (H10 _) fun r16 => by exact .const _)))) cst) (.bind (H7 _) fun r17 => .cond (.bind (H5 _ _ _) fun r18 => .bind (H6 _ _) fun r19 => by exact .const _) (.bind (H8 _) fun r20 => .bind (H9 _) fun r21 => .cond cst (.bind (H10 _) fun r22 => by exact .const _)))))))
noncomputable def QgW (C0 : W0) (C1 : WC) (h0 : Qd) : Tr (Qa × Qd) AH := (X5 h_28 h0 fun r1 => (.as r1.1 (Qdz C0 r1.2 fun r2 => (rt Qr (r2.1, r2.2))) (X5 h_2d r1.2 fun r3 => (.as r3.1 (Qcb C1 r3.2 fun r4 => (rt Qr (r4.1, r4.2))) (X5 h_2e r3.2 fun r5 => (.as r5.1 (rt Qr ((Qa.mk (zi 3) i0 s_ ([] : List Qa)), r5.2)) (.as r5.2.bad (rt Qr ((Qa.mk i0 i0 s_ ([] : List Qa)), r5.2)) (QcS r5.2.left fun r6 => (.as r6 (yesN 4 r6 (let u58 := (in2 (zi 2) (zz r5.2.left) (zz r5.2.left)); .as u58 (.yes r6 (QkP (cu r5.2.left (zi 2) (zz r5.2.left)) fun r7 => (yesN 2 r6 (.as (!(eqS r7 s_)) (.yes u58 (QkP (cu r5.2.left (zi 2) (zz r5.2.left)) fun r8 => (ZY r8 (zi 16) (Qd.mk (cu r5.2.left (zi 2) (zz r5.2.left)) r5.2.deep r5.2.bad) fun r9 => (Gd r9.1 r9.2 fun r10 => (rt Qr (r10.1, r10.2)))))) (Qb9 r5.2.left fun r11 => (.as (!(eqS r11 s_)) (ZY r11 (zi 10) r5.2 fun r12 => (Gd r12.1 r12.2 fun r13 => (rt Qr (r13.1, r13.2)))) (PO r5.2.left fun r14 => (Qht r14 fun r15 => (.as r15 (.as (in2 (zz r14) (zz r5.2.left) (zz r5.2.left)) (rt Qr ((Qa.mk (zi 2) i0 r14 ([] : List Qa)), (Qd.mk (cu r5.2.left (zz r14) (zz r5.2.left)) r5.2.deep r5.2.bad))) .fail) (V8 r5.2 fun r16 => (rt Qr (r16.1, r16.2)))))))))))) .fail)) (noN 7 r6 (.no false (Qb9 r5.2.left fun r17 => (.as (!(eqS r17 s_)) (ZY r17 (zi 10) r5.2 fun r18 => (Gd r18.1 r18.2 fun r19 => (rt Qr (r19.1, r19.2)))) (PO r5.2.left fun r20 => (Qht r20 fun r21 => (.as r21 (.as (in2 (zz r20) (zz r5.2.left) (zz r5.2.left)) (rt Qr ((Qa.mk (zi 2) i0 r20 ([] : List Qa)), (Qd.mk (cu r5.2.left (zz r20) (zz r5.2.left)) r5.2.deep r5.2.bad))) .fail) (V8 r5.2 fun r22 => (rt Qr (r22.1, r22.2)))))))))))))))))))
structure Jp where
 x1 : Int
 x6 : Int
 h0 : Qd
 h1 : Qa
 h2 : Qa
structure Uc where
 h0 : Qd
 h1 : Qa
 h2 : Qa
def ZZ (a : Jp) : St := { n := 47, nx := 3, env := [(0, .ptr 0 0), (1, xi a.x1), (4, .ptr 1 0), (5, .ptr 2 0), (6, xi a.x6)], heap := [(0, .box [] (QQ a.h0)), (1, .box [] (Q3 a.h1)), (2, .box [] (Q3 a.h2))] }
def Ym (a : Uc) : Ex × St := (.exit 0, { n := 47, nx := 3, env := [(4, .ptr 1 0), (5, .ptr 2 0)], heap := [(0, .box [] (QQ a.h0)), (1, .box [] (Q3 a.h1)), (2, .box [] (Q3 a.h2))] })
abbrev VP := Jp → Option Uc
def Wi (C0 : Ji) (C1 : YN) (C2 : WS) (a : Jp) : Option (Jp ⊕ Uc) := (bif (a.x6 != 0) then (bif (!a.h0.bad) then ((C0 (w64 (a.x1 + 1)) a.h0).bind fun r1 => ((C1).bind fun r2 => (bif (decide (0 ≤ a.x1)) then ((r2[(Int.toNat a.x1)]?).bind fun e3 => ((C2 e3 r1.2).bind fun r4 => (some (.inl (Jp.mk a.x1 r4.1 r4.2 a.h1 (Qa.mk a.x6 (0 : Int) s_ [a.h2, r1.1])))))) else none))) else (some (.inr (Uc.mk a.h0 a.h1 a.h2)))) else (some (.inr (Uc.mk a.h0 a.h1 a.h2))))
theorem FE {C0 : Nat → Ji} {D0 : Ji} (H0 : Cv2 C0 D0) {C1 : Nat → YN} {D1 : YN} (H1 : Cv C1 D1) {C2 : Nat → WS} {D2 : WS} (H2 : Cv2 C2 D2) (a : Jp) : Cv (fun k => Wi (C0 k) (C1 k) (C2 k) a) (Wi D0 D1 D2 a) := by
 unfold Wi
 exact .cond (.cond (.bind (H0 _ _) fun r1 => .bind (H1) fun r2 => .cond (.bind (.const _) fun e3 => .bind (H2 _ _) fun r4 => by exact .const _) cst) cst) cst
noncomputable abbrev QdB {ρ R : Type} (l : VP) (a : Jp) (k0 : Uc → Tr ρ R) : Tr ρ R := .loop (loopAt pp 215 5) (ZZ a) (l a) Ym k0
noncomputable def QdC (C0 : Ji) (a : Jp) : Tr (Jp ⊕ Uc) XS := (let u59 := (a.x6 != 0); .as u59 (yesN 5 u59 (.as (!a.h0.bad) (Zv C0 (w64 (a.x1 + 1)) a.h0 fun r1 => (.rows [[xi a.h2.Kind, xi a.h2.N, xs a.h2.Name, .sl (QN a.h2.L)], [xi r1.1.Kind, xi r1.1.N, xs r1.1.Name, .sl (QN r1.1.L)]] (QN [a.h2, r1.1]) (SC fun r2 => (.as (decide (0 ≤ a.x1)) (.row ((P1 r2)[(Int.toNat a.x1)]?) (r2[(Int.toNat a.x1)]?) Qfi fun (e3 : (List Int)) => (Si e3 r1.2 fun r4 => (lf ZZ (Jp.mk a.x1 r4.1 r4.2 a.h1 (Qa.mk a.x6 i0 s_ [a.h2, r1.1]))))) .fail)))) (rx Ym (Uc.mk a.h0 a.h1 a.h2)))) (noN 5 u59 (.no false (rx Ym (Uc.mk a.h0 a.h1 a.h2)))))
noncomputable def Q6.s (k : Nat) (C0 : Ji) : VP := iter (Wi C0 VF JW) k
theorem QcW (k : Nat) {C0 : Ji} (i_expr_parser_two : Qa5 C0) {a : Jp} {r : Uc} (h : Q6.s k C0 a = some r) : lw 1 215 (loopAt pp 215 5) (ZZ a) = some (Ym r) := by
 refine lpP (itP h) (QdC C0) fun a => ?_
 exact ⟨rfl, fun q0 => Qi 5 (q0) (⟨rfl, fun q1 => fun r1 h => ⟨i_expr_parser_two _ _ _ h, ⟨(Xh [a.h2, r1.1]), fun r2 h => ⟨VF.ok h, ⟨rfl, fun q2 => fun e3 h => ⟨QiW h, fun r4 h => ⟨JW.ok h, rfl⟩⟩, fun q2 => trivial⟩⟩⟩⟩, fun q1 => rfl⟩), fun q0 => noN_ok 5 (q0) (⟨rfl, rfl⟩)⟩
theorem Q6.m {j k : Nat} (hj : j ≤ k) (C0 : Ji) (D0 : Ji) (H0 : Le2 C0 D0) (a : Jp) : Le (Q6.s j C0 a) (Q6.s k D0 a) := Le.iter (fun a => (FE (tw2 H0) ks0 ks2 a).1 0) hj a
noncomputable def Q6.w (C0 : Ji) : VP := loopW (Wi C0 VF JW)
theorem Q6.cv (C0 : Nat → Ji) (D0 : Ji) (H0 : Cv2 C0 D0) (a : Jp) : Cv (fun k => Q6.s k (C0 k) a) (Q6.w D0 a) := Cv.iter (fun a => FE H0 ks0 ks2 a) a
def WT (C0 : YN) (C1 : VH) (C2 : Ji) (C3 : WS) (L4 : VP) (a1 : Int) (h0 : Qd) : Option (Qa × Qd) := ((C0).bind fun r1 => (bif (a1 == (((r1.length) : Nat) : Int)) then ((C1 h0).bind fun r2 => (some (r2.1, r2.2))) else ((C2 (w64 (a1 + 1)) h0).bind fun r3 => ((C0).bind fun r4 => (bif (decide (0 ≤ a1)) then ((r4[(Int.toNat a1)]?).bind fun e5 => ((C3 e5 r3.2).bind fun r6 => ((L4 (Jp.mk a1 r6.1 r6.2 (Qa.mk (0 : Int) (0 : Int) s_ ([] : List Qa)) r3.1)).bind (fun (o7 : Uc) => (some (o7.h2, o7.h0)))))) else none)))))
theorem SP {C0 : Nat → YN} {D0 : YN} (H0 : Cv C0 D0) {C1 : Nat → VH} {D1 : VH} (H1 : Cv1 C1 D1) {C2 : Nat → Ji} {D2 : Ji} (H2 : Cv2 C2 D2) {C3 : Nat → WS} {D3 : WS} (H3 : Cv2 C3 D3) {L4 : Nat → VP} {M4 : VP} (N4 : Cv1 L4 M4) (a1 : Int) (h0 : Qd) : Cv (fun k => WT (C0 k) (C1 k) (C2 k) (C3 k) (L4 k) a1 h0) (WT D0 D1 D2 D3 M4 a1 h0) := by
 unfold WT
 exact .bind (H0) fun r1 => .cond (.bind (H1 _) fun r2 => by exact .const _) (.bind (H2 _ _) fun r3 => .bind (H0) fun r4 => .cond (.bind (.const _) fun e5 => .bind (H3 _ _) fun r6 => .bind (N4 _) (fun o7 => by exact .const _)) cst)
noncomputable def QgX (C0 : VH) (C1 : Ji) (L2 : VP) (a1 : Int) (h0 : Qd) : Tr (Qa × Qd) AH := (SC fun r1 => (.num ((P1 r1).length) (r1.length) (.as (a1 == (((r1.length) : Nat) : Int)) (SN C0 h0 fun r2 => (rt Qr (r2.1, r2.2))) (Zv C1 (w64 (a1 + 1)) h0 fun r3 => (SC fun r4 => (.as (decide (0 ≤ a1)) (.row ((P1 r4)[(Int.toNat a1)]?) (r4[(Int.toNat a1)]?) Qfi fun (e5 : (List Int)) => (Si e5 r3.2 fun r6 => (QdB L2 (Jp.mk a1 r6.1 r6.2 (Qa.mk i0 i0 s_ ([] : List Qa)) r3.1) (fun o7 => (rt Qr (o7.h2, o7.h0)))))) .fail))))))
mutual
noncomputable def JN.s : Nat → Qd → Option (Qa × Qd)
 | 0, _ => none
 | k + 1, h0 => W1 (fun a1 h0 => Qp.s k a1 h0) JC QW h0
termination_by structural k => k
noncomputable def Q7.s : Nat → Qd → Option (Qa × Qd)
 | 0, _ => none
 | k + 1, h0 => Wh QW (fun h0 => JN.s k h0) h0
termination_by structural k => k
noncomputable def JO.s : Nat → Qd → Option (Qa × Qd)
 | 0, _ => none
 | k + 1, h0 => W2 (fun h0 => QI.s k h0) h0
termination_by structural k => k
noncomputable def QV.s : Nat → Qd → Option (Qa × Qd)
 | 0, _ => none
 | k + 1, h0 => VI QW (fun h0 => JO.s k h0) h0
termination_by structural k => k
noncomputable def QI.s : Nat → Qd → Option (Qa × Qd)
 | 0, _ => none
 | k + 1, h0 => VQ JC (fun h0 => Q7.s k h0) (fun h0 => QV.s k h0) UT ZG JX J5 WX V9 X6 QW h0
termination_by structural k => k
noncomputable def Qp.s : Nat → Int → Qd → Option (Qa × Qd)
 | 0, _, _ => none
 | k + 1, a1, h0 => WT VF (fun h0 => QI.s k h0) (fun a1 h0 => Qp.s k a1 h0) JW (Q6.s k (fun a1 h0 => Qp.s k a1 h0)) a1 h0
termination_by structural k => k
end
theorem EW : ∀ (k : Nat), (QfI (JN.s k)) ∧ (QeJ (Q7.s k)) ∧ (QfJ (JO.s k)) ∧ (QcV (QV.s k)) ∧ (Qh7 (QI.s k)) ∧ (Qa5 (Qp.s k))
 | 0 => ⟨fun _ _ h => (nomatch h), fun _ _ h => (nomatch h), fun _ _ h => (nomatch h), fun _ _ h => (nomatch h), fun _ _ h => (nomatch h), fun _ _ _ h => (nomatch h)⟩
 | k + 1 => by
  obtain ⟨i_expr_parser_group, i_expr_parser_within, i_expr_parser_minus, i_expr_parser_within_2, i_expr_parser_one, i_expr_parser_two⟩ := EW k
  exact ⟨fun h0 r h => by
    refine fnP (QeM (Qp.s k) h0) ?_ h
    exact fun r1 h => ⟨i_expr_parser_two _ _ _ h, fun r2 h => ⟨JC.ok h, ⟨rfl, fun q0 => fun r3 h => ⟨QW.ok h, rfl⟩, fun q0 => rfl⟩⟩⟩,
   fun h0 r h => by
    refine fnP (QdA (JN.s k) h0) ?_ h
    exact ⟨rfl, fun q0 => fun r1 h => ⟨QW.ok h, rfl⟩, fun q0 => fun r2 h => ⟨i_expr_parser_group _ _ h, rfl⟩⟩,
   fun h0 r h => by
    refine fnP (QeN (QI.s k) h0) ?_ h
    exact fun r1 h => ⟨i_expr_parser_one _ _ h, ⟨(Xh [r1.1]), rfl⟩⟩,
   fun h0 r h => by
    refine fnP (Qcc (JO.s k) h0) ?_ h
    exact ⟨rfl, fun q0 => fun r1 h => ⟨QW.ok h, rfl⟩, fun q0 => fun r2 h => ⟨i_expr_parser_minus _ _ h, rfl⟩⟩,
   fun h0 r h => by
    refine fnP (QgW (Q7.s k) (QV.s k) h0) ?_ h
    exact fun r1 h => ⟨JC.ok h, ⟨rfl, fun q0 => fun r2 h => ⟨i_expr_parser_within _ _ h, rfl⟩, fun q0 => fun r3 h => ⟨JC.ok h, ⟨rfl, fun q1 => fun r4 h => ⟨i_expr_parser_within_2 _ _ h, rfl⟩, fun q1 => fun r5 h => ⟨JC.ok h, ⟨rfl, fun q2 => rfl, fun q2 => ⟨rfl, fun q3 => rfl, fun q3 => fun r6 h => ⟨UT.ok h, ⟨rfl, fun q4 => Qi 4 (q4) (⟨rfl, fun q5 => ⟨q4, fun r7 h => ⟨ZG.ok h, Qi 2 (q4) (⟨rfl, fun q6 => ⟨q5, fun r8 h => ⟨ZG.ok h, fun r9 h => ⟨JX.ok h, fun r10 h => ⟨J5.ok h, rfl⟩⟩⟩⟩, fun q6 => fun r11 h => ⟨WX.ok h, ⟨rfl, fun q7 => fun r12 h => ⟨JX.ok h, fun r13 h => ⟨J5.ok h, rfl⟩⟩, fun q7 => fun r14 h => ⟨V9.ok h, fun r15 h => ⟨X6.ok h, ⟨rfl, fun q8 => ⟨rfl, fun q9 => rfl, fun q9 => trivial⟩, fun q8 => fun r16 h => ⟨QW.ok h, rfl⟩⟩⟩⟩⟩⟩⟩)⟩⟩, fun q5 => trivial⟩), fun q4 => noN_ok 7 (q4) (⟨rfl, fun r17 h => ⟨WX.ok h, ⟨rfl, fun q5 => fun r18 h => ⟨JX.ok h, fun r19 h => ⟨J5.ok h, rfl⟩⟩, fun q5 => fun r20 h => ⟨V9.ok h, fun r21 h => ⟨X6.ok h, ⟨rfl, fun q6 => ⟨rfl, fun q7 => rfl, fun q7 => trivial⟩, fun q6 => fun r22 h => ⟨QW.ok h, rfl⟩⟩⟩⟩⟩⟩⟩)⟩⟩⟩⟩⟩⟩⟩⟩⟩,
   fun a1 h0 r h => by
    refine fnP (QgX (QI.s k) (Qp.s k) (Q6.s k (Qp.s k)) a1 h0) ?_ h
    exact fun r1 h => ⟨VF.ok h, ⟨(QpA _), ⟨rfl, fun q0 => fun r2 h => ⟨i_expr_parser_one _ _ h, rfl⟩, fun q0 => fun r3 h => ⟨i_expr_parser_two _ _ _ h, fun r4 h => ⟨VF.ok h, ⟨rfl, fun q1 => fun e5 h => ⟨QiW h, fun r6 h => ⟨JW.ok h, fun o7 h => ⟨QcW k i_expr_parser_two h, rfl⟩⟩⟩, fun q1 => trivial⟩⟩⟩⟩⟩⟩⟩
theorem VJ : ∀ (k : Nat), (∀ (h0 : Qd), Le (JN.s k h0) (JN.s (k + 1) h0)) ∧ (∀ (h0 : Qd), Le (Q7.s k h0) (Q7.s (k + 1) h0)) ∧ (∀ (h0 : Qd), Le (JO.s k h0) (JO.s (k + 1) h0)) ∧ (∀ (h0 : Qd), Le (QV.s k h0) (QV.s (k + 1) h0)) ∧ (∀ (h0 : Qd), Le (QI.s k h0) (QI.s (k + 1) h0)) ∧ (∀ (a1 : Int) (h0 : Qd), Le (Qp.s k a1 h0) (Qp.s (k + 1) a1 h0))
 | 0 => ⟨fun _ _ h => (nomatch h), fun _ _ h => (nomatch h), fun _ _ h => (nomatch h), fun _ _ h => (nomatch h), fun _ _ h => (nomatch h), fun _ _ _ h => (nomatch h)⟩
 | k + 1 => by
  obtain ⟨i_expr_parser_group, i_expr_parser_within, i_expr_parser_minus, i_expr_parser_within_2, i_expr_parser_one, i_expr_parser_two⟩ := VJ k
  exact ⟨fun h0 => (F9 (tw2 i_expr_parser_two) ks2 ks1 h0).1 0,
   fun h0 => (FD ks1 (tw1 i_expr_parser_group) h0).1 0,
   fun h0 => (Pa (tw1 i_expr_parser_one) h0).1 0,
   fun h0 => (Eo ks1 (tw1 i_expr_parser_minus) h0).1 0,
   fun h0 => (SO ks2 (tw1 i_expr_parser_within) (tw1 i_expr_parser_within_2) ks1 ks1 ks3 ks2 ks1 ks1 ks1 ks1 h0).1 0,
   fun a1 h0 => (SP ks0 (tw1 i_expr_parser_one) (tw2 i_expr_parser_two) ks2 (tw1 (Q6.m (Nat.le_succ k) (Qp.s k) (Qp.s (k + 1)) i_expr_parser_two)) a1 h0).1 0⟩
noncomputable def JN (h0 : Qd) : Option (Qa × Qd) := lim fun k => JN.s k h0
theorem JN.cv (h0 : Qd) : Cv (fun k => JN.s k h0) (JN h0) := .lim fun k => (VJ k).1 h0
noncomputable def Q7 (h0 : Qd) : Option (Qa × Qd) := lim fun k => Q7.s k h0
theorem Q7.cv (h0 : Qd) : Cv (fun k => Q7.s k h0) (Q7 h0) := .lim fun k => (VJ k).2.1 h0
noncomputable def JO (h0 : Qd) : Option (Qa × Qd) := lim fun k => JO.s k h0
theorem JO.cv (h0 : Qd) : Cv (fun k => JO.s k h0) (JO h0) := .lim fun k => (VJ k).2.2.1 h0
noncomputable def QV (h0 : Qd) : Option (Qa × Qd) := lim fun k => QV.s k h0
theorem QV.cv (h0 : Qd) : Cv (fun k => QV.s k h0) (QV h0) := .lim fun k => (VJ k).2.2.2.1 h0
noncomputable def QI (h0 : Qd) : Option (Qa × Qd) := lim fun k => QI.s k h0
theorem QI.cv (h0 : Qd) : Cv (fun k => QI.s k h0) (QI h0) := .lim fun k => (VJ k).2.2.2.2.1 h0
noncomputable def Qp (a1 : Int) (h0 : Qd) : Option (Qa × Qd) := lim fun k => Qp.s k a1 h0
theorem Qp.cv (a1 : Int) (h0 : Qd) : Cv (fun k => Qp.s k a1 h0) (Qp a1 h0) := .lim fun k => (VJ k).2.2.2.2.2 a1 h0
theorem Qp.ok {a1 : Int} {h0 : Qd} {r : (Qa × Qd)} (h : Qp a1 h0 = some r) : ww 215 [.ptr 0 0, xi a1] [(0, .box [] (QQ h0))] = some (Qr r) := let ⟨k, e⟩ := ((Qp.cv a1 h0).2 r).1 h; (EW k).2.2.2.2.2 a1 h0 _ e
noncomputable def Q6 : VP := Q6.w Qp
theorem Q6.eq (a : Jp) : Q6 a = (Wi Qp VF JW a).bind (Sum.elim Q6 some) := Jk _ _
theorem JN.eq (h0 : Qd) : JN h0 = W1 Qp JC QW h0 := Cv.uniq (JN.cv h0).shift (F9 Qp.cv ks2 ks1 h0)
theorem Q7.eq (h0 : Qd) : Q7 h0 = Wh QW JN h0 := Cv.uniq (Q7.cv h0).shift (FD ks1 JN.cv h0)
theorem JO.eq (h0 : Qd) : JO h0 = W2 QI h0 := Cv.uniq (JO.cv h0).shift (Pa QI.cv h0)
theorem QV.eq (h0 : Qd) : QV h0 = VI QW JO h0 := Cv.uniq (QV.cv h0).shift (Eo ks1 JO.cv h0)
theorem QI.eq (h0 : Qd) : QI h0 = VQ JC Q7 QV UT ZG JX J5 WX V9 X6 QW h0 := Cv.uniq (QI.cv h0).shift (SO ks2 Q7.cv QV.cv ks1 ks1 ks3 ks2 ks1 ks1 ks1 ks1 h0)
theorem Qp.eq (a1 : Int) (h0 : Qd) : Qp a1 h0 = WT VF QI Qp JW Q6 a1 h0 := Cv.uniq (Qp.cv a1 h0).shift (SP ks0 QI.cv Qp.cv ks2 (Q6.cv (fun k => Qp.s k) Qp Qp.cv) a1 h0)
noncomputable abbrev QgY {ρ R : Type} (a1 : Int) (h0 : Qd) (k : (Qa × Qd) → Tr ρ R) : Tr ρ R := Zv Qp a1 h0 k
def W5 (r : (Qa × Bool)) : AV × Heap := (.tup [.agg (Q3 r.1), xo r.2], [])
abbrev Qhv := ByteArray → Option (Qa × Bool)
def Qa6 (C0 : Ji) (C1 : Gb) (a0 : ByteArray) : Option (Qa × Bool) := ((C0 (0 : Int) (Qd.mk a0 (0 : Int) false)).bind fun r1 => ((C1 r1.2).bind fun r2 => (bif r2.bad then (some ((Qa.mk (0 : Int) (0 : Int) s_ ([] : List Qa)), false)) else (bif (!(eqS r2.left s_)) then (some ((Qa.mk (0 : Int) (0 : Int) s_ ([] : List Qa)), false)) else (some (r1.1, true))))))
noncomputable def Wj : Qhv := Qa6 Qp Ua
theorem Wj.eq (a0 : ByteArray) : Wj a0 = Qa6 Qp Ua a0 := rfl
noncomputable def QmI (a0 : ByteArray) : Tr (Qa × Bool) AH := (QgY i0 (Qd.mk a0 i0 false) fun r1 => (Fz r1.2 fun r2 => (.as r2.bad (yesN 5 r2.bad (.yes true (rt W5 ((Qa.mk i0 i0 s_ ([] : List Qa)), false)))) (noN 5 r2.bad (.as (!(eqS r2.left s_)) (rt W5 ((Qa.mk i0 i0 s_ ([] : List Qa)), false)) (rt W5 (r1.1, true)))))))
theorem Wj.ok {a0 : ByteArray} {r : (Qa × Bool)} (h : Wj a0 = some r) : ww 179 [xs a0] [] = some (W5 r) := by
 refine fnP (QmI a0) ?_ h
 exact fun r1 h => ⟨Qp.ok h, fun r2 h => ⟨Ua.ok h, ⟨rfl, fun q0 => Qi 5 (q0) (⟨rfl, rfl⟩), fun q0 => noN_ok 5 (q0) (⟨rfl, fun q1 => rfl, fun q1 => rfl⟩)⟩⟩⟩
noncomputable abbrev QmJ {ρ R : Type} (a0 : ByteArray) (k : (Qa × Bool) → Tr ρ R) : Tr ρ R := .call (ww 179 [xs a0] []) (Wj a0) W5 k
def Qu (r : (Bool × Qh)) : AV × Heap := (xo r.1, [(0, .box [0, 0, 0, 0, 0, 5] [xi r.2.x.Line, xs r.2.x.Label, xi r.2.x.Kind, xi r.2.x.Op, xs r.2.x.Text, .arr 2]), (2, .arr true 5 (Qj r.2.x.Args))])
abbrev Sj := ByteArray → Qh → Option (Bool × Qh)
def Ge (C0 : Qhv) (a1 : ByteArray) (h0 : Qh) : Option (Bool × Qh) := ((C0 a1).bind fun r1 => (bif (decide ((h0.x.Args.length + [(Qc.mk (-1 : Int) r1.1)].length) * 64 ≤ most)) then (some (r1.2, (Qh.mk (Qb.mk h0.x.Line h0.x.Label h0.x.Kind h0.x.Op h0.x.Text (h0.x.Args ++ [(Qc.mk (-1 : Int) r1.1)]))))) else none))
noncomputable def Vr : Sj := Ge Wj
theorem Vr.eq (a1 : ByteArray) (h0 : Qh) : Vr a1 h0 = Ge Wj a1 h0 := rfl
noncomputable def QeO (a1 : ByteArray) (h0 : Qh) : Tr (Bool × Qh) AH := (QmJ a1 fun r1 => (.rows [[xi (-1 : Int), xi r1.1.Kind, xi r1.1.N, xs r1.1.Name, .sl (QN r1.1.L)]] (Qj [(Qc.mk (-1 : Int) r1.1)]) (.yes (decide ((Qj [(Qc.mk (-1 : Int) r1.1)]).all (fun r => r.length == 5) = true)) (.ask (decide (((Qj h0.x.Args).length + (Qj [(Qc.mk (-1 : Int) r1.1)]).length) * 64 ≤ most)) (decide ((h0.x.Args.length + [(Qc.mk (-1 : Int) r1.1)].length) * 64 ≤ most)) (.rows ((Qj h0.x.Args) ++ (Qj [(Qc.mk (-1 : Int) r1.1)])) (Qj (h0.x.Args ++ [(Qc.mk (-1 : Int) r1.1)])) (rt Qu (r1.2, (Qh.mk (Qb.mk h0.x.Line h0.x.Label h0.x.Kind h0.x.Op h0.x.Text (h0.x.Args ++ [(Qc.mk (-1 : Int) r1.1)])))))) .fail))))
theorem Vr.ok {a1 : ByteArray} {h0 : Qh} {r : (Bool × Qh)} (h : Vr a1 h0 = some r) : ww 129 [.ptr 0 0, xs a1] [(0, .box [0, 0, 0, 0, 0, 5] [xi h0.x.Line, xs h0.x.Label, xi h0.x.Kind, xi h0.x.Op, xs h0.x.Text, .arr 1]), (1, .arr true 5 (Qj h0.x.Args))] = some (Qu r) := by
 refine fnP (QeO a1 h0) ?_ h
 exact fun r1 h => ⟨Wj.ok h, ⟨(JE [(Qc.mk (-1 : Int) r1.1)]), ⟨(decide_eq_true (VS _)), ⟨(by rw [Jb, Jb]), fun q0 => ⟨(UV _ _), rfl⟩, fun q0 => trivial⟩⟩⟩⟩
noncomputable abbrev QeP {ρ R : Type} (a1 : ByteArray) (h0 : Qh) (k : (Bool × Qh) → Tr ρ R) : Tr ρ R := .call (ww 129 [.ptr 0 0, xs a1] [(0, .box [0, 0, 0, 0, 0, 5] [xi h0.x.Line, xs h0.x.Label, xi h0.x.Kind, xi h0.x.Op, xs h0.x.Text, .arr 1]), (1, .arr true 5 (Qj h0.x.Args))]) (Vr a1 h0) Qu k
abbrev SS := ByteArray → Qh → Option (Bool × Qh)
def GD (C0 : Qdt) (a1 : ByteArray) (h0 : Qh) : Option (Bool × Qh) := ((C0 a1).bind fun r1 => (some (r1, (Qh.mk (Qb.mk h0.x.Line h0.x.Label h0.x.Kind h0.x.Op a1 h0.x.Args)))))
noncomputable def VK : SS := GD Xi
theorem VK.eq (a1 : ByteArray) (h0 : Qh) : VK a1 h0 = GD Xi a1 h0 := rfl
noncomputable def QfK (a1 : ByteArray) (h0 : Qh) : Tr (Bool × Qh) AH := (Qhk a1 fun r1 => (rt Qu (r1, (Qh.mk (Qb.mk h0.x.Line h0.x.Label h0.x.Kind h0.x.Op a1 h0.x.Args)))))
theorem VK.ok {a1 : ByteArray} {h0 : Qh} {r : (Bool × Qh)} (h : VK a1 h0 = some r) : ww 131 [.ptr 0 0, xs a1] [(0, .box [0, 0, 0, 0, 0, 5] [xi h0.x.Line, xs h0.x.Label, xi h0.x.Kind, xi h0.x.Op, xs h0.x.Text, .arr 1]), (1, .arr true 5 (Qj h0.x.Args))] = some (Qu r) := by
 refine fnP (QfK a1 h0) ?_ h
 exact fun r1 h => ⟨Xi.ok h, rfl⟩
noncomputable abbrev QfL {ρ R : Type} (a1 : ByteArray) (h0 : Qh) (k : (Bool × Qh) → Tr ρ R) : Tr ρ R := .call (ww 131 [.ptr 0 0, xs a1] [(0, .box [0, 0, 0, 0, 0, 5] [xi h0.x.Line, xs h0.x.Label, xi h0.x.Kind, xi h0.x.Op, xs h0.x.Text, .arr 1]), (1, .arr true 5 (Qj h0.x.Args))]) (VK a1 h0) Qu k
def QcX (r : Int) : AV × Heap := (.tup [xi r, .sc .nilIface], [])
abbrev Qlz := ByteArray → Option Int
noncomputable def Xt (a0 : ByteArray) : Option Int := atoiS a0
noncomputable abbrev QcY {ρ R : Type} (a0 : ByteArray) (k : Int → Tr ρ R) : Tr ρ R := .call (ww 241 [xs a0] []) (Xt a0) QcX k
theorem Xt.ok {a0 : ByteArray} {r : Int} (h : Xt a0 = some r) : ww 241 [xs a0] [] = some (QcX r) := (ES rfl _ _).trans (QsR h)
abbrev QcZ := ByteArray → Option (Int × Bool)
def FF (C0 : Sz) (C1 : Qlz) (a0 : ByteArray) : Option (Int × Bool) := (bif (decide (((a0.size : Nat) : Int) < 2)) then (some ((0 : Int), false)) else (bif (decide (((a0.size : Nat) : Int) > 3)) then (some ((0 : Int), false)) else (bif (decide (0 ≤ (0 : Int) ∧ (0 : Int) < ((a0.size : Nat) : Int))) then (bif (((a0.data.getD (Int.toNat 0) 0).toNat : Int) != 114) then (some ((0 : Int), false)) else (bif (decide (0 ≤ (1 : Int) ∧ (1 : Int) ≤ ((a0.size : Nat) : Int) ∧ ((a0.size : Nat) : Int) ≤ ((a0.size : Nat) : Int))) then ((C0 (a0.extract (Int.toNat 1) (Int.toNat ((a0.size : Nat) : Int)))).bind fun r1 => (bif (r1 != (w64 (((a0.size : Nat) : Int) - 1))) then (some ((0 : Int), false)) else (bif (((a0.size : Nat) : Int) == 3) then (bif (decide (0 ≤ (1 : Int) ∧ (1 : Int) < ((a0.size : Nat) : Int))) then (bif (((a0.data.getD (Int.toNat 1) 0).toNat : Int) == 48) then (some ((0 : Int), false)) else ((C1 (a0.extract (Int.toNat 1) (Int.toNat ((a0.size : Nat) : Int)))).bind fun r2 => (some (r2, (decide (r2 < 32)))))) else none) else ((C1 (a0.extract (Int.toNat 1) (Int.toNat ((a0.size : Nat) : Int)))).bind fun r3 => (some (r3, (decide (r3 < 32)))))))) else none)) else none)))
noncomputable def WK : QcZ := FF VT Xt
theorem WK.eq (a0 : ByteArray) : WK a0 = FF VT Xt a0 := rfl
noncomputable def Qja (a0 : ByteArray) : Tr (Int × Bool) AH := (let u65 := (decide ((zz a0) < 2)); .as u65 (yesN 3 u65 (yesN 19 true (rt Wg (i0, false)))) (noN 3 u65 (let u64 := (decide ((zz a0) > 3)); .as u64 (yesN 3 u64 (yesN 15 true (rt Wg (i0, false)))) (.no u64 (.as (in1 i0 (zz a0)) (noN 2 u64 (let u63 := ((gb a0 i0) != 114); .as u63 (yesN 7 u63 (yesN 7 true (rt Wg (i0, false)))) (.no u63 (let u62 := (in2 (zi 1) (zz a0) (zz a0)); .as u62 (.no u63 (QcN (cu a0 (zi 1) (zz a0)) fun r1 => (noN 5 u63 (let u61 := (r1 != (w64 ((zz a0) - 1))); .as u61 (yesN 5 u61 (.yes true (rt Wg (i0, false)))) (noN 3 u61 (let u60 := ((zz a0) == 3); .as u60 (.yes u60 (.as (in1 (zi 1) (zz a0)) (.yes u60 (.no u61 (.yes u60 (.no u61 (.as ((gb a0 (zi 1)) == 48) (rt Wg (i0, false)) (.yes u62 (QcY (cu a0 (zi 1) (zz a0)) fun r2 => (rt Wg (r2, (decide (r2 < 32))))))))))) .fail)) (noN 2 u60 (.no u61 (.no u60 (.no u61 (.no false (.yes u62 (QcY (cu a0 (zi 1) (zz a0)) fun r3 => (rt Wg (r3, (decide (r3 < 32))))))))))))))))) .fail)))) .fail)))))
theorem WK.ok {a0 : ByteArray} {r : (Int × Bool)} (h : WK a0 = some r) : ww 214 [xs a0] [] = some (Wg r) := by
 refine fnP (Qja a0) ?_ h
 exact ⟨rfl, fun q0 => Qi 3 (q0) (Qi 19 (rfl) (rfl)), fun q0 => noN_ok 3 (q0) (⟨rfl, fun q1 => Qi 3 (q1) (Qi 15 (rfl) (rfl)), fun q1 => ⟨q1, ⟨rfl, fun q2 => noN_ok 2 (q1) (⟨rfl, fun q3 => Qi 7 (q3) (Qi 7 (rfl) (rfl)), fun q3 => ⟨q3, ⟨rfl, fun q4 => ⟨q3, fun r1 h => ⟨VT.ok h, noN_ok 5 (q3) (⟨rfl, fun q5 => Qi 5 (q5) (⟨rfl, rfl⟩), fun q5 => noN_ok 3 (q5) (⟨rfl, fun q6 => ⟨q6, ⟨rfl, fun q7 => ⟨q6, ⟨q5, ⟨q6, ⟨q5, ⟨rfl, fun q8 => rfl, fun q8 => ⟨q4, fun r2 h => ⟨Xt.ok h, rfl⟩⟩⟩⟩⟩⟩⟩, fun q7 => trivial⟩⟩, fun q6 => noN_ok 2 (q6) (⟨q5, ⟨q6, ⟨q5, ⟨rfl, ⟨q4, fun r3 h => ⟨Xt.ok h, rfl⟩⟩⟩⟩⟩⟩)⟩)⟩)⟩⟩, fun q4 => trivial⟩⟩⟩), fun q2 => trivial⟩⟩⟩)⟩
noncomputable abbrev Qjb {ρ R : Type} (a0 : ByteArray) (k : (Int × Bool) → Tr ρ R) : Tr ρ R := .call (ww 214 [xs a0] []) (WK a0) Wg k
abbrev EX := ByteArray → Qh → Option (Bool × Qh)
def Zo (C0 : QcZ) (a1 : ByteArray) (h0 : Qh) : Option (Bool × Qh) := ((C0 a1).bind fun r1 => (bif (decide ((h0.x.Args.length + [(Qc.mk r1.1 (Qa.mk (0 : Int) (0 : Int) s_ ([] : List Qa)))].length) * 64 ≤ most)) then (some (r1.2, (Qh.mk (Qb.mk h0.x.Line h0.x.Label h0.x.Kind h0.x.Op h0.x.Text (h0.x.Args ++ [(Qc.mk r1.1 (Qa.mk (0 : Int) (0 : Int) s_ ([] : List Qa)))]))))) else none))
noncomputable def UI : EX := Zo WK
theorem UI.eq (a1 : ByteArray) (h0 : Qh) : UI a1 h0 = Zo WK a1 h0 := rfl
noncomputable def Qcd (a1 : ByteArray) (h0 : Qh) : Tr (Bool × Qh) AH := (Qjb a1 fun r1 => (.rows [[xi r1.1, xi i0, xi i0, xs s_, .sl (QN ([] : List Qa))]] (Qj [(Qc.mk r1.1 (Qa.mk i0 i0 s_ ([] : List Qa)))]) (.yes (decide ((Qj [(Qc.mk r1.1 (Qa.mk i0 i0 s_ ([] : List Qa)))]).all (fun r => r.length == 5) = true)) (.ask (decide (((Qj h0.x.Args).length + (Qj [(Qc.mk r1.1 (Qa.mk i0 i0 s_ ([] : List Qa)))]).length) * 64 ≤ most)) (decide ((h0.x.Args.length + [(Qc.mk r1.1 (Qa.mk i0 i0 s_ ([] : List Qa)))].length) * 64 ≤ most)) (.rows ((Qj h0.x.Args) ++ (Qj [(Qc.mk r1.1 (Qa.mk i0 i0 s_ ([] : List Qa)))])) (Qj (h0.x.Args ++ [(Qc.mk r1.1 (Qa.mk i0 i0 s_ ([] : List Qa)))])) (rt Qu (r1.2, (Qh.mk (Qb.mk h0.x.Line h0.x.Label h0.x.Kind h0.x.Op h0.x.Text (h0.x.Args ++ [(Qc.mk r1.1 (Qa.mk i0 i0 s_ ([] : List Qa)))])))))) .fail))))
theorem UI.ok {a1 : ByteArray} {h0 : Qh} {r : (Bool × Qh)} (h : UI a1 h0 = some r) : ww 178 [.ptr 0 0, xs a1] [(0, .box [0, 0, 0, 0, 0, 5] [xi h0.x.Line, xs h0.x.Label, xi h0.x.Kind, xi h0.x.Op, xs h0.x.Text, .arr 1]), (1, .arr true 5 (Qj h0.x.Args))] = some (Qu r) := by
 refine fnP (Qcd a1 h0) ?_ h
 exact fun r1 h => ⟨WK.ok h, ⟨(JE [(Qc.mk r1.1 (Qa.mk (0 : Int) (0 : Int) s_ ([] : List Qa)))]), ⟨(decide_eq_true (VS _)), ⟨(by rw [Jb, Jb]), fun q0 => ⟨(UV _ _), rfl⟩, fun q0 => trivial⟩⟩⟩⟩
noncomputable abbrev Qce {ρ R : Type} (a1 : ByteArray) (h0 : Qh) (k : (Bool × Qh) → Tr ρ R) : Tr ρ R := .call (ww 178 [.ptr 0 0, xs a1] [(0, .box [0, 0, 0, 0, 0, 5] [xi h0.x.Line, xs h0.x.Label, xi h0.x.Kind, xi h0.x.Op, xs h0.x.Text, .arr 1]), (1, .arr true 5 (Qj h0.x.Args))]) (UI a1 h0) Qu k
def QdD (r : (Bool × Qh)) : AV × Heap := (xo r.1, [(1, .box [0, 0, 0, 0, 0, 5] [xi r.2.x.Line, xs r.2.x.Label, xi r.2.x.Kind, xi r.2.x.Op, xs r.2.x.Text, .arr 3]), (3, .arr true 5 (Qj r.2.x.Args))])
abbrev QfM := (List ByteArray) → Qh → (List Nat) → Option (Bool × Qh)
structure Ut where
 x0 : (List ByteArray)
 x5 : Bool
 x6 : Int
 h1 : Qh
 r4 : (List Nat)
structure VV where
 x5 : Bool
 h1 : Qh
def Z4 (a : Ut) : St := { n := 31, nx := 5, env := [(0, .sl (Qg a.x0)), (1, .arr 4), (5, xo a.x5), (6, xi a.x6)], heap := [(1, .box [0, 0, 0, 0, 0, 5] [xi a.h1.x.Line, xs a.h1.x.Label, xi a.h1.x.Kind, xi a.h1.x.Op, xs a.h1.x.Text, .arr 3]), (3, .arr true 5 (Qj a.h1.x.Args)), (4, .fs (some 1) (J8 a.r4))] }
def EA (a : VV) : Ex × St := (.exit 0, { n := 31, nx := 4, env := [(5, xo a.x5)], heap := [(1, .box [0, 0, 0, 0, 0, 5] [xi a.h1.x.Line, xs a.h1.x.Label, xi a.h1.x.Kind, xi a.h1.x.Op, xs a.h1.x.Text, .arr 3]), (3, .arr true 5 (Qj a.h1.x.Args))] })
abbrev QfN := Ut → Option VV
def XD (C0 : Sj) (C1 : SS) (C2 : EX) (a : Ut) : Option (Ut ⊕ VV) := (bif (decide (a.x6 < (((a.r4.length) : Nat) : Int))) then (bif a.x5 then (bif (decide (0 ≤ a.x6 ∧ a.x6 < ((a.r4.length : Nat) : Int))) then ((a.r4[(Int.toNat a.x6)]?).bind fun e1 => (bif (decide (e1 = 129)) then (bif (decide (0 ≤ a.x6)) then ((a.x0[(Int.toNat a.x6)]?).bind fun e2 => ((C0 e2 a.h1).bind fun r3 => (some (.inl (Ut.mk a.x0 r3.1 (w64 (a.x6 + 1)) r3.2 a.r4))))) else none) else (bif (decide (e1 = 131)) then (bif (decide (0 ≤ a.x6)) then ((a.x0[(Int.toNat a.x6)]?).bind fun e4 => ((C1 e4 a.h1).bind fun r5 => (some (.inl (Ut.mk a.x0 r5.1 (w64 (a.x6 + 1)) r5.2 a.r4))))) else none) else (bif (decide (e1 = 178)) then (bif (decide (0 ≤ a.x6)) then ((a.x0[(Int.toNat a.x6)]?).bind fun e6 => ((C2 e6 a.h1).bind fun r7 => (some (.inl (Ut.mk a.x0 r7.1 (w64 (a.x6 + 1)) r7.2 a.r4))))) else none) else none)))) else none) else (some (.inr (VV.mk a.x5 a.h1)))) else (some (.inr (VV.mk a.x5 a.h1))))
noncomputable def J0 : QfN := loopW (XD Vr VK UI)
theorem J0.eq (a : Ut) : J0 a = (XD Vr VK UI a).bind (Sum.elim J0 some) := Jk _ _
noncomputable abbrev QlA {ρ R : Type} (a : Ut) (k0 : VV → Tr ρ R) : Tr ρ R := .loop (loopAt pp 127 3) (Z4 a) (J0 a) EA k0
noncomputable def QlB (a : Ut) : Tr (Ut ⊕ VV) XS := (.num ((J8 a.r4).length) (a.r4.length) (let u66 := (decide (a.x6 < (((a.r4.length) : Nat) : Int))); .as u66 (.yes u66 (.as a.x5 (.ask (in1 a.x6 (((J8 a.r4).length : Nat) : Int)) (in1 a.x6 ((a.r4.length : Nat) : Int)) (.row ((J8 a.r4)[(Int.toNat a.x6)]?) (a.r4[(Int.toNat a.x6)]?) Qfh fun (e1 : Nat) => (.as (decide (e1 = 129)) (.as (decide (0 ≤ a.x6)) (.row ((Qg a.x0)[(Int.toNat a.x6)]?) (a.x0[(Int.toNat a.x6)]?) Q2 fun (e2 : ByteArray) => (QeP e2 a.h1 fun r3 => (lf Z4 (Ut.mk a.x0 r3.1 (w64 (a.x6 + 1)) r3.2 a.r4)))) .fail) (.as (decide (e1 = 131)) (.as (decide (0 ≤ a.x6)) (.row ((Qg a.x0)[(Int.toNat a.x6)]?) (a.x0[(Int.toNat a.x6)]?) Q2 fun (e4 : ByteArray) => (QfL e4 a.h1 fun r5 => (lf Z4 (Ut.mk a.x0 r5.1 (w64 (a.x6 + 1)) r5.2 a.r4)))) .fail) (.as (decide (e1 = 178)) (.as (decide (0 ≤ a.x6)) (.row ((Qg a.x0)[(Int.toNat a.x6)]?) (a.x0[(Int.toNat a.x6)]?) Q2 fun (e6 : ByteArray) => (Qce e6 a.h1 fun r7 => (lf Z4 (Ut.mk a.x0 r7.1 (w64 (a.x6 + 1)) r7.2 a.r4)))) .fail) .fail)))) .fail) (rx EA (VV.mk a.x5 a.h1)))) (.no u66 (.no false (rx EA (VV.mk a.x5 a.h1))))))
theorem J0.ok {a : Ut} {r : VV} (h : J0 a = some r) : lw 3 127 (loopAt pp 127 3) (Z4 a) = some (EA r) := by
 refine lpP h QlB fun a => ?_
 exact ⟨(Yh _), ⟨rfl, fun q0 => ⟨q0, ⟨rfl, fun q1 => ⟨(by rw [Yh]), fun q2 => fun e1 h => ⟨Qpz h, ⟨rfl, fun q3 => ⟨rfl, fun q4 => fun e2 h => ⟨QT h, fun r3 h => ⟨Vr.ok h, rfl⟩⟩, fun q4 => trivial⟩, fun q3 => ⟨rfl, fun q4 => ⟨rfl, fun q5 => fun e4 h => ⟨QT h, fun r5 h => ⟨VK.ok h, rfl⟩⟩, fun q5 => trivial⟩, fun q4 => ⟨rfl, fun q5 => ⟨rfl, fun q6 => fun e6 h => ⟨QT h, fun r7 h => ⟨UI.ok h, rfl⟩⟩, fun q6 => trivial⟩, fun q5 => trivial⟩⟩⟩⟩, fun q2 => trivial⟩, fun q1 => rfl⟩⟩, fun q0 => ⟨q0, ⟨rfl, rfl⟩⟩⟩⟩
def S9 (L0 : QfN) (a0 : (List ByteArray)) (h1 : Qh) (r0 : (List Nat)) : Option (Bool × Qh) := ((L0 (Ut.mk a0 ((((a0.length) : Nat) : Int) == (((r0.length) : Nat) : Int)) (0 : Int) h1 r0)).bind (fun (o1 : VV) => (some (o1.x5, o1.h1))))
noncomputable def U5 : QfM := S9 J0
theorem U5.eq (a0 : (List ByteArray)) (h1 : Qh) (r0 : (List Nat)) : U5 a0 h1 r0 = S9 J0 a0 h1 r0 := rfl
noncomputable def QpH (a0 : (List ByteArray)) (h1 : Qh) (r0 : (List Nat)) : Tr (Bool × Qh) AH := (.num ((Qg a0).length) (a0.length) (.num ((J8 r0).length) (r0.length) (QlA (Ut.mk a0 ((((a0.length) : Nat) : Int) == (((r0.length) : Nat) : Int)) i0 h1 r0) (fun o1 => (rt QdD (o1.x5, o1.h1))))))
theorem U5.ok {a0 : (List ByteArray)} {h1 : Qh} {r0 : (List Nat)} {r : (Bool × Qh)} (h : U5 a0 h1 r0 = some r) : ww 127 [.sl (Qg a0), .arr 0] [(0, .fs (some 1) (J8 r0)), (1, .box [0, 0, 0, 0, 0, 5] [xi h1.x.Line, xs h1.x.Label, xi h1.x.Kind, xi h1.x.Op, xs h1.x.Text, .arr 2]), (2, .arr true 5 (Qj h1.x.Args))] = some (QdD r) := by
 refine fnP (QpH a0 h1 r0) ?_ h
 exact ⟨(Qo _), ⟨(Yh _), fun o1 h => ⟨J0.ok h, rfl⟩⟩⟩
noncomputable abbrev Ze {ρ R : Type} (a0 : (List ByteArray)) (h1 : Qh) (r0 : (List Nat)) (k : (Bool × Qh) → Tr ρ R) : Tr ρ R := .call (ww 127 [.sl (Qg a0), .arr 0] [(0, .fs (some 1) (J8 r0)), (1, .box [0, 0, 0, 0, 0, 5] [xi h1.x.Line, xs h1.x.Label, xi h1.x.Kind, xi h1.x.Op, xs h1.x.Text, .arr 2]), (2, .arr true 5 (Qj h1.x.Args))]) (U5 a0 h1 r0) QdD k
abbrev GE := (List ByteArray) → Qh → Option (Bool × Qh)
structure QX where
 x1 : (List ByteArray)
 x14 : (List ByteArray)
 x15 : Int
 x16 : Int
 h0 : Qh
 r3 : (List Nat)
structure JM where
 x1 : (List ByteArray)
 h0 : Qh
 r3 : (List Nat)
def WP (a : QX) : St := { n := 38, nx := 4, env := [(0, .ptr 0 0), (1, .sl (Qg a.x1)), (5, .arr 3), (14, .sl (Qg a.x14)), (15, xi a.x15), (16, xi a.x16)], heap := [(0, .box [0, 0, 0, 0, 0, 5] [xi a.h0.x.Line, xs a.h0.x.Label, xi a.h0.x.Kind, xi a.h0.x.Op, xs a.h0.x.Text, .arr 2]), (2, .arr true 5 (Qj a.h0.x.Args)), (3, .fs (some 0) (J8 a.r3))] }
def XT (a : JM) : Ex × St := (.exit 0, { n := 38, nx := 4, env := [(1, .sl (Qg a.x1)), (5, .arr 3)], heap := [(0, .box [0, 0, 0, 0, 0, 5] [xi a.h0.x.Line, xs a.h0.x.Label, xi a.h0.x.Kind, xi a.h0.x.Op, xs a.h0.x.Text, .arr 2]), (2, .arr true 5 (Qj a.h0.x.Args)), (3, .fs (some 0) (J8 a.r3))] })
abbrev ZS := QX → Option JM
def WQ (C0 : QgV) (a : QX) : Option (QX ⊕ JM) := (bif (decide (a.x16 < a.x15)) then (bif (decide (0 ≤ a.x16)) then ((a.x14[(Int.toNat a.x16)]?).bind fun e1 => (bif (decide (((h_20.size + e1.size : Nat) : Int) ≤ IntKind.i64.max)) then (bif (decide ((((h_20 ++ e1).size + h_20.size : Nat) : Int) ≤ IntKind.i64.max)) then ((C0 UL ((h_20 ++ e1) ++ h_20)).bind fun r2 => (bif r2 then (bif (decide ((a.r3.length + [178].length) * 8 ≤ most)) then (some (.inl (QX.mk a.x1 a.x14 a.x15 (w64 (a.x16 + 1)) a.h0 (a.r3 ++ [178])))) else none) else (bif (decide ((a.r3.length + [129].length) * 8 ≤ most)) then (some (.inl (QX.mk a.x1 a.x14 a.x15 (w64 (a.x16 + 1)) a.h0 (a.r3 ++ [129])))) else none))) else none) else none)) else none) else (some (.inr (JM.mk a.x1 a.h0 a.r3))))
noncomputable def Q5 : ZS := loopW (WQ Xf)
theorem Q5.eq (a : QX) : Q5 a = (WQ Xf a).bind (Sum.elim Q5 some) := Jk _ _
noncomputable abbrev Pn {ρ R : Type} (a : QX) (k0 : JM → Tr ρ R) : Tr ρ R := .loop (loopAt pp 125 3) (WP a) (Q5 a) XT k0
noncomputable def Po (a : QX) : Tr (QX ⊕ JM) XS := (.as (decide (a.x16 < a.x15)) (.as (decide (0 ≤ a.x16)) (.row ((Qg a.x14)[(Int.toNat a.x16)]?) (a.x14[(Int.toNat a.x16)]?) Q2 fun (e1 : ByteArray) => (.as (decide (((h_20.size + e1.size : Nat) : Int) ≤ IntKind.i64.max)) (.as (decide ((((h_20 ++ e1).size + h_20.size : Nat) : Int) ≤ IntKind.i64.max)) (QfA UL ((h_20 ++ e1) ++ h_20) fun r2 => (.as r2 (.rows [[.fn (.func 178) [] []]] (J8 [178]) (.yes (decide ((J8 [178]).all (fun r => r.length == 1) = true)) (.ask (decide (((J8 a.r3).length + (J8 [178]).length) * 8 ≤ most)) (decide ((a.r3.length + [178].length) * 8 ≤ most)) (.rows ((J8 a.r3) ++ (J8 [178])) (J8 (a.r3 ++ [178])) (lf WP (QX.mk a.x1 a.x14 a.x15 (w64 (a.x16 + 1)) a.h0 (a.r3 ++ [178])))) .fail))) (.rows [[.fn (.func 129) [] []]] (J8 [129]) (.yes (decide ((J8 [129]).all (fun r => r.length == 1) = true)) (.ask (decide (((J8 a.r3).length + (J8 [129]).length) * 8 ≤ most)) (decide ((a.r3.length + [129].length) * 8 ≤ most)) (.rows ((J8 a.r3) ++ (J8 [129])) (J8 (a.r3 ++ [129])) (lf WP (QX.mk a.x1 a.x14 a.x15 (w64 (a.x16 + 1)) a.h0 (a.r3 ++ [129])))) .fail))))) .fail) .fail)) .fail) (rx XT (JM.mk a.x1 a.h0 a.r3)))
theorem Q5.ok {a : QX} {r : JM} (h : Q5 a = some r) : lw 2 125 (loopAt pp 125 3) (WP a) = some (XT r) := by
 refine lpP h Po fun a => ?_
 exact ⟨rfl, fun q0 => ⟨rfl, fun q1 => fun e1 h => ⟨QT h, ⟨rfl, fun q2 => ⟨rfl, fun q3 => fun r2 h => ⟨Xf.ok h, ⟨rfl, fun q4 => ⟨(Y9 [178]), ⟨(decide_eq_true (Qdq _)), ⟨(by rw [Yh, Yh]), fun q5 => ⟨(Sy _ _), rfl⟩, fun q5 => trivial⟩⟩⟩, fun q4 => ⟨(Y9 [129]), ⟨(decide_eq_true (Qdq _)), ⟨(by rw [Yh, Yh]), fun q5 => ⟨(Sy _ _), rfl⟩, fun q5 => trivial⟩⟩⟩⟩⟩, fun q3 => trivial⟩, fun q2 => trivial⟩⟩, fun q1 => trivial⟩, fun q0 => rfl⟩
def Yn (C0 : Qi8) (C1 : Qi9) (C2 : QfM) (L3 : ZS) (a1 : (List ByteArray)) (h0 : Qh) : Option (Bool × Qh) := ((C0 h0.x.Op).bind fun r1 => ((C1 r1).bind fun r2 => ((L3 (QX.mk a1 r2 (((r2.length) : Nat) : Int) (0 : Int) h0 ([] : List Nat))).bind (fun (o3 : JM) => ((C2 o3.x1 o3.h0 o3.r3).bind fun r4 => (some (r4.1, r4.2)))))))
noncomputable def J6 : GE := Yn WW XR U5 Q5
theorem J6.eq (a1 : (List ByteArray)) (h0 : Qh) : J6 a1 h0 = Yn WW XR U5 Q5 a1 h0 := rfl
noncomputable def Qaa (a1 : (List ByteArray)) (h0 : Qh) : Tr (Bool × Qh) AH := (Qn5 h0.x.Op fun r1 => (Qh6 r1 fun r2 => (.num ((Qg r2).length) (r2.length) (Pn (QX.mk a1 r2 (((r2.length) : Nat) : Int) i0 h0 ([] : List Nat)) (fun o3 => (Ze o3.x1 o3.h0 o3.r3 fun r4 => (rt Qu (r4.1, r4.2))))))))
theorem J6.ok {a1 : (List ByteArray)} {h0 : Qh} {r : (Bool × Qh)} (h : J6 a1 h0 = some r) : ww 125 [.ptr 0 0, .sl (Qg a1)] [(0, .box [0, 0, 0, 0, 0, 5] [xi h0.x.Line, xs h0.x.Label, xi h0.x.Kind, xi h0.x.Op, xs h0.x.Text, .arr 1]), (1, .arr true 5 (Qj h0.x.Args))] = some (Qu r) := by
 refine fnP (Qaa a1 h0) ?_ h
 exact fun r1 h => ⟨WW.ok h, fun r2 h => ⟨XR.ok h, ⟨(Qo _), fun o3 h => ⟨Q5.ok h, fun r4 h => ⟨U5.ok h, rfl⟩⟩⟩⟩⟩
noncomputable abbrev Qab {ρ R : Type} (a1 : (List ByteArray)) (h0 : Qh) (k : (Bool × Qh) → Tr ρ R) : Tr ρ R := .call (ww 125 [.ptr 0 0, .sl (Qg a1)] [(0, .box [0, 0, 0, 0, 0, 5] [xi h0.x.Line, xs h0.x.Label, xi h0.x.Kind, xi h0.x.Op, xs h0.x.Text, .arr 1]), (1, .arr true 5 (Qj h0.x.Args))]) (J6 a1 h0) Qu k
abbrev Qhw := Option (List ByteArray)
def QfO : Option (List ByteArray) := (some [s_b, s_bl, s_bc])
noncomputable def X0 : Qhw := QfO
theorem X0.eq : X0 = QfO := rfl
noncomputable def QmK : Tr (List ByteArray) AH := (.rows [[xs s_b], [xs s_bl], [xs s_bc]] (Qg [s_b, s_bl, s_bc]) (rt Jd [s_b, s_bl, s_bc]))
theorem X0.ok {r : (List ByteArray)} (h : X0 = some r) : ww 111 [] [] = some (Jd r) := by
 refine fnP (QmK) ?_ h
 exact ⟨(QS [s_b, s_bl, s_bc]), rfl⟩
noncomputable abbrev QmL {ρ R : Type} (k : (List ByteArray) → Tr ρ R) : Tr ρ R := .call (ww 111 [] []) (X0) Jd k
abbrev Qeh := (List ByteArray) → ByteArray → Option Int
structure Up where
 x0 : (List ByteArray)
 x1 : ByteArray
 x7 : Int
 x8 : Int
def Ea (a : Up) : St := { n := 19, nx := 0, env := [(0, .sl (Qg a.x0)), (1, xs a.x1), (7, xi a.x7), (8, xi a.x8)], heap := [] }
def Sk (a : Int) : Ex × St := (.ret, { n := 19, nx := 0, env := [(4, xi a)], heap := [] })
def Sl (a : Unit) : Ex × St := (.exit 0, { n := 19, nx := 0, env := [], heap := [] })
def Eb (a : (Int ⊕ Unit)) : Ex × St := Sum.elim Sk Sl a
abbrev Qa7 := Up → Option (Int ⊕ Unit)
def Zw (a : Up) : Option (Up ⊕ (Int ⊕ Unit)) := (bif (decide (a.x8 < a.x7)) then (bif (decide (0 ≤ a.x8)) then ((a.x0[(Int.toNat a.x8)]?).bind fun e1 => (bif (eqS a.x1 e1) then (some (.inr (.inl a.x8))) else (some (.inl (Up.mk a.x0 a.x1 a.x7 (w64 (a.x8 + 1))))))) else none) else (some (.inr (.inr ()))))
noncomputable def Q9 : Qa7 := loopW (Zw )
theorem Q9.eq (a : Up) : Q9 a = (Zw a).bind (Sum.elim Q9 some) := Jk _ _
noncomputable abbrev QgZ {ρ R : Type} (a : Up) (k0 : Int → Tr ρ R) (k1 : Unit → Tr ρ R) : Tr ρ R := .loop2 (loopAt pp 126 2) (Ea a) (Q9 a) Sk Sl k0 k1
noncomputable def Qg0 (a : Up) : Tr (Up ⊕ (Int ⊕ Unit)) XS := (.as (decide (a.x8 < a.x7)) (.as (decide (0 ≤ a.x8)) (.row ((Qg a.x0)[(Int.toNat a.x8)]?) (a.x0[(Int.toNat a.x8)]?) Q2 fun (e1 : ByteArray) => (.as (eqS a.x1 e1) (rx Eb (.inl a.x8)) (lf Ea (Up.mk a.x0 a.x1 a.x7 (w64 (a.x8 + 1)))))) .fail) (rx Eb (.inr ())))
theorem Q9.ok {a : Up} {r : (Int ⊕ Unit)} (h : Q9 a = some r) : lw 0 126 (loopAt pp 126 2) (Ea a) = some (Eb r) := by
 refine lpP h Qg0 fun a => ?_
 exact ⟨rfl, fun q0 => ⟨rfl, fun q1 => fun e1 h => ⟨QT h, ⟨rfl, fun q2 => rfl, fun q2 => rfl⟩⟩, fun q1 => trivial⟩, fun q0 => rfl⟩
def GV (L0 : Qa7) (a0 : (List ByteArray)) (a1 : ByteArray) : Option Int := ((L0 (Up.mk a0 a1 (((a0.length) : Nat) : Int) (0 : Int))).bind fun x => Sum.elim (fun (o1 : Int) => (some o1)) (fun (o2 : Unit) => (some (-1 : Int))) x)
noncomputable def UN : Qeh := GV Q9
theorem UN.eq (a0 : (List ByteArray)) (a1 : ByteArray) : UN a0 a1 = GV Q9 a0 a1 := rfl
noncomputable def Qj7 (a0 : (List ByteArray)) (a1 : ByteArray) : Tr Int AH := (.num ((Qg a0).length) (a0.length) (QgZ (Up.mk a0 a1 (((a0.length) : Nat) : Int) i0) (fun o1 => (rt Qm o1)) (fun o2 => (rt Qm (-1 : Int)))))
theorem UN.ok {a0 : (List ByteArray)} {a1 : ByteArray} {r : Int} (h : UN a0 a1 = some r) : ww 126 [.sl (Qg a0), xs a1] [] = some (Qm r) := by
 refine fnP (Qj7 a0 a1) ?_ h
 exact ⟨(Qo _), ⟨fun o1 h => ⟨Q9.ok (r := (.inl _)) h, rfl⟩, fun o2 h => ⟨Q9.ok (r := (.inr _)) h, rfl⟩⟩⟩
noncomputable abbrev YD {ρ R : Type} (a0 : (List ByteArray)) (a1 : ByteArray) (k : Int → Tr ρ R) : Tr ρ R := .call (ww 126 [.sl (Qg a0), xs a1] []) (UN a0 a1) Qm k
def Qcf (r : (Qh × (List Nat))) : AV × Heap := (.arr 3, [(0, .box [0, 0, 0, 0, 0, 5] [xi r.1.x.Line, xs r.1.x.Label, xi r.1.x.Kind, xi r.1.x.Op, xs r.1.x.Text, .arr 2]), (2, .arr true 5 (Qj r.1.x.Args)), (3, .fs (some 0) (J8 r.2))])
abbrev Qjc := Int → Qh → Option (Qh × (List Nat))
structure Vb where
 x6 : Int
 x7 : Int
 h0 : Qh
 r3 : (List Nat)
structure Wz where
 h0 : Qh
 r3 : (List Nat)
def Pp (a : Vb) : St := { n := 15, nx := 4, env := [(0, .fn (.func 129) [.ptr 0 0] []), (5, .arr 3), (6, xi a.x6), (7, xi a.x7)], heap := [(0, .box [0, 0, 0, 0, 0, 5] [xi a.h0.x.Line, xs a.h0.x.Label, xi a.h0.x.Kind, xi a.h0.x.Op, xs a.h0.x.Text, .arr 2]), (2, .arr true 5 (Qj a.h0.x.Args)), (3, .fs (some 0) (J8 a.r3))] }
def Pq (a : Wz) : Ex × St := (.exit 0, { n := 15, nx := 4, env := [(5, .arr 3)], heap := [(0, .box [0, 0, 0, 0, 0, 5] [xi a.h0.x.Line, xs a.h0.x.Label, xi a.h0.x.Kind, xi a.h0.x.Op, xs a.h0.x.Text, .arr 2]), (2, .arr true 5 (Qj a.h0.x.Args)), (3, .fs (some 0) (J8 a.r3))] })
abbrev Qei := Vb → Option Wz
def GW (a : Vb) : Option (Vb ⊕ Wz) := (bif (decide (a.x7 < a.x6)) then (bif (decide ((a.r3.length + [129].length) * 8 ≤ most)) then (some (.inl (Vb.mk a.x6 (w64 (a.x7 + 1)) a.h0 (a.r3 ++ [129])))) else none) else (some (.inr (Wz.mk a.h0 a.r3))))
noncomputable def VW : Qei := loopW (GW )
theorem VW.eq (a : Vb) : VW a = (GW a).bind (Sum.elim VW some) := Jk _ _
noncomputable abbrev Qj8 {ρ R : Type} (a : Vb) (k0 : Wz → Tr ρ R) : Tr ρ R := .loop (loopAt pp 128 3) (Pp a) (VW a) Pq k0
noncomputable def Qj9 (a : Vb) : Tr (Vb ⊕ Wz) XS := (.as (decide (a.x7 < a.x6)) (.rows [[.fn (.func 129) [] []]] (J8 [129]) (.yes (decide ((J8 [129]).all (fun r => r.length == 1) = true)) (.ask (decide (((J8 a.r3).length + (J8 [129]).length) * 8 ≤ most)) (decide ((a.r3.length + [129].length) * 8 ≤ most)) (.rows ((J8 a.r3) ++ (J8 [129])) (J8 (a.r3 ++ [129])) (lf Pp (Vb.mk a.x6 (w64 (a.x7 + 1)) a.h0 (a.r3 ++ [129])))) .fail))) (rx Pq (Wz.mk a.h0 a.r3)))
theorem VW.ok {a : Vb} {r : Wz} (h : VW a = some r) : lw 2 128 (loopAt pp 128 3) (Pp a) = some (Pq r) := by
 refine lpP h Qj9 fun a => ?_
 exact ⟨rfl, fun q0 => ⟨(Y9 [129]), ⟨(decide_eq_true (Qdq _)), ⟨(by rw [Yh, Yh]), fun q1 => ⟨(Sy _ _), rfl⟩, fun q1 => trivial⟩⟩⟩, fun q0 => rfl⟩
def Qcg (L0 : Qei) (a1 : Int) (h0 : Qh) : Option (Qh × (List Nat)) := ((L0 (Vb.mk a1 (0 : Int) h0 ([] : List Nat))).bind (fun (o1 : Wz) => (some (o1.h0, o1.r3))))
noncomputable def Wa : Qjc := Qcg VW
theorem Wa.eq (a1 : Int) (h0 : Qh) : Wa a1 h0 = Qcg VW a1 h0 := rfl
noncomputable def Qn9 (a1 : Int) (h0 : Qh) : Tr (Qh × (List Nat)) AH := (Qj8 (Vb.mk a1 i0 h0 ([] : List Nat)) (fun o1 => (rt Qcf (o1.h0, o1.r3))))
theorem Wa.ok {a1 : Int} {h0 : Qh} {r : (Qh × (List Nat))} (h : Wa a1 h0 = some r) : ww 128 [.fn (.func 129) [.ptr 0 0] [], xi a1] [(0, .box [0, 0, 0, 0, 0, 5] [xi h0.x.Line, xs h0.x.Label, xi h0.x.Kind, xi h0.x.Op, xs h0.x.Text, .arr 1]), (1, .arr true 5 (Qj h0.x.Args))] = some (Qcf r) := by
 refine fnP (Qn9 a1 h0) ?_ h
 exact fun o1 h => ⟨VW.ok h, rfl⟩
noncomputable abbrev Z8 {ρ R : Type} (a1 : Int) (h0 : Qh) (k : (Qh × (List Nat)) → Tr ρ R) : Tr ρ R := .call (ww 128 [.fn (.func 129) [.ptr 0 0] [], xi a1] [(0, .box [0, 0, 0, 0, 0, 5] [xi h0.x.Line, xs h0.x.Label, xi h0.x.Kind, xi h0.x.Op, xs h0.x.Text, .arr 1]), (1, .arr true 5 (Qj h0.x.Args))]) (Wa a1 h0) Qcf k
abbrev FG := Int → Option Bool
def ZK (a0 : Int) : Option Bool := (bif (decide (a0 ≥ 32)) then (bif (decide (a0 ≤ (126 : Int))) then (some (a0 != 34)) else (some false)) else (some false))
noncomputable def UU : FG := ZK
theorem UU.eq (a0 : Int) : UU a0 = ZK a0 := rfl
noncomputable def Qc0 (a0 : Int) : Tr Bool AH := (let u68 := (decide (a0 ≥ 32)); .as u68 (yesN 2 u68 (let u67 := (decide (a0 ≤ (zi 126))); .as u67 (yesN 2 u67 (rt Ql (a0 != 34))) (noN 2 u67 (rt Ql false)))) (noN 2 u68 (noN 3 false (rt Ql false))))
theorem UU.ok {a0 : Int} {r : Bool} (h : UU a0 = some r) : ww 180 [xb a0] [] = some (Ql r) := by
 refine fnP (Qc0 a0) ?_ h
 exact ⟨rfl, fun q0 => Qi 2 (q0) (⟨rfl, fun q1 => Qi 2 (q1) (rfl), fun q1 => noN_ok 2 (q1) (rfl)⟩), fun q0 => noN_ok 2 (q0) (noN_ok 3 (rfl) (rfl))⟩
noncomputable abbrev Qc1 {ρ R : Type} (a0 : Int) (k : Bool → Tr ρ R) : Tr ρ R := .call (ww 180 [xb a0] []) (UU a0) Ql k
abbrev Qej := ByteArray → Option Int
structure Uq where
 x0 : ByteArray
 x5 : Int
def Ec (a : Uq) : St := { n := 20, nx := 0, env := [(0, xs a.x0), (1, .fn (.func 180) [] []), (5, xi a.x5)], heap := [] }
def Zx (a : Int) : Ex × St := (.exit 0, { n := 20, nx := 0, env := [(5, xi a)], heap := [] })
abbrev Qa8 := Uq → Option Int
def Ed (C0 : FG) (a : Uq) : Option (Uq ⊕ Int) := (bif (decide (a.x5 < ((a.x0.size : Nat) : Int))) then (bif (decide (0 ≤ a.x5 ∧ a.x5 < ((a.x0.size : Nat) : Int))) then ((C0 ((a.x0.data.getD (Int.toNat a.x5) 0).toNat : Int)).bind fun r1 => (bif r1 then (some (.inl (Uq.mk a.x0 (w64 (a.x5 + 1))))) else (some (.inr a.x5)))) else none) else (some (.inr a.x5)))
noncomputable def V5 : Qa8 := loopW (Ed UU)
theorem V5.eq (a : Uq) : V5 a = (Ed UU a).bind (Sum.elim V5 some) := Jk _ _
noncomputable abbrev Qg1 {ρ R : Type} (a : Uq) (k0 : Int → Tr ρ R) : Tr ρ R := .loop (loopAt pp 72 2) (Ec a) (V5 a) Zx k0
noncomputable def Qg2 (a : Uq) : Tr (Uq ⊕ Int) XS := (let u69 := (decide (a.x5 < (zz a.x0))); .as u69 (yesN 3 u69 (.as (in1 a.x5 (zz a.x0)) (.yes u69 (Qc1 (gb a.x0 a.x5) fun r1 => (.yes u69 (.as r1 (lf Ec (Uq.mk a.x0 (w64 (a.x5 + 1)))) (rx Zx a.x5))))) .fail)) (noN 5 u69 (.no false (rx Zx a.x5))))
theorem V5.ok {a : Uq} {r : Int} (h : V5 a = some r) : lw 0 72 (loopAt pp 72 2) (Ec a) = some (Zx r) := by
 refine lpP h Qg2 fun a => ?_
 exact ⟨rfl, fun q0 => Qi 3 (q0) (⟨rfl, fun q1 => ⟨q0, fun r1 h => ⟨UU.ok h, ⟨q0, ⟨rfl, fun q2 => rfl, fun q2 => rfl⟩⟩⟩⟩, fun q1 => trivial⟩), fun q0 => noN_ok 5 (q0) (⟨rfl, rfl⟩)⟩
def Pr (L0 : Qa8) (a0 : ByteArray) : Option Int := ((L0 (Uq.mk a0 (0 : Int))).bind (fun (o1 : Int) => (some o1)))
noncomputable def W6 : Qej := Pr V5
theorem W6.eq (a0 : ByteArray) : W6 a0 = Pr V5 a0 := rfl
noncomputable def Qka (a0 : ByteArray) : Tr Int AH := (Qg1 (Uq.mk a0 i0) (fun o1 => (rt Qm o1)))
theorem W6.ok {a0 : ByteArray} {r : Int} (h : W6 a0 = some r) : ww 72 [xs a0, .fn (.func 180) [] []] [] = some (Qm r) := by
 refine fnP (Qka a0) ?_ h
 exact fun o1 h => ⟨V5.ok h, rfl⟩
noncomputable abbrev Qkb {ρ R : Type} (a0 : ByteArray) (k : Int → Tr ρ R) : Tr ρ R := .call (ww 72 [xs a0, .fn (.func 180) [] []] []) (W6 a0) Qm k
abbrev Sm := ByteArray → Qh → Option (Bool × Qh)
def Gf (C0 : Qej) (a1 : ByteArray) (h0 : Qh) : Option (Bool × Qh) := (bif (decide (((a1.size : Nat) : Int) < 2)) then (some (false, h0)) else (bif (decide (((a1.size : Nat) : Int) > 62)) then (some (false, h0)) else (bif (decide (0 ≤ (0 : Int) ∧ (0 : Int) < ((a1.size : Nat) : Int))) then (bif (((a1.data.getD (Int.toNat 0) 0).toNat : Int) != 34) then (some (false, h0)) else (bif (decide (0 ≤ (w64 (((a1.size : Nat) : Int) - 1)) ∧ (w64 (((a1.size : Nat) : Int) - 1)) < ((a1.size : Nat) : Int))) then (bif (((a1.data.getD (Int.toNat (w64 (((a1.size : Nat) : Int) - 1))) 0).toNat : Int) != 34) then (some (false, h0)) else (bif (decide (0 ≤ (1 : Int) ∧ (1 : Int) ≤ (w64 (((a1.size : Nat) : Int) - 1)) ∧ (w64 (((a1.size : Nat) : Int) - 1)) ≤ ((a1.size : Nat) : Int))) then ((C0 (a1.extract (Int.toNat 1) (Int.toNat (w64 (((a1.size : Nat) : Int) - 1))))).bind fun r1 => (some ((r1 == (((a1.extract (Int.toNat 1) (Int.toNat (w64 (((a1.size : Nat) : Int) - 1)))).size : Nat) : Int)), (Qh.mk (Qb.mk h0.x.Line h0.x.Label h0.x.Kind h0.x.Op (a1.extract (Int.toNat 1) (Int.toNat (w64 (((a1.size : Nat) : Int) - 1)))) h0.x.Args))))) else none)) else none)) else none)))
noncomputable def Vs : Sm := Gf W6
theorem Vs.eq (a1 : ByteArray) (h0 : Qh) : Vs a1 h0 = Gf W6 a1 h0 := rfl
noncomputable def QeQ (a1 : ByteArray) (h0 : Qh) : Tr (Bool × Qh) AH := (let u72 := (decide ((zz a1) < 2)); .as u72 (yesN 3 u72 (yesN 12 true (rt Qu (false, h0)))) (noN 3 u72 (let u71 := (decide ((zz a1) > 62)); .as u71 (yesN 3 u71 (yesN 8 true (rt Qu (false, h0)))) (.no u71 (.as (in1 i0 (zz a1)) (noN 2 u71 (let u70 := ((gb a1 i0) != 34); .as u70 (yesN 6 u70 (.yes true (rt Qu (false, h0)))) (noN 4 u70 (.as (in1 (w64 ((zz a1) - 1)) (zz a1)) (noN 2 u70 (.as ((gb a1 (w64 ((zz a1) - 1))) != 34) (rt Qu (false, h0)) (.as (in2 (zi 1) (w64 ((zz a1) - 1)) (zz a1)) (Qkb (cu a1 (zi 1) (w64 ((zz a1) - 1))) fun r1 => (rt Qu ((r1 == (zz (cu a1 (zi 1) (w64 ((zz a1) - 1))))), (Qh.mk (Qb.mk h0.x.Line h0.x.Label h0.x.Kind h0.x.Op (cu a1 (zi 1) (w64 ((zz a1) - 1))) h0.x.Args))))) .fail))) .fail)))) .fail)))))
theorem Vs.ok {a1 : ByteArray} {h0 : Qh} {r : (Bool × Qh)} (h : Vs a1 h0 = some r) : ww 130 [.ptr 0 0, xs a1] [(0, .box [0, 0, 0, 0, 0, 5] [xi h0.x.Line, xs h0.x.Label, xi h0.x.Kind, xi h0.x.Op, xs h0.x.Text, .arr 1]), (1, .arr true 5 (Qj h0.x.Args))] = some (Qu r) := by
 refine fnP (QeQ a1 h0) ?_ h
 exact ⟨rfl, fun q0 => Qi 3 (q0) (Qi 12 (rfl) (rfl)), fun q0 => noN_ok 3 (q0) (⟨rfl, fun q1 => Qi 3 (q1) (Qi 8 (rfl) (rfl)), fun q1 => ⟨q1, ⟨rfl, fun q2 => noN_ok 2 (q1) (⟨rfl, fun q3 => Qi 6 (q3) (⟨rfl, rfl⟩), fun q3 => noN_ok 4 (q3) (⟨rfl, fun q4 => noN_ok 2 (q3) (⟨rfl, fun q5 => rfl, fun q5 => ⟨rfl, fun q6 => fun r1 h => ⟨W6.ok h, rfl⟩, fun q6 => trivial⟩⟩), fun q4 => trivial⟩)⟩), fun q2 => trivial⟩⟩⟩)⟩
noncomputable abbrev QeR {ρ R : Type} (a1 : ByteArray) (h0 : Qh) (k : (Bool × Qh) → Tr ρ R) : Tr ρ R := .call (ww 130 [.ptr 0 0, xs a1] [(0, .box [0, 0, 0, 0, 0, 5] [xi h0.x.Line, xs h0.x.Label, xi h0.x.Kind, xi h0.x.Op, xs h0.x.Text, .arr 1]), (1, .arr true 5 (Qj h0.x.Args))]) (Vs a1 h0) Qu k
abbrev Ep := ByteArray → ByteArray → Qh → Option (Bool × Qh)
def YZ (C0 : QcO) (C1 : QkN) (C2 : GE) (C3 : Qhw) (C4 : Qeh) (C5 : Qjc) (C6 : QfM) (C7 : Sm) (a1 : ByteArray) (a2 : ByteArray) (h0 : Qh) : Option (Bool × Qh) := ((C0 a2).bind fun r1 => ((C1 a1).bind fun r2 => (bif r2.2 then ((C2 r1 (Qh.mk (Qb.mk h0.x.Line h0.x.Label (1 : Int) r2.1 h0.x.Text h0.x.Args))).bind fun r3 => (some (r3.1, r3.2))) else ((C3).bind fun r4 => ((C4 r4 a1).bind fun r5 => (bif (decide (r5 ≥ 0)) then ((C5 (w64 ((1 : Int) + (w64 ((w64 (Int.tdiv r5 (2 : Int))) * (2 : Int))))) (Qh.mk (Qb.mk h0.x.Line h0.x.Label (2 : Int) r5 h0.x.Text h0.x.Args))).bind fun r6 => ((C6 r1 r6.1 r6.2).bind fun r7 => (some (r7.1, r7.2)))) else (bif (eqS a1 QF) then ((C4 [QF, QG, QH] a1).bind fun r8 => (bif (decide ((((r1.length) : Nat) : Int) ≥ 1)) then (bif (decide ((((r1.length) : Nat) : Int) ≤ 16)) then ((C5 (((r1.length) : Nat) : Int) (Qh.mk (Qb.mk h0.x.Line h0.x.Label (w64 ((3 : Int) + r8)) h0.x.Op h0.x.Text h0.x.Args))).bind fun r9 => ((C6 r1 r9.1 r9.2).bind fun r10 => (some (r10.1, r10.2)))) else (some (false, (Qh.mk (Qb.mk h0.x.Line h0.x.Label (w64 ((3 : Int) + r8)) h0.x.Op h0.x.Text h0.x.Args))))) else (some (false, (Qh.mk (Qb.mk h0.x.Line h0.x.Label (w64 ((3 : Int) + r8)) h0.x.Op h0.x.Text h0.x.Args)))))) else (bif (eqS a1 QG) then ((C4 [QF, QG, QH] a1).bind fun r11 => (bif (decide ((((r1.length) : Nat) : Int) ≥ 1)) then (bif (decide ((((r1.length) : Nat) : Int) ≤ 16)) then ((C5 (((r1.length) : Nat) : Int) (Qh.mk (Qb.mk h0.x.Line h0.x.Label (w64 ((3 : Int) + r11)) h0.x.Op h0.x.Text h0.x.Args))).bind fun r12 => ((C6 r1 r12.1 r12.2).bind fun r13 => (some (r13.1, r13.2)))) else (some (false, (Qh.mk (Qb.mk h0.x.Line h0.x.Label (w64 ((3 : Int) + r11)) h0.x.Op h0.x.Text h0.x.Args))))) else (some (false, (Qh.mk (Qb.mk h0.x.Line h0.x.Label (w64 ((3 : Int) + r11)) h0.x.Op h0.x.Text h0.x.Args)))))) else (bif (eqS a1 QH) then ((C4 [QF, QG, QH] a1).bind fun r14 => (bif (decide ((((r1.length) : Nat) : Int) ≥ 1)) then (bif (decide ((((r1.length) : Nat) : Int) ≤ 16)) then ((C5 (((r1.length) : Nat) : Int) (Qh.mk (Qb.mk h0.x.Line h0.x.Label (w64 ((3 : Int) + r14)) h0.x.Op h0.x.Text h0.x.Args))).bind fun r15 => ((C6 r1 r15.1 r15.2).bind fun r16 => (some (r16.1, r16.2)))) else (some (false, (Qh.mk (Qb.mk h0.x.Line h0.x.Label (w64 ((3 : Int) + r14)) h0.x.Op h0.x.Text h0.x.Args))))) else (some (false, (Qh.mk (Qb.mk h0.x.Line h0.x.Label (w64 ((3 : Int) + r14)) h0.x.Op h0.x.Text h0.x.Args)))))) else (bif (eqS a1 Q0) then ((C7 a2 (Qh.mk (Qb.mk h0.x.Line h0.x.Label (6 : Int) h0.x.Op h0.x.Text h0.x.Args))).bind fun r17 => (some (r17.1, r17.2))) else (bif (eqS a1 QA) then ((C4 [QA, QB] a1).bind fun r18 => ((C5 (1 : Int) (Qh.mk (Qb.mk h0.x.Line h0.x.Label (w64 ((7 : Int) + r18)) h0.x.Op h0.x.Text h0.x.Args))).bind fun r19 => ((C6 r1 r19.1 r19.2).bind fun r20 => (some (r20.1, r20.2))))) else (bif (eqS a1 QB) then ((C4 [QA, QB] a1).bind fun r21 => ((C5 (1 : Int) (Qh.mk (Qb.mk h0.x.Line h0.x.Label (w64 ((7 : Int) + r21)) h0.x.Op h0.x.Text h0.x.Args))).bind fun r22 => ((C6 r1 r22.1 r22.2).bind fun r23 => (some (r23.1, r23.2))))) else (bif (eqS a1 Jx) then ((C6 r1 (Qh.mk (Qb.mk h0.x.Line h0.x.Label (9 : Int) h0.x.Op h0.x.Text h0.x.Args)) [131, 129]).bind fun r24 => (some (r24.1, r24.2))) else (some (false, h0)))))))))))))))
noncomputable def JK : Ep := YZ WJ XQ J6 X0 UN Wa U5 Vs
theorem JK.eq (a1 : ByteArray) (a2 : ByteArray) (h0 : Qh) : JK a1 a2 h0 = YZ WJ XQ J6 X0 UN Wa U5 Vs a1 a2 h0 := rfl
noncomputable def Qbw (a1 : ByteArray) (a2 : ByteArray) (h0 : Qh) : Tr (Bool × Qh) AH := (Qi7 a2 fun r1 => (QpE a1 fun r2 => (.as r2.2 (Qab r1 (Qh.mk (Qb.mk h0.x.Line h0.x.Label (zi 1) r2.1 h0.x.Text h0.x.Args)) fun r3 => (rt Qu (r3.1, r3.2))) (QmL fun r4 => (YD r4 a1 fun r5 => (.as (decide (r5 ≥ 0)) (.yes (decide ((zi 2) ≠ 0)) (Z8 (w64 ((zi 1) + (w64 ((w64 (Int.tdiv r5 (zi 2))) * (zi 2))))) (Qh.mk (Qb.mk h0.x.Line h0.x.Label (zi 2) r5 h0.x.Text h0.x.Args)) fun r6 => (Ze r1 r6.1 r6.2 fun r7 => (rt Qu (r7.1, r7.2))))) (let u81 := (eqS a1 QF); .as u81 (.yes u81 (.rows [[xs QF], [xs QG], [xs QH]] (Qg [QF, QG, QH]) (YD [QF, QG, QH] a1 fun r8 => (.num ((Qg r1).length) (r1.length) (let u74 := (decide ((((r1.length) : Nat) : Int) ≥ 1)); .as u74 (.yes u74 (.num ((Qg r1).length) (r1.length) (yesN 2 u74 (let u73 := (decide ((((r1.length) : Nat) : Int) ≤ 16)); .as u73 (yesN 4 u73 (.num ((Qg r1).length) (r1.length) (.yes u73 (Z8 (((r1.length) : Nat) : Int) (Qh.mk (Qb.mk h0.x.Line h0.x.Label (w64 ((zi 3) + r8)) h0.x.Op h0.x.Text h0.x.Args)) fun r9 => (.yes u73 (Ze r1 r9.1 r9.2 fun r10 => (.yes u73 (rt Qu (r10.1, r10.2))))))))) (noN 7 u73 (rt Qu (false, (Qh.mk (Qb.mk h0.x.Line h0.x.Label (w64 ((zi 3) + r8)) h0.x.Op h0.x.Text h0.x.Args))))))))) (noN 3 u74 (noN 8 false (rt Qu (false, (Qh.mk (Qb.mk h0.x.Line h0.x.Label (w64 ((zi 3) + r8)) h0.x.Op h0.x.Text h0.x.Args))))))))))) (let u80 := (eqS a1 QG); .as u80 (.yes u80 (.rows [[xs QF], [xs QG], [xs QH]] (Qg [QF, QG, QH]) (YD [QF, QG, QH] a1 fun r11 => (.num ((Qg r1).length) (r1.length) (let u76 := (decide ((((r1.length) : Nat) : Int) ≥ 1)); .as u76 (.yes u76 (.num ((Qg r1).length) (r1.length) (yesN 2 u76 (let u75 := (decide ((((r1.length) : Nat) : Int) ≤ 16)); .as u75 (yesN 4 u75 (.num ((Qg r1).length) (r1.length) (.yes u75 (Z8 (((r1.length) : Nat) : Int) (Qh.mk (Qb.mk h0.x.Line h0.x.Label (w64 ((zi 3) + r11)) h0.x.Op h0.x.Text h0.x.Args)) fun r12 => (.yes u75 (Ze r1 r12.1 r12.2 fun r13 => (.yes u75 (rt Qu (r13.1, r13.2))))))))) (noN 7 u75 (rt Qu (false, (Qh.mk (Qb.mk h0.x.Line h0.x.Label (w64 ((zi 3) + r11)) h0.x.Op h0.x.Text h0.x.Args))))))))) (noN 3 u76 (noN 8 false (rt Qu (false, (Qh.mk (Qb.mk h0.x.Line h0.x.Label (w64 ((zi 3) + r11)) h0.x.Op h0.x.Text h0.x.Args))))))))))) (.as (eqS a1 QH) (.rows [[xs QF], [xs QG], [xs QH]] (Qg [QF, QG, QH]) (YD [QF, QG, QH] a1 fun r14 => (.num ((Qg r1).length) (r1.length) (let u78 := (decide ((((r1.length) : Nat) : Int) ≥ 1)); .as u78 (.yes u78 (.num ((Qg r1).length) (r1.length) (yesN 2 u78 (let u77 := (decide ((((r1.length) : Nat) : Int) ≤ 16)); .as u77 (yesN 4 u77 (.num ((Qg r1).length) (r1.length) (.yes u77 (Z8 (((r1.length) : Nat) : Int) (Qh.mk (Qb.mk h0.x.Line h0.x.Label (w64 ((zi 3) + r14)) h0.x.Op h0.x.Text h0.x.Args)) fun r15 => (.yes u77 (Ze r1 r15.1 r15.2 fun r16 => (.yes u77 (rt Qu (r16.1, r16.2))))))))) (noN 7 u77 (rt Qu (false, (Qh.mk (Qb.mk h0.x.Line h0.x.Label (w64 ((zi 3) + r14)) h0.x.Op h0.x.Text h0.x.Args))))))))) (noN 3 u78 (noN 8 false (rt Qu (false, (Qh.mk (Qb.mk h0.x.Line h0.x.Label (w64 ((zi 3) + r14)) h0.x.Op h0.x.Text h0.x.Args)))))))))) (.as (eqS a1 Q0) (QeR a2 (Qh.mk (Qb.mk h0.x.Line h0.x.Label (zi 6) h0.x.Op h0.x.Text h0.x.Args)) fun r17 => (rt Qu (r17.1, r17.2))) (let u79 := (eqS a1 QA); .as u79 (.yes u79 (.rows [[xs QA], [xs QB]] (Qg [QA, QB]) (YD [QA, QB] a1 fun r18 => (Z8 (zi 1) (Qh.mk (Qb.mk h0.x.Line h0.x.Label (w64 ((zi 7) + r18)) h0.x.Op h0.x.Text h0.x.Args)) fun r19 => (Ze r1 r19.1 r19.2 fun r20 => (rt Qu (r20.1, r20.2))))))) (.as (eqS a1 QB) (.rows [[xs QA], [xs QB]] (Qg [QA, QB]) (YD [QA, QB] a1 fun r21 => (Z8 (zi 1) (Qh.mk (Qb.mk h0.x.Line h0.x.Label (w64 ((zi 7) + r21)) h0.x.Op h0.x.Text h0.x.Args)) fun r22 => (Ze r1 r22.1 r22.2 fun r23 => (rt Qu (r23.1, r23.2)))))) (.as (eqS a1 Jx) (.rows [[.fn (.func 131) [] []], [.fn (.func 129) [] []]] (J8 [131, 129]) (Ze r1 (Qh.mk (Qb.mk h0.x.Line h0.x.Label (zi 9) h0.x.Op h0.x.Text h0.x.Args)) [131, 129] fun r24 => (rt Qu (r24.1, r24.2)))) (rt Qu (false, h0)))))))))))))))
theorem JK.ok {a1 : ByteArray} {a2 : ByteArray} {h0 : Qh} {r : (Bool × Qh)} (h : JK a1 a2 h0 = some r) : ww 76 [.ptr 0 0, xs a1, xs a2] [(0, .box [0, 0, 0, 0, 0, 5] [xi h0.x.Line, xs h0.x.Label, xi h0.x.Kind, xi h0.x.Op, xs h0.x.Text, .arr 1]), (1, .arr true 5 (Qj h0.x.Args))] = some (Qu r) := by
 refine fnP (Qbw a1 a2 h0) ?_ h
 exact fun r1 h => ⟨WJ.ok h, fun r2 h => ⟨XQ.ok h, ⟨rfl, fun q0 => fun r3 h => ⟨J6.ok h, rfl⟩, fun q0 => fun r4 h => ⟨X0.ok h, fun r5 h => ⟨UN.ok h, ⟨rfl, fun q1 => ⟨rfl, fun r6 h => ⟨Wa.ok h, fun r7 h => ⟨U5.ok h, rfl⟩⟩⟩, fun q1 => ⟨rfl, fun q2 => ⟨q2, ⟨(QS [QF, QG, QH]), fun r8 h => ⟨UN.ok h, ⟨(Qo _), ⟨rfl, fun q3 => ⟨q3, ⟨(Qo _), Qi 2 (q3) (⟨rfl, fun q4 => Qi 4 (q4) (⟨(Qo _), ⟨q4, fun r9 h => ⟨Wa.ok h, ⟨q4, fun r10 h => ⟨U5.ok h, ⟨q4, rfl⟩⟩⟩⟩⟩⟩), fun q4 => noN_ok 7 (q4) (rfl)⟩)⟩⟩, fun q3 => noN_ok 3 (q3) (noN_ok 8 (rfl) (rfl))⟩⟩⟩⟩⟩, fun q2 => ⟨rfl, fun q3 => ⟨q3, ⟨(QS [QF, QG, QH]), fun r11 h => ⟨UN.ok h, ⟨(Qo _), ⟨rfl, fun q4 => ⟨q4, ⟨(Qo _), Qi 2 (q4) (⟨rfl, fun q5 => Qi 4 (q5) (⟨(Qo _), ⟨q5, fun r12 h => ⟨Wa.ok h, ⟨q5, fun r13 h => ⟨U5.ok h, ⟨q5, rfl⟩⟩⟩⟩⟩⟩), fun q5 => noN_ok 7 (q5) (rfl)⟩)⟩⟩, fun q4 => noN_ok 3 (q4) (noN_ok 8 (rfl) (rfl))⟩⟩⟩⟩⟩, fun q3 => ⟨rfl, fun q4 => ⟨(QS [QF, QG, QH]), fun r14 h => ⟨UN.ok h, ⟨(Qo _), ⟨rfl, fun q5 => ⟨q5, ⟨(Qo _), Qi 2 (q5) (⟨rfl, fun q6 => Qi 4 (q6) (⟨(Qo _), ⟨q6, fun r15 h => ⟨Wa.ok h, ⟨q6, fun r16 h => ⟨U5.ok h, ⟨q6, rfl⟩⟩⟩⟩⟩⟩), fun q6 => noN_ok 7 (q6) (rfl)⟩)⟩⟩, fun q5 => noN_ok 3 (q5) (noN_ok 8 (rfl) (rfl))⟩⟩⟩⟩, fun q4 => ⟨rfl, fun q5 => fun r17 h => ⟨Vs.ok h, rfl⟩, fun q5 => ⟨rfl, fun q6 => ⟨q6, ⟨(QS [QA, QB]), fun r18 h => ⟨UN.ok h, fun r19 h => ⟨Wa.ok h, fun r20 h => ⟨U5.ok h, rfl⟩⟩⟩⟩⟩, fun q6 => ⟨rfl, fun q7 => ⟨(QS [QA, QB]), fun r21 h => ⟨UN.ok h, fun r22 h => ⟨Wa.ok h, fun r23 h => ⟨U5.ok h, rfl⟩⟩⟩⟩, fun q7 => ⟨rfl, fun q8 => ⟨(Y9 [131, 129]), fun r24 h => ⟨U5.ok h, rfl⟩⟩, fun q8 => rfl⟩⟩⟩⟩⟩⟩⟩⟩⟩⟩⟩⟩⟩
noncomputable abbrev Y0 {ρ R : Type} (a1 : ByteArray) (a2 : ByteArray) (h0 : Qh) (k : (Bool × Qh) → Tr ρ R) : Tr ρ R := .call (ww 76 [.ptr 0 0, xs a1, xs a2] [(0, .box [0, 0, 0, 0, 0, 5] [xi h0.x.Line, xs h0.x.Label, xi h0.x.Kind, xi h0.x.Op, xs h0.x.Text, .arr 1]), (1, .arr true 5 (Qj h0.x.Args))]) (JK a1 a2 h0) Qu k
def Qc2 (r : (List Qc)) : AV × Heap := (.sl (Qj r), [])
abbrev QlC := (List Qc) → Option (List Qc)
noncomputable def W7 (a0 : (List Qc)) : Option (List Qc) := cloneT 64 a0
noncomputable abbrev Ps {ρ R : Type} (a0 : (List Qc)) (k : (List Qc) → Tr ρ R) : Tr ρ R := .call (ww 77 [.sl (Qj a0)] []) (W7 a0) Qc2 k
theorem W7.ok {a0 : (List Qc)} {r : (List Qc)} (h : W7 a0 = some r) : ww 77 [.sl (Qj a0)] [] = some (Qc2 r) := (ES rfl _ _).trans (Qqt WV (fun _ => rfl) (fun _ => rfl) (JE _) (JE _) h)
def Qz (r : (Qb × Bool)) : AV × Heap := (.tup [.agg (WN r.1), xo r.2], [])
abbrev QkQ := ByteArray → Option (Qb × Bool)
def QdE (C0 : Qft) (C1 : Qi4) (C2 : Qb1) (C3 : Qdt) (C4 : SA) (C5 : Qeb) (C6 : Ep) (C7 : QlC) (a0 : ByteArray) : Option (Qb × Bool) := ((C0 a0 (10 : Int)).bind fun r1 => (bif (decide (r1 ≥ 0)) then (some ((Qb.mk (0 : Int) s_ (0 : Int) (0 : Int) s_ ([] : List Qc)), false)) else ((C1 a0).bind fun r2 => ((C2 r2).bind fun r3 => (bif (decide (r3 < ((r2.size : Nat) : Int))) then (bif (decide (0 ≤ r3 ∧ r3 < ((r2.size : Nat) : Int))) then (bif (((r2.data.getD (Int.toNat r3) 0).toNat : Int) == 58) then (bif (decide (0 ≤ (0 : Int) ∧ (0 : Int) ≤ r3 ∧ r3 ≤ ((r2.size : Nat) : Int))) then ((C3 (r2.extract (Int.toNat 0) (Int.toNat r3))).bind fun r4 => (bif (!r4) then (some ((Qb.mk (0 : Int) s_ (0 : Int) (0 : Int) s_ ([] : List Qc)), false)) else (bif (decide (0 ≤ (w64 (r3 + 1)) ∧ (w64 (r3 + 1)) ≤ ((r2.size : Nat) : Int) ∧ ((r2.size : Nat) : Int) ≤ ((r2.size : Nat) : Int))) then ((C4 (r2.extract (Int.toNat (w64 (r3 + 1))) (Int.toNat ((r2.size : Nat) : Int))) X1).bind fun r5 => (bif (eqS r5 s_) then (bif (eqS (r2.extract (Int.toNat 0) (Int.toNat r3)) s_) then (some ((Qb.mk (0 : Int) s_ (0 : Int) (0 : Int) s_ ([] : List Qc)), true)) else (some ((Qb.mk (1 : Int) (r2.extract (Int.toNat 0) (Int.toNat r3)) (0 : Int) (0 : Int) s_ ([] : List Qc)), true))) else ((C5 r5).bind fun r6 => (bif (decide (0 ≤ (0 : Int) ∧ (0 : Int) ≤ r6 ∧ r6 ≤ ((r5.size : Nat) : Int))) then (bif (decide (0 ≤ r6 ∧ r6 ≤ ((r5.size : Nat) : Int) ∧ ((r5.size : Nat) : Int) ≤ ((r5.size : Nat) : Int))) then ((C4 (r5.extract (Int.toNat r6) (Int.toNat ((r5.size : Nat) : Int))) X1).bind fun r7 => ((C6 (r5.extract (Int.toNat 0) (Int.toNat r6)) r7 (Qh.mk (Qb.mk (1 : Int) (r2.extract (Int.toNat 0) (Int.toNat r3)) (0 : Int) (0 : Int) s_ ([] : List Qc)))).bind fun r8 => (bif (!r8.1) then (some ((Qb.mk (0 : Int) s_ (0 : Int) (0 : Int) s_ ([] : List Qc)), false)) else ((C7 r8.2.x.Args).bind fun r9 => (some ((Qb.mk r8.2.x.Line r8.2.x.Label r8.2.x.Kind r8.2.x.Op r8.2.x.Text r9), true)))))) else none) else none)))) else none))) else none) else (bif (eqS r2 s_) then (some ((Qb.mk (0 : Int) s_ (0 : Int) (0 : Int) s_ ([] : List Qc)), true)) else ((C5 r2).bind fun r10 => (bif (decide (0 ≤ (0 : Int) ∧ (0 : Int) ≤ r10 ∧ r10 ≤ ((r2.size : Nat) : Int))) then (bif (decide (0 ≤ r10 ∧ r10 ≤ ((r2.size : Nat) : Int) ∧ ((r2.size : Nat) : Int) ≤ ((r2.size : Nat) : Int))) then ((C4 (r2.extract (Int.toNat r10) (Int.toNat ((r2.size : Nat) : Int))) X1).bind fun r11 => ((C6 (r2.extract (Int.toNat 0) (Int.toNat r10)) r11 (Qh.mk (Qb.mk (1 : Int) s_ (0 : Int) (0 : Int) s_ ([] : List Qc)))).bind fun r12 => (bif (!r12.1) then (some ((Qb.mk (0 : Int) s_ (0 : Int) (0 : Int) s_ ([] : List Qc)), false)) else ((C7 r12.2.x.Args).bind fun r13 => (some ((Qb.mk r12.2.x.Line r12.2.x.Label r12.2.x.Kind r12.2.x.Op r12.2.x.Text r13), true)))))) else none) else none)))) else none) else (bif (eqS r2 s_) then (some ((Qb.mk (0 : Int) s_ (0 : Int) (0 : Int) s_ ([] : List Qc)), true)) else ((C5 r2).bind fun r14 => (bif (decide (0 ≤ (0 : Int) ∧ (0 : Int) ≤ r14 ∧ r14 ≤ ((r2.size : Nat) : Int))) then (bif (decide (0 ≤ r14 ∧ r14 ≤ ((r2.size : Nat) : Int) ∧ ((r2.size : Nat) : Int) ≤ ((r2.size : Nat) : Int))) then ((C4 (r2.extract (Int.toNat r14) (Int.toNat ((r2.size : Nat) : Int))) X1).bind fun r15 => ((C6 (r2.extract (Int.toNat 0) (Int.toNat r14)) r15 (Qh.mk (Qb.mk (1 : Int) s_ (0 : Int) (0 : Int) s_ ([] : List Qc)))).bind fun r16 => (bif (!r16.1) then (some ((Qb.mk (0 : Int) s_ (0 : Int) (0 : Int) s_ ([] : List Qc)), false)) else ((C7 r16.2.x.Args).bind fun r17 => (some ((Qb.mk r16.2.x.Line r16.2.x.Label r16.2.x.Kind r16.2.x.Op r16.2.x.Text r17), true)))))) else none) else none))))))))
noncomputable def Ye : QkQ := QdE WR Yt WO Xi Uy VC JK W7
theorem Ye.eq (a0 : ByteArray) : Ye a0 = QdE WR Yt WO Xi Uy VC JK W7 a0 := rfl
noncomputable def QpI (a0 : ByteArray) : Tr (Qb × Bool) AH := (QeF a0 (zi 10) fun r1 => (.as (decide (r1 ≥ 0)) (rt Qz ((Qb.mk i0 s_ i0 i0 s_ ([] : List Qc)), false)) (Qn1 a0 fun r2 => (Qfp r2 fun r3 => (let u83 := (decide (r3 < (zz r2))); .as u83 (yesN 2 u83 (.as (in1 r3 (zz r2)) (yesN 2 u83 (.as ((gb r2 r3) == 58) (let u82 := (in2 i0 r3 (zz r2)); .as u82 (Qhk (cu r2 i0 r3) fun r4 => (.as (!r4) (rt Qz ((Qb.mk i0 s_ i0 i0 s_ ([] : List Qc)), false)) (.yes u82 (.as (in2 (w64 (r3 + 1)) (zz r2) (zz r2)) (XP (cu r2 (w64 (r3 + 1)) (zz r2)) X1 fun r5 => (.as (eqS r5 s_) (.as (eqS (cu r2 i0 r3) s_) (rt Qz ((Qb.mk i0 s_ i0 i0 s_ ([] : List Qc)), true)) (rt Qz ((Qb.mk (zi 1) (cu r2 i0 r3) i0 i0 s_ ([] : List Qc)), true))) (Pg r5 fun r6 => (.as (in2 i0 r6 (zz r5)) (.as (in2 r6 (zz r5) (zz r5)) (XP (cu r5 r6 (zz r5)) X1 fun r7 => (Y0 (cu r5 i0 r6) r7 (Qh.mk (Qb.mk (zi 1) (cu r2 i0 r3) i0 i0 s_ ([] : List Qc))) fun r8 => (.as (!r8.1) (rt Qz ((Qb.mk i0 s_ i0 i0 s_ ([] : List Qc)), false)) (Ps r8.2.x.Args fun r9 => (rt Qz ((Qb.mk r8.2.x.Line r8.2.x.Label r8.2.x.Kind r8.2.x.Op r8.2.x.Text r9), true)))))) .fail) .fail)))) .fail)))) .fail) (.as (eqS r2 s_) (.yes true (rt Qz ((Qb.mk i0 s_ i0 i0 s_ ([] : List Qc)), true))) (Pg r2 fun r10 => (.as (in2 i0 r10 (zz r2)) (.as (in2 r10 (zz r2) (zz r2)) (XP (cu r2 r10 (zz r2)) X1 fun r11 => (Y0 (cu r2 i0 r10) r11 (Qh.mk (Qb.mk (zi 1) s_ i0 i0 s_ ([] : List Qc))) fun r12 => (.as (!r12.1) (rt Qz ((Qb.mk i0 s_ i0 i0 s_ ([] : List Qc)), false)) (Ps r12.2.x.Args fun r13 => (rt Qz ((Qb.mk r12.2.x.Line r12.2.x.Label r12.2.x.Kind r12.2.x.Op r12.2.x.Text r13), true)))))) .fail) .fail))))) .fail)) (noN 4 u83 (.no false (.as (eqS r2 s_) (.yes true (rt Qz ((Qb.mk i0 s_ i0 i0 s_ ([] : List Qc)), true))) (Pg r2 fun r14 => (.as (in2 i0 r14 (zz r2)) (.as (in2 r14 (zz r2) (zz r2)) (XP (cu r2 r14 (zz r2)) X1 fun r15 => (Y0 (cu r2 i0 r14) r15 (Qh.mk (Qb.mk (zi 1) s_ i0 i0 s_ ([] : List Qc))) fun r16 => (.as (!r16.1) (rt Qz ((Qb.mk i0 s_ i0 i0 s_ ([] : List Qc)), false)) (Ps r16.2.x.Args fun r17 => (rt Qz ((Qb.mk r16.2.x.Line r16.2.x.Label r16.2.x.Kind r16.2.x.Op r16.2.x.Text r17), true)))))) .fail) .fail))))))))))
theorem Ye.ok {a0 : ByteArray} {r : (Qb × Bool)} (h : Ye a0 = some r) : ww 27 [xs a0] [] = some (Qz r) := by
 refine fnP (QpI a0) ?_ h
 exact fun r1 h => ⟨WR.ok h, ⟨rfl, fun q0 => rfl, fun q0 => fun r2 h => ⟨Yt.ok h, fun r3 h => ⟨WO.ok h, ⟨rfl, fun q1 => Qi 2 (q1) (⟨rfl, fun q2 => Qi 2 (q1) (⟨rfl, fun q3 => ⟨rfl, fun q4 => fun r4 h => ⟨Xi.ok h, ⟨rfl, fun q5 => rfl, fun q5 => ⟨q4, ⟨rfl, fun q6 => fun r5 h => ⟨Uy.ok h, ⟨rfl, fun q7 => ⟨rfl, fun q8 => rfl, fun q8 => rfl⟩, fun q7 => fun r6 h => ⟨VC.ok h, ⟨rfl, fun q8 => ⟨rfl, fun q9 => fun r7 h => ⟨Uy.ok h, fun r8 h => ⟨JK.ok h, ⟨rfl, fun q10 => rfl, fun q10 => fun r9 h => ⟨W7.ok h, rfl⟩⟩⟩⟩, fun q9 => trivial⟩, fun q8 => trivial⟩⟩⟩⟩, fun q6 => trivial⟩⟩⟩⟩, fun q4 => trivial⟩, fun q3 => ⟨rfl, fun q4 => ⟨rfl, rfl⟩, fun q4 => fun r10 h => ⟨VC.ok h, ⟨rfl, fun q5 => ⟨rfl, fun q6 => fun r11 h => ⟨Uy.ok h, fun r12 h => ⟨JK.ok h, ⟨rfl, fun q7 => rfl, fun q7 => fun r13 h => ⟨W7.ok h, rfl⟩⟩⟩⟩, fun q6 => trivial⟩, fun q5 => trivial⟩⟩⟩⟩), fun q2 => trivial⟩), fun q1 => noN_ok 4 (q1) (⟨rfl, ⟨rfl, fun q2 => ⟨rfl, rfl⟩, fun q2 => fun r14 h => ⟨VC.ok h, ⟨rfl, fun q3 => ⟨rfl, fun q4 => fun r15 h => ⟨Uy.ok h, fun r16 h => ⟨JK.ok h, ⟨rfl, fun q5 => rfl, fun q5 => fun r17 h => ⟨W7.ok h, rfl⟩⟩⟩⟩, fun q4 => trivial⟩, fun q3 => trivial⟩⟩⟩⟩)⟩⟩⟩⟩⟩
noncomputable abbrev Qjd {ρ R : Type} (a0 : ByteArray) (k : (Qb × Bool) → Tr ρ R) : Tr ρ R := .call (ww 27 [xs a0] []) (Ye a0) Qz k
abbrev Xu := (List QC) → Int → Option Int
abbrev Qh8 (c : Xu) : Prop := ∀ (a0 : (List QC)) (a1 : Int) (r : Int), c a0 a1 = some r → ww 105 [.sl (UW a0), xi a1] [] = some (Qm r)
noncomputable abbrev QkR {ρ R : Type} (c : Xu) (a0 : (List QC)) (a1 : Int) (k : Int → Tr ρ R) : Tr ρ R := .call (ww 105 [.sl (UW a0), xi a1] []) (c a0 a1) Qm k
structure U0 where
 x0 : (List QC)
 x1 : Int
 x5 : Int
 x6 : Int
def Qa9 (a : U0) : St := { n := 31, nx := 0, env := [(0, .sl (UW a.x0)), (1, xi a.x1), (5, xi a.x5), (6, xi a.x6)], heap := [] }
def FH (a : Int) : Ex × St := (.exit 0, { n := 31, nx := 0, env := [(5, xi a)], heap := [] })
abbrev Yu := U0 → Option Int
def YO (C0 : Xu) (a : U0) : Option (U0 ⊕ Int) := (bif (decide (a.x6 < (((a.x0.length) : Nat) : Int))) then (bif (decide (a.x5 ≤ 16)) then (bif (decide (0 ≤ a.x6)) then ((a.x0[(Int.toNat a.x6)]?).bind fun e1 => ((C0 e1.L (w64 (a.x1 + 1))).bind fun r2 => (some (.inl (U0.mk a.x0 a.x1 (w64 ((w64 (a.x5 + 1)) + r2)) (w64 (a.x6 + 1))))))) else none) else (some (.inr a.x5))) else (some (.inr a.x5)))
theorem QfP {C0 : Nat → Xu} {D0 : Xu} (H0 : Cv2 C0 D0) (a : U0) : Cv (fun k => YO (C0 k) a) (YO D0 a) := by
 unfold YO
 exact .cond (.cond (.cond (.bind (.const _) fun e1 => .bind (H0 _ _) fun r2 => by exact .const _) cst) cst) cst
noncomputable abbrev QmM {ρ R : Type} (l : Yu) (a : U0) (k0 : Int → Tr ρ R) : Tr ρ R := .loop (loopAt pp 105 5) (Qa9 a) (l a) FH k0
noncomputable def QmN (C0 : Xu) (a : U0) : Tr (U0 ⊕ Int) XS := (.num ((UW a.x0).length) (a.x0.length) (let u84 := (decide (a.x6 < (((a.x0.length) : Nat) : Int))); .as u84 (yesN 2 u84 (.as (decide (a.x5 ≤ 16)) (.as (decide (0 ≤ a.x6)) (.row ((UW a.x0)[(Int.toNat a.x6)]?) (a.x0[(Int.toNat a.x6)]?) XN fun (e1 : QC) => (QkR C0 e1.L (w64 (a.x1 + 1)) fun r2 => (lf Qa9 (U0.mk a.x0 a.x1 (w64 ((w64 (a.x5 + 1)) + r2)) (w64 (a.x6 + 1)))))) .fail) (rx FH a.x5))) (noN 2 u84 (.no false (rx FH a.x5)))))
noncomputable def U6.s (k : Nat) (C0 : Xu) : Yu := iter (YO C0) k
theorem QlD (k : Nat) {C0 : Xu} (i_w3_size : Qh8 C0) {a : U0} {r : Int} (h : U6.s k C0 a = some r) : lw 0 105 (loopAt pp 105 5) (Qa9 a) = some (FH r) := by
 refine lpP (itP h) (QmN C0) fun a => ?_
 exact ⟨(Gn _), ⟨rfl, fun q0 => Qi 2 (q0) (⟨rfl, fun q1 => ⟨rfl, fun q2 => fun e1 h => ⟨Qau h, fun r2 h => ⟨i_w3_size _ _ _ h, rfl⟩⟩, fun q2 => trivial⟩, fun q1 => rfl⟩), fun q0 => noN_ok 2 (q0) (⟨rfl, rfl⟩)⟩⟩
theorem U6.m {j k : Nat} (hj : j ≤ k) (C0 : Xu) (D0 : Xu) (H0 : Le2 C0 D0) (a : U0) : Le (U6.s j C0 a) (U6.s k D0 a) := Le.iter (fun a => (QfP (tw2 H0) a).1 0) hj a
noncomputable def U6.w (C0 : Xu) : Yu := loopW (YO C0)
theorem U6.cv (C0 : Nat → Xu) (D0 : Xu) (H0 : Cv2 C0 D0) (a : U0) : Cv (fun k => U6.s k (C0 k) a) (U6.w D0 a) := Cv.iter (fun a => QfP H0 a) a
def GF (L0 : Yu) (a0 : (List QC)) (a1 : Int) : Option Int := (bif (decide (a1 > 7)) then (some (1000 : Int)) else ((L0 (U0.mk a0 a1 (0 : Int) (0 : Int))).bind (fun (o1 : Int) => (some o1))))
theorem QkS {L0 : Nat → Yu} {M0 : Yu} (N0 : Cv1 L0 M0) (a0 : (List QC)) (a1 : Int) : Cv (fun k => GF (L0 k) a0 a1) (GF M0 a0 a1) := by
 unfold GF
 exact .cond cst (.bind (N0 _) (fun o1 => by exact .const _))
noncomputable def QqA (L0 : Yu) (a0 : (List QC)) (a1 : Int) : Tr Int AH := (.as (decide (a1 > 7)) (rt Qm (zi 1000)) (QmM L0 (U0.mk a0 a1 i0 i0) (fun o1 => (rt Qm o1))))
noncomputable def JU.s : Nat → (List QC) → Int → Option Int
 | 0, _, _ => none
 | k + 1, a0, a1 => GF (U6.s k (fun a0 a1 => JU.s k a0 a1)) a0 a1
termination_by structural k => k
theorem Qhx : ∀ (k : Nat), (Qh8 (JU.s k))
 | 0 => fun _ _ _ h => (nomatch h)
 | k + 1 => by
  have i_w3_size : Qh8 (JU.s k) := Qhx k
  exact fun a0 a1 r h => by
    refine fnP (QqA (U6.s k (JU.s k)) a0 a1) ?_ h
    exact ⟨rfl, fun q0 => rfl, fun q0 => fun o1 h => ⟨QlD k i_w3_size h, rfl⟩⟩
theorem QfQ : ∀ (k : Nat), (∀ (a0 : (List QC)) (a1 : Int), Le (JU.s k a0 a1) (JU.s (k + 1) a0 a1))
 | 0 => fun _ _ _ h => (nomatch h)
 | k + 1 => by
  have i_w3_size : ∀ (a0 : (List QC)) (a1 : Int), Le (JU.s k a0 a1) (JU.s (k + 1) a0 a1) := QfQ k
  exact fun a0 a1 => (QkS (tw1 (U6.m (Nat.le_succ k) (JU.s k) (JU.s (k + 1)) i_w3_size)) a0 a1).1 0
noncomputable def JU (a0 : (List QC)) (a1 : Int) : Option Int := lim fun k => JU.s k a0 a1
theorem JU.cv (a0 : (List QC)) (a1 : Int) : Cv (fun k => JU.s k a0 a1) (JU a0 a1) := .lim fun k => (QfQ k) a0 a1
theorem JU.ok {a0 : (List QC)} {a1 : Int} {r : Int} (h : JU a0 a1 = some r) : ww 105 [.sl (UW a0), xi a1] [] = some (Qm r) := let ⟨k, e⟩ := ((JU.cv a0 a1).2 r).1 h; (Qhx k) a0 a1 _ e
noncomputable def U6 : Yu := U6.w JU
theorem U6.eq (a : U0) : U6 a = (YO JU a).bind (Sum.elim U6 some) := Jk _ _
theorem JU.eq (a0 : (List QC)) (a1 : Int) : JU a0 a1 = GF U6 a0 a1 := Cv.uniq (JU.cv a0 a1).shift (QkS (U6.cv (fun k => JU.s k) JU JU.cv) a0 a1)
noncomputable abbrev QqB {ρ R : Type} (a0 : (List QC)) (a1 : Int) (k : Int → Tr ρ R) : Tr ρ R := QkR JU a0 a1 k
abbrev QoF := (List QC) → Option Bool
def Qh9 (C0 : Xu) (a0 : (List QC)) : Option Bool := ((C0 a0 (0 : Int)).bind fun r1 => (some (decide (r1 ≤ 16))))
noncomputable def Eq : QoF := Qh9 JU
theorem Eq.eq (a0 : (List QC)) : Eq a0 = Qh9 JU a0 := rfl
noncomputable def QrJ (a0 : (List QC)) : Tr Bool AH := (QqB a0 i0 fun r1 => (rt Ql (decide (r1 ≤ 16))))
theorem Eq.ok {a0 : (List QC)} {r : Bool} (h : Eq a0 = some r) : ww 61 [.sl (UW a0)] [] = some (Ql r) := by
 refine fnP (QrJ a0) ?_ h
 exact fun r1 h => ⟨JU.ok h, rfl⟩
noncomputable abbrev QrK {ρ R : Type} (a0 : (List QC)) (k : Bool → Tr ρ R) : Tr ρ R := .call (ww 61 [.sl (UW a0)] []) (Eq a0) Ql k
abbrev QoG := (List QJ) → Option Bool
structure Ws where
 x0 : (List QJ)
 x3 : Int
def Qch (a : Ws) : St := { n := 26, nx := 0, env := [(0, .sl (XO a.x0)), (3, xi a.x3)], heap := [] }
def QfR (a : Bool) : Ex × St := (.ret, { n := 26, nx := 0, env := [(2, xo a)], heap := [] })
def QfS (a : Unit) : Ex × St := (.exit 0, { n := 26, nx := 0, env := [], heap := [] })
def PP (a : (Bool ⊕ Unit)) : Ex × St := Sum.elim QfR QfS a
abbrev Qje := Ws → Option (Bool ⊕ Unit)
def PQ (C0 : QoF) (a : Ws) : Option (Ws ⊕ (Bool ⊕ Unit)) := (bif (decide (a.x3 < (((a.x0.length) : Nat) : Int))) then (bif (decide (0 ≤ a.x3)) then ((a.x0[(Int.toNat a.x3)]?).bind fun e1 => ((C0 e1.E).bind fun r2 => (bif (!r2) then (some (.inr (.inl false))) else ((a.x0[(Int.toNat a.x3)]?).bind fun e3 => (bif (decide ((((e3.Ns.length) : Nat) : Int) > 60)) then (some (.inr (.inl false))) else (some (.inl (Ws.mk a.x0 (w64 (a.x3 + 1)))))))))) else none) else (some (.inr (.inr ()))))
noncomputable def WY : Qje := loopW (PQ Eq)
theorem WY.eq (a : Ws) : WY a = (PQ Eq a).bind (Sum.elim WY some) := Jk _ _
noncomputable abbrev Qoa {ρ R : Type} (a : Ws) (k0 : Bool → Tr ρ R) (k1 : Unit → Tr ρ R) : Tr ρ R := .loop2 (loopAt pp 24 2) (Qch a) (WY a) QfR QfS k0 k1
noncomputable def Qob (a : Ws) : Tr (Ws ⊕ (Bool ⊕ Unit)) XS := (.num ((XO a.x0).length) (a.x0.length) (.as (decide (a.x3 < (((a.x0.length) : Nat) : Int))) (let u85 := (decide (0 ≤ a.x3)); .as u85 (.row ((XO a.x0)[(Int.toNat a.x3)]?) (a.x0[(Int.toNat a.x3)]?) Wd fun (e1 : QJ) => (QrK e1.E fun r2 => (.as (!r2) (yesN 7 (!r2) (.yes true (rx PP (.inl false)))) (noN 2 (!r2) (.yes u85 (.row ((XO a.x0)[(Int.toNat a.x3)]?) (a.x0[(Int.toNat a.x3)]?) Wd fun (e3 : QJ) => (noN 3 (!r2) (.num ((Jc e3.Ns).length) (e3.Ns.length) (noN 2 (!r2) (.as (decide ((((e3.Ns.length) : Nat) : Int) > 60)) (rx PP (.inl false)) (lf Qch (Ws.mk a.x0 (w64 (a.x3 + 1)))))))))))))) .fail) (rx PP (.inr ()))))
theorem WY.ok {a : Ws} {r : (Bool ⊕ Unit)} (h : WY a = some r) : lw 0 24 (loopAt pp 24 2) (Qch a) = some (PP r) := by
 refine lpP h Qob fun a => ?_
 exact ⟨(Qfj _), ⟨rfl, fun q0 => ⟨rfl, fun q1 => fun e1 h => ⟨Qaw h, fun r2 h => ⟨Eq.ok h, ⟨rfl, fun q2 => Qi 7 (q2) (⟨rfl, rfl⟩), fun q2 => noN_ok 2 (q2) (⟨q1, fun e3 h => ⟨Qaw h, noN_ok 3 (q2) (⟨(Vp _), noN_ok 2 (q2) (⟨rfl, fun q3 => rfl, fun q3 => rfl⟩)⟩)⟩⟩)⟩⟩⟩, fun q1 => trivial⟩, fun q0 => rfl⟩⟩
def Qia (L0 : Qje) (a0 : (List QJ)) : Option Bool := ((L0 (Ws.mk a0 (0 : Int))).bind fun x => Sum.elim (fun (o1 : Bool) => (some o1)) (fun (o2 : Unit) => (some true)) x)
noncomputable def Er : QoG := Qia WY
theorem Er.eq (a0 : (List QJ)) : Er a0 = Qia WY a0 := rfl
noncomputable def QrL (a0 : (List QJ)) : Tr Bool AH := (Qoa (Ws.mk a0 i0) (fun o1 => (rt Ql o1)) (fun o2 => (rt Ql true)))
theorem Er.ok {a0 : (List QJ)} {r : Bool} (h : Er a0 = some r) : ww 24 [.sl (XO a0)] [] = some (Ql r) := by
 refine fnP (QrL a0) ?_ h
 exact ⟨fun o1 h => ⟨WY.ok (r := (.inl _)) h, rfl⟩, fun o2 h => ⟨WY.ok (r := (.inr _)) h, rfl⟩⟩
noncomputable abbrev QrM {ρ R : Type} (a0 : (List QJ)) (k : Bool → Tr ρ R) : Tr ρ R := .call (ww 24 [.sl (XO a0)] []) (Er a0) Ql k
def QbH (r : (QP × Int × Bool)) : AV × Heap := (.tup [.agg (Qds r.1), xi r.2.1, xo r.2.2], [])
abbrev QdF := Int → ByteArray → Option (QP × Int × Bool)
structure QK where
 x0 : Int
 x1 : ByteArray
 x7 : Int
 x8 : Int
 x10 : Int
 x11 : Int
 h0 : QP
 h1_0 : ByteArray
 h1_1 : ByteArray
 h1_2 : ByteArray
structure QY where
 x5 : Int
 x6 : Bool
 h0 : QP
def Vl (a : QK) : St := { n := 56, nx := 2, env := [(0, xi a.x0), (1, xs a.x1), (4, .ptr 0 0), (7, xi a.x7), (8, xi a.x8), (9, .ptr 1 0), (10, xi a.x10), (11, xi a.x11)], heap := [(0, .box [] (Qds a.h0)), (1, .box [] [xs a.h1_0, xs a.h1_1, xs a.h1_2])] }
def Qek (a : QY) : Ex × St := (.ret, { n := 56, nx := 1, env := [(4, .ptr 0 0), (5, xi a.x5), (6, xo a.x6)], heap := [(0, .box [] (Qds a.h0))] })
def Qel (a : QP) : Ex × St := (.exit 0, { n := 56, nx := 1, env := [(4, .ptr 0 0)], heap := [(0, .box [] (Qds a))] })
def VD (a : (QY ⊕ QP)) : Ex × St := Sum.elim Qek Qel a
abbrev Qhy := QK → Option (QY ⊕ QP)
def GG (a : QK) : Option (QK ⊕ (QY ⊕ QP)) := (bif (decide (a.x11 < 1212)) then (bif (decide (0 ≤ a.x11 ∧ a.x11 < ((Qq.size : Nat) : Int))) then (bif (((Qq.data.getD (Int.toNat a.x11) 0).toNat : Int) != 58) then (bif (((Qq.data.getD (Int.toNat a.x11) 0).toNat : Int) != 124) then (some (.inl (QK.mk a.x0 a.x1 a.x7 a.x8 a.x10 (w64 (a.x11 + 1)) a.h0 a.h1_0 a.h1_1 a.h1_2))) else (bif (decide (0 ≤ a.x8 ∧ a.x8 ≤ a.x11 ∧ a.x11 ≤ ((Qq.size : Nat) : Int))) then (bif (decide (a.x10 = 0)) then (bif (((Qq.data.getD (Int.toNat a.x11) 0).toNat : Int) == 124) then (bif (a.x7 == a.x0) then (some (.inr (.inl (QY.mk a.x7 true (QP.mk (Qq.extract (Int.toNat a.x8) (Int.toNat a.x11)) a.h1_1 a.h1_2))))) else (bif (eqS (Qq.extract (Int.toNat a.x8) (Int.toNat a.x11)) a.x1) then (some (.inr (.inl (QY.mk a.x7 true (QP.mk (Qq.extract (Int.toNat a.x8) (Int.toNat a.x11)) a.h1_1 a.h1_2))))) else (some (.inl (QK.mk a.x0 a.x1 (w64 (a.x7 + 1)) (w64 (a.x11 + 1)) (0 : Int) (w64 (a.x11 + 1)) a.h0 (Qq.extract (Int.toNat a.x8) (Int.toNat a.x11)) a.h1_1 a.h1_2))))) else (some (.inl (QK.mk a.x0 a.x1 a.x7 (w64 (a.x11 + 1)) (w64 (a.x10 + 1)) (w64 (a.x11 + 1)) a.h0 (Qq.extract (Int.toNat a.x8) (Int.toNat a.x11)) a.h1_1 a.h1_2)))) else (bif (decide (a.x10 = 1)) then (bif (((Qq.data.getD (Int.toNat a.x11) 0).toNat : Int) == 124) then (bif (a.x7 == a.x0) then (some (.inr (.inl (QY.mk a.x7 true (QP.mk a.h1_0 (Qq.extract (Int.toNat a.x8) (Int.toNat a.x11)) a.h1_2))))) else (bif (eqS a.h1_0 a.x1) then (some (.inr (.inl (QY.mk a.x7 true (QP.mk a.h1_0 (Qq.extract (Int.toNat a.x8) (Int.toNat a.x11)) a.h1_2))))) else (some (.inl (QK.mk a.x0 a.x1 (w64 (a.x7 + 1)) (w64 (a.x11 + 1)) (0 : Int) (w64 (a.x11 + 1)) a.h0 a.h1_0 (Qq.extract (Int.toNat a.x8) (Int.toNat a.x11)) a.h1_2))))) else (some (.inl (QK.mk a.x0 a.x1 a.x7 (w64 (a.x11 + 1)) (w64 (a.x10 + 1)) (w64 (a.x11 + 1)) a.h0 a.h1_0 (Qq.extract (Int.toNat a.x8) (Int.toNat a.x11)) a.h1_2)))) else (bif (decide (a.x10 = 2)) then (bif (((Qq.data.getD (Int.toNat a.x11) 0).toNat : Int) == 124) then (bif (a.x7 == a.x0) then (some (.inr (.inl (QY.mk a.x7 true (QP.mk a.h1_0 a.h1_1 (Qq.extract (Int.toNat a.x8) (Int.toNat a.x11))))))) else (bif (eqS a.h1_0 a.x1) then (some (.inr (.inl (QY.mk a.x7 true (QP.mk a.h1_0 a.h1_1 (Qq.extract (Int.toNat a.x8) (Int.toNat a.x11))))))) else (some (.inl (QK.mk a.x0 a.x1 (w64 (a.x7 + 1)) (w64 (a.x11 + 1)) (0 : Int) (w64 (a.x11 + 1)) a.h0 a.h1_0 a.h1_1 (Qq.extract (Int.toNat a.x8) (Int.toNat a.x11))))))) else (some (.inl (QK.mk a.x0 a.x1 a.x7 (w64 (a.x11 + 1)) (w64 (a.x10 + 1)) (w64 (a.x11 + 1)) a.h0 a.h1_0 a.h1_1 (Qq.extract (Int.toNat a.x8) (Int.toNat a.x11)))))) else none))) else none)) else (bif (decide (0 ≤ a.x8 ∧ a.x8 ≤ a.x11 ∧ a.x11 ≤ ((Qq.size : Nat) : Int))) then (bif (decide (a.x10 = 0)) then (bif (((Qq.data.getD (Int.toNat a.x11) 0).toNat : Int) == 124) then (bif (a.x7 == a.x0) then (some (.inr (.inl (QY.mk a.x7 true (QP.mk (Qq.extract (Int.toNat a.x8) (Int.toNat a.x11)) a.h1_1 a.h1_2))))) else (bif (eqS (Qq.extract (Int.toNat a.x8) (Int.toNat a.x11)) a.x1) then (some (.inr (.inl (QY.mk a.x7 true (QP.mk (Qq.extract (Int.toNat a.x8) (Int.toNat a.x11)) a.h1_1 a.h1_2))))) else (some (.inl (QK.mk a.x0 a.x1 (w64 (a.x7 + 1)) (w64 (a.x11 + 1)) (0 : Int) (w64 (a.x11 + 1)) a.h0 (Qq.extract (Int.toNat a.x8) (Int.toNat a.x11)) a.h1_1 a.h1_2))))) else (some (.inl (QK.mk a.x0 a.x1 a.x7 (w64 (a.x11 + 1)) (w64 (a.x10 + 1)) (w64 (a.x11 + 1)) a.h0 (Qq.extract (Int.toNat a.x8) (Int.toNat a.x11)) a.h1_1 a.h1_2)))) else (bif (decide (a.x10 = 1)) then (bif (((Qq.data.getD (Int.toNat a.x11) 0).toNat : Int) == 124) then (bif (a.x7 == a.x0) then (some (.inr (.inl (QY.mk a.x7 true (QP.mk a.h1_0 (Qq.extract (Int.toNat a.x8) (Int.toNat a.x11)) a.h1_2))))) else (bif (eqS a.h1_0 a.x1) then (some (.inr (.inl (QY.mk a.x7 true (QP.mk a.h1_0 (Qq.extract (Int.toNat a.x8) (Int.toNat a.x11)) a.h1_2))))) else (some (.inl (QK.mk a.x0 a.x1 (w64 (a.x7 + 1)) (w64 (a.x11 + 1)) (0 : Int) (w64 (a.x11 + 1)) a.h0 a.h1_0 (Qq.extract (Int.toNat a.x8) (Int.toNat a.x11)) a.h1_2))))) else (some (.inl (QK.mk a.x0 a.x1 a.x7 (w64 (a.x11 + 1)) (w64 (a.x10 + 1)) (w64 (a.x11 + 1)) a.h0 a.h1_0 (Qq.extract (Int.toNat a.x8) (Int.toNat a.x11)) a.h1_2)))) else (bif (decide (a.x10 = 2)) then (bif (((Qq.data.getD (Int.toNat a.x11) 0).toNat : Int) == 124) then (bif (a.x7 == a.x0) then (some (.inr (.inl (QY.mk a.x7 true (QP.mk a.h1_0 a.h1_1 (Qq.extract (Int.toNat a.x8) (Int.toNat a.x11))))))) else (bif (eqS a.h1_0 a.x1) then (some (.inr (.inl (QY.mk a.x7 true (QP.mk a.h1_0 a.h1_1 (Qq.extract (Int.toNat a.x8) (Int.toNat a.x11))))))) else (some (.inl (QK.mk a.x0 a.x1 (w64 (a.x7 + 1)) (w64 (a.x11 + 1)) (0 : Int) (w64 (a.x11 + 1)) a.h0 a.h1_0 a.h1_1 (Qq.extract (Int.toNat a.x8) (Int.toNat a.x11))))))) else (some (.inl (QK.mk a.x0 a.x1 a.x7 (w64 (a.x11 + 1)) (w64 (a.x10 + 1)) (w64 (a.x11 + 1)) a.h0 a.h1_0 a.h1_1 (Qq.extract (Int.toNat a.x8) (Int.toNat a.x11)))))) else none))) else none)) else none) else (some (.inr (.inr a.h0))))
noncomputable def U7 : Qhy := loopW (GG )
theorem U7.eq (a : QK) : U7 a = (GG a).bind (Sum.elim U7 some) := Jk _ _
noncomputable abbrev QmO {ρ R : Type} (a : QK) (k0 : QY → Tr ρ R) (k1 : QP → Tr ρ R) : Tr ρ R := .loop2 (loopAt pp 58 5) (Vl a) (U7 a) Qek Qel k0 k1
noncomputable def QmP (a : QK) : Tr (QK ⊕ (QY ⊕ QP)) XS := (.as (decide (a.x11 < 1212)) (let u93 := (in1 a.x11 (zz Qq)); .as u93 (let u92 := ((gb Qq a.x11) != 58); .as u92 (.yes u92 (.yes u93 (yesN 2 u92 (.as ((gb Qq a.x11) != 124) (lf Vl (QK.mk a.x0 a.x1 a.x7 a.x8 a.x10 (w64 (a.x11 + 1)) a.h0 a.h1_0 a.h1_1 a.h1_2)) (.as (in2 a.x8 a.x11 (zz Qq)) (.ask (decide (a.x10 = ((0 : Nat) : Int))) (decide (a.x10 = 0)) (.yes u93 (.as ((gb Qq a.x11) == 124) (let u86 := (a.x7 == a.x0); .as u86 (yesN 4 u86 (.yes true (.yes (decide (i0 = ((0 : Nat) : Int))) (.no (decide ((zi 1) = ((0 : Nat) : Int))) (.yes (decide ((zi 1) = ((1 : Nat) : Int))) (.no (decide ((zi 2) = ((0 : Nat) : Int))) (.no (decide ((zi 2) = ((1 : Nat) : Int))) (.yes (decide ((zi 2) = ((2 : Nat) : Int))) (rx VD (.inl (QY.mk a.x7 true (QP.mk (cu Qq a.x8 a.x11) a.h1_1 a.h1_2)))))))))))) (.yes (decide (i0 = ((0 : Nat) : Int))) (noN 4 u86 (.as (eqS (cu Qq a.x8 a.x11) a.x1) (.yes (decide (i0 = ((0 : Nat) : Int))) (.no (decide ((zi 1) = ((0 : Nat) : Int))) (.yes (decide ((zi 1) = ((1 : Nat) : Int))) (.no (decide ((zi 2) = ((0 : Nat) : Int))) (.no (decide ((zi 2) = ((1 : Nat) : Int))) (.yes (decide ((zi 2) = ((2 : Nat) : Int))) (rx VD (.inl (QY.mk a.x7 true (QP.mk (cu Qq a.x8 a.x11) a.h1_1 a.h1_2)))))))))) (lf Vl (QK.mk a.x0 a.x1 (w64 (a.x7 + 1)) (w64 (a.x11 + 1)) i0 (w64 (a.x11 + 1)) a.h0 (cu Qq a.x8 a.x11) a.h1_1 a.h1_2)))))) (lf Vl (QK.mk a.x0 a.x1 a.x7 (w64 (a.x11 + 1)) (w64 (a.x10 + 1)) (w64 (a.x11 + 1)) a.h0 (cu Qq a.x8 a.x11) a.h1_1 a.h1_2)))) (.ask (decide (a.x10 = ((1 : Nat) : Int))) (decide (a.x10 = 1)) (.yes u93 (.as ((gb Qq a.x11) == 124) (let u87 := (a.x7 == a.x0); .as u87 (yesN 4 u87 (.yes true (.yes (decide (i0 = ((0 : Nat) : Int))) (.no (decide ((zi 1) = ((0 : Nat) : Int))) (.yes (decide ((zi 1) = ((1 : Nat) : Int))) (.no (decide ((zi 2) = ((0 : Nat) : Int))) (.no (decide ((zi 2) = ((1 : Nat) : Int))) (.yes (decide ((zi 2) = ((2 : Nat) : Int))) (rx VD (.inl (QY.mk a.x7 true (QP.mk a.h1_0 (cu Qq a.x8 a.x11) a.h1_2)))))))))))) (.yes (decide (i0 = ((0 : Nat) : Int))) (noN 4 u87 (.as (eqS a.h1_0 a.x1) (.yes (decide (i0 = ((0 : Nat) : Int))) (.no (decide ((zi 1) = ((0 : Nat) : Int))) (.yes (decide ((zi 1) = ((1 : Nat) : Int))) (.no (decide ((zi 2) = ((0 : Nat) : Int))) (.no (decide ((zi 2) = ((1 : Nat) : Int))) (.yes (decide ((zi 2) = ((2 : Nat) : Int))) (rx VD (.inl (QY.mk a.x7 true (QP.mk a.h1_0 (cu Qq a.x8 a.x11) a.h1_2)))))))))) (lf Vl (QK.mk a.x0 a.x1 (w64 (a.x7 + 1)) (w64 (a.x11 + 1)) i0 (w64 (a.x11 + 1)) a.h0 a.h1_0 (cu Qq a.x8 a.x11) a.h1_2)))))) (lf Vl (QK.mk a.x0 a.x1 a.x7 (w64 (a.x11 + 1)) (w64 (a.x10 + 1)) (w64 (a.x11 + 1)) a.h0 a.h1_0 (cu Qq a.x8 a.x11) a.h1_2)))) (.ask (decide (a.x10 = ((2 : Nat) : Int))) (decide (a.x10 = 2)) (.yes u93 (.as ((gb Qq a.x11) == 124) (let u88 := (a.x7 == a.x0); .as u88 (yesN 4 u88 (.yes true (.yes (decide (i0 = ((0 : Nat) : Int))) (.no (decide ((zi 1) = ((0 : Nat) : Int))) (.yes (decide ((zi 1) = ((1 : Nat) : Int))) (.no (decide ((zi 2) = ((0 : Nat) : Int))) (.no (decide ((zi 2) = ((1 : Nat) : Int))) (.yes (decide ((zi 2) = ((2 : Nat) : Int))) (rx VD (.inl (QY.mk a.x7 true (QP.mk a.h1_0 a.h1_1 (cu Qq a.x8 a.x11))))))))))))) (.yes (decide (i0 = ((0 : Nat) : Int))) (noN 4 u88 (.as (eqS a.h1_0 a.x1) (.yes (decide (i0 = ((0 : Nat) : Int))) (.no (decide ((zi 1) = ((0 : Nat) : Int))) (.yes (decide ((zi 1) = ((1 : Nat) : Int))) (.no (decide ((zi 2) = ((0 : Nat) : Int))) (.no (decide ((zi 2) = ((1 : Nat) : Int))) (.yes (decide ((zi 2) = ((2 : Nat) : Int))) (rx VD (.inl (QY.mk a.x7 true (QP.mk a.h1_0 a.h1_1 (cu Qq a.x8 a.x11))))))))))) (lf Vl (QK.mk a.x0 a.x1 (w64 (a.x7 + 1)) (w64 (a.x11 + 1)) i0 (w64 (a.x11 + 1)) a.h0 a.h1_0 a.h1_1 (cu Qq a.x8 a.x11))))))) (lf Vl (QK.mk a.x0 a.x1 a.x7 (w64 (a.x11 + 1)) (w64 (a.x10 + 1)) (w64 (a.x11 + 1)) a.h0 a.h1_0 a.h1_1 (cu Qq a.x8 a.x11))))) .fail))) .fail))))) (noN 3 u92 (.no false (.as (in2 a.x8 a.x11 (zz Qq)) (.ask (decide (a.x10 = ((0 : Nat) : Int))) (decide (a.x10 = 0)) (.yes u93 (.as ((gb Qq a.x11) == 124) (let u89 := (a.x7 == a.x0); .as u89 (yesN 4 u89 (.yes true (.yes (decide (i0 = ((0 : Nat) : Int))) (.no (decide ((zi 1) = ((0 : Nat) : Int))) (.yes (decide ((zi 1) = ((1 : Nat) : Int))) (.no (decide ((zi 2) = ((0 : Nat) : Int))) (.no (decide ((zi 2) = ((1 : Nat) : Int))) (.yes (decide ((zi 2) = ((2 : Nat) : Int))) (rx VD (.inl (QY.mk a.x7 true (QP.mk (cu Qq a.x8 a.x11) a.h1_1 a.h1_2)))))))))))) (.yes (decide (i0 = ((0 : Nat) : Int))) (noN 4 u89 (.as (eqS (cu Qq a.x8 a.x11) a.x1) (.yes (decide (i0 = ((0 : Nat) : Int))) (.no (decide ((zi 1) = ((0 : Nat) : Int))) (.yes (decide ((zi 1) = ((1 : Nat) : Int))) (.no (decide ((zi 2) = ((0 : Nat) : Int))) (.no (decide ((zi 2) = ((1 : Nat) : Int))) (.yes (decide ((zi 2) = ((2 : Nat) : Int))) (rx VD (.inl (QY.mk a.x7 true (QP.mk (cu Qq a.x8 a.x11) a.h1_1 a.h1_2)))))))))) (lf Vl (QK.mk a.x0 a.x1 (w64 (a.x7 + 1)) (w64 (a.x11 + 1)) i0 (w64 (a.x11 + 1)) a.h0 (cu Qq a.x8 a.x11) a.h1_1 a.h1_2)))))) (lf Vl (QK.mk a.x0 a.x1 a.x7 (w64 (a.x11 + 1)) (w64 (a.x10 + 1)) (w64 (a.x11 + 1)) a.h0 (cu Qq a.x8 a.x11) a.h1_1 a.h1_2)))) (.ask (decide (a.x10 = ((1 : Nat) : Int))) (decide (a.x10 = 1)) (.yes u93 (.as ((gb Qq a.x11) == 124) (let u90 := (a.x7 == a.x0); .as u90 (yesN 4 u90 (.yes true (.yes (decide (i0 = ((0 : Nat) : Int))) (.no (decide ((zi 1) = ((0 : Nat) : Int))) (.yes (decide ((zi 1) = ((1 : Nat) : Int))) (.no (decide ((zi 2) = ((0 : Nat) : Int))) (.no (decide ((zi 2) = ((1 : Nat) : Int))) (.yes (decide ((zi 2) = ((2 : Nat) : Int))) (rx VD (.inl (QY.mk a.x7 true (QP.mk a.h1_0 (cu Qq a.x8 a.x11) a.h1_2)))))))))))) (.yes (decide (i0 = ((0 : Nat) : Int))) (noN 4 u90 (.as (eqS a.h1_0 a.x1) (.yes (decide (i0 = ((0 : Nat) : Int))) (.no (decide ((zi 1) = ((0 : Nat) : Int))) (.yes (decide ((zi 1) = ((1 : Nat) : Int))) (.no (decide ((zi 2) = ((0 : Nat) : Int))) (.no (decide ((zi 2) = ((1 : Nat) : Int))) (.yes (decide ((zi 2) = ((2 : Nat) : Int))) (rx VD (.inl (QY.mk a.x7 true (QP.mk a.h1_0 (cu Qq a.x8 a.x11) a.h1_2)))))))))) (lf Vl (QK.mk a.x0 a.x1 (w64 (a.x7 + 1)) (w64 (a.x11 + 1)) i0 (w64 (a.x11 + 1)) a.h0 a.h1_0 (cu Qq a.x8 a.x11) a.h1_2)))))) (lf Vl (QK.mk a.x0 a.x1 a.x7 (w64 (a.x11 + 1)) (w64 (a.x10 + 1)) (w64 (a.x11 + 1)) a.h0 a.h1_0 (cu Qq a.x8 a.x11) a.h1_2)))) (.ask (decide (a.x10 = ((2 : Nat) : Int))) (decide (a.x10 = 2)) (.yes u93 (.as ((gb Qq a.x11) == 124) (let u91 := (a.x7 == a.x0); .as u91 (yesN 4 u91 (.yes true (.yes (decide (i0 = ((0 : Nat) : Int))) (.no (decide ((zi 1) = ((0 : Nat) : Int))) (.yes (decide ((zi 1) = ((1 : Nat) : Int))) (.no (decide ((zi 2) = ((0 : Nat) : Int))) (.no (decide ((zi 2) = ((1 : Nat) : Int))) (.yes (decide ((zi 2) = ((2 : Nat) : Int))) (rx VD (.inl (QY.mk a.x7 true (QP.mk a.h1_0 a.h1_1 (cu Qq a.x8 a.x11))))))))))))) (.yes (decide (i0 = ((0 : Nat) : Int))) (noN 4 u91 (.as (eqS a.h1_0 a.x1) (.yes (decide (i0 = ((0 : Nat) : Int))) (.no (decide ((zi 1) = ((0 : Nat) : Int))) (.yes (decide ((zi 1) = ((1 : Nat) : Int))) (.no (decide ((zi 2) = ((0 : Nat) : Int))) (.no (decide ((zi 2) = ((1 : Nat) : Int))) (.yes (decide ((zi 2) = ((2 : Nat) : Int))) (rx VD (.inl (QY.mk a.x7 true (QP.mk a.h1_0 a.h1_1 (cu Qq a.x8 a.x11))))))))))) (lf Vl (QK.mk a.x0 a.x1 (w64 (a.x7 + 1)) (w64 (a.x11 + 1)) i0 (w64 (a.x11 + 1)) a.h0 a.h1_0 a.h1_1 (cu Qq a.x8 a.x11))))))) (lf Vl (QK.mk a.x0 a.x1 a.x7 (w64 (a.x11 + 1)) (w64 (a.x10 + 1)) (w64 (a.x11 + 1)) a.h0 a.h1_0 a.h1_1 (cu Qq a.x8 a.x11))))) .fail))) .fail)))) .fail) (rx VD (.inr a.h0)))
theorem U7.ok {a : QK} {r : (QY ⊕ QP)} (h : U7 a = some r) : lw 0 58 (loopAt pp 58 5) (Vl a) = some (VD r) := by
 refine lpP h QmP fun a => ?_
 exact ⟨rfl, fun q0 => ⟨rfl, fun q1 => ⟨rfl, fun q2 => ⟨q2, ⟨q1, Qi 2 (q2) (⟨rfl, fun q3 => rfl, fun q3 => ⟨rfl, fun q4 => ⟨rfl, fun q5 => ⟨q1, ⟨rfl, fun q6 => ⟨rfl, fun q7 => Qi 4 (q7) (⟨rfl, ⟨rfl, ⟨rfl, ⟨rfl, ⟨rfl, ⟨rfl, ⟨rfl, rfl⟩⟩⟩⟩⟩⟩⟩), fun q7 => ⟨rfl, noN_ok 4 (q7) (⟨rfl, fun q8 => ⟨rfl, ⟨rfl, ⟨rfl, ⟨rfl, ⟨rfl, ⟨rfl, rfl⟩⟩⟩⟩⟩⟩, fun q8 => rfl⟩)⟩⟩, fun q6 => rfl⟩⟩, fun q5 => ⟨rfl, fun q6 => ⟨q1, ⟨rfl, fun q7 => ⟨rfl, fun q8 => Qi 4 (q8) (⟨rfl, ⟨rfl, ⟨rfl, ⟨rfl, ⟨rfl, ⟨rfl, ⟨rfl, rfl⟩⟩⟩⟩⟩⟩⟩), fun q8 => ⟨rfl, noN_ok 4 (q8) (⟨rfl, fun q9 => ⟨rfl, ⟨rfl, ⟨rfl, ⟨rfl, ⟨rfl, ⟨rfl, rfl⟩⟩⟩⟩⟩⟩, fun q9 => rfl⟩)⟩⟩, fun q7 => rfl⟩⟩, fun q6 => ⟨rfl, fun q7 => ⟨q1, ⟨rfl, fun q8 => ⟨rfl, fun q9 => Qi 4 (q9) (⟨rfl, ⟨rfl, ⟨rfl, ⟨rfl, ⟨rfl, ⟨rfl, ⟨rfl, rfl⟩⟩⟩⟩⟩⟩⟩), fun q9 => ⟨rfl, noN_ok 4 (q9) (⟨rfl, fun q10 => ⟨rfl, ⟨rfl, ⟨rfl, ⟨rfl, ⟨rfl, ⟨rfl, rfl⟩⟩⟩⟩⟩⟩, fun q10 => rfl⟩)⟩⟩, fun q8 => rfl⟩⟩, fun q7 => trivial⟩⟩⟩, fun q4 => trivial⟩⟩)⟩⟩, fun q2 => noN_ok 3 (q2) (⟨rfl, ⟨rfl, fun q3 => ⟨rfl, fun q4 => ⟨q1, ⟨rfl, fun q5 => ⟨rfl, fun q6 => Qi 4 (q6) (⟨rfl, ⟨rfl, ⟨rfl, ⟨rfl, ⟨rfl, ⟨rfl, ⟨rfl, rfl⟩⟩⟩⟩⟩⟩⟩), fun q6 => ⟨rfl, noN_ok 4 (q6) (⟨rfl, fun q7 => ⟨rfl, ⟨rfl, ⟨rfl, ⟨rfl, ⟨rfl, ⟨rfl, rfl⟩⟩⟩⟩⟩⟩, fun q7 => rfl⟩)⟩⟩, fun q5 => rfl⟩⟩, fun q4 => ⟨rfl, fun q5 => ⟨q1, ⟨rfl, fun q6 => ⟨rfl, fun q7 => Qi 4 (q7) (⟨rfl, ⟨rfl, ⟨rfl, ⟨rfl, ⟨rfl, ⟨rfl, ⟨rfl, rfl⟩⟩⟩⟩⟩⟩⟩), fun q7 => ⟨rfl, noN_ok 4 (q7) (⟨rfl, fun q8 => ⟨rfl, ⟨rfl, ⟨rfl, ⟨rfl, ⟨rfl, ⟨rfl, rfl⟩⟩⟩⟩⟩⟩, fun q8 => rfl⟩)⟩⟩, fun q6 => rfl⟩⟩, fun q5 => ⟨rfl, fun q6 => ⟨q1, ⟨rfl, fun q7 => ⟨rfl, fun q8 => Qi 4 (q8) (⟨rfl, ⟨rfl, ⟨rfl, ⟨rfl, ⟨rfl, ⟨rfl, ⟨rfl, rfl⟩⟩⟩⟩⟩⟩⟩), fun q8 => ⟨rfl, noN_ok 4 (q8) (⟨rfl, fun q9 => ⟨rfl, ⟨rfl, ⟨rfl, ⟨rfl, ⟨rfl, ⟨rfl, rfl⟩⟩⟩⟩⟩⟩, fun q9 => rfl⟩)⟩⟩, fun q7 => rfl⟩⟩, fun q6 => trivial⟩⟩⟩, fun q3 => trivial⟩⟩)⟩, fun q1 => trivial⟩, fun q0 => rfl⟩
def QfT (L0 : Qhy) (a0 : Int) (a1 : ByteArray) : Option (QP × Int × Bool) := ((L0 (QK.mk a0 a1 (0 : Int) (0 : Int) (0 : Int) (0 : Int) (QP.mk s_ s_ s_) s_ s_ s_)).bind fun x => Sum.elim (fun (o1 : QY) => (some (o1.h0, o1.x5, o1.x6))) (fun (o2 : QP) => (some ((QP.mk s_ s_ s_), (0 : Int), false))) x)
noncomputable def XB : QdF := QfT U7
theorem XB.eq (a0 : Int) (a1 : ByteArray) : XB a0 a1 = QfT U7 a0 a1 := rfl
noncomputable def QqC (a0 : Int) (a1 : ByteArray) : Tr (QP × Int × Bool) AH := (QmO (QK.mk a0 a1 i0 i0 i0 i0 (QP.mk s_ s_ s_) s_ s_ s_) (fun o1 => (rt QbH (o1.h0, o1.x5, o1.x6))) (fun o2 => (rt QbH ((QP.mk s_ s_ s_), i0, false))))
theorem XB.ok {a0 : Int} {a1 : ByteArray} {r : (QP × Int × Bool)} (h : XB a0 a1 = some r) : ww 58 [xi a0, xs a1] [] = some (QbH r) := by
 refine fnP (QqC a0 a1) ?_ h
 exact ⟨fun o1 h => ⟨U7.ok (r := (.inl _)) h, rfl⟩, fun o2 h => ⟨U7.ok (r := (.inr _)) h, rfl⟩⟩
noncomputable abbrev QfU {ρ R : Type} (a0 : Int) (a1 : ByteArray) (k : (QP × Int × Bool) → Tr ρ R) : Tr ρ R := .call (ww 58 [xi a0, xs a1] []) (XB a0 a1) QbH k
abbrev QfV := Int → Option ByteArray
def QdG (C0 : QdF) (a0 : Int) : Option ByteArray := ((C0 a0 h_20).bind fun r1 => (some r1.1.Kinds))
noncomputable def Xg : QfV := QdG XB
theorem Xg.eq (a0 : Int) : Xg a0 = QdG XB a0 := rfl
noncomputable def QpJ (a0 : Int) : Tr ByteArray AH := (QfU a0 h_20 fun r1 => (rt Qk r1.1.Kinds))
theorem Xg.ok {a0 : Int} {r : ByteArray} (h : Xg a0 = some r) : ww 37 [xi a0] [] = some (Qk r) := by
 refine fnP (QpJ a0) ?_ h
 exact fun r1 h => ⟨XB.ok h, rfl⟩
noncomputable abbrev Qjf {ρ R : Type} (a0 : Int) (k : ByteArray → Tr ρ R) : Tr ρ R := .call (ww 37 [xi a0] []) (Xg a0) Qk k
abbrev QfW := ByteArray → Option (List ByteArray)
structure JP where
 x0 : ByteArray
 x4 : Int
 x5 : Int
 r0 : (List ByteArray)
def Yf (a : JP) : St := { n := 35, nx := 1, env := [(0, xs a.x0), (3, .arr 0), (4, xi a.x4), (5, xi a.x5)], heap := [(0, .arr true 1 (Qg a.r0))] }
def SD (a : (List ByteArray)) : Ex × St := (.exit 0, { n := 35, nx := 1, env := [(3, .arr 0)], heap := [(0, .arr true 1 (Qg a))] })
abbrev GH := JP → Option (List ByteArray)
def SE (a : JP) : Option (JP ⊕ (List ByteArray)) := (bif (decide (a.x5 ≤ ((a.x0.size : Nat) : Int))) then (bif (a.x5 == ((a.x0.size : Nat) : Int)) then (bif (decide (a.x5 > a.x4)) then (bif (decide (0 ≤ a.x4 ∧ a.x4 ≤ a.x5 ∧ a.x5 ≤ ((a.x0.size : Nat) : Int))) then (bif (decide ((a.r0.length + [(a.x0.extract (Int.toNat a.x4) (Int.toNat a.x5))].length) * 16 ≤ most)) then (some (.inl (JP.mk a.x0 (w64 (a.x5 + 1)) (w64 (a.x5 + 1)) (a.r0 ++ [(a.x0.extract (Int.toNat a.x4) (Int.toNat a.x5))])))) else none) else none) else (some (.inl (JP.mk a.x0 (w64 (a.x5 + 1)) (w64 (a.x5 + 1)) a.r0)))) else (bif (decide (0 ≤ a.x5 ∧ a.x5 < ((a.x0.size : Nat) : Int))) then (bif (((a.x0.data.getD (Int.toNat a.x5) 0).toNat : Int) == 32) then (bif (decide (a.x5 > a.x4)) then (bif (decide (0 ≤ a.x4 ∧ a.x4 ≤ a.x5 ∧ a.x5 ≤ ((a.x0.size : Nat) : Int))) then (bif (decide ((a.r0.length + [(a.x0.extract (Int.toNat a.x4) (Int.toNat a.x5))].length) * 16 ≤ most)) then (some (.inl (JP.mk a.x0 (w64 (a.x5 + 1)) (w64 (a.x5 + 1)) (a.r0 ++ [(a.x0.extract (Int.toNat a.x4) (Int.toNat a.x5))])))) else none) else none) else (some (.inl (JP.mk a.x0 (w64 (a.x5 + 1)) (w64 (a.x5 + 1)) a.r0)))) else (some (.inl (JP.mk a.x0 a.x4 (w64 (a.x5 + 1)) a.r0)))) else none)) else (some (.inr a.r0)))
noncomputable def Xp.s (k : Nat) : GH := iter (SE ) k
theorem Xp.cv (a : JP) : Cv (fun k => Xp.s k a) (loopW (SE ) a) := Cv.iter (fun a => by exact .const _) a
noncomputable def Xp : GH := loopW (SE )
noncomputable abbrev QlE {ρ R : Type} (a : JP) (k0 : (List ByteArray) → Tr ρ R) : Tr ρ R := .loop (loopAt pp 36 4) (Yf a) (Xp a) SD k0
noncomputable def QlF (a : JP) : Tr (JP ⊕ (List ByteArray)) XS := (.as (decide (a.x5 ≤ (zz a.x0))) (let u94 := (a.x5 == (zz a.x0)); .as u94 (yesN 4 u94 (.yes true (.as (decide (a.x5 > a.x4)) (.as (in2 a.x4 a.x5 (zz a.x0)) (.rows [[xs (cu a.x0 a.x4 a.x5)]] (Qg [(cu a.x0 a.x4 a.x5)]) (.yes (decide ((Qg [(cu a.x0 a.x4 a.x5)]).all (fun r => r.length == 1) = true)) (.ask (decide (((Qg a.r0).length + (Qg [(cu a.x0 a.x4 a.x5)]).length) * 16 ≤ most)) (decide ((a.r0.length + [(cu a.x0 a.x4 a.x5)].length) * 16 ≤ most)) (.rows ((Qg a.r0) ++ (Qg [(cu a.x0 a.x4 a.x5)])) (Qg (a.r0 ++ [(cu a.x0 a.x4 a.x5)])) (lf Yf (JP.mk a.x0 (w64 (a.x5 + 1)) (w64 (a.x5 + 1)) (a.r0 ++ [(cu a.x0 a.x4 a.x5)])))) .fail))) .fail) (lf Yf (JP.mk a.x0 (w64 (a.x5 + 1)) (w64 (a.x5 + 1)) a.r0))))) (noN 2 u94 (.as (in1 a.x5 (zz a.x0)) (noN 2 u94 (.as ((gb a.x0 a.x5) == 32) (.as (decide (a.x5 > a.x4)) (.as (in2 a.x4 a.x5 (zz a.x0)) (.rows [[xs (cu a.x0 a.x4 a.x5)]] (Qg [(cu a.x0 a.x4 a.x5)]) (.yes (decide ((Qg [(cu a.x0 a.x4 a.x5)]).all (fun r => r.length == 1) = true)) (.ask (decide (((Qg a.r0).length + (Qg [(cu a.x0 a.x4 a.x5)]).length) * 16 ≤ most)) (decide ((a.r0.length + [(cu a.x0 a.x4 a.x5)].length) * 16 ≤ most)) (.rows ((Qg a.r0) ++ (Qg [(cu a.x0 a.x4 a.x5)])) (Qg (a.r0 ++ [(cu a.x0 a.x4 a.x5)])) (lf Yf (JP.mk a.x0 (w64 (a.x5 + 1)) (w64 (a.x5 + 1)) (a.r0 ++ [(cu a.x0 a.x4 a.x5)])))) .fail))) .fail) (lf Yf (JP.mk a.x0 (w64 (a.x5 + 1)) (w64 (a.x5 + 1)) a.r0))) (lf Yf (JP.mk a.x0 a.x4 (w64 (a.x5 + 1)) a.r0)))) .fail))) (rx SD a.r0))
theorem Xp.ok {a : JP} {r : (List ByteArray)} (h : Xp a = some r) : lw 0 36 (loopAt pp 36 4) (Yf a) = some (SD r) := by
 refine lpP h QlF fun a => ?_
 exact ⟨rfl, fun q0 => ⟨rfl, fun q1 => Qi 4 (q1) (⟨rfl, ⟨rfl, fun q2 => ⟨rfl, fun q3 => ⟨(QS [(a.x0.extract (Int.toNat a.x4) (Int.toNat a.x5))]), ⟨(decide_eq_true (J7 _)), ⟨(by rw [Qo, Qo]), fun q4 => ⟨(UQ _ _), rfl⟩, fun q4 => trivial⟩⟩⟩, fun q3 => trivial⟩, fun q2 => rfl⟩⟩), fun q1 => noN_ok 2 (q1) (⟨rfl, fun q2 => noN_ok 2 (q1) (⟨rfl, fun q3 => ⟨rfl, fun q4 => ⟨rfl, fun q5 => ⟨(QS [(a.x0.extract (Int.toNat a.x4) (Int.toNat a.x5))]), ⟨(decide_eq_true (J7 _)), ⟨(by rw [Qo, Qo]), fun q6 => ⟨(UQ _ _), rfl⟩, fun q6 => trivial⟩⟩⟩, fun q5 => trivial⟩, fun q4 => rfl⟩, fun q3 => rfl⟩), fun q2 => trivial⟩)⟩, fun q0 => rfl⟩
def FJ (L0 : GH) (a0 : ByteArray) : Option (List ByteArray) := ((L0 (JP.mk a0 (0 : Int) (0 : Int) ([] : List ByteArray))).bind (fun (o1 : (List ByteArray)) => (some o1)))
theorem QpK {L0 : Nat → GH} {M0 : GH} (N0 : Cv1 L0 M0) (a0 : ByteArray) : Cv (fun k => FJ (L0 k) a0) (FJ M0 a0) := by
 unfold FJ
 exact .bind (N0 _) (fun o1 => by exact .const _)
noncomputable def VX : QfW := FJ Xp
noncomputable def QpL (a0 : ByteArray) : Tr (List ByteArray) AH := (QlE (JP.mk a0 i0 i0 ([] : List ByteArray)) (fun o1 => (rt Jd o1)))
theorem VX.ok {a0 : ByteArray} {r : (List ByteArray)} (h : VX a0 = some r) : ww 36 [xs a0] [] = some (Jd r) := by
 refine fnP (QpL a0) ?_ h
 exact fun o1 h => ⟨Xp.ok h, rfl⟩
noncomputable abbrev Qjg {ρ R : Type} (a0 : ByteArray) (k : (List ByteArray) → Tr ρ R) : Tr ρ R := .call (ww 36 [xs a0] []) (VX a0) Jd k
noncomputable def VX.s : Nat → ByteArray → Option (List ByteArray)
 | 0, _ => none
 | k + 1, a0 => FJ (Xp.s k) a0
theorem VX.cv (a0 : ByteArray) : Cv (fun k => VX.s k a0) (VX a0) := .un rfl (QpK Xp.cv a0)
abbrev Pt := QJ → Int → Option Int
def FK (a0 : QJ) (a1 : Int) : Option Int := (bif (decide (a1 < (((a0.Ns.length) : Nat) : Int))) then (bif (decide (0 ≤ a1)) then ((a0.Ns[(Int.toNat a1)]?).bind fun e1 => (some e1)) else none) else (some (w64 (a0.A + a1))))
noncomputable def UX : Pt := FK
theorem UX.eq (a0 : QJ) (a1 : Int) : UX a0 a1 = FK a0 a1 := rfl
noncomputable def Qjh (a0 : QJ) (a1 : Int) : Tr Int AH := (.num ((Jc a0.Ns).length) (a0.Ns.length) (.as (decide (a1 < (((a0.Ns.length) : Nat) : Int))) (.as (decide (0 ≤ a1)) (.row ((Jc a0.Ns)[(Int.toNat a1)]?) (a0.Ns[(Int.toNat a1)]?) Xq fun (e1 : Int) => (rt Qm e1)) .fail) (rt Qm (w64 (a0.A + a1)))))
theorem UX.ok {a0 : QJ} {a1 : Int} {r : Int} (h : UX a0 a1 = some r) : ww 63 [.agg (Wd a0), xi a1] [] = some (Qm r) := by
 refine fnP (Qjh a0 a1) ?_ h
 exact ⟨(Vp _), ⟨rfl, fun q0 => ⟨rfl, fun q1 => fun e1 h => ⟨Vy h, rfl⟩, fun q1 => trivial⟩, fun q0 => rfl⟩⟩
noncomputable abbrev QbI {ρ R : Type} (a0 : QJ) (a1 : Int) (k : Int → Tr ρ R) : Tr ρ R := .call (ww 63 [.agg (Wd a0), xi a1] []) (UX a0 a1) Qm k
abbrev Qba := ByteArray → Option Bool
structure UE where
 x0 : ByteArray
 x3 : Int
def EG (a : UE) : St := { n := 28, nx := 0, env := [(0, xs a.x0), (3, xi a.x3)], heap := [] }
def ST (a : Bool) : Ex × St := (.ret, { n := 28, nx := 0, env := [(2, xo a)], heap := [] })
def SU (a : Unit) : Ex × St := (.exit 0, { n := 28, nx := 0, env := [], heap := [] })
def Z0 (a : (Bool ⊕ Unit)) : Ex × St := Sum.elim ST SU a
abbrev Zf := UE → Option (Bool ⊕ Unit)
def EH (a : UE) : Option (UE ⊕ (Bool ⊕ Unit)) := (bif (decide ((w64 ((w64 (a.x3 + ((a.x0.size : Nat) : Int))) + 2)) ≤ 11)) then (bif (decide (((a.x0.size : Nat) : Int) > 0)) then (bif (decide (0 ≤ a.x3 ∧ a.x3 ≤ (w64 ((w64 (a.x3 + ((a.x0.size : Nat) : Int))) + 2)) ∧ (w64 ((w64 (a.x3 + ((a.x0.size : Nat) : Int))) + 2)) ≤ ((UL.size : Nat) : Int))) then (bif (decide (((h_20.size + a.x0.size : Nat) : Int) ≤ IntKind.i64.max)) then (bif (decide ((((h_20 ++ a.x0).size + h_20.size : Nat) : Int) ≤ IntKind.i64.max)) then (bif (eqS (UL.extract (Int.toNat a.x3) (Int.toNat (w64 ((w64 (a.x3 + ((a.x0.size : Nat) : Int))) + 2)))) ((h_20 ++ a.x0) ++ h_20)) then (some (.inr (.inl true))) else (some (.inl (UE.mk a.x0 (w64 (a.x3 + 1)))))) else none) else none) else none) else (some (.inr (.inr ())))) else (some (.inr (.inr ()))))
noncomputable def VY.s (k : Nat) : Zf := iter (EH ) k
theorem VY.cv (a : UE) : Cv (fun k => VY.s k a) (loopW (EH ) a) := Cv.iter (fun a => by exact .const _) a
noncomputable def VY : Zf := loopW (EH )
noncomputable abbrev Qib {ρ R : Type} (a : UE) (k0 : Bool → Tr ρ R) (k1 : Unit → Tr ρ R) : Tr ρ R := .loop2 (loopAt pp 39 2) (EG a) (VY a) ST SU k0 k1
noncomputable def Qic (a : UE) : Tr (UE ⊕ (Bool ⊕ Unit)) XS := (let u95 := (decide ((w64 ((w64 (a.x3 + (zz a.x0))) + 2)) ≤ 11)); .as u95 (yesN 3 u95 (.as (decide ((zz a.x0) > 0)) (.as (in2 a.x3 (w64 ((w64 (a.x3 + (zz a.x0))) + 2)) (zz UL)) (.as (decide (((h_20.size + a.x0.size : Nat) : Int) ≤ IntKind.i64.max)) (.as (decide ((((h_20 ++ a.x0).size + h_20.size : Nat) : Int) ≤ IntKind.i64.max)) (.as (eqS (cu UL a.x3 (w64 ((w64 (a.x3 + (zz a.x0))) + 2))) ((h_20 ++ a.x0) ++ h_20)) (rx Z0 (.inl true)) (lf EG (UE.mk a.x0 (w64 (a.x3 + 1))))) .fail) .fail) .fail) (rx Z0 (.inr ())))) (noN 3 u95 (.no false (rx Z0 (.inr ())))))
theorem VY.ok {a : UE} {r : (Bool ⊕ Unit)} (h : VY a = some r) : lw 0 39 (loopAt pp 39 2) (EG a) = some (Z0 r) := by
 refine lpP h Qic fun a => ?_
 exact ⟨rfl, fun q0 => Qi 3 (q0) (⟨rfl, fun q1 => ⟨rfl, fun q2 => ⟨rfl, fun q3 => ⟨rfl, fun q4 => ⟨rfl, fun q5 => rfl, fun q5 => rfl⟩, fun q4 => trivial⟩, fun q3 => trivial⟩, fun q2 => trivial⟩, fun q1 => rfl⟩), fun q0 => noN_ok 3 (q0) (⟨rfl, rfl⟩)⟩
def Z5 (L0 : Zf) (a0 : ByteArray) : Option Bool := ((L0 (UE.mk a0 (0 : Int))).bind fun x => Sum.elim (fun (o1 : Bool) => (some o1)) (fun (o2 : Unit) => (some false)) x)
theorem QlG {L0 : Nat → Zf} {M0 : Zf} (N0 : Cv1 L0 M0) (a0 : ByteArray) : Cv (fun k => Z5 (L0 k) a0) (Z5 M0 a0) := by
 unfold Z5
 exact .bind (N0 _) fun x => .sum (fun o1 => by exact .const _) (fun o2 => by exact .const _) x
noncomputable def JG : Qba := Z5 VY
noncomputable def QlH (a0 : ByteArray) : Tr Bool AH := (Qib (UE.mk a0 i0) (fun o1 => (rt Ql o1)) (fun o2 => (rt Ql false)))
theorem JG.ok {a0 : ByteArray} {r : Bool} (h : JG a0 = some r) : ww 39 [xs a0] [] = some (Ql r) := by
 refine fnP (QlH a0) ?_ h
 exact ⟨fun o1 h => ⟨VY.ok (r := (.inl _)) h, rfl⟩, fun o2 h => ⟨VY.ok (r := (.inr _)) h, rfl⟩⟩
noncomputable abbrev Qem {ρ R : Type} (a0 : ByteArray) (k : Bool → Tr ρ R) : Tr ρ R := .call (ww 39 [xs a0] []) (JG a0) Ql k
noncomputable def JG.s : Nat → ByteArray → Option Bool
 | 0, _ => none
 | k + 1, a0 => Z5 (VY.s k) a0
theorem JG.cv (a0 : ByteArray) : Cv (fun k => JG.s k a0) (JG a0) := .un rfl (QlG VY.cv a0)
abbrev QfX := ByteArray → Option Bool
def EB (C0 : Qba) (a0 : ByteArray) : Option Bool := ((C0 a0).bind fun r1 => (some r1))
noncomputable def WL : QfX := EB JG
theorem WL.eq (a0 : ByteArray) : WL a0 = EB JG a0 := rfl
noncomputable def QlI (a0 : ByteArray) : Tr Bool AH := (Qem a0 fun r1 => (rt Ql r1))
theorem WL.ok {a0 : ByteArray} {r : Bool} (h : WL a0 = some r) : ww 106 [xs a0] [] = some (Ql r) := by
 refine fnP (QlI a0) ?_ h
 exact fun r1 h => ⟨JG.ok h, rfl⟩
noncomputable abbrev QlJ {ρ R : Type} (a0 : ByteArray) (k : Bool → Tr ρ R) : Tr ρ R := .call (ww 106 [xs a0] []) (WL a0) Ql k
abbrev Qji := Int → Int → Option Int
def Qhz (a0 : Int) (a1 : Int) : Option Int := (bif (decide (a1 ≠ 0)) then (bif (decide ((Int.tmod a0 a1) < 0)) then (some (w64 ((Int.tmod a0 a1) + a1))) else (some (Int.tmod a0 a1))) else none)
noncomputable def Wb : Qji := Qhz
theorem Wb.eq (a0 : Int) (a1 : Int) : Wb a0 a1 = Qhz a0 a1 := rfl
noncomputable def Qoc (a0 : Int) (a1 : Int) : Tr Int AH := (.as (decide (a1 ≠ 0)) (.as (decide ((Int.tmod a0 a1) < 0)) (rt Qm (w64 ((Int.tmod a0 a1) + a1))) (rt Qm (Int.tmod a0 a1))) .fail)
theorem Wb.ok {a0 : Int} {a1 : Int} {r : Int} (h : Wb a0 a1 = some r) : ww 84 [xi a0, xi a1] [] = some (Qm r) := by
 refine fnP (Qoc a0 a1) ?_ h
 exact ⟨rfl, fun q0 => ⟨rfl, fun q1 => rfl, fun q1 => rfl⟩, fun q0 => trivial⟩
noncomputable abbrev Yv {ρ R : Type} (a0 : Int) (a1 : Int) (k : Int → Tr ρ R) : Tr ρ R := .call (ww 84 [xi a0, xi a1] []) (Wb a0 a1) Qm k
abbrev QhA := ByteArray → Int → Option Int
def FL (C0 : Qji) (a0 : ByteArray) (a1 : Int) : Option Int := ((C0 a1 (9 : Int)).bind fun r1 => (bif (eqS a0 s_X) then (bif (decide (0 ≤ r1 ∧ r1 < (([(0 : Int), (1 : Int), (7 : Int), (24 : Int), (31 : Int), (5 : Int), (28 : Int), (3 : Int), (30 : Int)].length : Nat) : Int))) then (([(0 : Int), (1 : Int), (7 : Int), (24 : Int), (31 : Int), (5 : Int), (28 : Int), (3 : Int), (30 : Int)][(Int.toNat r1)]?).bind fun e2 => (some e2)) else none) else (bif (eqS a0 s_Y) then (bif (decide (0 ≤ r1 ∧ r1 < (([(0 : Int), (1 : Int), (7 : Int), (24 : Int), (31 : Int), (5 : Int), (28 : Int), (3 : Int), (30 : Int)].length : Nat) : Int))) then (([(0 : Int), (1 : Int), (7 : Int), (24 : Int), (31 : Int), (5 : Int), (28 : Int), (3 : Int), (30 : Int)][(Int.toNat r1)]?).bind fun e3 => (some e3)) else none) else (bif (eqS a0 s_D) then (bif (decide (0 ≤ r1 ∧ r1 < (([(0 : Int), (31 : Int), (1 : Int), (15 : Int), (16 : Int), (7 : Int), (30 : Int), (12 : Int), (3 : Int)].length : Nat) : Int))) then (([(0 : Int), (31 : Int), (1 : Int), (15 : Int), (16 : Int), (7 : Int), (30 : Int), (12 : Int), (3 : Int)][(Int.toNat r1)]?).bind fun e4 => (some e4)) else none) else (bif (eqS a0 s_A) then (bif (decide (0 ≤ r1 ∧ r1 < (([(0 : Int), (31 : Int), (1 : Int), (15 : Int), (16 : Int), (7 : Int), (30 : Int), (12 : Int), (3 : Int)].length : Nat) : Int))) then (([(0 : Int), (31 : Int), (1 : Int), (15 : Int), (16 : Int), (7 : Int), (30 : Int), (12 : Int), (3 : Int)][(Int.toNat r1)]?).bind fun e5 => (some e5)) else none) else (bif (eqS a0 s_B) then (bif (decide (0 ≤ r1 ∧ r1 < (([(0 : Int), (31 : Int), (1 : Int), (15 : Int), (16 : Int), (7 : Int), (30 : Int), (12 : Int), (3 : Int)].length : Nat) : Int))) then (([(0 : Int), (31 : Int), (1 : Int), (15 : Int), (16 : Int), (7 : Int), (30 : Int), (12 : Int), (3 : Int)][(Int.toNat r1)]?).bind fun e6 => (some e6)) else none) else (bif (eqS a0 s_U5) then (bif (decide (0 ≤ r1 ∧ r1 < (([(0 : Int), (31 : Int), (1 : Int), (15 : Int), (16 : Int), (7 : Int), (30 : Int), (12 : Int), (3 : Int)].length : Nat) : Int))) then (([(0 : Int), (31 : Int), (1 : Int), (15 : Int), (16 : Int), (7 : Int), (30 : Int), (12 : Int), (3 : Int)][(Int.toNat r1)]?).bind fun e7 => (some e7)) else none) else (bif (eqS a0 s_U7) then (bif (decide (0 ≤ r1 ∧ r1 < (([(0 : Int), (127 : Int), (64 : Int), (1 : Int), (63 : Int), (100 : Int), (7 : Int), (15 : Int), (16 : Int)].length : Nat) : Int))) then (([(0 : Int), (127 : Int), (64 : Int), (1 : Int), (63 : Int), (100 : Int), (7 : Int), (15 : Int), (16 : Int)][(Int.toNat r1)]?).bind fun e8 => (some e8)) else none) else (bif (eqS a0 s_O5) then (bif (decide (0 ≤ r1 ∧ r1 < (([(1 : Int), (32 : Int), (2 : Int), (16 : Int), (31 : Int), (17 : Int), (8 : Int), (5 : Int), (30 : Int)].length : Nat) : Int))) then (([(1 : Int), (32 : Int), (2 : Int), (16 : Int), (31 : Int), (17 : Int), (8 : Int), (5 : Int), (30 : Int)][(Int.toNat r1)]?).bind fun e9 => (some e9)) else none) else (bif (eqS a0 s_M1) then (bif (decide (0 ≤ r1 ∧ r1 < (([(0 : Int), (15 : Int), (1 : Int), (7 : Int), (8 : Int), (4 : Int), (12 : Int), (3 : Int), (14 : Int)].length : Nat) : Int))) then (([(0 : Int), (15 : Int), (1 : Int), (7 : Int), (8 : Int), (4 : Int), (12 : Int), (3 : Int), (14 : Int)][(Int.toNat r1)]?).bind fun e10 => (some e10)) else none) else (bif (eqS a0 s_I4) then (bif (decide (0 ≤ r1 ∧ r1 < (([(0 : Int), (15 : Int), (1 : Int), (7 : Int), (8 : Int), (4 : Int), (12 : Int), (3 : Int), (14 : Int)].length : Nat) : Int))) then (([(0 : Int), (15 : Int), (1 : Int), (7 : Int), (8 : Int), (4 : Int), (12 : Int), (3 : Int), (14 : Int)][(Int.toNat r1)]?).bind fun e11 => (some e11)) else none) else (bif (eqS a0 s_M2) then (bif (decide (0 ≤ r1 ∧ r1 < (([(0 : Int), (15 : Int), (1 : Int), (7 : Int), (8 : Int), (4 : Int), (12 : Int), (3 : Int), (14 : Int)].length : Nat) : Int))) then (([(0 : Int), (15 : Int), (1 : Int), (7 : Int), (8 : Int), (4 : Int), (12 : Int), (3 : Int), (14 : Int)][(Int.toNat r1)]?).bind fun e12 => (some (w64 ((2 : Int) * e12)))) else none) else (bif (eqS a0 s_M4) then (bif (decide (0 ≤ r1 ∧ r1 < (([(0 : Int), (15 : Int), (1 : Int), (7 : Int), (8 : Int), (4 : Int), (12 : Int), (3 : Int), (14 : Int)].length : Nat) : Int))) then (([(0 : Int), (15 : Int), (1 : Int), (7 : Int), (8 : Int), (4 : Int), (12 : Int), (3 : Int), (14 : Int)][(Int.toNat r1)]?).bind fun e13 => (some (w64 ((4 : Int) * e13)))) else none) else (bif (eqS a0 s_O1) then ((C0 a1 (2 : Int)).bind fun r14 => (some r14)) else (bif (eqS a0 s_I2) then ((C0 a1 (4 : Int)).bind fun r15 => (some r15)) else (bif (eqS a0 s_O2) then ((C0 a1 (4 : Int)).bind fun r16 => (some r16)) else (bif (eqS a0 s_T8) then ((C0 a1 (256 : Int)).bind fun r17 => (some (w64 ((2 : Int) * (w64 (r17 - 128)))))) else (bif (eqS a0 Qsx) then (bif (decide (0 ≤ r1 ∧ r1 < (([(0 : Int), (32767 : Int), (-32768 : Int), (-1 : Int), (1 : Int), (255 : Int), (-256 : Int), (4660 : Int), (-4660 : Int)].length : Nat) : Int))) then (([(0 : Int), (32767 : Int), (-32768 : Int), (-1 : Int), (1 : Int), (255 : Int), (-256 : Int), (4660 : Int), (-4660 : Int)][(Int.toNat r1)]?).bind fun e18 => (some e18)) else none) else (bif (eqS a0 Qsw) then ((C0 a1 (1048576 : Int)).bind fun r19 => (some (w64 (r19 - 524288)))) else (bif (eqS a0 Qsy) then ((C0 a1 (32768 : Int)).bind fun r20 => (some (w64 ((2 : Int) * (w64 (r20 - 16384)))))) else (bif (eqS a0 Ez) then ((C0 a1 (16777216 : Int)).bind fun r21 => (some (w64 ((2 : Int) * (w64 (r21 - 8388608)))))) else (bif (decide (0 ≤ r1 ∧ r1 < (([(0 : Int), (255 : Int), (256 : Int), (65280 : Int), (-1 : Int), (-2 : Int), (16711680 : Int), (-256 : Int), (2130706432 : Int)].length : Nat) : Int))) then (([(0 : Int), (255 : Int), (256 : Int), (65280 : Int), (-1 : Int), (-2 : Int), (16711680 : Int), (-256 : Int), (2130706432 : Int)][(Int.toNat r1)]?).bind fun e22 => (some e22)) else none))))))))))))))))))))))
noncomputable def Wk : QhA := FL Wb
theorem Wk.eq (a0 : ByteArray) (a1 : Int) : Wk a0 a1 = FL Wb a0 a1 := rfl
noncomputable def QmQ (a0 : ByteArray) (a1 : Int) : Tr Int AH := (Yv a1 (zi 9) fun r1 => (let u101 := (eqS a0 s_X); .as u101 (.yes u101 (.rows [[xi i0], [xi (zi 1)], [xi (zi 7)], [xi (zi 24)], [xi (zi 31)], [xi (zi 5)], [xi (zi 28)], [xi (zi 3)], [xi (zi 30)]] (Jc [i0, (zi 1), (zi 7), (zi 24), (zi 31), (zi 5), (zi 28), (zi 3), (zi 30)]) (.ask (in1 r1 (((Jc [i0, (zi 1), (zi 7), (zi 24), (zi 31), (zi 5), (zi 28), (zi 3), (zi 30)]).length : Nat) : Int)) (in1 r1 (([i0, (zi 1), (zi 7), (zi 24), (zi 31), (zi 5), (zi 28), (zi 3), (zi 30)].length : Nat) : Int)) (.row ((Jc [i0, (zi 1), (zi 7), (zi 24), (zi 31), (zi 5), (zi 28), (zi 3), (zi 30)])[(Int.toNat r1)]?) ([i0, (zi 1), (zi 7), (zi 24), (zi 31), (zi 5), (zi 28), (zi 3), (zi 30)][(Int.toNat r1)]?) Xq fun (e2 : Int) => (rt Qm e2)) .fail))) (.as (eqS a0 s_Y) (.rows [[xi i0], [xi (zi 1)], [xi (zi 7)], [xi (zi 24)], [xi (zi 31)], [xi (zi 5)], [xi (zi 28)], [xi (zi 3)], [xi (zi 30)]] (Jc [i0, (zi 1), (zi 7), (zi 24), (zi 31), (zi 5), (zi 28), (zi 3), (zi 30)]) (.ask (in1 r1 (((Jc [i0, (zi 1), (zi 7), (zi 24), (zi 31), (zi 5), (zi 28), (zi 3), (zi 30)]).length : Nat) : Int)) (in1 r1 (([i0, (zi 1), (zi 7), (zi 24), (zi 31), (zi 5), (zi 28), (zi 3), (zi 30)].length : Nat) : Int)) (.row ((Jc [i0, (zi 1), (zi 7), (zi 24), (zi 31), (zi 5), (zi 28), (zi 3), (zi 30)])[(Int.toNat r1)]?) ([i0, (zi 1), (zi 7), (zi 24), (zi 31), (zi 5), (zi 28), (zi 3), (zi 30)][(Int.toNat r1)]?) Xq fun (e3 : Int) => (rt Qm e3)) .fail)) (let u100 := (eqS a0 s_D); .as u100 (.yes u100 (.rows [[xi i0], [xi (zi 31)], [xi (zi 1)], [xi (zi 15)], [xi (zi 16)], [xi (zi 7)], [xi (zi 30)], [xi (zi 12)], [xi (zi 3)]] (Jc [i0, (zi 31), (zi 1), (zi 15), (zi 16), (zi 7), (zi 30), (zi 12), (zi 3)]) (.ask (in1 r1 (((Jc [i0, (zi 31), (zi 1), (zi 15), (zi 16), (zi 7), (zi 30), (zi 12), (zi 3)]).length : Nat) : Int)) (in1 r1 (([i0, (zi 31), (zi 1), (zi 15), (zi 16), (zi 7), (zi 30), (zi 12), (zi 3)].length : Nat) : Int)) (.row ((Jc [i0, (zi 31), (zi 1), (zi 15), (zi 16), (zi 7), (zi 30), (zi 12), (zi 3)])[(Int.toNat r1)]?) ([i0, (zi 31), (zi 1), (zi 15), (zi 16), (zi 7), (zi 30), (zi 12), (zi 3)][(Int.toNat r1)]?) Xq fun (e4 : Int) => (rt Qm e4)) .fail))) (let u99 := (eqS a0 s_A); .as u99 (.yes u99 (.rows [[xi i0], [xi (zi 31)], [xi (zi 1)], [xi (zi 15)], [xi (zi 16)], [xi (zi 7)], [xi (zi 30)], [xi (zi 12)], [xi (zi 3)]] (Jc [i0, (zi 31), (zi 1), (zi 15), (zi 16), (zi 7), (zi 30), (zi 12), (zi 3)]) (.ask (in1 r1 (((Jc [i0, (zi 31), (zi 1), (zi 15), (zi 16), (zi 7), (zi 30), (zi 12), (zi 3)]).length : Nat) : Int)) (in1 r1 (([i0, (zi 31), (zi 1), (zi 15), (zi 16), (zi 7), (zi 30), (zi 12), (zi 3)].length : Nat) : Int)) (.row ((Jc [i0, (zi 31), (zi 1), (zi 15), (zi 16), (zi 7), (zi 30), (zi 12), (zi 3)])[(Int.toNat r1)]?) ([i0, (zi 31), (zi 1), (zi 15), (zi 16), (zi 7), (zi 30), (zi 12), (zi 3)][(Int.toNat r1)]?) Xq fun (e5 : Int) => (rt Qm e5)) .fail))) (let u98 := (eqS a0 s_B); .as u98 (.yes u98 (.rows [[xi i0], [xi (zi 31)], [xi (zi 1)], [xi (zi 15)], [xi (zi 16)], [xi (zi 7)], [xi (zi 30)], [xi (zi 12)], [xi (zi 3)]] (Jc [i0, (zi 31), (zi 1), (zi 15), (zi 16), (zi 7), (zi 30), (zi 12), (zi 3)]) (.ask (in1 r1 (((Jc [i0, (zi 31), (zi 1), (zi 15), (zi 16), (zi 7), (zi 30), (zi 12), (zi 3)]).length : Nat) : Int)) (in1 r1 (([i0, (zi 31), (zi 1), (zi 15), (zi 16), (zi 7), (zi 30), (zi 12), (zi 3)].length : Nat) : Int)) (.row ((Jc [i0, (zi 31), (zi 1), (zi 15), (zi 16), (zi 7), (zi 30), (zi 12), (zi 3)])[(Int.toNat r1)]?) ([i0, (zi 31), (zi 1), (zi 15), (zi 16), (zi 7), (zi 30), (zi 12), (zi 3)][(Int.toNat r1)]?) Xq fun (e6 : Int) => (rt Qm e6)) .fail))) (.as (eqS a0 s_U5) (.rows [[xi i0], [xi (zi 31)], [xi (zi 1)], [xi (zi 15)], [xi (zi 16)], [xi (zi 7)], [xi (zi 30)], [xi (zi 12)], [xi (zi 3)]] (Jc [i0, (zi 31), (zi 1), (zi 15), (zi 16), (zi 7), (zi 30), (zi 12), (zi 3)]) (.ask (in1 r1 (((Jc [i0, (zi 31), (zi 1), (zi 15), (zi 16), (zi 7), (zi 30), (zi 12), (zi 3)]).length : Nat) : Int)) (in1 r1 (([i0, (zi 31), (zi 1), (zi 15), (zi 16), (zi 7), (zi 30), (zi 12), (zi 3)].length : Nat) : Int)) (.row ((Jc [i0, (zi 31), (zi 1), (zi 15), (zi 16), (zi 7), (zi 30), (zi 12), (zi 3)])[(Int.toNat r1)]?) ([i0, (zi 31), (zi 1), (zi 15), (zi 16), (zi 7), (zi 30), (zi 12), (zi 3)][(Int.toNat r1)]?) Xq fun (e7 : Int) => (rt Qm e7)) .fail)) (.as (eqS a0 s_U7) (.rows [[xi i0], [xi (zi 127)], [xi (zi 64)], [xi (zi 1)], [xi (zi 63)], [xi (zi 100)], [xi (zi 7)], [xi (zi 15)], [xi (zi 16)]] (Jc [i0, (zi 127), (zi 64), (zi 1), (zi 63), (zi 100), (zi 7), (zi 15), (zi 16)]) (.ask (in1 r1 (((Jc [i0, (zi 127), (zi 64), (zi 1), (zi 63), (zi 100), (zi 7), (zi 15), (zi 16)]).length : Nat) : Int)) (in1 r1 (([i0, (zi 127), (zi 64), (zi 1), (zi 63), (zi 100), (zi 7), (zi 15), (zi 16)].length : Nat) : Int)) (.row ((Jc [i0, (zi 127), (zi 64), (zi 1), (zi 63), (zi 100), (zi 7), (zi 15), (zi 16)])[(Int.toNat r1)]?) ([i0, (zi 127), (zi 64), (zi 1), (zi 63), (zi 100), (zi 7), (zi 15), (zi 16)][(Int.toNat r1)]?) Xq fun (e8 : Int) => (rt Qm e8)) .fail)) (.as (eqS a0 s_O5) (.rows [[xi (zi 1)], [xi (zi 32)], [xi (zi 2)], [xi (zi 16)], [xi (zi 31)], [xi (zi 17)], [xi (zi 8)], [xi (zi 5)], [xi (zi 30)]] (Jc [(zi 1), (zi 32), (zi 2), (zi 16), (zi 31), (zi 17), (zi 8), (zi 5), (zi 30)]) (.ask (in1 r1 (((Jc [(zi 1), (zi 32), (zi 2), (zi 16), (zi 31), (zi 17), (zi 8), (zi 5), (zi 30)]).length : Nat) : Int)) (in1 r1 (([(zi 1), (zi 32), (zi 2), (zi 16), (zi 31), (zi 17), (zi 8), (zi 5), (zi 30)].length : Nat) : Int)) (.row ((Jc [(zi 1), (zi 32), (zi 2), (zi 16), (zi 31), (zi 17), (zi 8), (zi 5), (zi 30)])[(Int.toNat r1)]?) ([(zi 1), (zi 32), (zi 2), (zi 16), (zi 31), (zi 17), (zi 8), (zi 5), (zi 30)][(Int.toNat r1)]?) Xq fun (e9 : Int) => (rt Qm e9)) .fail)) (let u97 := (eqS a0 s_M1); .as u97 (.yes u97 (.rows [[xi i0], [xi (zi 15)], [xi (zi 1)], [xi (zi 7)], [xi (zi 8)], [xi (zi 4)], [xi (zi 12)], [xi (zi 3)], [xi (zi 14)]] (Jc [i0, (zi 15), (zi 1), (zi 7), (zi 8), (zi 4), (zi 12), (zi 3), (zi 14)]) (.ask (in1 r1 (((Jc [i0, (zi 15), (zi 1), (zi 7), (zi 8), (zi 4), (zi 12), (zi 3), (zi 14)]).length : Nat) : Int)) (in1 r1 (([i0, (zi 15), (zi 1), (zi 7), (zi 8), (zi 4), (zi 12), (zi 3), (zi 14)].length : Nat) : Int)) (.row ((Jc [i0, (zi 15), (zi 1), (zi 7), (zi 8), (zi 4), (zi 12), (zi 3), (zi 14)])[(Int.toNat r1)]?) ([i0, (zi 15), (zi 1), (zi 7), (zi 8), (zi 4), (zi 12), (zi 3), (zi 14)][(Int.toNat r1)]?) Xq fun (e10 : Int) => (rt Qm e10)) .fail))) (.as (eqS a0 s_I4) (.rows [[xi i0], [xi (zi 15)], [xi (zi 1)], [xi (zi 7)], [xi (zi 8)], [xi (zi 4)], [xi (zi 12)], [xi (zi 3)], [xi (zi 14)]] (Jc [i0, (zi 15), (zi 1), (zi 7), (zi 8), (zi 4), (zi 12), (zi 3), (zi 14)]) (.ask (in1 r1 (((Jc [i0, (zi 15), (zi 1), (zi 7), (zi 8), (zi 4), (zi 12), (zi 3), (zi 14)]).length : Nat) : Int)) (in1 r1 (([i0, (zi 15), (zi 1), (zi 7), (zi 8), (zi 4), (zi 12), (zi 3), (zi 14)].length : Nat) : Int)) (.row ((Jc [i0, (zi 15), (zi 1), (zi 7), (zi 8), (zi 4), (zi 12), (zi 3), (zi 14)])[(Int.toNat r1)]?) ([i0, (zi 15), (zi 1), (zi 7), (zi 8), (zi 4), (zi 12), (zi 3), (zi 14)][(Int.toNat r1)]?) Xq fun (e11 : Int) => (rt Qm e11)) .fail)) (.as (eqS a0 s_M2) (.rows [[xi i0], [xi (zi 15)], [xi (zi 1)], [xi (zi 7)], [xi (zi 8)], [xi (zi 4)], [xi (zi 12)], [xi (zi 3)], [xi (zi 14)]] (Jc [i0, (zi 15), (zi 1), (zi 7), (zi 8), (zi 4), (zi 12), (zi 3), (zi 14)]) (.ask (in1 r1 (((Jc [i0, (zi 15), (zi 1), (zi 7), (zi 8), (zi 4), (zi 12), (zi 3), (zi 14)]).length : Nat) : Int)) (in1 r1 (([i0, (zi 15), (zi 1), (zi 7), (zi 8), (zi 4), (zi 12), (zi 3), (zi 14)].length : Nat) : Int)) (.row ((Jc [i0, (zi 15), (zi 1), (zi 7), (zi 8), (zi 4), (zi 12), (zi 3), (zi 14)])[(Int.toNat r1)]?) ([i0, (zi 15), (zi 1), (zi 7), (zi 8), (zi 4), (zi 12), (zi 3), (zi 14)][(Int.toNat r1)]?) Xq fun (e12 : Int) => (rt Qm (w64 ((zi 2) * e12)))) .fail)) (.as (eqS a0 s_M4) (.rows [[xi i0], [xi (zi 15)], [xi (zi 1)], [xi (zi 7)], [xi (zi 8)], [xi (zi 4)], [xi (zi 12)], [xi (zi 3)], [xi (zi 14)]] (Jc [i0, (zi 15), (zi 1), (zi 7), (zi 8), (zi 4), (zi 12), (zi 3), (zi 14)]) (.ask (in1 r1 (((Jc [i0, (zi 15), (zi 1), (zi 7), (zi 8), (zi 4), (zi 12), (zi 3), (zi 14)]).length : Nat) : Int)) (in1 r1 (([i0, (zi 15), (zi 1), (zi 7), (zi 8), (zi 4), (zi 12), (zi 3), (zi 14)].length : Nat) : Int)) (.row ((Jc [i0, (zi 15), (zi 1), (zi 7), (zi 8), (zi 4), (zi 12), (zi 3), (zi 14)])[(Int.toNat r1)]?) ([i0, (zi 15), (zi 1), (zi 7), (zi 8), (zi 4), (zi 12), (zi 3), (zi 14)][(Int.toNat r1)]?) Xq fun (e13 : Int) => (rt Qm (w64 ((zi 4) * e13)))) .fail)) (.as (eqS a0 s_O1) (Yv a1 (zi 2) fun r14 => (rt Qm r14)) (let u96 := (eqS a0 s_I2); .as u96 (.yes u96 (Yv a1 (zi 4) fun r15 => (rt Qm r15))) (.as (eqS a0 s_O2) (Yv a1 (zi 4) fun r16 => (rt Qm r16)) (.as (eqS a0 s_T8) (Yv a1 (zi 256) fun r17 => (rt Qm (w64 ((zi 2) * (w64 (r17 - 128)))))) (.as (eqS a0 Qsx) (.rows [[xi i0], [xi (zi 32767)], [xi (-32768 : Int)], [xi (-1 : Int)], [xi (zi 1)], [xi (zi 255)], [xi (-256 : Int)], [xi (zi 4660)], [xi (-4660 : Int)]] (Jc [i0, (zi 32767), (-32768 : Int), (-1 : Int), (zi 1), (zi 255), (-256 : Int), (zi 4660), (-4660 : Int)]) (.ask (in1 r1 (((Jc [i0, (zi 32767), (-32768 : Int), (-1 : Int), (zi 1), (zi 255), (-256 : Int), (zi 4660), (-4660 : Int)]).length : Nat) : Int)) (in1 r1 (([i0, (zi 32767), (-32768 : Int), (-1 : Int), (zi 1), (zi 255), (-256 : Int), (zi 4660), (-4660 : Int)].length : Nat) : Int)) (.row ((Jc [i0, (zi 32767), (-32768 : Int), (-1 : Int), (zi 1), (zi 255), (-256 : Int), (zi 4660), (-4660 : Int)])[(Int.toNat r1)]?) ([i0, (zi 32767), (-32768 : Int), (-1 : Int), (zi 1), (zi 255), (-256 : Int), (zi 4660), (-4660 : Int)][(Int.toNat r1)]?) Xq fun (e18 : Int) => (rt Qm e18)) .fail)) (.as (eqS a0 Qsw) (Yv a1 (zi 1048576) fun r19 => (rt Qm (w64 (r19 - 524288)))) (.as (eqS a0 Qsy) (Yv a1 (zi 32768) fun r20 => (rt Qm (w64 ((zi 2) * (w64 (r20 - 16384)))))) (.as (eqS a0 Ez) (Yv a1 (zi 16777216) fun r21 => (rt Qm (w64 ((zi 2) * (w64 (r21 - 8388608)))))) (.rows [[xi i0], [xi (zi 255)], [xi (zi 256)], [xi (zi 65280)], [xi (-1 : Int)], [xi (-2 : Int)], [xi (zi 16711680)], [xi (-256 : Int)], [xi (zi 2130706432)]] (Jc [i0, (zi 255), (zi 256), (zi 65280), (-1 : Int), (-2 : Int), (zi 16711680), (-256 : Int), (zi 2130706432)]) (.ask (in1 r1 (((Jc [i0, (zi 255), (zi 256), (zi 65280), (-1 : Int), (-2 : Int), (zi 16711680), (-256 : Int), (zi 2130706432)]).length : Nat) : Int)) (in1 r1 (([i0, (zi 255), (zi 256), (zi 65280), (-1 : Int), (-2 : Int), (zi 16711680), (-256 : Int), (zi 2130706432)].length : Nat) : Int)) (.row ((Jc [i0, (zi 255), (zi 256), (zi 65280), (-1 : Int), (-2 : Int), (zi 16711680), (-256 : Int), (zi 2130706432)])[(Int.toNat r1)]?) ([i0, (zi 255), (zi 256), (zi 65280), (-1 : Int), (-2 : Int), (zi 16711680), (-256 : Int), (zi 2130706432)][(Int.toNat r1)]?) Xq fun (e22 : Int) => (rt Qm e22)) .fail)))))))))))))))))))))))
theorem Wk.ok {a0 : ByteArray} {a1 : Int} {r : Int} (h : Wk a0 a1 = some r) : ww 85 [xs a0, xi a1] [] = some (Qm r) := by
 refine fnP (QmQ a0 a1) ?_ h
 exact fun r1 h => ⟨Wb.ok h, ⟨rfl, fun q0 => ⟨q0, ⟨(Us [(0 : Int), (1 : Int), (7 : Int), (24 : Int), (31 : Int), (5 : Int), (28 : Int), (3 : Int), (30 : Int)]), ⟨(by rw [Vp]), fun q1 => fun e2 h => ⟨Vy h, rfl⟩, fun q1 => trivial⟩⟩⟩, fun q0 => ⟨rfl, fun q1 => ⟨(Us [(0 : Int), (1 : Int), (7 : Int), (24 : Int), (31 : Int), (5 : Int), (28 : Int), (3 : Int), (30 : Int)]), ⟨(by rw [Vp]), fun q2 => fun e3 h => ⟨Vy h, rfl⟩, fun q2 => trivial⟩⟩, fun q1 => ⟨rfl, fun q2 => ⟨q2, ⟨(Us [(0 : Int), (31 : Int), (1 : Int), (15 : Int), (16 : Int), (7 : Int), (30 : Int), (12 : Int), (3 : Int)]), ⟨(by rw [Vp]), fun q3 => fun e4 h => ⟨Vy h, rfl⟩, fun q3 => trivial⟩⟩⟩, fun q2 => ⟨rfl, fun q3 => ⟨q3, ⟨(Us [(0 : Int), (31 : Int), (1 : Int), (15 : Int), (16 : Int), (7 : Int), (30 : Int), (12 : Int), (3 : Int)]), ⟨(by rw [Vp]), fun q4 => fun e5 h => ⟨Vy h, rfl⟩, fun q4 => trivial⟩⟩⟩, fun q3 => ⟨rfl, fun q4 => ⟨q4, ⟨(Us [(0 : Int), (31 : Int), (1 : Int), (15 : Int), (16 : Int), (7 : Int), (30 : Int), (12 : Int), (3 : Int)]), ⟨(by rw [Vp]), fun q5 => fun e6 h => ⟨Vy h, rfl⟩, fun q5 => trivial⟩⟩⟩, fun q4 => ⟨rfl, fun q5 => ⟨(Us [(0 : Int), (31 : Int), (1 : Int), (15 : Int), (16 : Int), (7 : Int), (30 : Int), (12 : Int), (3 : Int)]), ⟨(by rw [Vp]), fun q6 => fun e7 h => ⟨Vy h, rfl⟩, fun q6 => trivial⟩⟩, fun q5 => ⟨rfl, fun q6 => ⟨(Us [(0 : Int), (127 : Int), (64 : Int), (1 : Int), (63 : Int), (100 : Int), (7 : Int), (15 : Int), (16 : Int)]), ⟨(by rw [Vp]), fun q7 => fun e8 h => ⟨Vy h, rfl⟩, fun q7 => trivial⟩⟩, fun q6 => ⟨rfl, fun q7 => ⟨(Us [(1 : Int), (32 : Int), (2 : Int), (16 : Int), (31 : Int), (17 : Int), (8 : Int), (5 : Int), (30 : Int)]), ⟨(by rw [Vp]), fun q8 => fun e9 h => ⟨Vy h, rfl⟩, fun q8 => trivial⟩⟩, fun q7 => ⟨rfl, fun q8 => ⟨q8, ⟨(Us [(0 : Int), (15 : Int), (1 : Int), (7 : Int), (8 : Int), (4 : Int), (12 : Int), (3 : Int), (14 : Int)]), ⟨(by rw [Vp]), fun q9 => fun e10 h => ⟨Vy h, rfl⟩, fun q9 => trivial⟩⟩⟩, fun q8 => ⟨rfl, fun q9 => ⟨(Us [(0 : Int), (15 : Int), (1 : Int), (7 : Int), (8 : Int), (4 : Int), (12 : Int), (3 : Int), (14 : Int)]), ⟨(by rw [Vp]), fun q10 => fun e11 h => ⟨Vy h, rfl⟩, fun q10 => trivial⟩⟩, fun q9 => ⟨rfl, fun q10 => ⟨(Us [(0 : Int), (15 : Int), (1 : Int), (7 : Int), (8 : Int), (4 : Int), (12 : Int), (3 : Int), (14 : Int)]), ⟨(by rw [Vp]), fun q11 => fun e12 h => ⟨Vy h, rfl⟩, fun q11 => trivial⟩⟩, fun q10 => ⟨rfl, fun q11 => ⟨(Us [(0 : Int), (15 : Int), (1 : Int), (7 : Int), (8 : Int), (4 : Int), (12 : Int), (3 : Int), (14 : Int)]), ⟨(by rw [Vp]), fun q12 => fun e13 h => ⟨Vy h, rfl⟩, fun q12 => trivial⟩⟩, fun q11 => ⟨rfl, fun q12 => fun r14 h => ⟨Wb.ok h, rfl⟩, fun q12 => ⟨rfl, fun q13 => ⟨q13, fun r15 h => ⟨Wb.ok h, rfl⟩⟩, fun q13 => ⟨rfl, fun q14 => fun r16 h => ⟨Wb.ok h, rfl⟩, fun q14 => ⟨rfl, fun q15 => fun r17 h => ⟨Wb.ok h, rfl⟩, fun q15 => ⟨rfl, fun q16 => ⟨(Us [(0 : Int), (32767 : Int), (-32768 : Int), (-1 : Int), (1 : Int), (255 : Int), (-256 : Int), (4660 : Int), (-4660 : Int)]), ⟨(by rw [Vp]), fun q17 => fun e18 h => ⟨Vy h, rfl⟩, fun q17 => trivial⟩⟩, fun q16 => ⟨rfl, fun q17 => fun r19 h => ⟨Wb.ok h, rfl⟩, fun q17 => ⟨rfl, fun q18 => fun r20 h => ⟨Wb.ok h, rfl⟩, fun q18 => ⟨rfl, fun q19 => fun r21 h => ⟨Wb.ok h, rfl⟩, fun q19 => ⟨(Us [(0 : Int), (255 : Int), (256 : Int), (65280 : Int), (-1 : Int), (-2 : Int), (16711680 : Int), (-256 : Int), (2130706432 : Int)]), ⟨(by rw [Vp]), fun q20 => fun e22 h => ⟨Vy h, rfl⟩, fun q20 => trivial⟩⟩⟩⟩⟩⟩⟩⟩⟩⟩⟩⟩⟩⟩⟩⟩⟩⟩⟩⟩⟩⟩⟩
noncomputable abbrev Qbb {ρ R : Type} (a0 : ByteArray) (a1 : Int) (k : Int → Tr ρ R) : Tr ρ R := .call (ww 85 [xs a0, xi a1] []) (Wk a0 a1) Qm k
abbrev Z1 := Int → Int → Option Int
def QhB (a0 : Int) (a1 : Int) : Option Int := (bif (decide (a1 ≠ 0)) then (bif (decide ((Int.tmod a0 a1) < 0)) then (some (w64 ((Int.tmod a0 a1) + a1))) else (some (Int.tmod a0 a1))) else none)
noncomputable def Vq : Z1 := QhB
theorem Vq.eq (a0 : Int) (a1 : Int) : Vq a0 a1 = QhB a0 a1 := rfl
noncomputable def Qod (a0 : Int) (a1 : Int) : Tr Int AH := (.as (decide (a1 ≠ 0)) (.as (decide ((Int.tmod a0 a1) < 0)) (rt Qm (w64 ((Int.tmod a0 a1) + a1))) (rt Qm (Int.tmod a0 a1))) .fail)
theorem Vq.ok {a0 : Int} {a1 : Int} {r : Int} (h : Vq a0 a1 = some r) : ww 161 [xi a0, xi a1] [] = some (Qm r) := by
 refine fnP (Qod a0 a1) ?_ h
 exact ⟨rfl, fun q0 => ⟨rfl, fun q1 => rfl, fun q1 => rfl⟩, fun q0 => trivial⟩
noncomputable abbrev PT {ρ R : Type} (a0 : Int) (a1 : Int) (k : Int → Tr ρ R) : Tr ρ R := .call (ww 161 [xi a0, xi a1] []) (Vq a0 a1) Qm k
abbrev QbJ := Option (List ByteArray)
def Qjj : Option (List ByteArray) := (some [P2, s_x, EU, s_r])
noncomputable def Zp : QbJ := Qjj
theorem Zp.eq : Zp = Qjj := rfl
noncomputable def QpM : Tr (List ByteArray) AH := (.rows [[xs P2], [xs s_x], [xs EU], [xs s_r]] (Qg [P2, s_x, EU, s_r]) (rt Jd [P2, s_x, EU, s_r]))
theorem Zp.ok {r : (List ByteArray)} (h : Zp = some r) : ww 162 [] [] = some (Jd r) := by
 refine fnP (QpM) ?_ h
 exact ⟨(QS [P2, s_x, EU, s_r]), rfl⟩
noncomputable abbrev QpN {ρ R : Type} (k : (List ByteArray) → Tr ρ R) : Tr ρ R := .call (ww 162 [] []) (Zp) Jd k
def UF (r : Qa) : AV × Heap := (.agg (Q3 r), [])
abbrev ZL := QC → Int → Option Qa
abbrev QmR (c : ZL) : Prop := ∀ (a0 : QC) (a1 : Int) (r : Qa), c a0 a1 = some r → ww 163 [.agg (XN a0), xi a1] [] = some (UF r)
abbrev YP := QC → Option Qa
abbrev QmS (c : YP) : Prop := ∀ (a0 : QC) (r : Qa), c a0 = some r → ww 108 [.agg (XN a0)] [] = some (UF r)
noncomputable abbrev SF {ρ R : Type} (c : ZL) (a0 : QC) (a1 : Int) (k : Qa → Tr ρ R) : Tr ρ R := .call (ww 163 [.agg (XN a0), xi a1] []) (c a0 a1) UF k
noncomputable abbrev Qen {ρ R : Type} (c : YP) (a0 : QC) (k : Qa → Tr ρ R) : Tr ρ R := .call (ww 108 [.agg (XN a0)] []) (c a0) UF k
def Y2 (C0 : YP) (C1 : Z1) (a0 : QC) (a1 : Int) : Option Qa := (bif (decide (a1 < (((a0.L.length) : Nat) : Int))) then (bif (decide (0 ≤ a1)) then ((a0.L[(Int.toNat a1)]?).bind fun e1 => ((C0 e1).bind fun r2 => (some r2))) else none) else ((C1 (w64 (a0.N + a1)) (5 : Int)).bind fun r3 => (some (Qa.mk (1 : Int) r3 s_ ([] : List Qa)))))
theorem Qeo {C0 : Nat → YP} {D0 : YP} (H0 : Cv1 C0 D0) {C1 : Nat → Z1} {D1 : Z1} (H1 : Cv2 C1 D1) (a0 : QC) (a1 : Int) : Cv (fun k => Y2 (C0 k) (C1 k) a0 a1) (Y2 D0 D1 a0 a1) := by
 unfold Y2
 exact .cond (.cond (.bind (.const _) fun e1 => .bind (H0 _) fun r2 => by exact .const _) cst) (.bind (H1 _ _) fun r3 => by exact .const _)
noncomputable def QlK (C0 : YP) (a0 : QC) (a1 : Int) : Tr Qa AH := (.num ((UW a0.L).length) (a0.L.length) (.as (decide (a1 < (((a0.L.length) : Nat) : Int))) (.as (decide (0 ≤ a1)) (.row ((UW a0.L)[(Int.toNat a1)]?) (a0.L[(Int.toNat a1)]?) XN fun (e1 : QC) => (Qen C0 e1 fun r2 => (rt UF r2))) .fail) (PT (w64 (a0.N + a1)) (zi 5) fun r3 => (rt UF (Qa.mk (zi 1) r3 s_ ([] : List Qa))))))
def Y3 (C0 : Z1) (C1 : QbJ) (C2 : ZL) (a0 : QC) : Option Qa := ((C0 a0.K (18 : Int)).bind fun r1 => (bif (decide (r1 < 4)) then ((C0 a0.N (8 : Int)).bind fun r2 => (bif (decide (0 ≤ r2 ∧ r2 < (([(0 : Int), (1 : Int), (2 : Int), (255 : Int), (65536 : Int), (4294967295 : Int), (40 : Int), (7 : Int)].length : Nat) : Int))) then (([(0 : Int), (1 : Int), (2 : Int), (255 : Int), (65536 : Int), (4294967295 : Int), (40 : Int), (7 : Int)][(Int.toNat r2)]?).bind fun e3 => (some (Qa.mk (1 : Int) e3 s_ ([] : List Qa)))) else none)) else (bif (decide (r1 < 8)) then ((C1).bind fun r4 => ((C0 a0.N (4 : Int)).bind fun r5 => (bif (decide (0 ≤ r5)) then ((r4[(Int.toNat r5)]?).bind fun e6 => (some (Qa.mk (2 : Int) (0 : Int) e6 ([] : List Qa)))) else none))) else (bif (r1 == 8) then (some (Qa.mk (3 : Int) (0 : Int) s_ ([] : List Qa))) else (bif (decide (r1 < 11)) then ((C2 a0 (0 : Int)).bind fun r7 => (some (Qa.mk (4 : Int) (0 : Int) s_ [r7]))) else ((C2 a0 (0 : Int)).bind fun r8 => ((C2 a0 (1 : Int)).bind fun r9 => (some (Qa.mk (w64 ((w64 ((5 : Int) + r1)) - 11)) (0 : Int) s_ [r8, r9])))))))))
theorem Qep {C0 : Nat → Z1} {D0 : Z1} (H0 : Cv2 C0 D0) {C1 : Nat → QbJ} {D1 : QbJ} (H1 : Cv C1 D1) {C2 : Nat → ZL} {D2 : ZL} (H2 : Cv2 C2 D2) (a0 : QC) : Cv (fun k => Y3 (C0 k) (C1 k) (C2 k) a0) (Y3 D0 D1 D2 a0) := by
 unfold Y3
 exact .bind (H0 _ _) fun r1 => .cond (.bind (H0 _ _) fun r2 => by exact .const _) (.cond (.bind (H1) fun r4 => .bind (H0 _ _) fun r5 => by exact .const _) (.cond cst (.cond (.bind (H2 _ _) fun r7 => by exact .const _) (.bind (H2 _ _) fun r8 => .bind (H2 _ _) fun r9 => by exact .const _))))
noncomputable def QlL (C0 : ZL) (a0 : QC) : Tr Qa AH := (PT a0.K (zi 18) fun r1 => (.as (decide (r1 < 4)) (.rows [[xi i0], [xi (zi 1)], [xi (zi 2)], [xi (zi 255)], [xi (zi 65536)], [xi (zi 4294967295)], [xi (zi 40)], [xi (zi 7)]] (Jc [i0, (zi 1), (zi 2), (zi 255), (zi 65536), (zi 4294967295), (zi 40), (zi 7)]) (PT a0.N (zi 8) fun r2 => (.ask (in1 r2 (((Jc [i0, (zi 1), (zi 2), (zi 255), (zi 65536), (zi 4294967295), (zi 40), (zi 7)]).length : Nat) : Int)) (in1 r2 (([i0, (zi 1), (zi 2), (zi 255), (zi 65536), (zi 4294967295), (zi 40), (zi 7)].length : Nat) : Int)) (.row ((Jc [i0, (zi 1), (zi 2), (zi 255), (zi 65536), (zi 4294967295), (zi 40), (zi 7)])[(Int.toNat r2)]?) ([i0, (zi 1), (zi 2), (zi 255), (zi 65536), (zi 4294967295), (zi 40), (zi 7)][(Int.toNat r2)]?) Xq fun (e3 : Int) => (rt UF (Qa.mk (zi 1) e3 s_ ([] : List Qa)))) .fail))) (.as (decide (r1 < 8)) (QpN fun r4 => (PT a0.N (zi 4) fun r5 => (.as (decide (0 ≤ r5)) (.row ((Qg r4)[(Int.toNat r5)]?) (r4[(Int.toNat r5)]?) Q2 fun (e6 : ByteArray) => (rt UF (Qa.mk (zi 2) i0 e6 ([] : List Qa)))) .fail))) (.as (r1 == 8) (rt UF (Qa.mk (zi 3) i0 s_ ([] : List Qa))) (.as (decide (r1 < 11)) (SF C0 a0 i0 fun r7 => (.rows [[xi r7.Kind, xi r7.N, xs r7.Name, .sl (QN r7.L)]] (QN [r7]) (rt UF (Qa.mk (zi 4) i0 s_ [r7])))) (SF C0 a0 i0 fun r8 => (SF C0 a0 (zi 1) fun r9 => (.rows [[xi r8.Kind, xi r8.N, xs r8.Name, .sl (QN r8.L)], [xi r9.Kind, xi r9.N, xs r9.Name, .sl (QN r9.L)]] (QN [r8, r9]) (rt UF (Qa.mk (w64 ((w64 ((zi 5) + r1)) - 11)) i0 s_ [r8, r9]))))))))))
mutual
noncomputable def UJ.s : Nat → QC → Int → Option Qa
 | 0, _, _ => none
 | k + 1, a0, a1 => Y2 (fun a0 => JS.s k a0) Vq a0 a1
termination_by structural k => k
noncomputable def JS.s : Nat → QC → Option Qa
 | 0, _ => none
 | k + 1, a0 => Y3 Vq Zp (fun a0 a1 => UJ.s k a0 a1) a0
termination_by structural k => k
end
theorem QbK : ∀ (k : Nat), (QmR (UJ.s k)) ∧ (QmS (JS.s k))
 | 0 => ⟨fun _ _ _ h => (nomatch h), fun _ _ h => (nomatch h)⟩
 | k + 1 => by
  obtain ⟨i_w3_Raw_part, i_w3_Raw_Make⟩ := QbK k
  exact ⟨fun a0 a1 r h => by
    refine fnP (QlK (JS.s k) a0 a1) ?_ h
    exact ⟨(Gn _), ⟨rfl, fun q0 => ⟨rfl, fun q1 => fun e1 h => ⟨Qau h, fun r2 h => ⟨i_w3_Raw_Make _ _ h, rfl⟩⟩, fun q1 => trivial⟩, fun q0 => fun r3 h => ⟨Vq.ok h, rfl⟩⟩⟩,
   fun a0 r h => by
    refine fnP (QlL (UJ.s k) a0) ?_ h
    exact fun r1 h => ⟨Vq.ok h, ⟨rfl, fun q0 => ⟨(Us [(0 : Int), (1 : Int), (2 : Int), (255 : Int), (65536 : Int), (4294967295 : Int), (40 : Int), (7 : Int)]), fun r2 h => ⟨Vq.ok h, ⟨(by rw [Vp]), fun q1 => fun e3 h => ⟨Vy h, rfl⟩, fun q1 => trivial⟩⟩⟩, fun q0 => ⟨rfl, fun q1 => fun r4 h => ⟨Zp.ok h, fun r5 h => ⟨Vq.ok h, ⟨rfl, fun q2 => fun e6 h => ⟨QT h, rfl⟩, fun q2 => trivial⟩⟩⟩, fun q1 => ⟨rfl, fun q2 => rfl, fun q2 => ⟨rfl, fun q3 => fun r7 h => ⟨i_w3_Raw_part _ _ _ h, ⟨(Xh [r7]), rfl⟩⟩, fun q3 => fun r8 h => ⟨i_w3_Raw_part _ _ _ h, fun r9 h => ⟨i_w3_Raw_part _ _ _ h, ⟨(Xh [r8, r9]), rfl⟩⟩⟩⟩⟩⟩⟩⟩⟩
theorem EI : ∀ (k : Nat), (∀ (a0 : QC) (a1 : Int), Le (UJ.s k a0 a1) (UJ.s (k + 1) a0 a1)) ∧ (∀ (a0 : QC), Le (JS.s k a0) (JS.s (k + 1) a0))
 | 0 => ⟨fun _ _ _ h => (nomatch h), fun _ _ h => (nomatch h)⟩
 | k + 1 => by
  obtain ⟨i_w3_Raw_part, i_w3_Raw_Make⟩ := EI k
  exact ⟨fun a0 a1 => (Qeo (tw1 i_w3_Raw_Make) ks2 a0 a1).1 0,
   fun a0 => (Qep ks2 ks0 (tw2 i_w3_Raw_part) a0).1 0⟩
noncomputable def UJ (a0 : QC) (a1 : Int) : Option Qa := lim fun k => UJ.s k a0 a1
theorem UJ.cv (a0 : QC) (a1 : Int) : Cv (fun k => UJ.s k a0 a1) (UJ a0 a1) := .lim fun k => (EI k).1 a0 a1
noncomputable def JS (a0 : QC) : Option Qa := lim fun k => JS.s k a0
theorem JS.cv (a0 : QC) : Cv (fun k => JS.s k a0) (JS a0) := .lim fun k => (EI k).2 a0
theorem JS.ok {a0 : QC} {r : Qa} (h : JS a0 = some r) : ww 108 [.agg (XN a0)] [] = some (UF r) := let ⟨k, e⟩ := ((JS.cv a0).2 r).1 h; (QbK k).2 a0 _ e
theorem UJ.eq (a0 : QC) (a1 : Int) : UJ a0 a1 = Y2 JS Vq a0 a1 := Cv.uniq (UJ.cv a0 a1).shift (Qeo JS.cv ks2 a0 a1)
theorem JS.eq (a0 : QC) : JS a0 = Y3 Vq Zp UJ a0 := Cv.uniq (JS.cv a0).shift (Qep ks2 ks0 UJ.cv a0)
noncomputable abbrev QlM {ρ R : Type} (a0 : QC) (k : Qa → Tr ρ R) : Tr ρ R := Qen JS a0 k
abbrev QgG := (List QC) → Option Qa
def Qid (C0 : YP) (a0 : (List QC)) : Option Qa := (bif ((((a0.length) : Nat) : Int) == 0) then (some (Qa.mk (1 : Int) (1 : Int) s_ ([] : List Qa))) else ((a0[(Int.toNat 0)]?).bind fun e1 => ((C0 e1).bind fun r2 => (some r2))))
noncomputable def XJ : QgG := Qid JS
theorem XJ.eq (a0 : (List QC)) : XJ a0 = Qid JS a0 := rfl
noncomputable def QrN (a0 : (List QC)) : Tr Qa AH := (.num ((UW a0).length) (a0.length) (.as ((((a0.length) : Nat) : Int) == 0) (rt UF (Qa.mk (zi 1) (zi 1) s_ ([] : List Qa))) (.yes (decide (0 ≤ i0)) (.row ((UW a0)[(Int.toNat 0)]?) (a0[(Int.toNat 0)]?) XN fun (e1 : QC) => (QlM e1 fun r2 => (rt UF r2))))))
theorem XJ.ok {a0 : (List QC)} {r : Qa} (h : XJ a0 = some r) : ww 66 [.sl (UW a0)] [] = some (UF r) := by
 refine fnP (QrN a0) ?_ h
 exact ⟨(Gn _), ⟨rfl, fun q0 => rfl, fun q0 => ⟨rfl, fun e1 h => ⟨Qau h, fun r2 h => ⟨JS.ok h, rfl⟩⟩⟩⟩⟩
noncomputable abbrev Qie {ρ R : Type} (a0 : (List QC)) (k : Qa → Tr ρ R) : Tr ρ R := .call (ww 66 [.sl (UW a0)] []) (XJ a0) UF k
abbrev Qac := Option (List ByteArray)
def QhC : Option (List ByteArray) := (some [s_a, s_b1, Fd, s_x])
noncomputable def JA : Qac := QhC
theorem JA.eq : JA = QhC := rfl
noncomputable def Qoe : Tr (List ByteArray) AH := (.rows [[xs s_a], [xs s_b1], [xs Fd], [xs s_x]] (Qg [s_a, s_b1, Fd, s_x]) (rt Jd [s_a, s_b1, Fd, s_x]))
theorem JA.ok {r : (List ByteArray)} (h : JA = some r) : ww 64 [] [] = some (Jd r) := by
 refine fnP (Qoe) ?_ h
 exact ⟨(QS [s_a, s_b1, Fd, s_x]), rfl⟩
noncomputable abbrev Vt {ρ R : Type} (k : (List ByteArray) → Tr ρ R) : Tr ρ R := .call (ww 64 [] []) (JA) Jd k
abbrev Xv := Int → Option ByteArray
abbrev Qjk (c : Xv) : Prop := ∀ (a0 : Int) (r : ByteArray), c a0 = some r → ww 40 [xi a0] [] = some (Qk r)
noncomputable abbrev PU {ρ R : Type} (c : Xv) (a0 : Int) (k : ByteArray → Tr ρ R) : Tr ρ R := .call (ww 40 [xi a0] []) (c a0) Qk k
def Zq (C0 : Xv) (a0 : Int) : Option ByteArray := (bif (decide (a0 < 0)) then ((C0 (w64 ((0 : Int) - a0))).bind fun r1 => (bif (decide (((h_2d.size + r1.size : Nat) : Int) ≤ IntKind.i64.max)) then (some (h_2d ++ r1)) else none)) else (bif (decide (a0 ≥ 10)) then ((C0 (w64 (Int.tdiv a0 (10 : Int)))).bind fun r2 => ((C0 (Int.tmod a0 (10 : Int))).bind fun r3 => (bif (decide (((r2.size + r3.size : Nat) : Int) ≤ IntKind.i64.max)) then (some (r2 ++ r3)) else none))) else ((some (listB [(IntKind.u8.wrap (w64 ((48 : Int) + a0)))])).bind fun e4 => (some (⟨e4.toArray⟩ : ByteArray)))))
theorem QhD {C0 : Nat → Xv} {D0 : Xv} (H0 : Cv1 C0 D0) (a0 : Int) : Cv (fun k => Zq (C0 k) a0) (Zq D0 a0) := by
 unfold Zq
 exact .cond (.bind (H0 _) fun r1 => by exact .const _) (.cond (.bind (H0 _) fun r2 => .bind (H0 _) fun r3 => by exact .const _) cst)
noncomputable def Qof (C0 : Xv) (a0 : Int) : Tr ByteArray AH := (.as (decide (a0 < 0)) (PU C0 (w64 (i0 - a0)) fun r1 => (.as (decide (((h_2d.size + r1.size : Nat) : Int) ≤ IntKind.i64.max)) (rt Qk (h_2d ++ r1)) .fail)) (.as (decide (a0 ≥ 10)) (.yes (decide ((zi 10) ≠ 0)) (PU C0 (w64 (Int.tdiv a0 (zi 10))) fun r2 => (.yes (decide ((zi 10) ≠ 0)) (PU C0 (Int.tmod a0 (zi 10)) fun r3 => (.as (decide (((r2.size + r3.size : Nat) : Int) ≤ IntKind.i64.max)) (rt Qk (r2 ++ r3)) .fail))))) (.rows [[xb (IntKind.u8.wrap (w64 ((zi 48) + a0)))]] (R_u8 [(IntKind.u8.wrap (w64 ((zi 48) + a0)))]) (.byt (bytesOfRows (R_u8 [(IntKind.u8.wrap (w64 ((zi 48) + a0)))])) (some (listB [(IntKind.u8.wrap (w64 ((zi 48) + a0)))])) fun (e4 : List UInt8) => (rt Qk (⟨e4.toArray⟩ : ByteArray))))))
noncomputable def Jn.s : Nat → Int → Option ByteArray
 | 0, _ => none
 | k + 1, a0 => Zq (fun a0 => Jn.s k a0) a0
termination_by structural k => k
theorem Qeq : ∀ (k : Nat), (Qjk (Jn.s k))
 | 0 => fun _ _ h => (nomatch h)
 | k + 1 => by
  have i_r3_Digits : Qjk (Jn.s k) := Qeq k
  exact fun a0 r h => by
    refine fnP (Qof (Jn.s k) a0) ?_ h
    exact ⟨rfl, fun q0 => fun r1 h => ⟨i_r3_Digits _ _ h, ⟨rfl, fun q1 => rfl, fun q1 => trivial⟩⟩, fun q0 => ⟨rfl, fun q1 => ⟨rfl, fun r2 h => ⟨i_r3_Digits _ _ h, ⟨rfl, fun r3 h => ⟨i_r3_Digits _ _ h, ⟨rfl, fun q2 => rfl, fun q2 => trivial⟩⟩⟩⟩⟩, fun q1 => ⟨(QrF [(IntKind.u8.wrap (w64 ((48 : Int) + a0)))]), fun e4 h => ⟨(Qqv _).trans h, rfl⟩⟩⟩⟩
theorem Qc3 : ∀ (k : Nat), (∀ (a0 : Int), Le (Jn.s k a0) (Jn.s (k + 1) a0))
 | 0 => fun _ _ h => (nomatch h)
 | k + 1 => by
  have i_r3_Digits : ∀ (a0 : Int), Le (Jn.s k a0) (Jn.s (k + 1) a0) := Qc3 k
  exact fun a0 => (QhD (tw1 i_r3_Digits) a0).1 0
noncomputable def Jn (a0 : Int) : Option ByteArray := lim fun k => Jn.s k a0
theorem Jn.cv (a0 : Int) : Cv (fun k => Jn.s k a0) (Jn a0) := .lim fun k => (Qc3 k) a0
theorem Jn.ok {a0 : Int} {r : ByteArray} (h : Jn a0 = some r) : ww 40 [xi a0] [] = some (Qk r) := let ⟨k, e⟩ := ((Jn.cv a0).2 r).1 h; (Qeq k) a0 _ e
theorem Jn.eq (a0 : Int) : Jn a0 = Zq Jn a0 := Cv.uniq (Jn.cv a0).shift (QhD Jn.cv a0)
noncomputable abbrev PV {ρ R : Type} (a0 : Int) (k : ByteArray → Tr ρ R) : Tr ρ R := PU Jn a0 k
def EJ (r : Qf) : AV × Heap := (.tup [], [(0, .box [] (Je r))])
abbrev FM := Qf → Option Qf
def Gg (a : Qf) : St := { n := 31, nx := 1, env := [(0, .ptr 0 0)], heap := [(0, .box [] (Je a))] }
def YU (a : Qf) : Ex × St := (.exit 0, { n := 31, nx := 1, env := [], heap := [(0, .box [] (Je a))] })
abbrev Sn := Qf → Option Qf
def YV (a : Qf) : Option (Qf ⊕ Qf) := (bif (decide (a.P < ((a.S.size : Nat) : Int))) then (bif (decide (0 ≤ a.P ∧ a.P < ((a.S.size : Nat) : Int))) then (bif (((a.S.data.getD (Int.toNat a.P) 0).toNat : Int) == 32) then (some (.inl (Qf.mk a.S (w64 (a.P + 1)) a.Deep a.Bad))) else (some (.inr a))) else none) else (some (.inr a)))
noncomputable def UG : Sn := loopW (YV )
theorem UG.eq (a : Qf) : UG a = (YV a).bind (Sum.elim UG some) := Jk _ _
noncomputable abbrev QeS {ρ R : Type} (a : Qf) (k0 : Qf → Tr ρ R) : Tr ρ R := .loop (loopAt pp 160 0) (Gg a) (UG a) YU k0
noncomputable def QeT (a : Qf) : Tr (Qf ⊕ Qf) XS := (let u102 := (decide (a.P < (zz a.S))); .as u102 (yesN 8 u102 (.as (in1 a.P (zz a.S)) (yesN 2 u102 (.as ((gb a.S a.P) == 32) (lf Gg (Qf.mk a.S (w64 (a.P + 1)) a.Deep a.Bad)) (rx YU a))) .fail)) (noN 10 u102 (.no false (rx YU a))))
theorem UG.ok {a : Qf} {r : Qf} (h : UG a = some r) : lw 1 160 (loopAt pp 160 0) (Gg a) = some (YU r) := by
 refine lpP h QeT fun a => ?_
 exact ⟨rfl, fun q0 => Qi 8 (q0) (⟨rfl, fun q1 => Qi 2 (q0) (⟨rfl, fun q2 => rfl, fun q2 => rfl⟩), fun q1 => trivial⟩), fun q0 => noN_ok 10 (q0) (⟨rfl, rfl⟩)⟩
def EK (L0 : Sn) (h0 : Qf) : Option Qf := ((L0 h0).bind (fun (o1 : Qf) => (some o1)))
noncomputable def US : FM := EK UG
theorem US.eq (h0 : Qf) : US h0 = EK UG h0 := rfl
noncomputable def Qif (h0 : Qf) : Tr Qf AH := (QeS h0 (fun o1 => (rt EJ o1)))
theorem US.ok {h0 : Qf} {r : Qf} (h : US h0 = some r) : ww 160 [.ptr 0 0] [(0, .box [] (Je h0))] = some (EJ r) := by
 refine fnP (Qif h0) ?_ h
 exact fun o1 h => ⟨UG.ok h, rfl⟩
noncomputable abbrev Qbc {ρ R : Type} (h0 : Qf) (k : Qf → Tr ρ R) : Tr ρ R := .call (ww 160 [.ptr 0 0] [(0, .box [] (Je h0))]) (US h0) EJ k
def ZM (r : (Bool × Qf)) : AV × Heap := (xo r.1, [(0, .box [] (Je r.2))])
abbrev XE := ByteArray → Qf → Option (Bool × Qf)
def Pu (C0 : FM) (a1 : ByteArray) (h0 : Qf) : Option (Bool × Qf) := ((C0 h0).bind fun r1 => (bif (decide ((w64 (r1.P + ((a1.size : Nat) : Int))) > ((r1.S.size : Nat) : Int))) then (some (false, r1)) else (bif (decide (0 ≤ r1.P ∧ r1.P ≤ (w64 (r1.P + ((a1.size : Nat) : Int))) ∧ (w64 (r1.P + ((a1.size : Nat) : Int))) ≤ ((r1.S.size : Nat) : Int))) then (bif (!(eqS (r1.S.extract (Int.toNat r1.P) (Int.toNat (w64 (r1.P + ((a1.size : Nat) : Int))))) a1)) then (some (false, r1)) else (some (true, (Qf.mk r1.S (w64 (r1.P + ((a1.size : Nat) : Int))) r1.Deep r1.Bad)))) else none)))
noncomputable def Uj : XE := Pu US
theorem Uj.eq (a1 : ByteArray) (h0 : Qf) : Uj a1 h0 = Pu US a1 h0 := rfl
noncomputable def Qkc (a1 : ByteArray) (h0 : Qf) : Tr (Bool × Qf) AH := (Qbc h0 fun r1 => (let u103 := (decide ((w64 (r1.P + (zz a1))) > (zz r1.S))); .as u103 (yesN 18 u103 (.yes true (rt ZM (false, r1)))) (noN 15 u103 (.as (in2 r1.P (w64 (r1.P + (zz a1))) (zz r1.S)) (noN 3 u103 (.as (!(eqS (cu r1.S r1.P (w64 (r1.P + (zz a1)))) a1)) (rt ZM (false, r1)) (rt ZM (true, (Qf.mk r1.S (w64 (r1.P + (zz a1))) r1.Deep r1.Bad))))) .fail))))
theorem Uj.ok {a1 : ByteArray} {h0 : Qf} {r : (Bool × Qf)} (h : Uj a1 h0 = some r) : ww 233 [.ptr 0 0, xs a1] [(0, .box [] (Je h0))] = some (ZM r) := by
 refine fnP (Qkc a1 h0) ?_ h
 exact fun r1 h => ⟨US.ok h, ⟨rfl, fun q0 => Qi 18 (q0) (⟨rfl, rfl⟩), fun q0 => noN_ok 15 (q0) (⟨rfl, fun q1 => noN_ok 3 (q0) (⟨rfl, fun q2 => rfl, fun q2 => rfl⟩), fun q1 => trivial⟩)⟩⟩
noncomputable abbrev YE {ρ R : Type} (a1 : ByteArray) (h0 : Qf) (k : (Bool × Qf) → Tr ρ R) : Tr ρ R := .call (ww 233 [.ptr 0 0, xs a1] [(0, .box [] (Je h0))]) (Uj a1 h0) ZM k
abbrev So := Int → Int → Option Int
def FN (a0 : Int) (a1 : Int) : Option Int := (bif (decide (a0 ≥ 48)) then (bif (decide (a0 ≤ (57 : Int))) then (some (w64 (IntKind.u8.wrap (a0 - 48)))) else (bif (a1 == 16) then (bif (decide (a0 ≥ 97)) then (bif (decide (a0 ≤ (102 : Int))) then (some (w64 ((w64 (IntKind.u8.wrap (a0 - 97))) + 10))) else (some (-1 : Int))) else (some (-1 : Int))) else (some (-1 : Int)))) else (bif (a1 == 16) then (bif (decide (a0 ≥ 97)) then (bif (decide (a0 ≤ (102 : Int))) then (some (w64 ((w64 (IntKind.u8.wrap (a0 - 97))) + 10))) else (some (-1 : Int))) else (some (-1 : Int))) else (some (-1 : Int))))
noncomputable def VL : So := FN
theorem VL.eq (a0 : Int) (a1 : Int) : VL a0 a1 = FN a0 a1 := rfl
noncomputable def QpO (a0 : Int) (a1 : Int) : Tr Int AH := (let u108 := (decide (a0 ≥ 48)); .as u108 (yesN 2 u108 (.as (decide (a0 ≤ (zi 57))) (rt Qm (w64 (IntKind.u8.wrap (a0 - 48)))) (let u105 := (a1 == 16); .as u105 (yesN 2 u105 (let u104 := (decide (a0 ≥ 97)); .as u104 (yesN 2 u104 (.as (decide (a0 ≤ (zi 102))) (rt Qm (w64 ((w64 (IntKind.u8.wrap (a0 - 97))) + 10))) (rt Qm (-1 : Int)))) (noN 2 u104 (.no false (rt Qm (-1 : Int)))))) (noN 2 u105 (noN 4 false (rt Qm (-1 : Int))))))) (noN 2 u108 (.no false (let u107 := (a1 == 16); .as u107 (yesN 2 u107 (let u106 := (decide (a0 ≥ 97)); .as u106 (yesN 2 u106 (.as (decide (a0 ≤ (zi 102))) (rt Qm (w64 ((w64 (IntKind.u8.wrap (a0 - 97))) + 10))) (rt Qm (-1 : Int)))) (noN 2 u106 (.no false (rt Qm (-1 : Int)))))) (noN 2 u107 (noN 4 false (rt Qm (-1 : Int))))))))
theorem VL.ok {a0 : Int} {a1 : Int} {r : Int} (h : VL a0 a1 = some r) : ww 236 [xb a0, xi a1] [] = some (Qm r) := by
 refine fnP (QpO a0 a1) ?_ h
 exact ⟨rfl, fun q0 => Qi 2 (q0) (⟨rfl, fun q1 => rfl, fun q1 => ⟨rfl, fun q2 => Qi 2 (q2) (⟨rfl, fun q3 => Qi 2 (q3) (⟨rfl, fun q4 => rfl, fun q4 => rfl⟩), fun q3 => noN_ok 2 (q3) (⟨rfl, rfl⟩)⟩), fun q2 => noN_ok 2 (q2) (noN_ok 4 (rfl) (rfl))⟩⟩), fun q0 => noN_ok 2 (q0) (⟨rfl, ⟨rfl, fun q1 => Qi 2 (q1) (⟨rfl, fun q2 => Qi 2 (q2) (⟨rfl, fun q3 => rfl, fun q3 => rfl⟩), fun q2 => noN_ok 2 (q2) (⟨rfl, rfl⟩)⟩), fun q1 => noN_ok 2 (q1) (noN_ok 4 (rfl) (rfl))⟩⟩)⟩
noncomputable abbrev QdH {ρ R : Type} (a0 : Int) (a1 : Int) (k : Int → Tr ρ R) : Tr ρ R := .call (ww 236 [xb a0, xi a1] []) (VL a0 a1) Qm k
def QE (r : (Qa × Qf)) : AV × Heap := (.agg (Q3 r.1), [(0, .box [] (Je r.2))])
abbrev Zy := Int → Qf → Option (Qa × Qf)
structure JL where
 x1 : Int
 x5 : Int
 x6 : Int
 h0 : Qf
 h1 : Qa
structure Ui where
 h0 : Qf
 h1 : Qa
structure JQ where
 x5 : Int
 x6 : Int
 h0 : Qf
 h1 : Qa
def ZN (a : JL) : St := { n := 74, nx := 2, env := [(0, .ptr 0 0), (1, xi a.x1), (4, .ptr 1 0), (5, xi a.x5), (6, xi a.x6)], heap := [(0, .box [] (Je a.h0)), (1, .box [] (Q3 a.h1))] }
def Es (a : Ui) : Ex × St := (.ret, { n := 74, nx := 2, env := [(4, .ptr 1 0)], heap := [(0, .box [] (Je a.h0)), (1, .box [] (Q3 a.h1))] })
def Et (a : JQ) : Ex × St := (.exit 0, { n := 74, nx := 2, env := [(0, .ptr 0 0), (4, .ptr 1 0), (5, xi a.x5), (6, xi a.x6)], heap := [(0, .box [] (Je a.h0)), (1, .box [] (Q3 a.h1))] })
def X9 (a : (Ui ⊕ JQ)) : Ex × St := Sum.elim Es Et a
abbrev FO := JL → Option (Ui ⊕ JQ)
def Xl (C0 : So) (a : JL) : Option (JL ⊕ (Ui ⊕ JQ)) := (bif (decide (a.h0.P < ((a.h0.S.size : Nat) : Int))) then (bif (decide (0 ≤ a.h0.P ∧ a.h0.P < ((a.h0.S.size : Nat) : Int))) then ((C0 ((a.h0.S.data.getD (Int.toNat a.h0.P) 0).toNat : Int) a.x1).bind fun r1 => (bif (decide (r1 ≥ 0)) then ((C0 ((a.h0.S.data.getD (Int.toNat a.h0.P) 0).toNat : Int) a.x1).bind fun r2 => (bif (decide ((w64 ((w64 (a.x1 * a.x5)) + r2)) ≥ 4294967296)) then (some (.inr (.inl (Ui.mk (Qf.mk a.h0.S (w64 (a.h0.P + 1)) a.h0.Deep true) (Qa.mk (0 : Int) (0 : Int) s_ ([] : List Qa)))))) else (some (.inl (JL.mk a.x1 (w64 ((w64 (a.x1 * a.x5)) + r2)) a.x6 (Qf.mk a.h0.S (w64 (a.h0.P + 1)) a.h0.Deep a.h0.Bad) a.h1))))) else (some (.inr (.inr (JQ.mk a.x5 a.x6 a.h0 a.h1)))))) else none) else (some (.inr (.inr (JQ.mk a.x5 a.x6 a.h0 a.h1)))))
noncomputable def Ja : FO := loopW (Xl VL)
theorem Ja.eq (a : JL) : Ja a = (Xl VL a).bind (Sum.elim Ja some) := Jk _ _
noncomputable abbrev Qc4 {ρ R : Type} (a : JL) (k0 : Ui → Tr ρ R) (k1 : JQ → Tr ρ R) : Tr ρ R := .loop2 (loopAt pp 235 2) (ZN a) (Ja a) Es Et k0 k1
noncomputable def Qc5 (a : JL) : Tr (JL ⊕ (Ui ⊕ JQ)) XS := (let u110 := (decide (a.h0.P < (zz a.h0.S))); .as u110 (yesN 8 u110 (let u109 := (in1 a.h0.P (zz a.h0.S)); .as u109 (yesN 2 u110 (QdH (gb a.h0.S a.h0.P) a.x1 fun r1 => (yesN 2 u110 (.as (decide (r1 ≥ 0)) (.yes u109 (QdH (gb a.h0.S a.h0.P) a.x1 fun r2 => (.as (decide ((w64 ((w64 (a.x1 * a.x5)) + r2)) ≥ 4294967296)) (rx X9 (.inl (Ui.mk (Qf.mk a.h0.S (w64 (a.h0.P + 1)) a.h0.Deep true) (Qa.mk i0 i0 s_ ([] : List Qa))))) (lf ZN (JL.mk a.x1 (w64 ((w64 (a.x1 * a.x5)) + r2)) a.x6 (Qf.mk a.h0.S (w64 (a.h0.P + 1)) a.h0.Deep a.h0.Bad) a.h1))))) (rx X9 (.inr (JQ.mk a.x5 a.x6 a.h0 a.h1))))))) .fail)) (noN 12 u110 (.no false (rx X9 (.inr (JQ.mk a.x5 a.x6 a.h0 a.h1))))))
theorem Ja.ok {a : JL} {r : (Ui ⊕ JQ)} (h : Ja a = some r) : lw 1 235 (loopAt pp 235 2) (ZN a) = some (X9 r) := by
 refine lpP h Qc5 fun a => ?_
 exact ⟨rfl, fun q0 => Qi 8 (q0) (⟨rfl, fun q1 => Qi 2 (q0) (fun r1 h => ⟨VL.ok h, Qi 2 (q0) (⟨rfl, fun q2 => ⟨q1, fun r2 h => ⟨VL.ok h, ⟨rfl, fun q3 => rfl, fun q3 => rfl⟩⟩⟩, fun q2 => rfl⟩)⟩), fun q1 => trivial⟩), fun q0 => noN_ok 12 (q0) (⟨rfl, rfl⟩)⟩
def Zg (L0 : FO) (a1 : Int) (h0 : Qf) : Option (Qa × Qf) := ((L0 (JL.mk a1 (0 : Int) h0.P h0 (Qa.mk (0 : Int) (0 : Int) s_ ([] : List Qa)))).bind fun x => Sum.elim (fun (o1 : Ui) => (some (o1.h1, o1.h0))) (fun (o2 : JQ) => (bif (o2.x6 == o2.h0.P) then (some ((Qa.mk (1 : Int) o2.x5 s_ ([] : List Qa)), (Qf.mk o2.h0.S o2.h0.P o2.h0.Deep true))) else (some ((Qa.mk (1 : Int) o2.x5 s_ ([] : List Qa)), o2.h0)))) x)
noncomputable def J4 : Zy := Zg Ja
theorem J4.eq (a1 : Int) (h0 : Qf) : J4 a1 h0 = Zg Ja a1 h0 := rfl
noncomputable def QfY (a1 : Int) (h0 : Qf) : Tr (Qa × Qf) AH := (Qc4 (JL.mk a1 i0 h0.P h0 (Qa.mk i0 i0 s_ ([] : List Qa))) (fun o1 => (rt QE (o1.h1, o1.h0))) (fun o2 => (.as (o2.x6 == o2.h0.P) (rt QE ((Qa.mk (zi 1) o2.x5 s_ ([] : List Qa)), (Qf.mk o2.h0.S o2.h0.P o2.h0.Deep true))) (rt QE ((Qa.mk (zi 1) o2.x5 s_ ([] : List Qa)), o2.h0)))))
theorem J4.ok {a1 : Int} {h0 : Qf} {r : (Qa × Qf)} (h : J4 a1 h0 = some r) : ww 235 [.ptr 0 0, xi a1] [(0, .box [] (Je h0))] = some (QE r) := by
 refine fnP (QfY a1 h0) ?_ h
 exact ⟨fun o1 h => ⟨Ja.ok (r := (.inl _)) h, rfl⟩, fun o2 h => ⟨Ja.ok (r := (.inr _)) h, ⟨rfl, fun q0 => rfl, fun q0 => rfl⟩⟩⟩
noncomputable abbrev Sq {ρ R : Type} (a1 : Int) (h0 : Qf) (k : (Qa × Qf) → Tr ρ R) : Tr ρ R := .call (ww 235 [.ptr 0 0, xi a1] [(0, .box [] (Je h0))]) (J4 a1 h0) QE k
abbrev Gj := Qf → Option (Qa × Qf)
structure QR where
 x3 : Int
 h0 : Qf
 h1 : Qa
structure Jj where
 x3 : Int
 h0 : Qf
 h1 : Qa
def Vn (a : QR) : St := { n := 111, nx := 2, env := [(0, .ptr 0 0), (2, .ptr 1 0), (3, xi a.x3)], heap := [(0, .box [] (Je a.h0)), (1, .box [] (Q3 a.h1))] }
def Wy (a : Jj) : Ex × St := (.exit 0, { n := 111, nx := 2, env := [(0, .ptr 0 0), (2, .ptr 1 0), (3, xi a.x3)], heap := [(0, .box [] (Je a.h0)), (1, .box [] (Q3 a.h1))] })
abbrev Sr := QR → Option Jj
def YW (a : QR) : Option (QR ⊕ Jj) := (bif (decide (a.h0.P < ((a.h0.S.size : Nat) : Int))) then (bif (decide (0 ≤ a.h0.P ∧ a.h0.P < ((a.h0.S.size : Nat) : Int))) then (bif (decide (((a.h0.S.data.getD (Int.toNat a.h0.P) 0).toNat : Int) ≥ 97)) then (bif (decide (((a.h0.S.data.getD (Int.toNat a.h0.P) 0).toNat : Int) ≤ 122)) then (some (.inl (QR.mk a.x3 (Qf.mk a.h0.S (w64 (a.h0.P + 1)) a.h0.Deep a.h0.Bad) a.h1))) else (bif (decide (((a.h0.S.data.getD (Int.toNat a.h0.P) 0).toNat : Int) ≥ 48)) then (bif (decide (((a.h0.S.data.getD (Int.toNat a.h0.P) 0).toNat : Int) ≤ 57)) then (some (.inl (QR.mk a.x3 (Qf.mk a.h0.S (w64 (a.h0.P + 1)) a.h0.Deep a.h0.Bad) a.h1))) else (bif (((a.h0.S.data.getD (Int.toNat a.h0.P) 0).toNat : Int) == 95) then (some (.inl (QR.mk a.x3 (Qf.mk a.h0.S (w64 (a.h0.P + 1)) a.h0.Deep a.h0.Bad) a.h1))) else (some (.inr (Jj.mk a.x3 a.h0 a.h1))))) else (bif (((a.h0.S.data.getD (Int.toNat a.h0.P) 0).toNat : Int) == 95) then (some (.inl (QR.mk a.x3 (Qf.mk a.h0.S (w64 (a.h0.P + 1)) a.h0.Deep a.h0.Bad) a.h1))) else (some (.inr (Jj.mk a.x3 a.h0 a.h1)))))) else (bif (decide (((a.h0.S.data.getD (Int.toNat a.h0.P) 0).toNat : Int) ≥ 48)) then (bif (decide (((a.h0.S.data.getD (Int.toNat a.h0.P) 0).toNat : Int) ≤ 57)) then (some (.inl (QR.mk a.x3 (Qf.mk a.h0.S (w64 (a.h0.P + 1)) a.h0.Deep a.h0.Bad) a.h1))) else (bif (((a.h0.S.data.getD (Int.toNat a.h0.P) 0).toNat : Int) == 95) then (some (.inl (QR.mk a.x3 (Qf.mk a.h0.S (w64 (a.h0.P + 1)) a.h0.Deep a.h0.Bad) a.h1))) else (some (.inr (Jj.mk a.x3 a.h0 a.h1))))) else (bif (((a.h0.S.data.getD (Int.toNat a.h0.P) 0).toNat : Int) == 95) then (some (.inl (QR.mk a.x3 (Qf.mk a.h0.S (w64 (a.h0.P + 1)) a.h0.Deep a.h0.Bad) a.h1))) else (some (.inr (Jj.mk a.x3 a.h0 a.h1)))))) else none) else (some (.inr (Jj.mk a.x3 a.h0 a.h1))))
noncomputable def Ur : Sr := loopW (YW )
theorem Ur.eq (a : QR) : Ur a = (YW a).bind (Sum.elim Ur some) := Jk _ _
noncomputable abbrev QeU {ρ R : Type} (a : QR) (k0 : Jj → Tr ρ R) : Tr ρ R := .loop (loopAt pp 237 2) (Vn a) (Ur a) Wy k0
noncomputable def QeV (a : QR) : Tr (QR ⊕ Jj) XS := (let u118 := (decide (a.h0.P < (zz a.h0.S))); .as u118 (yesN 8 u118 (let u117 := (in1 a.h0.P (zz a.h0.S)); .as u117 (yesN 2 u118 (let u116 := (decide ((gb a.h0.S a.h0.P) ≥ 97)); .as u116 (yesN 8 u116 (.yes u117 (.yes u116 (.yes u118 (.yes u116 (.yes u118 (let u113 := (decide ((gb a.h0.S a.h0.P) ≤ 122)); .as u113 (yesN 11 u113 (.yes u118 (.yes u113 (.yes u118 (yesN 10 true (.yes u118 (.yes true (.yes u118 (.yes true (lf Vn (QR.mk a.x3 (Qf.mk a.h0.S (w64 (a.h0.P + 1)) a.h0.Deep a.h0.Bad) a.h1))))))))))) (noN 8 u113 (.yes u117 (noN 2 u113 (let u112 := (decide ((gb a.h0.S a.h0.P) ≥ 48)); .as u112 (yesN 8 u112 (.yes u117 (.yes u112 (.no u113 (.yes u112 (.yes u118 (.no u113 (.yes u118 (let u111 := (decide ((gb a.h0.S a.h0.P) ≤ 57)); .as u111 (yesN 9 u111 (.yes u118 (.yes u111 (.yes u118 (.yes true (lf Vn (QR.mk a.x3 (Qf.mk a.h0.S (w64 (a.h0.P + 1)) a.h0.Deep a.h0.Bad) a.h1))))))) (noN 8 u111 (.yes u117 (.no u111 (.yes u118 (.no u111 (.yes u118 (.as ((gb a.h0.S a.h0.P) == 95) (lf Vn (QR.mk a.x3 (Qf.mk a.h0.S (w64 (a.h0.P + 1)) a.h0.Deep a.h0.Bad) a.h1)) (rx Wy (Jj.mk a.x3 a.h0 a.h1)))))))))))))))))) (noN 9 u112 (.no u113 (.no u112 (.yes u118 (.no u113 (.yes u118 (noN 9 false (.yes u117 (.no false (.yes u118 (.no false (.yes u118 (.as ((gb a.h0.S a.h0.P) == 95) (lf Vn (QR.mk a.x3 (Qf.mk a.h0.S (w64 (a.h0.P + 1)) a.h0.Deep a.h0.Bad) a.h1)) (rx Wy (Jj.mk a.x3 a.h0 a.h1)))))))))))))))))))))))))) (noN 9 u116 (.yes u118 (.no u116 (.yes u118 (noN 9 false (.yes u117 (noN 2 false (let u115 := (decide ((gb a.h0.S a.h0.P) ≥ 48)); .as u115 (yesN 8 u115 (.yes u117 (.yes u115 (.no false (.yes u115 (.yes u118 (.no false (.yes u118 (let u114 := (decide ((gb a.h0.S a.h0.P) ≤ 57)); .as u114 (yesN 9 u114 (.yes u118 (.yes u114 (.yes u118 (.yes true (lf Vn (QR.mk a.x3 (Qf.mk a.h0.S (w64 (a.h0.P + 1)) a.h0.Deep a.h0.Bad) a.h1))))))) (noN 8 u114 (.yes u117 (.no u114 (.yes u118 (.no u114 (.yes u118 (.as ((gb a.h0.S a.h0.P) == 95) (lf Vn (QR.mk a.x3 (Qf.mk a.h0.S (w64 (a.h0.P + 1)) a.h0.Deep a.h0.Bad) a.h1)) (rx Wy (Jj.mk a.x3 a.h0 a.h1)))))))))))))))))) (noN 9 u115 (.no false (.no u115 (.yes u118 (.no false (.yes u118 (noN 9 false (.yes u117 (.no false (.yes u118 (.no false (.yes u118 (.as ((gb a.h0.S a.h0.P) == 95) (lf Vn (QR.mk a.x3 (Qf.mk a.h0.S (w64 (a.h0.P + 1)) a.h0.Deep a.h0.Bad) a.h1)) (rx Wy (Jj.mk a.x3 a.h0 a.h1))))))))))))))))))))))))) .fail)) (noN 16 u118 (.no false (rx Wy (Jj.mk a.x3 a.h0 a.h1)))))
end Go.Ab
