/- LineReads: part 2 of the proof that, whatever the input, the law returns true and the input reads as it did; its conditions are those of the given row. -/
import Derived.Test.YtblfhkldljfhiaaGreatDoorZLineReads1
import Derived.Test.YtblfhkldljfhiaaGreatDoorProg
set_option linter.unusedVariables false
set_option linter.unusedSimpArgs false
namespace Go.Ab
open Go.Proofs
def QW (x : ByteArray) : List AV := [.sc (.string x)]
def Qg (l : List ByteArray) : List (List AV) := l.map QW
theorem QP (l : List ByteArray) : l.map QW = Qg l := rfl
theorem UT (l m : List ByteArray) : Qg l ++ Qg m = Qg (l ++ m) := by simp only [← QP, List.map_append]
theorem Qmp (l : List ByteArray) (i : Nat) (a : ByteArray) : (Qg l).set i (QW a) = Qg (l.set i a) := by simp only [← QP, List.map_set]
theorem Qj2 (l : List ByteArray) (i n : Nat) : ((Qg l).drop i).take n = Qg ((l.drop i).take n) := by simp only [← QP, List.map_take, List.map_drop]
theorem QO {l : List ByteArray} {n : Nat} {a : ByteArray} (h : l[n]? = some a) : (Qg l)[n]? = some (QW a) := by rw [← QP]; exact Zo h
theorem J6 (l : List ByteArray) : (Qg l).all (fun r => r.length == 1) = true := by rw [← QP]; exact Qib (C := QW) (fun _ => rfl) l
theorem Qo (l : List ByteArray) : (Qg l).length = l.length := by rw [← QP, List.length_map]
def C_u8 (x : Int) : List AV := [.sc (.int .u8 x)]
def R_u8 (l : List Int) : List (List AV) := l.map C_u8
theorem QdB (l : List Int) : l.map C_u8 = R_u8 l := rfl
theorem Qry (l : List Int) (i : Nat) (a : Int) : (R_u8 l).set i (C_u8 a) = R_u8 (l.set i a) := by simp only [← QdB, List.map_set]
theorem Qmq {l : List Int} {n : Nat} {a : Int} (h : l[n]? = some a) : (R_u8 l)[n]? = some (C_u8 a) := by rw [← QdB]; exact Zo h
theorem Qie (l : List Int) : (R_u8 l).length = l.length := by rw [← QdB, List.length_map]
def Xi (x : Int) : List AV := [.sc (.int .i64 x)]
def Q8 (l : List Int) : List (List AV) := l.map Xi
theorem Uf (l : List Int) : l.map Xi = Q8 l := rfl
theorem Vu {l : List Int} {n : Nat} {a : Int} (h : l[n]? = some a) : (Q8 l)[n]? = some (Xi a) := by rw [← Uf]; exact Zo h
theorem Va (l : List Int) : (Q8 l).length = l.length := by rw [← Uf, List.length_map]
structure Qa where
 Kind : Int
 N : Int
 Name : ByteArray
 L : (List Qa)
deriving Inhabited
mutual
def Qi4 : Qa → List AV
 | ⟨x0, x1, x2, x3⟩ => [.sc (.int .i64 x0), .sc (.int .i64 x1), .sc (.string x2), .sl (QK x3)]
def QK : List Qa → List (List AV)
 | [] => []
 | x :: l => Qi4 x :: QK l
end
def QY (x : Qa) : List AV := [.sc (.int .i64 x.Kind), .sc (.int .i64 x.N), .sc (.string x.Name), .sl (QK x.L)]
theorem Xn (l : List Qa) : l.map QY = QK l := by
 induction l with
 | nil => rw [QK]; rfl
 | cons x l ih => rw [QK, List.map_cons, ih]; congr 1; cases x; rw [Qi4]; rfl
theorem ZH {l : List Qa} {n : Nat} {a : Qa} (h : l[n]? = some a) : (QK l)[n]? = some (QY a) := by rw [← Xn]; exact Zo h
theorem GZ (l : List Qa) : (QK l).length = l.length := by rw [← Xn, List.length_map]
structure Qc where
 Reg : Int
 E : Qa
deriving Inhabited
def WZ (x : Qc) : List AV := [.sc (.int .i64 x.Reg), .sc (.int .i64 x.E.Kind), .sc (.int .i64 x.E.N), .sc (.string x.E.Name), .sl (QK x.E.L)]
def Qi (l : List Qc) : List (List AV) := l.map WZ
theorem JC (l : List Qc) : l.map WZ = Qi l := rfl
theorem UY (l m : List Qc) : Qi l ++ Qi m = Qi (l ++ m) := by simp only [← JC, List.map_append]
theorem Yg {l : List Qc} {n : Nat} {a : Qc} (h : l[n]? = some a) : (Qi l)[n]? = some (WZ a) := by rw [← JC]; exact Zo h
theorem VX (l : List Qc) : (Qi l).all (fun r => r.length == 5) = true := by rw [← JC]; exact Qib (C := WZ) (fun _ => rfl) l
theorem Jc (l : List Qc) : (Qi l).length = l.length := by rw [← JC, List.length_map]
structure Qb where
 Line : Int
 Label : ByteArray
 Kind : Int
 Op : Int
 Text : ByteArray
 Args : (List Qc)
deriving Inhabited
def WR (x : Qb) : List AV := [.sc (.int .i64 x.Line), .sc (.string x.Label), .sc (.int .i64 x.Kind), .sc (.int .i64 x.Op), .sc (.string x.Text), .sl (Qi x.Args)]
structure Qh where
 x : Qb
deriving Inhabited
structure Qe where
 name : ByteArray
 bits : Int
 kinds : ByteArray
deriving Inhabited
def Zb (x : Qe) : List AV := [.sc (.string x.name), .sc (.int .u32 x.bits), .sc (.string x.kinds)]
def XI (l : List Qe) : List (List AV) := l.map Zb
theorem SJ (l : List Qe) : l.map Zb = XI l := rfl
theorem Qeh {l : List Qe} {n : Nat} {a : Qe} (h : l[n]? = some a) : (XI l)[n]? = some (Zb a) := by rw [← SJ]; exact Zo h
theorem Qei (l : List Qe) : (XI l).length = l.length := by rw [← SJ, List.length_map]
def Qfs (x : Nat) : List AV := [.fn (.func x) [] []]
def J7 (l : List Nat) : List (List AV) := l.map Qfs
theorem Zc (l : List Nat) : l.map Qfs = J7 l := rfl
theorem SK (l m : List Nat) : J7 l ++ J7 m = J7 (l ++ m) := by simp only [← Zc, List.map_append]
theorem Qpu {l : List Nat} {n : Nat} {a : Nat} (h : l[n]? = some a) : (J7 l)[n]? = some (Qfs a) := by rw [← Zc]; exact Zo h
theorem QdC (l : List Nat) : (J7 l).all (fun r => r.length == 1) = true := by rw [← Zc]; exact Qib (C := Qfs) (fun _ => rfl) l
theorem Yk (l : List Nat) : (J7 l).length = l.length := by rw [← Zc, List.length_map]
structure Qd where
 left : ByteArray
 deep : Int
 bad : Bool
deriving Inhabited
def QM (x : Qd) : List AV := [.sc (.string x.left), .sc (.int .i64 x.deep), .sc (.bool x.bad)]
def Qft (x : (List Int)) : List AV := [.sl (Q8 x)]
def Sb (l : List (List Int)) : List (List AV) := l.map Qft
theorem QdD (l : List (List Int)) : l.map Qft = Sb l := rfl
theorem Qi5 {l : List (List Int)} {n : Nat} {a : (List Int)} (h : l[n]? = some a) : (Sb l)[n]? = some (Qft a) := by rw [← QdD]; exact Zo h
theorem Qpv (l : List (List Int)) : (Sb l).length = l.length := by rw [← QdD, List.length_map]
structure QA where
 K : Int
 N : Int
 L : (List QA)
deriving Inhabited
mutual
def Qmr : QA → List AV
 | ⟨x0, x1, x2⟩ => [.sc (.int .i64 x0), .sc (.int .i64 x1), .sl (UZ x2)]
def UZ : List QA → List (List AV)
 | [] => []
 | x :: l => Qmr x :: UZ l
end
def XU (x : QA) : List AV := [.sc (.int .i64 x.K), .sc (.int .i64 x.N), .sl (UZ x.L)]
theorem Fl (l : List QA) : l.map XU = UZ l := by
 induction l with
 | nil => rw [UZ]; rfl
 | cons x l ih => rw [UZ, List.map_cons, ih]; congr 1; cases x; rw [Qmr]; rfl
theorem QaF {l : List QA} {n : Nat} {a : QA} (h : l[n]? = some a) : (UZ l)[n]? = some (XU a) := by rw [← Fl]; exact Zo h
theorem Gz (l : List QA) : (UZ l).length = l.length := by rw [← Fl, List.length_map]
structure QG where
 K : Int
 A : Int
 B : Int
 Ns : (List Int)
 E : (List QA)
 Label : Bool
deriving Inhabited
def Wi (x : QG) : List AV := [.sc (.int .i64 x.K), .sc (.int .i64 x.A), .sc (.int .i64 x.B), .sl (Q8 x.Ns), .sl (UZ x.E), .sc (.bool x.Label)]
def XV (l : List QG) : List (List AV) := l.map Wi
theorem QaG (l : List QG) : l.map Wi = XV l := rfl
theorem QaH {l : List QG} {n : Nat} {a : QG} (h : l[n]? = some a) : (XV l)[n]? = some (Wi a) := by rw [← QaG]; exact Zo h
theorem Qfu (l : List QG) : (XV l).length = l.length := by rw [← QaG, List.length_map]
structure QL where
 Name : ByteArray
 Bits : ByteArray
 Kinds : ByteArray
deriving Inhabited
def QdE (x : QL) : List AV := [.sc (.string x.Name), .sc (.string x.Bits), .sc (.string x.Kinds)]
structure Qf where
 S : ByteArray
 P : Int
 Deep : Int
 Bad : Bool
deriving Inhabited
def Je (x : Qf) : List AV := [.sc (.string x.S), .sc (.int .i64 x.P), .sc (.int .i64 x.Deep), .sc (.bool x.Bad)]
inductive Yv : QA → Prop
 | mk (x : QA) (h0 : IntKind.i64.min ≤ x.K ∧ x.K ≤ IntKind.i64.max) (h1 : IntKind.i64.min ≤ x.N ∧ x.N ≤ IntKind.i64.max) (h2 : x.L.length ≤ maxLen) (h3 : ∀ y ∈ x.L, Yv y) : Yv x
inductive E5 : QG → Prop
 | mk (x : QG) (h0 : IntKind.i64.min ≤ x.K ∧ x.K ≤ IntKind.i64.max) (h1 : IntKind.i64.min ≤ x.A ∧ x.A ≤ IntKind.i64.max) (h2 : IntKind.i64.min ≤ x.B ∧ x.B ≤ IntKind.i64.max) (h3 : x.Ns.length ≤ maxLen) (h4 : ∀ y ∈ x.Ns, IntKind.i64.min ≤ y ∧ y ≤ IntKind.i64.max) (h5 : x.E.length ≤ maxLen) (h6 : ∀ y ∈ x.E, Yv y) (h7 : True) : E5 x
def bytesL (s : ByteArray) : List Int := s.data.toList.map fun b => (b.toNat : Int)
def listB (l : List Int) : List UInt8 := l.map fun n => UInt8.ofNat n.toNat
theorem Qpw (s : ByteArray) : byteRows s.data.toList = R_u8 (bytesL s) := by simp only [byteRows, R_u8, bytesL, List.map_map]; rfl
theorem QkO (l : List Int) : bytesOfRows (R_u8 l) = some (listB l) := by
 induction l with
 | nil => rfl
 | cons x l ih => simp only [R_u8, listB, List.map_cons] at ih ⊢; simp only [bytesOfRows, C_u8, rowByte, ih, Option.bind_some, Option.map_some]
def h_09 : ByteArray := ⟨#[9]⟩
def h_20 : ByteArray := ⟨#[32]⟩
def Vl : ByteArray := ⟨#[32, 9]⟩
def UN : ByteArray := ⟨#[32, 88, 32, 89, 32, 68, 32, 65, 32, 66, 32]⟩
def h_22 : ByteArray := ⟨#[34]⟩
def h_23 : ByteArray := ⟨#[35]⟩
def Zp : ByteArray := ⟨#[35, 32, 120]⟩
def h_26 : ByteArray := ⟨#[38]⟩
def h_28 : ByteArray := ⟨#[40]⟩
def h_29 : ByteArray := ⟨#[41]⟩
def h_2a : ByteArray := ⟨#[42]⟩
def h_2b : ByteArray := ⟨#[43]⟩
def h_2c : ByteArray := ⟨#[44]⟩
def QaI : ByteArray := ⟨#[44, 32]⟩
def h_2d : ByteArray := ⟨#[45]⟩
def h_2e : ByteArray := ⟨#[46]⟩
def QZ : ByteArray := ⟨#[46, 97, 108, 105, 103, 110]⟩
def JW : ByteArray := ⟨#[46, 97, 115, 99, 105, 105]⟩
def QD : ByteArray := ⟨#[46, 98, 121, 116, 101]⟩
def Vr : ByteArray := ⟨#[46, 101, 113, 117]⟩
def Q5 : ByteArray := ⟨#[46, 104, 97, 108, 102]⟩
def Q6 : ByteArray := ⟨#[46, 108, 111, 110, 103]⟩
def Q0 : ByteArray := ⟨#[46, 115, 112, 97, 99, 101]⟩
def h_3a : ByteArray := ⟨#[58]⟩
def QaJ : ByteArray := ⟨#[60, 60]⟩
def QaK : ByteArray := ⟨#[62, 62]⟩
def Vm : ByteArray := ⟨#[65, 32, 68, 32, 66]⟩
def UE : ByteArray := ⟨#[65, 32, 68, 32, 67, 56]⟩
def Vn : ByteArray := ⟨#[68, 32, 65, 32, 66]⟩
def ZI : ByteArray := ⟨#[68, 32, 65, 32, 67, 56]⟩
def YO : ByteArray := ⟨#[68, 32, 65, 32, 83, 49, 54]⟩
def GA : ByteArray := ⟨#[68, 32, 76, 50, 48]⟩
def QB : ByteArray := ⟨#[68, 32, 83, 49, 54, 32, 65]⟩
def X8 : ByteArray := ⟨#[79, 49, 32, 73, 50, 32, 84, 56]⟩
def UJ : ByteArray := ⟨#[79, 50, 32, 73, 52, 32, 84, 49, 53]⟩
def Wj : ByteArray := ⟨#[88, 32, 79, 53]⟩
def Jw : ByteArray := ⟨#[88, 32, 85, 53]⟩
def Fm : ByteArray := ⟨#[88, 32, 85, 55]⟩
def Jg : ByteArray := ⟨#[88, 32, 89]⟩
def Wu : ByteArray := ⟨#[89, 32, 77, 49, 32, 88]⟩
def Wv : ByteArray := ⟨#[89, 32, 77, 50, 32, 88]⟩
def Ww : ByteArray := ⟨#[89, 32, 77, 52, 32, 88]⟩
def UO : ByteArray := ⟨#[97, 32, 35, 32, 98, 44, 32, 99]⟩
def Ge : ByteArray := ⟨#[97, 58]⟩
def h_7c : ByteArray := ⟨#[124]⟩
def Qq : ByteArray := ⟨#[115, 101, 95, 105, 108, 108, 101, 103, 97, 108, 58, 48, 48, 48, 48, 58, 124, 115, 101, 95, 105, 115, 121, 110, 99, 58, 48, 48, 48, 49, 58, 124, 115, 101, 95, 115, 99, 58, 48, 48, 48, 50, 58, 124, 115, 101, 95, 98, 108, 114, 58, 48, 48, 48, 52, 58, 124, 115, 101, 95, 98, 99, 116, 114, 58, 48, 48, 48, 54, 58, 124, 115, 101, 95, 110, 111, 116, 58, 48, 48, 50, 48, 58, 88, 124, 115, 101, 95, 110, 101, 103, 58, 48, 48, 51, 48, 58, 88, 124, 115, 101, 95, 109, 102, 108, 114, 58, 48, 48, 56, 48, 58, 88, 124, 115, 101, 95, 109, 116, 108, 114, 58, 48, 48, 57, 48, 58, 88, 124, 115, 101, 95, 109, 102, 99, 116, 114, 58, 48, 48, 97, 48, 58, 88, 124, 115, 101, 95, 109, 116, 99, 116, 114, 58, 48, 48, 98, 48, 58, 88, 124, 115, 101, 95, 101, 120, 116, 122, 98, 58, 48, 48, 99, 48, 58, 88, 124, 115, 101, 95, 101, 120, 116, 115, 98, 58, 48, 48, 100, 48, 58, 88, 124, 115, 101, 95, 101, 120, 116, 122, 104, 58, 48, 48, 101, 48, 58, 88, 124, 115, 101, 95, 101, 120, 116, 115, 104, 58, 48, 48, 102, 48, 58, 88, 124, 115, 101, 95, 109, 114, 58, 48, 49, 48, 48, 58, 88, 32, 89, 124, 115, 101, 95, 97, 100, 100, 58, 48, 52, 48, 48, 58, 88, 32, 89, 124, 115, 101, 95, 109, 117, 108, 108, 119, 58, 48, 53, 48, 48, 58, 88, 32, 89, 124, 115, 101, 95, 115, 117, 98, 58, 48, 54, 48, 48, 58, 88, 32, 89, 124, 115, 101, 95, 99, 109, 112, 58, 48, 99, 48, 48, 58, 88, 32, 89, 124, 115, 101, 95, 99, 109, 112, 108, 58, 48, 100, 48, 48, 58, 88, 32, 89, 124, 115, 101, 95, 97, 100, 100, 105, 58, 50, 48, 48, 48, 58, 88, 32, 79, 53, 124, 115, 101, 95, 99, 109, 112, 108, 105, 58, 50, 50, 48, 48, 58, 88, 32, 79, 53, 124, 115, 101, 95, 115, 117, 98, 105, 58, 50, 52, 48, 48, 58, 88, 32, 79, 53, 124, 115, 101, 95, 99, 109, 112, 105, 58, 50, 97, 48, 48, 58, 88, 32, 85, 53, 124, 115, 101, 95, 111, 114, 58, 52, 52, 48, 48, 58, 88, 32, 89, 124, 115, 101, 95, 97, 110, 100, 99, 58, 52, 53, 48, 48, 58, 88, 32, 89, 124, 115, 101, 95, 97, 110, 100, 58, 52, 54, 48, 48, 58, 88, 32, 89, 124, 115, 101, 95, 108, 105, 58, 52, 56, 48, 48, 58, 88, 32, 85, 55, 124, 115, 101, 95, 98, 99, 108, 114, 105, 58, 54, 48, 48, 48, 58, 88, 32, 85, 53, 124, 115, 101, 95, 98, 115, 101, 116, 105, 58, 54, 52, 48, 48, 58, 88, 32, 85, 53, 124, 115, 101, 95, 98, 116, 115, 116, 105, 58, 54, 54, 48, 48, 58, 88, 32, 85, 53, 124, 115, 101, 95, 115, 114, 119, 105, 58, 54, 56, 48, 48, 58, 88, 32, 85, 53, 124, 115, 101, 95, 115, 108, 119, 105, 58, 54, 99, 48, 48, 58, 88, 32, 85, 53, 124, 115, 101, 95, 108, 98, 122, 58, 56, 48, 48, 48, 58, 89, 32, 77, 49, 32, 88, 124, 115, 101, 95, 115, 116, 98, 58, 57, 48, 48, 48, 58, 89, 32, 77, 49, 32, 88, 124, 115, 101, 95, 108, 104, 122, 58, 97, 48, 48, 48, 58, 89, 32, 77, 50, 32, 88, 124, 115, 101, 95, 115, 116, 104, 58, 98, 48, 48, 48, 58, 89, 32, 77, 50, 32, 88, 124, 115, 101, 95, 108, 119, 122, 58, 99, 48, 48, 48, 58, 89, 32, 77, 52, 32, 88, 124, 115, 101, 95, 115, 116, 119, 58, 100, 48, 48, 48, 58, 89, 32, 77, 52, 32, 88, 124, 115, 101, 95, 98, 99, 58, 101, 48, 48, 48, 58, 79, 49, 32, 73, 50, 32, 84, 56, 124, 115, 101, 95, 98, 58, 101, 56, 48, 48, 58, 84, 56, 124, 115, 101, 95, 98, 108, 58, 101, 57, 48, 48, 58, 84, 56, 124, 101, 95, 97, 100, 100, 49, 54, 105, 58, 49, 99, 48, 48, 48, 48, 48, 48, 58, 68, 32, 65, 32, 83, 49, 54, 124, 101, 95, 97, 100, 100, 105, 58, 49, 56, 48, 48, 56, 48, 48, 48, 58, 68, 32, 65, 32, 67, 56, 124, 101, 95, 97, 110, 100, 105, 58, 49, 56, 48, 48, 99, 48, 48, 48, 58, 65, 32, 68, 32, 67, 56, 124, 101, 95, 111, 114, 105, 58, 49, 56, 48, 48, 100, 48, 48, 48, 58, 65, 32, 68, 32, 67, 56, 124, 101, 95, 120, 111, 114, 105, 58, 49, 56, 48, 48, 101, 48, 48, 48, 58, 65, 32, 68, 32, 67, 56, 124, 101, 95, 108, 105, 58, 55, 48, 48, 48, 48, 48, 48, 48, 58, 68, 32, 76, 50, 48, 124, 101, 95, 108, 98, 122, 58, 51, 48, 48, 48, 48, 48, 48, 48, 58, 68, 32, 83, 49, 54, 32, 65, 124, 101, 95, 115, 116, 98, 58, 51, 52, 48, 48, 48, 48, 48, 48, 58, 68, 32, 83, 49, 54, 32, 65, 124, 101, 95, 108, 104, 97, 58, 51, 56, 48, 48, 48, 48, 48, 48, 58, 68, 32, 83, 49, 54, 32, 65, 124, 101, 95, 108, 119, 122, 58, 53, 48, 48, 48, 48, 48, 48, 48, 58, 68, 32, 83, 49, 54, 32, 65, 124, 101, 95, 115, 116, 119, 58, 53, 52, 48, 48, 48, 48, 48, 48, 58, 68, 32, 83, 49, 54, 32, 65, 124, 101, 95, 108, 104, 122, 58, 53, 56, 48, 48, 48, 48, 48, 48, 58, 68, 32, 83, 49, 54, 32, 65, 124, 101, 95, 115, 116, 104, 58, 53, 99, 48, 48, 48, 48, 48, 48, 58, 68, 32, 83, 49, 54, 32, 65, 124, 101, 95, 98, 58, 55, 56, 48, 48, 48, 48, 48, 48, 58, 84, 50, 52, 124, 101, 95, 98, 108, 58, 55, 56, 48, 48, 48, 48, 48, 49, 58, 84, 50, 52, 124, 101, 95, 98, 99, 58, 55, 97, 48, 48, 48, 48, 48, 48, 58, 79, 50, 32, 73, 52, 32, 84, 49, 53, 124, 101, 95, 98, 99, 108, 58, 55, 97, 48, 48, 48, 48, 48, 49, 58, 79, 50, 32, 73, 52, 32, 84, 49, 53, 124, 97, 100, 100, 58, 55, 99, 48, 48, 48, 50, 49, 52, 58, 68, 32, 65, 32, 66, 124, 115, 117, 98, 102, 58, 55, 99, 48, 48, 48, 48, 53, 48, 58, 68, 32, 65, 32, 66, 124, 109, 117, 108, 108, 119, 58, 55, 99, 48, 48, 48, 49, 100, 54, 58, 68, 32, 65, 32, 66, 124, 97, 110, 100, 58, 55, 99, 48, 48, 48, 48, 51, 56, 58, 65, 32, 68, 32, 66, 124, 111, 114, 58, 55, 99, 48, 48, 48, 51, 55, 56, 58, 65, 32, 68, 32, 66, 124, 120, 111, 114, 58, 55, 99, 48, 48, 48, 50, 55, 56, 58, 65, 32, 68, 32, 66, 124]⟩
def s_ : ByteArray := ⟨#[]⟩
def WI : ByteArray := ⟨#[48, 49, 50, 51, 52, 53, 54, 55, 56, 57]⟩
def s_0x : ByteArray := ⟨#[48, 120]⟩
def s_1 : ByteArray := ⟨#[49]⟩
def s_A : ByteArray := ⟨#[65]⟩
def s_B : ByteArray := ⟨#[66]⟩
def s_D : ByteArray := ⟨#[68]⟩
def s_I2 : ByteArray := ⟨#[73, 50]⟩
def s_I4 : ByteArray := ⟨#[73, 52]⟩
def Qsm : ByteArray := ⟨#[76, 50, 48]⟩
def s_M1 : ByteArray := ⟨#[77, 49]⟩
def s_M2 : ByteArray := ⟨#[77, 50]⟩
def s_M4 : ByteArray := ⟨#[77, 52]⟩
def s_O1 : ByteArray := ⟨#[79, 49]⟩
def s_O2 : ByteArray := ⟨#[79, 50]⟩
def s_O5 : ByteArray := ⟨#[79, 53]⟩
def Qsn : ByteArray := ⟨#[83, 49, 54]⟩
def Qso : ByteArray := ⟨#[84, 49, 53]⟩
def EJ : ByteArray := ⟨#[84, 50, 52]⟩
def s_T8 : ByteArray := ⟨#[84, 56]⟩
def s_U5 : ByteArray := ⟨#[85, 53]⟩
def s_U7 : ByteArray := ⟨#[85, 55]⟩
def s_X : ByteArray := ⟨#[88]⟩
def s_Y : ByteArray := ⟨#[89]⟩
def s_a : ByteArray := ⟨#[97]⟩
def Qi6 : ByteArray := ⟨#[97, 100, 100]⟩
def Qi7 : ByteArray := ⟨#[97, 110, 100]⟩
def s_b : ByteArray := ⟨#[98]⟩
def s_b1 : ByteArray := ⟨#[98, 49]⟩
def Sc : ByteArray := ⟨#[98, 97, 115, 101]⟩
def s_bc : ByteArray := ⟨#[98, 99]⟩
def s_bl : ByteArray := ⟨#[98, 108]⟩
def Fo : ByteArray := ⟨#[101, 95, 97, 100, 100, 49, 54, 105]⟩
def QaL : ByteArray := ⟨#[101, 95, 97, 100, 100, 105]⟩
def QaM : ByteArray := ⟨#[101, 95, 97, 110, 100, 105]⟩
def Qi8 : ByteArray := ⟨#[101, 95, 98]⟩
def Qfv : ByteArray := ⟨#[101, 95, 98, 99]⟩
def QcJ : ByteArray := ⟨#[101, 95, 98, 99, 108]⟩
def Qfw : ByteArray := ⟨#[101, 95, 98, 108]⟩
def QcK : ByteArray := ⟨#[101, 95, 108, 98, 122]⟩
def QcL : ByteArray := ⟨#[101, 95, 108, 104, 97]⟩
def QcM : ByteArray := ⟨#[101, 95, 108, 104, 122]⟩
def Qfx : ByteArray := ⟨#[101, 95, 108, 105]⟩
def QcN : ByteArray := ⟨#[101, 95, 108, 119, 122]⟩
def QcO : ByteArray := ⟨#[101, 95, 111, 114, 105]⟩
def QcP : ByteArray := ⟨#[101, 95, 115, 116, 98]⟩
def QcQ : ByteArray := ⟨#[101, 95, 115, 116, 104]⟩
def QcR : ByteArray := ⟨#[101, 95, 115, 116, 119]⟩
def QaN : ByteArray := ⟨#[101, 95, 120, 111, 114, 105]⟩
def E6 : ByteArray := ⟨#[101, 110, 100, 95, 49]⟩
def s_hi : ByteArray := ⟨#[104, 105]⟩
def s_k : ByteArray := ⟨#[107]⟩
def Fp : ByteArray := ⟨#[108, 111, 111, 112]⟩
def QcS : ByteArray := ⟨#[109, 117, 108, 108, 119]⟩
def s_or : ByteArray := ⟨#[111, 114]⟩
def s_r : ByteArray := ⟨#[114]⟩
def s_r3 : ByteArray := ⟨#[114, 51]⟩
def EK : ByteArray := ⟨#[114, 51, 49]⟩
def EL : ByteArray := ⟨#[114, 51, 50]⟩
def QaO : ByteArray := ⟨#[115, 101, 95, 97, 100, 100]⟩
def Sd : ByteArray := ⟨#[115, 101, 95, 97, 100, 100, 105]⟩
def QaP : ByteArray := ⟨#[115, 101, 95, 97, 110, 100]⟩
def Se : ByteArray := ⟨#[115, 101, 95, 97, 110, 100, 99]⟩
def Qfy : ByteArray := ⟨#[115, 101, 95, 98]⟩
def QcT : ByteArray := ⟨#[115, 101, 95, 98, 99]⟩
def Fq : ByteArray := ⟨#[115, 101, 95, 98, 99, 108, 114, 105]⟩
def Sf : ByteArray := ⟨#[115, 101, 95, 98, 99, 116, 114]⟩
def QcU : ByteArray := ⟨#[115, 101, 95, 98, 108]⟩
def QaQ : ByteArray := ⟨#[115, 101, 95, 98, 108, 114]⟩
def Fr : ByteArray := ⟨#[115, 101, 95, 98, 115, 101, 116, 105]⟩
def Fs : ByteArray := ⟨#[115, 101, 95, 98, 116, 115, 116, 105]⟩
def QaR : ByteArray := ⟨#[115, 101, 95, 99, 109, 112]⟩
def Sg : ByteArray := ⟨#[115, 101, 95, 99, 109, 112, 105]⟩
def Si : ByteArray := ⟨#[115, 101, 95, 99, 109, 112, 108]⟩
def Ft : ByteArray := ⟨#[115, 101, 95, 99, 109, 112, 108, 105]⟩
def Fu : ByteArray := ⟨#[115, 101, 95, 101, 120, 116, 115, 98]⟩
def Fv : ByteArray := ⟨#[115, 101, 95, 101, 120, 116, 115, 104]⟩
def Fw : ByteArray := ⟨#[115, 101, 95, 101, 120, 116, 122, 98]⟩
def Fx : ByteArray := ⟨#[115, 101, 95, 101, 120, 116, 122, 104]⟩
def GB : ByteArray := ⟨#[115, 101, 95, 105, 108, 108, 101, 103, 97, 108]⟩
def Fy : ByteArray := ⟨#[115, 101, 95, 105, 115, 121, 110, 99]⟩
def QaS : ByteArray := ⟨#[115, 101, 95, 108, 98, 122]⟩
def QaT : ByteArray := ⟨#[115, 101, 95, 108, 104, 122]⟩
def Xo : ByteArray := ⟨#[115, 101, 95, 108, 105]⟩
def QaU : ByteArray := ⟨#[115, 101, 95, 108, 119, 122]⟩
def Fz : ByteArray := ⟨#[115, 101, 95, 109, 102, 99, 116, 114]⟩
def Sj : ByteArray := ⟨#[115, 101, 95, 109, 102, 108, 114]⟩
def QcV : ByteArray := ⟨#[115, 101, 95, 109, 114]⟩
def FA : ByteArray := ⟨#[115, 101, 95, 109, 116, 99, 116, 114]⟩
def Sk : ByteArray := ⟨#[115, 101, 95, 109, 116, 108, 114]⟩
def FB : ByteArray := ⟨#[115, 101, 95, 109, 117, 108, 108, 119]⟩
def QaV : ByteArray := ⟨#[115, 101, 95, 110, 101, 103]⟩
def QaW : ByteArray := ⟨#[115, 101, 95, 110, 111, 116]⟩
def QcW : ByteArray := ⟨#[115, 101, 95, 111, 114]⟩
def QcX : ByteArray := ⟨#[115, 101, 95, 115, 99]⟩
def Sl : ByteArray := ⟨#[115, 101, 95, 115, 108, 119, 105]⟩
def Sm : ByteArray := ⟨#[115, 101, 95, 115, 114, 119, 105]⟩
def QaX : ByteArray := ⟨#[115, 101, 95, 115, 116, 98]⟩
def QaY : ByteArray := ⟨#[115, 101, 95, 115, 116, 104]⟩
def QaZ : ByteArray := ⟨#[115, 101, 95, 115, 116, 119]⟩
def Qa0 : ByteArray := ⟨#[115, 101, 95, 115, 117, 98]⟩
def Sn : ByteArray := ⟨#[115, 101, 95, 115, 117, 98, 105]⟩
def GC : ByteArray := ⟨#[115, 105, 122, 101]⟩
def Qfz : ByteArray := ⟨#[115, 117, 98, 102]⟩
def FC : ByteArray := ⟨#[116, 97, 98]⟩
def s_x : ByteArray := ⟨#[120]⟩
def Qi9 : ByteArray := ⟨#[120, 111, 114]⟩
def anT : List (Nat × List (Nat × Ann)) := [
 (6, [(11, { keep := [4, 5, 13, 14, 15, 16, 17], out := [5, 13, 14, 15, 16], res := [12], own := [(14, 1)], full := false }), (16, { keep := [18, 19], out := [], res := [12], own := [(14, 1)], full := false })]),
 (20, [(2, { keep := [0, 2, 4], out := [0, 2], res := [2, 3], own := [], full := false }), (12, { keep := [2, 5, 6, 7], out := [2, 5, 6, 7], res := [2, 3], own := [], full := false })]),
 (22, [(15, { keep := [1, 3, 4, 5], out := [3, 4], res := [2], own := [(4, 1)], full := false }), (21, { keep := [3, 4, 6], out := [3], res := [2], own := [(4, 1)], full := false })]),
 (24, [(2, { keep := [0, 3], out := [], res := [2], own := [], full := false })]),
 (25, [(8, { keep := [1, 2, 3, 5, 6], out := [1, 2, 3], res := [2], own := [], full := false })]),
 (28, [(4, { keep := [2, 3, 5], out := [], res := [4], own := [], full := false })]),
 (36, [(4, { keep := [0, 3, 4, 5], out := [3], res := [2], own := [(3, 1)], full := false })]),
 (39, [(2, { keep := [0, 3], out := [], res := [2], own := [], full := false })]),
 (52, [(2, { keep := [0, 4], out := [0], res := [2, 3], own := [], full := false })]),
 (53, [(1, { keep := [0], out := [0], res := [2], own := [], full := false }), (3, { keep := [0], out := [0], res := [2], own := [], full := false })]),
 (54, [(3, { keep := [0, 3, 4], out := [0], res := [2], own := [], full := false })]),
 (55, [(4, { keep := [0, 3, 4, 5, 6], out := [3], res := [2], own := [(3, 1)], full := false })]),
 (58, [(5, { keep := [0, 1, 4, 7, 8, 9, 10, 11], out := [4], res := [4, 5, 6], own := [], full := false })]),
 (65, [(3, { keep := [2, 4, 5, 6], out := [4, 5], res := [4], own := [], full := false })]),
 (71, [(3, { keep := [0, 3, 4], out := [], res := [2], own := [], full := false })]),
 (72, [(2, { keep := [0, 1, 5], out := [5], res := [4], own := [], full := false })]),
 (78, [(4, { keep := [2, 3, 5], out := [], res := [4], own := [], full := false })]),
 (83, [(5, { keep := [0, 3, 4], out := [3], res := [2], own := [], full := false })]),
 (100, [(4, { keep := [0, 4], out := [0], res := [2, 3], own := [], full := false })]),
 (101, [(3, { keep := [0, 1, 6, 7], out := [6], res := [4, 5], own := [(6, 5)], full := false })]),
 (105, [(5, { keep := [0, 1, 5, 6], out := [5], res := [4], own := [], full := false })]),
 (116, [(1, { keep := [0, 1], out := [0], res := [4], own := [], full := false })]),
 (123, [(5, { keep := [3, 10, 11], out := [3], res := [2], own := [(3, 1)], full := true })]),
 (125, [(3, { keep := [0, 1, 5, 14, 15, 16], out := [1, 5], res := [4], own := [(5, 200)], full := false })]),
 (126, [(2, { keep := [0, 1, 7, 8], out := [], res := [4], own := [], full := false })]),
 (127, [(3, { keep := [0, 1, 5, 6], out := [5], res := [4], own := [], full := false })]),
 (128, [(3, { keep := [0, 5, 6, 7], out := [5], res := [4], own := [(5, 200)], full := false })]),
 (159, [(4, { keep := [0, 1, 4, 5], out := [], res := [4], own := [], full := false })]),
 (160, [(0, { keep := [0], out := [], res := [], own := [], full := false })]),
 (175, [(2, { keep := [0, 1, 7, 8], out := [], res := [4], own := [], full := false })]),
 (205, [(5, { keep := [0, 3, 4], out := [3], res := [2], own := [], full := false })]),
 (207, [(2, { keep := [0, 1, 5], out := [], res := [4], own := [], full := false })]),
 (215, [(5, { keep := [0, 1, 4, 5, 6], out := [4, 5], res := [4], own := [], full := false })]),
 (235, [(2, { keep := [0, 1, 4, 5, 6], out := [0, 4, 5, 6], res := [4], own := [], full := false })]),
 (237, [(2, { keep := [0, 2, 3], out := [0, 2, 3], res := [2], own := [], full := false })]),
 (244, [(2, { keep := [0, 7, 8, 9], out := [], res := [4], own := [], full := false })]),
 (266, [(2, { keep := [0, 1, 8], out := [0], res := [4], own := [], full := false })]),
 (269, [(3, { keep := [0, 1, 2, 6, 7, 12], out := [0, 1, 6, 7], res := [6], own := [], full := false })])]
def kdT : List (Nat × List Nat) := [(37, [0, 0, 0, 0, 0, 5]), (56, [129, 131, 178]), (60, [0, 1]), (113, [0, 0, 0, 0, 0, 5])]
def extT : List (Nat × (List AV → Heap → Option (AV × Heap))) := [(23, knownX), (70, indexByteX), (74, trimX), (77, (cloneF 5 64)), (79, splitX), (145, fieldsX), (177, containsX), (241, atoiX)]
def G : Cfg := { ext := fun f => get f extT, an := fun f r => ((get f anT).bind (get r)).getD {}, kd := fun t => (get t kdT).getD [] }
def anT0 : List (Nat × List (Nat × Ann)) := [
 (26, [(15, { keep := [1, 3, 4, 40, 41, 42], out := [1, 3, 4], res := [2], own := [(4, 1)], full := false })]),
 (31, [(2, { keep := [2, 3, 9, 10, 11], out := [2, 3], res := [2, 3], own := [(2, 6), (3, 1)], full := false })]),
 (71, [(3, { keep := [0, 3, 4], out := [], res := [2], own := [], full := false })]),
 (72, [(2, { keep := [0, 1, 5], out := [5], res := [4], own := [], full := false })]),
 (116, [(1, { keep := [0, 1], out := [0], res := [4], own := [], full := false })]),
 (123, [(5, { keep := [3, 10, 11], out := [3], res := [2], own := [(3, 1)], full := true })]),
 (125, [(3, { keep := [0, 1, 5, 14, 15, 16], out := [1, 5], res := [4], own := [(5, 200)], full := false })]),
 (126, [(2, { keep := [0, 1, 7, 8], out := [], res := [4], own := [], full := false })]),
 (127, [(3, { keep := [0, 1, 5, 6], out := [5], res := [4], own := [], full := false })]),
 (128, [(3, { keep := [0, 5, 6, 7], out := [5], res := [4], own := [(5, 200)], full := false })]),
 (175, [(2, { keep := [0, 1, 7, 8], out := [], res := [4], own := [], full := false })]),
 (215, [(5, { keep := [0, 1, 4, 5, 6], out := [4, 5], res := [4], own := [], full := false })]),
 (244, [(2, { keep := [0, 7, 8, 9], out := [], res := [4], own := [], full := false })]),
 (266, [(2, { keep := [0, 1, 8], out := [0], res := [4], own := [], full := false })]),
 (269, [(3, { keep := [0, 1, 2, 6, 7, 12], out := [0, 1, 6, 7], res := [6], own := [], full := false })])]
def kdT0 : List (Nat × List Nat) := [(37, [0, 0, 0, 0, 0, 5]), (56, [129, 131, 178]), (113, [0, 0, 0, 0, 0, 5])]
def extT0 : List (Nat × (List AV → Heap → Option (AV × Heap))) := [(69, joinX), (70, indexByteX), (74, trimX), (77, (cloneF 5 64)), (79, splitX), (80, (cloneF 6 80)), (81, (cloneV 8)), (93, itoaX), (145, fieldsX), (177, containsX), (241, atoiX)]
def G0 : Cfg := { ext := fun f => get f extT0, an := fun f r => ((get f anT0).bind (get r)).getD {}, kd := fun t => (get t kdT0).getD [] }
theorem Qpx : evalFn Tryz.prog G0 2000 23 [] [] = some (.sc (.bool true), []) := by kernel_rfl
noncomputable abbrev pp : Program := Tryz.prog
abbrev AH := AV × Heap
abbrev XS := Ex × St
noncomputable abbrev ww : CallF := evW Tryz.prog G
noncomputable abbrev lw (m f : Nat) : Loops := lpW Tryz.prog G m (G.an f)
def Ql (r : Bool) : AV × Heap := (xo r, [])
abbrev Qqt := Option Bool
noncomputable def ER : Option Bool := (some true)
noncomputable abbrev Qpy {ρ R : Type} (k : Bool → Tr ρ R) : Tr ρ R := .call (ww 23 [] []) (ER) Ql k
theorem ER.ok {r : Bool} (h : ER = some r) : ww 23 [] [] = some (Ql r) := (E4 rfl _ _).trans (Qrx h)
def Qm (r : Int) : AV × Heap := (xi r, [])
abbrev G2 := Int → Int → Option Int
def Qht (a0 : Int) (a1 : Int) : Option Int := (bif (decide (a1 ≠ 0)) then (bif (decide ((Int.tmod a0 a1) < 0)) then (some (w64 ((Int.tmod a0 a1) + a1))) else (some (Int.tmod a0 a1))) else none)
noncomputable def QE : G2 := Qht
theorem QE.eq (a0 : Int) (a1 : Int) : QE a0 a1 = Qht a0 a1 := rfl
noncomputable def QnV (a0 : Int) (a1 : Int) : Tr Int AH := (.as (decide (a1 ≠ 0)) (.as (decide ((Int.tmod a0 a1) < 0)) (rt Qm (w64 ((Int.tmod a0 a1) + a1))) (rt Qm (Int.tmod a0 a1))) .fail)
theorem QE.ok {a0 : Int} {a1 : Int} {r : Int} (h : QE a0 a1 = some r) : ww 29 [xi a0, xi a1] [] = some (Qm r) := by
 refine fnP (QnV a0 a1) ?_ h
 exact ⟨rfl, fun q0 => ⟨rfl, fun q1 => rfl, fun q1 => rfl⟩, fun q0 => trivial⟩
noncomputable abbrev Q9 {ρ R : Type} (a0 : Int) (a1 : Int) (k : Int → Tr ρ R) : Tr ρ R := .call (ww 29 [xi a0, xi a1] []) (QE a0 a1) Qm k
abbrev PZ := Int → Option Bool
def Qa1 (a0 : Int) : Option Bool := (bif (decide (a0 ≥ 48)) then (some (decide (a0 ≤ (57 : Int)))) else (some false))
noncomputable def VD : PZ := Qa1
theorem VD.eq (a0 : Int) : VD a0 = Qa1 a0 := rfl
noncomputable def Qms (a0 : Int) : Tr Bool AH := (let u1 := (decide (a0 ≥ 48)); .as u1 (yesN 2 u1 (rt Ql (decide (a0 ≤ (zi 57))))) (noN 2 u1 (rt Ql false)))
theorem VD.ok {a0 : Int} {r : Bool} (h : VD a0 = some r) : ww 82 [xb a0] [] = some (Ql r) := by
 refine fnP (Qms a0) ?_ h
 exact ⟨rfl, fun q0 => Qj 2 (q0) (rfl), fun q0 => noN_ok 2 (q0) (rfl)⟩
noncomputable abbrev FD {ρ R : Type} (a0 : Int) (k : Bool → Tr ρ R) : Tr ρ R := .call (ww 82 [xb a0] []) (VD a0) Ql k
abbrev Qhu := Int → Option Bool
def Qa2 (C0 : PZ) (a0 : Int) : Option Bool := (bif (decide (a0 ≥ 97)) then (bif (decide (a0 ≤ (122 : Int))) then (some true) else (bif (a0 == 95) then (some true) else ((C0 a0).bind fun r1 => (some r1)))) else (bif (a0 == 95) then (some true) else ((C0 a0).bind fun r2 => (some r2))))
noncomputable def X1 : Qhu := Qa2 VD
theorem X1.eq (a0 : Int) : X1 a0 = Qa2 VD a0 := rfl
noncomputable def Qmt (a0 : Int) : Tr Bool AH := (let u5 := (decide (a0 ≥ 97)); .as u5 (yesN 2 u5 (let u3 := (decide (a0 ≤ (zi 122))); .as u3 (yesN 2 u3 (yesN 3 true (rt Ql true))) (noN 2 u3 (let u2 := (a0 == 95); .as u2 (yesN 2 u2 (rt Ql true)) (.no u2 (FD a0 fun r1 => (.no u2 (rt Ql r1)))))))) (noN 2 u5 (noN 3 false (let u4 := (a0 == 95); .as u4 (yesN 2 u4 (rt Ql true)) (.no u4 (FD a0 fun r2 => (.no u4 (rt Ql r2))))))))
theorem X1.ok {a0 : Int} {r : Bool} (h : X1 a0 = some r) : ww 73 [xb a0] [] = some (Ql r) := by
 refine fnP (Qmt a0) ?_ h
 exact ⟨rfl, fun q0 => Qj 2 (q0) (⟨rfl, fun q1 => Qj 2 (q1) (Qj 3 (rfl) (rfl)), fun q1 => noN_ok 2 (q1) (⟨rfl, fun q2 => Qj 2 (q2) (rfl), fun q2 => ⟨q2, fun r1 h => ⟨VD.ok h, ⟨q2, rfl⟩⟩⟩⟩)⟩), fun q0 => noN_ok 2 (q0) (noN_ok 3 (rfl) (⟨rfl, fun q1 => Qj 2 (q1) (rfl), fun q1 => ⟨q1, fun r2 h => ⟨VD.ok h, ⟨q1, rfl⟩⟩⟩⟩))⟩
noncomputable abbrev Qmu {ρ R : Type} (a0 : Int) (k : Bool → Tr ρ R) : Tr ρ R := .call (ww 73 [xb a0] []) (X1 a0) Ql k
abbrev Qcd := ByteArray → Option Int
structure UU where
 x0 : ByteArray
 x5 : Int
def FE (a : UU) : St := { n := 20, nx := 0, env := [(0, xs a.x0), (1, .fn (.func 73) [] []), (5, xi a.x5)], heap := [] }
def Gu (a : Int) : Ex × St := (.exit 0, { n := 20, nx := 0, env := [(5, xi a)], heap := [] })
abbrev QcY := UU → Option Int
def FF (C0 : Qhu) (a : UU) : Option (UU ⊕ Int) := (bif (decide (a.x5 < ((a.x0.size : Nat) : Int))) then (bif (decide (0 ≤ a.x5 ∧ a.x5 < ((a.x0.size : Nat) : Int))) then ((C0 ((a.x0.data.getD (Int.toNat a.x5) 0).toNat : Int)).bind fun r1 => (bif r1 then (some (.inl (UU.mk a.x0 (w64 (a.x5 + 1))))) else (some (.inr a.x5)))) else none) else (some (.inr a.x5)))
noncomputable def WN : QcY := loopW (FF X1)
theorem WN.eq (a : UU) : WN a = (FF X1 a).bind (Sum.elim WN some) := Jf _ _
noncomputable abbrev Qja {ρ R : Type} (a : UU) (k0 : Int → Tr ρ R) : Tr ρ R := .loop (loopAt pp 72 2) (FE a) (WN a) Gu k0
noncomputable def Qjb (a : UU) : Tr (UU ⊕ Int) XS := (let u6 := (decide (a.x5 < (zz a.x0))); .as u6 (yesN 3 u6 (.as (in1 a.x5 (zz a.x0)) (.yes u6 (Qmu (gb a.x0 a.x5) fun r1 => (.yes u6 (.as r1 (lf FE (UU.mk a.x0 (w64 (a.x5 + 1)))) (rx Gu a.x5))))) .fail)) (noN 5 u6 (.no false (rx Gu a.x5))))
theorem WN.ok {a : UU} {r : Int} (h : WN a = some r) : lw 0 72 (loopAt pp 72 2) (FE a) = some (Gu r) := by
 refine lpP h Qjb fun a => ?_
 exact ⟨rfl, fun q0 => Qj 3 (q0) (⟨rfl, fun q1 => ⟨q0, fun r1 h => ⟨X1.ok h, ⟨q0, ⟨rfl, fun q2 => rfl, fun q2 => rfl⟩⟩⟩⟩, fun q1 => trivial⟩), fun q0 => noN_ok 5 (q0) (⟨rfl, rfl⟩)⟩
def Qa3 (L0 : QcY) (a0 : ByteArray) : Option Int := ((L0 (UU.mk a0 (0 : Int))).bind (fun (o1 : Int) => (some o1)))
noncomputable def WS : Qcd := Qa3 WN
theorem WS.eq (a0 : ByteArray) : WS a0 = Qa3 WN a0 := rfl
noncomputable def Qmv (a0 : ByteArray) : Tr Int AH := (Qja (UU.mk a0 i0) (fun o1 => (rt Qm o1)))
theorem WS.ok {a0 : ByteArray} {r : Int} (h : WS a0 = some r) : ww 72 [xs a0, .fn (.func 73) [] []] [] = some (Qm r) := by
 refine fnP (Qmv a0) ?_ h
 exact fun o1 h => ⟨WN.ok h, rfl⟩
noncomputable abbrev QfA {ρ R : Type} (a0 : ByteArray) (k : Int → Tr ρ R) : Tr ρ R := .call (ww 72 [xs a0, .fn (.func 73) [] []] []) (WS a0) Qm k
abbrev SL := ByteArray → Option Int
structure Uo where
 x0 : ByteArray
 x5 : Int
def Ed (a : Uo) : St := { n := 20, nx := 0, env := [(0, xs a.x0), (1, .fn (.func 82) [] []), (5, xi a.x5)], heap := [] }
def Zx (a : Int) : Ex × St := (.exit 0, { n := 20, nx := 0, env := [(5, xi a)], heap := [] })
abbrev Qa4 := Uo → Option Int
def Ee (C0 : PZ) (a : Uo) : Option (Uo ⊕ Int) := (bif (decide (a.x5 < ((a.x0.size : Nat) : Int))) then (bif (decide (0 ≤ a.x5 ∧ a.x5 < ((a.x0.size : Nat) : Int))) then ((C0 ((a.x0.data.getD (Int.toNat a.x5) 0).toNat : Int)).bind fun r1 => (bif r1 then (some (.inl (Uo.mk a.x0 (w64 (a.x5 + 1))))) else (some (.inr a.x5)))) else none) else (some (.inr a.x5)))
noncomputable def V8 : Qa4 := loopW (Ee VD)
theorem V8.eq (a : Uo) : V8 a = (Ee VD a).bind (Sum.elim V8 some) := Jf _ _
noncomputable abbrev QgX {ρ R : Type} (a : Uo) (k0 : Int → Tr ρ R) : Tr ρ R := .loop (loopAt pp 72 2) (Ed a) (V8 a) Zx k0
noncomputable def QgY (a : Uo) : Tr (Uo ⊕ Int) XS := (let u7 := (decide (a.x5 < (zz a.x0))); .as u7 (yesN 3 u7 (.as (in1 a.x5 (zz a.x0)) (.yes u7 (FD (gb a.x0 a.x5) fun r1 => (.yes u7 (.as r1 (lf Ed (Uo.mk a.x0 (w64 (a.x5 + 1)))) (rx Zx a.x5))))) .fail)) (noN 5 u7 (.no false (rx Zx a.x5))))
theorem V8.ok {a : Uo} {r : Int} (h : V8 a = some r) : lw 0 72 (loopAt pp 72 2) (Ed a) = some (Zx r) := by
 refine lpP h QgY fun a => ?_
 exact ⟨rfl, fun q0 => Qj 3 (q0) (⟨rfl, fun q1 => ⟨q0, fun r1 h => ⟨VD.ok h, ⟨q0, ⟨rfl, fun q2 => rfl, fun q2 => rfl⟩⟩⟩⟩, fun q1 => trivial⟩), fun q0 => noN_ok 5 (q0) (⟨rfl, rfl⟩)⟩
def Po (L0 : Qa4) (a0 : ByteArray) : Option Int := ((L0 (Uo.mk a0 (0 : Int))).bind (fun (o1 : Int) => (some o1)))
noncomputable def VY : SL := Po V8
theorem VY.eq (a0 : ByteArray) : VY a0 = Po V8 a0 := rfl
noncomputable def Qj3 (a0 : ByteArray) : Tr Int AH := (QgX (Uo.mk a0 i0) (fun o1 => (rt Qm o1)))
theorem VY.ok {a0 : ByteArray} {r : Int} (h : VY a0 = some r) : ww 72 [xs a0, .fn (.func 82) [] []] [] = some (Qm r) := by
 refine fnP (Qj3 a0) ?_ h
 exact fun o1 h => ⟨V8.ok h, rfl⟩
noncomputable abbrev QcZ {ρ R : Type} (a0 : ByteArray) (k : Int → Tr ρ R) : Tr ρ R := .call (ww 72 [xs a0, .fn (.func 82) [] []] []) (VY a0) Qm k
abbrev QdF := ByteArray → Option Bool
def Qce (C0 : PZ) (C1 : Qcd) (C2 : SL) (a0 : ByteArray) : Option Bool := (bif (eqS a0 s_) then (some false) else (bif (decide (((a0.size : Nat) : Int) > 12)) then (some false) else (bif (decide (0 ≤ (0 : Int) ∧ (0 : Int) < ((a0.size : Nat) : Int))) then ((C0 ((a0.data.getD (Int.toNat 0) 0).toNat : Int)).bind fun r1 => (bif r1 then (some false) else ((C1 a0).bind fun r2 => (bif (r2 != ((a0.size : Nat) : Int)) then (some false) else (bif (((a0.data.getD (Int.toNat 0) 0).toNat : Int) != 114) then (some true) else (bif (((a0.size : Nat) : Int) == 1) then (some true) else (bif (decide (0 ≤ (1 : Int) ∧ (1 : Int) ≤ ((a0.size : Nat) : Int) ∧ ((a0.size : Nat) : Int) ≤ ((a0.size : Nat) : Int))) then ((C2 (a0.extract (Int.toNat 1) (Int.toNat ((a0.size : Nat) : Int)))).bind fun r3 => (some (r3 != (w64 (((a0.size : Nat) : Int) - 1))))) else none))))))) else none)))
noncomputable def Xp : QdF := Qce VD WS VY
theorem Xp.eq (a0 : ByteArray) : Xp a0 = Qce VD WS VY a0 := rfl
noncomputable def QnW (a0 : ByteArray) : Tr Bool AH := (let u12 := (eqS a0 s_); .as u12 (yesN 3 u12 (yesN 11 true (rt Ql false))) (noN 3 u12 (let u11 := (decide ((zz a0) > 12)); .as u11 (yesN 3 u11 (yesN 7 true (rt Ql false))) (.no u11 (let u10 := (in1 i0 (zz a0)); .as u10 (.no u11 (FD (gb a0 i0) fun r1 => (.no u11 (.as r1 (yesN 5 r1 (.yes true (rt Ql false))) (.no r1 (QfA a0 fun r2 => (noN 4 r1 (.as (r2 != (zz a0)) (rt Ql false) (.yes u10 (let u9 := ((gb a0 i0) != 114); .as u9 (yesN 3 u9 (yesN 8 true (rt Ql true))) (noN 3 u9 (let u8 := ((zz a0) == 1); .as u8 (yesN 7 u8 (rt Ql true)) (.no u8 (.as (in2 (zi 1) (zz a0) (zz a0)) (.no u8 (QcZ (cu a0 (zi 1) (zz a0)) fun r3 => (noN 5 u8 (rt Ql (r3 != (w64 ((zz a0) - 1))))))) .fail)))))))))))))) .fail)))))
theorem Xp.ok {a0 : ByteArray} {r : Bool} (h : Xp a0 = some r) : ww 33 [xs a0] [] = some (Ql r) := by
 refine fnP (QnW a0) ?_ h
 exact ⟨rfl, fun q0 => Qj 3 (q0) (Qj 11 (rfl) (rfl)), fun q0 => noN_ok 3 (q0) (⟨rfl, fun q1 => Qj 3 (q1) (Qj 7 (rfl) (rfl)), fun q1 => ⟨q1, ⟨rfl, fun q2 => ⟨q1, fun r1 h => ⟨VD.ok h, ⟨q1, ⟨rfl, fun q3 => Qj 5 (q3) (⟨rfl, rfl⟩), fun q3 => ⟨q3, fun r2 h => ⟨WS.ok h, noN_ok 4 (q3) (⟨rfl, fun q4 => rfl, fun q4 => ⟨q2, ⟨rfl, fun q5 => Qj 3 (q5) (Qj 8 (rfl) (rfl)), fun q5 => noN_ok 3 (q5) (⟨rfl, fun q6 => Qj 7 (q6) (rfl), fun q6 => ⟨q6, ⟨rfl, fun q7 => ⟨q6, fun r3 h => ⟨VY.ok h, noN_ok 5 (q6) (rfl)⟩⟩, fun q7 => trivial⟩⟩⟩)⟩⟩⟩)⟩⟩⟩⟩⟩⟩, fun q2 => trivial⟩⟩⟩)⟩
noncomputable abbrev Qhv {ρ R : Type} (a0 : ByteArray) (k : Bool → Tr ρ R) : Tr ρ R := .call (ww 33 [xs a0] []) (Xp a0) Ql k
abbrev Qif := ByteArray → Option Bool
structure Qy where
 x0 : ByteArray
 x3 : Bool
 x4 : Int
def JX (a : Qy) : St := { n := 65, nx := 0, env := [(0, xs a.x0), (3, xo a.x3), (4, xi a.x4)], heap := [] }
def Qej (a : Bool) : Ex × St := (.ret, { n := 65, nx := 0, env := [(2, xo a)], heap := [] })
def Qek (a : Bool) : Ex × St := (.exit 0, { n := 65, nx := 0, env := [(3, xo a)], heap := [] })
def W9 (a : (Bool ⊕ Bool)) : Ex × St := Sum.elim Qej Qek a
abbrev Qhw := Qy → Option (Bool ⊕ Bool)
def ZJ (a : Qy) : Option (Qy ⊕ (Bool ⊕ Bool)) := (bif (decide (a.x4 < ((a.x0.size : Nat) : Int))) then (bif (decide (0 ≤ a.x4 ∧ a.x4 < ((a.x0.size : Nat) : Int))) then (bif (decide (((a.x0.data.getD (Int.toNat a.x4) 0).toNat : Int) ≥ 48)) then (bif (decide (((a.x0.data.getD (Int.toNat a.x4) 0).toNat : Int) ≥ 97)) then (bif (!(decide (((a.x0.data.getD (Int.toNat a.x4) 0).toNat : Int) ≤ 122))) then (bif (((a.x0.data.getD (Int.toNat a.x4) 0).toNat : Int) != 95) then (bif (a.x4 == 0) then (some (.inr (.inl false))) else (bif (!(decide (((a.x0.data.getD (Int.toNat a.x4) 0).toNat : Int) ≤ 57))) then (some (.inr (.inl false))) else (bif (decide (a.x4 > 0)) then (some (.inl (Qy.mk a.x0 a.x3 (w64 (a.x4 + 1))))) else (some (.inl (Qy.mk a.x0 a.x3 (w64 (a.x4 + 1)))))))) else (bif (decide (a.x4 > 0)) then (bif (!(decide (((a.x0.data.getD (Int.toNat a.x4) 0).toNat : Int) ≤ 57))) then (some (.inl (Qy.mk a.x0 false (w64 (a.x4 + 1))))) else (some (.inl (Qy.mk a.x0 a.x3 (w64 (a.x4 + 1)))))) else (some (.inl (Qy.mk a.x0 a.x3 (w64 (a.x4 + 1))))))) else (bif (decide (a.x4 > 0)) then (bif (!(decide (((a.x0.data.getD (Int.toNat a.x4) 0).toNat : Int) ≤ 57))) then (some (.inl (Qy.mk a.x0 false (w64 (a.x4 + 1))))) else (some (.inl (Qy.mk a.x0 a.x3 (w64 (a.x4 + 1)))))) else (some (.inl (Qy.mk a.x0 a.x3 (w64 (a.x4 + 1))))))) else (bif (((a.x0.data.getD (Int.toNat a.x4) 0).toNat : Int) != 95) then (bif (a.x4 == 0) then (some (.inr (.inl false))) else (bif (!(decide (((a.x0.data.getD (Int.toNat a.x4) 0).toNat : Int) ≤ 57))) then (some (.inr (.inl false))) else (bif (decide (a.x4 > 0)) then (some (.inl (Qy.mk a.x0 a.x3 (w64 (a.x4 + 1))))) else (some (.inl (Qy.mk a.x0 a.x3 (w64 (a.x4 + 1)))))))) else (bif (decide (a.x4 > 0)) then (bif (!(decide (((a.x0.data.getD (Int.toNat a.x4) 0).toNat : Int) ≤ 57))) then (some (.inl (Qy.mk a.x0 false (w64 (a.x4 + 1))))) else (some (.inl (Qy.mk a.x0 a.x3 (w64 (a.x4 + 1)))))) else (some (.inl (Qy.mk a.x0 a.x3 (w64 (a.x4 + 1)))))))) else (bif (decide (((a.x0.data.getD (Int.toNat a.x4) 0).toNat : Int) ≥ 97)) then (bif (!(decide (((a.x0.data.getD (Int.toNat a.x4) 0).toNat : Int) ≤ 122))) then (bif (((a.x0.data.getD (Int.toNat a.x4) 0).toNat : Int) != 95) then (bif (a.x4 == 0) then (some (.inr (.inl false))) else (some (.inr (.inl false)))) else (bif (decide (a.x4 > 0)) then (some (.inl (Qy.mk a.x0 false (w64 (a.x4 + 1))))) else (some (.inl (Qy.mk a.x0 a.x3 (w64 (a.x4 + 1))))))) else (bif (decide (a.x4 > 0)) then (some (.inl (Qy.mk a.x0 false (w64 (a.x4 + 1))))) else (some (.inl (Qy.mk a.x0 a.x3 (w64 (a.x4 + 1))))))) else (bif (((a.x0.data.getD (Int.toNat a.x4) 0).toNat : Int) != 95) then (bif (a.x4 == 0) then (some (.inr (.inl false))) else (some (.inr (.inl false)))) else (bif (decide (a.x4 > 0)) then (some (.inl (Qy.mk a.x0 false (w64 (a.x4 + 1))))) else (some (.inl (Qy.mk a.x0 a.x3 (w64 (a.x4 + 1))))))))) else none) else (some (.inr (.inr a.x3))))
noncomputable def VE : Qhw := loopW (ZJ )
theorem VE.eq (a : Qy) : VE a = (ZJ a).bind (Sum.elim VE some) := Jf _ _
noncomputable abbrev QfB {ρ R : Type} (a : Qy) (k0 : Bool → Tr ρ R) (k1 : Bool → Tr ρ R) : Tr ρ R := .loop2 (loopAt pp 83 5) (JX a) (VE a) Qej Qek k0 k1
noncomputable def Qmw (a : Qy) : Tr (Qy ⊕ (Bool ⊕ Bool)) XS := (.as (decide (a.x4 < (zz a.x0))) (.as (in1 a.x4 (zz a.x0)) (let u35 := (decide ((gb a.x0 a.x4) ≥ 48)); .as u35 (yesN 2 u35 (let u25 := (decide ((gb a.x0 a.x4) ≥ 97)); .as u25 (yesN 2 u25 (let u19 := (!(decide ((gb a.x0 a.x4) ≤ 122))); .as u19 (yesN 2 u19 (let u17 := ((gb a.x0 a.x4) != 95); .as u17 (yesN 2 u17 (let u15 := (a.x4 == 0); .as u15 (.yes u15 (.yes u17 (.yes u15 (.yes u17 (.yes true (rx W9 (.inl false))))))) (.no u15 (.yes u17 (.no u15 (.yes u17 (let u14 := (!(decide ((gb a.x0 a.x4) ≤ 57))); .as u14 (rx W9 (.inl false)) (let u13 := (decide (a.x4 > 0)); .as u13 (yesN 2 u13 (.no u14 (lf JX (Qy.mk a.x0 a.x3 (w64 (a.x4 + 1)))))) (noN 2 u13 (.no false (lf JX (Qy.mk a.x0 a.x3 (w64 (a.x4 + 1)))))))))))))) (noN 4 u17 (.no false (let u16 := (decide (a.x4 > 0)); .as u16 (yesN 2 u16 (.as (!(decide ((gb a.x0 a.x4) ≤ 57))) (lf JX (Qy.mk a.x0 false (w64 (a.x4 + 1)))) (lf JX (Qy.mk a.x0 a.x3 (w64 (a.x4 + 1)))))) (noN 2 u16 (.no false (lf JX (Qy.mk a.x0 a.x3 (w64 (a.x4 + 1))))))))))) (noN 2 u19 (noN 6 false (let u18 := (decide (a.x4 > 0)); .as u18 (yesN 2 u18 (.as (!(decide ((gb a.x0 a.x4) ≤ 57))) (lf JX (Qy.mk a.x0 false (w64 (a.x4 + 1)))) (lf JX (Qy.mk a.x0 a.x3 (w64 (a.x4 + 1)))))) (noN 2 u18 (.no false (lf JX (Qy.mk a.x0 a.x3 (w64 (a.x4 + 1))))))))))) (noN 2 u25 (yesN 3 true (let u24 := ((gb a.x0 a.x4) != 95); .as u24 (yesN 2 u24 (let u22 := (a.x4 == 0); .as u22 (.yes u22 (.yes u24 (.yes u22 (.yes u24 (.yes true (rx W9 (.inl false))))))) (.no u22 (.yes u24 (.no u22 (.yes u24 (let u21 := (!(decide ((gb a.x0 a.x4) ≤ 57))); .as u21 (rx W9 (.inl false)) (let u20 := (decide (a.x4 > 0)); .as u20 (yesN 2 u20 (.no u21 (lf JX (Qy.mk a.x0 a.x3 (w64 (a.x4 + 1)))))) (noN 2 u20 (.no false (lf JX (Qy.mk a.x0 a.x3 (w64 (a.x4 + 1)))))))))))))) (noN 4 u24 (.no false (let u23 := (decide (a.x4 > 0)); .as u23 (yesN 2 u23 (.as (!(decide ((gb a.x0 a.x4) ≤ 57))) (lf JX (Qy.mk a.x0 false (w64 (a.x4 + 1)))) (lf JX (Qy.mk a.x0 a.x3 (w64 (a.x4 + 1)))))) (noN 2 u23 (.no false (lf JX (Qy.mk a.x0 a.x3 (w64 (a.x4 + 1)))))))))))))) (noN 2 u35 (let u34 := (decide ((gb a.x0 a.x4) ≥ 97)); .as u34 (yesN 2 u34 (let u30 := (!(decide ((gb a.x0 a.x4) ≤ 122))); .as u30 (yesN 2 u30 (let u28 := ((gb a.x0 a.x4) != 95); .as u28 (yesN 2 u28 (let u26 := (a.x4 == 0); .as u26 (.yes u26 (.yes u28 (.yes u26 (.yes u28 (.yes true (rx W9 (.inl false))))))) (.no u26 (.yes u28 (.no u26 (.yes u28 (.yes true (rx W9 (.inl false))))))))) (noN 4 u28 (.no false (let u27 := (decide (a.x4 > 0)); .as u27 (yesN 2 u27 (.yes true (lf JX (Qy.mk a.x0 false (w64 (a.x4 + 1)))))) (noN 2 u27 (.no false (lf JX (Qy.mk a.x0 a.x3 (w64 (a.x4 + 1))))))))))) (noN 2 u30 (noN 6 false (let u29 := (decide (a.x4 > 0)); .as u29 (yesN 2 u29 (.yes true (lf JX (Qy.mk a.x0 false (w64 (a.x4 + 1)))))) (noN 2 u29 (.no false (lf JX (Qy.mk a.x0 a.x3 (w64 (a.x4 + 1))))))))))) (noN 2 u34 (yesN 3 true (let u33 := ((gb a.x0 a.x4) != 95); .as u33 (yesN 2 u33 (let u31 := (a.x4 == 0); .as u31 (.yes u31 (.yes u33 (.yes u31 (.yes u33 (.yes true (rx W9 (.inl false))))))) (.no u31 (.yes u33 (.no u31 (.yes u33 (.yes true (rx W9 (.inl false))))))))) (noN 4 u33 (.no false (let u32 := (decide (a.x4 > 0)); .as u32 (yesN 2 u32 (.yes true (lf JX (Qy.mk a.x0 false (w64 (a.x4 + 1)))))) (noN 2 u32 (.no false (lf JX (Qy.mk a.x0 a.x3 (w64 (a.x4 + 1))))))))))))))) .fail) (rx W9 (.inr a.x3)))
theorem VE.ok {a : Qy} {r : (Bool ⊕ Bool)} (h : VE a = some r) : lw 0 83 (loopAt pp 83 5) (JX a) = some (W9 r) := by
 refine lpP h Qmw fun a => ?_
 exact ⟨rfl, fun q0 => ⟨rfl, fun q1 => ⟨rfl, fun q2 => Qj 2 (q2) (⟨rfl, fun q3 => Qj 2 (q3) (⟨rfl, fun q4 => Qj 2 (q4) (⟨rfl, fun q5 => Qj 2 (q5) (⟨rfl, fun q6 => ⟨q6, ⟨q5, ⟨q6, ⟨q5, ⟨rfl, rfl⟩⟩⟩⟩⟩, fun q6 => ⟨q6, ⟨q5, ⟨q6, ⟨q5, ⟨rfl, fun q7 => rfl, fun q7 => ⟨rfl, fun q8 => Qj 2 (q8) (⟨q7, rfl⟩), fun q8 => noN_ok 2 (q8) (⟨rfl, rfl⟩)⟩⟩⟩⟩⟩⟩⟩), fun q5 => noN_ok 4 (q5) (⟨rfl, ⟨rfl, fun q6 => Qj 2 (q6) (⟨rfl, fun q7 => rfl, fun q7 => rfl⟩), fun q6 => noN_ok 2 (q6) (⟨rfl, rfl⟩)⟩⟩)⟩), fun q4 => noN_ok 2 (q4) (noN_ok 6 (rfl) (⟨rfl, fun q5 => Qj 2 (q5) (⟨rfl, fun q6 => rfl, fun q6 => rfl⟩), fun q5 => noN_ok 2 (q5) (⟨rfl, rfl⟩)⟩))⟩), fun q3 => noN_ok 2 (q3) (Qj 3 (rfl) (⟨rfl, fun q4 => Qj 2 (q4) (⟨rfl, fun q5 => ⟨q5, ⟨q4, ⟨q5, ⟨q4, ⟨rfl, rfl⟩⟩⟩⟩⟩, fun q5 => ⟨q5, ⟨q4, ⟨q5, ⟨q4, ⟨rfl, fun q6 => rfl, fun q6 => ⟨rfl, fun q7 => Qj 2 (q7) (⟨q6, rfl⟩), fun q7 => noN_ok 2 (q7) (⟨rfl, rfl⟩)⟩⟩⟩⟩⟩⟩⟩), fun q4 => noN_ok 4 (q4) (⟨rfl, ⟨rfl, fun q5 => Qj 2 (q5) (⟨rfl, fun q6 => rfl, fun q6 => rfl⟩), fun q5 => noN_ok 2 (q5) (⟨rfl, rfl⟩)⟩⟩)⟩))⟩), fun q2 => noN_ok 2 (q2) (⟨rfl, fun q3 => Qj 2 (q3) (⟨rfl, fun q4 => Qj 2 (q4) (⟨rfl, fun q5 => Qj 2 (q5) (⟨rfl, fun q6 => ⟨q6, ⟨q5, ⟨q6, ⟨q5, ⟨rfl, rfl⟩⟩⟩⟩⟩, fun q6 => ⟨q6, ⟨q5, ⟨q6, ⟨q5, ⟨rfl, rfl⟩⟩⟩⟩⟩⟩), fun q5 => noN_ok 4 (q5) (⟨rfl, ⟨rfl, fun q6 => Qj 2 (q6) (⟨rfl, rfl⟩), fun q6 => noN_ok 2 (q6) (⟨rfl, rfl⟩)⟩⟩)⟩), fun q4 => noN_ok 2 (q4) (noN_ok 6 (rfl) (⟨rfl, fun q5 => Qj 2 (q5) (⟨rfl, rfl⟩), fun q5 => noN_ok 2 (q5) (⟨rfl, rfl⟩)⟩))⟩), fun q3 => noN_ok 2 (q3) (Qj 3 (rfl) (⟨rfl, fun q4 => Qj 2 (q4) (⟨rfl, fun q5 => ⟨q5, ⟨q4, ⟨q5, ⟨q4, ⟨rfl, rfl⟩⟩⟩⟩⟩, fun q5 => ⟨q5, ⟨q4, ⟨q5, ⟨q4, ⟨rfl, rfl⟩⟩⟩⟩⟩⟩), fun q4 => noN_ok 4 (q4) (⟨rfl, ⟨rfl, fun q5 => Qj 2 (q5) (⟨rfl, rfl⟩), fun q5 => noN_ok 2 (q5) (⟨rfl, rfl⟩)⟩⟩)⟩))⟩)⟩, fun q1 => trivial⟩, fun q0 => rfl⟩
def QfC (L0 : Qhw) (a0 : ByteArray) : Option Bool := (bif (decide (((a0.size : Nat) : Int) < 1)) then (some false) else (bif (decide (((a0.size : Nat) : Int) > 12)) then (some false) else (bif (decide (0 ≤ (0 : Int) ∧ (0 : Int) < ((a0.size : Nat) : Int))) then (bif (((a0.data.getD (Int.toNat 0) 0).toNat : Int) == 114) then ((L0 (Qy.mk a0 (decide (((a0.size : Nat) : Int) > 1)) (0 : Int))).bind fun x => Sum.elim (fun (o1 : Bool) => (some o1)) (fun (o2 : Bool) => (some (!o2))) x) else ((L0 (Qy.mk a0 false (0 : Int))).bind fun x => Sum.elim (fun (o3 : Bool) => (some o3)) (fun (o4 : Bool) => (some (!o4))) x)) else none)))
noncomputable def YD : Qif := QfC VE
theorem YD.eq (a0 : ByteArray) : YD a0 = QfC VE a0 := rfl
noncomputable def Qqu (a0 : ByteArray) : Tr Bool AH := (let u37 := (decide ((zz a0) < 1)); .as u37 (yesN 3 u37 (.yes true (rt Ql false))) (noN 3 u37 (.as (decide ((zz a0) > 12)) (rt Ql false) (.as (in1 i0 (zz a0)) (let u36 := ((gb a0 i0) == 114); .as u36 (yesN 3 u36 (QfB (Qy.mk a0 (decide ((zz a0) > 1)) i0) (fun o1 => (rt Ql o1)) (fun o2 => (rt Ql (!o2))))) (noN 3 u36 (QfB (Qy.mk a0 false i0) (fun o3 => (rt Ql o3)) (fun o4 => (rt Ql (!o4)))))) .fail))))
theorem YD.ok {a0 : ByteArray} {r : Bool} (h : YD a0 = some r) : ww 83 [xs a0] [] = some (Ql r) := by
 refine fnP (Qqu a0) ?_ h
 exact ⟨rfl, fun q0 => Qj 3 (q0) (⟨rfl, rfl⟩), fun q0 => noN_ok 3 (q0) (⟨rfl, fun q1 => rfl, fun q1 => ⟨rfl, fun q2 => ⟨rfl, fun q3 => Qj 3 (q3) (⟨fun o1 h => ⟨VE.ok (r := (.inl _)) h, rfl⟩, fun o2 h => ⟨VE.ok (r := (.inr _)) h, rfl⟩⟩), fun q3 => noN_ok 3 (q3) (⟨fun o3 h => ⟨VE.ok (r := (.inl _)) h, rfl⟩, fun o4 h => ⟨VE.ok (r := (.inr _)) h, rfl⟩⟩)⟩, fun q2 => trivial⟩⟩)⟩
noncomputable abbrev QkP {ρ R : Type} (a0 : ByteArray) (k : Bool → Tr ρ R) : Tr ρ R := .call (ww 83 [xs a0] []) (YD a0) Ql k
abbrev Qig := ByteArray → Option Bool
def QfD (C0 : Qif) (a0 : ByteArray) : Option Bool := ((C0 a0).bind fun r1 => (some r1))
noncomputable def YE : Qig := QfD YD
theorem YE.eq (a0 : ByteArray) : YE a0 = QfD YD a0 := rfl
noncomputable def Qqv (a0 : ByteArray) : Tr Bool AH := (QkP a0 fun r1 => (rt Ql r1))
theorem YE.ok {a0 : ByteArray} {r : Bool} (h : YE a0 = some r) : ww 34 [xs a0] [] = some (Ql r) := by
 refine fnP (Qqv a0) ?_ h
 exact fun r1 h => ⟨YD.ok h, rfl⟩
noncomputable abbrev QkQ {ρ R : Type} (a0 : ByteArray) (k : Bool → Tr ρ R) : Tr ρ R := .call (ww 34 [xs a0] []) (YE a0) Ql k
abbrev QfE := ByteArray → Int → Option Int
noncomputable def WV (a0 : ByteArray) (a1 : Int) : Option Int := indexByteS a0 a1
noncomputable abbrev QeQ {ρ R : Type} (a0 : ByteArray) (a1 : Int) (k : Int → Tr ρ R) : Tr ρ R := .call (ww 70 [xs a0, xb a1] []) (WV a0 a1) Qm k
theorem WV.ok {a0 : ByteArray} {a1 : Int} {r : Int} (h : WV a0 a1 = some r) : ww 70 [xs a0, xb a1] [] = some (Qm r) := (E4 rfl _ _).trans (Qmo h)
def Qk (r : ByteArray) : AV × Heap := (xs r, [])
abbrev SM := ByteArray → ByteArray → Option ByteArray
noncomputable def Uz (a0 : ByteArray) (a1 : ByteArray) : Option ByteArray := trimS2 a0 a1
noncomputable abbrev XW {ρ R : Type} (a0 : ByteArray) (a1 : ByteArray) (k : ByteArray → Tr ρ R) : Tr ρ R := .call (ww 74 [xs a0, xs a1] []) (Uz a0 a1) Qk k
theorem Uz.ok {a0 : ByteArray} {a1 : ByteArray} {r : ByteArray} (h : Uz a0 a1 = some r) : ww 74 [xs a0, xs a1] [] = some (Qk r) := (E4 rfl _ _).trans (QsF h)
abbrev Qjc := ByteArray → Option ByteArray
structure JP where
 x0 : ByteArray
 x3 : Bool
 x4 : Int
def YF (a : JP) : St := { n := 31, nx := 0, env := [(0, xs a.x0), (3, xo a.x3), (4, xi a.x4)], heap := [] }
def G3 (a : ByteArray) : Ex × St := (.ret, { n := 31, nx := 0, env := [(2, xs a)], heap := [] })
abbrev Qel := JP → Option ByteArray
def G4 (C0 : SM) (a : JP) : Option (JP ⊕ ByteArray) := (bif (a.x4 == ((a.x0.size : Nat) : Int)) then (bif (decide (0 ≤ (0 : Int) ∧ (0 : Int) ≤ a.x4 ∧ a.x4 ≤ ((a.x0.size : Nat) : Int))) then ((C0 (a.x0.extract (Int.toNat 0) (Int.toNat a.x4)) Vl).bind fun r1 => (some (.inr r1))) else none) else (bif (decide (0 ≤ a.x4 ∧ a.x4 < ((a.x0.size : Nat) : Int))) then (bif (((a.x0.data.getD (Int.toNat a.x4) 0).toNat : Int) == 35) then (bif (!a.x3) then (bif (decide (0 ≤ (0 : Int) ∧ (0 : Int) ≤ a.x4 ∧ a.x4 ≤ ((a.x0.size : Nat) : Int))) then ((C0 (a.x0.extract (Int.toNat 0) (Int.toNat a.x4)) Vl).bind fun r2 => (some (.inr r2))) else none) else (bif (((a.x0.data.getD (Int.toNat a.x4) 0).toNat : Int) == 34) then (some (.inl (JP.mk a.x0 (!a.x3) (w64 (a.x4 + 1))))) else (some (.inl (JP.mk a.x0 a.x3 (w64 (a.x4 + 1))))))) else (bif (((a.x0.data.getD (Int.toNat a.x4) 0).toNat : Int) == 34) then (some (.inl (JP.mk a.x0 (!a.x3) (w64 (a.x4 + 1))))) else (some (.inl (JP.mk a.x0 a.x3 (w64 (a.x4 + 1))))))) else none))
noncomputable def VF : Qel := loopW (G4 Uz)
theorem VF.eq (a : JP) : VF a = (G4 Uz a).bind (Sum.elim VF some) := Jf _ _
noncomputable abbrev Qj4 {ρ R : Type} (a : JP) (k0 : ByteArray → Tr ρ R) : Tr ρ R := .loop (loopAt pp 71 3) (YF a) (VF a) G3 k0
noncomputable def Qj5 (a : JP) : Tr (JP ⊕ ByteArray) XS := (let u40 := (a.x4 == (zz a.x0)); .as u40 (yesN 6 u40 (.yes true (.as (in2 i0 a.x4 (zz a.x0)) (XW (cu a.x0 i0 a.x4) Vl fun r1 => (rx G3 r1)) .fail))) (noN 2 u40 (let u39 := (in1 a.x4 (zz a.x0)); .as u39 (noN 2 u40 (let u38 := ((gb a.x0 a.x4) == 35); .as u38 (.yes u38 (.no u40 (.yes u38 (.no u40 (.as (!a.x3) (.as (in2 i0 a.x4 (zz a.x0)) (XW (cu a.x0 i0 a.x4) Vl fun r2 => (rx G3 r2)) .fail) (.yes u39 (.as ((gb a.x0 a.x4) == 34) (lf YF (JP.mk a.x0 (!a.x3) (w64 (a.x4 + 1)))) (lf YF (JP.mk a.x0 a.x3 (w64 (a.x4 + 1))))))))))) (.no u38 (.no u40 (.no u38 (.no u40 (.no false (.yes u39 (.as ((gb a.x0 a.x4) == 34) (lf YF (JP.mk a.x0 (!a.x3) (w64 (a.x4 + 1)))) (lf YF (JP.mk a.x0 a.x3 (w64 (a.x4 + 1))))))))))))) .fail)))
theorem VF.ok {a : JP} {r : ByteArray} (h : VF a = some r) : lw 0 71 (loopAt pp 71 3) (YF a) = some (G3 r) := by
 refine lpP h Qj5 fun a => ?_
 exact ⟨rfl, fun q0 => Qj 6 (q0) (⟨rfl, ⟨rfl, fun q1 => fun r1 h => ⟨Uz.ok h, rfl⟩, fun q1 => trivial⟩⟩), fun q0 => noN_ok 2 (q0) (⟨rfl, fun q1 => noN_ok 2 (q0) (⟨rfl, fun q2 => ⟨q2, ⟨q0, ⟨q2, ⟨q0, ⟨rfl, fun q3 => ⟨rfl, fun q4 => fun r2 h => ⟨Uz.ok h, rfl⟩, fun q4 => trivial⟩, fun q3 => ⟨q1, ⟨rfl, fun q4 => rfl, fun q4 => rfl⟩⟩⟩⟩⟩⟩⟩, fun q2 => ⟨q2, ⟨q0, ⟨q2, ⟨q0, ⟨rfl, ⟨q1, ⟨rfl, fun q3 => rfl, fun q3 => rfl⟩⟩⟩⟩⟩⟩⟩⟩), fun q1 => trivial⟩)⟩
def Qcf (L0 : Qel) (a0 : ByteArray) : Option ByteArray := ((L0 (JP.mk a0 false (0 : Int))).bind (fun (o1 : ByteArray) => (some o1)))
noncomputable def Yw : Qjc := Qcf VF
theorem Yw.eq (a0 : ByteArray) : Yw a0 = Qcf VF a0 := rfl
noncomputable def QnX (a0 : ByteArray) : Tr ByteArray AH := (Qj4 (JP.mk a0 false i0) (fun o1 => (rt Qk o1)))
theorem Yw.ok {a0 : ByteArray} {r : ByteArray} (h : Yw a0 = some r) : ww 71 [xs a0] [] = some (Qk r) := by
 refine fnP (QnX a0) ?_ h
 exact fun o1 h => ⟨VF.ok h, rfl⟩
noncomputable abbrev QnY {ρ R : Type} (a0 : ByteArray) (k : ByteArray → Tr ρ R) : Tr ρ R := .call (ww 71 [xs a0] []) (Yw a0) Qk k
abbrev Qhx := Int → Option Bool
def Qa5 (a0 : Int) : Option Bool := (bif (a0 != 32) then (some (a0 != 9)) else (some false))
noncomputable def X2 : Qhx := Qa5
theorem X2.eq (a0 : Int) : X2 a0 = Qa5 a0 := rfl
noncomputable def Qmx (a0 : Int) : Tr Bool AH := (let u41 := (a0 != 32); .as u41 (yesN 2 u41 (rt Ql (a0 != 9))) (noN 2 u41 (rt Ql false)))
theorem X2.ok {a0 : Int} {r : Bool} (h : X2 a0 = some r) : ww 75 [xb a0] [] = some (Ql r) := by
 refine fnP (Qmx a0) ?_ h
 exact ⟨rfl, fun q0 => Qj 2 (q0) (rfl), fun q0 => noN_ok 2 (q0) (rfl)⟩
noncomputable abbrev Qmy {ρ R : Type} (a0 : Int) (k : Bool → Tr ρ R) : Tr ρ R := .call (ww 75 [xb a0] []) (X2 a0) Ql k
abbrev Qem := ByteArray → Option Int
structure Up where
 x0 : ByteArray
 x5 : Int
def Ef (a : Up) : St := { n := 20, nx := 0, env := [(0, xs a.x0), (1, .fn (.func 75) [] []), (5, xi a.x5)], heap := [] }
def Zy (a : Int) : Ex × St := (.exit 0, { n := 20, nx := 0, env := [(5, xi a)], heap := [] })
abbrev Qa6 := Up → Option Int
def Eg (C0 : Qhx) (a : Up) : Option (Up ⊕ Int) := (bif (decide (a.x5 < ((a.x0.size : Nat) : Int))) then (bif (decide (0 ≤ a.x5 ∧ a.x5 < ((a.x0.size : Nat) : Int))) then ((C0 ((a.x0.data.getD (Int.toNat a.x5) 0).toNat : Int)).bind fun r1 => (bif r1 then (some (.inl (Up.mk a.x0 (w64 (a.x5 + 1))))) else (some (.inr a.x5)))) else none) else (some (.inr a.x5)))
noncomputable def V9 : Qa6 := loopW (Eg X2)
theorem V9.eq (a : Up) : V9 a = (Eg X2 a).bind (Sum.elim V9 some) := Jf _ _
noncomputable abbrev QgZ {ρ R : Type} (a : Up) (k0 : Int → Tr ρ R) : Tr ρ R := .loop (loopAt pp 72 2) (Ef a) (V9 a) Zy k0
noncomputable def Qg0 (a : Up) : Tr (Up ⊕ Int) XS := (let u42 := (decide (a.x5 < (zz a.x0))); .as u42 (yesN 3 u42 (.as (in1 a.x5 (zz a.x0)) (.yes u42 (Qmy (gb a.x0 a.x5) fun r1 => (.yes u42 (.as r1 (lf Ef (Up.mk a.x0 (w64 (a.x5 + 1)))) (rx Zy a.x5))))) .fail)) (noN 5 u42 (.no false (rx Zy a.x5))))
theorem V9.ok {a : Up} {r : Int} (h : V9 a = some r) : lw 0 72 (loopAt pp 72 2) (Ef a) = some (Zy r) := by
 refine lpP h Qg0 fun a => ?_
 exact ⟨rfl, fun q0 => Qj 3 (q0) (⟨rfl, fun q1 => ⟨q0, fun r1 h => ⟨X2.ok h, ⟨q0, ⟨rfl, fun q2 => rfl, fun q2 => rfl⟩⟩⟩⟩, fun q1 => trivial⟩), fun q0 => noN_ok 5 (q0) (⟨rfl, rfl⟩)⟩
def Pp (L0 : Qa6) (a0 : ByteArray) : Option Int := ((L0 (Up.mk a0 (0 : Int))).bind (fun (o1 : Int) => (some o1)))
noncomputable def VG : Qem := Pp V9
theorem VG.eq (a0 : ByteArray) : VG a0 = Pp V9 a0 := rfl
noncomputable def Qj6 (a0 : ByteArray) : Tr Int AH := (QgZ (Up.mk a0 i0) (fun o1 => (rt Qm o1)))
theorem VG.ok {a0 : ByteArray} {r : Int} (h : VG a0 = some r) : ww 72 [xs a0, .fn (.func 75) [] []] [] = some (Qm r) := by
 refine fnP (Qj6 a0) ?_ h
 exact fun o1 h => ⟨V9.ok h, rfl⟩
noncomputable abbrev Pq {ρ R : Type} (a0 : ByteArray) (k : Int → Tr ρ R) : Tr ρ R := .call (ww 72 [xs a0, .fn (.func 75) [] []] []) (VG a0) Qm k
def QbO (r : (List ByteArray)) : AV × Heap := (.arr 0, [(0, .arr false 1 (Qg r))])
abbrev Qj7 := ByteArray → ByteArray → Option (List ByteArray)
noncomputable def Yh (a0 : ByteArray) (a1 : ByteArray) : Option (List ByteArray) := splitS a0 a1
noncomputable abbrev Qjd {ρ R : Type} (a0 : ByteArray) (a1 : ByteArray) (k : (List ByteArray) → Tr ρ R) : Tr ρ R := .call (ww 79 [xs a0, xs a1] []) (Yh a0 a1) QbO k
theorem Yh.ok {a0 : ByteArray} {a1 : ByteArray} {r : (List ByteArray)} (h : Yh a0 a1 = some r) : ww 79 [xs a0, xs a1] [] = some (QbO r) := (E4 rfl _ _).trans (Qrw h)
def Jd (r : (List ByteArray)) : AV × Heap := (.sl (Qg r), [])
abbrev Qc0 := ByteArray → Option (List ByteArray)
structure J8 where
 x10 : Int
 x11 : Int
 r0 : (List ByteArray)
def GD (a : J8) : St := { n := 24, nx := 1, env := [(3, .arr 0), (10, xi a.x10), (11, xi a.x11)], heap := [(0, .arr false 1 (Qg a.r0))] }
def GE (a : (List ByteArray)) : Ex × St := (.exit 0, { n := 24, nx := 1, env := [(3, .arr 0)], heap := [(0, .arr false 1 (Qg a))] })
abbrev SY := J8 → Option (List ByteArray)
def Zd (C0 : SM) (a : J8) : Option (J8 ⊕ (List ByteArray)) := (bif (decide (a.x11 < a.x10)) then (bif (decide (0 ≤ a.x11 ∧ a.x11 < ((a.r0.length : Nat) : Int))) then ((a.r0[(Int.toNat a.x11)]?).bind fun e1 => ((C0 e1 Vl).bind fun r2 => ((a.r0[(Int.toNat a.x11)]?).bind fun e3 => (some (.inl (J8.mk a.x10 (w64 (a.x11 + 1)) (a.r0.set (Int.toNat a.x11) r2))))))) else none) else (some (.inr a.r0)))
noncomputable def UF : SY := loopW (Zd Uz)
theorem UF.eq (a : J8) : UF a = (Zd Uz a).bind (Sum.elim UF some) := Jf _ _
noncomputable abbrev QfF {ρ R : Type} (a : J8) (k0 : (List ByteArray) → Tr ρ R) : Tr ρ R := .loop (loopAt pp 123 5) (GD a) (UF a) GE k0
noncomputable def QfG (a : J8) : Tr (J8 ⊕ (List ByteArray)) XS := (.as (decide (a.x11 < a.x10)) (let u43 := (in1 a.x11 (((Qg a.r0).length : Nat) : Int)); .ask u43 (in1 a.x11 ((a.r0.length : Nat) : Int)) (.row ((Qg a.r0)[(Int.toNat a.x11)]?) (a.r0[(Int.toNat a.x11)]?) QW fun (e1 : ByteArray) => (XW e1 Vl fun r2 => (.yes u43 (.row ((Qg a.r0)[(Int.toNat a.x11)]?) (a.r0[(Int.toNat a.x11)]?) QW fun (e3 : ByteArray) => (.rows ((Qg a.r0).set (Int.toNat a.x11) [xs r2]) (Qg (a.r0.set (Int.toNat a.x11) r2)) (lf GD (J8.mk a.x10 (w64 (a.x11 + 1)) (a.r0.set (Int.toNat a.x11) r2)))))))) .fail) (rx GE a.r0))
theorem UF.ok {a : J8} {r : (List ByteArray)} (h : UF a = some r) : lw 0 123 (loopAt pp 123 5) (GD a) = some (GE r) := by
 refine lpP h QfG fun a => ?_
 exact ⟨rfl, fun q0 => ⟨(by rw [Qo]), fun q1 => fun e1 h => ⟨QO h, fun r2 h => ⟨Uz.ok h, ⟨(show (decide (0 ≤ a.x11 ∧ a.x11 < (((Qg a.r0).length : Nat) : Int))) = (decide (0 ≤ a.x11 ∧ a.x11 < ((a.r0.length : Nat) : Int))) from (by rw [Qo])).trans q1, fun e3 h => ⟨QO h, ⟨(Qmp a.r0 (Int.toNat a.x11) r2), rfl⟩⟩⟩⟩⟩, fun q1 => trivial⟩, fun q0 => rfl⟩
def FG (C0 : Qj7) (L1 : SY) (a0 : ByteArray) : Option (List ByteArray) := (bif (eqS a0 s_) then (some ([] : List ByteArray)) else ((C0 a0 h_2c).bind fun r1 => ((L1 (J8.mk (((r1.length) : Nat) : Int) (0 : Int) r1)).bind (fun (o2 : (List ByteArray)) => (some o2)))))
noncomputable def WO : Qc0 := FG Yh UF
theorem WO.eq (a0 : ByteArray) : WO a0 = FG Yh UF a0 := rfl
noncomputable def Qje (a0 : ByteArray) : Tr (List ByteArray) AH := (.as (eqS a0 s_) (rt Jd ([] : List ByteArray)) (Qjd a0 h_2c fun r1 => (.num ((Qg r1).length) (r1.length) (QfF (J8.mk (((r1.length) : Nat) : Int) i0 r1) (fun o2 => (rt Jd o2))))))
theorem WO.ok {a0 : ByteArray} {r : (List ByteArray)} (h : WO a0 = some r) : ww 123 [xs a0] [] = some (Jd r) := by
 refine fnP (Qje a0) ?_ h
 exact ⟨rfl, fun q0 => rfl, fun q0 => fun r1 h => ⟨Yh.ok h, ⟨(Qo _), fun o2 h => ⟨UF.ok h, rfl⟩⟩⟩⟩
noncomputable abbrev Qjf {ρ R : Type} (a0 : ByteArray) (k : (List ByteArray) → Tr ρ R) : Tr ρ R := .call (ww 123 [xs a0] []) (WO a0) Jd k
def Qcg (r : (List Qe)) : AV × Heap := (.sl (XI r), [])
abbrev FH := Option (List Qe)
def Qhy : Option (List Qe) := (some [(Qe.mk GB (0 : Int) s_), (Qe.mk Fy (1 : Int) s_), (Qe.mk QcX (2 : Int) s_), (Qe.mk QaQ (4 : Int) s_), (Qe.mk Sf (6 : Int) s_), (Qe.mk QaW (32 : Int) s_X), (Qe.mk QaV (48 : Int) s_X), (Qe.mk Sj (128 : Int) s_X), (Qe.mk Sk (144 : Int) s_X), (Qe.mk Fz (160 : Int) s_X), (Qe.mk FA (176 : Int) s_X), (Qe.mk Fw (192 : Int) s_X), (Qe.mk Fu (208 : Int) s_X), (Qe.mk Fx (224 : Int) s_X), (Qe.mk Fv (240 : Int) s_X), (Qe.mk QcV (256 : Int) Jg), (Qe.mk QaO (1024 : Int) Jg), (Qe.mk FB (1280 : Int) Jg), (Qe.mk Qa0 (1536 : Int) Jg), (Qe.mk QaR (3072 : Int) Jg), (Qe.mk Si (3328 : Int) Jg), (Qe.mk Sd (8192 : Int) Wj), (Qe.mk Ft (8704 : Int) Wj), (Qe.mk Sn (9216 : Int) Wj), (Qe.mk Sg (10752 : Int) Jw), (Qe.mk QcW (17408 : Int) Jg), (Qe.mk Se (17664 : Int) Jg), (Qe.mk QaP (17920 : Int) Jg), (Qe.mk Xo (18432 : Int) Fm), (Qe.mk Fq (24576 : Int) Jw), (Qe.mk Fr (25600 : Int) Jw), (Qe.mk Fs (26112 : Int) Jw), (Qe.mk Sm (26624 : Int) Jw), (Qe.mk Sl (27648 : Int) Jw), (Qe.mk QaS (32768 : Int) Wu), (Qe.mk QaX (36864 : Int) Wu), (Qe.mk QaT (40960 : Int) Wv), (Qe.mk QaY (45056 : Int) Wv), (Qe.mk QaU (49152 : Int) Ww), (Qe.mk QaZ (53248 : Int) Ww), (Qe.mk QcT (57344 : Int) X8), (Qe.mk Qfy (59392 : Int) s_T8), (Qe.mk QcU (59648 : Int) s_T8), (Qe.mk Fo (469762048 : Int) YO), (Qe.mk QaL (402685952 : Int) ZI), (Qe.mk QaM (402702336 : Int) UE), (Qe.mk QcO (402706432 : Int) UE), (Qe.mk QaN (402710528 : Int) UE), (Qe.mk Qfx (1879048192 : Int) GA), (Qe.mk QcK (805306368 : Int) QB), (Qe.mk QcP (872415232 : Int) QB), (Qe.mk QcL (939524096 : Int) QB), (Qe.mk QcN (1342177280 : Int) QB), (Qe.mk QcR (1409286144 : Int) QB), (Qe.mk QcM (1476395008 : Int) QB), (Qe.mk QcQ (1543503872 : Int) QB), (Qe.mk Qi8 (2013265920 : Int) EJ), (Qe.mk Qfw (2013265921 : Int) EJ), (Qe.mk Qfv (2046820352 : Int) UJ), (Qe.mk QcJ (2046820353 : Int) UJ), (Qe.mk Qi6 (2080375316 : Int) Vn), (Qe.mk Qfz (2080374864 : Int) Vn), (Qe.mk QcS (2080375254 : Int) Vn), (Qe.mk Qi7 (2080374840 : Int) Vm), (Qe.mk s_or (2080375672 : Int) Vm), (Qe.mk Qi9 (2080375416 : Int) Vm)])
noncomputable def Wc : FH := Qhy
noncomputable def QnZ : Tr (List Qe) AH := (.rows [[xs GB, .sc (.int .u32 i0), xs s_], [xs Fy, .sc (.int .u32 (zi 1)), xs s_], [xs QcX, .sc (.int .u32 (zi 2)), xs s_], [xs QaQ, .sc (.int .u32 (zi 4)), xs s_], [xs Sf, .sc (.int .u32 (zi 6)), xs s_], [xs QaW, .sc (.int .u32 (zi 32)), xs s_X], [xs QaV, .sc (.int .u32 (zi 48)), xs s_X], [xs Sj, .sc (.int .u32 (zi 128)), xs s_X], [xs Sk, .sc (.int .u32 (zi 144)), xs s_X], [xs Fz, .sc (.int .u32 (zi 160)), xs s_X], [xs FA, .sc (.int .u32 (zi 176)), xs s_X], [xs Fw, .sc (.int .u32 (zi 192)), xs s_X], [xs Fu, .sc (.int .u32 (zi 208)), xs s_X], [xs Fx, .sc (.int .u32 (zi 224)), xs s_X], [xs Fv, .sc (.int .u32 (zi 240)), xs s_X], [xs QcV, .sc (.int .u32 (zi 256)), xs Jg], [xs QaO, .sc (.int .u32 (zi 1024)), xs Jg], [xs FB, .sc (.int .u32 (zi 1280)), xs Jg], [xs Qa0, .sc (.int .u32 (zi 1536)), xs Jg], [xs QaR, .sc (.int .u32 (zi 3072)), xs Jg], [xs Si, .sc (.int .u32 (zi 3328)), xs Jg], [xs Sd, .sc (.int .u32 (zi 8192)), xs Wj], [xs Ft, .sc (.int .u32 (zi 8704)), xs Wj], [xs Sn, .sc (.int .u32 (zi 9216)), xs Wj], [xs Sg, .sc (.int .u32 (zi 10752)), xs Jw], [xs QcW, .sc (.int .u32 (zi 17408)), xs Jg], [xs Se, .sc (.int .u32 (zi 17664)), xs Jg], [xs QaP, .sc (.int .u32 (zi 17920)), xs Jg], [xs Xo, .sc (.int .u32 (zi 18432)), xs Fm], [xs Fq, .sc (.int .u32 (zi 24576)), xs Jw], [xs Fr, .sc (.int .u32 (zi 25600)), xs Jw], [xs Fs, .sc (.int .u32 (zi 26112)), xs Jw], [xs Sm, .sc (.int .u32 (zi 26624)), xs Jw], [xs Sl, .sc (.int .u32 (zi 27648)), xs Jw], [xs QaS, .sc (.int .u32 (zi 32768)), xs Wu], [xs QaX, .sc (.int .u32 (zi 36864)), xs Wu], [xs QaT, .sc (.int .u32 (zi 40960)), xs Wv], [xs QaY, .sc (.int .u32 (zi 45056)), xs Wv], [xs QaU, .sc (.int .u32 (zi 49152)), xs Ww], [xs QaZ, .sc (.int .u32 (zi 53248)), xs Ww], [xs QcT, .sc (.int .u32 (zi 57344)), xs X8], [xs Qfy, .sc (.int .u32 (zi 59392)), xs s_T8], [xs QcU, .sc (.int .u32 (zi 59648)), xs s_T8], [xs Fo, .sc (.int .u32 (zi 469762048)), xs YO], [xs QaL, .sc (.int .u32 (zi 402685952)), xs ZI], [xs QaM, .sc (.int .u32 (zi 402702336)), xs UE], [xs QcO, .sc (.int .u32 (zi 402706432)), xs UE], [xs QaN, .sc (.int .u32 (zi 402710528)), xs UE], [xs Qfx, .sc (.int .u32 (zi 1879048192)), xs GA], [xs QcK, .sc (.int .u32 (zi 805306368)), xs QB], [xs QcP, .sc (.int .u32 (zi 872415232)), xs QB], [xs QcL, .sc (.int .u32 (zi 939524096)), xs QB], [xs QcN, .sc (.int .u32 (zi 1342177280)), xs QB], [xs QcR, .sc (.int .u32 (zi 1409286144)), xs QB], [xs QcM, .sc (.int .u32 (zi 1476395008)), xs QB], [xs QcQ, .sc (.int .u32 (zi 1543503872)), xs QB], [xs Qi8, .sc (.int .u32 (zi 2013265920)), xs EJ], [xs Qfw, .sc (.int .u32 (zi 2013265921)), xs EJ], [xs Qfv, .sc (.int .u32 (zi 2046820352)), xs UJ], [xs QcJ, .sc (.int .u32 (zi 2046820353)), xs UJ], [xs Qi6, .sc (.int .u32 (zi 2080375316)), xs Vn], [xs Qfz, .sc (.int .u32 (zi 2080374864)), xs Vn], [xs QcS, .sc (.int .u32 (zi 2080375254)), xs Vn], [xs Qi7, .sc (.int .u32 (zi 2080374840)), xs Vm], [xs s_or, .sc (.int .u32 (zi 2080375672)), xs Vm], [xs Qi9, .sc (.int .u32 (zi 2080375416)), xs Vm]] (XI [(Qe.mk GB i0 s_), (Qe.mk Fy (zi 1) s_), (Qe.mk QcX (zi 2) s_), (Qe.mk QaQ (zi 4) s_), (Qe.mk Sf (zi 6) s_), (Qe.mk QaW (zi 32) s_X), (Qe.mk QaV (zi 48) s_X), (Qe.mk Sj (zi 128) s_X), (Qe.mk Sk (zi 144) s_X), (Qe.mk Fz (zi 160) s_X), (Qe.mk FA (zi 176) s_X), (Qe.mk Fw (zi 192) s_X), (Qe.mk Fu (zi 208) s_X), (Qe.mk Fx (zi 224) s_X), (Qe.mk Fv (zi 240) s_X), (Qe.mk QcV (zi 256) Jg), (Qe.mk QaO (zi 1024) Jg), (Qe.mk FB (zi 1280) Jg), (Qe.mk Qa0 (zi 1536) Jg), (Qe.mk QaR (zi 3072) Jg), (Qe.mk Si (zi 3328) Jg), (Qe.mk Sd (zi 8192) Wj), (Qe.mk Ft (zi 8704) Wj), (Qe.mk Sn (zi 9216) Wj), (Qe.mk Sg (zi 10752) Jw), (Qe.mk QcW (zi 17408) Jg), (Qe.mk Se (zi 17664) Jg), (Qe.mk QaP (zi 17920) Jg), (Qe.mk Xo (zi 18432) Fm), (Qe.mk Fq (zi 24576) Jw), (Qe.mk Fr (zi 25600) Jw), (Qe.mk Fs (zi 26112) Jw), (Qe.mk Sm (zi 26624) Jw), (Qe.mk Sl (zi 27648) Jw), (Qe.mk QaS (zi 32768) Wu), (Qe.mk QaX (zi 36864) Wu), (Qe.mk QaT (zi 40960) Wv), (Qe.mk QaY (zi 45056) Wv), (Qe.mk QaU (zi 49152) Ww), (Qe.mk QaZ (zi 53248) Ww), (Qe.mk QcT (zi 57344) X8), (Qe.mk Qfy (zi 59392) s_T8), (Qe.mk QcU (zi 59648) s_T8), (Qe.mk Fo (zi 469762048) YO), (Qe.mk QaL (zi 402685952) ZI), (Qe.mk QaM (zi 402702336) UE), (Qe.mk QcO (zi 402706432) UE), (Qe.mk QaN (zi 402710528) UE), (Qe.mk Qfx (zi 1879048192) GA), (Qe.mk QcK (zi 805306368) QB), (Qe.mk QcP (zi 872415232) QB), (Qe.mk QcL (zi 939524096) QB), (Qe.mk QcN (zi 1342177280) QB), (Qe.mk QcR (zi 1409286144) QB), (Qe.mk QcM (zi 1476395008) QB), (Qe.mk QcQ (zi 1543503872) QB), (Qe.mk Qi8 (zi 2013265920) EJ), (Qe.mk Qfw (zi 2013265921) EJ), (Qe.mk Qfv (zi 2046820352) UJ), (Qe.mk QcJ (zi 2046820353) UJ), (Qe.mk Qi6 (zi 2080375316) Vn), (Qe.mk Qfz (zi 2080374864) Vn), (Qe.mk QcS (zi 2080375254) Vn), (Qe.mk Qi7 (zi 2080374840) Vm), (Qe.mk s_or (zi 2080375672) Vm), (Qe.mk Qi9 (zi 2080375416) Vm)]) (rt Qcg [(Qe.mk GB i0 s_), (Qe.mk Fy (zi 1) s_), (Qe.mk QcX (zi 2) s_), (Qe.mk QaQ (zi 4) s_), (Qe.mk Sf (zi 6) s_), (Qe.mk QaW (zi 32) s_X), (Qe.mk QaV (zi 48) s_X), (Qe.mk Sj (zi 128) s_X), (Qe.mk Sk (zi 144) s_X), (Qe.mk Fz (zi 160) s_X), (Qe.mk FA (zi 176) s_X), (Qe.mk Fw (zi 192) s_X), (Qe.mk Fu (zi 208) s_X), (Qe.mk Fx (zi 224) s_X), (Qe.mk Fv (zi 240) s_X), (Qe.mk QcV (zi 256) Jg), (Qe.mk QaO (zi 1024) Jg), (Qe.mk FB (zi 1280) Jg), (Qe.mk Qa0 (zi 1536) Jg), (Qe.mk QaR (zi 3072) Jg), (Qe.mk Si (zi 3328) Jg), (Qe.mk Sd (zi 8192) Wj), (Qe.mk Ft (zi 8704) Wj), (Qe.mk Sn (zi 9216) Wj), (Qe.mk Sg (zi 10752) Jw), (Qe.mk QcW (zi 17408) Jg), (Qe.mk Se (zi 17664) Jg), (Qe.mk QaP (zi 17920) Jg), (Qe.mk Xo (zi 18432) Fm), (Qe.mk Fq (zi 24576) Jw), (Qe.mk Fr (zi 25600) Jw), (Qe.mk Fs (zi 26112) Jw), (Qe.mk Sm (zi 26624) Jw), (Qe.mk Sl (zi 27648) Jw), (Qe.mk QaS (zi 32768) Wu), (Qe.mk QaX (zi 36864) Wu), (Qe.mk QaT (zi 40960) Wv), (Qe.mk QaY (zi 45056) Wv), (Qe.mk QaU (zi 49152) Ww), (Qe.mk QaZ (zi 53248) Ww), (Qe.mk QcT (zi 57344) X8), (Qe.mk Qfy (zi 59392) s_T8), (Qe.mk QcU (zi 59648) s_T8), (Qe.mk Fo (zi 469762048) YO), (Qe.mk QaL (zi 402685952) ZI), (Qe.mk QaM (zi 402702336) UE), (Qe.mk QcO (zi 402706432) UE), (Qe.mk QaN (zi 402710528) UE), (Qe.mk Qfx (zi 1879048192) GA), (Qe.mk QcK (zi 805306368) QB), (Qe.mk QcP (zi 872415232) QB), (Qe.mk QcL (zi 939524096) QB), (Qe.mk QcN (zi 1342177280) QB), (Qe.mk QcR (zi 1409286144) QB), (Qe.mk QcM (zi 1476395008) QB), (Qe.mk QcQ (zi 1543503872) QB), (Qe.mk Qi8 (zi 2013265920) EJ), (Qe.mk Qfw (zi 2013265921) EJ), (Qe.mk Qfv (zi 2046820352) UJ), (Qe.mk QcJ (zi 2046820353) UJ), (Qe.mk Qi6 (zi 2080375316) Vn), (Qe.mk Qfz (zi 2080374864) Vn), (Qe.mk QcS (zi 2080375254) Vn), (Qe.mk Qi7 (zi 2080374840) Vm), (Qe.mk s_or (zi 2080375672) Vm), (Qe.mk Qi9 (zi 2080375416) Vm)]))
theorem Wc.ok {r : (List Qe)} (h : Wc = some r) : ww 139 [] [] = some (Qcg r) := by
 refine fnP (QnZ) ?_ h
 exact ⟨(SJ [(Qe.mk GB (0 : Int) s_), (Qe.mk Fy (1 : Int) s_), (Qe.mk QcX (2 : Int) s_), (Qe.mk QaQ (4 : Int) s_), (Qe.mk Sf (6 : Int) s_), (Qe.mk QaW (32 : Int) s_X), (Qe.mk QaV (48 : Int) s_X), (Qe.mk Sj (128 : Int) s_X), (Qe.mk Sk (144 : Int) s_X), (Qe.mk Fz (160 : Int) s_X), (Qe.mk FA (176 : Int) s_X), (Qe.mk Fw (192 : Int) s_X), (Qe.mk Fu (208 : Int) s_X), (Qe.mk Fx (224 : Int) s_X), (Qe.mk Fv (240 : Int) s_X), (Qe.mk QcV (256 : Int) Jg), (Qe.mk QaO (1024 : Int) Jg), (Qe.mk FB (1280 : Int) Jg), (Qe.mk Qa0 (1536 : Int) Jg), (Qe.mk QaR (3072 : Int) Jg), (Qe.mk Si (3328 : Int) Jg), (Qe.mk Sd (8192 : Int) Wj), (Qe.mk Ft (8704 : Int) Wj), (Qe.mk Sn (9216 : Int) Wj), (Qe.mk Sg (10752 : Int) Jw), (Qe.mk QcW (17408 : Int) Jg), (Qe.mk Se (17664 : Int) Jg), (Qe.mk QaP (17920 : Int) Jg), (Qe.mk Xo (18432 : Int) Fm), (Qe.mk Fq (24576 : Int) Jw), (Qe.mk Fr (25600 : Int) Jw), (Qe.mk Fs (26112 : Int) Jw), (Qe.mk Sm (26624 : Int) Jw), (Qe.mk Sl (27648 : Int) Jw), (Qe.mk QaS (32768 : Int) Wu), (Qe.mk QaX (36864 : Int) Wu), (Qe.mk QaT (40960 : Int) Wv), (Qe.mk QaY (45056 : Int) Wv), (Qe.mk QaU (49152 : Int) Ww), (Qe.mk QaZ (53248 : Int) Ww), (Qe.mk QcT (57344 : Int) X8), (Qe.mk Qfy (59392 : Int) s_T8), (Qe.mk QcU (59648 : Int) s_T8), (Qe.mk Fo (469762048 : Int) YO), (Qe.mk QaL (402685952 : Int) ZI), (Qe.mk QaM (402702336 : Int) UE), (Qe.mk QcO (402706432 : Int) UE), (Qe.mk QaN (402710528 : Int) UE), (Qe.mk Qfx (1879048192 : Int) GA), (Qe.mk QcK (805306368 : Int) QB), (Qe.mk QcP (872415232 : Int) QB), (Qe.mk QcL (939524096 : Int) QB), (Qe.mk QcN (1342177280 : Int) QB), (Qe.mk QcR (1409286144 : Int) QB), (Qe.mk QcM (1476395008 : Int) QB), (Qe.mk QcQ (1543503872 : Int) QB), (Qe.mk Qi8 (2013265920 : Int) EJ), (Qe.mk Qfw (2013265921 : Int) EJ), (Qe.mk Qfv (2046820352 : Int) UJ), (Qe.mk QcJ (2046820353 : Int) UJ), (Qe.mk Qi6 (2080375316 : Int) Vn), (Qe.mk Qfz (2080374864 : Int) Vn), (Qe.mk QcS (2080375254 : Int) Vn), (Qe.mk Qi7 (2080374840 : Int) Vm), (Qe.mk s_or (2080375672 : Int) Vm), (Qe.mk Qi9 (2080375416 : Int) Vm)]), rfl⟩
noncomputable abbrev Qhz {ρ R : Type} (k : (List Qe) → Tr ρ R) : Tr ρ R := .call (ww 139 [] []) (Wc) Qcg k
noncomputable def Wc.s : Nat → Option (List Qe)
 | 0 => none
 | k + 1 => Qhy
theorem Wc.cv : Cv (fun k => Wc.s k ) (Wc ) := .un rfl (by exact .const _)
def Qa7 (r : (Bool × ByteArray)) : AV × Heap := (xo r.1, [(0, .box [] (QW r.2))])
abbrev QhA := Qe → ByteArray → Option (Bool × ByteArray)
def Qa8 (a0 : Qe) (h0 : ByteArray) : Option (Bool × ByteArray) := (some ((eqS a0.name h0), h0))
noncomputable def Yl : QhA := Qa8
theorem Yl.eq (a0 : Qe) (h0 : ByteArray) : Yl a0 h0 = Qa8 a0 h0 := rfl
noncomputable def Qmz (a0 : Qe) (h0 : ByteArray) : Tr (Bool × ByteArray) AH := (rt Qa7 ((eqS a0.name h0), h0))
theorem Yl.ok {a0 : Qe} {h0 : ByteArray} {r : (Bool × ByteArray)} (h : Yl a0 h0 = some r) : ww 176 [.agg (Zb a0), .ptr 0 0] [(0, .box [] (QW h0))] = some (Qa7 r) := by
 refine fnP (Qmz a0 h0) ?_ h
 exact rfl
noncomputable abbrev QmA {ρ R : Type} (a0 : Qe) (h0 : ByteArray) (k : (Bool × ByteArray) → Tr ρ R) : Tr ρ R := .call (ww 176 [.agg (Zb a0), .ptr 0 0] [(0, .box [] (QW h0))]) (Yl a0 h0) Qa7 k
def Ze (r : (Int × ByteArray)) : AV × Heap := (xi r.1, [(0, .box [] (QW r.2))])
abbrev SZ := (List Qe) → ByteArray → Option (Int × ByteArray)
structure JF where
 x0 : (List Qe)
 x7 : Int
 x8 : Int
 h0 : ByteArray
structure Ug where
 x4 : Int
 h0 : ByteArray
def ZK (a : JF) : St := { n := 19, nx := 1, env := [(0, .sl (XI a.x0)), (1, .fn (.func 176) [] [.ptr 0 0]), (7, xi a.x7), (8, xi a.x8)], heap := [(0, .box [] (QW a.h0))] }
def Eq (a : Ug) : Ex × St := (.ret, { n := 19, nx := 1, env := [(4, xi a.x4)], heap := [(0, .box [] (QW a.h0))] })
def Er (a : ByteArray) : Ex × St := (.exit 0, { n := 19, nx := 1, env := [], heap := [(0, .box [] (QW a))] })
def ZL (a : (Ug ⊕ ByteArray)) : Ex × St := Sum.elim Eq Er a
abbrev FJ := JF → Option (Ug ⊕ ByteArray)
def ZM (C0 : QhA) (a : JF) : Option (JF ⊕ (Ug ⊕ ByteArray)) := (bif (decide (a.x8 < a.x7)) then (bif (decide (0 ≤ a.x8)) then ((a.x0[(Int.toNat a.x8)]?).bind fun e1 => ((C0 e1 a.h0).bind fun r2 => (bif r2.1 then (some (.inr (.inl (Ug.mk a.x8 r2.2)))) else (some (.inl (JF.mk a.x0 a.x7 (w64 (a.x8 + 1)) r2.2)))))) else none) else (some (.inr (.inr a.h0))))
noncomputable def Uc : FJ := loopW (ZM Yl)
theorem Uc.eq (a : JF) : Uc a = (ZM Yl a).bind (Sum.elim Uc some) := Jf _ _
noncomputable abbrev Qc1 {ρ R : Type} (a : JF) (k0 : Ug → Tr ρ R) (k1 : ByteArray → Tr ρ R) : Tr ρ R := .loop2 (loopAt pp 175 2) (ZK a) (Uc a) Eq Er k0 k1
noncomputable def Qc2 (a : JF) : Tr (JF ⊕ (Ug ⊕ ByteArray)) XS := (.as (decide (a.x8 < a.x7)) (.as (decide (0 ≤ a.x8)) (.row ((XI a.x0)[(Int.toNat a.x8)]?) (a.x0[(Int.toNat a.x8)]?) Zb fun (e1 : Qe) => (QmA e1 a.h0 fun r2 => (.as r2.1 (rx ZL (.inl (Ug.mk a.x8 r2.2))) (lf ZK (JF.mk a.x0 a.x7 (w64 (a.x8 + 1)) r2.2))))) .fail) (rx ZL (.inr a.h0)))
theorem Uc.ok {a : JF} {r : (Ug ⊕ ByteArray)} (h : Uc a = some r) : lw 1 175 (loopAt pp 175 2) (ZK a) = some (ZL r) := by
 refine lpP h Qc2 fun a => ?_
 exact ⟨rfl, fun q0 => ⟨rfl, fun q1 => fun e1 h => ⟨Qeh h, fun r2 h => ⟨Yl.ok h, ⟨rfl, fun q2 => rfl, fun q2 => rfl⟩⟩⟩, fun q1 => trivial⟩, fun q0 => rfl⟩
def GF (L0 : FJ) (a0 : (List Qe)) (h0 : ByteArray) : Option (Int × ByteArray) := ((L0 (JF.mk a0 (((a0.length) : Nat) : Int) (0 : Int) h0)).bind fun x => Sum.elim (fun (o1 : Ug) => (some (o1.x4, o1.h0))) (fun (o2 : ByteArray) => (some ((-1 : Int), o2))) x)
noncomputable def Wk : SZ := GF Uc
theorem Wk.eq (a0 : (List Qe)) (h0 : ByteArray) : Wk a0 h0 = GF Uc a0 h0 := rfl
noncomputable def QfH (a0 : (List Qe)) (h0 : ByteArray) : Tr (Int × ByteArray) AH := (.num ((XI a0).length) (a0.length) (Qc1 (JF.mk a0 (((a0.length) : Nat) : Int) i0 h0) (fun o1 => (rt Ze (o1.x4, o1.h0))) (fun o2 => (rt Ze ((-1 : Int), o2)))))
theorem Wk.ok {a0 : (List Qe)} {h0 : ByteArray} {r : (Int × ByteArray)} (h : Wk a0 h0 = some r) : ww 175 [.sl (XI a0), .fn (.func 176) [] [.ptr 0 0]] [(0, .box [] (QW h0))] = some (Ze r) := by
 refine fnP (QfH a0 h0) ?_ h
 exact ⟨(Qei _), ⟨fun o1 h => ⟨Uc.ok (r := (.inl _)) h, rfl⟩, fun o2 h => ⟨Uc.ok (r := (.inr _)) h, rfl⟩⟩⟩
noncomputable abbrev QfI {ρ R : Type} (a0 : (List Qe)) (h0 : ByteArray) (k : (Int × ByteArray) → Tr ρ R) : Tr ρ R := .call (ww 175 [.sl (XI a0), .fn (.func 176) [] [.ptr 0 0]] [(0, .box [] (QW h0))]) (Wk a0 h0) Ze k
def Wl (r : (Int × Bool)) : AV × Heap := (.tup [xi r.1, xo r.2], [])
abbrev QkR := ByteArray → Option (Int × Bool)
def QdG (C0 : FH) (C1 : SZ) (a0 : ByteArray) : Option (Int × Bool) := ((C0).bind fun r1 => ((C1 r1 a0).bind fun r2 => (some ((if (0 : Int) > r2.1 then (0 : Int) else r2.1), (decide (r2.1 ≥ 0))))))
noncomputable def XX : QkR := QdG Wc Wk
theorem XX.eq (a0 : ByteArray) : XX a0 = QdG Wc Wk a0 := rfl
noncomputable def Qpz (a0 : ByteArray) : Tr (Int × Bool) AH := (Qhz fun r1 => (QfI r1 a0 fun r2 => (rt Wl ((if i0 > r2.1 then i0 else r2.1), (decide (r2.1 ≥ 0))))))
theorem XX.ok {a0 : ByteArray} {r : (Int × Bool)} (h : XX a0 = some r) : ww 124 [xs a0] [] = some (Wl r) := by
 refine fnP (Qpz a0) ?_ h
 exact fun r1 h => ⟨Wc.ok h, fun r2 h => ⟨Wk.ok h, rfl⟩⟩
noncomputable abbrev QpA {ρ R : Type} (a0 : ByteArray) (k : (Int × Bool) → Tr ρ R) : Tr ρ R := .call (ww 124 [xs a0] []) (XX a0) Wl k
abbrev Zz := Qe → Option ByteArray
def So (a0 : Qe) : Option ByteArray := (some a0.kinds)
noncomputable def Vo : Zz := So
noncomputable def QfJ (a0 : Qe) : Tr ByteArray AH := (rt Qk a0.kinds)
theorem Vo.ok {a0 : Qe} {r : ByteArray} (h : Vo a0 = some r) : ww 200 [.agg (Zb a0)] [] = some (Qk r) := by
 refine fnP (QfJ a0) ?_ h
 exact rfl
noncomputable abbrev QfK {ρ R : Type} (a0 : Qe) (k : ByteArray → Tr ρ R) : Tr ρ R := .call (ww 200 [.agg (Zb a0)] []) (Vo a0) Qk k
noncomputable def Vo.s : Nat → Qe → Option ByteArray
 | 0, _ => none
 | k + 1, a0 => So a0
theorem Vo.cv (a0 : Qe) : Cv (fun k => Vo.s k a0) (Vo a0) := .un rfl (by exact .const _)
abbrev QgM := Int → Option ByteArray
def Qa9 (C0 : FH) (C1 : Zz) (a0 : Int) : Option ByteArray := ((C0).bind fun r1 => (bif (decide (a0 ≥ 0)) then (bif (decide (a0 < (((r1.length) : Nat) : Int))) then (bif (decide (0 ≤ a0)) then ((r1[(Int.toNat a0)]?).bind fun e2 => ((C1 e2).bind fun r3 => (some r3))) else none) else (some s_)) else (some s_)))
theorem Qrz {C0 : Nat → FH} {D0 : FH} (H0 : Cv C0 D0) {C1 : Nat → Zz} {D1 : Zz} (H1 : Cv1 C1 D1) (a0 : Int) : Cv (fun k => Qa9 (C0 k) (C1 k) a0) (Qa9 D0 D1 a0) := by
 unfold Qa9
 exact .bind (H0) fun r1 => .cond (.cond (.cond (.bind (.const _) fun e2 => .bind (H1 _) fun r3 => by exact .const _) cst) cst) cst
noncomputable def GG : QgM := Qa9 Wc Vo
noncomputable def QrA (a0 : Int) : Tr ByteArray AH := (Qhz fun r1 => (let u44 := (decide (a0 ≥ 0)); .as u44 (yesN 2 u44 (.num ((XI r1).length) (r1.length) (yesN 2 u44 (.as (decide (a0 < (((r1.length) : Nat) : Int))) (.as (decide (0 ≤ a0)) (.row ((XI r1)[(Int.toNat a0)]?) (r1[(Int.toNat a0)]?) Zb fun (e2 : Qe) => (QfK e2 fun r3 => (rt Qk r3))) .fail) (rt Qk s_))))) (noN 4 u44 (.no false (rt Qk s_)))))
theorem GG.ok {a0 : Int} {r : ByteArray} (h : GG a0 = some r) : ww 166 [xi a0, .fn (.func 200) [] []] [] = some (Qk r) := by
 refine fnP (QrA a0) ?_ h
 exact fun r1 h => ⟨Wc.ok h, ⟨rfl, fun q0 => Qj 2 (q0) (⟨(Qei _), Qj 2 (q0) (⟨rfl, fun q1 => ⟨rfl, fun q2 => fun e2 h => ⟨Qeh h, fun r3 h => ⟨Vo.ok h, rfl⟩⟩, fun q2 => trivial⟩, fun q1 => rfl⟩)⟩), fun q0 => noN_ok 4 (q0) (⟨rfl, rfl⟩)⟩⟩
noncomputable abbrev QrB {ρ R : Type} (a0 : Int) (k : ByteArray → Tr ρ R) : Tr ρ R := .call (ww 166 [xi a0, .fn (.func 200) [] []] []) (GG a0) Qk k
noncomputable def GG.s : Nat → Int → Option ByteArray
 | 0, _ => none
 | k + 1, a0 => Qa9 (Wc.s k) (Vo.s k) a0
theorem GG.cv (a0 : Int) : Cv (fun k => GG.s k a0) (GG a0) := .un rfl (Qrz Wc.cv Vo.cv a0)
abbrev Qjg := Int → Option ByteArray
def Es (C0 : QgM) (a0 : Int) : Option ByteArray := ((C0 a0).bind fun r1 => (some r1))
theorem Qn0 {C0 : Nat → QgM} {D0 : QgM} (H0 : Cv1 C0 D0) (a0 : Int) : Cv (fun k => Es (C0 k) a0) (Es D0 a0) := by
 unfold Es
 exact .bind (H0 _) fun r1 => by exact .const _
noncomputable def W0 : Qjg := Es GG
noncomputable def Qn1 (a0 : Int) : Tr ByteArray AH := (QrB a0 fun r1 => (rt Qk r1))
theorem W0.ok {a0 : Int} {r : ByteArray} (h : W0 a0 = some r) : ww 146 [xi a0] [] = some (Qk r) := by
 refine fnP (Qn1 a0) ?_ h
 exact fun r1 h => ⟨GG.ok h, rfl⟩
noncomputable abbrev Qn2 {ρ R : Type} (a0 : Int) (k : ByteArray → Tr ρ R) : Tr ρ R := .call (ww 146 [xi a0] []) (W0 a0) Qk k
noncomputable def W0.s : Nat → Int → Option ByteArray
 | 0, _ => none
 | k + 1, a0 => Es (GG.s k) a0
theorem W0.cv (a0 : Int) : Cv (fun k => W0.s k a0) (W0 a0) := .un rfl (Qn0 GG.cv a0)
abbrev Qjh := ByteArray → Option (List ByteArray)
noncomputable def XY (a0 : ByteArray) : Option (List ByteArray) := fieldsS a0
noncomputable abbrev Qih {ρ R : Type} (a0 : ByteArray) (k : (List ByteArray) → Tr ρ R) : Tr ρ R := .call (ww 145 [xs a0] []) (XY a0) Jd k
theorem XY.ok {a0 : ByteArray} {r : (List ByteArray)} (h : XY a0 = some r) : ww 145 [xs a0] [] = some (Jd r) := (E4 rfl _ _).trans (Qqo h)
abbrev Qg1 := ByteArray → ByteArray → Option Bool
noncomputable def Xl (a0 : ByteArray) (a1 : ByteArray) : Option Bool := containsS a0 a1
noncomputable abbrev QfL {ρ R : Type} (a0 : ByteArray) (a1 : ByteArray) (k : Bool → Tr ρ R) : Tr ρ R := .call (ww 177 [xs a0, xs a1] []) (Xl a0 a1) Ql k
theorem Xl.ok {a0 : ByteArray} {a1 : ByteArray} {r : Bool} (h : Xl a0 a1 = some r) : ww 177 [xs a0, xs a1] [] = some (Ql r) := (E4 rfl _ _).trans (QnS h)
def SN (r : (List (List Int))) : AV × Heap := (.sl (Sb r), [])
abbrev YP := Option (List (List Int))
def Qen : Option (List (List Int)) := (some [[(9 : Int)], [(8 : Int)], [(10 : Int), (11 : Int)], [(5 : Int), (6 : Int)], [(7 : Int)]])
noncomputable def VK : YP := Qen
theorem VK.eq : VK = Qen := rfl
noncomputable def Qly : Tr (List (List Int)) AH := (.rows [[xi (zi 9)]] (Q8 [(zi 9)]) (.rows [[xi (zi 8)]] (Q8 [(zi 8)]) (.rows [[xi (zi 10)], [xi (zi 11)]] (Q8 [(zi 10), (zi 11)]) (.rows [[xi (zi 5)], [xi (zi 6)]] (Q8 [(zi 5), (zi 6)]) (.rows [[xi (zi 7)]] (Q8 [(zi 7)]) (.rows [[.sl (Q8 [(zi 9)])], [.sl (Q8 [(zi 8)])], [.sl (Q8 [(zi 10), (zi 11)])], [.sl (Q8 [(zi 5), (zi 6)])], [.sl (Q8 [(zi 7)])]] (Sb [[(zi 9)], [(zi 8)], [(zi 10), (zi 11)], [(zi 5), (zi 6)], [(zi 7)]]) (rt SN [[(zi 9)], [(zi 8)], [(zi 10), (zi 11)], [(zi 5), (zi 6)], [(zi 7)]])))))))
theorem VK.ok {r : (List (List Int))} (h : VK = some r) : ww 242 [] [] = some (SN r) := by
 refine fnP (Qly) ?_ h
 exact ⟨(Uf [(9 : Int)]), ⟨(Uf [(8 : Int)]), ⟨(Uf [(10 : Int), (11 : Int)]), ⟨(Uf [(5 : Int), (6 : Int)]), ⟨(Uf [(7 : Int)]), ⟨(QdD [[(9 : Int)], [(8 : Int)], [(10 : Int), (11 : Int)], [(5 : Int), (6 : Int)], [(7 : Int)]]), rfl⟩⟩⟩⟩⟩⟩
noncomputable abbrev SO {ρ R : Type} (k : (List (List Int)) → Tr ρ R) : Tr ρ R := .call (ww 242 [] []) (VK) SN k
abbrev E7 := ByteArray → Int → Option ByteArray
structure Jl where
 x0 : ByteArray
 x1 : Int
def Ym (a : Jl) : St := { n := 17, nx := 0, env := [(0, xs a.x0), (1, xb a.x1)], heap := [] }
def Xv (a : ByteArray) : Ex × St := (.exit 0, { n := 17, nx := 0, env := [(0, xs a)], heap := [] })
abbrev GH := Jl → Option ByteArray
def Yn (a : Jl) : Option (Jl ⊕ ByteArray) := (bif (decide (((a.x0.size : Nat) : Int) > 0)) then (bif (decide (0 ≤ (0 : Int) ∧ (0 : Int) < ((a.x0.size : Nat) : Int))) then (bif (((a.x0.data.getD (Int.toNat 0) 0).toNat : Int) == a.x1) then (bif (decide (0 ≤ (1 : Int) ∧ (1 : Int) ≤ ((a.x0.size : Nat) : Int) ∧ ((a.x0.size : Nat) : Int) ≤ ((a.x0.size : Nat) : Int))) then (some (.inl (Jl.mk (a.x0.extract (Int.toNat 1) (Int.toNat ((a.x0.size : Nat) : Int))) a.x1))) else none) else (some (.inr a.x0))) else none) else (some (.inr a.x0)))
noncomputable def JD : GH := loopW (Yn )
theorem JD.eq (a : Jl) : JD a = (Yn a).bind (Sum.elim JD some) := Jf _ _
noncomputable abbrev Qai {ρ R : Type} (a : Jl) (k0 : ByteArray → Tr ρ R) : Tr ρ R := .loop (loopAt pp 116 1) (Ym a) (JD a) Xv k0
noncomputable def Qaj (a : Jl) : Tr (Jl ⊕ ByteArray) XS := (let u45 := (decide ((zz a.x0) > 0)); .as u45 (.yes u45 (.as (in1 i0 (zz a.x0)) (yesN 3 u45 (.as ((gb a.x0 i0) == a.x1) (.as (in2 (zi 1) (zz a.x0) (zz a.x0)) (lf Ym (Jl.mk (cu a.x0 (zi 1) (zz a.x0)) a.x1)) .fail) (rx Xv a.x0))) .fail)) (noN 4 u45 (.no false (rx Xv a.x0))))
theorem JD.ok {a : Jl} {r : ByteArray} (h : JD a = some r) : lw 0 116 (loopAt pp 116 1) (Ym a) = some (Xv r) := by
 refine lpP h Qaj fun a => ?_
 exact ⟨rfl, fun q0 => ⟨q0, ⟨rfl, fun q1 => Qj 3 (q0) (⟨rfl, fun q2 => ⟨rfl, fun q3 => rfl, fun q3 => trivial⟩, fun q2 => rfl⟩), fun q1 => trivial⟩⟩, fun q0 => noN_ok 4 (q0) (⟨rfl, rfl⟩)⟩
def Zq (L0 : GH) (a0 : ByteArray) (a1 : Int) : Option ByteArray := ((L0 (Jl.mk a0 a1)).bind (fun (o1 : ByteArray) => (some o1)))
noncomputable def U5 : E7 := Zq JD
theorem U5.eq (a0 : ByteArray) (a1 : Int) : U5 a0 a1 = Zq JD a0 a1 := rfl
noncomputable def Qch (a0 : ByteArray) (a1 : Int) : Tr ByteArray AH := (Qai (Jl.mk a0 a1) (fun o1 => (rt Qk o1)))
theorem U5.ok {a0 : ByteArray} {a1 : Int} {r : ByteArray} (h : U5 a0 a1 = some r) : ww 116 [xs a0, xb a1] [] = some (Qk r) := by
 refine fnP (Qch a0 a1) ?_ h
 exact fun o1 h => ⟨JD.ok h, rfl⟩
noncomputable abbrev Qci {ρ R : Type} (a0 : ByteArray) (a1 : Int) (k : ByteArray → Tr ρ R) : Tr ρ R := .call (ww 116 [xs a0, xb a1] []) (U5 a0 a1) Qk k
abbrev S6 := ByteArray → Option ByteArray
def GI (C0 : E7) (a0 : ByteArray) : Option ByteArray := (bif (eqS a0 s_) then (some a0) else ((C0 a0 (32 : Int)).bind fun r1 => (some r1)))
noncomputable def VL : S6 := GI U5
theorem VL.eq (a0 : ByteArray) : VL a0 = GI U5 a0 := rfl
noncomputable def QfM (a0 : ByteArray) : Tr ByteArray AH := (let u46 := (eqS a0 s_); .as u46 (yesN 2 u46 (.yes true (rt Qk a0))) (noN 2 u46 (.no false (yesN 2 true (.yes (in1 i0 (zz h_20)) (yesN 3 true (.yes (in1 i0 (zz h_20)) (Qci a0 (zi 32) fun r1 => (rt Qk r1)))))))))
theorem VL.ok {a0 : ByteArray} {r : ByteArray} (h : VL a0 = some r) : ww 245 [xs a0, xs h_20] [] = some (Qk r) := by
 refine fnP (QfM a0) ?_ h
 exact ⟨rfl, fun q0 => Qj 2 (q0) (⟨rfl, rfl⟩), fun q0 => noN_ok 2 (q0) (⟨rfl, Qj 2 (rfl) (⟨(by decide), Qj 3 (rfl) (⟨(by decide), fun r1 h => ⟨U5.ok h, rfl⟩⟩)⟩)⟩)⟩
noncomputable abbrev QfN {ρ R : Type} (a0 : ByteArray) (k : ByteArray → Tr ρ R) : Tr ρ R := .call (ww 245 [xs a0, xs h_20] []) (VL a0) Qk k
def Z5 (r : Qd) : AV × Heap := (.tup [], [(0, .box [] (QM r))])
abbrev Gm := Qd → Option Qd
def Z6 (C0 : S6) (h0 : Qd) : Option Qd := ((C0 h0.left).bind fun r1 => (some (Qd.mk r1 h0.deep h0.bad)))
noncomputable def J9 : Gm := Z6 VL
theorem J9.eq (h0 : Qd) : J9 h0 = Z6 VL h0 := rfl
noncomputable def QdH (h0 : Qd) : Tr Qd AH := (QfN h0.left fun r1 => (rt Z5 (Qd.mk r1 h0.deep h0.bad)))
theorem J9.ok {h0 : Qd} {r : Qd} (h : J9 h0 = some r) : ww 216 [.ptr 0 0] [(0, .box [] (QM h0))] = some (Z5 r) := by
 refine fnP (QdH h0) ?_ h
 exact fun r1 h => ⟨VL.ok h, rfl⟩
noncomputable abbrev FK {ρ R : Type} (h0 : Qd) (k : Qd → Tr ρ R) : Tr ρ R := .call (ww 216 [.ptr 0 0] [(0, .box [] (QM h0))]) (J9 h0) Z5 k
abbrev Zr := ByteArray → ByteArray → Option Bool
def Y1 (a0 : ByteArray) (a1 : ByteArray) : Option Bool := (bif (decide (((a0.size : Nat) : Int) ≥ ((a1.size : Nat) : Int))) then (bif (decide (0 ≤ (0 : Int) ∧ (0 : Int) ≤ ((a1.size : Nat) : Int) ∧ ((a1.size : Nat) : Int) ≤ ((a0.size : Nat) : Int))) then (some (eqS (a0.extract (Int.toNat 0) (Int.toNat ((a1.size : Nat) : Int))) a1)) else none) else (some false))
noncomputable def JR : Zr := Y1
theorem JR.eq (a0 : ByteArray) (a1 : ByteArray) : JR a0 a1 = Y1 a0 a1 := rfl
noncomputable def QbF (a0 : ByteArray) (a1 : ByteArray) : Tr Bool AH := (let u47 := (decide ((zz a0) ≥ (zz a1))); .as u47 (yesN 3 u47 (.as (in2 i0 (zz a1) (zz a0)) (yesN 3 u47 (rt Ql (eqS (cu a0 i0 (zz a1)) a1))) .fail)) (noN 6 u47 (rt Ql false)))
theorem JR.ok {a0 : ByteArray} {a1 : ByteArray} {r : Bool} (h : JR a0 a1 = some r) : ww 284 [xs a0, xs a1] [] = some (Ql r) := by
 refine fnP (QbF a0 a1) ?_ h
 exact ⟨rfl, fun q0 => Qj 3 (q0) (⟨rfl, fun q1 => Qj 3 (q0) (rfl), fun q1 => trivial⟩), fun q0 => noN_ok 6 (q0) (rfl)⟩
noncomputable abbrev Ec {ρ R : Type} (a0 : ByteArray) (a1 : ByteArray) (k : Bool → Tr ρ R) : Tr ρ R := .call (ww 284 [xs a0, xs a1] []) (JR a0 a1) Ql k
abbrev Sq := ByteArray → ByteArray → Option Bool
def YW (C0 : Zr) (a0 : ByteArray) (a1 : ByteArray) : Option Bool := ((C0 a0 a1).bind fun r1 => (some r1))
noncomputable def U2 : Sq := YW JR
theorem U2.eq (a0 : ByteArray) (a1 : ByteArray) : U2 a0 a1 = YW JR a0 a1 := rfl
noncomputable def QeR (a0 : ByteArray) (a1 : ByteArray) : Tr Bool AH := (Ec a0 a1 fun r1 => (rt Ql r1))
theorem U2.ok {a0 : ByteArray} {a1 : ByteArray} {r : Bool} (h : U2 a0 a1 = some r) : ww 265 [xs a0, xs a1] [] = some (Ql r) := by
 refine fnP (QeR a0 a1) ?_ h
 exact fun r1 h => ⟨JR.ok h, rfl⟩
noncomputable abbrev QeS {ρ R : Type} (a0 : ByteArray) (a1 : ByteArray) (k : Bool → Tr ρ R) : Tr ρ R := .call (ww 265 [xs a0, xs a1] []) (U2 a0 a1) Ql k
def X9 (r : (Bool × Qd)) : AV × Heap := (xo r.1, [(0, .box [] (QM r.2))])
abbrev WA := ByteArray → Qd → Option (Bool × Qd)
def GJ (C0 : Gm) (C1 : Sq) (a1 : ByteArray) (h0 : Qd) : Option (Bool × Qd) := ((C0 h0).bind fun r1 => (bif r1.bad then (some (false, r1)) else ((C1 r1.left a1).bind fun r2 => (bif (!r2) then (some (false, r1)) else (bif (decide (0 ≤ ((a1.size : Nat) : Int) ∧ ((a1.size : Nat) : Int) ≤ ((r1.left.size : Nat) : Int) ∧ ((r1.left.size : Nat) : Int) ≤ ((r1.left.size : Nat) : Int))) then (some (true, (Qd.mk (r1.left.extract (Int.toNat ((a1.size : Nat) : Int)) (Int.toNat ((r1.left.size : Nat) : Int))) r1.deep r1.bad))) else none)))))
noncomputable def JA : WA := GJ J9 U2
theorem JA.eq (a1 : ByteArray) (h0 : Qd) : JA a1 h0 = GJ J9 U2 a1 h0 := rfl
noncomputable def QfO (a1 : ByteArray) (h0 : Qd) : Tr (Bool × Qd) AH := (FK h0 fun r1 => (.as r1.bad (yesN 7 r1.bad (.yes true (rt X9 (false, r1)))) (noN 5 r1.bad (QeS r1.left a1 fun r2 => (noN 2 r1.bad (.as (!r2) (rt X9 (false, r1)) (.as (in2 (zz a1) (zz r1.left) (zz r1.left)) (rt X9 (true, (Qd.mk (cu r1.left (zz a1) (zz r1.left)) r1.deep r1.bad))) .fail)))))))
theorem JA.ok {a1 : ByteArray} {h0 : Qd} {r : (Bool × Qd)} (h : JA a1 h0 = some r) : ww 261 [.ptr 0 0, xs a1] [(0, .box [] (QM h0))] = some (X9 r) := by
 refine fnP (QfO a1 h0) ?_ h
 exact fun r1 h => ⟨J9.ok h, ⟨rfl, fun q0 => Qj 7 (q0) (⟨rfl, rfl⟩), fun q0 => noN_ok 5 (q0) (fun r2 h => ⟨U2.ok h, noN_ok 2 (q0) (⟨rfl, fun q1 => rfl, fun q1 => ⟨rfl, fun q2 => rfl, fun q2 => trivial⟩⟩)⟩)⟩⟩
noncomputable abbrev Ya {ρ R : Type} (a1 : ByteArray) (h0 : Qd) (k : (Bool × Qd) → Tr ρ R) : Tr ρ R := .call (ww 261 [.ptr 0 0, xs a1] [(0, .box [] (QM h0))]) (JA a1 h0) X9 k
def Qr (r : (Qa × Qd)) : AV × Heap := (.agg (QY r.1), [(0, .box [] (QM r.2))])
abbrev JT := Qd → Option (Qa × Qd)
def Sr (h0 : Qd) : Option (Qa × Qd) := (some ((Qa.mk (0 : Int) (0 : Int) s_ ([] : List Qa)), (Qd.mk h0.left h0.deep true)))
noncomputable def QS : JT := Sr
theorem QS.eq (h0 : Qd) : QS h0 = Sr h0 := rfl
noncomputable def QfP (h0 : Qd) : Tr (Qa × Qd) AH := (rt Qr ((Qa.mk i0 i0 s_ ([] : List Qa)), (Qd.mk h0.left h0.deep true)))
theorem QS.ok {h0 : Qd} {r : (Qa × Qd)} (h : QS h0 = some r) : ww 273 [.ptr 0 0] [(0, .box [] (QM h0))] = some (Qr r) := by
 refine fnP (QfP h0) ?_ h
 exact rfl
noncomputable abbrev Wd {ρ R : Type} (h0 : Qd) (k : (Qa × Qd) → Tr ρ R) : Tr ρ R := .call (ww 273 [.ptr 0 0] [(0, .box [] (QM h0))]) (QS h0) Qr k
abbrev Yo := ByteArray → Option Bool
def ZN (C0 : Zr) (a0 : ByteArray) : Option Bool := ((C0 a0 s_0x).bind fun r1 => (some r1))
noncomputable def UW : Yo := ZN JR
theorem UW.eq (a0 : ByteArray) : UW a0 = ZN JR a0 := rfl
noncomputable def Qc3 (a0 : ByteArray) : Tr Bool AH := (Ec a0 s_0x fun r1 => (rt Ql r1))
theorem UW.ok {a0 : ByteArray} {r : Bool} (h : UW a0 = some r) : ww 265 [xs a0, xs s_0x] [] = some (Ql r) := by
 refine fnP (Qc3 a0) ?_ h
 exact fun r1 h => ⟨JR.ok h, rfl⟩
noncomputable abbrev Qc4 {ρ R : Type} (a0 : ByteArray) (k : Bool → Tr ρ R) : Tr ρ R := .call (ww 265 [xs a0, xs s_0x] []) (UW a0) Ql k
abbrev Et := Int → Option Bool
def Qba (a0 : Int) : Option Bool := (bif (decide (a0 ≥ 48)) then (some (decide (a0 ≤ (57 : Int)))) else (some false))
noncomputable def U6 : Et := Qba
theorem U6.eq (a0 : Int) : U6 a0 = Qba a0 := rfl
noncomputable def QmB (a0 : Int) : Tr Bool AH := (let u48 := (decide (a0 ≥ 48)); .as u48 (yesN 2 u48 (rt Ql (decide (a0 ≤ (zi 57))))) (noN 2 u48 (rt Ql false)))
theorem U6.ok {a0 : Int} {r : Bool} (h : U6 a0 = some r) : ww 270 [.sc (.int .i32 a0)] [] = some (Ql r) := by
 refine fnP (QmB a0) ?_ h
 exact ⟨rfl, fun q0 => Qj 2 (q0) (rfl), fun q0 => noN_ok 2 (q0) (rfl)⟩
noncomputable abbrev FL {ρ R : Type} (a0 : Int) (k : Bool → Tr ρ R) : Tr ρ R := .call (ww 270 [.sc (.int .i32 a0)] []) (U6 a0) Ql k
abbrev QkS := Int → Option Bool
def QdI (C0 : Et) (a0 : Int) : Option Bool := ((C0 a0).bind fun r1 => (bif r1 then (some true) else (bif (decide (a0 ≥ 97)) then (some (decide (a0 ≤ (102 : Int)))) else (some false))))
noncomputable def Zs : QkS := QdI U6
theorem Zs.eq (a0 : Int) : Zs a0 = QdI U6 a0 := rfl
noncomputable def QpB (a0 : Int) : Tr Bool AH := (FL a0 fun r1 => (.as r1 (yesN 4 r1 (rt Ql true)) (noN 2 r1 (let u49 := (decide (a0 ≥ 97)); .as u49 (.yes u49 (.no r1 (.yes u49 (.no r1 (rt Ql (decide (a0 ≤ (zi 102)))))))) (.no u49 (.no r1 (.no u49 (.no r1 (rt Ql false)))))))))
theorem Zs.ok {a0 : Int} {r : Bool} (h : Zs a0 = some r) : ww 267 [.sc (.int .i32 a0)] [] = some (Ql r) := by
 refine fnP (QpB a0) ?_ h
 exact fun r1 h => ⟨U6.ok h, ⟨rfl, fun q0 => Qj 4 (q0) (rfl), fun q0 => noN_ok 2 (q0) (⟨rfl, fun q1 => ⟨q1, ⟨q0, ⟨q1, ⟨q0, rfl⟩⟩⟩⟩, fun q1 => ⟨q1, ⟨q0, ⟨q1, ⟨q0, rfl⟩⟩⟩⟩⟩)⟩⟩
noncomputable abbrev QpC {ρ R : Type} (a0 : Int) (k : Bool → Tr ρ R) : Tr ρ R := .call (ww 267 [.sc (.int .i32 a0)] []) (Zs a0) Ql k
abbrev QdJ := ByteArray → Option ByteArray
structure VZ where
 x0 : ByteArray
 i0s : ByteArray
 i0p : Nat
def Qbb (a : VZ) : St := { n := 21, nx := 1, env := [(0, xs a.x0), (1, .fn (.func 267) [] []), (8, .it 0)], heap := [(0, .iter a.i0s a.i0p)] }
def Qeo (a : ByteArray) : Ex × St := (.ret, { n := 21, nx := 0, env := [(4, xs a)], heap := [] })
def Qep (a : ByteArray) : Ex × St := (.exit 0, { n := 21, nx := 0, env := [(0, xs a)], heap := [] })
def Qbc (a : (ByteArray ⊕ ByteArray)) : Ex × St := Sum.elim Qeo Qep a
abbrev QhB := VZ → Option (ByteArray ⊕ ByteArray)
def Qbd (C0 : QkS) (a : VZ) : Option (VZ ⊕ (ByteArray ⊕ ByteArray)) := (bif (decide (a.i0p < a.i0s.size)) then ((C0 (((Utf8.decode a.i0s a.i0p).1 : Nat) : Int)).bind fun r1 => (bif (!r1) then (bif (decide (0 ≤ (0 : Int) ∧ (0 : Int) ≤ ((a.i0p : Nat) : Int) ∧ ((a.i0p : Nat) : Int) ≤ ((a.x0.size : Nat) : Int))) then (some (.inr (.inl (a.x0.extract (Int.toNat 0) (Int.toNat ((a.i0p : Nat) : Int)))))) else none) else (some (.inl (VZ.mk a.x0 a.i0s (a.i0p + (Utf8.decode a.i0s a.i0p).2)))))) else (some (.inr (.inr a.x0))))
noncomputable def Xx : QhB := loopW (Qbd Zs)
theorem Xx.eq (a : VZ) : Xx a = (Qbd Zs a).bind (Sum.elim Xx some) := Jf _ _
noncomputable abbrev QmC {ρ R : Type} (a : VZ) (k0 : ByteArray → Tr ρ R) (k1 : ByteArray → Tr ρ R) : Tr ρ R := .loop2 (loopAt pp 266 2) (Qbb a) (Xx a) Qeo Qep k0 k1
noncomputable def QmD (a : VZ) : Tr (VZ ⊕ (ByteArray ⊕ ByteArray)) XS := (.as (decide (a.i0p < a.i0s.size)) (.yes true (QpC (((Utf8.decode a.i0s a.i0p).1 : Nat) : Int) fun r1 => (.as (!r1) (.as (in2 i0 ((a.i0p : Nat) : Int) (zz a.x0)) (rx Qbc (.inl (cu a.x0 i0 ((a.i0p : Nat) : Int)))) .fail) (lf Qbb (VZ.mk a.x0 a.i0s (a.i0p + (Utf8.decode a.i0s a.i0p).2)))))) (.no false (rx Qbc (.inr a.x0))))
theorem Xx.ok {a : VZ} {r : (ByteArray ⊕ ByteArray)} (h : Xx a = some r) : lw 0 266 (loopAt pp 266 2) (Qbb a) = some (Qbc r) := by
 refine lpP h QmD fun a => ?_
 exact ⟨rfl, fun q0 => ⟨rfl, fun r1 h => ⟨Zs.ok h, ⟨rfl, fun q1 => ⟨rfl, fun q2 => rfl, fun q2 => trivial⟩, fun q1 => rfl⟩⟩⟩, fun q0 => ⟨rfl, rfl⟩⟩
def QfQ (L0 : QhB) (a0 : ByteArray) : Option ByteArray := ((L0 (VZ.mk a0 a0 0)).bind fun x => Sum.elim (fun (o1 : ByteArray) => (some o1)) (fun (o2 : ByteArray) => (some o2)) x)
noncomputable def ZO : QdJ := QfQ Xx
theorem ZO.eq (a0 : ByteArray) : ZO a0 = QfQ Xx a0 := rfl
noncomputable def Qqw (a0 : ByteArray) : Tr ByteArray AH := (QmC (VZ.mk a0 a0 0) (fun o1 => (rt Qk o1)) (fun o2 => (rt Qk o2)))
theorem ZO.ok {a0 : ByteArray} {r : ByteArray} (h : ZO a0 = some r) : ww 266 [xs a0, .fn (.func 267) [] []] [] = some (Qk r) := by
 refine fnP (Qqw a0) ?_ h
 exact ⟨fun o1 h => ⟨Xx.ok (r := (.inl _)) h, rfl⟩, fun o2 h => ⟨Xx.ok (r := (.inr _)) h, rfl⟩⟩
noncomputable abbrev QkT {ρ R : Type} (a0 : ByteArray) (k : ByteArray → Tr ρ R) : Tr ρ R := .call (ww 266 [xs a0, .fn (.func 267) [] []] []) (ZO a0) Qk k
abbrev YX := ByteArray → Int → Qd → Option (Qa × Qd)
structure Jh where
 x1 : ByteArray
 x2 : Int
 x7 : Int
 h0 : Qd
 h1 : Qa
 i2s : ByteArray
 i2p : Nat
structure Jv where
 h0 : Qd
 h1 : Qa
structure JY where
 x1 : ByteArray
 x7 : Int
 h0 : Qd
 h1 : Qa
def XN (a : Jh) : St := { n := 46, nx := 3, env := [(0, .ptr 0 0), (1, xs a.x1), (2, xi a.x2), (6, .ptr 1 0), (7, xi a.x7), (12, .it 2)], heap := [(0, .box [] (QM a.h0)), (1, .box [] (QY a.h1)), (2, .iter a.i2s a.i2p)] }
def GK (a : Jv) : Ex × St := (.ret, { n := 46, nx := 2, env := [(6, .ptr 1 0)], heap := [(0, .box [] (QM a.h0)), (1, .box [] (QY a.h1))] })
def GL (a : JY) : Ex × St := (.exit 0, { n := 46, nx := 2, env := [(0, .ptr 0 0), (1, xs a.x1), (6, .ptr 1 0), (7, xi a.x7)], heap := [(0, .box [] (QM a.h0)), (1, .box [] (QY a.h1))] })
def XO (a : (Jv ⊕ JY)) : Ex × St := Sum.elim GK GL a
abbrev Eu := Jh → Option (Jv ⊕ JY)
def Y2 (C0 : JT) (a : Jh) : Option (Jh ⊕ (Jv ⊕ JY)) := (bif (decide (a.i2p < a.i2s.size)) then (bif (decide ((((Utf8.decode a.i2s a.i2p).1 : Nat) : Int) ≥ 97)) then (bif (decide ((w64 ((w64 (a.x7 * a.x2)) + (w64 ((w64 (IntKind.i32.wrap ((((Utf8.decode a.i2s a.i2p).1 : Nat) : Int) - 97))) + 10)))) ≥ 4294967296)) then ((C0 a.h0).bind fun r1 => (some (.inr (.inl (Jv.mk r1.2 r1.1))))) else (some (.inl (Jh.mk a.x1 a.x2 (w64 ((w64 (a.x7 * a.x2)) + (w64 ((w64 (IntKind.i32.wrap ((((Utf8.decode a.i2s a.i2p).1 : Nat) : Int) - 97))) + 10)))) a.h0 a.h1 a.i2s (a.i2p + (Utf8.decode a.i2s a.i2p).2))))) else (bif (decide ((w64 ((w64 (a.x7 * a.x2)) + (w64 (IntKind.i32.wrap ((((Utf8.decode a.i2s a.i2p).1 : Nat) : Int) - 48))))) ≥ 4294967296)) then ((C0 a.h0).bind fun r2 => (some (.inr (.inl (Jv.mk r2.2 r2.1))))) else (some (.inl (Jh.mk a.x1 a.x2 (w64 ((w64 (a.x7 * a.x2)) + (w64 (IntKind.i32.wrap ((((Utf8.decode a.i2s a.i2p).1 : Nat) : Int) - 48))))) a.h0 a.h1 a.i2s (a.i2p + (Utf8.decode a.i2s a.i2p).2)))))) else (some (.inr (.inr (JY.mk a.x1 a.x7 a.h0 a.h1)))))
noncomputable def Ua : Eu := loopW (Y2 QS)
theorem Ua.eq (a : Jh) : Ua a = (Y2 QS a).bind (Sum.elim Ua some) := Jf _ _
noncomputable abbrev QbG {ρ R : Type} (a : Jh) (k0 : Jv → Tr ρ R) (k1 : JY → Tr ρ R) : Tr ρ R := .loop2 (loopAt pp 269 3) (XN a) (Ua a) GK GL k0 k1
noncomputable def QbH (a : Jh) : Tr (Jh ⊕ (Jv ⊕ JY)) XS := (.as (decide (a.i2p < a.i2s.size)) (.yes true (.as (decide ((((Utf8.decode a.i2s a.i2p).1 : Nat) : Int) ≥ 97)) (.as (decide ((w64 ((w64 (a.x7 * a.x2)) + (w64 ((w64 (IntKind.i32.wrap ((((Utf8.decode a.i2s a.i2p).1 : Nat) : Int) - 97))) + 10)))) ≥ 4294967296)) (Wd a.h0 fun r1 => (rx XO (.inl (Jv.mk r1.2 r1.1)))) (lf XN (Jh.mk a.x1 a.x2 (w64 ((w64 (a.x7 * a.x2)) + (w64 ((w64 (IntKind.i32.wrap ((((Utf8.decode a.i2s a.i2p).1 : Nat) : Int) - 97))) + 10)))) a.h0 a.h1 a.i2s (a.i2p + (Utf8.decode a.i2s a.i2p).2)))) (.as (decide ((w64 ((w64 (a.x7 * a.x2)) + (w64 (IntKind.i32.wrap ((((Utf8.decode a.i2s a.i2p).1 : Nat) : Int) - 48))))) ≥ 4294967296)) (Wd a.h0 fun r2 => (rx XO (.inl (Jv.mk r2.2 r2.1)))) (lf XN (Jh.mk a.x1 a.x2 (w64 ((w64 (a.x7 * a.x2)) + (w64 (IntKind.i32.wrap ((((Utf8.decode a.i2s a.i2p).1 : Nat) : Int) - 48))))) a.h0 a.h1 a.i2s (a.i2p + (Utf8.decode a.i2s a.i2p).2)))))) (.no false (rx XO (.inr (JY.mk a.x1 a.x7 a.h0 a.h1)))))
theorem Ua.ok {a : Jh} {r : (Jv ⊕ JY)} (h : Ua a = some r) : lw 1 269 (loopAt pp 269 3) (XN a) = some (XO r) := by
 refine lpP h QbH fun a => ?_
 exact ⟨rfl, fun q0 => ⟨rfl, ⟨rfl, fun q1 => ⟨rfl, fun q2 => fun r1 h => ⟨QS.ok h, rfl⟩, fun q2 => rfl⟩, fun q1 => ⟨rfl, fun q2 => fun r2 h => ⟨QS.ok h, rfl⟩, fun q2 => rfl⟩⟩⟩, fun q0 => ⟨rfl, rfl⟩⟩
def Z7 (L0 : Eu) (a1 : ByteArray) (a2 : Int) (h0 : Qd) : Option (Qa × Qd) := ((L0 (Jh.mk a1 a2 (0 : Int) h0 (Qa.mk (0 : Int) (0 : Int) s_ ([] : List Qa)) a1 0)).bind fun x => Sum.elim (fun (o1 : Jv) => (some (o1.h1, o1.h0))) (fun (o2 : JY) => (bif (decide (0 ≤ ((o2.x1.size : Nat) : Int) ∧ ((o2.x1.size : Nat) : Int) ≤ ((o2.h0.left.size : Nat) : Int) ∧ ((o2.h0.left.size : Nat) : Int) ≤ ((o2.h0.left.size : Nat) : Int))) then (some ((Qa.mk (1 : Int) o2.x7 s_ ([] : List Qa)), (Qd.mk (o2.h0.left.extract (Int.toNat ((o2.x1.size : Nat) : Int)) (Int.toNat ((o2.h0.left.size : Nat) : Int))) o2.h0.deep o2.h0.bad))) else none)) x)
noncomputable def JV : YX := Z7 Ua
theorem JV.eq (a1 : ByteArray) (a2 : Int) (h0 : Qd) : JV a1 a2 h0 = Z7 Ua a1 a2 h0 := rfl
noncomputable def QdK (a1 : ByteArray) (a2 : Int) (h0 : Qd) : Tr (Qa × Qd) AH := (QbG (Jh.mk a1 a2 i0 h0 (Qa.mk i0 i0 s_ ([] : List Qa)) a1 0) (fun o1 => (rt Qr (o1.h1, o1.h0))) (fun o2 => (.as (in2 (zz o2.x1) (zz o2.h0.left) (zz o2.h0.left)) (rt Qr ((Qa.mk (zi 1) o2.x7 s_ ([] : List Qa)), (Qd.mk (cu o2.h0.left (zz o2.x1) (zz o2.h0.left)) o2.h0.deep o2.h0.bad))) .fail)))
theorem JV.ok {a1 : ByteArray} {a2 : Int} {h0 : Qd} {r : (Qa × Qd)} (h : JV a1 a2 h0 = some r) : ww 269 [.ptr 0 0, xs a1, xi a2] [(0, .box [] (QM h0))] = some (Qr r) := by
 refine fnP (QdK a1 a2 h0) ?_ h
 exact ⟨fun o1 h => ⟨Ua.ok (r := (.inl _)) h, rfl⟩, fun o2 h => ⟨Ua.ok (r := (.inr _)) h, ⟨rfl, fun q0 => rfl, fun q0 => trivial⟩⟩⟩
noncomputable abbrev Z8 {ρ R : Type} (a1 : ByteArray) (a2 : Int) (h0 : Qd) (k : (Qa × Qd) → Tr ρ R) : Tr ρ R := .call (ww 269 [.ptr 0 0, xs a1, xi a2] [(0, .box [] (QM h0))]) (JV a1 a2 h0) Qr k
abbrev QhC := Int → Option Bool
def Qbe (a0 : Int) : Option Bool := (bif (decide (a0 ≥ 97)) then (bif (decide (a0 ≤ (122 : Int))) then (some true) else (some (a0 == 95))) else (some (a0 == 95)))
noncomputable def X4 : QhC := Qbe
theorem X4.eq (a0 : Int) : X4 a0 = Qbe a0 := rfl
noncomputable def QmE (a0 : Int) : Tr Bool AH := (let u51 := (decide (a0 ≥ 97)); .as u51 (yesN 2 u51 (let u50 := (decide (a0 ≤ (zi 122))); .as u50 (yesN 2 u50 (rt Ql true)) (noN 2 u50 (rt Ql (a0 == 95))))) (noN 2 u51 (noN 3 false (rt Ql (a0 == 95)))))
theorem X4.ok {a0 : Int} {r : Bool} (h : X4 a0 = some r) : ww 285 [.sc (.int .i32 a0)] [] = some (Ql r) := by
 refine fnP (QmE a0) ?_ h
 exact ⟨rfl, fun q0 => Qj 2 (q0) (⟨rfl, fun q1 => Qj 2 (q1) (rfl), fun q1 => noN_ok 2 (q1) (rfl)⟩), fun q0 => noN_ok 2 (q0) (noN_ok 3 (rfl) (rfl))⟩
noncomputable abbrev QmF {ρ R : Type} (a0 : Int) (k : Bool → Tr ρ R) : Tr ρ R := .call (ww 285 [.sc (.int .i32 a0)] []) (X4 a0) Ql k
abbrev QhD := Int → Option Bool
def Qbf (C0 : QhC) (C1 : Et) (a0 : Int) : Option Bool := ((C0 a0).bind fun r1 => (bif r1 then (some true) else ((C1 a0).bind fun r2 => (some r2))))
noncomputable def X5 : QhD := Qbf X4 U6
theorem X5.eq (a0 : Int) : X5 a0 = Qbf X4 U6 a0 := rfl
noncomputable def QmG (a0 : Int) : Tr Bool AH := (QmF a0 fun r1 => (.as r1 (yesN 2 r1 (rt Ql true)) (.no r1 (FL a0 fun r2 => (.no r1 (rt Ql r2))))))
theorem X5.ok {a0 : Int} {r : Bool} (h : X5 a0 = some r) : ww 271 [.sc (.int .i32 a0)] [] = some (Ql r) := by
 refine fnP (QmG a0) ?_ h
 exact fun r1 h => ⟨X4.ok h, ⟨rfl, fun q0 => Qj 2 (q0) (rfl), fun q0 => ⟨q0, fun r2 h => ⟨U6.ok h, ⟨q0, rfl⟩⟩⟩⟩⟩
noncomputable abbrev QmH {ρ R : Type} (a0 : Int) (k : Bool → Tr ρ R) : Tr ρ R := .call (ww 271 [.sc (.int .i32 a0)] []) (X5 a0) Ql k
abbrev G5 := ByteArray → Option ByteArray
structure Vc where
 x0 : ByteArray
 i0s : ByteArray
 i0p : Nat
def Pr (a : Vc) : St := { n := 21, nx := 1, env := [(0, xs a.x0), (1, .fn (.func 271) [] []), (8, .it 0)], heap := [(0, .iter a.i0s a.i0p)] }
def QbP (a : ByteArray) : Ex × St := (.ret, { n := 21, nx := 0, env := [(4, xs a)], heap := [] })
def QbQ (a : ByteArray) : Ex × St := (.exit 0, { n := 21, nx := 0, env := [(0, xs a)], heap := [] })
def Ps (a : (ByteArray ⊕ ByteArray)) : Ex × St := Sum.elim QbP QbQ a
abbrev Qeq := Vc → Option (ByteArray ⊕ ByteArray)
def Pt (C0 : QhD) (a : Vc) : Option (Vc ⊕ (ByteArray ⊕ ByteArray)) := (bif (decide (a.i0p < a.i0s.size)) then ((C0 (((Utf8.decode a.i0s a.i0p).1 : Nat) : Int)).bind fun r1 => (bif (!r1) then (bif (decide (0 ≤ (0 : Int) ∧ (0 : Int) ≤ ((a.i0p : Nat) : Int) ∧ ((a.i0p : Nat) : Int) ≤ ((a.x0.size : Nat) : Int))) then (some (.inr (.inl (a.x0.extract (Int.toNat 0) (Int.toNat ((a.i0p : Nat) : Int)))))) else none) else (some (.inl (Vc.mk a.x0 a.i0s (a.i0p + (Utf8.decode a.i0s a.i0p).2)))))) else (some (.inr (.inr a.x0))))
noncomputable def WJ : Qeq := loopW (Pt X5)
theorem WJ.eq (a : Vc) : WJ a = (Pt X5 a).bind (Sum.elim WJ some) := Jf _ _
noncomputable abbrev Qj8 {ρ R : Type} (a : Vc) (k0 : ByteArray → Tr ρ R) (k1 : ByteArray → Tr ρ R) : Tr ρ R := .loop2 (loopAt pp 266 2) (Pr a) (WJ a) QbP QbQ k0 k1
noncomputable def Qj9 (a : Vc) : Tr (Vc ⊕ (ByteArray ⊕ ByteArray)) XS := (.as (decide (a.i0p < a.i0s.size)) (.yes true (QmH (((Utf8.decode a.i0s a.i0p).1 : Nat) : Int) fun r1 => (.as (!r1) (.as (in2 i0 ((a.i0p : Nat) : Int) (zz a.x0)) (rx Ps (.inl (cu a.x0 i0 ((a.i0p : Nat) : Int)))) .fail) (lf Pr (Vc.mk a.x0 a.i0s (a.i0p + (Utf8.decode a.i0s a.i0p).2)))))) (.no false (rx Ps (.inr a.x0))))
theorem WJ.ok {a : Vc} {r : (ByteArray ⊕ ByteArray)} (h : WJ a = some r) : lw 0 266 (loopAt pp 266 2) (Pr a) = some (Ps r) := by
 refine lpP h Qj9 fun a => ?_
 exact ⟨rfl, fun q0 => ⟨rfl, fun r1 h => ⟨X5.ok h, ⟨rfl, fun q1 => ⟨rfl, fun q2 => rfl, fun q2 => trivial⟩, fun q1 => rfl⟩⟩⟩, fun q0 => ⟨rfl, rfl⟩⟩
def Qcj (L0 : Qeq) (a0 : ByteArray) : Option ByteArray := ((L0 (Vc.mk a0 a0 0)).bind fun x => Sum.elim (fun (o1 : ByteArray) => (some o1)) (fun (o2 : ByteArray) => (some o2)) x)
noncomputable def We : G5 := Qcj WJ
theorem We.eq (a0 : ByteArray) : We a0 = Qcj WJ a0 := rfl
noncomputable def Qn3 (a0 : ByteArray) : Tr ByteArray AH := (Qj8 (Vc.mk a0 a0 0) (fun o1 => (rt Qk o1)) (fun o2 => (rt Qk o2)))
theorem We.ok {a0 : ByteArray} {r : ByteArray} (h : We a0 = some r) : ww 266 [xs a0, .fn (.func 271) [] []] [] = some (Qk r) := by
 refine fnP (Qn3 a0) ?_ h
 exact ⟨fun o1 h => ⟨WJ.ok (r := (.inl _)) h, rfl⟩, fun o2 h => ⟨WJ.ok (r := (.inr _)) h, rfl⟩⟩
noncomputable abbrev P0 {ρ R : Type} (a0 : ByteArray) (k : ByteArray → Tr ρ R) : Tr ρ R := .call (ww 266 [xs a0, .fn (.func 271) [] []] []) (We a0) Qk k
abbrev Zf := Qa → Qd → Option (Qa × Qd)
def Gn (C0 : G5) (C1 : JT) (a1 : Qa) (h0 : Qd) : Option (Qa × Qd) := ((C0 h0.left).bind fun r1 => (bif (!(eqS r1 s_)) then ((C1 h0).bind fun r2 => (some (r2.1, r2.2))) else (some (a1, h0))))
noncomputable def J4 : Zf := Gn We QS
theorem J4.eq (a1 : Qa) (h0 : Qd) : J4 a1 h0 = Gn We QS a1 h0 := rfl
noncomputable def QeT (a1 : Qa) (h0 : Qd) : Tr (Qa × Qd) AH := (P0 h0.left fun r1 => (.as (!(eqS r1 s_)) (Wd h0 fun r2 => (rt Qr (r2.1, r2.2))) (rt Qr (a1, h0))))
theorem J4.ok {a1 : Qa} {h0 : Qd} {r : (Qa × Qd)} (h : J4 a1 h0 = some r) : ww 268 [.ptr 0 0, .agg (QY a1)] [(0, .box [] (QM h0))] = some (Qr r) := by
 refine fnP (QeT a1 h0) ?_ h
 exact fun r1 h => ⟨We.ok h, ⟨rfl, fun q0 => fun r2 h => ⟨QS.ok h, rfl⟩, fun q0 => rfl⟩⟩
noncomputable abbrev Gp {ρ R : Type} (a1 : Qa) (h0 : Qd) (k : (Qa × Qd) → Tr ρ R) : Tr ρ R := .call (ww 268 [.ptr 0 0, .agg (QY a1)] [(0, .box [] (QM h0))]) (J4 a1 h0) Qr k
abbrev FM := ByteArray → Option ByteArray
structure Vd where
 x0 : ByteArray
 i0s : ByteArray
 i0p : Nat
def Pu (a : Vd) : St := { n := 21, nx := 1, env := [(0, xs a.x0), (1, .fn (.func 270) [] []), (8, .it 0)], heap := [(0, .iter a.i0s a.i0p)] }
def QbR (a : ByteArray) : Ex × St := (.ret, { n := 21, nx := 0, env := [(4, xs a)], heap := [] })
def QbS (a : ByteArray) : Ex × St := (.exit 0, { n := 21, nx := 0, env := [(0, xs a)], heap := [] })
def Pv (a : (ByteArray ⊕ ByteArray)) : Ex × St := Sum.elim QbR QbS a
abbrev Qer := Vd → Option (ByteArray ⊕ ByteArray)
def Pw (C0 : Et) (a : Vd) : Option (Vd ⊕ (ByteArray ⊕ ByteArray)) := (bif (decide (a.i0p < a.i0s.size)) then ((C0 (((Utf8.decode a.i0s a.i0p).1 : Nat) : Int)).bind fun r1 => (bif (!r1) then (bif (decide (0 ≤ (0 : Int) ∧ (0 : Int) ≤ ((a.i0p : Nat) : Int) ∧ ((a.i0p : Nat) : Int) ≤ ((a.x0.size : Nat) : Int))) then (some (.inr (.inl (a.x0.extract (Int.toNat 0) (Int.toNat ((a.i0p : Nat) : Int)))))) else none) else (some (.inl (Vd.mk a.x0 a.i0s (a.i0p + (Utf8.decode a.i0s a.i0p).2)))))) else (some (.inr (.inr a.x0))))
noncomputable def WK : Qer := loopW (Pw U6)
theorem WK.eq (a : Vd) : WK a = (Pw U6 a).bind (Sum.elim WK some) := Jf _ _
noncomputable abbrev Qka {ρ R : Type} (a : Vd) (k0 : ByteArray → Tr ρ R) (k1 : ByteArray → Tr ρ R) : Tr ρ R := .loop2 (loopAt pp 266 2) (Pu a) (WK a) QbR QbS k0 k1
noncomputable def Qkb (a : Vd) : Tr (Vd ⊕ (ByteArray ⊕ ByteArray)) XS := (.as (decide (a.i0p < a.i0s.size)) (.yes true (FL (((Utf8.decode a.i0s a.i0p).1 : Nat) : Int) fun r1 => (.as (!r1) (.as (in2 i0 ((a.i0p : Nat) : Int) (zz a.x0)) (rx Pv (.inl (cu a.x0 i0 ((a.i0p : Nat) : Int)))) .fail) (lf Pu (Vd.mk a.x0 a.i0s (a.i0p + (Utf8.decode a.i0s a.i0p).2)))))) (.no false (rx Pv (.inr a.x0))))
theorem WK.ok {a : Vd} {r : (ByteArray ⊕ ByteArray)} (h : WK a = some r) : lw 0 266 (loopAt pp 266 2) (Pu a) = some (Pv r) := by
 refine lpP h Qkb fun a => ?_
 exact ⟨rfl, fun q0 => ⟨rfl, fun r1 h => ⟨U6.ok h, ⟨rfl, fun q1 => ⟨rfl, fun q2 => rfl, fun q2 => trivial⟩, fun q1 => rfl⟩⟩⟩, fun q0 => ⟨rfl, rfl⟩⟩
def Qck (L0 : Qer) (a0 : ByteArray) : Option ByteArray := ((L0 (Vd.mk a0 a0 0)).bind fun x => Sum.elim (fun (o1 : ByteArray) => (some o1)) (fun (o2 : ByteArray) => (some o2)) x)
noncomputable def W1 : FM := Qck WK
theorem W1.eq (a0 : ByteArray) : W1 a0 = Qck WK a0 := rfl
noncomputable def Qn4 (a0 : ByteArray) : Tr ByteArray AH := (Qka (Vd.mk a0 a0 0) (fun o1 => (rt Qk o1)) (fun o2 => (rt Qk o2)))
theorem W1.ok {a0 : ByteArray} {r : ByteArray} (h : W1 a0 = some r) : ww 266 [xs a0, .fn (.func 270) [] []] [] = some (Qk r) := by
 refine fnP (Qn4 a0) ?_ h
 exact ⟨fun o1 h => ⟨WK.ok (r := (.inl _)) h, rfl⟩, fun o2 h => ⟨WK.ok (r := (.inr _)) h, rfl⟩⟩
noncomputable abbrev Qcl {ρ R : Type} (a0 : ByteArray) (k : ByteArray → Tr ρ R) : Tr ρ R := .call (ww 266 [xs a0, .fn (.func 270) [] []] []) (W1 a0) Qk k
abbrev Qak := ByteArray → Option Bool
def Qcm (C0 : Et) (C1 : G5) (C2 : FM) (a0 : ByteArray) : Option Bool := (bif (eqS a0 s_) then (some false) else (bif (decide (((a0.size : Nat) : Int) > 12)) then (some false) else (bif (decide (0 ≤ (0 : Int) ∧ (0 : Int) < ((a0.size : Nat) : Int))) then ((C0 (IntKind.i32.wrap ((a0.data.getD (Int.toNat 0) 0).toNat : Int))).bind fun r1 => (bif r1 then (some false) else ((C1 a0).bind fun r2 => (bif (!(eqS r2 a0)) then (some false) else (bif (((a0.data.getD (Int.toNat 0) 0).toNat : Int) != 114) then (some true) else (bif (((a0.size : Nat) : Int) == 1) then (some true) else (bif (decide (0 ≤ (1 : Int) ∧ (1 : Int) ≤ ((a0.size : Nat) : Int) ∧ ((a0.size : Nat) : Int) ≤ ((a0.size : Nat) : Int))) then ((C2 (a0.extract (Int.toNat 1) (Int.toNat ((a0.size : Nat) : Int)))).bind fun r3 => (some (!(eqS r3 (a0.extract (Int.toNat 1) (Int.toNat ((a0.size : Nat) : Int))))))) else none))))))) else none)))
noncomputable def Yb : Qak := Qcm U6 We W1
theorem Yb.eq (a0 : ByteArray) : Yb a0 = Qcm U6 We W1 a0 := rfl
noncomputable def Qn5 (a0 : ByteArray) : Tr Bool AH := (let u57 := (eqS a0 s_); .as u57 (yesN 3 u57 (yesN 11 true (rt Ql false))) (noN 3 u57 (let u56 := (decide ((zz a0) > 12)); .as u56 (yesN 4 u56 (yesN 6 true (rt Ql false))) (.no u56 (let u55 := (in1 i0 (zz a0)); .as u55 (noN 2 u56 (FL (IntKind.i32.wrap (gb a0 i0)) fun r1 => (.no u56 (.as r1 (yesN 4 r1 (.yes true (rt Ql false))) (.no r1 (P0 a0 fun r2 => (noN 3 r1 (.as (!(eqS r2 a0)) (rt Ql false) (.yes u55 (let u54 := ((gb a0 i0) != 114); .as u54 (yesN 3 u54 (yesN 7 true (rt Ql true))) (noN 3 u54 (let u53 := ((zz a0) == 1); .as u53 (yesN 6 u53 (rt Ql true)) (.no u53 (let u52 := (in2 (zi 1) (zz a0) (zz a0)); .as u52 (.no u53 (Qcl (cu a0 (zi 1) (zz a0)) fun r3 => (noN 2 u53 (.yes u52 (noN 2 u53 (rt Ql (!(eqS r3 (cu a0 (zi 1) (zz a0)))))))))) .fail)))))))))))))) .fail)))))
theorem Yb.ok {a0 : ByteArray} {r : Bool} (h : Yb a0 = some r) : ww 272 [xs a0] [] = some (Ql r) := by
 refine fnP (Qn5 a0) ?_ h
 exact ⟨rfl, fun q0 => Qj 3 (q0) (Qj 11 (rfl) (rfl)), fun q0 => noN_ok 3 (q0) (⟨rfl, fun q1 => Qj 4 (q1) (Qj 6 (rfl) (rfl)), fun q1 => ⟨q1, ⟨rfl, fun q2 => noN_ok 2 (q1) (fun r1 h => ⟨U6.ok h, ⟨q1, ⟨rfl, fun q3 => Qj 4 (q3) (⟨rfl, rfl⟩), fun q3 => ⟨q3, fun r2 h => ⟨We.ok h, noN_ok 3 (q3) (⟨rfl, fun q4 => rfl, fun q4 => ⟨q2, ⟨rfl, fun q5 => Qj 3 (q5) (Qj 7 (rfl) (rfl)), fun q5 => noN_ok 3 (q5) (⟨rfl, fun q6 => Qj 6 (q6) (rfl), fun q6 => ⟨q6, ⟨rfl, fun q7 => ⟨q6, fun r3 h => ⟨W1.ok h, noN_ok 2 (q6) (⟨q7, noN_ok 2 (q6) (rfl)⟩)⟩⟩, fun q7 => trivial⟩⟩⟩)⟩⟩⟩)⟩⟩⟩⟩⟩), fun q2 => trivial⟩⟩⟩)⟩
noncomputable abbrev QhE {ρ R : Type} (a0 : ByteArray) (k : Bool → Tr ρ R) : Tr ρ R := .call (ww 272 [xs a0] []) (Yb a0) Ql k
abbrev QhF := Option (List ByteArray)
def QfR : Option (List ByteArray) := (some [s_, s_, s_, h_2e, h_2d, h_2b, h_2d, h_2a, h_26, h_7c, QaJ, QaK])
noncomputable def X6 : QhF := QfR
theorem X6.eq : X6 = QfR := rfl
noncomputable def QmI : Tr (List ByteArray) AH := (.rows [[xs s_], [xs s_], [xs s_], [xs h_2e], [xs h_2d], [xs h_2b], [xs h_2d], [xs h_2a], [xs h_26], [xs h_7c], [xs QaJ], [xs QaK]] (Qg [s_, s_, s_, h_2e, h_2d, h_2b, h_2d, h_2a, h_26, h_7c, QaJ, QaK]) (rt Jd [s_, s_, s_, h_2e, h_2d, h_2b, h_2d, h_2a, h_26, h_7c, QaJ, QaK]))
theorem X6.ok {r : (List ByteArray)} (h : X6 = some r) : ww 208 [] [] = some (Jd r) := by
 refine fnP (QmI) ?_ h
 exact ⟨(QP [s_, s_, s_, h_2e, h_2d, h_2b, h_2d, h_2a, h_26, h_7c, QaJ, QaK]), rfl⟩
noncomputable abbrev QmJ {ρ R : Type} (k : (List ByteArray) → Tr ρ R) : Tr ρ R := .call (ww 208 [] []) (X6) Jd k
def Zg (r : (Int × Qd)) : AV × Heap := (xi r.1, [(0, .box [] (QM r.2))])
abbrev WW := (List Int) → Qd → Option (Int × Qd)
structure JG where
 x7 : (List Int)
 x8 : Int
 x9 : Int
 h0 : Qd
structure Uh where
 x4 : Int
 h0 : Qd
def ZP (a : JG) : St := { n := 21, nx := 1, env := [(0, .ptr 0 0), (7, .sl (Q8 a.x7)), (8, xi a.x8), (9, xi a.x9)], heap := [(0, .box [] (QM a.h0))] }
def Ev (a : Uh) : Ex × St := (.ret, { n := 21, nx := 1, env := [(4, xi a.x4)], heap := [(0, .box [] (QM a.h0))] })
def Ew (a : Qd) : Ex × St := (.exit 0, { n := 21, nx := 1, env := [], heap := [(0, .box [] (QM a))] })
def ZQ (a : (Uh ⊕ Qd)) : Ex × St := Sum.elim Ev Ew a
abbrev FN := JG → Option (Uh ⊕ Qd)
def ZR (C0 : QhF) (C1 : WA) (a : JG) : Option (JG ⊕ (Uh ⊕ Qd)) := (bif (decide (a.x9 < a.x8)) then (bif (decide (0 ≤ a.x9)) then ((a.x7[(Int.toNat a.x9)]?).bind fun e1 => ((C0).bind fun r2 => (bif (decide (0 ≤ e1)) then ((r2[(Int.toNat e1)]?).bind fun e3 => ((C1 e3 a.h0).bind fun r4 => (bif r4.1 then (some (.inr (.inl (Uh.mk e1 r4.2)))) else (some (.inl (JG.mk a.x7 a.x8 (w64 (a.x9 + 1)) r4.2)))))) else none))) else none) else (some (.inr (.inr a.h0))))
noncomputable def UA : FN := loopW (ZR X6 JA)
theorem UA.eq (a : JG) : UA a = (ZR X6 JA a).bind (Sum.elim UA some) := Jf _ _
noncomputable abbrev Qc5 {ρ R : Type} (a : JG) (k0 : Uh → Tr ρ R) (k1 : Qd → Tr ρ R) : Tr ρ R := .loop2 (loopAt pp 244 2) (ZP a) (UA a) Ev Ew k0 k1
noncomputable def Qc6 (a : JG) : Tr (JG ⊕ (Uh ⊕ Qd)) XS := (.as (decide (a.x9 < a.x8)) (.as (decide (0 ≤ a.x9)) (.row ((Q8 a.x7)[(Int.toNat a.x9)]?) (a.x7[(Int.toNat a.x9)]?) Xi fun (e1 : Int) => (QmJ fun r2 => (.as (decide (0 ≤ e1)) (.row ((Qg r2)[(Int.toNat e1)]?) (r2[(Int.toNat e1)]?) QW fun (e3 : ByteArray) => (Ya e3 a.h0 fun r4 => (.as r4.1 (rx ZQ (.inl (Uh.mk e1 r4.2))) (lf ZP (JG.mk a.x7 a.x8 (w64 (a.x9 + 1)) r4.2))))) .fail))) .fail) (rx ZQ (.inr a.h0)))
theorem UA.ok {a : JG} {r : (Uh ⊕ Qd)} (h : UA a = some r) : lw 1 244 (loopAt pp 244 2) (ZP a) = some (ZQ r) := by
 refine lpP h Qc6 fun a => ?_
 exact ⟨rfl, fun q0 => ⟨rfl, fun q1 => fun e1 h => ⟨Vu h, fun r2 h => ⟨X6.ok h, ⟨rfl, fun q2 => fun e3 h => ⟨QO h, fun r4 h => ⟨JA.ok h, ⟨rfl, fun q3 => rfl, fun q3 => rfl⟩⟩⟩, fun q2 => trivial⟩⟩⟩, fun q1 => trivial⟩, fun q0 => rfl⟩
def GM (L0 : FN) (a1 : (List Int)) (h0 : Qd) : Option (Int × Qd) := ((L0 (JG.mk a1 (((a1.length) : Nat) : Int) (0 : Int) h0)).bind fun x => Sum.elim (fun (o1 : Uh) => (some (o1.x4, o1.h0))) (fun (o2 : Qd) => (some ((0 : Int), o2))) x)
noncomputable def JU : WW := GM UA
theorem JU.eq (a1 : (List Int)) (h0 : Qd) : JU a1 h0 = GM UA a1 h0 := rfl
noncomputable def QfS (a1 : (List Int)) (h0 : Qd) : Tr (Int × Qd) AH := (.num ((Q8 a1).length) (a1.length) (Qc5 (JG.mk a1 (((a1.length) : Nat) : Int) i0 h0) (fun o1 => (rt Zg (o1.x4, o1.h0))) (fun o2 => (rt Zg (i0, o2)))))
theorem JU.ok {a1 : (List Int)} {h0 : Qd} {r : (Int × Qd)} (h : JU a1 h0 = some r) : ww 244 [.ptr 0 0, .sl (Q8 a1)] [(0, .box [] (QM h0))] = some (Zg r) := by
 refine fnP (QfS a1 h0) ?_ h
 exact ⟨(Va _), ⟨fun o1 h => ⟨UA.ok (r := (.inl _)) h, rfl⟩, fun o2 h => ⟨UA.ok (r := (.inr _)) h, rfl⟩⟩⟩
noncomputable abbrev Ss {ρ R : Type} (a1 : (List Int)) (h0 : Qd) (k : (Int × Qd) → Tr ρ R) : Tr ρ R := .call (ww 244 [.ptr 0 0, .sl (Q8 a1)] [(0, .box [] (QM h0))]) (JU a1 h0) Zg k
abbrev Xq := Qd → Option (Qa × Qd)
abbrev QfT (c : Xq) : Prop := ∀ (h0 : Qd) (r : (Qa × Qd)), c h0 = some r → ww 263 [.ptr 0 0] [(0, .box [] (QM h0))] = some (Qr r)
abbrev W5 := Qd → Option (Qa × Qd)
abbrev QeU (c : W5) : Prop := ∀ (h0 : Qd) (r : (Qa × Qd)), c h0 = some r → ww 262 [.ptr 0 0, .fn (.func 263) [.ptr 0 0] []] [(0, .box [] (QM h0))] = some (Qr r)
abbrev Xr := Qd → Option (Qa × Qd)
abbrev QfU (c : Xr) : Prop := ∀ (h0 : Qd) (r : (Qa × Qd)), c h0 = some r → ww 264 [.ptr 0 0] [(0, .box [] (QM h0))] = some (Qr r)
abbrev WH := Qd → Option (Qa × Qd)
abbrev Qc7 (c : WH) : Prop := ∀ (h0 : Qd) (r : (Qa × Qd)), c h0 = some r → ww 262 [.ptr 0 0, .fn (.func 264) [.ptr 0 0] []] [(0, .box [] (QM h0))] = some (Qr r)
abbrev VM := Qd → Option (Qa × Qd)
abbrev Qii (c : VM) : Prop := ∀ (h0 : Qd) (r : (Qa × Qd)), c h0 = some r → ww 243 [.ptr 0 0] [(0, .box [] (QM h0))] = some (Qr r)
abbrev Ji := Int → Qd → Option (Qa × Qd)
abbrev Qbg (c : Ji) : Prop := ∀ (a1 : Int) (h0 : Qd) (r : (Qa × Qd)), c a1 h0 = some r → ww 215 [.ptr 0 0, xi a1] [(0, .box [] (QM h0))] = some (Qr r)
noncomputable abbrev QeV {ρ R : Type} (c : Xq) (h0 : Qd) (k : (Qa × Qd) → Tr ρ R) : Tr ρ R := .call (ww 263 [.ptr 0 0] [(0, .box [] (QM h0))]) (c h0) Qr k
noncomputable abbrev QdL {ρ R : Type} (c : W5) (h0 : Qd) (k : (Qa × Qd) → Tr ρ R) : Tr ρ R := .call (ww 262 [.ptr 0 0, .fn (.func 263) [.ptr 0 0] []] [(0, .box [] (QM h0))]) (c h0) Qr k
noncomputable abbrev QeW {ρ R : Type} (c : Xr) (h0 : Qd) (k : (Qa × Qd) → Tr ρ R) : Tr ρ R := .call (ww 264 [.ptr 0 0] [(0, .box [] (QM h0))]) (c h0) Qr k
noncomputable abbrev Qcn {ρ R : Type} (c : WH) (h0 : Qd) (k : (Qa × Qd) → Tr ρ R) : Tr ρ R := .call (ww 262 [.ptr 0 0, .fn (.func 264) [.ptr 0 0] []] [(0, .box [] (QM h0))]) (c h0) Qr k
noncomputable abbrev S7 {ρ R : Type} (c : VM) (h0 : Qd) (k : (Qa × Qd) → Tr ρ R) : Tr ρ R := .call (ww 243 [.ptr 0 0] [(0, .box [] (QM h0))]) (c h0) Qr k
noncomputable abbrev ZA {ρ R : Type} (c : Ji) (a1 : Int) (h0 : Qd) (k : (Qa × Qd) → Tr ρ R) : Tr ρ R := .call (ww 215 [.ptr 0 0, xi a1] [(0, .box [] (QM h0))]) (c a1 h0) Qr k
def W6 (C0 : Ji) (C1 : WA) (C2 : JT) (h0 : Qd) : Option (Qa × Qd) := ((C0 (0 : Int) h0).bind fun r1 => ((C1 h_29 r1.2).bind fun r2 => (bif (!r2.1) then ((C2 r2.2).bind fun r3 => (some (r3.1, r3.2))) else (some (r1.1, r2.2)))))
theorem Pi {C0 : Nat → Ji} {D0 : Ji} (H0 : Cv2 C0 D0) {C1 : Nat → WA} {D1 : WA} (H1 : Cv2 C1 D1) {C2 : Nat → JT} {D2 : JT} (H2 : Cv1 C2 D2) (h0 : Qd) : Cv (fun k => W6 (C0 k) (C1 k) (C2 k) h0) (W6 D0 D1 D2 h0) := by
 unfold W6
 exact .bind (H0 _ _) fun r1 => .bind (H1 _ _) fun r2 => .cond (.bind (H2 _) fun r3 => by exact .const _) cst
noncomputable def QeX (C0 : Ji) (h0 : Qd) : Tr (Qa × Qd) AH := (ZA C0 i0 h0 fun r1 => (Ya h_29 r1.2 fun r2 => (.as (!r2.1) (Wd r2.2 fun r3 => (rt Qr (r3.1, r3.2))) (rt Qr (r1.1, r2.2)))))
def Wm (C0 : JT) (C1 : Xq) (h0 : Qd) : Option (Qa × Qd) := (bif (decide (h0.deep ≥ 12)) then ((C0 h0).bind fun r1 => (some (r1.1, r1.2))) else ((C1 (Qd.mk h0.left (w64 (h0.deep + 1)) h0.bad)).bind fun r2 => (some (r2.1, (Qd.mk r2.2.left (w64 (r2.2.deep - 1)) r2.2.bad)))))
theorem FO {C0 : Nat → JT} {D0 : JT} (H0 : Cv1 C0 D0) {C1 : Nat → Xq} {D1 : Xq} (H1 : Cv1 C1 D1) (h0 : Qd) : Cv (fun k => Wm (C0 k) (C1 k) h0) (Wm D0 D1 h0) := by
 unfold Wm
 exact .cond (.bind (H0 _) fun r1 => by exact .const _) (.bind (H1 _) fun r2 => by exact .const _)
noncomputable def QdM (C0 : Xq) (h0 : Qd) : Tr (Qa × Qd) AH := (.as (decide (h0.deep ≥ 12)) (Wd h0 fun r1 => (rt Qr (r1.1, r1.2))) (QeV C0 (Qd.mk h0.left (w64 (h0.deep + 1)) h0.bad) fun r2 => (rt Qr (r2.1, (Qd.mk r2.2.left (w64 (r2.2.deep - 1)) r2.2.bad)))))
def W7 (C0 : VM) (h0 : Qd) : Option (Qa × Qd) := ((C0 h0).bind fun r1 => (some ((Qa.mk (4 : Int) (0 : Int) s_ [r1.1]), r1.2)))
theorem Pj {C0 : Nat → VM} {D0 : VM} (H0 : Cv1 C0 D0) (h0 : Qd) : Cv (fun k => W7 (C0 k) h0) (W7 D0 h0) := by
 unfold W7
 exact .bind (H0 _) fun r1 => by exact .const _
noncomputable def QeY (C0 : VM) (h0 : Qd) : Tr (Qa × Qd) AH := (S7 C0 h0 fun r1 => (.rows [[xi r1.1.Kind, xi r1.1.N, xs r1.1.Name, .sl (QK r1.1.L)]] (QK [r1.1]) (rt Qr ((Qa.mk (zi 4) i0 s_ [r1.1]), r1.2))))
def VN (C0 : JT) (C1 : Xr) (h0 : Qd) : Option (Qa × Qd) := (bif (decide (h0.deep ≥ 12)) then ((C0 h0).bind fun r1 => (some (r1.1, r1.2))) else ((C1 (Qd.mk h0.left (w64 (h0.deep + 1)) h0.bad)).bind fun r2 => (some (r2.1, (Qd.mk r2.2.left (w64 (r2.2.deep - 1)) r2.2.bad)))))
theorem Ey {C0 : Nat → JT} {D0 : JT} (H0 : Cv1 C0 D0) {C1 : Nat → Xr} {D1 : Xr} (H1 : Cv1 C1 D1) (h0 : Qd) : Cv (fun k => VN (C0 k) (C1 k) h0) (VN D0 D1 h0) := by
 unfold VN
 exact .cond (.bind (H0 _) fun r1 => by exact .const _) (.bind (H1 _) fun r2 => by exact .const _)
noncomputable def Qco (C0 : Xr) (h0 : Qd) : Tr (Qa × Qd) AH := (.as (decide (h0.deep ≥ 12)) (Wd h0 fun r1 => (rt Qr (r1.1, r1.2))) (QeW C0 (Qd.mk h0.left (w64 (h0.deep + 1)) h0.bad) fun r2 => (rt Qr (r2.1, (Qd.mk r2.2.left (w64 (r2.2.deep - 1)) r2.2.bad)))))
def VV (C0 : WA) (C1 : W5) (C2 : WH) (C3 : Yo) (C4 : QdJ) (C5 : YX) (C6 : Zf) (C7 : FM) (C8 : G5) (C9 : Qak) (C10 : JT) (h0 : Qd) : Option (Qa × Qd) := ((C0 h_28 h0).bind fun r1 => (bif r1.1 then ((C1 r1.2).bind fun r2 => (some (r2.1, r2.2))) else ((C0 h_2d r1.2).bind fun r3 => (bif r3.1 then ((C2 r3.2).bind fun r4 => (some (r4.1, r4.2))) else ((C0 h_2e r3.2).bind fun r5 => (bif r5.1 then (some ((Qa.mk (3 : Int) (0 : Int) s_ ([] : List Qa)), r5.2)) else (bif r5.2.bad then (some ((Qa.mk (0 : Int) (0 : Int) s_ ([] : List Qa)), r5.2)) else ((C3 r5.2.left).bind fun r6 => (bif r6 then (bif (decide (0 ≤ (2 : Int) ∧ (2 : Int) ≤ ((r5.2.left.size : Nat) : Int) ∧ ((r5.2.left.size : Nat) : Int) ≤ ((r5.2.left.size : Nat) : Int))) then ((C4 (r5.2.left.extract (Int.toNat 2) (Int.toNat ((r5.2.left.size : Nat) : Int)))).bind fun r7 => (bif (!(eqS r7 s_)) then ((C4 (r5.2.left.extract (Int.toNat 2) (Int.toNat ((r5.2.left.size : Nat) : Int)))).bind fun r8 => ((C5 r8 (16 : Int) (Qd.mk (r5.2.left.extract (Int.toNat 2) (Int.toNat ((r5.2.left.size : Nat) : Int))) r5.2.deep r5.2.bad)).bind fun r9 => ((C6 r9.1 r9.2).bind fun r10 => (some (r10.1, r10.2))))) else ((C7 r5.2.left).bind fun r11 => (bif (!(eqS r11 s_)) then ((C5 r11 (10 : Int) r5.2).bind fun r12 => ((C6 r12.1 r12.2).bind fun r13 => (some (r13.1, r13.2)))) else ((C8 r5.2.left).bind fun r14 => ((C9 r14).bind fun r15 => (bif r15 then (bif (decide (0 ≤ ((r14.size : Nat) : Int) ∧ ((r14.size : Nat) : Int) ≤ ((r5.2.left.size : Nat) : Int) ∧ ((r5.2.left.size : Nat) : Int) ≤ ((r5.2.left.size : Nat) : Int))) then (some ((Qa.mk (2 : Int) (0 : Int) r14 ([] : List Qa)), (Qd.mk (r5.2.left.extract (Int.toNat ((r14.size : Nat) : Int)) (Int.toNat ((r5.2.left.size : Nat) : Int))) r5.2.deep r5.2.bad))) else none) else ((C10 r5.2).bind fun r16 => (some (r16.1, r16.2)))))))))) else none) else ((C7 r5.2.left).bind fun r17 => (bif (!(eqS r17 s_)) then ((C5 r17 (10 : Int) r5.2).bind fun r18 => ((C6 r18.1 r18.2).bind fun r19 => (some (r19.1, r19.2)))) else ((C8 r5.2.left).bind fun r20 => ((C9 r20).bind fun r21 => (bif r21 then (bif (decide (0 ≤ ((r20.size : Nat) : Int) ∧ ((r20.size : Nat) : Int) ≤ ((r5.2.left.size : Nat) : Int) ∧ ((r5.2.left.size : Nat) : Int) ≤ ((r5.2.left.size : Nat) : Int))) then (some ((Qa.mk (2 : Int) (0 : Int) r20 ([] : List Qa)), (Qd.mk (r5.2.left.extract (Int.toNat ((r20.size : Nat) : Int)) (Int.toNat ((r5.2.left.size : Nat) : Int))) r5.2.deep r5.2.bad))) else none) else ((C10 r5.2).bind fun r22 => (some (r22.1, r22.2)))))))))))))))))
theorem S8 {C0 : Nat → WA} {D0 : WA} (H0 : Cv2 C0 D0) {C1 : Nat → W5} {D1 : W5} (H1 : Cv1 C1 D1) {C2 : Nat → WH} {D2 : WH} (H2 : Cv1 C2 D2) {C3 : Nat → Yo} {D3 : Yo} (H3 : Cv1 C3 D3) {C4 : Nat → QdJ} {D4 : QdJ} (H4 : Cv1 C4 D4) {C5 : Nat → YX} {D5 : YX} (H5 : Cv3 C5 D5) {C6 : Nat → Zf} {D6 : Zf} (H6 : Cv2 C6 D6) {C7 : Nat → FM} {D7 : FM} (H7 : Cv1 C7 D7) {C8 : Nat → G5} {D8 : G5} (H8 : Cv1 C8 D8) {C9 : Nat → Qak} {D9 : Qak} (H9 : Cv1 C9 D9) {C10 : Nat → JT} {D10 : JT} (H10 : Cv1 C10 D10) (h0 : Qd) : Cv (fun k => VV (C0 k) (C1 k) (C2 k) (C3 k) (C4 k) (C5 k) (C6 k) (C7 k) (C8 k) (C9 k) (C10 k) h0) (VV D0 D1 D2 D3 D4 D5 D6 D7 D8 D9 D10 h0) := by
 unfold VV
 exact .bind (H0 _ _) fun r1 => .cond (.bind (H1 _) fun r2 => by exact .const _) (.bind (H0 _ _) fun r3 => .cond (.bind (H2 _) fun r4 => by exact .const _) (.bind (H0 _ _) fun r5 => .cond cst (.cond cst (.bind (H3 _) fun r6 => .cond (.cond (.bind (H4 _) fun r7 => .cond (.bind (H4 _) fun r8 => .bind (H5 _ _ _) fun r9 => .bind (H6 _ _) fun r10 => by exact .const _) (.bind (H7 _) fun r11 => .cond (.bind (H5 _ _ _) fun r12 => .bind (H6 _ _) fun r13 => by exact .const _) (.bind (H8 _) fun r14 => .bind (H9 _) fun r15 => .cond cst (.bind (H10 _) fun r16 => by exact .const _)))) cst) (.bind (H7 _) fun r17 => .cond (.bind (H5 _ _ _) fun r18 => .bind (H6 _ _) fun r19 => by exact .const _) (.bind (H8 _) fun r20 => .bind (H9 _) fun r21 => .cond cst (.bind (H10 _) fun r22 => by exact .const _)))))))
noncomputable def Qg2 (C0 : W5) (C1 : WH) (h0 : Qd) : Tr (Qa × Qd) AH := (Ya h_28 h0 fun r1 => (.as r1.1 (QdL C0 r1.2 fun r2 => (rt Qr (r2.1, r2.2))) (Ya h_2d r1.2 fun r3 => (.as r3.1 (Qcn C1 r3.2 fun r4 => (rt Qr (r4.1, r4.2))) (Ya h_2e r3.2 fun r5 => (.as r5.1 (rt Qr ((Qa.mk (zi 3) i0 s_ ([] : List Qa)), r5.2)) (.as r5.2.bad (rt Qr ((Qa.mk i0 i0 s_ ([] : List Qa)), r5.2)) (Qc4 r5.2.left fun r6 => (.as r6 (yesN 4 r6 (let u58 := (in2 (zi 2) (zz r5.2.left) (zz r5.2.left)); .as u58 (.yes r6 (QkT (cu r5.2.left (zi 2) (zz r5.2.left)) fun r7 => (yesN 2 r6 (.as (!(eqS r7 s_)) (.yes u58 (QkT (cu r5.2.left (zi 2) (zz r5.2.left)) fun r8 => (Z8 r8 (zi 16) (Qd.mk (cu r5.2.left (zi 2) (zz r5.2.left)) r5.2.deep r5.2.bad) fun r9 => (Gp r9.1 r9.2 fun r10 => (rt Qr (r10.1, r10.2)))))) (Qcl r5.2.left fun r11 => (.as (!(eqS r11 s_)) (Z8 r11 (zi 10) r5.2 fun r12 => (Gp r12.1 r12.2 fun r13 => (rt Qr (r13.1, r13.2)))) (P0 r5.2.left fun r14 => (QhE r14 fun r15 => (.as r15 (.as (in2 (zz r14) (zz r5.2.left) (zz r5.2.left)) (rt Qr ((Qa.mk (zi 2) i0 r14 ([] : List Qa)), (Qd.mk (cu r5.2.left (zz r14) (zz r5.2.left)) r5.2.deep r5.2.bad))) .fail) (Wd r5.2 fun r16 => (rt Qr (r16.1, r16.2)))))))))))) .fail)) (noN 7 r6 (.no false (Qcl r5.2.left fun r17 => (.as (!(eqS r17 s_)) (Z8 r17 (zi 10) r5.2 fun r18 => (Gp r18.1 r18.2 fun r19 => (rt Qr (r19.1, r19.2)))) (P0 r5.2.left fun r20 => (QhE r20 fun r21 => (.as r21 (.as (in2 (zz r20) (zz r5.2.left) (zz r5.2.left)) (rt Qr ((Qa.mk (zi 2) i0 r20 ([] : List Qa)), (Qd.mk (cu r5.2.left (zz r20) (zz r5.2.left)) r5.2.deep r5.2.bad))) .fail) (Wd r5.2 fun r22 => (rt Qr (r22.1, r22.2)))))))))))))))))))
structure Jo where
 x1 : Int
 x6 : Int
 h0 : Qd
 h1 : Qa
 h2 : Qa
structure Ub where
 h0 : Qd
 h1 : Qa
 h2 : Qa
def Z9 (a : Jo) : St := { n := 47, nx := 3, env := [(0, .ptr 0 0), (1, xi a.x1), (4, .ptr 1 0), (5, .ptr 2 0), (6, xi a.x6)], heap := [(0, .box [] (QM a.h0)), (1, .box [] (QY a.h1)), (2, .box [] (QY a.h2))] }
def Yp (a : Ub) : Ex × St := (.exit 0, { n := 47, nx := 3, env := [(4, .ptr 1 0), (5, .ptr 2 0)], heap := [(0, .box [] (QM a.h0)), (1, .box [] (QY a.h1)), (2, .box [] (QY a.h2))] })
abbrev VU := Jo → Option Ub
def Wn (C0 : Ji) (C1 : YP) (C2 : WW) (a : Jo) : Option (Jo ⊕ Ub) := (bif (a.x6 != 0) then (bif (!a.h0.bad) then ((C0 (w64 (a.x1 + 1)) a.h0).bind fun r1 => ((C1).bind fun r2 => (bif (decide (0 ≤ a.x1)) then ((r2[(Int.toNat a.x1)]?).bind fun e3 => ((C2 e3 r1.2).bind fun r4 => (some (.inl (Jo.mk a.x1 r4.1 r4.2 a.h1 (Qa.mk a.x6 (0 : Int) s_ [a.h2, r1.1])))))) else none))) else (some (.inr (Ub.mk a.h0 a.h1 a.h2)))) else (some (.inr (Ub.mk a.h0 a.h1 a.h2))))
theorem FP {C0 : Nat → Ji} {D0 : Ji} (H0 : Cv2 C0 D0) {C1 : Nat → YP} {D1 : YP} (H1 : Cv C1 D1) {C2 : Nat → WW} {D2 : WW} (H2 : Cv2 C2 D2) (a : Jo) : Cv (fun k => Wn (C0 k) (C1 k) (C2 k) a) (Wn D0 D1 D2 a) := by
 unfold Wn
 exact .cond (.cond (.bind (H0 _ _) fun r1 => .bind (H1) fun r2 => .cond (.bind (.const _) fun e3 => .bind (H2 _ _) fun r4 => by exact .const _) cst) cst) cst
noncomputable abbrev QdN {ρ R : Type} (l : VU) (a : Jo) (k0 : Ub → Tr ρ R) : Tr ρ R := .loop (loopAt pp 215 5) (Z9 a) (l a) Yp k0
noncomputable def QdO (C0 : Ji) (a : Jo) : Tr (Jo ⊕ Ub) XS := (let u59 := (a.x6 != 0); .as u59 (yesN 5 u59 (.as (!a.h0.bad) (ZA C0 (w64 (a.x1 + 1)) a.h0 fun r1 => (.rows [[xi a.h2.Kind, xi a.h2.N, xs a.h2.Name, .sl (QK a.h2.L)], [xi r1.1.Kind, xi r1.1.N, xs r1.1.Name, .sl (QK r1.1.L)]] (QK [a.h2, r1.1]) (SO fun r2 => (.as (decide (0 ≤ a.x1)) (.row ((Sb r2)[(Int.toNat a.x1)]?) (r2[(Int.toNat a.x1)]?) Qft fun (e3 : (List Int)) => (Ss e3 r1.2 fun r4 => (lf Z9 (Jo.mk a.x1 r4.1 r4.2 a.h1 (Qa.mk a.x6 i0 s_ [a.h2, r1.1]))))) .fail)))) (rx Yp (Ub.mk a.h0 a.h1 a.h2)))) (noN 5 u59 (.no false (rx Yp (Ub.mk a.h0 a.h1 a.h2)))))
noncomputable def Q3.s (k : Nat) (C0 : Ji) : VU := iter (Wn C0 VK JU) k
theorem Qc8 (k : Nat) {C0 : Ji} (i_expr_parser_two : Qbg C0) {a : Jo} {r : Ub} (h : Q3.s k C0 a = some r) : lw 1 215 (loopAt pp 215 5) (Z9 a) = some (Yp r) := by
 refine lpP (itP h) (QdO C0) fun a => ?_
 exact ⟨rfl, fun q0 => Qj 5 (q0) (⟨rfl, fun q1 => fun r1 h => ⟨i_expr_parser_two _ _ _ h, ⟨(Xn [a.h2, r1.1]), fun r2 h => ⟨VK.ok h, ⟨rfl, fun q2 => fun e3 h => ⟨Qi5 h, fun r4 h => ⟨JU.ok h, rfl⟩⟩, fun q2 => trivial⟩⟩⟩⟩, fun q1 => rfl⟩), fun q0 => noN_ok 5 (q0) (⟨rfl, rfl⟩)⟩
theorem Q3.m {j k : Nat} (hj : j ≤ k) (C0 : Ji) (D0 : Ji) (H0 : Le2 C0 D0) (a : Jo) : Le (Q3.s j C0 a) (Q3.s k D0 a) := Le.iter (fun a => (FP (tw2 H0) ks0 ks2 a).1 0) hj a
noncomputable def Q3.w (C0 : Ji) : VU := loopW (Wn C0 VK JU)
theorem Q3.cv (C0 : Nat → Ji) (D0 : Ji) (H0 : Cv2 C0 D0) (a : Jo) : Cv (fun k => Q3.s k (C0 k) a) (Q3.w D0 a) := Cv.iter (fun a => FP H0 ks0 ks2 a) a
def WX (C0 : YP) (C1 : VM) (C2 : Ji) (C3 : WW) (L4 : VU) (a1 : Int) (h0 : Qd) : Option (Qa × Qd) := ((C0).bind fun r1 => (bif (a1 == (((r1.length) : Nat) : Int)) then ((C1 h0).bind fun r2 => (some (r2.1, r2.2))) else ((C2 (w64 (a1 + 1)) h0).bind fun r3 => ((C0).bind fun r4 => (bif (decide (0 ≤ a1)) then ((r4[(Int.toNat a1)]?).bind fun e5 => ((C3 e5 r3.2).bind fun r6 => ((L4 (Jo.mk a1 r6.1 r6.2 (Qa.mk (0 : Int) (0 : Int) s_ ([] : List Qa)) r3.1)).bind (fun (o7 : Ub) => (some (o7.h2, o7.h0)))))) else none)))))
theorem S9 {C0 : Nat → YP} {D0 : YP} (H0 : Cv C0 D0) {C1 : Nat → VM} {D1 : VM} (H1 : Cv1 C1 D1) {C2 : Nat → Ji} {D2 : Ji} (H2 : Cv2 C2 D2) {C3 : Nat → WW} {D3 : WW} (H3 : Cv2 C3 D3) {L4 : Nat → VU} {M4 : VU} (N4 : Cv1 L4 M4) (a1 : Int) (h0 : Qd) : Cv (fun k => WX (C0 k) (C1 k) (C2 k) (C3 k) (L4 k) a1 h0) (WX D0 D1 D2 D3 M4 a1 h0) := by
 unfold WX
 exact .bind (H0) fun r1 => .cond (.bind (H1 _) fun r2 => by exact .const _) (.bind (H2 _ _) fun r3 => .bind (H0) fun r4 => .cond (.bind (.const _) fun e5 => .bind (H3 _ _) fun r6 => .bind (N4 _) (fun o7 => by exact .const _)) cst)
noncomputable def Qg3 (C0 : VM) (C1 : Ji) (L2 : VU) (a1 : Int) (h0 : Qd) : Tr (Qa × Qd) AH := (SO fun r1 => (.num ((Sb r1).length) (r1.length) (.as (a1 == (((r1.length) : Nat) : Int)) (S7 C0 h0 fun r2 => (rt Qr (r2.1, r2.2))) (ZA C1 (w64 (a1 + 1)) h0 fun r3 => (SO fun r4 => (.as (decide (0 ≤ a1)) (.row ((Sb r4)[(Int.toNat a1)]?) (r4[(Int.toNat a1)]?) Qft fun (e5 : (List Int)) => (Ss e5 r3.2 fun r6 => (QdN L2 (Jo.mk a1 r6.1 r6.2 (Qa.mk i0 i0 s_ ([] : List Qa)) r3.1) (fun o7 => (rt Qr (o7.h2, o7.h0)))))) .fail))))))
mutual
noncomputable def JL.s : Nat → Qd → Option (Qa × Qd)
 | 0, _ => none
 | k + 1, h0 => W6 (fun a1 h0 => Qp.s k a1 h0) JA QS h0
termination_by structural k => k
noncomputable def Q4.s : Nat → Qd → Option (Qa × Qd)
 | 0, _ => none
 | k + 1, h0 => Wm QS (fun h0 => JL.s k h0) h0
termination_by structural k => k
noncomputable def JM.s : Nat → Qd → Option (Qa × Qd)
 | 0, _ => none
 | k + 1, h0 => W7 (fun h0 => QF.s k h0) h0
termination_by structural k => k
noncomputable def QR.s : Nat → Qd → Option (Qa × Qd)
 | 0, _ => none
 | k + 1, h0 => VN QS (fun h0 => JM.s k h0) h0
termination_by structural k => k
noncomputable def QF.s : Nat → Qd → Option (Qa × Qd)
 | 0, _ => none
 | k + 1, h0 => VV JA (fun h0 => Q4.s k h0) (fun h0 => QR.s k h0) UW ZO JV J4 W1 We Yb QS h0
termination_by structural k => k
noncomputable def Qp.s : Nat → Int → Qd → Option (Qa × Qd)
 | 0, _, _ => none
 | k + 1, a1, h0 => WX VK (fun h0 => QF.s k h0) (fun a1 h0 => Qp.s k a1 h0) JU (Q3.s k (fun a1 h0 => Qp.s k a1 h0)) a1 h0
termination_by structural k => k
end
theorem E8 : ∀ (k : Nat), (QfT (JL.s k)) ∧ (QeU (Q4.s k)) ∧ (QfU (JM.s k)) ∧ (Qc7 (QR.s k)) ∧ (Qii (QF.s k)) ∧ (Qbg (Qp.s k))
 | 0 => ⟨fun _ _ h => (nomatch h), fun _ _ h => (nomatch h), fun _ _ h => (nomatch h), fun _ _ h => (nomatch h), fun _ _ h => (nomatch h), fun _ _ _ h => (nomatch h)⟩
 | k + 1 => by
  obtain ⟨i_expr_parser_group, i_expr_parser_within, i_expr_parser_minus, i_expr_parser_within_2, i_expr_parser_one, i_expr_parser_two⟩ := E8 k
  exact ⟨fun h0 r h => by
    refine fnP (QeX (Qp.s k) h0) ?_ h
    exact fun r1 h => ⟨i_expr_parser_two _ _ _ h, fun r2 h => ⟨JA.ok h, ⟨rfl, fun q0 => fun r3 h => ⟨QS.ok h, rfl⟩, fun q0 => rfl⟩⟩⟩,
   fun h0 r h => by
    refine fnP (QdM (JL.s k) h0) ?_ h
    exact ⟨rfl, fun q0 => fun r1 h => ⟨QS.ok h, rfl⟩, fun q0 => fun r2 h => ⟨i_expr_parser_group _ _ h, rfl⟩⟩,
   fun h0 r h => by
    refine fnP (QeY (QF.s k) h0) ?_ h
    exact fun r1 h => ⟨i_expr_parser_one _ _ h, ⟨(Xn [r1.1]), rfl⟩⟩,
   fun h0 r h => by
    refine fnP (Qco (JM.s k) h0) ?_ h
    exact ⟨rfl, fun q0 => fun r1 h => ⟨QS.ok h, rfl⟩, fun q0 => fun r2 h => ⟨i_expr_parser_minus _ _ h, rfl⟩⟩,
   fun h0 r h => by
    refine fnP (Qg2 (Q4.s k) (QR.s k) h0) ?_ h
    exact fun r1 h => ⟨JA.ok h, ⟨rfl, fun q0 => fun r2 h => ⟨i_expr_parser_within _ _ h, rfl⟩, fun q0 => fun r3 h => ⟨JA.ok h, ⟨rfl, fun q1 => fun r4 h => ⟨i_expr_parser_within_2 _ _ h, rfl⟩, fun q1 => fun r5 h => ⟨JA.ok h, ⟨rfl, fun q2 => rfl, fun q2 => ⟨rfl, fun q3 => rfl, fun q3 => fun r6 h => ⟨UW.ok h, ⟨rfl, fun q4 => Qj 4 (q4) (⟨rfl, fun q5 => ⟨q4, fun r7 h => ⟨ZO.ok h, Qj 2 (q4) (⟨rfl, fun q6 => ⟨q5, fun r8 h => ⟨ZO.ok h, fun r9 h => ⟨JV.ok h, fun r10 h => ⟨J4.ok h, rfl⟩⟩⟩⟩, fun q6 => fun r11 h => ⟨W1.ok h, ⟨rfl, fun q7 => fun r12 h => ⟨JV.ok h, fun r13 h => ⟨J4.ok h, rfl⟩⟩, fun q7 => fun r14 h => ⟨We.ok h, fun r15 h => ⟨Yb.ok h, ⟨rfl, fun q8 => ⟨rfl, fun q9 => rfl, fun q9 => trivial⟩, fun q8 => fun r16 h => ⟨QS.ok h, rfl⟩⟩⟩⟩⟩⟩⟩)⟩⟩, fun q5 => trivial⟩), fun q4 => noN_ok 7 (q4) (⟨rfl, fun r17 h => ⟨W1.ok h, ⟨rfl, fun q5 => fun r18 h => ⟨JV.ok h, fun r19 h => ⟨J4.ok h, rfl⟩⟩, fun q5 => fun r20 h => ⟨We.ok h, fun r21 h => ⟨Yb.ok h, ⟨rfl, fun q6 => ⟨rfl, fun q7 => rfl, fun q7 => trivial⟩, fun q6 => fun r22 h => ⟨QS.ok h, rfl⟩⟩⟩⟩⟩⟩⟩)⟩⟩⟩⟩⟩⟩⟩⟩⟩,
   fun a1 h0 r h => by
    refine fnP (Qg3 (QF.s k) (Qp.s k) (Q3.s k (Qp.s k)) a1 h0) ?_ h
    exact fun r1 h => ⟨VK.ok h, ⟨(Qpv _), ⟨rfl, fun q0 => fun r2 h => ⟨i_expr_parser_one _ _ h, rfl⟩, fun q0 => fun r3 h => ⟨i_expr_parser_two _ _ _ h, fun r4 h => ⟨VK.ok h, ⟨rfl, fun q1 => fun e5 h => ⟨Qi5 h, fun r6 h => ⟨JU.ok h, fun o7 h => ⟨Qc8 k i_expr_parser_two h, rfl⟩⟩⟩, fun q1 => trivial⟩⟩⟩⟩⟩⟩⟩
theorem VO : ∀ (k : Nat), (∀ (h0 : Qd), Le (JL.s k h0) (JL.s (k + 1) h0)) ∧ (∀ (h0 : Qd), Le (Q4.s k h0) (Q4.s (k + 1) h0)) ∧ (∀ (h0 : Qd), Le (JM.s k h0) (JM.s (k + 1) h0)) ∧ (∀ (h0 : Qd), Le (QR.s k h0) (QR.s (k + 1) h0)) ∧ (∀ (h0 : Qd), Le (QF.s k h0) (QF.s (k + 1) h0)) ∧ (∀ (a1 : Int) (h0 : Qd), Le (Qp.s k a1 h0) (Qp.s (k + 1) a1 h0))
 | 0 => ⟨fun _ _ h => (nomatch h), fun _ _ h => (nomatch h), fun _ _ h => (nomatch h), fun _ _ h => (nomatch h), fun _ _ h => (nomatch h), fun _ _ _ h => (nomatch h)⟩
 | k + 1 => by
  obtain ⟨i_expr_parser_group, i_expr_parser_within, i_expr_parser_minus, i_expr_parser_within_2, i_expr_parser_one, i_expr_parser_two⟩ := VO k
  exact ⟨fun h0 => (Pi (tw2 i_expr_parser_two) ks2 ks1 h0).1 0,
   fun h0 => (FO ks1 (tw1 i_expr_parser_group) h0).1 0,
   fun h0 => (Pj (tw1 i_expr_parser_one) h0).1 0,
   fun h0 => (Ey ks1 (tw1 i_expr_parser_minus) h0).1 0,
   fun h0 => (S8 ks2 (tw1 i_expr_parser_within) (tw1 i_expr_parser_within_2) ks1 ks1 ks3 ks2 ks1 ks1 ks1 ks1 h0).1 0,
   fun a1 h0 => (S9 ks0 (tw1 i_expr_parser_one) (tw2 i_expr_parser_two) ks2 (tw1 (Q3.m (Nat.le_succ k) (Qp.s k) (Qp.s (k + 1)) i_expr_parser_two)) a1 h0).1 0⟩
noncomputable def JL (h0 : Qd) : Option (Qa × Qd) := lim fun k => JL.s k h0
theorem JL.cv (h0 : Qd) : Cv (fun k => JL.s k h0) (JL h0) := .lim fun k => (VO k).1 h0
noncomputable def Q4 (h0 : Qd) : Option (Qa × Qd) := lim fun k => Q4.s k h0
theorem Q4.cv (h0 : Qd) : Cv (fun k => Q4.s k h0) (Q4 h0) := .lim fun k => (VO k).2.1 h0
noncomputable def JM (h0 : Qd) : Option (Qa × Qd) := lim fun k => JM.s k h0
theorem JM.cv (h0 : Qd) : Cv (fun k => JM.s k h0) (JM h0) := .lim fun k => (VO k).2.2.1 h0
noncomputable def QR (h0 : Qd) : Option (Qa × Qd) := lim fun k => QR.s k h0
theorem QR.cv (h0 : Qd) : Cv (fun k => QR.s k h0) (QR h0) := .lim fun k => (VO k).2.2.2.1 h0
noncomputable def QF (h0 : Qd) : Option (Qa × Qd) := lim fun k => QF.s k h0
theorem QF.cv (h0 : Qd) : Cv (fun k => QF.s k h0) (QF h0) := .lim fun k => (VO k).2.2.2.2.1 h0
noncomputable def Qp (a1 : Int) (h0 : Qd) : Option (Qa × Qd) := lim fun k => Qp.s k a1 h0
theorem Qp.cv (a1 : Int) (h0 : Qd) : Cv (fun k => Qp.s k a1 h0) (Qp a1 h0) := .lim fun k => (VO k).2.2.2.2.2 a1 h0
theorem Qp.ok {a1 : Int} {h0 : Qd} {r : (Qa × Qd)} (h : Qp a1 h0 = some r) : ww 215 [.ptr 0 0, xi a1] [(0, .box [] (QM h0))] = some (Qr r) := let ⟨k, e⟩ := ((Qp.cv a1 h0).2 r).1 h; (E8 k).2.2.2.2.2 a1 h0 _ e
noncomputable def Q3 : VU := Q3.w Qp
theorem Q3.eq (a : Jo) : Q3 a = (Wn Qp VK JU a).bind (Sum.elim Q3 some) := Jf _ _
theorem JL.eq (h0 : Qd) : JL h0 = W6 Qp JA QS h0 := Cv.uniq (JL.cv h0).shift (Pi Qp.cv ks2 ks1 h0)
theorem Q4.eq (h0 : Qd) : Q4 h0 = Wm QS JL h0 := Cv.uniq (Q4.cv h0).shift (FO ks1 JL.cv h0)
theorem JM.eq (h0 : Qd) : JM h0 = W7 QF h0 := Cv.uniq (JM.cv h0).shift (Pj QF.cv h0)
theorem QR.eq (h0 : Qd) : QR h0 = VN QS JM h0 := Cv.uniq (QR.cv h0).shift (Ey ks1 JM.cv h0)
theorem QF.eq (h0 : Qd) : QF h0 = VV JA Q4 QR UW ZO JV J4 W1 We Yb QS h0 := Cv.uniq (QF.cv h0).shift (S8 ks2 Q4.cv QR.cv ks1 ks1 ks3 ks2 ks1 ks1 ks1 ks1 h0)
theorem Qp.eq (a1 : Int) (h0 : Qd) : Qp a1 h0 = WX VK QF Qp JU Q3 a1 h0 := Cv.uniq (Qp.cv a1 h0).shift (S9 ks0 QF.cv Qp.cv ks2 (Q3.cv (fun k => Qp.s k) Qp Qp.cv) a1 h0)
noncomputable abbrev Qg4 {ρ R : Type} (a1 : Int) (h0 : Qd) (k : (Qa × Qd) → Tr ρ R) : Tr ρ R := ZA Qp a1 h0 k
def Xa (r : (Qa × Bool)) : AV × Heap := (.tup [.agg (QY r.1), xo r.2], [])
abbrev QhG := ByteArray → Option (Qa × Bool)
def Qbh (C0 : Ji) (C1 : Gm) (a0 : ByteArray) : Option (Qa × Bool) := ((C0 (0 : Int) (Qd.mk a0 (0 : Int) false)).bind fun r1 => ((C1 r1.2).bind fun r2 => (bif r2.bad then (some ((Qa.mk (0 : Int) (0 : Int) s_ ([] : List Qa)), false)) else (bif (!(eqS r2.left s_)) then (some ((Qa.mk (0 : Int) (0 : Int) s_ ([] : List Qa)), false)) else (some (r1.1, true))))))
noncomputable def Wo : QhG := Qbh Qp J9
theorem Wo.eq (a0 : ByteArray) : Wo a0 = Qbh Qp J9 a0 := rfl
noncomputable def QmK (a0 : ByteArray) : Tr (Qa × Bool) AH := (Qg4 i0 (Qd.mk a0 i0 false) fun r1 => (FK r1.2 fun r2 => (.as r2.bad (yesN 5 r2.bad (.yes true (rt Xa ((Qa.mk i0 i0 s_ ([] : List Qa)), false)))) (noN 5 r2.bad (.as (!(eqS r2.left s_)) (rt Xa ((Qa.mk i0 i0 s_ ([] : List Qa)), false)) (rt Xa (r1.1, true)))))))
theorem Wo.ok {a0 : ByteArray} {r : (Qa × Bool)} (h : Wo a0 = some r) : ww 179 [xs a0] [] = some (Xa r) := by
 refine fnP (QmK a0) ?_ h
 exact fun r1 h => ⟨Qp.ok h, fun r2 h => ⟨J9.ok h, ⟨rfl, fun q0 => Qj 5 (q0) (⟨rfl, rfl⟩), fun q0 => noN_ok 5 (q0) (⟨rfl, fun q1 => rfl, fun q1 => rfl⟩)⟩⟩⟩
noncomputable abbrev QmL {ρ R : Type} (a0 : ByteArray) (k : (Qa × Bool) → Tr ρ R) : Tr ρ R := .call (ww 179 [xs a0] []) (Wo a0) Xa k
def Qu (r : (Bool × Qh)) : AV × Heap := (xo r.1, [(0, .box [0, 0, 0, 0, 0, 5] [xi r.2.x.Line, xs r.2.x.Label, xi r.2.x.Kind, xi r.2.x.Op, xs r.2.x.Text, .arr 2]), (2, .arr true 5 (Qi r.2.x.Args))])
abbrev Su := ByteArray → Qh → Option (Bool × Qh)
def Gq (C0 : QhG) (a1 : ByteArray) (h0 : Qh) : Option (Bool × Qh) := ((C0 a1).bind fun r1 => (bif (decide ((h0.x.Args.length + [(Qc.mk (-1 : Int) r1.1)].length) * 64 ≤ most)) then (some (r1.2, (Qh.mk (Qb.mk h0.x.Line h0.x.Label h0.x.Kind h0.x.Op h0.x.Text (h0.x.Args ++ [(Qc.mk (-1 : Int) r1.1)]))))) else none))
noncomputable def Vw : Su := Gq Wo
theorem Vw.eq (a1 : ByteArray) (h0 : Qh) : Vw a1 h0 = Gq Wo a1 h0 := rfl
noncomputable def QeZ (a1 : ByteArray) (h0 : Qh) : Tr (Bool × Qh) AH := (QmL a1 fun r1 => (.rows [[xi (-1 : Int), xi r1.1.Kind, xi r1.1.N, xs r1.1.Name, .sl (QK r1.1.L)]] (Qi [(Qc.mk (-1 : Int) r1.1)]) (.yes (decide ((Qi [(Qc.mk (-1 : Int) r1.1)]).all (fun r => r.length == 5) = true)) (.ask (decide (((Qi h0.x.Args).length + (Qi [(Qc.mk (-1 : Int) r1.1)]).length) * 64 ≤ most)) (decide ((h0.x.Args.length + [(Qc.mk (-1 : Int) r1.1)].length) * 64 ≤ most)) (.rows ((Qi h0.x.Args) ++ (Qi [(Qc.mk (-1 : Int) r1.1)])) (Qi (h0.x.Args ++ [(Qc.mk (-1 : Int) r1.1)])) (rt Qu (r1.2, (Qh.mk (Qb.mk h0.x.Line h0.x.Label h0.x.Kind h0.x.Op h0.x.Text (h0.x.Args ++ [(Qc.mk (-1 : Int) r1.1)])))))) .fail))))
theorem Vw.ok {a1 : ByteArray} {h0 : Qh} {r : (Bool × Qh)} (h : Vw a1 h0 = some r) : ww 129 [.ptr 0 0, xs a1] [(0, .box [0, 0, 0, 0, 0, 5] [xi h0.x.Line, xs h0.x.Label, xi h0.x.Kind, xi h0.x.Op, xs h0.x.Text, .arr 1]), (1, .arr true 5 (Qi h0.x.Args))] = some (Qu r) := by
 refine fnP (QeZ a1 h0) ?_ h
 exact fun r1 h => ⟨Wo.ok h, ⟨(JC [(Qc.mk (-1 : Int) r1.1)]), ⟨(decide_eq_true (VX _)), ⟨(by rw [Jc, Jc]), fun q0 => ⟨(UY _ _), rfl⟩, fun q0 => trivial⟩⟩⟩⟩
noncomputable abbrev Qe0 {ρ R : Type} (a1 : ByteArray) (h0 : Qh) (k : (Bool × Qh) → Tr ρ R) : Tr ρ R := .call (ww 129 [.ptr 0 0, xs a1] [(0, .box [0, 0, 0, 0, 0, 5] [xi h0.x.Line, xs h0.x.Label, xi h0.x.Kind, xi h0.x.Op, xs h0.x.Text, .arr 1]), (1, .arr true 5 (Qi h0.x.Args))]) (Vw a1 h0) Qu k
abbrev Qaa := ByteArray → Qh → Option (Bool × Qh)
def GN (C0 : QdF) (a1 : ByteArray) (h0 : Qh) : Option (Bool × Qh) := ((C0 a1).bind fun r1 => (some (r1, (Qh.mk (Qb.mk h0.x.Line h0.x.Label h0.x.Kind h0.x.Op a1 h0.x.Args)))))
noncomputable def VP : Qaa := GN Xp
theorem VP.eq (a1 : ByteArray) (h0 : Qh) : VP a1 h0 = GN Xp a1 h0 := rfl
noncomputable def QfV (a1 : ByteArray) (h0 : Qh) : Tr (Bool × Qh) AH := (Qhv a1 fun r1 => (rt Qu (r1, (Qh.mk (Qb.mk h0.x.Line h0.x.Label h0.x.Kind h0.x.Op a1 h0.x.Args)))))
theorem VP.ok {a1 : ByteArray} {h0 : Qh} {r : (Bool × Qh)} (h : VP a1 h0 = some r) : ww 131 [.ptr 0 0, xs a1] [(0, .box [0, 0, 0, 0, 0, 5] [xi h0.x.Line, xs h0.x.Label, xi h0.x.Kind, xi h0.x.Op, xs h0.x.Text, .arr 1]), (1, .arr true 5 (Qi h0.x.Args))] = some (Qu r) := by
 refine fnP (QfV a1 h0) ?_ h
 exact fun r1 h => ⟨Xp.ok h, rfl⟩
noncomputable abbrev QfW {ρ R : Type} (a1 : ByteArray) (h0 : Qh) (k : (Bool × Qh) → Tr ρ R) : Tr ρ R := .call (ww 131 [.ptr 0 0, xs a1] [(0, .box [0, 0, 0, 0, 0, 5] [xi h0.x.Line, xs h0.x.Label, xi h0.x.Kind, xi h0.x.Op, xs h0.x.Text, .arr 1]), (1, .arr true 5 (Qi h0.x.Args))]) (VP a1 h0) Qu k
def Qc9 (r : Int) : AV × Heap := (.tup [xi r, .sc .nilIface], [])
abbrev Qlz := ByteArray → Option Int
noncomputable def Xy (a0 : ByteArray) : Option Int := atoiS a0
noncomputable abbrev Qda {ρ R : Type} (a0 : ByteArray) (k : Int → Tr ρ R) : Tr ρ R := .call (ww 241 [xs a0] []) (Xy a0) Qc9 k
theorem Xy.ok {a0 : ByteArray} {r : Int} (h : Xy a0 = some r) : ww 241 [xs a0] [] = some (Qc9 r) := (E4 rfl _ _).trans (QsH h)
abbrev Qdb := ByteArray → Option (Int × Bool)
def FQ (C0 : SL) (C1 : Qlz) (a0 : ByteArray) : Option (Int × Bool) := (bif (decide (((a0.size : Nat) : Int) < 2)) then (some ((0 : Int), false)) else (bif (decide (((a0.size : Nat) : Int) > 3)) then (some ((0 : Int), false)) else (bif (decide (0 ≤ (0 : Int) ∧ (0 : Int) < ((a0.size : Nat) : Int))) then (bif (((a0.data.getD (Int.toNat 0) 0).toNat : Int) != 114) then (some ((0 : Int), false)) else (bif (decide (0 ≤ (1 : Int) ∧ (1 : Int) ≤ ((a0.size : Nat) : Int) ∧ ((a0.size : Nat) : Int) ≤ ((a0.size : Nat) : Int))) then ((C0 (a0.extract (Int.toNat 1) (Int.toNat ((a0.size : Nat) : Int)))).bind fun r1 => (bif (r1 != (w64 (((a0.size : Nat) : Int) - 1))) then (some ((0 : Int), false)) else (bif (((a0.size : Nat) : Int) == 3) then (bif (decide (0 ≤ (1 : Int) ∧ (1 : Int) < ((a0.size : Nat) : Int))) then (bif (((a0.data.getD (Int.toNat 1) 0).toNat : Int) == 48) then (some ((0 : Int), false)) else ((C1 (a0.extract (Int.toNat 1) (Int.toNat ((a0.size : Nat) : Int)))).bind fun r2 => (some (r2, (decide (r2 < 32)))))) else none) else ((C1 (a0.extract (Int.toNat 1) (Int.toNat ((a0.size : Nat) : Int)))).bind fun r3 => (some (r3, (decide (r3 < 32)))))))) else none)) else none)))
noncomputable def WP : Qdb := FQ VY Xy
theorem WP.eq (a0 : ByteArray) : WP a0 = FQ VY Xy a0 := rfl
noncomputable def Qji (a0 : ByteArray) : Tr (Int × Bool) AH := (let u65 := (decide ((zz a0) < 2)); .as u65 (yesN 3 u65 (yesN 19 true (rt Wl (i0, false)))) (noN 3 u65 (let u64 := (decide ((zz a0) > 3)); .as u64 (yesN 3 u64 (yesN 15 true (rt Wl (i0, false)))) (.no u64 (.as (in1 i0 (zz a0)) (noN 2 u64 (let u63 := ((gb a0 i0) != 114); .as u63 (yesN 7 u63 (yesN 7 true (rt Wl (i0, false)))) (.no u63 (let u62 := (in2 (zi 1) (zz a0) (zz a0)); .as u62 (.no u63 (QcZ (cu a0 (zi 1) (zz a0)) fun r1 => (noN 5 u63 (let u61 := (r1 != (w64 ((zz a0) - 1))); .as u61 (yesN 5 u61 (.yes true (rt Wl (i0, false)))) (noN 3 u61 (let u60 := ((zz a0) == 3); .as u60 (.yes u60 (.as (in1 (zi 1) (zz a0)) (.yes u60 (.no u61 (.yes u60 (.no u61 (.as ((gb a0 (zi 1)) == 48) (rt Wl (i0, false)) (.yes u62 (Qda (cu a0 (zi 1) (zz a0)) fun r2 => (rt Wl (r2, (decide (r2 < 32))))))))))) .fail)) (noN 2 u60 (.no u61 (.no u60 (.no u61 (.no false (.yes u62 (Qda (cu a0 (zi 1) (zz a0)) fun r3 => (rt Wl (r3, (decide (r3 < 32))))))))))))))))) .fail)))) .fail)))))
theorem WP.ok {a0 : ByteArray} {r : (Int × Bool)} (h : WP a0 = some r) : ww 214 [xs a0] [] = some (Wl r) := by
 refine fnP (Qji a0) ?_ h
 exact ⟨rfl, fun q0 => Qj 3 (q0) (Qj 19 (rfl) (rfl)), fun q0 => noN_ok 3 (q0) (⟨rfl, fun q1 => Qj 3 (q1) (Qj 15 (rfl) (rfl)), fun q1 => ⟨q1, ⟨rfl, fun q2 => noN_ok 2 (q1) (⟨rfl, fun q3 => Qj 7 (q3) (Qj 7 (rfl) (rfl)), fun q3 => ⟨q3, ⟨rfl, fun q4 => ⟨q3, fun r1 h => ⟨VY.ok h, noN_ok 5 (q3) (⟨rfl, fun q5 => Qj 5 (q5) (⟨rfl, rfl⟩), fun q5 => noN_ok 3 (q5) (⟨rfl, fun q6 => ⟨q6, ⟨rfl, fun q7 => ⟨q6, ⟨q5, ⟨q6, ⟨q5, ⟨rfl, fun q8 => rfl, fun q8 => ⟨q4, fun r2 h => ⟨Xy.ok h, rfl⟩⟩⟩⟩⟩⟩⟩, fun q7 => trivial⟩⟩, fun q6 => noN_ok 2 (q6) (⟨q5, ⟨q6, ⟨q5, ⟨rfl, ⟨q4, fun r3 h => ⟨Xy.ok h, rfl⟩⟩⟩⟩⟩⟩)⟩)⟩)⟩⟩, fun q4 => trivial⟩⟩⟩), fun q2 => trivial⟩⟩⟩)⟩
noncomputable abbrev Qjj {ρ R : Type} (a0 : ByteArray) (k : (Int × Bool) → Tr ρ R) : Tr ρ R := .call (ww 214 [xs a0] []) (WP a0) Wl k
abbrev E9 := ByteArray → Qh → Option (Bool × Qh)
def Zt (C0 : Qdb) (a1 : ByteArray) (h0 : Qh) : Option (Bool × Qh) := ((C0 a1).bind fun r1 => (bif (decide ((h0.x.Args.length + [(Qc.mk r1.1 (Qa.mk (0 : Int) (0 : Int) s_ ([] : List Qa)))].length) * 64 ≤ most)) then (some (r1.2, (Qh.mk (Qb.mk h0.x.Line h0.x.Label h0.x.Kind h0.x.Op h0.x.Text (h0.x.Args ++ [(Qc.mk r1.1 (Qa.mk (0 : Int) (0 : Int) s_ ([] : List Qa)))]))))) else none))
noncomputable def UK : E9 := Zt WP
theorem UK.eq (a1 : ByteArray) (h0 : Qh) : UK a1 h0 = Zt WP a1 h0 := rfl
noncomputable def Qcp (a1 : ByteArray) (h0 : Qh) : Tr (Bool × Qh) AH := (Qjj a1 fun r1 => (.rows [[xi r1.1, xi i0, xi i0, xs s_, .sl (QK ([] : List Qa))]] (Qi [(Qc.mk r1.1 (Qa.mk i0 i0 s_ ([] : List Qa)))]) (.yes (decide ((Qi [(Qc.mk r1.1 (Qa.mk i0 i0 s_ ([] : List Qa)))]).all (fun r => r.length == 5) = true)) (.ask (decide (((Qi h0.x.Args).length + (Qi [(Qc.mk r1.1 (Qa.mk i0 i0 s_ ([] : List Qa)))]).length) * 64 ≤ most)) (decide ((h0.x.Args.length + [(Qc.mk r1.1 (Qa.mk i0 i0 s_ ([] : List Qa)))].length) * 64 ≤ most)) (.rows ((Qi h0.x.Args) ++ (Qi [(Qc.mk r1.1 (Qa.mk i0 i0 s_ ([] : List Qa)))])) (Qi (h0.x.Args ++ [(Qc.mk r1.1 (Qa.mk i0 i0 s_ ([] : List Qa)))])) (rt Qu (r1.2, (Qh.mk (Qb.mk h0.x.Line h0.x.Label h0.x.Kind h0.x.Op h0.x.Text (h0.x.Args ++ [(Qc.mk r1.1 (Qa.mk i0 i0 s_ ([] : List Qa)))])))))) .fail))))
theorem UK.ok {a1 : ByteArray} {h0 : Qh} {r : (Bool × Qh)} (h : UK a1 h0 = some r) : ww 178 [.ptr 0 0, xs a1] [(0, .box [0, 0, 0, 0, 0, 5] [xi h0.x.Line, xs h0.x.Label, xi h0.x.Kind, xi h0.x.Op, xs h0.x.Text, .arr 1]), (1, .arr true 5 (Qi h0.x.Args))] = some (Qu r) := by
 refine fnP (Qcp a1 h0) ?_ h
 exact fun r1 h => ⟨WP.ok h, ⟨(JC [(Qc.mk r1.1 (Qa.mk (0 : Int) (0 : Int) s_ ([] : List Qa)))]), ⟨(decide_eq_true (VX _)), ⟨(by rw [Jc, Jc]), fun q0 => ⟨(UY _ _), rfl⟩, fun q0 => trivial⟩⟩⟩⟩
noncomputable abbrev Qcq {ρ R : Type} (a1 : ByteArray) (h0 : Qh) (k : (Bool × Qh) → Tr ρ R) : Tr ρ R := .call (ww 178 [.ptr 0 0, xs a1] [(0, .box [0, 0, 0, 0, 0, 5] [xi h0.x.Line, xs h0.x.Label, xi h0.x.Kind, xi h0.x.Op, xs h0.x.Text, .arr 1]), (1, .arr true 5 (Qi h0.x.Args))]) (UK a1 h0) Qu k
def QdP (r : (Bool × Qh)) : AV × Heap := (xo r.1, [(1, .box [0, 0, 0, 0, 0, 5] [xi r.2.x.Line, xs r.2.x.Label, xi r.2.x.Kind, xi r.2.x.Op, xs r.2.x.Text, .arr 3]), (3, .arr true 5 (Qi r.2.x.Args))])
abbrev QfX := (List ByteArray) → Qh → (List Nat) → Option (Bool × Qh)
structure Uv where
 x0 : (List ByteArray)
 x5 : Bool
 x6 : Int
 h1 : Qh
 r4 : (List Nat)
structure V0 where
 x5 : Bool
 h1 : Qh
def Gf (a : Uv) : St := { n := 31, nx := 5, env := [(0, .sl (Qg a.x0)), (1, .arr 4), (5, xo a.x5), (6, xi a.x6)], heap := [(1, .box [0, 0, 0, 0, 0, 5] [xi a.h1.x.Line, xs a.h1.x.Label, xi a.h1.x.Kind, xi a.h1.x.Op, xs a.h1.x.Text, .arr 3]), (3, .arr true 5 (Qi a.h1.x.Args)), (4, .fs (some 1) (J7 a.r4))] }
def EM (a : V0) : Ex × St := (.exit 0, { n := 31, nx := 4, env := [(5, xo a.x5)], heap := [(1, .box [0, 0, 0, 0, 0, 5] [xi a.h1.x.Line, xs a.h1.x.Label, xi a.h1.x.Kind, xi a.h1.x.Op, xs a.h1.x.Text, .arr 3]), (3, .arr true 5 (Qi a.h1.x.Args))] })
abbrev QfY := Uv → Option V0
def XJ (C0 : Su) (C1 : Qaa) (C2 : E9) (a : Uv) : Option (Uv ⊕ V0) := (bif (decide (a.x6 < (((a.r4.length) : Nat) : Int))) then (bif a.x5 then (bif (decide (0 ≤ a.x6 ∧ a.x6 < ((a.r4.length : Nat) : Int))) then ((a.r4[(Int.toNat a.x6)]?).bind fun e1 => (bif (decide (e1 = 129)) then (bif (decide (0 ≤ a.x6)) then ((a.x0[(Int.toNat a.x6)]?).bind fun e2 => ((C0 e2 a.h1).bind fun r3 => (some (.inl (Uv.mk a.x0 r3.1 (w64 (a.x6 + 1)) r3.2 a.r4))))) else none) else (bif (decide (e1 = 131)) then (bif (decide (0 ≤ a.x6)) then ((a.x0[(Int.toNat a.x6)]?).bind fun e4 => ((C1 e4 a.h1).bind fun r5 => (some (.inl (Uv.mk a.x0 r5.1 (w64 (a.x6 + 1)) r5.2 a.r4))))) else none) else (bif (decide (e1 = 178)) then (bif (decide (0 ≤ a.x6)) then ((a.x0[(Int.toNat a.x6)]?).bind fun e6 => ((C2 e6 a.h1).bind fun r7 => (some (.inl (Uv.mk a.x0 r7.1 (w64 (a.x6 + 1)) r7.2 a.r4))))) else none) else none)))) else none) else (some (.inr (V0.mk a.x5 a.h1)))) else (some (.inr (V0.mk a.x5 a.h1))))
noncomputable def JZ : QfY := loopW (XJ Vw VP UK)
theorem JZ.eq (a : Uv) : JZ a = (XJ Vw VP UK a).bind (Sum.elim JZ some) := Jf _ _
noncomputable abbrev QlA {ρ R : Type} (a : Uv) (k0 : V0 → Tr ρ R) : Tr ρ R := .loop (loopAt pp 127 3) (Gf a) (JZ a) EM k0
noncomputable def QlB (a : Uv) : Tr (Uv ⊕ V0) XS := (.num ((J7 a.r4).length) (a.r4.length) (let u66 := (decide (a.x6 < (((a.r4.length) : Nat) : Int))); .as u66 (.yes u66 (.as a.x5 (.ask (in1 a.x6 (((J7 a.r4).length : Nat) : Int)) (in1 a.x6 ((a.r4.length : Nat) : Int)) (.row ((J7 a.r4)[(Int.toNat a.x6)]?) (a.r4[(Int.toNat a.x6)]?) Qfs fun (e1 : Nat) => (.as (decide (e1 = 129)) (.as (decide (0 ≤ a.x6)) (.row ((Qg a.x0)[(Int.toNat a.x6)]?) (a.x0[(Int.toNat a.x6)]?) QW fun (e2 : ByteArray) => (Qe0 e2 a.h1 fun r3 => (lf Gf (Uv.mk a.x0 r3.1 (w64 (a.x6 + 1)) r3.2 a.r4)))) .fail) (.as (decide (e1 = 131)) (.as (decide (0 ≤ a.x6)) (.row ((Qg a.x0)[(Int.toNat a.x6)]?) (a.x0[(Int.toNat a.x6)]?) QW fun (e4 : ByteArray) => (QfW e4 a.h1 fun r5 => (lf Gf (Uv.mk a.x0 r5.1 (w64 (a.x6 + 1)) r5.2 a.r4)))) .fail) (.as (decide (e1 = 178)) (.as (decide (0 ≤ a.x6)) (.row ((Qg a.x0)[(Int.toNat a.x6)]?) (a.x0[(Int.toNat a.x6)]?) QW fun (e6 : ByteArray) => (Qcq e6 a.h1 fun r7 => (lf Gf (Uv.mk a.x0 r7.1 (w64 (a.x6 + 1)) r7.2 a.r4)))) .fail) .fail)))) .fail) (rx EM (V0.mk a.x5 a.h1)))) (.no u66 (.no false (rx EM (V0.mk a.x5 a.h1))))))
theorem JZ.ok {a : Uv} {r : V0} (h : JZ a = some r) : lw 3 127 (loopAt pp 127 3) (Gf a) = some (EM r) := by
 refine lpP h QlB fun a => ?_
 exact ⟨(Yk _), ⟨rfl, fun q0 => ⟨q0, ⟨rfl, fun q1 => ⟨(by rw [Yk]), fun q2 => fun e1 h => ⟨Qpu h, ⟨rfl, fun q3 => ⟨rfl, fun q4 => fun e2 h => ⟨QO h, fun r3 h => ⟨Vw.ok h, rfl⟩⟩, fun q4 => trivial⟩, fun q3 => ⟨rfl, fun q4 => ⟨rfl, fun q5 => fun e4 h => ⟨QO h, fun r5 h => ⟨VP.ok h, rfl⟩⟩, fun q5 => trivial⟩, fun q4 => ⟨rfl, fun q5 => ⟨rfl, fun q6 => fun e6 h => ⟨QO h, fun r7 h => ⟨UK.ok h, rfl⟩⟩, fun q6 => trivial⟩, fun q5 => trivial⟩⟩⟩⟩, fun q2 => trivial⟩, fun q1 => rfl⟩⟩, fun q0 => ⟨q0, ⟨rfl, rfl⟩⟩⟩⟩
def Qal (L0 : QfY) (a0 : (List ByteArray)) (h1 : Qh) (r0 : (List Nat)) : Option (Bool × Qh) := ((L0 (Uv.mk a0 ((((a0.length) : Nat) : Int) == (((r0.length) : Nat) : Int)) (0 : Int) h1 r0)).bind (fun (o1 : V0) => (some (o1.x5, o1.h1))))
noncomputable def U7 : QfX := Qal JZ
theorem U7.eq (a0 : (List ByteArray)) (h1 : Qh) (r0 : (List Nat)) : U7 a0 h1 r0 = Qal JZ a0 h1 r0 := rfl
noncomputable def QpD (a0 : (List ByteArray)) (h1 : Qh) (r0 : (List Nat)) : Tr (Bool × Qh) AH := (.num ((Qg a0).length) (a0.length) (.num ((J7 r0).length) (r0.length) (QlA (Uv.mk a0 ((((a0.length) : Nat) : Int) == (((r0.length) : Nat) : Int)) i0 h1 r0) (fun o1 => (rt QdP (o1.x5, o1.h1))))))
theorem U7.ok {a0 : (List ByteArray)} {h1 : Qh} {r0 : (List Nat)} {r : (Bool × Qh)} (h : U7 a0 h1 r0 = some r) : ww 127 [.sl (Qg a0), .arr 0] [(0, .fs (some 1) (J7 r0)), (1, .box [0, 0, 0, 0, 0, 5] [xi h1.x.Line, xs h1.x.Label, xi h1.x.Kind, xi h1.x.Op, xs h1.x.Text, .arr 2]), (2, .arr true 5 (Qi h1.x.Args))] = some (QdP r) := by
 refine fnP (QpD a0 h1 r0) ?_ h
 exact ⟨(Qo _), ⟨(Yk _), fun o1 h => ⟨JZ.ok h, rfl⟩⟩⟩
noncomputable abbrev Zh {ρ R : Type} (a0 : (List ByteArray)) (h1 : Qh) (r0 : (List Nat)) (k : (Bool × Qh) → Tr ρ R) : Tr ρ R := .call (ww 127 [.sl (Qg a0), .arr 0] [(0, .fs (some 1) (J7 r0)), (1, .box [0, 0, 0, 0, 0, 5] [xi h1.x.Line, xs h1.x.Label, xi h1.x.Kind, xi h1.x.Op, xs h1.x.Text, .arr 2]), (2, .arr true 5 (Qi h1.x.Args))]) (U7 a0 h1 r0) QdP k
abbrev GO := (List ByteArray) → Qh → Option (Bool × Qh)
structure QT where
 x1 : (List ByteArray)
 x14 : (List ByteArray)
 x15 : Int
 x16 : Int
 h0 : Qh
 r3 : (List Nat)
structure JK where
 x1 : (List ByteArray)
 h0 : Qh
 r3 : (List Nat)
def WT (a : QT) : St := { n := 38, nx := 4, env := [(0, .ptr 0 0), (1, .sl (Qg a.x1)), (5, .arr 3), (14, .sl (Qg a.x14)), (15, xi a.x15), (16, xi a.x16)], heap := [(0, .box [0, 0, 0, 0, 0, 5] [xi a.h0.x.Line, xs a.h0.x.Label, xi a.h0.x.Kind, xi a.h0.x.Op, xs a.h0.x.Text, .arr 2]), (2, .arr true 5 (Qi a.h0.x.Args)), (3, .fs (some 0) (J7 a.r3))] }
def XZ (a : JK) : Ex × St := (.exit 0, { n := 38, nx := 4, env := [(1, .sl (Qg a.x1)), (5, .arr 3)], heap := [(0, .box [0, 0, 0, 0, 0, 5] [xi a.h0.x.Line, xs a.h0.x.Label, xi a.h0.x.Kind, xi a.h0.x.Op, xs a.h0.x.Text, .arr 2]), (2, .arr true 5 (Qi a.h0.x.Args)), (3, .fs (some 0) (J7 a.r3))] })
abbrev Z2 := QT → Option JK
def WU (C0 : Qg1) (a : QT) : Option (QT ⊕ JK) := (bif (decide (a.x16 < a.x15)) then (bif (decide (0 ≤ a.x16)) then ((a.x14[(Int.toNat a.x16)]?).bind fun e1 => (bif (decide (((h_20.size + e1.size : Nat) : Int) ≤ IntKind.i64.max)) then (bif (decide ((((h_20 ++ e1).size + h_20.size : Nat) : Int) ≤ IntKind.i64.max)) then ((C0 UN ((h_20 ++ e1) ++ h_20)).bind fun r2 => (bif r2 then (bif (decide ((a.r3.length + [178].length) * 8 ≤ most)) then (some (.inl (QT.mk a.x1 a.x14 a.x15 (w64 (a.x16 + 1)) a.h0 (a.r3 ++ [178])))) else none) else (bif (decide ((a.r3.length + [129].length) * 8 ≤ most)) then (some (.inl (QT.mk a.x1 a.x14 a.x15 (w64 (a.x16 + 1)) a.h0 (a.r3 ++ [129])))) else none))) else none) else none)) else none) else (some (.inr (JK.mk a.x1 a.h0 a.r3))))
noncomputable def Q2 : Z2 := loopW (WU Xl)
theorem Q2.eq (a : QT) : Q2 a = (WU Xl a).bind (Sum.elim Q2 some) := Jf _ _
noncomputable abbrev Px {ρ R : Type} (a : QT) (k0 : JK → Tr ρ R) : Tr ρ R := .loop (loopAt pp 125 3) (WT a) (Q2 a) XZ k0
noncomputable def Py (a : QT) : Tr (QT ⊕ JK) XS := (.as (decide (a.x16 < a.x15)) (.as (decide (0 ≤ a.x16)) (.row ((Qg a.x14)[(Int.toNat a.x16)]?) (a.x14[(Int.toNat a.x16)]?) QW fun (e1 : ByteArray) => (.as (decide (((h_20.size + e1.size : Nat) : Int) ≤ IntKind.i64.max)) (.as (decide ((((h_20 ++ e1).size + h_20.size : Nat) : Int) ≤ IntKind.i64.max)) (QfL UN ((h_20 ++ e1) ++ h_20) fun r2 => (.as r2 (.rows [[.fn (.func 178) [] []]] (J7 [178]) (.yes (decide ((J7 [178]).all (fun r => r.length == 1) = true)) (.ask (decide (((J7 a.r3).length + (J7 [178]).length) * 8 ≤ most)) (decide ((a.r3.length + [178].length) * 8 ≤ most)) (.rows ((J7 a.r3) ++ (J7 [178])) (J7 (a.r3 ++ [178])) (lf WT (QT.mk a.x1 a.x14 a.x15 (w64 (a.x16 + 1)) a.h0 (a.r3 ++ [178])))) .fail))) (.rows [[.fn (.func 129) [] []]] (J7 [129]) (.yes (decide ((J7 [129]).all (fun r => r.length == 1) = true)) (.ask (decide (((J7 a.r3).length + (J7 [129]).length) * 8 ≤ most)) (decide ((a.r3.length + [129].length) * 8 ≤ most)) (.rows ((J7 a.r3) ++ (J7 [129])) (J7 (a.r3 ++ [129])) (lf WT (QT.mk a.x1 a.x14 a.x15 (w64 (a.x16 + 1)) a.h0 (a.r3 ++ [129])))) .fail))))) .fail) .fail)) .fail) (rx XZ (JK.mk a.x1 a.h0 a.r3)))
theorem Q2.ok {a : QT} {r : JK} (h : Q2 a = some r) : lw 2 125 (loopAt pp 125 3) (WT a) = some (XZ r) := by
 refine lpP h Py fun a => ?_
 exact ⟨rfl, fun q0 => ⟨rfl, fun q1 => fun e1 h => ⟨QO h, ⟨rfl, fun q2 => ⟨rfl, fun q3 => fun r2 h => ⟨Xl.ok h, ⟨rfl, fun q4 => ⟨(Zc [178]), ⟨(decide_eq_true (QdC _)), ⟨(by rw [Yk, Yk]), fun q5 => ⟨(SK _ _), rfl⟩, fun q5 => trivial⟩⟩⟩, fun q4 => ⟨(Zc [129]), ⟨(decide_eq_true (QdC _)), ⟨(by rw [Yk, Yk]), fun q5 => ⟨(SK _ _), rfl⟩, fun q5 => trivial⟩⟩⟩⟩⟩, fun q3 => trivial⟩, fun q2 => trivial⟩⟩, fun q1 => trivial⟩, fun q0 => rfl⟩
def Yq (C0 : Qjg) (C1 : Qjh) (C2 : QfX) (L3 : Z2) (a1 : (List ByteArray)) (h0 : Qh) : Option (Bool × Qh) := ((C0 h0.x.Op).bind fun r1 => ((C1 r1).bind fun r2 => ((L3 (QT.mk a1 r2 (((r2.length) : Nat) : Int) (0 : Int) h0 ([] : List Nat))).bind (fun (o3 : JK) => ((C2 o3.x1 o3.h0 o3.r3).bind fun r4 => (some (r4.1, r4.2)))))))
noncomputable def J5 : GO := Yq W0 XY U7 Q2
theorem J5.eq (a1 : (List ByteArray)) (h0 : Qh) : J5 a1 h0 = Yq W0 XY U7 Q2 a1 h0 := rfl
noncomputable def Qam (a1 : (List ByteArray)) (h0 : Qh) : Tr (Bool × Qh) AH := (Qn2 h0.x.Op fun r1 => (Qih r1 fun r2 => (.num ((Qg r2).length) (r2.length) (Px (QT.mk a1 r2 (((r2.length) : Nat) : Int) i0 h0 ([] : List Nat)) (fun o3 => (Zh o3.x1 o3.h0 o3.r3 fun r4 => (rt Qu (r4.1, r4.2))))))))
theorem J5.ok {a1 : (List ByteArray)} {h0 : Qh} {r : (Bool × Qh)} (h : J5 a1 h0 = some r) : ww 125 [.ptr 0 0, .sl (Qg a1)] [(0, .box [0, 0, 0, 0, 0, 5] [xi h0.x.Line, xs h0.x.Label, xi h0.x.Kind, xi h0.x.Op, xs h0.x.Text, .arr 1]), (1, .arr true 5 (Qi h0.x.Args))] = some (Qu r) := by
 refine fnP (Qam a1 h0) ?_ h
 exact fun r1 h => ⟨W0.ok h, fun r2 h => ⟨XY.ok h, ⟨(Qo _), fun o3 h => ⟨Q2.ok h, fun r4 h => ⟨U7.ok h, rfl⟩⟩⟩⟩⟩
noncomputable abbrev Qan {ρ R : Type} (a1 : (List ByteArray)) (h0 : Qh) (k : (Bool × Qh) → Tr ρ R) : Tr ρ R := .call (ww 125 [.ptr 0 0, .sl (Qg a1)] [(0, .box [0, 0, 0, 0, 0, 5] [xi h0.x.Line, xs h0.x.Label, xi h0.x.Kind, xi h0.x.Op, xs h0.x.Text, .arr 1]), (1, .arr true 5 (Qi h0.x.Args))]) (J5 a1 h0) Qu k
abbrev QhH := Option (List ByteArray)
def QfZ : Option (List ByteArray) := (some [s_b, s_bl, s_bc])
noncomputable def X7 : QhH := QfZ
theorem X7.eq : X7 = QfZ := rfl
noncomputable def QmM : Tr (List ByteArray) AH := (.rows [[xs s_b], [xs s_bl], [xs s_bc]] (Qg [s_b, s_bl, s_bc]) (rt Jd [s_b, s_bl, s_bc]))
theorem X7.ok {r : (List ByteArray)} (h : X7 = some r) : ww 111 [] [] = some (Jd r) := by
 refine fnP (QmM) ?_ h
 exact ⟨(QP [s_b, s_bl, s_bc]), rfl⟩
noncomputable abbrev QmN {ρ R : Type} (k : (List ByteArray) → Tr ρ R) : Tr ρ R := .call (ww 111 [] []) (X7) Jd k
abbrev Qes := (List ByteArray) → ByteArray → Option Int
structure Uq where
 x0 : (List ByteArray)
 x1 : ByteArray
 x7 : Int
 x8 : Int
def Eh (a : Uq) : St := { n := 19, nx := 0, env := [(0, .sl (Qg a.x0)), (1, xs a.x1), (7, xi a.x7), (8, xi a.x8)], heap := [] }
def Sv (a : Int) : Ex × St := (.ret, { n := 19, nx := 0, env := [(4, xi a)], heap := [] })
def Sw (a : Unit) : Ex × St := (.exit 0, { n := 19, nx := 0, env := [], heap := [] })
def Ei (a : (Int ⊕ Unit)) : Ex × St := Sum.elim Sv Sw a
abbrev Qbi := Uq → Option (Int ⊕ Unit)
def ZB (a : Uq) : Option (Uq ⊕ (Int ⊕ Unit)) := (bif (decide (a.x8 < a.x7)) then (bif (decide (0 ≤ a.x8)) then ((a.x0[(Int.toNat a.x8)]?).bind fun e1 => (bif (eqS a.x1 e1) then (some (.inr (.inl a.x8))) else (some (.inl (Uq.mk a.x0 a.x1 a.x7 (w64 (a.x8 + 1))))))) else none) else (some (.inr (.inr ()))))
noncomputable def Ja : Qbi := loopW (ZB )
theorem Ja.eq (a : Uq) : Ja a = (ZB a).bind (Sum.elim Ja some) := Jf _ _
noncomputable abbrev Qg5 {ρ R : Type} (a : Uq) (k0 : Int → Tr ρ R) (k1 : Unit → Tr ρ R) : Tr ρ R := .loop2 (loopAt pp 126 2) (Eh a) (Ja a) Sv Sw k0 k1
noncomputable def Qg6 (a : Uq) : Tr (Uq ⊕ (Int ⊕ Unit)) XS := (.as (decide (a.x8 < a.x7)) (.as (decide (0 ≤ a.x8)) (.row ((Qg a.x0)[(Int.toNat a.x8)]?) (a.x0[(Int.toNat a.x8)]?) QW fun (e1 : ByteArray) => (.as (eqS a.x1 e1) (rx Ei (.inl a.x8)) (lf Eh (Uq.mk a.x0 a.x1 a.x7 (w64 (a.x8 + 1)))))) .fail) (rx Ei (.inr ())))
theorem Ja.ok {a : Uq} {r : (Int ⊕ Unit)} (h : Ja a = some r) : lw 0 126 (loopAt pp 126 2) (Eh a) = some (Ei r) := by
 refine lpP h Qg6 fun a => ?_
 exact ⟨rfl, fun q0 => ⟨rfl, fun q1 => fun e1 h => ⟨QO h, ⟨rfl, fun q2 => rfl, fun q2 => rfl⟩⟩, fun q1 => trivial⟩, fun q0 => rfl⟩
def G6 (L0 : Qbi) (a0 : (List ByteArray)) (a1 : ByteArray) : Option Int := ((L0 (Uq.mk a0 a1 (((a0.length) : Nat) : Int) (0 : Int))).bind fun x => Sum.elim (fun (o1 : Int) => (some o1)) (fun (o2 : Unit) => (some (-1 : Int))) x)
noncomputable def UP : Qes := G6 Ja
theorem UP.eq (a0 : (List ByteArray)) (a1 : ByteArray) : UP a0 a1 = G6 Ja a0 a1 := rfl
noncomputable def Qkc (a0 : (List ByteArray)) (a1 : ByteArray) : Tr Int AH := (.num ((Qg a0).length) (a0.length) (Qg5 (Uq.mk a0 a1 (((a0.length) : Nat) : Int) i0) (fun o1 => (rt Qm o1)) (fun o2 => (rt Qm (-1 : Int)))))
theorem UP.ok {a0 : (List ByteArray)} {a1 : ByteArray} {r : Int} (h : UP a0 a1 = some r) : ww 126 [.sl (Qg a0), xs a1] [] = some (Qm r) := by
 refine fnP (Qkc a0 a1) ?_ h
 exact ⟨(Qo _), ⟨fun o1 h => ⟨Ja.ok (r := (.inl _)) h, rfl⟩, fun o2 h => ⟨Ja.ok (r := (.inr _)) h, rfl⟩⟩⟩
noncomputable abbrev YG {ρ R : Type} (a0 : (List ByteArray)) (a1 : ByteArray) (k : Int → Tr ρ R) : Tr ρ R := .call (ww 126 [.sl (Qg a0), xs a1] []) (UP a0 a1) Qm k
def Qcr (r : (Qh × (List Nat))) : AV × Heap := (.arr 3, [(0, .box [0, 0, 0, 0, 0, 5] [xi r.1.x.Line, xs r.1.x.Label, xi r.1.x.Kind, xi r.1.x.Op, xs r.1.x.Text, .arr 2]), (2, .arr true 5 (Qi r.1.x.Args)), (3, .fs (some 0) (J7 r.2))])
abbrev Qjk := Int → Qh → Option (Qh × (List Nat))
structure Ve where
 x6 : Int
 x7 : Int
 h0 : Qh
 r3 : (List Nat)
structure WE where
 h0 : Qh
 r3 : (List Nat)
def Pz (a : Ve) : St := { n := 15, nx := 4, env := [(0, .fn (.func 129) [.ptr 0 0] []), (5, .arr 3), (6, xi a.x6), (7, xi a.x7)], heap := [(0, .box [0, 0, 0, 0, 0, 5] [xi a.h0.x.Line, xs a.h0.x.Label, xi a.h0.x.Kind, xi a.h0.x.Op, xs a.h0.x.Text, .arr 2]), (2, .arr true 5 (Qi a.h0.x.Args)), (3, .fs (some 0) (J7 a.r3))] }
def PB (a : WE) : Ex × St := (.exit 0, { n := 15, nx := 4, env := [(5, .arr 3)], heap := [(0, .box [0, 0, 0, 0, 0, 5] [xi a.h0.x.Line, xs a.h0.x.Label, xi a.h0.x.Kind, xi a.h0.x.Op, xs a.h0.x.Text, .arr 2]), (2, .arr true 5 (Qi a.h0.x.Args)), (3, .fs (some 0) (J7 a.r3))] })
abbrev Qet := Ve → Option WE
def G7 (a : Ve) : Option (Ve ⊕ WE) := (bif (decide (a.x7 < a.x6)) then (bif (decide ((a.r3.length + [129].length) * 8 ≤ most)) then (some (.inl (Ve.mk a.x6 (w64 (a.x7 + 1)) a.h0 (a.r3 ++ [129])))) else none) else (some (.inr (WE.mk a.h0 a.r3))))
noncomputable def V1 : Qet := loopW (G7 )
theorem V1.eq (a : Ve) : V1 a = (G7 a).bind (Sum.elim V1 some) := Jf _ _
noncomputable abbrev Qkd {ρ R : Type} (a : Ve) (k0 : WE → Tr ρ R) : Tr ρ R := .loop (loopAt pp 128 3) (Pz a) (V1 a) PB k0
noncomputable def Qke (a : Ve) : Tr (Ve ⊕ WE) XS := (.as (decide (a.x7 < a.x6)) (.rows [[.fn (.func 129) [] []]] (J7 [129]) (.yes (decide ((J7 [129]).all (fun r => r.length == 1) = true)) (.ask (decide (((J7 a.r3).length + (J7 [129]).length) * 8 ≤ most)) (decide ((a.r3.length + [129].length) * 8 ≤ most)) (.rows ((J7 a.r3) ++ (J7 [129])) (J7 (a.r3 ++ [129])) (lf Pz (Ve.mk a.x6 (w64 (a.x7 + 1)) a.h0 (a.r3 ++ [129])))) .fail))) (rx PB (WE.mk a.h0 a.r3)))
theorem V1.ok {a : Ve} {r : WE} (h : V1 a = some r) : lw 2 128 (loopAt pp 128 3) (Pz a) = some (PB r) := by
 refine lpP h Qke fun a => ?_
 exact ⟨rfl, fun q0 => ⟨(Zc [129]), ⟨(decide_eq_true (QdC _)), ⟨(by rw [Yk, Yk]), fun q1 => ⟨(SK _ _), rfl⟩, fun q1 => trivial⟩⟩⟩, fun q0 => rfl⟩
def Qcs (L0 : Qet) (a1 : Int) (h0 : Qh) : Option (Qh × (List Nat)) := ((L0 (Ve.mk a1 (0 : Int) h0 ([] : List Nat))).bind (fun (o1 : WE) => (some (o1.h0, o1.r3))))
noncomputable def Wf : Qjk := Qcs V1
theorem Wf.eq (a1 : Int) (h0 : Qh) : Wf a1 h0 = Qcs V1 a1 h0 := rfl
noncomputable def Qn6 (a1 : Int) (h0 : Qh) : Tr (Qh × (List Nat)) AH := (Qkd (Ve.mk a1 i0 h0 ([] : List Nat)) (fun o1 => (rt Qcr (o1.h0, o1.r3))))
theorem Wf.ok {a1 : Int} {h0 : Qh} {r : (Qh × (List Nat))} (h : Wf a1 h0 = some r) : ww 128 [.fn (.func 129) [.ptr 0 0] [], xi a1] [(0, .box [0, 0, 0, 0, 0, 5] [xi h0.x.Line, xs h0.x.Label, xi h0.x.Kind, xi h0.x.Op, xs h0.x.Text, .arr 1]), (1, .arr true 5 (Qi h0.x.Args))] = some (Qcr r) := by
 refine fnP (Qn6 a1 h0) ?_ h
 exact fun o1 h => ⟨V1.ok h, rfl⟩
noncomputable abbrev Gj {ρ R : Type} (a1 : Int) (h0 : Qh) (k : (Qh × (List Nat)) → Tr ρ R) : Tr ρ R := .call (ww 128 [.fn (.func 129) [.ptr 0 0] [], xi a1] [(0, .box [0, 0, 0, 0, 0, 5] [xi h0.x.Line, xs h0.x.Label, xi h0.x.Kind, xi h0.x.Op, xs h0.x.Text, .arr 1]), (1, .arr true 5 (Qi h0.x.Args))]) (Wf a1 h0) Qcr k
abbrev FR := Int → Option Bool
def ZS (a0 : Int) : Option Bool := (bif (decide (a0 ≥ 32)) then (bif (decide (a0 ≤ (126 : Int))) then (some (a0 != 34)) else (some false)) else (some false))
noncomputable def UX : FR := ZS
theorem UX.eq (a0 : Int) : UX a0 = ZS a0 := rfl
noncomputable def Qdc (a0 : Int) : Tr Bool AH := (let u68 := (decide (a0 ≥ 32)); .as u68 (yesN 2 u68 (let u67 := (decide (a0 ≤ (zi 126))); .as u67 (yesN 2 u67 (rt Ql (a0 != 34))) (noN 2 u67 (rt Ql false)))) (noN 2 u68 (noN 3 false (rt Ql false))))
theorem UX.ok {a0 : Int} {r : Bool} (h : UX a0 = some r) : ww 180 [xb a0] [] = some (Ql r) := by
 refine fnP (Qdc a0) ?_ h
 exact ⟨rfl, fun q0 => Qj 2 (q0) (⟨rfl, fun q1 => Qj 2 (q1) (rfl), fun q1 => noN_ok 2 (q1) (rfl)⟩), fun q0 => noN_ok 2 (q0) (noN_ok 3 (rfl) (rfl))⟩
noncomputable abbrev Qdd {ρ R : Type} (a0 : Int) (k : Bool → Tr ρ R) : Tr ρ R := .call (ww 180 [xb a0] []) (UX a0) Ql k
abbrev Qeu := ByteArray → Option Int
structure Ur where
 x0 : ByteArray
 x5 : Int
def Ej (a : Ur) : St := { n := 20, nx := 0, env := [(0, xs a.x0), (1, .fn (.func 180) [] []), (5, xi a.x5)], heap := [] }
def ZC (a : Int) : Ex × St := (.exit 0, { n := 20, nx := 0, env := [(5, xi a)], heap := [] })
abbrev Qbj := Ur → Option Int
def Ek (C0 : FR) (a : Ur) : Option (Ur ⊕ Int) := (bif (decide (a.x5 < ((a.x0.size : Nat) : Int))) then (bif (decide (0 ≤ a.x5 ∧ a.x5 < ((a.x0.size : Nat) : Int))) then ((C0 ((a.x0.data.getD (Int.toNat a.x5) 0).toNat : Int)).bind fun r1 => (bif r1 then (some (.inl (Ur.mk a.x0 (w64 (a.x5 + 1))))) else (some (.inr a.x5)))) else none) else (some (.inr a.x5)))
noncomputable def Wa : Qbj := loopW (Ek UX)
theorem Wa.eq (a : Ur) : Wa a = (Ek UX a).bind (Sum.elim Wa some) := Jf _ _
noncomputable abbrev Qg7 {ρ R : Type} (a : Ur) (k0 : Int → Tr ρ R) : Tr ρ R := .loop (loopAt pp 72 2) (Ej a) (Wa a) ZC k0
noncomputable def Qg8 (a : Ur) : Tr (Ur ⊕ Int) XS := (let u69 := (decide (a.x5 < (zz a.x0))); .as u69 (yesN 3 u69 (.as (in1 a.x5 (zz a.x0)) (.yes u69 (Qdd (gb a.x0 a.x5) fun r1 => (.yes u69 (.as r1 (lf Ej (Ur.mk a.x0 (w64 (a.x5 + 1)))) (rx ZC a.x5))))) .fail)) (noN 5 u69 (.no false (rx ZC a.x5))))
theorem Wa.ok {a : Ur} {r : Int} (h : Wa a = some r) : lw 0 72 (loopAt pp 72 2) (Ej a) = some (ZC r) := by
 refine lpP h Qg8 fun a => ?_
 exact ⟨rfl, fun q0 => Qj 3 (q0) (⟨rfl, fun q1 => ⟨q0, fun r1 h => ⟨UX.ok h, ⟨q0, ⟨rfl, fun q2 => rfl, fun q2 => rfl⟩⟩⟩⟩, fun q1 => trivial⟩), fun q0 => noN_ok 5 (q0) (⟨rfl, rfl⟩)⟩
def PC (L0 : Qbj) (a0 : ByteArray) : Option Int := ((L0 (Ur.mk a0 (0 : Int))).bind (fun (o1 : Int) => (some o1)))
noncomputable def Xb : Qeu := PC Wa
theorem Xb.eq (a0 : ByteArray) : Xb a0 = PC Wa a0 := rfl
noncomputable def Qkf (a0 : ByteArray) : Tr Int AH := (Qg7 (Ur.mk a0 i0) (fun o1 => (rt Qm o1)))
theorem Xb.ok {a0 : ByteArray} {r : Int} (h : Xb a0 = some r) : ww 72 [xs a0, .fn (.func 180) [] []] [] = some (Qm r) := by
 refine fnP (Qkf a0) ?_ h
 exact fun o1 h => ⟨Wa.ok h, rfl⟩
noncomputable abbrev Qkg {ρ R : Type} (a0 : ByteArray) (k : Int → Tr ρ R) : Tr ρ R := .call (ww 72 [xs a0, .fn (.func 180) [] []] []) (Xb a0) Qm k
abbrev Sx := ByteArray → Qh → Option (Bool × Qh)
def Gr (C0 : Qeu) (a1 : ByteArray) (h0 : Qh) : Option (Bool × Qh) := (bif (decide (((a1.size : Nat) : Int) < 2)) then (some (false, h0)) else (bif (decide (((a1.size : Nat) : Int) > 62)) then (some (false, h0)) else (bif (decide (0 ≤ (0 : Int) ∧ (0 : Int) < ((a1.size : Nat) : Int))) then (bif (((a1.data.getD (Int.toNat 0) 0).toNat : Int) != 34) then (some (false, h0)) else (bif (decide (0 ≤ (w64 (((a1.size : Nat) : Int) - 1)) ∧ (w64 (((a1.size : Nat) : Int) - 1)) < ((a1.size : Nat) : Int))) then (bif (((a1.data.getD (Int.toNat (w64 (((a1.size : Nat) : Int) - 1))) 0).toNat : Int) != 34) then (some (false, h0)) else (bif (decide (0 ≤ (1 : Int) ∧ (1 : Int) ≤ (w64 (((a1.size : Nat) : Int) - 1)) ∧ (w64 (((a1.size : Nat) : Int) - 1)) ≤ ((a1.size : Nat) : Int))) then ((C0 (a1.extract (Int.toNat 1) (Int.toNat (w64 (((a1.size : Nat) : Int) - 1))))).bind fun r1 => (some ((r1 == (((a1.extract (Int.toNat 1) (Int.toNat (w64 (((a1.size : Nat) : Int) - 1)))).size : Nat) : Int)), (Qh.mk (Qb.mk h0.x.Line h0.x.Label h0.x.Kind h0.x.Op (a1.extract (Int.toNat 1) (Int.toNat (w64 (((a1.size : Nat) : Int) - 1)))) h0.x.Args))))) else none)) else none)) else none)))
noncomputable def Vx : Sx := Gr Xb
theorem Vx.eq (a1 : ByteArray) (h0 : Qh) : Vx a1 h0 = Gr Xb a1 h0 := rfl
noncomputable def Qe1 (a1 : ByteArray) (h0 : Qh) : Tr (Bool × Qh) AH := (let u72 := (decide ((zz a1) < 2)); .as u72 (yesN 3 u72 (yesN 12 true (rt Qu (false, h0)))) (noN 3 u72 (let u71 := (decide ((zz a1) > 62)); .as u71 (yesN 3 u71 (yesN 8 true (rt Qu (false, h0)))) (.no u71 (.as (in1 i0 (zz a1)) (noN 2 u71 (let u70 := ((gb a1 i0) != 34); .as u70 (yesN 6 u70 (.yes true (rt Qu (false, h0)))) (noN 4 u70 (.as (in1 (w64 ((zz a1) - 1)) (zz a1)) (noN 2 u70 (.as ((gb a1 (w64 ((zz a1) - 1))) != 34) (rt Qu (false, h0)) (.as (in2 (zi 1) (w64 ((zz a1) - 1)) (zz a1)) (Qkg (cu a1 (zi 1) (w64 ((zz a1) - 1))) fun r1 => (rt Qu ((r1 == (zz (cu a1 (zi 1) (w64 ((zz a1) - 1))))), (Qh.mk (Qb.mk h0.x.Line h0.x.Label h0.x.Kind h0.x.Op (cu a1 (zi 1) (w64 ((zz a1) - 1))) h0.x.Args))))) .fail))) .fail)))) .fail)))))
theorem Vx.ok {a1 : ByteArray} {h0 : Qh} {r : (Bool × Qh)} (h : Vx a1 h0 = some r) : ww 130 [.ptr 0 0, xs a1] [(0, .box [0, 0, 0, 0, 0, 5] [xi h0.x.Line, xs h0.x.Label, xi h0.x.Kind, xi h0.x.Op, xs h0.x.Text, .arr 1]), (1, .arr true 5 (Qi h0.x.Args))] = some (Qu r) := by
 refine fnP (Qe1 a1 h0) ?_ h
 exact ⟨rfl, fun q0 => Qj 3 (q0) (Qj 12 (rfl) (rfl)), fun q0 => noN_ok 3 (q0) (⟨rfl, fun q1 => Qj 3 (q1) (Qj 8 (rfl) (rfl)), fun q1 => ⟨q1, ⟨rfl, fun q2 => noN_ok 2 (q1) (⟨rfl, fun q3 => Qj 6 (q3) (⟨rfl, rfl⟩), fun q3 => noN_ok 4 (q3) (⟨rfl, fun q4 => noN_ok 2 (q3) (⟨rfl, fun q5 => rfl, fun q5 => ⟨rfl, fun q6 => fun r1 h => ⟨Xb.ok h, rfl⟩, fun q6 => trivial⟩⟩), fun q4 => trivial⟩)⟩), fun q2 => trivial⟩⟩⟩)⟩
noncomputable abbrev Qe2 {ρ R : Type} (a1 : ByteArray) (h0 : Qh) (k : (Bool × Qh) → Tr ρ R) : Tr ρ R := .call (ww 130 [.ptr 0 0, xs a1] [(0, .box [0, 0, 0, 0, 0, 5] [xi h0.x.Line, xs h0.x.Label, xi h0.x.Kind, xi h0.x.Op, xs h0.x.Text, .arr 1]), (1, .arr true 5 (Qi h0.x.Args))]) (Vx a1 h0) Qu k
abbrev Ez := ByteArray → ByteArray → Qh → Option (Bool × Qh)
def Y3 (C0 : Qc0) (C1 : QkR) (C2 : GO) (C3 : QhH) (C4 : Qes) (C5 : Qjk) (C6 : QfX) (C7 : Sx) (a1 : ByteArray) (a2 : ByteArray) (h0 : Qh) : Option (Bool × Qh) := ((C0 a2).bind fun r1 => ((C1 a1).bind fun r2 => (bif r2.2 then ((C2 r1 (Qh.mk (Qb.mk h0.x.Line h0.x.Label (1 : Int) r2.1 h0.x.Text h0.x.Args))).bind fun r3 => (some (r3.1, r3.2))) else ((C3).bind fun r4 => ((C4 r4 a1).bind fun r5 => (bif (decide (r5 ≥ 0)) then ((C5 (w64 ((1 : Int) + (w64 ((w64 (Int.tdiv r5 (2 : Int))) * (2 : Int))))) (Qh.mk (Qb.mk h0.x.Line h0.x.Label (2 : Int) r5 h0.x.Text h0.x.Args))).bind fun r6 => ((C6 r1 r6.1 r6.2).bind fun r7 => (some (r7.1, r7.2)))) else (bif (eqS a1 QD) then ((C4 [QD, Q5, Q6] a1).bind fun r8 => (bif (decide ((((r1.length) : Nat) : Int) ≥ 1)) then (bif (decide ((((r1.length) : Nat) : Int) ≤ 16)) then ((C5 (((r1.length) : Nat) : Int) (Qh.mk (Qb.mk h0.x.Line h0.x.Label (w64 ((3 : Int) + r8)) h0.x.Op h0.x.Text h0.x.Args))).bind fun r9 => ((C6 r1 r9.1 r9.2).bind fun r10 => (some (r10.1, r10.2)))) else (some (false, (Qh.mk (Qb.mk h0.x.Line h0.x.Label (w64 ((3 : Int) + r8)) h0.x.Op h0.x.Text h0.x.Args))))) else (some (false, (Qh.mk (Qb.mk h0.x.Line h0.x.Label (w64 ((3 : Int) + r8)) h0.x.Op h0.x.Text h0.x.Args)))))) else (bif (eqS a1 Q5) then ((C4 [QD, Q5, Q6] a1).bind fun r11 => (bif (decide ((((r1.length) : Nat) : Int) ≥ 1)) then (bif (decide ((((r1.length) : Nat) : Int) ≤ 16)) then ((C5 (((r1.length) : Nat) : Int) (Qh.mk (Qb.mk h0.x.Line h0.x.Label (w64 ((3 : Int) + r11)) h0.x.Op h0.x.Text h0.x.Args))).bind fun r12 => ((C6 r1 r12.1 r12.2).bind fun r13 => (some (r13.1, r13.2)))) else (some (false, (Qh.mk (Qb.mk h0.x.Line h0.x.Label (w64 ((3 : Int) + r11)) h0.x.Op h0.x.Text h0.x.Args))))) else (some (false, (Qh.mk (Qb.mk h0.x.Line h0.x.Label (w64 ((3 : Int) + r11)) h0.x.Op h0.x.Text h0.x.Args)))))) else (bif (eqS a1 Q6) then ((C4 [QD, Q5, Q6] a1).bind fun r14 => (bif (decide ((((r1.length) : Nat) : Int) ≥ 1)) then (bif (decide ((((r1.length) : Nat) : Int) ≤ 16)) then ((C5 (((r1.length) : Nat) : Int) (Qh.mk (Qb.mk h0.x.Line h0.x.Label (w64 ((3 : Int) + r14)) h0.x.Op h0.x.Text h0.x.Args))).bind fun r15 => ((C6 r1 r15.1 r15.2).bind fun r16 => (some (r16.1, r16.2)))) else (some (false, (Qh.mk (Qb.mk h0.x.Line h0.x.Label (w64 ((3 : Int) + r14)) h0.x.Op h0.x.Text h0.x.Args))))) else (some (false, (Qh.mk (Qb.mk h0.x.Line h0.x.Label (w64 ((3 : Int) + r14)) h0.x.Op h0.x.Text h0.x.Args)))))) else (bif (eqS a1 JW) then ((C7 a2 (Qh.mk (Qb.mk h0.x.Line h0.x.Label (6 : Int) h0.x.Op h0.x.Text h0.x.Args))).bind fun r17 => (some (r17.1, r17.2))) else (bif (eqS a1 QZ) then ((C4 [QZ, Q0] a1).bind fun r18 => ((C5 (1 : Int) (Qh.mk (Qb.mk h0.x.Line h0.x.Label (w64 ((7 : Int) + r18)) h0.x.Op h0.x.Text h0.x.Args))).bind fun r19 => ((C6 r1 r19.1 r19.2).bind fun r20 => (some (r20.1, r20.2))))) else (bif (eqS a1 Q0) then ((C4 [QZ, Q0] a1).bind fun r21 => ((C5 (1 : Int) (Qh.mk (Qb.mk h0.x.Line h0.x.Label (w64 ((7 : Int) + r21)) h0.x.Op h0.x.Text h0.x.Args))).bind fun r22 => ((C6 r1 r22.1 r22.2).bind fun r23 => (some (r23.1, r23.2))))) else (bif (eqS a1 Vr) then ((C6 r1 (Qh.mk (Qb.mk h0.x.Line h0.x.Label (9 : Int) h0.x.Op h0.x.Text h0.x.Args)) [131, 129]).bind fun r24 => (some (r24.1, r24.2))) else (some (false, h0)))))))))))))))
noncomputable def JH : Ez := Y3 WO XX J5 X7 UP Wf U7 Vx
theorem JH.eq (a1 : ByteArray) (a2 : ByteArray) (h0 : Qh) : JH a1 a2 h0 = Y3 WO XX J5 X7 UP Wf U7 Vx a1 a2 h0 := rfl
noncomputable def QbI (a1 : ByteArray) (a2 : ByteArray) (h0 : Qh) : Tr (Bool × Qh) AH := (Qjf a2 fun r1 => (QpA a1 fun r2 => (.as r2.2 (Qan r1 (Qh.mk (Qb.mk h0.x.Line h0.x.Label (zi 1) r2.1 h0.x.Text h0.x.Args)) fun r3 => (rt Qu (r3.1, r3.2))) (QmN fun r4 => (YG r4 a1 fun r5 => (.as (decide (r5 ≥ 0)) (.yes (decide ((zi 2) ≠ 0)) (Gj (w64 ((zi 1) + (w64 ((w64 (Int.tdiv r5 (zi 2))) * (zi 2))))) (Qh.mk (Qb.mk h0.x.Line h0.x.Label (zi 2) r5 h0.x.Text h0.x.Args)) fun r6 => (Zh r1 r6.1 r6.2 fun r7 => (rt Qu (r7.1, r7.2))))) (let u81 := (eqS a1 QD); .as u81 (.yes u81 (.rows [[xs QD], [xs Q5], [xs Q6]] (Qg [QD, Q5, Q6]) (YG [QD, Q5, Q6] a1 fun r8 => (.num ((Qg r1).length) (r1.length) (let u74 := (decide ((((r1.length) : Nat) : Int) ≥ 1)); .as u74 (.yes u74 (.num ((Qg r1).length) (r1.length) (yesN 2 u74 (let u73 := (decide ((((r1.length) : Nat) : Int) ≤ 16)); .as u73 (yesN 4 u73 (.num ((Qg r1).length) (r1.length) (.yes u73 (Gj (((r1.length) : Nat) : Int) (Qh.mk (Qb.mk h0.x.Line h0.x.Label (w64 ((zi 3) + r8)) h0.x.Op h0.x.Text h0.x.Args)) fun r9 => (.yes u73 (Zh r1 r9.1 r9.2 fun r10 => (.yes u73 (rt Qu (r10.1, r10.2))))))))) (noN 7 u73 (rt Qu (false, (Qh.mk (Qb.mk h0.x.Line h0.x.Label (w64 ((zi 3) + r8)) h0.x.Op h0.x.Text h0.x.Args))))))))) (noN 3 u74 (noN 8 false (rt Qu (false, (Qh.mk (Qb.mk h0.x.Line h0.x.Label (w64 ((zi 3) + r8)) h0.x.Op h0.x.Text h0.x.Args))))))))))) (let u80 := (eqS a1 Q5); .as u80 (.yes u80 (.rows [[xs QD], [xs Q5], [xs Q6]] (Qg [QD, Q5, Q6]) (YG [QD, Q5, Q6] a1 fun r11 => (.num ((Qg r1).length) (r1.length) (let u76 := (decide ((((r1.length) : Nat) : Int) ≥ 1)); .as u76 (.yes u76 (.num ((Qg r1).length) (r1.length) (yesN 2 u76 (let u75 := (decide ((((r1.length) : Nat) : Int) ≤ 16)); .as u75 (yesN 4 u75 (.num ((Qg r1).length) (r1.length) (.yes u75 (Gj (((r1.length) : Nat) : Int) (Qh.mk (Qb.mk h0.x.Line h0.x.Label (w64 ((zi 3) + r11)) h0.x.Op h0.x.Text h0.x.Args)) fun r12 => (.yes u75 (Zh r1 r12.1 r12.2 fun r13 => (.yes u75 (rt Qu (r13.1, r13.2))))))))) (noN 7 u75 (rt Qu (false, (Qh.mk (Qb.mk h0.x.Line h0.x.Label (w64 ((zi 3) + r11)) h0.x.Op h0.x.Text h0.x.Args))))))))) (noN 3 u76 (noN 8 false (rt Qu (false, (Qh.mk (Qb.mk h0.x.Line h0.x.Label (w64 ((zi 3) + r11)) h0.x.Op h0.x.Text h0.x.Args))))))))))) (.as (eqS a1 Q6) (.rows [[xs QD], [xs Q5], [xs Q6]] (Qg [QD, Q5, Q6]) (YG [QD, Q5, Q6] a1 fun r14 => (.num ((Qg r1).length) (r1.length) (let u78 := (decide ((((r1.length) : Nat) : Int) ≥ 1)); .as u78 (.yes u78 (.num ((Qg r1).length) (r1.length) (yesN 2 u78 (let u77 := (decide ((((r1.length) : Nat) : Int) ≤ 16)); .as u77 (yesN 4 u77 (.num ((Qg r1).length) (r1.length) (.yes u77 (Gj (((r1.length) : Nat) : Int) (Qh.mk (Qb.mk h0.x.Line h0.x.Label (w64 ((zi 3) + r14)) h0.x.Op h0.x.Text h0.x.Args)) fun r15 => (.yes u77 (Zh r1 r15.1 r15.2 fun r16 => (.yes u77 (rt Qu (r16.1, r16.2))))))))) (noN 7 u77 (rt Qu (false, (Qh.mk (Qb.mk h0.x.Line h0.x.Label (w64 ((zi 3) + r14)) h0.x.Op h0.x.Text h0.x.Args))))))))) (noN 3 u78 (noN 8 false (rt Qu (false, (Qh.mk (Qb.mk h0.x.Line h0.x.Label (w64 ((zi 3) + r14)) h0.x.Op h0.x.Text h0.x.Args)))))))))) (.as (eqS a1 JW) (Qe2 a2 (Qh.mk (Qb.mk h0.x.Line h0.x.Label (zi 6) h0.x.Op h0.x.Text h0.x.Args)) fun r17 => (rt Qu (r17.1, r17.2))) (let u79 := (eqS a1 QZ); .as u79 (.yes u79 (.rows [[xs QZ], [xs Q0]] (Qg [QZ, Q0]) (YG [QZ, Q0] a1 fun r18 => (Gj (zi 1) (Qh.mk (Qb.mk h0.x.Line h0.x.Label (w64 ((zi 7) + r18)) h0.x.Op h0.x.Text h0.x.Args)) fun r19 => (Zh r1 r19.1 r19.2 fun r20 => (rt Qu (r20.1, r20.2))))))) (.as (eqS a1 Q0) (.rows [[xs QZ], [xs Q0]] (Qg [QZ, Q0]) (YG [QZ, Q0] a1 fun r21 => (Gj (zi 1) (Qh.mk (Qb.mk h0.x.Line h0.x.Label (w64 ((zi 7) + r21)) h0.x.Op h0.x.Text h0.x.Args)) fun r22 => (Zh r1 r22.1 r22.2 fun r23 => (rt Qu (r23.1, r23.2)))))) (.as (eqS a1 Vr) (.rows [[.fn (.func 131) [] []], [.fn (.func 129) [] []]] (J7 [131, 129]) (Zh r1 (Qh.mk (Qb.mk h0.x.Line h0.x.Label (zi 9) h0.x.Op h0.x.Text h0.x.Args)) [131, 129] fun r24 => (rt Qu (r24.1, r24.2)))) (rt Qu (false, h0)))))))))))))))
theorem JH.ok {a1 : ByteArray} {a2 : ByteArray} {h0 : Qh} {r : (Bool × Qh)} (h : JH a1 a2 h0 = some r) : ww 76 [.ptr 0 0, xs a1, xs a2] [(0, .box [0, 0, 0, 0, 0, 5] [xi h0.x.Line, xs h0.x.Label, xi h0.x.Kind, xi h0.x.Op, xs h0.x.Text, .arr 1]), (1, .arr true 5 (Qi h0.x.Args))] = some (Qu r) := by
 refine fnP (QbI a1 a2 h0) ?_ h
 exact fun r1 h => ⟨WO.ok h, fun r2 h => ⟨XX.ok h, ⟨rfl, fun q0 => fun r3 h => ⟨J5.ok h, rfl⟩, fun q0 => fun r4 h => ⟨X7.ok h, fun r5 h => ⟨UP.ok h, ⟨rfl, fun q1 => ⟨rfl, fun r6 h => ⟨Wf.ok h, fun r7 h => ⟨U7.ok h, rfl⟩⟩⟩, fun q1 => ⟨rfl, fun q2 => ⟨q2, ⟨(QP [QD, Q5, Q6]), fun r8 h => ⟨UP.ok h, ⟨(Qo _), ⟨rfl, fun q3 => ⟨q3, ⟨(Qo _), Qj 2 (q3) (⟨rfl, fun q4 => Qj 4 (q4) (⟨(Qo _), ⟨q4, fun r9 h => ⟨Wf.ok h, ⟨q4, fun r10 h => ⟨U7.ok h, ⟨q4, rfl⟩⟩⟩⟩⟩⟩), fun q4 => noN_ok 7 (q4) (rfl)⟩)⟩⟩, fun q3 => noN_ok 3 (q3) (noN_ok 8 (rfl) (rfl))⟩⟩⟩⟩⟩, fun q2 => ⟨rfl, fun q3 => ⟨q3, ⟨(QP [QD, Q5, Q6]), fun r11 h => ⟨UP.ok h, ⟨(Qo _), ⟨rfl, fun q4 => ⟨q4, ⟨(Qo _), Qj 2 (q4) (⟨rfl, fun q5 => Qj 4 (q5) (⟨(Qo _), ⟨q5, fun r12 h => ⟨Wf.ok h, ⟨q5, fun r13 h => ⟨U7.ok h, ⟨q5, rfl⟩⟩⟩⟩⟩⟩), fun q5 => noN_ok 7 (q5) (rfl)⟩)⟩⟩, fun q4 => noN_ok 3 (q4) (noN_ok 8 (rfl) (rfl))⟩⟩⟩⟩⟩, fun q3 => ⟨rfl, fun q4 => ⟨(QP [QD, Q5, Q6]), fun r14 h => ⟨UP.ok h, ⟨(Qo _), ⟨rfl, fun q5 => ⟨q5, ⟨(Qo _), Qj 2 (q5) (⟨rfl, fun q6 => Qj 4 (q6) (⟨(Qo _), ⟨q6, fun r15 h => ⟨Wf.ok h, ⟨q6, fun r16 h => ⟨U7.ok h, ⟨q6, rfl⟩⟩⟩⟩⟩⟩), fun q6 => noN_ok 7 (q6) (rfl)⟩)⟩⟩, fun q5 => noN_ok 3 (q5) (noN_ok 8 (rfl) (rfl))⟩⟩⟩⟩, fun q4 => ⟨rfl, fun q5 => fun r17 h => ⟨Vx.ok h, rfl⟩, fun q5 => ⟨rfl, fun q6 => ⟨q6, ⟨(QP [QZ, Q0]), fun r18 h => ⟨UP.ok h, fun r19 h => ⟨Wf.ok h, fun r20 h => ⟨U7.ok h, rfl⟩⟩⟩⟩⟩, fun q6 => ⟨rfl, fun q7 => ⟨(QP [QZ, Q0]), fun r21 h => ⟨UP.ok h, fun r22 h => ⟨Wf.ok h, fun r23 h => ⟨U7.ok h, rfl⟩⟩⟩⟩, fun q7 => ⟨rfl, fun q8 => ⟨(Zc [131, 129]), fun r24 h => ⟨U7.ok h, rfl⟩⟩, fun q8 => rfl⟩⟩⟩⟩⟩⟩⟩⟩⟩⟩⟩⟩⟩
noncomputable abbrev Y4 {ρ R : Type} (a1 : ByteArray) (a2 : ByteArray) (h0 : Qh) (k : (Bool × Qh) → Tr ρ R) : Tr ρ R := .call (ww 76 [.ptr 0 0, xs a1, xs a2] [(0, .box [0, 0, 0, 0, 0, 5] [xi h0.x.Line, xs h0.x.Label, xi h0.x.Kind, xi h0.x.Op, xs h0.x.Text, .arr 1]), (1, .arr true 5 (Qi h0.x.Args))]) (JH a1 a2 h0) Qu k
def Qde (r : (List Qc)) : AV × Heap := (.sl (Qi r), [])
abbrev QlC := (List Qc) → Option (List Qc)
noncomputable def Xc (a0 : (List Qc)) : Option (List Qc) := cloneT 64 a0
noncomputable abbrev PD {ρ R : Type} (a0 : (List Qc)) (k : (List Qc) → Tr ρ R) : Tr ρ R := .call (ww 77 [.sl (Qi a0)] []) (Xc a0) Qde k
theorem Xc.ok {a0 : (List Qc)} {r : (List Qc)} (h : Xc a0 = some r) : ww 77 [.sl (Qi a0)] [] = some (Qde r) := (E4 rfl _ _).trans (Qqr WZ (fun _ => rfl) (fun _ => rfl) (JC _) (JC _) h)
def Qz (r : (Qb × Bool)) : AV × Heap := (.tup [.agg (WR r.1), xo r.2], [])
abbrev QkU := ByteArray → Option (Qb × Bool)
def QdQ (C0 : QfE) (C1 : Qjc) (C2 : Qcd) (C3 : QdF) (C4 : SM) (C5 : Qem) (C6 : Ez) (C7 : QlC) (a0 : ByteArray) : Option (Qb × Bool) := ((C0 a0 (10 : Int)).bind fun r1 => (bif (decide (r1 ≥ 0)) then (some ((Qb.mk (0 : Int) s_ (0 : Int) (0 : Int) s_ ([] : List Qc)), false)) else ((C1 a0).bind fun r2 => ((C2 r2).bind fun r3 => (bif (decide (r3 < ((r2.size : Nat) : Int))) then (bif (decide (0 ≤ r3 ∧ r3 < ((r2.size : Nat) : Int))) then (bif (((r2.data.getD (Int.toNat r3) 0).toNat : Int) == 58) then (bif (decide (0 ≤ (0 : Int) ∧ (0 : Int) ≤ r3 ∧ r3 ≤ ((r2.size : Nat) : Int))) then ((C3 (r2.extract (Int.toNat 0) (Int.toNat r3))).bind fun r4 => (bif (!r4) then (some ((Qb.mk (0 : Int) s_ (0 : Int) (0 : Int) s_ ([] : List Qc)), false)) else (bif (decide (0 ≤ (w64 (r3 + 1)) ∧ (w64 (r3 + 1)) ≤ ((r2.size : Nat) : Int) ∧ ((r2.size : Nat) : Int) ≤ ((r2.size : Nat) : Int))) then ((C4 (r2.extract (Int.toNat (w64 (r3 + 1))) (Int.toNat ((r2.size : Nat) : Int))) Vl).bind fun r5 => (bif (eqS r5 s_) then (bif (eqS (r2.extract (Int.toNat 0) (Int.toNat r3)) s_) then (some ((Qb.mk (0 : Int) s_ (0 : Int) (0 : Int) s_ ([] : List Qc)), true)) else (some ((Qb.mk (1 : Int) (r2.extract (Int.toNat 0) (Int.toNat r3)) (0 : Int) (0 : Int) s_ ([] : List Qc)), true))) else ((C5 r5).bind fun r6 => (bif (decide (0 ≤ (0 : Int) ∧ (0 : Int) ≤ r6 ∧ r6 ≤ ((r5.size : Nat) : Int))) then (bif (decide (0 ≤ r6 ∧ r6 ≤ ((r5.size : Nat) : Int) ∧ ((r5.size : Nat) : Int) ≤ ((r5.size : Nat) : Int))) then ((C4 (r5.extract (Int.toNat r6) (Int.toNat ((r5.size : Nat) : Int))) Vl).bind fun r7 => ((C6 (r5.extract (Int.toNat 0) (Int.toNat r6)) r7 (Qh.mk (Qb.mk (1 : Int) (r2.extract (Int.toNat 0) (Int.toNat r3)) (0 : Int) (0 : Int) s_ ([] : List Qc)))).bind fun r8 => (bif (!r8.1) then (some ((Qb.mk (0 : Int) s_ (0 : Int) (0 : Int) s_ ([] : List Qc)), false)) else ((C7 r8.2.x.Args).bind fun r9 => (some ((Qb.mk r8.2.x.Line r8.2.x.Label r8.2.x.Kind r8.2.x.Op r8.2.x.Text r9), true)))))) else none) else none)))) else none))) else none) else (bif (eqS r2 s_) then (some ((Qb.mk (0 : Int) s_ (0 : Int) (0 : Int) s_ ([] : List Qc)), true)) else ((C5 r2).bind fun r10 => (bif (decide (0 ≤ (0 : Int) ∧ (0 : Int) ≤ r10 ∧ r10 ≤ ((r2.size : Nat) : Int))) then (bif (decide (0 ≤ r10 ∧ r10 ≤ ((r2.size : Nat) : Int) ∧ ((r2.size : Nat) : Int) ≤ ((r2.size : Nat) : Int))) then ((C4 (r2.extract (Int.toNat r10) (Int.toNat ((r2.size : Nat) : Int))) Vl).bind fun r11 => ((C6 (r2.extract (Int.toNat 0) (Int.toNat r10)) r11 (Qh.mk (Qb.mk (1 : Int) s_ (0 : Int) (0 : Int) s_ ([] : List Qc)))).bind fun r12 => (bif (!r12.1) then (some ((Qb.mk (0 : Int) s_ (0 : Int) (0 : Int) s_ ([] : List Qc)), false)) else ((C7 r12.2.x.Args).bind fun r13 => (some ((Qb.mk r12.2.x.Line r12.2.x.Label r12.2.x.Kind r12.2.x.Op r12.2.x.Text r13), true)))))) else none) else none)))) else none) else (bif (eqS r2 s_) then (some ((Qb.mk (0 : Int) s_ (0 : Int) (0 : Int) s_ ([] : List Qc)), true)) else ((C5 r2).bind fun r14 => (bif (decide (0 ≤ (0 : Int) ∧ (0 : Int) ≤ r14 ∧ r14 ≤ ((r2.size : Nat) : Int))) then (bif (decide (0 ≤ r14 ∧ r14 ≤ ((r2.size : Nat) : Int) ∧ ((r2.size : Nat) : Int) ≤ ((r2.size : Nat) : Int))) then ((C4 (r2.extract (Int.toNat r14) (Int.toNat ((r2.size : Nat) : Int))) Vl).bind fun r15 => ((C6 (r2.extract (Int.toNat 0) (Int.toNat r14)) r15 (Qh.mk (Qb.mk (1 : Int) s_ (0 : Int) (0 : Int) s_ ([] : List Qc)))).bind fun r16 => (bif (!r16.1) then (some ((Qb.mk (0 : Int) s_ (0 : Int) (0 : Int) s_ ([] : List Qc)), false)) else ((C7 r16.2.x.Args).bind fun r17 => (some ((Qb.mk r16.2.x.Line r16.2.x.Label r16.2.x.Kind r16.2.x.Op r16.2.x.Text r17), true)))))) else none) else none))))))))
noncomputable def YQ : QkU := QdQ WV Yw WS Xp Uz VG JH Xc
theorem YQ.eq (a0 : ByteArray) : YQ a0 = QdQ WV Yw WS Xp Uz VG JH Xc a0 := rfl
noncomputable def QpE (a0 : ByteArray) : Tr (Qb × Bool) AH := (QeQ a0 (zi 10) fun r1 => (.as (decide (r1 ≥ 0)) (rt Qz ((Qb.mk i0 s_ i0 i0 s_ ([] : List Qc)), false)) (QnY a0 fun r2 => (QfA r2 fun r3 => (let u83 := (decide (r3 < (zz r2))); .as u83 (yesN 2 u83 (.as (in1 r3 (zz r2)) (yesN 2 u83 (.as ((gb r2 r3) == 58) (let u82 := (in2 i0 r3 (zz r2)); .as u82 (Qhv (cu r2 i0 r3) fun r4 => (.as (!r4) (rt Qz ((Qb.mk i0 s_ i0 i0 s_ ([] : List Qc)), false)) (.yes u82 (.as (in2 (w64 (r3 + 1)) (zz r2) (zz r2)) (XW (cu r2 (w64 (r3 + 1)) (zz r2)) Vl fun r5 => (.as (eqS r5 s_) (.as (eqS (cu r2 i0 r3) s_) (rt Qz ((Qb.mk i0 s_ i0 i0 s_ ([] : List Qc)), true)) (rt Qz ((Qb.mk (zi 1) (cu r2 i0 r3) i0 i0 s_ ([] : List Qc)), true))) (Pq r5 fun r6 => (.as (in2 i0 r6 (zz r5)) (.as (in2 r6 (zz r5) (zz r5)) (XW (cu r5 r6 (zz r5)) Vl fun r7 => (Y4 (cu r5 i0 r6) r7 (Qh.mk (Qb.mk (zi 1) (cu r2 i0 r3) i0 i0 s_ ([] : List Qc))) fun r8 => (.as (!r8.1) (rt Qz ((Qb.mk i0 s_ i0 i0 s_ ([] : List Qc)), false)) (PD r8.2.x.Args fun r9 => (rt Qz ((Qb.mk r8.2.x.Line r8.2.x.Label r8.2.x.Kind r8.2.x.Op r8.2.x.Text r9), true)))))) .fail) .fail)))) .fail)))) .fail) (.as (eqS r2 s_) (.yes true (rt Qz ((Qb.mk i0 s_ i0 i0 s_ ([] : List Qc)), true))) (Pq r2 fun r10 => (.as (in2 i0 r10 (zz r2)) (.as (in2 r10 (zz r2) (zz r2)) (XW (cu r2 r10 (zz r2)) Vl fun r11 => (Y4 (cu r2 i0 r10) r11 (Qh.mk (Qb.mk (zi 1) s_ i0 i0 s_ ([] : List Qc))) fun r12 => (.as (!r12.1) (rt Qz ((Qb.mk i0 s_ i0 i0 s_ ([] : List Qc)), false)) (PD r12.2.x.Args fun r13 => (rt Qz ((Qb.mk r12.2.x.Line r12.2.x.Label r12.2.x.Kind r12.2.x.Op r12.2.x.Text r13), true)))))) .fail) .fail))))) .fail)) (noN 4 u83 (.no false (.as (eqS r2 s_) (.yes true (rt Qz ((Qb.mk i0 s_ i0 i0 s_ ([] : List Qc)), true))) (Pq r2 fun r14 => (.as (in2 i0 r14 (zz r2)) (.as (in2 r14 (zz r2) (zz r2)) (XW (cu r2 r14 (zz r2)) Vl fun r15 => (Y4 (cu r2 i0 r14) r15 (Qh.mk (Qb.mk (zi 1) s_ i0 i0 s_ ([] : List Qc))) fun r16 => (.as (!r16.1) (rt Qz ((Qb.mk i0 s_ i0 i0 s_ ([] : List Qc)), false)) (PD r16.2.x.Args fun r17 => (rt Qz ((Qb.mk r16.2.x.Line r16.2.x.Label r16.2.x.Kind r16.2.x.Op r16.2.x.Text r17), true)))))) .fail) .fail))))))))))
theorem YQ.ok {a0 : ByteArray} {r : (Qb × Bool)} (h : YQ a0 = some r) : ww 27 [xs a0] [] = some (Qz r) := by
 refine fnP (QpE a0) ?_ h
 exact fun r1 h => ⟨WV.ok h, ⟨rfl, fun q0 => rfl, fun q0 => fun r2 h => ⟨Yw.ok h, fun r3 h => ⟨WS.ok h, ⟨rfl, fun q1 => Qj 2 (q1) (⟨rfl, fun q2 => Qj 2 (q1) (⟨rfl, fun q3 => ⟨rfl, fun q4 => fun r4 h => ⟨Xp.ok h, ⟨rfl, fun q5 => rfl, fun q5 => ⟨q4, ⟨rfl, fun q6 => fun r5 h => ⟨Uz.ok h, ⟨rfl, fun q7 => ⟨rfl, fun q8 => rfl, fun q8 => rfl⟩, fun q7 => fun r6 h => ⟨VG.ok h, ⟨rfl, fun q8 => ⟨rfl, fun q9 => fun r7 h => ⟨Uz.ok h, fun r8 h => ⟨JH.ok h, ⟨rfl, fun q10 => rfl, fun q10 => fun r9 h => ⟨Xc.ok h, rfl⟩⟩⟩⟩, fun q9 => trivial⟩, fun q8 => trivial⟩⟩⟩⟩, fun q6 => trivial⟩⟩⟩⟩, fun q4 => trivial⟩, fun q3 => ⟨rfl, fun q4 => ⟨rfl, rfl⟩, fun q4 => fun r10 h => ⟨VG.ok h, ⟨rfl, fun q5 => ⟨rfl, fun q6 => fun r11 h => ⟨Uz.ok h, fun r12 h => ⟨JH.ok h, ⟨rfl, fun q7 => rfl, fun q7 => fun r13 h => ⟨Xc.ok h, rfl⟩⟩⟩⟩, fun q6 => trivial⟩, fun q5 => trivial⟩⟩⟩⟩), fun q2 => trivial⟩), fun q1 => noN_ok 4 (q1) (⟨rfl, ⟨rfl, fun q2 => ⟨rfl, rfl⟩, fun q2 => fun r14 h => ⟨VG.ok h, ⟨rfl, fun q3 => ⟨rfl, fun q4 => fun r15 h => ⟨Uz.ok h, fun r16 h => ⟨JH.ok h, ⟨rfl, fun q5 => rfl, fun q5 => fun r17 h => ⟨Xc.ok h, rfl⟩⟩⟩⟩, fun q4 => trivial⟩, fun q3 => trivial⟩⟩⟩⟩)⟩⟩⟩⟩⟩
noncomputable abbrev QpF {ρ R : Type} (a0 : ByteArray) (k : (Qb × Bool) → Tr ρ R) : Tr ρ R := .call (ww 27 [xs a0] []) (YQ a0) Qz k
abbrev Xz := (List QA) → Int → Option Int
abbrev Qij (c : Xz) : Prop := ∀ (a0 : (List QA)) (a1 : Int) (r : Int), c a0 a1 = some r → ww 105 [.sl (UZ a0), xi a1] [] = some (Qm r)
noncomputable abbrev QkV {ρ R : Type} (c : Xz) (a0 : (List QA)) (a1 : Int) (k : Int → Tr ρ R) : Tr ρ R := .call (ww 105 [.sl (UZ a0), xi a1] []) (c a0 a1) Qm k
structure U3 where
 x0 : (List QA)
 x1 : Int
 x5 : Int
 x6 : Int
def Qbk (a : U3) : St := { n := 31, nx := 0, env := [(0, .sl (UZ a.x0)), (1, xi a.x1), (5, xi a.x5), (6, xi a.x6)], heap := [] }
def FS (a : Int) : Ex × St := (.exit 0, { n := 31, nx := 0, env := [(5, xi a)], heap := [] })
abbrev Yx := U3 → Option Int
def YR (C0 : Xz) (a : U3) : Option (U3 ⊕ Int) := (bif (decide (a.x6 < (((a.x0.length) : Nat) : Int))) then (bif (decide (a.x5 ≤ 16)) then (bif (decide (0 ≤ a.x6)) then ((a.x0[(Int.toNat a.x6)]?).bind fun e1 => ((C0 e1.L (w64 (a.x1 + 1))).bind fun r2 => (some (.inl (U3.mk a.x0 a.x1 (w64 ((w64 (a.x5 + 1)) + r2)) (w64 (a.x6 + 1))))))) else none) else (some (.inr a.x5))) else (some (.inr a.x5)))
theorem Qf0 {C0 : Nat → Xz} {D0 : Xz} (H0 : Cv2 C0 D0) (a : U3) : Cv (fun k => YR (C0 k) a) (YR D0 a) := by
 unfold YR
 exact .cond (.cond (.cond (.bind (.const _) fun e1 => .bind (H0 _ _) fun r2 => by exact .const _) cst) cst) cst
noncomputable abbrev QmO {ρ R : Type} (l : Yx) (a : U3) (k0 : Int → Tr ρ R) : Tr ρ R := .loop (loopAt pp 105 5) (Qbk a) (l a) FS k0
noncomputable def QmP (C0 : Xz) (a : U3) : Tr (U3 ⊕ Int) XS := (.num ((UZ a.x0).length) (a.x0.length) (let u84 := (decide (a.x6 < (((a.x0.length) : Nat) : Int))); .as u84 (yesN 2 u84 (.as (decide (a.x5 ≤ 16)) (.as (decide (0 ≤ a.x6)) (.row ((UZ a.x0)[(Int.toNat a.x6)]?) (a.x0[(Int.toNat a.x6)]?) XU fun (e1 : QA) => (QkV C0 e1.L (w64 (a.x1 + 1)) fun r2 => (lf Qbk (U3.mk a.x0 a.x1 (w64 ((w64 (a.x5 + 1)) + r2)) (w64 (a.x6 + 1)))))) .fail) (rx FS a.x5))) (noN 2 u84 (.no false (rx FS a.x5)))))
noncomputable def U8.s (k : Nat) (C0 : Xz) : Yx := iter (YR C0) k
theorem QlD (k : Nat) {C0 : Xz} (i_w3_size : Qij C0) {a : U3} {r : Int} (h : U8.s k C0 a = some r) : lw 0 105 (loopAt pp 105 5) (Qbk a) = some (FS r) := by
 refine lpP (itP h) (QmP C0) fun a => ?_
 exact ⟨(Gz _), ⟨rfl, fun q0 => Qj 2 (q0) (⟨rfl, fun q1 => ⟨rfl, fun q2 => fun e1 h => ⟨QaF h, fun r2 h => ⟨i_w3_size _ _ _ h, rfl⟩⟩, fun q2 => trivial⟩, fun q1 => rfl⟩), fun q0 => noN_ok 2 (q0) (⟨rfl, rfl⟩)⟩⟩
theorem U8.m {j k : Nat} (hj : j ≤ k) (C0 : Xz) (D0 : Xz) (H0 : Le2 C0 D0) (a : U3) : Le (U8.s j C0 a) (U8.s k D0 a) := Le.iter (fun a => (Qf0 (tw2 H0) a).1 0) hj a
noncomputable def U8.w (C0 : Xz) : Yx := loopW (YR C0)
theorem U8.cv (C0 : Nat → Xz) (D0 : Xz) (H0 : Cv2 C0 D0) (a : U3) : Cv (fun k => U8.s k (C0 k) a) (U8.w D0 a) := Cv.iter (fun a => Qf0 H0 a) a
def GP (L0 : Yx) (a0 : (List QA)) (a1 : Int) : Option Int := (bif (decide (a1 > 7)) then (some (1000 : Int)) else ((L0 (U3.mk a0 a1 (0 : Int) (0 : Int))).bind (fun (o1 : Int) => (some o1))))
theorem QkW {L0 : Nat → Yx} {M0 : Yx} (N0 : Cv1 L0 M0) (a0 : (List QA)) (a1 : Int) : Cv (fun k => GP (L0 k) a0 a1) (GP M0 a0 a1) := by
 unfold GP
 exact .cond cst (.bind (N0 _) (fun o1 => by exact .const _))
noncomputable def Qqx (L0 : Yx) (a0 : (List QA)) (a1 : Int) : Tr Int AH := (.as (decide (a1 > 7)) (rt Qm (zi 1000)) (QmO L0 (U3.mk a0 a1 i0 i0) (fun o1 => (rt Qm o1))))
noncomputable def JS.s : Nat → (List QA) → Int → Option Int
 | 0, _, _ => none
 | k + 1, a0, a1 => GP (U8.s k (fun a0 a1 => JS.s k a0 a1)) a0 a1
termination_by structural k => k
theorem QhI : ∀ (k : Nat), (Qij (JS.s k))
 | 0 => fun _ _ _ h => (nomatch h)
 | k + 1 => by
  have i_w3_size : Qij (JS.s k) := QhI k
  exact fun a0 a1 r h => by
    refine fnP (Qqx (U8.s k (JS.s k)) a0 a1) ?_ h
    exact ⟨rfl, fun q0 => rfl, fun q0 => fun o1 h => ⟨QlD k i_w3_size h, rfl⟩⟩
theorem Qf1 : ∀ (k : Nat), (∀ (a0 : (List QA)) (a1 : Int), Le (JS.s k a0 a1) (JS.s (k + 1) a0 a1))
 | 0 => fun _ _ _ h => (nomatch h)
 | k + 1 => by
  have i_w3_size : ∀ (a0 : (List QA)) (a1 : Int), Le (JS.s k a0 a1) (JS.s (k + 1) a0 a1) := Qf1 k
  exact fun a0 a1 => (QkW (tw1 (U8.m (Nat.le_succ k) (JS.s k) (JS.s (k + 1)) i_w3_size)) a0 a1).1 0
noncomputable def JS (a0 : (List QA)) (a1 : Int) : Option Int := lim fun k => JS.s k a0 a1
theorem JS.cv (a0 : (List QA)) (a1 : Int) : Cv (fun k => JS.s k a0 a1) (JS a0 a1) := .lim fun k => (Qf1 k) a0 a1
theorem JS.ok {a0 : (List QA)} {a1 : Int} {r : Int} (h : JS a0 a1 = some r) : ww 105 [.sl (UZ a0), xi a1] [] = some (Qm r) := let ⟨k, e⟩ := ((JS.cv a0 a1).2 r).1 h; (QhI k) a0 a1 _ e
noncomputable def U8 : Yx := U8.w JS
theorem U8.eq (a : U3) : U8 a = (YR JS a).bind (Sum.elim U8 some) := Jf _ _
theorem JS.eq (a0 : (List QA)) (a1 : Int) : JS a0 a1 = GP U8 a0 a1 := Cv.uniq (JS.cv a0 a1).shift (QkW (U8.cv (fun k => JS.s k) JS JS.cv) a0 a1)
noncomputable abbrev Qqy {ρ R : Type} (a0 : (List QA)) (a1 : Int) (k : Int → Tr ρ R) : Tr ρ R := QkV JS a0 a1 k
abbrev QoC := (List QA) → Option Bool
def Qik (C0 : Xz) (a0 : (List QA)) : Option Bool := ((C0 a0 (0 : Int)).bind fun r1 => (some (decide (r1 ≤ 16))))
noncomputable def EA : QoC := Qik JS
theorem EA.eq (a0 : (List QA)) : EA a0 = Qik JS a0 := rfl
noncomputable def QrC (a0 : (List QA)) : Tr Bool AH := (Qqy a0 i0 fun r1 => (rt Ql (decide (r1 ≤ 16))))
theorem EA.ok {a0 : (List QA)} {r : Bool} (h : EA a0 = some r) : ww 61 [.sl (UZ a0)] [] = some (Ql r) := by
 refine fnP (QrC a0) ?_ h
 exact fun r1 h => ⟨JS.ok h, rfl⟩
noncomputable abbrev QrD {ρ R : Type} (a0 : (List QA)) (k : Bool → Tr ρ R) : Tr ρ R := .call (ww 61 [.sl (UZ a0)] []) (EA a0) Ql k
abbrev QoD := (List QG) → Option Bool
structure Wx where
 x0 : (List QG)
 x3 : Int
def Qct (a : Wx) : St := { n := 26, nx := 0, env := [(0, .sl (XV a.x0)), (3, xi a.x3)], heap := [] }
def Qf2 (a : Bool) : Ex × St := (.ret, { n := 26, nx := 0, env := [(2, xo a)], heap := [] })
def Qf3 (a : Unit) : Ex × St := (.exit 0, { n := 26, nx := 0, env := [], heap := [] })
def P1 (a : (Bool ⊕ Unit)) : Ex × St := Sum.elim Qf2 Qf3 a
abbrev Qjl := Wx → Option (Bool ⊕ Unit)
def P2 (C0 : QoC) (a : Wx) : Option (Wx ⊕ (Bool ⊕ Unit)) := (bif (decide (a.x3 < (((a.x0.length) : Nat) : Int))) then (bif (decide (0 ≤ a.x3)) then ((a.x0[(Int.toNat a.x3)]?).bind fun e1 => ((C0 e1.E).bind fun r2 => (bif (!r2) then (some (.inr (.inl false))) else ((a.x0[(Int.toNat a.x3)]?).bind fun e3 => (bif (decide ((((e3.Ns.length) : Nat) : Int) > 60)) then (some (.inr (.inl false))) else (some (.inl (Wx.mk a.x0 (w64 (a.x3 + 1)))))))))) else none) else (some (.inr (.inr ()))))
noncomputable def W2 : Qjl := loopW (P2 EA)
theorem W2.eq (a : Wx) : W2 a = (P2 EA a).bind (Sum.elim W2 some) := Jf _ _
noncomputable abbrev Qn7 {ρ R : Type} (a : Wx) (k0 : Bool → Tr ρ R) (k1 : Unit → Tr ρ R) : Tr ρ R := .loop2 (loopAt pp 24 2) (Qct a) (W2 a) Qf2 Qf3 k0 k1
noncomputable def Qn8 (a : Wx) : Tr (Wx ⊕ (Bool ⊕ Unit)) XS := (.num ((XV a.x0).length) (a.x0.length) (.as (decide (a.x3 < (((a.x0.length) : Nat) : Int))) (let u85 := (decide (0 ≤ a.x3)); .as u85 (.row ((XV a.x0)[(Int.toNat a.x3)]?) (a.x0[(Int.toNat a.x3)]?) Wi fun (e1 : QG) => (QrD e1.E fun r2 => (.as (!r2) (yesN 7 (!r2) (.yes true (rx P1 (.inl false)))) (noN 2 (!r2) (.yes u85 (.row ((XV a.x0)[(Int.toNat a.x3)]?) (a.x0[(Int.toNat a.x3)]?) Wi fun (e3 : QG) => (noN 3 (!r2) (.num ((Q8 e3.Ns).length) (e3.Ns.length) (noN 2 (!r2) (.as (decide ((((e3.Ns.length) : Nat) : Int) > 60)) (rx P1 (.inl false)) (lf Qct (Wx.mk a.x0 (w64 (a.x3 + 1)))))))))))))) .fail) (rx P1 (.inr ()))))
theorem W2.ok {a : Wx} {r : (Bool ⊕ Unit)} (h : W2 a = some r) : lw 0 24 (loopAt pp 24 2) (Qct a) = some (P1 r) := by
 refine lpP h Qn8 fun a => ?_
 exact ⟨(Qfu _), ⟨rfl, fun q0 => ⟨rfl, fun q1 => fun e1 h => ⟨QaH h, fun r2 h => ⟨EA.ok h, ⟨rfl, fun q2 => Qj 7 (q2) (⟨rfl, rfl⟩), fun q2 => noN_ok 2 (q2) (⟨q1, fun e3 h => ⟨QaH h, noN_ok 3 (q2) (⟨(Va _), noN_ok 2 (q2) (⟨rfl, fun q3 => rfl, fun q3 => rfl⟩)⟩)⟩⟩)⟩⟩⟩, fun q1 => trivial⟩, fun q0 => rfl⟩⟩
def Qil (L0 : Qjl) (a0 : (List QG)) : Option Bool := ((L0 (Wx.mk a0 (0 : Int))).bind fun x => Sum.elim (fun (o1 : Bool) => (some o1)) (fun (o2 : Unit) => (some true)) x)
noncomputable def EB : QoD := Qil W2
theorem EB.eq (a0 : (List QG)) : EB a0 = Qil W2 a0 := rfl
noncomputable def QrE (a0 : (List QG)) : Tr Bool AH := (Qn7 (Wx.mk a0 i0) (fun o1 => (rt Ql o1)) (fun o2 => (rt Ql true)))
theorem EB.ok {a0 : (List QG)} {r : Bool} (h : EB a0 = some r) : ww 24 [.sl (XV a0)] [] = some (Ql r) := by
 refine fnP (QrE a0) ?_ h
 exact ⟨fun o1 h => ⟨W2.ok (r := (.inl _)) h, rfl⟩, fun o2 h => ⟨W2.ok (r := (.inr _)) h, rfl⟩⟩
noncomputable abbrev QrF {ρ R : Type} (a0 : (List QG)) (k : Bool → Tr ρ R) : Tr ρ R := .call (ww 24 [.sl (XV a0)] []) (EB a0) Ql k
def QbT (r : (QL × Int × Bool)) : AV × Heap := (.tup [.agg (QdE r.1), xi r.2.1, xo r.2.2], [])
abbrev QdR := Int → ByteArray → Option (QL × Int × Bool)
structure QH where
 x0 : Int
 x1 : ByteArray
 x7 : Int
 x8 : Int
 x10 : Int
 x11 : Int
 h0 : QL
 h1_0 : ByteArray
 h1_1 : ByteArray
 h1_2 : ByteArray
structure QU where
 x5 : Int
 x6 : Bool
 h0 : QL
def Vp (a : QH) : St := { n := 56, nx := 2, env := [(0, xi a.x0), (1, xs a.x1), (4, .ptr 0 0), (7, xi a.x7), (8, xi a.x8), (9, .ptr 1 0), (10, xi a.x10), (11, xi a.x11)], heap := [(0, .box [] (QdE a.h0)), (1, .box [] [xs a.h1_0, xs a.h1_1, xs a.h1_2])] }
def Qev (a : QU) : Ex × St := (.ret, { n := 56, nx := 1, env := [(4, .ptr 0 0), (5, xi a.x5), (6, xo a.x6)], heap := [(0, .box [] (QdE a.h0))] })
def Qew (a : QL) : Ex × St := (.exit 0, { n := 56, nx := 1, env := [(4, .ptr 0 0)], heap := [(0, .box [] (QdE a))] })
def VH (a : (QU ⊕ QL)) : Ex × St := Sum.elim Qev Qew a
abbrev QhJ := QH → Option (QU ⊕ QL)
def GQ (a : QH) : Option (QH ⊕ (QU ⊕ QL)) := (bif (decide (a.x11 < 1212)) then (bif (decide (0 ≤ a.x11 ∧ a.x11 < ((Qq.size : Nat) : Int))) then (bif (((Qq.data.getD (Int.toNat a.x11) 0).toNat : Int) != 58) then (bif (((Qq.data.getD (Int.toNat a.x11) 0).toNat : Int) != 124) then (some (.inl (QH.mk a.x0 a.x1 a.x7 a.x8 a.x10 (w64 (a.x11 + 1)) a.h0 a.h1_0 a.h1_1 a.h1_2))) else (bif (decide (0 ≤ a.x8 ∧ a.x8 ≤ a.x11 ∧ a.x11 ≤ ((Qq.size : Nat) : Int))) then (bif (decide (a.x10 = 0)) then (bif (((Qq.data.getD (Int.toNat a.x11) 0).toNat : Int) == 124) then (bif (a.x7 == a.x0) then (some (.inr (.inl (QU.mk a.x7 true (QL.mk (Qq.extract (Int.toNat a.x8) (Int.toNat a.x11)) a.h1_1 a.h1_2))))) else (bif (eqS (Qq.extract (Int.toNat a.x8) (Int.toNat a.x11)) a.x1) then (some (.inr (.inl (QU.mk a.x7 true (QL.mk (Qq.extract (Int.toNat a.x8) (Int.toNat a.x11)) a.h1_1 a.h1_2))))) else (some (.inl (QH.mk a.x0 a.x1 (w64 (a.x7 + 1)) (w64 (a.x11 + 1)) (0 : Int) (w64 (a.x11 + 1)) a.h0 (Qq.extract (Int.toNat a.x8) (Int.toNat a.x11)) a.h1_1 a.h1_2))))) else (some (.inl (QH.mk a.x0 a.x1 a.x7 (w64 (a.x11 + 1)) (w64 (a.x10 + 1)) (w64 (a.x11 + 1)) a.h0 (Qq.extract (Int.toNat a.x8) (Int.toNat a.x11)) a.h1_1 a.h1_2)))) else (bif (decide (a.x10 = 1)) then (bif (((Qq.data.getD (Int.toNat a.x11) 0).toNat : Int) == 124) then (bif (a.x7 == a.x0) then (some (.inr (.inl (QU.mk a.x7 true (QL.mk a.h1_0 (Qq.extract (Int.toNat a.x8) (Int.toNat a.x11)) a.h1_2))))) else (bif (eqS a.h1_0 a.x1) then (some (.inr (.inl (QU.mk a.x7 true (QL.mk a.h1_0 (Qq.extract (Int.toNat a.x8) (Int.toNat a.x11)) a.h1_2))))) else (some (.inl (QH.mk a.x0 a.x1 (w64 (a.x7 + 1)) (w64 (a.x11 + 1)) (0 : Int) (w64 (a.x11 + 1)) a.h0 a.h1_0 (Qq.extract (Int.toNat a.x8) (Int.toNat a.x11)) a.h1_2))))) else (some (.inl (QH.mk a.x0 a.x1 a.x7 (w64 (a.x11 + 1)) (w64 (a.x10 + 1)) (w64 (a.x11 + 1)) a.h0 a.h1_0 (Qq.extract (Int.toNat a.x8) (Int.toNat a.x11)) a.h1_2)))) else (bif (decide (a.x10 = 2)) then (bif (((Qq.data.getD (Int.toNat a.x11) 0).toNat : Int) == 124) then (bif (a.x7 == a.x0) then (some (.inr (.inl (QU.mk a.x7 true (QL.mk a.h1_0 a.h1_1 (Qq.extract (Int.toNat a.x8) (Int.toNat a.x11))))))) else (bif (eqS a.h1_0 a.x1) then (some (.inr (.inl (QU.mk a.x7 true (QL.mk a.h1_0 a.h1_1 (Qq.extract (Int.toNat a.x8) (Int.toNat a.x11))))))) else (some (.inl (QH.mk a.x0 a.x1 (w64 (a.x7 + 1)) (w64 (a.x11 + 1)) (0 : Int) (w64 (a.x11 + 1)) a.h0 a.h1_0 a.h1_1 (Qq.extract (Int.toNat a.x8) (Int.toNat a.x11))))))) else (some (.inl (QH.mk a.x0 a.x1 a.x7 (w64 (a.x11 + 1)) (w64 (a.x10 + 1)) (w64 (a.x11 + 1)) a.h0 a.h1_0 a.h1_1 (Qq.extract (Int.toNat a.x8) (Int.toNat a.x11)))))) else none))) else none)) else (bif (decide (0 ≤ a.x8 ∧ a.x8 ≤ a.x11 ∧ a.x11 ≤ ((Qq.size : Nat) : Int))) then (bif (decide (a.x10 = 0)) then (bif (((Qq.data.getD (Int.toNat a.x11) 0).toNat : Int) == 124) then (bif (a.x7 == a.x0) then (some (.inr (.inl (QU.mk a.x7 true (QL.mk (Qq.extract (Int.toNat a.x8) (Int.toNat a.x11)) a.h1_1 a.h1_2))))) else (bif (eqS (Qq.extract (Int.toNat a.x8) (Int.toNat a.x11)) a.x1) then (some (.inr (.inl (QU.mk a.x7 true (QL.mk (Qq.extract (Int.toNat a.x8) (Int.toNat a.x11)) a.h1_1 a.h1_2))))) else (some (.inl (QH.mk a.x0 a.x1 (w64 (a.x7 + 1)) (w64 (a.x11 + 1)) (0 : Int) (w64 (a.x11 + 1)) a.h0 (Qq.extract (Int.toNat a.x8) (Int.toNat a.x11)) a.h1_1 a.h1_2))))) else (some (.inl (QH.mk a.x0 a.x1 a.x7 (w64 (a.x11 + 1)) (w64 (a.x10 + 1)) (w64 (a.x11 + 1)) a.h0 (Qq.extract (Int.toNat a.x8) (Int.toNat a.x11)) a.h1_1 a.h1_2)))) else (bif (decide (a.x10 = 1)) then (bif (((Qq.data.getD (Int.toNat a.x11) 0).toNat : Int) == 124) then (bif (a.x7 == a.x0) then (some (.inr (.inl (QU.mk a.x7 true (QL.mk a.h1_0 (Qq.extract (Int.toNat a.x8) (Int.toNat a.x11)) a.h1_2))))) else (bif (eqS a.h1_0 a.x1) then (some (.inr (.inl (QU.mk a.x7 true (QL.mk a.h1_0 (Qq.extract (Int.toNat a.x8) (Int.toNat a.x11)) a.h1_2))))) else (some (.inl (QH.mk a.x0 a.x1 (w64 (a.x7 + 1)) (w64 (a.x11 + 1)) (0 : Int) (w64 (a.x11 + 1)) a.h0 a.h1_0 (Qq.extract (Int.toNat a.x8) (Int.toNat a.x11)) a.h1_2))))) else (some (.inl (QH.mk a.x0 a.x1 a.x7 (w64 (a.x11 + 1)) (w64 (a.x10 + 1)) (w64 (a.x11 + 1)) a.h0 a.h1_0 (Qq.extract (Int.toNat a.x8) (Int.toNat a.x11)) a.h1_2)))) else (bif (decide (a.x10 = 2)) then (bif (((Qq.data.getD (Int.toNat a.x11) 0).toNat : Int) == 124) then (bif (a.x7 == a.x0) then (some (.inr (.inl (QU.mk a.x7 true (QL.mk a.h1_0 a.h1_1 (Qq.extract (Int.toNat a.x8) (Int.toNat a.x11))))))) else (bif (eqS a.h1_0 a.x1) then (some (.inr (.inl (QU.mk a.x7 true (QL.mk a.h1_0 a.h1_1 (Qq.extract (Int.toNat a.x8) (Int.toNat a.x11))))))) else (some (.inl (QH.mk a.x0 a.x1 (w64 (a.x7 + 1)) (w64 (a.x11 + 1)) (0 : Int) (w64 (a.x11 + 1)) a.h0 a.h1_0 a.h1_1 (Qq.extract (Int.toNat a.x8) (Int.toNat a.x11))))))) else (some (.inl (QH.mk a.x0 a.x1 a.x7 (w64 (a.x11 + 1)) (w64 (a.x10 + 1)) (w64 (a.x11 + 1)) a.h0 a.h1_0 a.h1_1 (Qq.extract (Int.toNat a.x8) (Int.toNat a.x11)))))) else none))) else none)) else none) else (some (.inr (.inr a.h0))))
noncomputable def U9 : QhJ := loopW (GQ )
theorem U9.eq (a : QH) : U9 a = (GQ a).bind (Sum.elim U9 some) := Jf _ _
noncomputable abbrev QmQ {ρ R : Type} (a : QH) (k0 : QU → Tr ρ R) (k1 : QL → Tr ρ R) : Tr ρ R := .loop2 (loopAt pp 58 5) (Vp a) (U9 a) Qev Qew k0 k1
noncomputable def QmR (a : QH) : Tr (QH ⊕ (QU ⊕ QL)) XS := (.as (decide (a.x11 < 1212)) (let u93 := (in1 a.x11 (zz Qq)); .as u93 (let u92 := ((gb Qq a.x11) != 58); .as u92 (.yes u92 (.yes u93 (yesN 2 u92 (.as ((gb Qq a.x11) != 124) (lf Vp (QH.mk a.x0 a.x1 a.x7 a.x8 a.x10 (w64 (a.x11 + 1)) a.h0 a.h1_0 a.h1_1 a.h1_2)) (.as (in2 a.x8 a.x11 (zz Qq)) (.ask (decide (a.x10 = ((0 : Nat) : Int))) (decide (a.x10 = 0)) (.yes u93 (.as ((gb Qq a.x11) == 124) (let u86 := (a.x7 == a.x0); .as u86 (yesN 4 u86 (.yes true (.yes (decide (i0 = ((0 : Nat) : Int))) (.no (decide ((zi 1) = ((0 : Nat) : Int))) (.yes (decide ((zi 1) = ((1 : Nat) : Int))) (.no (decide ((zi 2) = ((0 : Nat) : Int))) (.no (decide ((zi 2) = ((1 : Nat) : Int))) (.yes (decide ((zi 2) = ((2 : Nat) : Int))) (rx VH (.inl (QU.mk a.x7 true (QL.mk (cu Qq a.x8 a.x11) a.h1_1 a.h1_2)))))))))))) (.yes (decide (i0 = ((0 : Nat) : Int))) (noN 4 u86 (.as (eqS (cu Qq a.x8 a.x11) a.x1) (.yes (decide (i0 = ((0 : Nat) : Int))) (.no (decide ((zi 1) = ((0 : Nat) : Int))) (.yes (decide ((zi 1) = ((1 : Nat) : Int))) (.no (decide ((zi 2) = ((0 : Nat) : Int))) (.no (decide ((zi 2) = ((1 : Nat) : Int))) (.yes (decide ((zi 2) = ((2 : Nat) : Int))) (rx VH (.inl (QU.mk a.x7 true (QL.mk (cu Qq a.x8 a.x11) a.h1_1 a.h1_2)))))))))) (lf Vp (QH.mk a.x0 a.x1 (w64 (a.x7 + 1)) (w64 (a.x11 + 1)) i0 (w64 (a.x11 + 1)) a.h0 (cu Qq a.x8 a.x11) a.h1_1 a.h1_2)))))) (lf Vp (QH.mk a.x0 a.x1 a.x7 (w64 (a.x11 + 1)) (w64 (a.x10 + 1)) (w64 (a.x11 + 1)) a.h0 (cu Qq a.x8 a.x11) a.h1_1 a.h1_2)))) (.ask (decide (a.x10 = ((1 : Nat) : Int))) (decide (a.x10 = 1)) (.yes u93 (.as ((gb Qq a.x11) == 124) (let u87 := (a.x7 == a.x0); .as u87 (yesN 4 u87 (.yes true (.yes (decide (i0 = ((0 : Nat) : Int))) (.no (decide ((zi 1) = ((0 : Nat) : Int))) (.yes (decide ((zi 1) = ((1 : Nat) : Int))) (.no (decide ((zi 2) = ((0 : Nat) : Int))) (.no (decide ((zi 2) = ((1 : Nat) : Int))) (.yes (decide ((zi 2) = ((2 : Nat) : Int))) (rx VH (.inl (QU.mk a.x7 true (QL.mk a.h1_0 (cu Qq a.x8 a.x11) a.h1_2)))))))))))) (.yes (decide (i0 = ((0 : Nat) : Int))) (noN 4 u87 (.as (eqS a.h1_0 a.x1) (.yes (decide (i0 = ((0 : Nat) : Int))) (.no (decide ((zi 1) = ((0 : Nat) : Int))) (.yes (decide ((zi 1) = ((1 : Nat) : Int))) (.no (decide ((zi 2) = ((0 : Nat) : Int))) (.no (decide ((zi 2) = ((1 : Nat) : Int))) (.yes (decide ((zi 2) = ((2 : Nat) : Int))) (rx VH (.inl (QU.mk a.x7 true (QL.mk a.h1_0 (cu Qq a.x8 a.x11) a.h1_2)))))))))) (lf Vp (QH.mk a.x0 a.x1 (w64 (a.x7 + 1)) (w64 (a.x11 + 1)) i0 (w64 (a.x11 + 1)) a.h0 a.h1_0 (cu Qq a.x8 a.x11) a.h1_2)))))) (lf Vp (QH.mk a.x0 a.x1 a.x7 (w64 (a.x11 + 1)) (w64 (a.x10 + 1)) (w64 (a.x11 + 1)) a.h0 a.h1_0 (cu Qq a.x8 a.x11) a.h1_2)))) (.ask (decide (a.x10 = ((2 : Nat) : Int))) (decide (a.x10 = 2)) (.yes u93 (.as ((gb Qq a.x11) == 124) (let u88 := (a.x7 == a.x0); .as u88 (yesN 4 u88 (.yes true (.yes (decide (i0 = ((0 : Nat) : Int))) (.no (decide ((zi 1) = ((0 : Nat) : Int))) (.yes (decide ((zi 1) = ((1 : Nat) : Int))) (.no (decide ((zi 2) = ((0 : Nat) : Int))) (.no (decide ((zi 2) = ((1 : Nat) : Int))) (.yes (decide ((zi 2) = ((2 : Nat) : Int))) (rx VH (.inl (QU.mk a.x7 true (QL.mk a.h1_0 a.h1_1 (cu Qq a.x8 a.x11))))))))))))) (.yes (decide (i0 = ((0 : Nat) : Int))) (noN 4 u88 (.as (eqS a.h1_0 a.x1) (.yes (decide (i0 = ((0 : Nat) : Int))) (.no (decide ((zi 1) = ((0 : Nat) : Int))) (.yes (decide ((zi 1) = ((1 : Nat) : Int))) (.no (decide ((zi 2) = ((0 : Nat) : Int))) (.no (decide ((zi 2) = ((1 : Nat) : Int))) (.yes (decide ((zi 2) = ((2 : Nat) : Int))) (rx VH (.inl (QU.mk a.x7 true (QL.mk a.h1_0 a.h1_1 (cu Qq a.x8 a.x11))))))))))) (lf Vp (QH.mk a.x0 a.x1 (w64 (a.x7 + 1)) (w64 (a.x11 + 1)) i0 (w64 (a.x11 + 1)) a.h0 a.h1_0 a.h1_1 (cu Qq a.x8 a.x11))))))) (lf Vp (QH.mk a.x0 a.x1 a.x7 (w64 (a.x11 + 1)) (w64 (a.x10 + 1)) (w64 (a.x11 + 1)) a.h0 a.h1_0 a.h1_1 (cu Qq a.x8 a.x11))))) .fail))) .fail))))) (noN 3 u92 (.no false (.as (in2 a.x8 a.x11 (zz Qq)) (.ask (decide (a.x10 = ((0 : Nat) : Int))) (decide (a.x10 = 0)) (.yes u93 (.as ((gb Qq a.x11) == 124) (let u89 := (a.x7 == a.x0); .as u89 (yesN 4 u89 (.yes true (.yes (decide (i0 = ((0 : Nat) : Int))) (.no (decide ((zi 1) = ((0 : Nat) : Int))) (.yes (decide ((zi 1) = ((1 : Nat) : Int))) (.no (decide ((zi 2) = ((0 : Nat) : Int))) (.no (decide ((zi 2) = ((1 : Nat) : Int))) (.yes (decide ((zi 2) = ((2 : Nat) : Int))) (rx VH (.inl (QU.mk a.x7 true (QL.mk (cu Qq a.x8 a.x11) a.h1_1 a.h1_2)))))))))))) (.yes (decide (i0 = ((0 : Nat) : Int))) (noN 4 u89 (.as (eqS (cu Qq a.x8 a.x11) a.x1) (.yes (decide (i0 = ((0 : Nat) : Int))) (.no (decide ((zi 1) = ((0 : Nat) : Int))) (.yes (decide ((zi 1) = ((1 : Nat) : Int))) (.no (decide ((zi 2) = ((0 : Nat) : Int))) (.no (decide ((zi 2) = ((1 : Nat) : Int))) (.yes (decide ((zi 2) = ((2 : Nat) : Int))) (rx VH (.inl (QU.mk a.x7 true (QL.mk (cu Qq a.x8 a.x11) a.h1_1 a.h1_2)))))))))) (lf Vp (QH.mk a.x0 a.x1 (w64 (a.x7 + 1)) (w64 (a.x11 + 1)) i0 (w64 (a.x11 + 1)) a.h0 (cu Qq a.x8 a.x11) a.h1_1 a.h1_2)))))) (lf Vp (QH.mk a.x0 a.x1 a.x7 (w64 (a.x11 + 1)) (w64 (a.x10 + 1)) (w64 (a.x11 + 1)) a.h0 (cu Qq a.x8 a.x11) a.h1_1 a.h1_2)))) (.ask (decide (a.x10 = ((1 : Nat) : Int))) (decide (a.x10 = 1)) (.yes u93 (.as ((gb Qq a.x11) == 124) (let u90 := (a.x7 == a.x0); .as u90 (yesN 4 u90 (.yes true (.yes (decide (i0 = ((0 : Nat) : Int))) (.no (decide ((zi 1) = ((0 : Nat) : Int))) (.yes (decide ((zi 1) = ((1 : Nat) : Int))) (.no (decide ((zi 2) = ((0 : Nat) : Int))) (.no (decide ((zi 2) = ((1 : Nat) : Int))) (.yes (decide ((zi 2) = ((2 : Nat) : Int))) (rx VH (.inl (QU.mk a.x7 true (QL.mk a.h1_0 (cu Qq a.x8 a.x11) a.h1_2)))))))))))) (.yes (decide (i0 = ((0 : Nat) : Int))) (noN 4 u90 (.as (eqS a.h1_0 a.x1) (.yes (decide (i0 = ((0 : Nat) : Int))) (.no (decide ((zi 1) = ((0 : Nat) : Int))) (.yes (decide ((zi 1) = ((1 : Nat) : Int))) (.no (decide ((zi 2) = ((0 : Nat) : Int))) (.no (decide ((zi 2) = ((1 : Nat) : Int))) (.yes (decide ((zi 2) = ((2 : Nat) : Int))) (rx VH (.inl (QU.mk a.x7 true (QL.mk a.h1_0 (cu Qq a.x8 a.x11) a.h1_2)))))))))) (lf Vp (QH.mk a.x0 a.x1 (w64 (a.x7 + 1)) (w64 (a.x11 + 1)) i0 (w64 (a.x11 + 1)) a.h0 a.h1_0 (cu Qq a.x8 a.x11) a.h1_2)))))) (lf Vp (QH.mk a.x0 a.x1 a.x7 (w64 (a.x11 + 1)) (w64 (a.x10 + 1)) (w64 (a.x11 + 1)) a.h0 a.h1_0 (cu Qq a.x8 a.x11) a.h1_2)))) (.ask (decide (a.x10 = ((2 : Nat) : Int))) (decide (a.x10 = 2)) (.yes u93 (.as ((gb Qq a.x11) == 124) (let u91 := (a.x7 == a.x0); .as u91 (yesN 4 u91 (.yes true (.yes (decide (i0 = ((0 : Nat) : Int))) (.no (decide ((zi 1) = ((0 : Nat) : Int))) (.yes (decide ((zi 1) = ((1 : Nat) : Int))) (.no (decide ((zi 2) = ((0 : Nat) : Int))) (.no (decide ((zi 2) = ((1 : Nat) : Int))) (.yes (decide ((zi 2) = ((2 : Nat) : Int))) (rx VH (.inl (QU.mk a.x7 true (QL.mk a.h1_0 a.h1_1 (cu Qq a.x8 a.x11))))))))))))) (.yes (decide (i0 = ((0 : Nat) : Int))) (noN 4 u91 (.as (eqS a.h1_0 a.x1) (.yes (decide (i0 = ((0 : Nat) : Int))) (.no (decide ((zi 1) = ((0 : Nat) : Int))) (.yes (decide ((zi 1) = ((1 : Nat) : Int))) (.no (decide ((zi 2) = ((0 : Nat) : Int))) (.no (decide ((zi 2) = ((1 : Nat) : Int))) (.yes (decide ((zi 2) = ((2 : Nat) : Int))) (rx VH (.inl (QU.mk a.x7 true (QL.mk a.h1_0 a.h1_1 (cu Qq a.x8 a.x11))))))))))) (lf Vp (QH.mk a.x0 a.x1 (w64 (a.x7 + 1)) (w64 (a.x11 + 1)) i0 (w64 (a.x11 + 1)) a.h0 a.h1_0 a.h1_1 (cu Qq a.x8 a.x11))))))) (lf Vp (QH.mk a.x0 a.x1 a.x7 (w64 (a.x11 + 1)) (w64 (a.x10 + 1)) (w64 (a.x11 + 1)) a.h0 a.h1_0 a.h1_1 (cu Qq a.x8 a.x11))))) .fail))) .fail)))) .fail) (rx VH (.inr a.h0)))
theorem U9.ok {a : QH} {r : (QU ⊕ QL)} (h : U9 a = some r) : lw 0 58 (loopAt pp 58 5) (Vp a) = some (VH r) := by
 refine lpP h QmR fun a => ?_
 exact ⟨rfl, fun q0 => ⟨rfl, fun q1 => ⟨rfl, fun q2 => ⟨q2, ⟨q1, Qj 2 (q2) (⟨rfl, fun q3 => rfl, fun q3 => ⟨rfl, fun q4 => ⟨rfl, fun q5 => ⟨q1, ⟨rfl, fun q6 => ⟨rfl, fun q7 => Qj 4 (q7) (⟨rfl, ⟨rfl, ⟨rfl, ⟨rfl, ⟨rfl, ⟨rfl, ⟨rfl, rfl⟩⟩⟩⟩⟩⟩⟩), fun q7 => ⟨rfl, noN_ok 4 (q7) (⟨rfl, fun q8 => ⟨rfl, ⟨rfl, ⟨rfl, ⟨rfl, ⟨rfl, ⟨rfl, rfl⟩⟩⟩⟩⟩⟩, fun q8 => rfl⟩)⟩⟩, fun q6 => rfl⟩⟩, fun q5 => ⟨rfl, fun q6 => ⟨q1, ⟨rfl, fun q7 => ⟨rfl, fun q8 => Qj 4 (q8) (⟨rfl, ⟨rfl, ⟨rfl, ⟨rfl, ⟨rfl, ⟨rfl, ⟨rfl, rfl⟩⟩⟩⟩⟩⟩⟩), fun q8 => ⟨rfl, noN_ok 4 (q8) (⟨rfl, fun q9 => ⟨rfl, ⟨rfl, ⟨rfl, ⟨rfl, ⟨rfl, ⟨rfl, rfl⟩⟩⟩⟩⟩⟩, fun q9 => rfl⟩)⟩⟩, fun q7 => rfl⟩⟩, fun q6 => ⟨rfl, fun q7 => ⟨q1, ⟨rfl, fun q8 => ⟨rfl, fun q9 => Qj 4 (q9) (⟨rfl, ⟨rfl, ⟨rfl, ⟨rfl, ⟨rfl, ⟨rfl, ⟨rfl, rfl⟩⟩⟩⟩⟩⟩⟩), fun q9 => ⟨rfl, noN_ok 4 (q9) (⟨rfl, fun q10 => ⟨rfl, ⟨rfl, ⟨rfl, ⟨rfl, ⟨rfl, ⟨rfl, rfl⟩⟩⟩⟩⟩⟩, fun q10 => rfl⟩)⟩⟩, fun q8 => rfl⟩⟩, fun q7 => trivial⟩⟩⟩, fun q4 => trivial⟩⟩)⟩⟩, fun q2 => noN_ok 3 (q2) (⟨rfl, ⟨rfl, fun q3 => ⟨rfl, fun q4 => ⟨q1, ⟨rfl, fun q5 => ⟨rfl, fun q6 => Qj 4 (q6) (⟨rfl, ⟨rfl, ⟨rfl, ⟨rfl, ⟨rfl, ⟨rfl, ⟨rfl, rfl⟩⟩⟩⟩⟩⟩⟩), fun q6 => ⟨rfl, noN_ok 4 (q6) (⟨rfl, fun q7 => ⟨rfl, ⟨rfl, ⟨rfl, ⟨rfl, ⟨rfl, ⟨rfl, rfl⟩⟩⟩⟩⟩⟩, fun q7 => rfl⟩)⟩⟩, fun q5 => rfl⟩⟩, fun q4 => ⟨rfl, fun q5 => ⟨q1, ⟨rfl, fun q6 => ⟨rfl, fun q7 => Qj 4 (q7) (⟨rfl, ⟨rfl, ⟨rfl, ⟨rfl, ⟨rfl, ⟨rfl, ⟨rfl, rfl⟩⟩⟩⟩⟩⟩⟩), fun q7 => ⟨rfl, noN_ok 4 (q7) (⟨rfl, fun q8 => ⟨rfl, ⟨rfl, ⟨rfl, ⟨rfl, ⟨rfl, ⟨rfl, rfl⟩⟩⟩⟩⟩⟩, fun q8 => rfl⟩)⟩⟩, fun q6 => rfl⟩⟩, fun q5 => ⟨rfl, fun q6 => ⟨q1, ⟨rfl, fun q7 => ⟨rfl, fun q8 => Qj 4 (q8) (⟨rfl, ⟨rfl, ⟨rfl, ⟨rfl, ⟨rfl, ⟨rfl, ⟨rfl, rfl⟩⟩⟩⟩⟩⟩⟩), fun q8 => ⟨rfl, noN_ok 4 (q8) (⟨rfl, fun q9 => ⟨rfl, ⟨rfl, ⟨rfl, ⟨rfl, ⟨rfl, ⟨rfl, rfl⟩⟩⟩⟩⟩⟩, fun q9 => rfl⟩)⟩⟩, fun q7 => rfl⟩⟩, fun q6 => trivial⟩⟩⟩, fun q3 => trivial⟩⟩)⟩, fun q1 => trivial⟩, fun q0 => rfl⟩
def Qf4 (L0 : QhJ) (a0 : Int) (a1 : ByteArray) : Option (QL × Int × Bool) := ((L0 (QH.mk a0 a1 (0 : Int) (0 : Int) (0 : Int) (0 : Int) (QL.mk s_ s_ s_) s_ s_ s_)).bind fun x => Sum.elim (fun (o1 : QU) => (some (o1.h0, o1.x5, o1.x6))) (fun (o2 : QL) => (some ((QL.mk s_ s_ s_), (0 : Int), false))) x)
noncomputable def XG : QdR := Qf4 U9
theorem XG.eq (a0 : Int) (a1 : ByteArray) : XG a0 a1 = Qf4 U9 a0 a1 := rfl
noncomputable def Qqz (a0 : Int) (a1 : ByteArray) : Tr (QL × Int × Bool) AH := (QmQ (QH.mk a0 a1 i0 i0 i0 i0 (QL.mk s_ s_ s_) s_ s_ s_) (fun o1 => (rt QbT (o1.h0, o1.x5, o1.x6))) (fun o2 => (rt QbT ((QL.mk s_ s_ s_), i0, false))))
theorem XG.ok {a0 : Int} {a1 : ByteArray} {r : (QL × Int × Bool)} (h : XG a0 a1 = some r) : ww 58 [xi a0, xs a1] [] = some (QbT r) := by
 refine fnP (Qqz a0 a1) ?_ h
 exact ⟨fun o1 h => ⟨U9.ok (r := (.inl _)) h, rfl⟩, fun o2 h => ⟨U9.ok (r := (.inr _)) h, rfl⟩⟩
noncomputable abbrev Qf5 {ρ R : Type} (a0 : Int) (a1 : ByteArray) (k : (QL × Int × Bool) → Tr ρ R) : Tr ρ R := .call (ww 58 [xi a0, xs a1] []) (XG a0 a1) QbT k
abbrev Qf6 := Int → Option ByteArray
def QdS (C0 : QdR) (a0 : Int) : Option ByteArray := ((C0 a0 h_20).bind fun r1 => (some r1.1.Kinds))
noncomputable def Xm : Qf6 := QdS XG
theorem Xm.eq (a0 : Int) : Xm a0 = QdS XG a0 := rfl
noncomputable def QpG (a0 : Int) : Tr ByteArray AH := (Qf5 a0 h_20 fun r1 => (rt Qk r1.1.Kinds))
theorem Xm.ok {a0 : Int} {r : ByteArray} (h : Xm a0 = some r) : ww 37 [xi a0] [] = some (Qk r) := by
 refine fnP (QpG a0) ?_ h
 exact fun r1 h => ⟨XG.ok h, rfl⟩
noncomputable abbrev Qjm {ρ R : Type} (a0 : Int) (k : ByteArray → Tr ρ R) : Tr ρ R := .call (ww 37 [xi a0] []) (Xm a0) Qk k
abbrev Qf7 := ByteArray → Option (List ByteArray)
structure JN where
 x0 : ByteArray
 x4 : Int
 x5 : Int
 r0 : (List ByteArray)
def Yi (a : JN) : St := { n := 35, nx := 1, env := [(0, xs a.x0), (3, .arr 0), (4, xi a.x4), (5, xi a.x5)], heap := [(0, .arr true 1 (Qg a.r0))] }
def SP (a : (List ByteArray)) : Ex × St := (.exit 0, { n := 35, nx := 1, env := [(3, .arr 0)], heap := [(0, .arr true 1 (Qg a))] })
abbrev GR := JN → Option (List ByteArray)
def SS (a : JN) : Option (JN ⊕ (List ByteArray)) := (bif (decide (a.x5 ≤ ((a.x0.size : Nat) : Int))) then (bif (a.x5 == ((a.x0.size : Nat) : Int)) then (bif (decide (a.x5 > a.x4)) then (bif (decide (0 ≤ a.x4 ∧ a.x4 ≤ a.x5 ∧ a.x5 ≤ ((a.x0.size : Nat) : Int))) then (bif (decide ((a.r0.length + [(a.x0.extract (Int.toNat a.x4) (Int.toNat a.x5))].length) * 16 ≤ most)) then (some (.inl (JN.mk a.x0 (w64 (a.x5 + 1)) (w64 (a.x5 + 1)) (a.r0 ++ [(a.x0.extract (Int.toNat a.x4) (Int.toNat a.x5))])))) else none) else none) else (some (.inl (JN.mk a.x0 (w64 (a.x5 + 1)) (w64 (a.x5 + 1)) a.r0)))) else (bif (decide (0 ≤ a.x5 ∧ a.x5 < ((a.x0.size : Nat) : Int))) then (bif (((a.x0.data.getD (Int.toNat a.x5) 0).toNat : Int) == 32) then (bif (decide (a.x5 > a.x4)) then (bif (decide (0 ≤ a.x4 ∧ a.x4 ≤ a.x5 ∧ a.x5 ≤ ((a.x0.size : Nat) : Int))) then (bif (decide ((a.r0.length + [(a.x0.extract (Int.toNat a.x4) (Int.toNat a.x5))].length) * 16 ≤ most)) then (some (.inl (JN.mk a.x0 (w64 (a.x5 + 1)) (w64 (a.x5 + 1)) (a.r0 ++ [(a.x0.extract (Int.toNat a.x4) (Int.toNat a.x5))])))) else none) else none) else (some (.inl (JN.mk a.x0 (w64 (a.x5 + 1)) (w64 (a.x5 + 1)) a.r0)))) else (some (.inl (JN.mk a.x0 a.x4 (w64 (a.x5 + 1)) a.r0)))) else none)) else (some (.inr a.r0)))
noncomputable def Xw.s (k : Nat) : GR := iter (SS ) k
theorem Xw.cv (a : JN) : Cv (fun k => Xw.s k a) (loopW (SS ) a) := Cv.iter (fun a => by exact .const _) a
noncomputable def Xw : GR := loopW (SS )
noncomputable abbrev QlE {ρ R : Type} (a : JN) (k0 : (List ByteArray) → Tr ρ R) : Tr ρ R := .loop (loopAt pp 36 4) (Yi a) (Xw a) SP k0
noncomputable def QlF (a : JN) : Tr (JN ⊕ (List ByteArray)) XS := (.as (decide (a.x5 ≤ (zz a.x0))) (let u94 := (a.x5 == (zz a.x0)); .as u94 (yesN 4 u94 (.yes true (.as (decide (a.x5 > a.x4)) (.as (in2 a.x4 a.x5 (zz a.x0)) (.rows [[xs (cu a.x0 a.x4 a.x5)]] (Qg [(cu a.x0 a.x4 a.x5)]) (.yes (decide ((Qg [(cu a.x0 a.x4 a.x5)]).all (fun r => r.length == 1) = true)) (.ask (decide (((Qg a.r0).length + (Qg [(cu a.x0 a.x4 a.x5)]).length) * 16 ≤ most)) (decide ((a.r0.length + [(cu a.x0 a.x4 a.x5)].length) * 16 ≤ most)) (.rows ((Qg a.r0) ++ (Qg [(cu a.x0 a.x4 a.x5)])) (Qg (a.r0 ++ [(cu a.x0 a.x4 a.x5)])) (lf Yi (JN.mk a.x0 (w64 (a.x5 + 1)) (w64 (a.x5 + 1)) (a.r0 ++ [(cu a.x0 a.x4 a.x5)])))) .fail))) .fail) (lf Yi (JN.mk a.x0 (w64 (a.x5 + 1)) (w64 (a.x5 + 1)) a.r0))))) (noN 2 u94 (.as (in1 a.x5 (zz a.x0)) (noN 2 u94 (.as ((gb a.x0 a.x5) == 32) (.as (decide (a.x5 > a.x4)) (.as (in2 a.x4 a.x5 (zz a.x0)) (.rows [[xs (cu a.x0 a.x4 a.x5)]] (Qg [(cu a.x0 a.x4 a.x5)]) (.yes (decide ((Qg [(cu a.x0 a.x4 a.x5)]).all (fun r => r.length == 1) = true)) (.ask (decide (((Qg a.r0).length + (Qg [(cu a.x0 a.x4 a.x5)]).length) * 16 ≤ most)) (decide ((a.r0.length + [(cu a.x0 a.x4 a.x5)].length) * 16 ≤ most)) (.rows ((Qg a.r0) ++ (Qg [(cu a.x0 a.x4 a.x5)])) (Qg (a.r0 ++ [(cu a.x0 a.x4 a.x5)])) (lf Yi (JN.mk a.x0 (w64 (a.x5 + 1)) (w64 (a.x5 + 1)) (a.r0 ++ [(cu a.x0 a.x4 a.x5)])))) .fail))) .fail) (lf Yi (JN.mk a.x0 (w64 (a.x5 + 1)) (w64 (a.x5 + 1)) a.r0))) (lf Yi (JN.mk a.x0 a.x4 (w64 (a.x5 + 1)) a.r0)))) .fail))) (rx SP a.r0))
theorem Xw.ok {a : JN} {r : (List ByteArray)} (h : Xw a = some r) : lw 0 36 (loopAt pp 36 4) (Yi a) = some (SP r) := by
 refine lpP h QlF fun a => ?_
 exact ⟨rfl, fun q0 => ⟨rfl, fun q1 => Qj 4 (q1) (⟨rfl, ⟨rfl, fun q2 => ⟨rfl, fun q3 => ⟨(QP [(a.x0.extract (Int.toNat a.x4) (Int.toNat a.x5))]), ⟨(decide_eq_true (J6 _)), ⟨(by rw [Qo, Qo]), fun q4 => ⟨(UT _ _), rfl⟩, fun q4 => trivial⟩⟩⟩, fun q3 => trivial⟩, fun q2 => rfl⟩⟩), fun q1 => noN_ok 2 (q1) (⟨rfl, fun q2 => noN_ok 2 (q1) (⟨rfl, fun q3 => ⟨rfl, fun q4 => ⟨rfl, fun q5 => ⟨(QP [(a.x0.extract (Int.toNat a.x4) (Int.toNat a.x5))]), ⟨(decide_eq_true (J6 _)), ⟨(by rw [Qo, Qo]), fun q6 => ⟨(UT _ _), rfl⟩, fun q6 => trivial⟩⟩⟩, fun q5 => trivial⟩, fun q4 => rfl⟩, fun q3 => rfl⟩), fun q2 => trivial⟩)⟩, fun q0 => rfl⟩
def FT (L0 : GR) (a0 : ByteArray) : Option (List ByteArray) := ((L0 (JN.mk a0 (0 : Int) (0 : Int) ([] : List ByteArray))).bind (fun (o1 : (List ByteArray)) => (some o1)))
theorem QpH {L0 : Nat → GR} {M0 : GR} (N0 : Cv1 L0 M0) (a0 : ByteArray) : Cv (fun k => FT (L0 k) a0) (FT M0 a0) := by
 unfold FT
 exact .bind (N0 _) (fun o1 => by exact .const _)
noncomputable def V2 : Qf7 := FT Xw
noncomputable def QpI (a0 : ByteArray) : Tr (List ByteArray) AH := (QlE (JN.mk a0 i0 i0 ([] : List ByteArray)) (fun o1 => (rt Jd o1)))
theorem V2.ok {a0 : ByteArray} {r : (List ByteArray)} (h : V2 a0 = some r) : ww 36 [xs a0] [] = some (Jd r) := by
 refine fnP (QpI a0) ?_ h
 exact fun o1 h => ⟨Xw.ok h, rfl⟩
noncomputable abbrev Qjn {ρ R : Type} (a0 : ByteArray) (k : (List ByteArray) → Tr ρ R) : Tr ρ R := .call (ww 36 [xs a0] []) (V2 a0) Jd k
noncomputable def V2.s : Nat → ByteArray → Option (List ByteArray)
 | 0, _ => none
 | k + 1, a0 => FT (Xw.s k) a0
theorem V2.cv (a0 : ByteArray) : Cv (fun k => V2.s k a0) (V2 a0) := .un rfl (QpH Xw.cv a0)
abbrev PE := QG → Int → Option Int
def FU (a0 : QG) (a1 : Int) : Option Int := (bif (decide (a1 < (((a0.Ns.length) : Nat) : Int))) then (bif (decide (0 ≤ a1)) then ((a0.Ns[(Int.toNat a1)]?).bind fun e1 => (some e1)) else none) else (some (w64 (a0.A + a1))))
noncomputable def U0 : PE := FU
theorem U0.eq (a0 : QG) (a1 : Int) : U0 a0 a1 = FU a0 a1 := rfl
noncomputable def Qjo (a0 : QG) (a1 : Int) : Tr Int AH := (.num ((Q8 a0.Ns).length) (a0.Ns.length) (.as (decide (a1 < (((a0.Ns.length) : Nat) : Int))) (.as (decide (0 ≤ a1)) (.row ((Q8 a0.Ns)[(Int.toNat a1)]?) (a0.Ns[(Int.toNat a1)]?) Xi fun (e1 : Int) => (rt Qm e1)) .fail) (rt Qm (w64 (a0.A + a1)))))
theorem U0.ok {a0 : QG} {a1 : Int} {r : Int} (h : U0 a0 a1 = some r) : ww 63 [.agg (Wi a0), xi a1] [] = some (Qm r) := by
 refine fnP (Qjo a0 a1) ?_ h
 exact ⟨(Va _), ⟨rfl, fun q0 => ⟨rfl, fun q1 => fun e1 h => ⟨Vu h, rfl⟩, fun q1 => trivial⟩, fun q0 => rfl⟩⟩
noncomputable abbrev QbU {ρ R : Type} (a0 : QG) (a1 : Int) (k : Int → Tr ρ R) : Tr ρ R := .call (ww 63 [.agg (Wi a0), xi a1] []) (U0 a0 a1) Qm k
abbrev Qbl := ByteArray → Option Bool
structure UG where
 x0 : ByteArray
 x3 : Int
def ES (a : UG) : St := { n := 28, nx := 0, env := [(0, xs a.x0), (3, xi a.x3)], heap := [] }
def Qab (a : Bool) : Ex × St := (.ret, { n := 28, nx := 0, env := [(2, xo a)], heap := [] })
def Qac (a : Unit) : Ex × St := (.exit 0, { n := 28, nx := 0, env := [], heap := [] })
def Ga (a : (Bool ⊕ Unit)) : Ex × St := Sum.elim Qab Qac a
abbrev Zi := UG → Option (Bool ⊕ Unit)
def ET (a : UG) : Option (UG ⊕ (Bool ⊕ Unit)) := (bif (decide ((w64 ((w64 (a.x3 + ((a.x0.size : Nat) : Int))) + 2)) ≤ 11)) then (bif (decide (((a.x0.size : Nat) : Int) > 0)) then (bif (decide (0 ≤ a.x3 ∧ a.x3 ≤ (w64 ((w64 (a.x3 + ((a.x0.size : Nat) : Int))) + 2)) ∧ (w64 ((w64 (a.x3 + ((a.x0.size : Nat) : Int))) + 2)) ≤ ((UN.size : Nat) : Int))) then (bif (decide (((h_20.size + a.x0.size : Nat) : Int) ≤ IntKind.i64.max)) then (bif (decide ((((h_20 ++ a.x0).size + h_20.size : Nat) : Int) ≤ IntKind.i64.max)) then (bif (eqS (UN.extract (Int.toNat a.x3) (Int.toNat (w64 ((w64 (a.x3 + ((a.x0.size : Nat) : Int))) + 2)))) ((h_20 ++ a.x0) ++ h_20)) then (some (.inr (.inl true))) else (some (.inl (UG.mk a.x0 (w64 (a.x3 + 1)))))) else none) else none) else none) else (some (.inr (.inr ())))) else (some (.inr (.inr ()))))
noncomputable def V3.s (k : Nat) : Zi := iter (ET ) k
theorem V3.cv (a : UG) : Cv (fun k => V3.s k a) (loopW (ET ) a) := Cv.iter (fun a => by exact .const _) a
noncomputable def V3 : Zi := loopW (ET )
noncomputable abbrev Qim {ρ R : Type} (a : UG) (k0 : Bool → Tr ρ R) (k1 : Unit → Tr ρ R) : Tr ρ R := .loop2 (loopAt pp 39 2) (ES a) (V3 a) Qab Qac k0 k1
noncomputable def Qin (a : UG) : Tr (UG ⊕ (Bool ⊕ Unit)) XS := (let u95 := (decide ((w64 ((w64 (a.x3 + (zz a.x0))) + 2)) ≤ 11)); .as u95 (yesN 3 u95 (.as (decide ((zz a.x0) > 0)) (.as (in2 a.x3 (w64 ((w64 (a.x3 + (zz a.x0))) + 2)) (zz UN)) (.as (decide (((h_20.size + a.x0.size : Nat) : Int) ≤ IntKind.i64.max)) (.as (decide ((((h_20 ++ a.x0).size + h_20.size : Nat) : Int) ≤ IntKind.i64.max)) (.as (eqS (cu UN a.x3 (w64 ((w64 (a.x3 + (zz a.x0))) + 2))) ((h_20 ++ a.x0) ++ h_20)) (rx Ga (.inl true)) (lf ES (UG.mk a.x0 (w64 (a.x3 + 1))))) .fail) .fail) .fail) (rx Ga (.inr ())))) (noN 3 u95 (.no false (rx Ga (.inr ())))))
theorem V3.ok {a : UG} {r : (Bool ⊕ Unit)} (h : V3 a = some r) : lw 0 39 (loopAt pp 39 2) (ES a) = some (Ga r) := by
 refine lpP h Qin fun a => ?_
 exact ⟨rfl, fun q0 => Qj 3 (q0) (⟨rfl, fun q1 => ⟨rfl, fun q2 => ⟨rfl, fun q3 => ⟨rfl, fun q4 => ⟨rfl, fun q5 => rfl, fun q5 => rfl⟩, fun q4 => trivial⟩, fun q3 => trivial⟩, fun q2 => trivial⟩, fun q1 => rfl⟩), fun q0 => noN_ok 3 (q0) (⟨rfl, rfl⟩)⟩
def Gg (L0 : Zi) (a0 : ByteArray) : Option Bool := ((L0 (UG.mk a0 (0 : Int))).bind fun x => Sum.elim (fun (o1 : Bool) => (some o1)) (fun (o2 : Unit) => (some false)) x)
theorem QlG {L0 : Nat → Zi} {M0 : Zi} (N0 : Cv1 L0 M0) (a0 : ByteArray) : Cv (fun k => Gg (L0 k) a0) (Gg M0 a0) := by
 unfold Gg
 exact .bind (N0 _) fun x => .sum (fun o1 => by exact .const _) (fun o2 => by exact .const _) x
noncomputable def JE : Qbl := Gg V3
noncomputable def QlH (a0 : ByteArray) : Tr Bool AH := (Qim (UG.mk a0 i0) (fun o1 => (rt Ql o1)) (fun o2 => (rt Ql false)))
theorem JE.ok {a0 : ByteArray} {r : Bool} (h : JE a0 = some r) : ww 39 [xs a0] [] = some (Ql r) := by
 refine fnP (QlH a0) ?_ h
 exact ⟨fun o1 h => ⟨V3.ok (r := (.inl _)) h, rfl⟩, fun o2 h => ⟨V3.ok (r := (.inr _)) h, rfl⟩⟩
noncomputable abbrev Qex {ρ R : Type} (a0 : ByteArray) (k : Bool → Tr ρ R) : Tr ρ R := .call (ww 39 [xs a0] []) (JE a0) Ql k
noncomputable def JE.s : Nat → ByteArray → Option Bool
 | 0, _ => none
 | k + 1, a0 => Gg (V3.s k) a0
theorem JE.cv (a0 : ByteArray) : Cv (fun k => JE.s k a0) (JE a0) := .un rfl (QlG V3.cv a0)
abbrev Qf8 := ByteArray → Option Bool
def EN (C0 : Qbl) (a0 : ByteArray) : Option Bool := ((C0 a0).bind fun r1 => (some r1))
noncomputable def WQ : Qf8 := EN JE
theorem WQ.eq (a0 : ByteArray) : WQ a0 = EN JE a0 := rfl
noncomputable def QlI (a0 : ByteArray) : Tr Bool AH := (Qex a0 fun r1 => (rt Ql r1))
theorem WQ.ok {a0 : ByteArray} {r : Bool} (h : WQ a0 = some r) : ww 106 [xs a0] [] = some (Ql r) := by
 refine fnP (QlI a0) ?_ h
 exact fun r1 h => ⟨JE.ok h, rfl⟩
noncomputable abbrev QlJ {ρ R : Type} (a0 : ByteArray) (k : Bool → Tr ρ R) : Tr ρ R := .call (ww 106 [xs a0] []) (WQ a0) Ql k
abbrev Qjp := Int → Int → Option Int
def QhK (a0 : Int) (a1 : Int) : Option Int := (bif (decide (a1 ≠ 0)) then (bif (decide ((Int.tmod a0 a1) < 0)) then (some (w64 ((Int.tmod a0 a1) + a1))) else (some (Int.tmod a0 a1))) else none)
noncomputable def Wg : Qjp := QhK
theorem Wg.eq (a0 : Int) (a1 : Int) : Wg a0 a1 = QhK a0 a1 := rfl
noncomputable def Qn9 (a0 : Int) (a1 : Int) : Tr Int AH := (.as (decide (a1 ≠ 0)) (.as (decide ((Int.tmod a0 a1) < 0)) (rt Qm (w64 ((Int.tmod a0 a1) + a1))) (rt Qm (Int.tmod a0 a1))) .fail)
theorem Wg.ok {a0 : Int} {a1 : Int} {r : Int} (h : Wg a0 a1 = some r) : ww 84 [xi a0, xi a1] [] = some (Qm r) := by
 refine fnP (Qn9 a0 a1) ?_ h
 exact ⟨rfl, fun q0 => ⟨rfl, fun q1 => rfl, fun q1 => rfl⟩, fun q0 => trivial⟩
noncomputable abbrev Yy {ρ R : Type} (a0 : Int) (a1 : Int) (k : Int → Tr ρ R) : Tr ρ R := .call (ww 84 [xi a0, xi a1] []) (Wg a0 a1) Qm k
abbrev QhL := ByteArray → Int → Option Int
def FV (C0 : Qjp) (a0 : ByteArray) (a1 : Int) : Option Int := ((C0 a1 (9 : Int)).bind fun r1 => (bif (eqS a0 s_X) then (bif (decide (0 ≤ r1 ∧ r1 < (([(0 : Int), (1 : Int), (7 : Int), (24 : Int), (31 : Int), (5 : Int), (28 : Int), (3 : Int), (30 : Int)].length : Nat) : Int))) then (([(0 : Int), (1 : Int), (7 : Int), (24 : Int), (31 : Int), (5 : Int), (28 : Int), (3 : Int), (30 : Int)][(Int.toNat r1)]?).bind fun e2 => (some e2)) else none) else (bif (eqS a0 s_Y) then (bif (decide (0 ≤ r1 ∧ r1 < (([(0 : Int), (1 : Int), (7 : Int), (24 : Int), (31 : Int), (5 : Int), (28 : Int), (3 : Int), (30 : Int)].length : Nat) : Int))) then (([(0 : Int), (1 : Int), (7 : Int), (24 : Int), (31 : Int), (5 : Int), (28 : Int), (3 : Int), (30 : Int)][(Int.toNat r1)]?).bind fun e3 => (some e3)) else none) else (bif (eqS a0 s_D) then (bif (decide (0 ≤ r1 ∧ r1 < (([(0 : Int), (31 : Int), (1 : Int), (15 : Int), (16 : Int), (7 : Int), (30 : Int), (12 : Int), (3 : Int)].length : Nat) : Int))) then (([(0 : Int), (31 : Int), (1 : Int), (15 : Int), (16 : Int), (7 : Int), (30 : Int), (12 : Int), (3 : Int)][(Int.toNat r1)]?).bind fun e4 => (some e4)) else none) else (bif (eqS a0 s_A) then (bif (decide (0 ≤ r1 ∧ r1 < (([(0 : Int), (31 : Int), (1 : Int), (15 : Int), (16 : Int), (7 : Int), (30 : Int), (12 : Int), (3 : Int)].length : Nat) : Int))) then (([(0 : Int), (31 : Int), (1 : Int), (15 : Int), (16 : Int), (7 : Int), (30 : Int), (12 : Int), (3 : Int)][(Int.toNat r1)]?).bind fun e5 => (some e5)) else none) else (bif (eqS a0 s_B) then (bif (decide (0 ≤ r1 ∧ r1 < (([(0 : Int), (31 : Int), (1 : Int), (15 : Int), (16 : Int), (7 : Int), (30 : Int), (12 : Int), (3 : Int)].length : Nat) : Int))) then (([(0 : Int), (31 : Int), (1 : Int), (15 : Int), (16 : Int), (7 : Int), (30 : Int), (12 : Int), (3 : Int)][(Int.toNat r1)]?).bind fun e6 => (some e6)) else none) else (bif (eqS a0 s_U5) then (bif (decide (0 ≤ r1 ∧ r1 < (([(0 : Int), (31 : Int), (1 : Int), (15 : Int), (16 : Int), (7 : Int), (30 : Int), (12 : Int), (3 : Int)].length : Nat) : Int))) then (([(0 : Int), (31 : Int), (1 : Int), (15 : Int), (16 : Int), (7 : Int), (30 : Int), (12 : Int), (3 : Int)][(Int.toNat r1)]?).bind fun e7 => (some e7)) else none) else (bif (eqS a0 s_U7) then (bif (decide (0 ≤ r1 ∧ r1 < (([(0 : Int), (127 : Int), (64 : Int), (1 : Int), (63 : Int), (100 : Int), (7 : Int), (15 : Int), (16 : Int)].length : Nat) : Int))) then (([(0 : Int), (127 : Int), (64 : Int), (1 : Int), (63 : Int), (100 : Int), (7 : Int), (15 : Int), (16 : Int)][(Int.toNat r1)]?).bind fun e8 => (some e8)) else none) else (bif (eqS a0 s_O5) then (bif (decide (0 ≤ r1 ∧ r1 < (([(1 : Int), (32 : Int), (2 : Int), (16 : Int), (31 : Int), (17 : Int), (8 : Int), (5 : Int), (30 : Int)].length : Nat) : Int))) then (([(1 : Int), (32 : Int), (2 : Int), (16 : Int), (31 : Int), (17 : Int), (8 : Int), (5 : Int), (30 : Int)][(Int.toNat r1)]?).bind fun e9 => (some e9)) else none) else (bif (eqS a0 s_M1) then (bif (decide (0 ≤ r1 ∧ r1 < (([(0 : Int), (15 : Int), (1 : Int), (7 : Int), (8 : Int), (4 : Int), (12 : Int), (3 : Int), (14 : Int)].length : Nat) : Int))) then (([(0 : Int), (15 : Int), (1 : Int), (7 : Int), (8 : Int), (4 : Int), (12 : Int), (3 : Int), (14 : Int)][(Int.toNat r1)]?).bind fun e10 => (some e10)) else none) else (bif (eqS a0 s_I4) then (bif (decide (0 ≤ r1 ∧ r1 < (([(0 : Int), (15 : Int), (1 : Int), (7 : Int), (8 : Int), (4 : Int), (12 : Int), (3 : Int), (14 : Int)].length : Nat) : Int))) then (([(0 : Int), (15 : Int), (1 : Int), (7 : Int), (8 : Int), (4 : Int), (12 : Int), (3 : Int), (14 : Int)][(Int.toNat r1)]?).bind fun e11 => (some e11)) else none) else (bif (eqS a0 s_M2) then (bif (decide (0 ≤ r1 ∧ r1 < (([(0 : Int), (15 : Int), (1 : Int), (7 : Int), (8 : Int), (4 : Int), (12 : Int), (3 : Int), (14 : Int)].length : Nat) : Int))) then (([(0 : Int), (15 : Int), (1 : Int), (7 : Int), (8 : Int), (4 : Int), (12 : Int), (3 : Int), (14 : Int)][(Int.toNat r1)]?).bind fun e12 => (some (w64 ((2 : Int) * e12)))) else none) else (bif (eqS a0 s_M4) then (bif (decide (0 ≤ r1 ∧ r1 < (([(0 : Int), (15 : Int), (1 : Int), (7 : Int), (8 : Int), (4 : Int), (12 : Int), (3 : Int), (14 : Int)].length : Nat) : Int))) then (([(0 : Int), (15 : Int), (1 : Int), (7 : Int), (8 : Int), (4 : Int), (12 : Int), (3 : Int), (14 : Int)][(Int.toNat r1)]?).bind fun e13 => (some (w64 ((4 : Int) * e13)))) else none) else (bif (eqS a0 s_O1) then ((C0 a1 (2 : Int)).bind fun r14 => (some r14)) else (bif (eqS a0 s_I2) then ((C0 a1 (4 : Int)).bind fun r15 => (some r15)) else (bif (eqS a0 s_O2) then ((C0 a1 (4 : Int)).bind fun r16 => (some r16)) else (bif (eqS a0 s_T8) then ((C0 a1 (256 : Int)).bind fun r17 => (some (w64 ((2 : Int) * (w64 (r17 - 128)))))) else (bif (eqS a0 Qsn) then (bif (decide (0 ≤ r1 ∧ r1 < (([(0 : Int), (32767 : Int), (-32768 : Int), (-1 : Int), (1 : Int), (255 : Int), (-256 : Int), (4660 : Int), (-4660 : Int)].length : Nat) : Int))) then (([(0 : Int), (32767 : Int), (-32768 : Int), (-1 : Int), (1 : Int), (255 : Int), (-256 : Int), (4660 : Int), (-4660 : Int)][(Int.toNat r1)]?).bind fun e18 => (some e18)) else none) else (bif (eqS a0 Qsm) then ((C0 a1 (1048576 : Int)).bind fun r19 => (some (w64 (r19 - 524288)))) else (bif (eqS a0 Qso) then ((C0 a1 (32768 : Int)).bind fun r20 => (some (w64 ((2 : Int) * (w64 (r20 - 16384)))))) else (bif (eqS a0 EJ) then ((C0 a1 (16777216 : Int)).bind fun r21 => (some (w64 ((2 : Int) * (w64 (r21 - 8388608)))))) else (bif (decide (0 ≤ r1 ∧ r1 < (([(0 : Int), (255 : Int), (256 : Int), (65280 : Int), (-1 : Int), (-2 : Int), (16711680 : Int), (-256 : Int), (2130706432 : Int)].length : Nat) : Int))) then (([(0 : Int), (255 : Int), (256 : Int), (65280 : Int), (-1 : Int), (-2 : Int), (16711680 : Int), (-256 : Int), (2130706432 : Int)][(Int.toNat r1)]?).bind fun e22 => (some e22)) else none))))))))))))))))))))))
noncomputable def Wp : QhL := FV Wg
theorem Wp.eq (a0 : ByteArray) (a1 : Int) : Wp a0 a1 = FV Wg a0 a1 := rfl
noncomputable def QmS (a0 : ByteArray) (a1 : Int) : Tr Int AH := (Yy a1 (zi 9) fun r1 => (let u101 := (eqS a0 s_X); .as u101 (.yes u101 (.rows [[xi i0], [xi (zi 1)], [xi (zi 7)], [xi (zi 24)], [xi (zi 31)], [xi (zi 5)], [xi (zi 28)], [xi (zi 3)], [xi (zi 30)]] (Q8 [i0, (zi 1), (zi 7), (zi 24), (zi 31), (zi 5), (zi 28), (zi 3), (zi 30)]) (.ask (in1 r1 (((Q8 [i0, (zi 1), (zi 7), (zi 24), (zi 31), (zi 5), (zi 28), (zi 3), (zi 30)]).length : Nat) : Int)) (in1 r1 (([i0, (zi 1), (zi 7), (zi 24), (zi 31), (zi 5), (zi 28), (zi 3), (zi 30)].length : Nat) : Int)) (.row ((Q8 [i0, (zi 1), (zi 7), (zi 24), (zi 31), (zi 5), (zi 28), (zi 3), (zi 30)])[(Int.toNat r1)]?) ([i0, (zi 1), (zi 7), (zi 24), (zi 31), (zi 5), (zi 28), (zi 3), (zi 30)][(Int.toNat r1)]?) Xi fun (e2 : Int) => (rt Qm e2)) .fail))) (.as (eqS a0 s_Y) (.rows [[xi i0], [xi (zi 1)], [xi (zi 7)], [xi (zi 24)], [xi (zi 31)], [xi (zi 5)], [xi (zi 28)], [xi (zi 3)], [xi (zi 30)]] (Q8 [i0, (zi 1), (zi 7), (zi 24), (zi 31), (zi 5), (zi 28), (zi 3), (zi 30)]) (.ask (in1 r1 (((Q8 [i0, (zi 1), (zi 7), (zi 24), (zi 31), (zi 5), (zi 28), (zi 3), (zi 30)]).length : Nat) : Int)) (in1 r1 (([i0, (zi 1), (zi 7), (zi 24), (zi 31), (zi 5), (zi 28), (zi 3), (zi 30)].length : Nat) : Int)) (.row ((Q8 [i0, (zi 1), (zi 7), (zi 24), (zi 31), (zi 5), (zi 28), (zi 3), (zi 30)])[(Int.toNat r1)]?) ([i0, (zi 1), (zi 7), (zi 24), (zi 31), (zi 5), (zi 28), (zi 3), (zi 30)][(Int.toNat r1)]?) Xi fun (e3 : Int) => (rt Qm e3)) .fail)) (let u100 := (eqS a0 s_D); .as u100 (.yes u100 (.rows [[xi i0], [xi (zi 31)], [xi (zi 1)], [xi (zi 15)], [xi (zi 16)], [xi (zi 7)], [xi (zi 30)], [xi (zi 12)], [xi (zi 3)]] (Q8 [i0, (zi 31), (zi 1), (zi 15), (zi 16), (zi 7), (zi 30), (zi 12), (zi 3)]) (.ask (in1 r1 (((Q8 [i0, (zi 31), (zi 1), (zi 15), (zi 16), (zi 7), (zi 30), (zi 12), (zi 3)]).length : Nat) : Int)) (in1 r1 (([i0, (zi 31), (zi 1), (zi 15), (zi 16), (zi 7), (zi 30), (zi 12), (zi 3)].length : Nat) : Int)) (.row ((Q8 [i0, (zi 31), (zi 1), (zi 15), (zi 16), (zi 7), (zi 30), (zi 12), (zi 3)])[(Int.toNat r1)]?) ([i0, (zi 31), (zi 1), (zi 15), (zi 16), (zi 7), (zi 30), (zi 12), (zi 3)][(Int.toNat r1)]?) Xi fun (e4 : Int) => (rt Qm e4)) .fail))) (let u99 := (eqS a0 s_A); .as u99 (.yes u99 (.rows [[xi i0], [xi (zi 31)], [xi (zi 1)], [xi (zi 15)], [xi (zi 16)], [xi (zi 7)], [xi (zi 30)], [xi (zi 12)], [xi (zi 3)]] (Q8 [i0, (zi 31), (zi 1), (zi 15), (zi 16), (zi 7), (zi 30), (zi 12), (zi 3)]) (.ask (in1 r1 (((Q8 [i0, (zi 31), (zi 1), (zi 15), (zi 16), (zi 7), (zi 30), (zi 12), (zi 3)]).length : Nat) : Int)) (in1 r1 (([i0, (zi 31), (zi 1), (zi 15), (zi 16), (zi 7), (zi 30), (zi 12), (zi 3)].length : Nat) : Int)) (.row ((Q8 [i0, (zi 31), (zi 1), (zi 15), (zi 16), (zi 7), (zi 30), (zi 12), (zi 3)])[(Int.toNat r1)]?) ([i0, (zi 31), (zi 1), (zi 15), (zi 16), (zi 7), (zi 30), (zi 12), (zi 3)][(Int.toNat r1)]?) Xi fun (e5 : Int) => (rt Qm e5)) .fail))) (let u98 := (eqS a0 s_B); .as u98 (.yes u98 (.rows [[xi i0], [xi (zi 31)], [xi (zi 1)], [xi (zi 15)], [xi (zi 16)], [xi (zi 7)], [xi (zi 30)], [xi (zi 12)], [xi (zi 3)]] (Q8 [i0, (zi 31), (zi 1), (zi 15), (zi 16), (zi 7), (zi 30), (zi 12), (zi 3)]) (.ask (in1 r1 (((Q8 [i0, (zi 31), (zi 1), (zi 15), (zi 16), (zi 7), (zi 30), (zi 12), (zi 3)]).length : Nat) : Int)) (in1 r1 (([i0, (zi 31), (zi 1), (zi 15), (zi 16), (zi 7), (zi 30), (zi 12), (zi 3)].length : Nat) : Int)) (.row ((Q8 [i0, (zi 31), (zi 1), (zi 15), (zi 16), (zi 7), (zi 30), (zi 12), (zi 3)])[(Int.toNat r1)]?) ([i0, (zi 31), (zi 1), (zi 15), (zi 16), (zi 7), (zi 30), (zi 12), (zi 3)][(Int.toNat r1)]?) Xi fun (e6 : Int) => (rt Qm e6)) .fail))) (.as (eqS a0 s_U5) (.rows [[xi i0], [xi (zi 31)], [xi (zi 1)], [xi (zi 15)], [xi (zi 16)], [xi (zi 7)], [xi (zi 30)], [xi (zi 12)], [xi (zi 3)]] (Q8 [i0, (zi 31), (zi 1), (zi 15), (zi 16), (zi 7), (zi 30), (zi 12), (zi 3)]) (.ask (in1 r1 (((Q8 [i0, (zi 31), (zi 1), (zi 15), (zi 16), (zi 7), (zi 30), (zi 12), (zi 3)]).length : Nat) : Int)) (in1 r1 (([i0, (zi 31), (zi 1), (zi 15), (zi 16), (zi 7), (zi 30), (zi 12), (zi 3)].length : Nat) : Int)) (.row ((Q8 [i0, (zi 31), (zi 1), (zi 15), (zi 16), (zi 7), (zi 30), (zi 12), (zi 3)])[(Int.toNat r1)]?) ([i0, (zi 31), (zi 1), (zi 15), (zi 16), (zi 7), (zi 30), (zi 12), (zi 3)][(Int.toNat r1)]?) Xi fun (e7 : Int) => (rt Qm e7)) .fail)) (.as (eqS a0 s_U7) (.rows [[xi i0], [xi (zi 127)], [xi (zi 64)], [xi (zi 1)], [xi (zi 63)], [xi (zi 100)], [xi (zi 7)], [xi (zi 15)], [xi (zi 16)]] (Q8 [i0, (zi 127), (zi 64), (zi 1), (zi 63), (zi 100), (zi 7), (zi 15), (zi 16)]) (.ask (in1 r1 (((Q8 [i0, (zi 127), (zi 64), (zi 1), (zi 63), (zi 100), (zi 7), (zi 15), (zi 16)]).length : Nat) : Int)) (in1 r1 (([i0, (zi 127), (zi 64), (zi 1), (zi 63), (zi 100), (zi 7), (zi 15), (zi 16)].length : Nat) : Int)) (.row ((Q8 [i0, (zi 127), (zi 64), (zi 1), (zi 63), (zi 100), (zi 7), (zi 15), (zi 16)])[(Int.toNat r1)]?) ([i0, (zi 127), (zi 64), (zi 1), (zi 63), (zi 100), (zi 7), (zi 15), (zi 16)][(Int.toNat r1)]?) Xi fun (e8 : Int) => (rt Qm e8)) .fail)) (.as (eqS a0 s_O5) (.rows [[xi (zi 1)], [xi (zi 32)], [xi (zi 2)], [xi (zi 16)], [xi (zi 31)], [xi (zi 17)], [xi (zi 8)], [xi (zi 5)], [xi (zi 30)]] (Q8 [(zi 1), (zi 32), (zi 2), (zi 16), (zi 31), (zi 17), (zi 8), (zi 5), (zi 30)]) (.ask (in1 r1 (((Q8 [(zi 1), (zi 32), (zi 2), (zi 16), (zi 31), (zi 17), (zi 8), (zi 5), (zi 30)]).length : Nat) : Int)) (in1 r1 (([(zi 1), (zi 32), (zi 2), (zi 16), (zi 31), (zi 17), (zi 8), (zi 5), (zi 30)].length : Nat) : Int)) (.row ((Q8 [(zi 1), (zi 32), (zi 2), (zi 16), (zi 31), (zi 17), (zi 8), (zi 5), (zi 30)])[(Int.toNat r1)]?) ([(zi 1), (zi 32), (zi 2), (zi 16), (zi 31), (zi 17), (zi 8), (zi 5), (zi 30)][(Int.toNat r1)]?) Xi fun (e9 : Int) => (rt Qm e9)) .fail)) (let u97 := (eqS a0 s_M1); .as u97 (.yes u97 (.rows [[xi i0], [xi (zi 15)], [xi (zi 1)], [xi (zi 7)], [xi (zi 8)], [xi (zi 4)], [xi (zi 12)], [xi (zi 3)], [xi (zi 14)]] (Q8 [i0, (zi 15), (zi 1), (zi 7), (zi 8), (zi 4), (zi 12), (zi 3), (zi 14)]) (.ask (in1 r1 (((Q8 [i0, (zi 15), (zi 1), (zi 7), (zi 8), (zi 4), (zi 12), (zi 3), (zi 14)]).length : Nat) : Int)) (in1 r1 (([i0, (zi 15), (zi 1), (zi 7), (zi 8), (zi 4), (zi 12), (zi 3), (zi 14)].length : Nat) : Int)) (.row ((Q8 [i0, (zi 15), (zi 1), (zi 7), (zi 8), (zi 4), (zi 12), (zi 3), (zi 14)])[(Int.toNat r1)]?) ([i0, (zi 15), (zi 1), (zi 7), (zi 8), (zi 4), (zi 12), (zi 3), (zi 14)][(Int.toNat r1)]?) Xi fun (e10 : Int) => (rt Qm e10)) .fail))) (.as (eqS a0 s_I4) (.rows [[xi i0], [xi (zi 15)], [xi (zi 1)], [xi (zi 7)], [xi (zi 8)], [xi (zi 4)], [xi (zi 12)], [xi (zi 3)], [xi (zi 14)]] (Q8 [i0, (zi 15), (zi 1), (zi 7), (zi 8), (zi 4), (zi 12), (zi 3), (zi 14)]) (.ask (in1 r1 (((Q8 [i0, (zi 15), (zi 1), (zi 7), (zi 8), (zi 4), (zi 12), (zi 3), (zi 14)]).length : Nat) : Int)) (in1 r1 (([i0, (zi 15), (zi 1), (zi 7), (zi 8), (zi 4), (zi 12), (zi 3), (zi 14)].length : Nat) : Int)) (.row ((Q8 [i0, (zi 15), (zi 1), (zi 7), (zi 8), (zi 4), (zi 12), (zi 3), (zi 14)])[(Int.toNat r1)]?) ([i0, (zi 15), (zi 1), (zi 7), (zi 8), (zi 4), (zi 12), (zi 3), (zi 14)][(Int.toNat r1)]?) Xi fun (e11 : Int) => (rt Qm e11)) .fail)) (.as (eqS a0 s_M2) (.rows [[xi i0], [xi (zi 15)], [xi (zi 1)], [xi (zi 7)], [xi (zi 8)], [xi (zi 4)], [xi (zi 12)], [xi (zi 3)], [xi (zi 14)]] (Q8 [i0, (zi 15), (zi 1), (zi 7), (zi 8), (zi 4), (zi 12), (zi 3), (zi 14)]) (.ask (in1 r1 (((Q8 [i0, (zi 15), (zi 1), (zi 7), (zi 8), (zi 4), (zi 12), (zi 3), (zi 14)]).length : Nat) : Int)) (in1 r1 (([i0, (zi 15), (zi 1), (zi 7), (zi 8), (zi 4), (zi 12), (zi 3), (zi 14)].length : Nat) : Int)) (.row ((Q8 [i0, (zi 15), (zi 1), (zi 7), (zi 8), (zi 4), (zi 12), (zi 3), (zi 14)])[(Int.toNat r1)]?) ([i0, (zi 15), (zi 1), (zi 7), (zi 8), (zi 4), (zi 12), (zi 3), (zi 14)][(Int.toNat r1)]?) Xi fun (e12 : Int) => (rt Qm (w64 ((zi 2) * e12)))) .fail)) (.as (eqS a0 s_M4) (.rows [[xi i0], [xi (zi 15)], [xi (zi 1)], [xi (zi 7)], [xi (zi 8)], [xi (zi 4)], [xi (zi 12)], [xi (zi 3)], [xi (zi 14)]] (Q8 [i0, (zi 15), (zi 1), (zi 7), (zi 8), (zi 4), (zi 12), (zi 3), (zi 14)]) (.ask (in1 r1 (((Q8 [i0, (zi 15), (zi 1), (zi 7), (zi 8), (zi 4), (zi 12), (zi 3), (zi 14)]).length : Nat) : Int)) (in1 r1 (([i0, (zi 15), (zi 1), (zi 7), (zi 8), (zi 4), (zi 12), (zi 3), (zi 14)].length : Nat) : Int)) (.row ((Q8 [i0, (zi 15), (zi 1), (zi 7), (zi 8), (zi 4), (zi 12), (zi 3), (zi 14)])[(Int.toNat r1)]?) ([i0, (zi 15), (zi 1), (zi 7), (zi 8), (zi 4), (zi 12), (zi 3), (zi 14)][(Int.toNat r1)]?) Xi fun (e13 : Int) => (rt Qm (w64 ((zi 4) * e13)))) .fail)) (.as (eqS a0 s_O1) (Yy a1 (zi 2) fun r14 => (rt Qm r14)) (let u96 := (eqS a0 s_I2); .as u96 (.yes u96 (Yy a1 (zi 4) fun r15 => (rt Qm r15))) (.as (eqS a0 s_O2) (Yy a1 (zi 4) fun r16 => (rt Qm r16)) (.as (eqS a0 s_T8) (Yy a1 (zi 256) fun r17 => (rt Qm (w64 ((zi 2) * (w64 (r17 - 128)))))) (.as (eqS a0 Qsn) (.rows [[xi i0], [xi (zi 32767)], [xi (-32768 : Int)], [xi (-1 : Int)], [xi (zi 1)], [xi (zi 255)], [xi (-256 : Int)], [xi (zi 4660)], [xi (-4660 : Int)]] (Q8 [i0, (zi 32767), (-32768 : Int), (-1 : Int), (zi 1), (zi 255), (-256 : Int), (zi 4660), (-4660 : Int)]) (.ask (in1 r1 (((Q8 [i0, (zi 32767), (-32768 : Int), (-1 : Int), (zi 1), (zi 255), (-256 : Int), (zi 4660), (-4660 : Int)]).length : Nat) : Int)) (in1 r1 (([i0, (zi 32767), (-32768 : Int), (-1 : Int), (zi 1), (zi 255), (-256 : Int), (zi 4660), (-4660 : Int)].length : Nat) : Int)) (.row ((Q8 [i0, (zi 32767), (-32768 : Int), (-1 : Int), (zi 1), (zi 255), (-256 : Int), (zi 4660), (-4660 : Int)])[(Int.toNat r1)]?) ([i0, (zi 32767), (-32768 : Int), (-1 : Int), (zi 1), (zi 255), (-256 : Int), (zi 4660), (-4660 : Int)][(Int.toNat r1)]?) Xi fun (e18 : Int) => (rt Qm e18)) .fail)) (.as (eqS a0 Qsm) (Yy a1 (zi 1048576) fun r19 => (rt Qm (w64 (r19 - 524288)))) (.as (eqS a0 Qso) (Yy a1 (zi 32768) fun r20 => (rt Qm (w64 ((zi 2) * (w64 (r20 - 16384)))))) (.as (eqS a0 EJ) (Yy a1 (zi 16777216) fun r21 => (rt Qm (w64 ((zi 2) * (w64 (r21 - 8388608)))))) (.rows [[xi i0], [xi (zi 255)], [xi (zi 256)], [xi (zi 65280)], [xi (-1 : Int)], [xi (-2 : Int)], [xi (zi 16711680)], [xi (-256 : Int)], [xi (zi 2130706432)]] (Q8 [i0, (zi 255), (zi 256), (zi 65280), (-1 : Int), (-2 : Int), (zi 16711680), (-256 : Int), (zi 2130706432)]) (.ask (in1 r1 (((Q8 [i0, (zi 255), (zi 256), (zi 65280), (-1 : Int), (-2 : Int), (zi 16711680), (-256 : Int), (zi 2130706432)]).length : Nat) : Int)) (in1 r1 (([i0, (zi 255), (zi 256), (zi 65280), (-1 : Int), (-2 : Int), (zi 16711680), (-256 : Int), (zi 2130706432)].length : Nat) : Int)) (.row ((Q8 [i0, (zi 255), (zi 256), (zi 65280), (-1 : Int), (-2 : Int), (zi 16711680), (-256 : Int), (zi 2130706432)])[(Int.toNat r1)]?) ([i0, (zi 255), (zi 256), (zi 65280), (-1 : Int), (-2 : Int), (zi 16711680), (-256 : Int), (zi 2130706432)][(Int.toNat r1)]?) Xi fun (e22 : Int) => (rt Qm e22)) .fail)))))))))))))))))))))))
theorem Wp.ok {a0 : ByteArray} {a1 : Int} {r : Int} (h : Wp a0 a1 = some r) : ww 85 [xs a0, xi a1] [] = some (Qm r) := by
 refine fnP (QmS a0 a1) ?_ h
 exact fun r1 h => ⟨Wg.ok h, ⟨rfl, fun q0 => ⟨q0, ⟨(Uf [(0 : Int), (1 : Int), (7 : Int), (24 : Int), (31 : Int), (5 : Int), (28 : Int), (3 : Int), (30 : Int)]), ⟨(by rw [Va]), fun q1 => fun e2 h => ⟨Vu h, rfl⟩, fun q1 => trivial⟩⟩⟩, fun q0 => ⟨rfl, fun q1 => ⟨(Uf [(0 : Int), (1 : Int), (7 : Int), (24 : Int), (31 : Int), (5 : Int), (28 : Int), (3 : Int), (30 : Int)]), ⟨(by rw [Va]), fun q2 => fun e3 h => ⟨Vu h, rfl⟩, fun q2 => trivial⟩⟩, fun q1 => ⟨rfl, fun q2 => ⟨q2, ⟨(Uf [(0 : Int), (31 : Int), (1 : Int), (15 : Int), (16 : Int), (7 : Int), (30 : Int), (12 : Int), (3 : Int)]), ⟨(by rw [Va]), fun q3 => fun e4 h => ⟨Vu h, rfl⟩, fun q3 => trivial⟩⟩⟩, fun q2 => ⟨rfl, fun q3 => ⟨q3, ⟨(Uf [(0 : Int), (31 : Int), (1 : Int), (15 : Int), (16 : Int), (7 : Int), (30 : Int), (12 : Int), (3 : Int)]), ⟨(by rw [Va]), fun q4 => fun e5 h => ⟨Vu h, rfl⟩, fun q4 => trivial⟩⟩⟩, fun q3 => ⟨rfl, fun q4 => ⟨q4, ⟨(Uf [(0 : Int), (31 : Int), (1 : Int), (15 : Int), (16 : Int), (7 : Int), (30 : Int), (12 : Int), (3 : Int)]), ⟨(by rw [Va]), fun q5 => fun e6 h => ⟨Vu h, rfl⟩, fun q5 => trivial⟩⟩⟩, fun q4 => ⟨rfl, fun q5 => ⟨(Uf [(0 : Int), (31 : Int), (1 : Int), (15 : Int), (16 : Int), (7 : Int), (30 : Int), (12 : Int), (3 : Int)]), ⟨(by rw [Va]), fun q6 => fun e7 h => ⟨Vu h, rfl⟩, fun q6 => trivial⟩⟩, fun q5 => ⟨rfl, fun q6 => ⟨(Uf [(0 : Int), (127 : Int), (64 : Int), (1 : Int), (63 : Int), (100 : Int), (7 : Int), (15 : Int), (16 : Int)]), ⟨(by rw [Va]), fun q7 => fun e8 h => ⟨Vu h, rfl⟩, fun q7 => trivial⟩⟩, fun q6 => ⟨rfl, fun q7 => ⟨(Uf [(1 : Int), (32 : Int), (2 : Int), (16 : Int), (31 : Int), (17 : Int), (8 : Int), (5 : Int), (30 : Int)]), ⟨(by rw [Va]), fun q8 => fun e9 h => ⟨Vu h, rfl⟩, fun q8 => trivial⟩⟩, fun q7 => ⟨rfl, fun q8 => ⟨q8, ⟨(Uf [(0 : Int), (15 : Int), (1 : Int), (7 : Int), (8 : Int), (4 : Int), (12 : Int), (3 : Int), (14 : Int)]), ⟨(by rw [Va]), fun q9 => fun e10 h => ⟨Vu h, rfl⟩, fun q9 => trivial⟩⟩⟩, fun q8 => ⟨rfl, fun q9 => ⟨(Uf [(0 : Int), (15 : Int), (1 : Int), (7 : Int), (8 : Int), (4 : Int), (12 : Int), (3 : Int), (14 : Int)]), ⟨(by rw [Va]), fun q10 => fun e11 h => ⟨Vu h, rfl⟩, fun q10 => trivial⟩⟩, fun q9 => ⟨rfl, fun q10 => ⟨(Uf [(0 : Int), (15 : Int), (1 : Int), (7 : Int), (8 : Int), (4 : Int), (12 : Int), (3 : Int), (14 : Int)]), ⟨(by rw [Va]), fun q11 => fun e12 h => ⟨Vu h, rfl⟩, fun q11 => trivial⟩⟩, fun q10 => ⟨rfl, fun q11 => ⟨(Uf [(0 : Int), (15 : Int), (1 : Int), (7 : Int), (8 : Int), (4 : Int), (12 : Int), (3 : Int), (14 : Int)]), ⟨(by rw [Va]), fun q12 => fun e13 h => ⟨Vu h, rfl⟩, fun q12 => trivial⟩⟩, fun q11 => ⟨rfl, fun q12 => fun r14 h => ⟨Wg.ok h, rfl⟩, fun q12 => ⟨rfl, fun q13 => ⟨q13, fun r15 h => ⟨Wg.ok h, rfl⟩⟩, fun q13 => ⟨rfl, fun q14 => fun r16 h => ⟨Wg.ok h, rfl⟩, fun q14 => ⟨rfl, fun q15 => fun r17 h => ⟨Wg.ok h, rfl⟩, fun q15 => ⟨rfl, fun q16 => ⟨(Uf [(0 : Int), (32767 : Int), (-32768 : Int), (-1 : Int), (1 : Int), (255 : Int), (-256 : Int), (4660 : Int), (-4660 : Int)]), ⟨(by rw [Va]), fun q17 => fun e18 h => ⟨Vu h, rfl⟩, fun q17 => trivial⟩⟩, fun q16 => ⟨rfl, fun q17 => fun r19 h => ⟨Wg.ok h, rfl⟩, fun q17 => ⟨rfl, fun q18 => fun r20 h => ⟨Wg.ok h, rfl⟩, fun q18 => ⟨rfl, fun q19 => fun r21 h => ⟨Wg.ok h, rfl⟩, fun q19 => ⟨(Uf [(0 : Int), (255 : Int), (256 : Int), (65280 : Int), (-1 : Int), (-2 : Int), (16711680 : Int), (-256 : Int), (2130706432 : Int)]), ⟨(by rw [Va]), fun q20 => fun e22 h => ⟨Vu h, rfl⟩, fun q20 => trivial⟩⟩⟩⟩⟩⟩⟩⟩⟩⟩⟩⟩⟩⟩⟩⟩⟩⟩⟩⟩⟩⟩⟩
noncomputable abbrev Qbm {ρ R : Type} (a0 : ByteArray) (a1 : Int) (k : Int → Tr ρ R) : Tr ρ R := .call (ww 85 [xs a0, xi a1] []) (Wp a0 a1) Qm k
abbrev Gb := Int → Int → Option Int
def QhM (a0 : Int) (a1 : Int) : Option Int := (bif (decide (a1 ≠ 0)) then (bif (decide ((Int.tmod a0 a1) < 0)) then (some (w64 ((Int.tmod a0 a1) + a1))) else (some (Int.tmod a0 a1))) else none)
noncomputable def Vv : Gb := QhM
theorem Vv.eq (a0 : Int) (a1 : Int) : Vv a0 a1 = QhM a0 a1 := rfl
noncomputable def Qoa (a0 : Int) (a1 : Int) : Tr Int AH := (.as (decide (a1 ≠ 0)) (.as (decide ((Int.tmod a0 a1) < 0)) (rt Qm (w64 ((Int.tmod a0 a1) + a1))) (rt Qm (Int.tmod a0 a1))) .fail)
theorem Vv.ok {a0 : Int} {a1 : Int} {r : Int} (h : Vv a0 a1 = some r) : ww 161 [xi a0, xi a1] [] = some (Qm r) := by
 refine fnP (Qoa a0 a1) ?_ h
 exact ⟨rfl, fun q0 => ⟨rfl, fun q1 => rfl, fun q1 => rfl⟩, fun q0 => trivial⟩
noncomputable abbrev P4 {ρ R : Type} (a0 : Int) (a1 : Int) (k : Int → Tr ρ R) : Tr ρ R := .call (ww 161 [xi a0, xi a1] []) (Vv a0 a1) Qm k
abbrev QbV := Option (List ByteArray)
def Qjq : Option (List ByteArray) := (some [Sc, s_x, E6, s_r])
noncomputable def Zu : QbV := Qjq
theorem Zu.eq : Zu = Qjq := rfl
noncomputable def QpJ : Tr (List ByteArray) AH := (.rows [[xs Sc], [xs s_x], [xs E6], [xs s_r]] (Qg [Sc, s_x, E6, s_r]) (rt Jd [Sc, s_x, E6, s_r]))
theorem Zu.ok {r : (List ByteArray)} (h : Zu = some r) : ww 162 [] [] = some (Jd r) := by
 refine fnP (QpJ) ?_ h
 exact ⟨(QP [Sc, s_x, E6, s_r]), rfl⟩
noncomputable abbrev QpK {ρ R : Type} (k : (List ByteArray) → Tr ρ R) : Tr ρ R := .call (ww 162 [] []) (Zu) Jd k
def UH (r : Qa) : AV × Heap := (.agg (QY r), [])
abbrev ZT := QA → Int → Option Qa
abbrev QmT (c : ZT) : Prop := ∀ (a0 : QA) (a1 : Int) (r : Qa), c a0 a1 = some r → ww 163 [.agg (XU a0), xi a1] [] = some (UH r)
abbrev YS := QA → Option Qa
abbrev QmU (c : YS) : Prop := ∀ (a0 : QA) (r : Qa), c a0 = some r → ww 108 [.agg (XU a0)] [] = some (UH r)
noncomputable abbrev ST {ρ R : Type} (c : ZT) (a0 : QA) (a1 : Int) (k : Qa → Tr ρ R) : Tr ρ R := .call (ww 163 [.agg (XU a0), xi a1] []) (c a0 a1) UH k
noncomputable abbrev Qey {ρ R : Type} (c : YS) (a0 : QA) (k : Qa → Tr ρ R) : Tr ρ R := .call (ww 108 [.agg (XU a0)] []) (c a0) UH k
def Y6 (C0 : YS) (C1 : Gb) (a0 : QA) (a1 : Int) : Option Qa := (bif (decide (a1 < (((a0.L.length) : Nat) : Int))) then (bif (decide (0 ≤ a1)) then ((a0.L[(Int.toNat a1)]?).bind fun e1 => ((C0 e1).bind fun r2 => (some r2))) else none) else ((C1 (w64 (a0.N + a1)) (5 : Int)).bind fun r3 => (some (Qa.mk (1 : Int) r3 s_ ([] : List Qa)))))
theorem Qez {C0 : Nat → YS} {D0 : YS} (H0 : Cv1 C0 D0) {C1 : Nat → Gb} {D1 : Gb} (H1 : Cv2 C1 D1) (a0 : QA) (a1 : Int) : Cv (fun k => Y6 (C0 k) (C1 k) a0 a1) (Y6 D0 D1 a0 a1) := by
 unfold Y6
 exact .cond (.cond (.bind (.const _) fun e1 => .bind (H0 _) fun r2 => by exact .const _) cst) (.bind (H1 _ _) fun r3 => by exact .const _)
noncomputable def QlK (C0 : YS) (a0 : QA) (a1 : Int) : Tr Qa AH := (.num ((UZ a0.L).length) (a0.L.length) (.as (decide (a1 < (((a0.L.length) : Nat) : Int))) (.as (decide (0 ≤ a1)) (.row ((UZ a0.L)[(Int.toNat a1)]?) (a0.L[(Int.toNat a1)]?) XU fun (e1 : QA) => (Qey C0 e1 fun r2 => (rt UH r2))) .fail) (P4 (w64 (a0.N + a1)) (zi 5) fun r3 => (rt UH (Qa.mk (zi 1) r3 s_ ([] : List Qa))))))
def Y7 (C0 : Gb) (C1 : QbV) (C2 : ZT) (a0 : QA) : Option Qa := ((C0 a0.K (18 : Int)).bind fun r1 => (bif (decide (r1 < 4)) then ((C0 a0.N (8 : Int)).bind fun r2 => (bif (decide (0 ≤ r2 ∧ r2 < (([(0 : Int), (1 : Int), (2 : Int), (255 : Int), (65536 : Int), (4294967295 : Int), (40 : Int), (7 : Int)].length : Nat) : Int))) then (([(0 : Int), (1 : Int), (2 : Int), (255 : Int), (65536 : Int), (4294967295 : Int), (40 : Int), (7 : Int)][(Int.toNat r2)]?).bind fun e3 => (some (Qa.mk (1 : Int) e3 s_ ([] : List Qa)))) else none)) else (bif (decide (r1 < 8)) then ((C1).bind fun r4 => ((C0 a0.N (4 : Int)).bind fun r5 => (bif (decide (0 ≤ r5)) then ((r4[(Int.toNat r5)]?).bind fun e6 => (some (Qa.mk (2 : Int) (0 : Int) e6 ([] : List Qa)))) else none))) else (bif (r1 == 8) then (some (Qa.mk (3 : Int) (0 : Int) s_ ([] : List Qa))) else (bif (decide (r1 < 11)) then ((C2 a0 (0 : Int)).bind fun r7 => (some (Qa.mk (4 : Int) (0 : Int) s_ [r7]))) else ((C2 a0 (0 : Int)).bind fun r8 => ((C2 a0 (1 : Int)).bind fun r9 => (some (Qa.mk (w64 ((w64 ((5 : Int) + r1)) - 11)) (0 : Int) s_ [r8, r9])))))))))
theorem QeA {C0 : Nat → Gb} {D0 : Gb} (H0 : Cv2 C0 D0) {C1 : Nat → QbV} {D1 : QbV} (H1 : Cv C1 D1) {C2 : Nat → ZT} {D2 : ZT} (H2 : Cv2 C2 D2) (a0 : QA) : Cv (fun k => Y7 (C0 k) (C1 k) (C2 k) a0) (Y7 D0 D1 D2 a0) := by
 unfold Y7
 exact .bind (H0 _ _) fun r1 => .cond (.bind (H0 _ _) fun r2 => by exact .const _) (.cond (.bind (H1) fun r4 => .bind (H0 _ _) fun r5 => by exact .const _) (.cond cst (.cond (.bind (H2 _ _) fun r7 => by exact .const _) (.bind (H2 _ _) fun r8 => .bind (H2 _ _) fun r9 => by exact .const _))))
noncomputable def QlL (C0 : ZT) (a0 : QA) : Tr Qa AH := (P4 a0.K (zi 18) fun r1 => (.as (decide (r1 < 4)) (.rows [[xi i0], [xi (zi 1)], [xi (zi 2)], [xi (zi 255)], [xi (zi 65536)], [xi (zi 4294967295)], [xi (zi 40)], [xi (zi 7)]] (Q8 [i0, (zi 1), (zi 2), (zi 255), (zi 65536), (zi 4294967295), (zi 40), (zi 7)]) (P4 a0.N (zi 8) fun r2 => (.ask (in1 r2 (((Q8 [i0, (zi 1), (zi 2), (zi 255), (zi 65536), (zi 4294967295), (zi 40), (zi 7)]).length : Nat) : Int)) (in1 r2 (([i0, (zi 1), (zi 2), (zi 255), (zi 65536), (zi 4294967295), (zi 40), (zi 7)].length : Nat) : Int)) (.row ((Q8 [i0, (zi 1), (zi 2), (zi 255), (zi 65536), (zi 4294967295), (zi 40), (zi 7)])[(Int.toNat r2)]?) ([i0, (zi 1), (zi 2), (zi 255), (zi 65536), (zi 4294967295), (zi 40), (zi 7)][(Int.toNat r2)]?) Xi fun (e3 : Int) => (rt UH (Qa.mk (zi 1) e3 s_ ([] : List Qa)))) .fail))) (.as (decide (r1 < 8)) (QpK fun r4 => (P4 a0.N (zi 4) fun r5 => (.as (decide (0 ≤ r5)) (.row ((Qg r4)[(Int.toNat r5)]?) (r4[(Int.toNat r5)]?) QW fun (e6 : ByteArray) => (rt UH (Qa.mk (zi 2) i0 e6 ([] : List Qa)))) .fail))) (.as (r1 == 8) (rt UH (Qa.mk (zi 3) i0 s_ ([] : List Qa))) (.as (decide (r1 < 11)) (ST C0 a0 i0 fun r7 => (.rows [[xi r7.Kind, xi r7.N, xs r7.Name, .sl (QK r7.L)]] (QK [r7]) (rt UH (Qa.mk (zi 4) i0 s_ [r7])))) (ST C0 a0 i0 fun r8 => (ST C0 a0 (zi 1) fun r9 => (.rows [[xi r8.Kind, xi r8.N, xs r8.Name, .sl (QK r8.L)], [xi r9.Kind, xi r9.N, xs r9.Name, .sl (QK r9.L)]] (QK [r8, r9]) (rt UH (Qa.mk (w64 ((w64 ((zi 5) + r1)) - 11)) i0 s_ [r8, r9]))))))))))
mutual
noncomputable def UL.s : Nat → QA → Int → Option Qa
 | 0, _, _ => none
 | k + 1, a0, a1 => Y6 (fun a0 => JQ.s k a0) Vv a0 a1
termination_by structural k => k
noncomputable def JQ.s : Nat → QA → Option Qa
 | 0, _ => none
 | k + 1, a0 => Y7 Vv Zu (fun a0 a1 => UL.s k a0 a1) a0
termination_by structural k => k
end
theorem QbW : ∀ (k : Nat), (QmT (UL.s k)) ∧ (QmU (JQ.s k))
 | 0 => ⟨fun _ _ _ h => (nomatch h), fun _ _ h => (nomatch h)⟩
 | k + 1 => by
  obtain ⟨i_w3_Raw_part, i_w3_Raw_Make⟩ := QbW k
  exact ⟨fun a0 a1 r h => by
    refine fnP (QlK (JQ.s k) a0 a1) ?_ h
    exact ⟨(Gz _), ⟨rfl, fun q0 => ⟨rfl, fun q1 => fun e1 h => ⟨QaF h, fun r2 h => ⟨i_w3_Raw_Make _ _ h, rfl⟩⟩, fun q1 => trivial⟩, fun q0 => fun r3 h => ⟨Vv.ok h, rfl⟩⟩⟩,
   fun a0 r h => by
    refine fnP (QlL (UL.s k) a0) ?_ h
    exact fun r1 h => ⟨Vv.ok h, ⟨rfl, fun q0 => ⟨(Uf [(0 : Int), (1 : Int), (2 : Int), (255 : Int), (65536 : Int), (4294967295 : Int), (40 : Int), (7 : Int)]), fun r2 h => ⟨Vv.ok h, ⟨(by rw [Va]), fun q1 => fun e3 h => ⟨Vu h, rfl⟩, fun q1 => trivial⟩⟩⟩, fun q0 => ⟨rfl, fun q1 => fun r4 h => ⟨Zu.ok h, fun r5 h => ⟨Vv.ok h, ⟨rfl, fun q2 => fun e6 h => ⟨QO h, rfl⟩, fun q2 => trivial⟩⟩⟩, fun q1 => ⟨rfl, fun q2 => rfl, fun q2 => ⟨rfl, fun q3 => fun r7 h => ⟨i_w3_Raw_part _ _ _ h, ⟨(Xn [r7]), rfl⟩⟩, fun q3 => fun r8 h => ⟨i_w3_Raw_part _ _ _ h, fun r9 h => ⟨i_w3_Raw_part _ _ _ h, ⟨(Xn [r8, r9]), rfl⟩⟩⟩⟩⟩⟩⟩⟩⟩
theorem EU : ∀ (k : Nat), (∀ (a0 : QA) (a1 : Int), Le (UL.s k a0 a1) (UL.s (k + 1) a0 a1)) ∧ (∀ (a0 : QA), Le (JQ.s k a0) (JQ.s (k + 1) a0))
 | 0 => ⟨fun _ _ _ h => (nomatch h), fun _ _ h => (nomatch h)⟩
 | k + 1 => by
  obtain ⟨i_w3_Raw_part, i_w3_Raw_Make⟩ := EU k
  exact ⟨fun a0 a1 => (Qez (tw1 i_w3_Raw_Make) ks2 a0 a1).1 0,
   fun a0 => (QeA ks2 ks0 (tw2 i_w3_Raw_part) a0).1 0⟩
noncomputable def UL (a0 : QA) (a1 : Int) : Option Qa := lim fun k => UL.s k a0 a1
theorem UL.cv (a0 : QA) (a1 : Int) : Cv (fun k => UL.s k a0 a1) (UL a0 a1) := .lim fun k => (EU k).1 a0 a1
noncomputable def JQ (a0 : QA) : Option Qa := lim fun k => JQ.s k a0
theorem JQ.cv (a0 : QA) : Cv (fun k => JQ.s k a0) (JQ a0) := .lim fun k => (EU k).2 a0
theorem JQ.ok {a0 : QA} {r : Qa} (h : JQ a0 = some r) : ww 108 [.agg (XU a0)] [] = some (UH r) := let ⟨k, e⟩ := ((JQ.cv a0).2 r).1 h; (QbW k).2 a0 _ e
theorem UL.eq (a0 : QA) (a1 : Int) : UL a0 a1 = Y6 JQ Vv a0 a1 := Cv.uniq (UL.cv a0 a1).shift (Qez JQ.cv ks2 a0 a1)
theorem JQ.eq (a0 : QA) : JQ a0 = Y7 Vv Zu UL a0 := Cv.uniq (JQ.cv a0).shift (QeA ks2 ks0 UL.cv a0)
noncomputable abbrev QlM {ρ R : Type} (a0 : QA) (k : Qa → Tr ρ R) : Tr ρ R := Qey JQ a0 k
abbrev QgN := (List QA) → Option Qa
def Qio (C0 : YS) (a0 : (List QA)) : Option Qa := (bif ((((a0.length) : Nat) : Int) == 0) then (some (Qa.mk (1 : Int) (1 : Int) s_ ([] : List Qa))) else ((a0[(Int.toNat 0)]?).bind fun e1 => ((C0 e1).bind fun r2 => (some r2))))
noncomputable def XP : QgN := Qio JQ
theorem XP.eq (a0 : (List QA)) : XP a0 = Qio JQ a0 := rfl
noncomputable def QrG (a0 : (List QA)) : Tr Qa AH := (.num ((UZ a0).length) (a0.length) (.as ((((a0.length) : Nat) : Int) == 0) (rt UH (Qa.mk (zi 1) (zi 1) s_ ([] : List Qa))) (.yes (decide (0 ≤ i0)) (.row ((UZ a0)[(Int.toNat 0)]?) (a0[(Int.toNat 0)]?) XU fun (e1 : QA) => (QlM e1 fun r2 => (rt UH r2))))))
theorem XP.ok {a0 : (List QA)} {r : Qa} (h : XP a0 = some r) : ww 66 [.sl (UZ a0)] [] = some (UH r) := by
 refine fnP (QrG a0) ?_ h
 exact ⟨(Gz _), ⟨rfl, fun q0 => rfl, fun q0 => ⟨rfl, fun e1 h => ⟨QaF h, fun r2 h => ⟨JQ.ok h, rfl⟩⟩⟩⟩⟩
noncomputable abbrev Qip {ρ R : Type} (a0 : (List QA)) (k : Qa → Tr ρ R) : Tr ρ R := .call (ww 66 [.sl (UZ a0)] []) (XP a0) UH k
abbrev Qao := Option (List ByteArray)
def QhN : Option (List ByteArray) := (some [s_a, s_b1, Fp, s_x])
noncomputable def Jy : Qao := QhN
theorem Jy.eq : Jy = QhN := rfl
noncomputable def Qob : Tr (List ByteArray) AH := (.rows [[xs s_a], [xs s_b1], [xs Fp], [xs s_x]] (Qg [s_a, s_b1, Fp, s_x]) (rt Jd [s_a, s_b1, Fp, s_x]))
theorem Jy.ok {r : (List ByteArray)} (h : Jy = some r) : ww 64 [] [] = some (Jd r) := by
 refine fnP (Qob) ?_ h
 exact ⟨(QP [s_a, s_b1, Fp, s_x]), rfl⟩
noncomputable abbrev Vy {ρ R : Type} (k : (List ByteArray) → Tr ρ R) : Tr ρ R := .call (ww 64 [] []) (Jy) Jd k
abbrev XA := Int → Option ByteArray
abbrev Qjr (c : XA) : Prop := ∀ (a0 : Int) (r : ByteArray), c a0 = some r → ww 40 [xi a0] [] = some (Qk r)
noncomputable abbrev P5 {ρ R : Type} (c : XA) (a0 : Int) (k : ByteArray → Tr ρ R) : Tr ρ R := .call (ww 40 [xi a0] []) (c a0) Qk k
def Zv (C0 : XA) (a0 : Int) : Option ByteArray := (bif (decide (a0 < 0)) then ((C0 (w64 ((0 : Int) - a0))).bind fun r1 => (bif (decide (((h_2d.size + r1.size : Nat) : Int) ≤ IntKind.i64.max)) then (some (h_2d ++ r1)) else none)) else (bif (decide (a0 ≥ 10)) then ((C0 (w64 (Int.tdiv a0 (10 : Int)))).bind fun r2 => ((C0 (Int.tmod a0 (10 : Int))).bind fun r3 => (bif (decide (((r2.size + r3.size : Nat) : Int) ≤ IntKind.i64.max)) then (some (r2 ++ r3)) else none))) else ((some (listB [(IntKind.u8.wrap (w64 ((48 : Int) + a0)))])).bind fun e4 => (some (⟨e4.toArray⟩ : ByteArray)))))
theorem QhO {C0 : Nat → XA} {D0 : XA} (H0 : Cv1 C0 D0) (a0 : Int) : Cv (fun k => Zv (C0 k) a0) (Zv D0 a0) := by
 unfold Zv
 exact .cond (.bind (H0 _) fun r1 => by exact .const _) (.cond (.bind (H0 _) fun r2 => .bind (H0 _) fun r3 => by exact .const _) cst)
noncomputable def Qoc (C0 : XA) (a0 : Int) : Tr ByteArray AH := (.as (decide (a0 < 0)) (P5 C0 (w64 (i0 - a0)) fun r1 => (.as (decide (((h_2d.size + r1.size : Nat) : Int) ≤ IntKind.i64.max)) (rt Qk (h_2d ++ r1)) .fail)) (.as (decide (a0 ≥ 10)) (.yes (decide ((zi 10) ≠ 0)) (P5 C0 (w64 (Int.tdiv a0 (zi 10))) fun r2 => (.yes (decide ((zi 10) ≠ 0)) (P5 C0 (Int.tmod a0 (zi 10)) fun r3 => (.as (decide (((r2.size + r3.size : Nat) : Int) ≤ IntKind.i64.max)) (rt Qk (r2 ++ r3)) .fail))))) (.rows [[xb (IntKind.u8.wrap (w64 ((zi 48) + a0)))]] (R_u8 [(IntKind.u8.wrap (w64 ((zi 48) + a0)))]) (.byt (bytesOfRows (R_u8 [(IntKind.u8.wrap (w64 ((zi 48) + a0)))])) (some (listB [(IntKind.u8.wrap (w64 ((zi 48) + a0)))])) fun (e4 : List UInt8) => (rt Qk (⟨e4.toArray⟩ : ByteArray))))))
noncomputable def Jm.s : Nat → Int → Option ByteArray
 | 0, _ => none
 | k + 1, a0 => Zv (fun a0 => Jm.s k a0) a0
termination_by structural k => k
theorem QeB : ∀ (k : Nat), (Qjr (Jm.s k))
 | 0 => fun _ _ h => (nomatch h)
 | k + 1 => by
  have i_r3_Digits : Qjr (Jm.s k) := QeB k
  exact fun a0 r h => by
    refine fnP (Qoc (Jm.s k) a0) ?_ h
    exact ⟨rfl, fun q0 => fun r1 h => ⟨i_r3_Digits _ _ h, ⟨rfl, fun q1 => rfl, fun q1 => trivial⟩⟩, fun q0 => ⟨rfl, fun q1 => ⟨rfl, fun r2 h => ⟨i_r3_Digits _ _ h, ⟨rfl, fun r3 h => ⟨i_r3_Digits _ _ h, ⟨rfl, fun q2 => rfl, fun q2 => trivial⟩⟩⟩⟩⟩, fun q1 => ⟨(QdB [(IntKind.u8.wrap (w64 ((48 : Int) + a0)))]), fun e4 h => ⟨(QkO _).trans h, rfl⟩⟩⟩⟩
theorem Qdf : ∀ (k : Nat), (∀ (a0 : Int), Le (Jm.s k a0) (Jm.s (k + 1) a0))
 | 0 => fun _ _ h => (nomatch h)
 | k + 1 => by
  have i_r3_Digits : ∀ (a0 : Int), Le (Jm.s k a0) (Jm.s (k + 1) a0) := Qdf k
  exact fun a0 => (QhO (tw1 i_r3_Digits) a0).1 0
noncomputable def Jm (a0 : Int) : Option ByteArray := lim fun k => Jm.s k a0
theorem Jm.cv (a0 : Int) : Cv (fun k => Jm.s k a0) (Jm a0) := .lim fun k => (Qdf k) a0
theorem Jm.ok {a0 : Int} {r : ByteArray} (h : Jm a0 = some r) : ww 40 [xi a0] [] = some (Qk r) := let ⟨k, e⟩ := ((Jm.cv a0).2 r).1 h; (QeB k) a0 _ e
theorem Jm.eq (a0 : Int) : Jm a0 = Zv Jm a0 := Cv.uniq (Jm.cv a0).shift (QhO Jm.cv a0)
noncomputable abbrev P6 {ρ R : Type} (a0 : Int) (k : ByteArray → Tr ρ R) : Tr ρ R := P5 Jm a0 k
def EV (r : Qf) : AV × Heap := (.tup [], [(0, .box [] (Je r))])
abbrev FW := Qf → Option Qf
def Gs (a : Qf) : St := { n := 31, nx := 1, env := [(0, .ptr 0 0)], heap := [(0, .box [] (Je a))] }
def YY (a : Qf) : Ex × St := (.exit 0, { n := 31, nx := 1, env := [], heap := [(0, .box [] (Je a))] })
abbrev Sy := Qf → Option Qf
def YZ (a : Qf) : Option (Qf ⊕ Qf) := (bif (decide (a.P < ((a.S.size : Nat) : Int))) then (bif (decide (0 ≤ a.P ∧ a.P < ((a.S.size : Nat) : Int))) then (bif (((a.S.data.getD (Int.toNat a.P) 0).toNat : Int) == 32) then (some (.inl (Qf.mk a.S (w64 (a.P + 1)) a.Deep a.Bad))) else (some (.inr a))) else none) else (some (.inr a)))
noncomputable def UI : Sy := loopW (YZ )
theorem UI.eq (a : Qf) : UI a = (YZ a).bind (Sum.elim UI some) := Jf _ _
noncomputable abbrev Qe3 {ρ R : Type} (a : Qf) (k0 : Qf → Tr ρ R) : Tr ρ R := .loop (loopAt pp 160 0) (Gs a) (UI a) YY k0
noncomputable def Qe4 (a : Qf) : Tr (Qf ⊕ Qf) XS := (let u102 := (decide (a.P < (zz a.S))); .as u102 (yesN 8 u102 (.as (in1 a.P (zz a.S)) (yesN 2 u102 (.as ((gb a.S a.P) == 32) (lf Gs (Qf.mk a.S (w64 (a.P + 1)) a.Deep a.Bad)) (rx YY a))) .fail)) (noN 10 u102 (.no false (rx YY a))))
theorem UI.ok {a : Qf} {r : Qf} (h : UI a = some r) : lw 1 160 (loopAt pp 160 0) (Gs a) = some (YY r) := by
 refine lpP h Qe4 fun a => ?_
 exact ⟨rfl, fun q0 => Qj 8 (q0) (⟨rfl, fun q1 => Qj 2 (q0) (⟨rfl, fun q2 => rfl, fun q2 => rfl⟩), fun q1 => trivial⟩), fun q0 => noN_ok 10 (q0) (⟨rfl, rfl⟩)⟩
def EW (L0 : Sy) (h0 : Qf) : Option Qf := ((L0 h0).bind (fun (o1 : Qf) => (some o1)))
noncomputable def UV : FW := EW UI
theorem UV.eq (h0 : Qf) : UV h0 = EW UI h0 := rfl
noncomputable def Qiq (h0 : Qf) : Tr Qf AH := (Qe3 h0 (fun o1 => (rt EV o1)))
theorem UV.ok {h0 : Qf} {r : Qf} (h : UV h0 = some r) : ww 160 [.ptr 0 0] [(0, .box [] (Je h0))] = some (EV r) := by
 refine fnP (Qiq h0) ?_ h
 exact fun o1 h => ⟨UI.ok h, rfl⟩
noncomputable abbrev Qbn {ρ R : Type} (h0 : Qf) (k : Qf → Tr ρ R) : Tr ρ R := .call (ww 160 [.ptr 0 0] [(0, .box [] (Je h0))]) (UV h0) EV k
def ZU (r : (Bool × Qf)) : AV × Heap := (xo r.1, [(0, .box [] (Je r.2))])
abbrev XK := ByteArray → Qf → Option (Bool × Qf)
def PF (C0 : FW) (a1 : ByteArray) (h0 : Qf) : Option (Bool × Qf) := ((C0 h0).bind fun r1 => (bif (decide ((w64 (r1.P + ((a1.size : Nat) : Int))) > ((r1.S.size : Nat) : Int))) then (some (false, r1)) else (bif (decide (0 ≤ r1.P ∧ r1.P ≤ (w64 (r1.P + ((a1.size : Nat) : Int))) ∧ (w64 (r1.P + ((a1.size : Nat) : Int))) ≤ ((r1.S.size : Nat) : Int))) then (bif (!(eqS (r1.S.extract (Int.toNat r1.P) (Int.toNat (w64 (r1.P + ((a1.size : Nat) : Int))))) a1)) then (some (false, r1)) else (some (true, (Qf.mk r1.S (w64 (r1.P + ((a1.size : Nat) : Int))) r1.Deep r1.Bad)))) else none)))
noncomputable def Uj : XK := PF UV
theorem Uj.eq (a1 : ByteArray) (h0 : Qf) : Uj a1 h0 = PF UV a1 h0 := rfl
noncomputable def Qkh (a1 : ByteArray) (h0 : Qf) : Tr (Bool × Qf) AH := (Qbn h0 fun r1 => (let u103 := (decide ((w64 (r1.P + (zz a1))) > (zz r1.S))); .as u103 (yesN 18 u103 (.yes true (rt ZU (false, r1)))) (noN 15 u103 (.as (in2 r1.P (w64 (r1.P + (zz a1))) (zz r1.S)) (noN 3 u103 (.as (!(eqS (cu r1.S r1.P (w64 (r1.P + (zz a1)))) a1)) (rt ZU (false, r1)) (rt ZU (true, (Qf.mk r1.S (w64 (r1.P + (zz a1))) r1.Deep r1.Bad))))) .fail))))
theorem Uj.ok {a1 : ByteArray} {h0 : Qf} {r : (Bool × Qf)} (h : Uj a1 h0 = some r) : ww 233 [.ptr 0 0, xs a1] [(0, .box [] (Je h0))] = some (ZU r) := by
 refine fnP (Qkh a1 h0) ?_ h
 exact fun r1 h => ⟨UV.ok h, ⟨rfl, fun q0 => Qj 18 (q0) (⟨rfl, rfl⟩), fun q0 => noN_ok 15 (q0) (⟨rfl, fun q1 => noN_ok 3 (q0) (⟨rfl, fun q2 => rfl, fun q2 => rfl⟩), fun q1 => trivial⟩)⟩⟩
noncomputable abbrev YH {ρ R : Type} (a1 : ByteArray) (h0 : Qf) (k : (Bool × Qf) → Tr ρ R) : Tr ρ R := .call (ww 233 [.ptr 0 0, xs a1] [(0, .box [] (Je h0))]) (Uj a1 h0) ZU k
abbrev Sz := Int → Int → Option Int
def FX (a0 : Int) (a1 : Int) : Option Int := (bif (decide (a0 ≥ 48)) then (bif (decide (a0 ≤ (57 : Int))) then (some (w64 (IntKind.u8.wrap (a0 - 48)))) else (bif (a1 == 16) then (bif (decide (a0 ≥ 97)) then (bif (decide (a0 ≤ (102 : Int))) then (some (w64 ((w64 (IntKind.u8.wrap (a0 - 97))) + 10))) else (some (-1 : Int))) else (some (-1 : Int))) else (some (-1 : Int)))) else (bif (a1 == 16) then (bif (decide (a0 ≥ 97)) then (bif (decide (a0 ≤ (102 : Int))) then (some (w64 ((w64 (IntKind.u8.wrap (a0 - 97))) + 10))) else (some (-1 : Int))) else (some (-1 : Int))) else (some (-1 : Int))))
noncomputable def VQ : Sz := FX
theorem VQ.eq (a0 : Int) (a1 : Int) : VQ a0 a1 = FX a0 a1 := rfl
noncomputable def QpL (a0 : Int) (a1 : Int) : Tr Int AH := (let u108 := (decide (a0 ≥ 48)); .as u108 (yesN 2 u108 (.as (decide (a0 ≤ (zi 57))) (rt Qm (w64 (IntKind.u8.wrap (a0 - 48)))) (let u105 := (a1 == 16); .as u105 (yesN 2 u105 (let u104 := (decide (a0 ≥ 97)); .as u104 (yesN 2 u104 (.as (decide (a0 ≤ (zi 102))) (rt Qm (w64 ((w64 (IntKind.u8.wrap (a0 - 97))) + 10))) (rt Qm (-1 : Int)))) (noN 2 u104 (.no false (rt Qm (-1 : Int)))))) (noN 2 u105 (noN 4 false (rt Qm (-1 : Int))))))) (noN 2 u108 (.no false (let u107 := (a1 == 16); .as u107 (yesN 2 u107 (let u106 := (decide (a0 ≥ 97)); .as u106 (yesN 2 u106 (.as (decide (a0 ≤ (zi 102))) (rt Qm (w64 ((w64 (IntKind.u8.wrap (a0 - 97))) + 10))) (rt Qm (-1 : Int)))) (noN 2 u106 (.no false (rt Qm (-1 : Int)))))) (noN 2 u107 (noN 4 false (rt Qm (-1 : Int))))))))
theorem VQ.ok {a0 : Int} {a1 : Int} {r : Int} (h : VQ a0 a1 = some r) : ww 236 [xb a0, xi a1] [] = some (Qm r) := by
 refine fnP (QpL a0 a1) ?_ h
 exact ⟨rfl, fun q0 => Qj 2 (q0) (⟨rfl, fun q1 => rfl, fun q1 => ⟨rfl, fun q2 => Qj 2 (q2) (⟨rfl, fun q3 => Qj 2 (q3) (⟨rfl, fun q4 => rfl, fun q4 => rfl⟩), fun q3 => noN_ok 2 (q3) (⟨rfl, rfl⟩)⟩), fun q2 => noN_ok 2 (q2) (noN_ok 4 (rfl) (rfl))⟩⟩), fun q0 => noN_ok 2 (q0) (⟨rfl, ⟨rfl, fun q1 => Qj 2 (q1) (⟨rfl, fun q2 => Qj 2 (q2) (⟨rfl, fun q3 => rfl, fun q3 => rfl⟩), fun q2 => noN_ok 2 (q2) (⟨rfl, rfl⟩)⟩), fun q1 => noN_ok 2 (q1) (noN_ok 4 (rfl) (rfl))⟩⟩)⟩
noncomputable abbrev QdT {ρ R : Type} (a0 : Int) (a1 : Int) (k : Int → Tr ρ R) : Tr ρ R := .call (ww 236 [xb a0, xi a1] []) (VQ a0 a1) Qm k
def QC (r : (Qa × Qf)) : AV × Heap := (.agg (QY r.1), [(0, .box [] (Je r.2))])
abbrev ZD := Int → Qf → Option (Qa × Qf)
structure JI where
 x1 : Int
 x5 : Int
 x6 : Int
 h0 : Qf
 h1 : Qa
structure Ui where
 h0 : Qf
 h1 : Qa
structure JO where
 x5 : Int
 x6 : Int
 h0 : Qf
 h1 : Qa
def ZV (a : JI) : St := { n := 74, nx := 2, env := [(0, .ptr 0 0), (1, xi a.x1), (4, .ptr 1 0), (5, xi a.x5), (6, xi a.x6)], heap := [(0, .box [] (Je a.h0)), (1, .box [] (QY a.h1))] }
def EC (a : Ui) : Ex × St := (.ret, { n := 74, nx := 2, env := [(4, .ptr 1 0)], heap := [(0, .box [] (Je a.h0)), (1, .box [] (QY a.h1))] })
def ED (a : JO) : Ex × St := (.exit 0, { n := 74, nx := 2, env := [(0, .ptr 0 0), (4, .ptr 1 0), (5, xi a.x5), (6, xi a.x6)], heap := [(0, .box [] (Je a.h0)), (1, .box [] (QY a.h1))] })
def Ye (a : (Ui ⊕ JO)) : Ex × St := Sum.elim EC ED a
abbrev FY := JI → Option (Ui ⊕ JO)
def Xs (C0 : Sz) (a : JI) : Option (JI ⊕ (Ui ⊕ JO)) := (bif (decide (a.h0.P < ((a.h0.S.size : Nat) : Int))) then (bif (decide (0 ≤ a.h0.P ∧ a.h0.P < ((a.h0.S.size : Nat) : Int))) then ((C0 ((a.h0.S.data.getD (Int.toNat a.h0.P) 0).toNat : Int) a.x1).bind fun r1 => (bif (decide (r1 ≥ 0)) then ((C0 ((a.h0.S.data.getD (Int.toNat a.h0.P) 0).toNat : Int) a.x1).bind fun r2 => (bif (decide ((w64 ((w64 (a.x1 * a.x5)) + r2)) ≥ 4294967296)) then (some (.inr (.inl (Ui.mk (Qf.mk a.h0.S (w64 (a.h0.P + 1)) a.h0.Deep true) (Qa.mk (0 : Int) (0 : Int) s_ ([] : List Qa)))))) else (some (.inl (JI.mk a.x1 (w64 ((w64 (a.x1 * a.x5)) + r2)) a.x6 (Qf.mk a.h0.S (w64 (a.h0.P + 1)) a.h0.Deep a.h0.Bad) a.h1))))) else (some (.inr (.inr (JO.mk a.x5 a.x6 a.h0 a.h1)))))) else none) else (some (.inr (.inr (JO.mk a.x5 a.x6 a.h0 a.h1)))))
noncomputable def Jb : FY := loopW (Xs VQ)
theorem Jb.eq (a : JI) : Jb a = (Xs VQ a).bind (Sum.elim Jb some) := Jf _ _
noncomputable abbrev Qdg {ρ R : Type} (a : JI) (k0 : Ui → Tr ρ R) (k1 : JO → Tr ρ R) : Tr ρ R := .loop2 (loopAt pp 235 2) (ZV a) (Jb a) EC ED k0 k1
noncomputable def Qdh (a : JI) : Tr (JI ⊕ (Ui ⊕ JO)) XS := (let u110 := (decide (a.h0.P < (zz a.h0.S))); .as u110 (yesN 8 u110 (let u109 := (in1 a.h0.P (zz a.h0.S)); .as u109 (yesN 2 u110 (QdT (gb a.h0.S a.h0.P) a.x1 fun r1 => (yesN 2 u110 (.as (decide (r1 ≥ 0)) (.yes u109 (QdT (gb a.h0.S a.h0.P) a.x1 fun r2 => (.as (decide ((w64 ((w64 (a.x1 * a.x5)) + r2)) ≥ 4294967296)) (rx Ye (.inl (Ui.mk (Qf.mk a.h0.S (w64 (a.h0.P + 1)) a.h0.Deep true) (Qa.mk i0 i0 s_ ([] : List Qa))))) (lf ZV (JI.mk a.x1 (w64 ((w64 (a.x1 * a.x5)) + r2)) a.x6 (Qf.mk a.h0.S (w64 (a.h0.P + 1)) a.h0.Deep a.h0.Bad) a.h1))))) (rx Ye (.inr (JO.mk a.x5 a.x6 a.h0 a.h1))))))) .fail)) (noN 12 u110 (.no false (rx Ye (.inr (JO.mk a.x5 a.x6 a.h0 a.h1))))))
theorem Jb.ok {a : JI} {r : (Ui ⊕ JO)} (h : Jb a = some r) : lw 1 235 (loopAt pp 235 2) (ZV a) = some (Ye r) := by
 refine lpP h Qdh fun a => ?_
 exact ⟨rfl, fun q0 => Qj 8 (q0) (⟨rfl, fun q1 => Qj 2 (q0) (fun r1 h => ⟨VQ.ok h, Qj 2 (q0) (⟨rfl, fun q2 => ⟨q1, fun r2 h => ⟨VQ.ok h, ⟨rfl, fun q3 => rfl, fun q3 => rfl⟩⟩⟩, fun q2 => rfl⟩)⟩), fun q1 => trivial⟩), fun q0 => noN_ok 12 (q0) (⟨rfl, rfl⟩)⟩
def Zj (L0 : FY) (a1 : Int) (h0 : Qf) : Option (Qa × Qf) := ((L0 (JI.mk a1 (0 : Int) h0.P h0 (Qa.mk (0 : Int) (0 : Int) s_ ([] : List Qa)))).bind fun x => Sum.elim (fun (o1 : Ui) => (some (o1.h1, o1.h0))) (fun (o2 : JO) => (bif (o2.x6 == o2.h0.P) then (some ((Qa.mk (1 : Int) o2.x5 s_ ([] : List Qa)), (Qf.mk o2.h0.S o2.h0.P o2.h0.Deep true))) else (some ((Qa.mk (1 : Int) o2.x5 s_ ([] : List Qa)), o2.h0)))) x)
noncomputable def J3 : ZD := Zj Jb
theorem J3.eq (a1 : Int) (h0 : Qf) : J3 a1 h0 = Zj Jb a1 h0 := rfl
noncomputable def Qf9 (a1 : Int) (h0 : Qf) : Tr (Qa × Qf) AH := (Qdg (JI.mk a1 i0 h0.P h0 (Qa.mk i0 i0 s_ ([] : List Qa))) (fun o1 => (rt QC (o1.h1, o1.h0))) (fun o2 => (.as (o2.x6 == o2.h0.P) (rt QC ((Qa.mk (zi 1) o2.x5 s_ ([] : List Qa)), (Qf.mk o2.h0.S o2.h0.P o2.h0.Deep true))) (rt QC ((Qa.mk (zi 1) o2.x5 s_ ([] : List Qa)), o2.h0)))))
theorem J3.ok {a1 : Int} {h0 : Qf} {r : (Qa × Qf)} (h : J3 a1 h0 = some r) : ww 235 [.ptr 0 0, xi a1] [(0, .box [] (Je h0))] = some (QC r) := by
 refine fnP (Qf9 a1 h0) ?_ h
 exact ⟨fun o1 h => ⟨Jb.ok (r := (.inl _)) h, rfl⟩, fun o2 h => ⟨Jb.ok (r := (.inr _)) h, ⟨rfl, fun q0 => rfl, fun q0 => rfl⟩⟩⟩
noncomputable abbrev SA {ρ R : Type} (a1 : Int) (h0 : Qf) (k : (Qa × Qf) → Tr ρ R) : Tr ρ R := .call (ww 235 [.ptr 0 0, xi a1] [(0, .box [] (Je h0))]) (J3 a1 h0) QC k
abbrev Gv := Qf → Option (Qa × Qf)
structure QN where
 x3 : Int
 h0 : Qf
 h1 : Qa
structure Jj where
 x3 : Int
 h0 : Qf
 h1 : Qa
def Vs (a : QN) : St := { n := 111, nx := 2, env := [(0, .ptr 0 0), (2, .ptr 1 0), (3, xi a.x3)], heap := [(0, .box [] (Je a.h0)), (1, .box [] (QY a.h1))] }
def WD (a : Jj) : Ex × St := (.exit 0, { n := 111, nx := 2, env := [(0, .ptr 0 0), (2, .ptr 1 0), (3, xi a.x3)], heap := [(0, .box [] (Je a.h0)), (1, .box [] (QY a.h1))] })
abbrev SB := QN → Option Jj
def Y0 (a : QN) : Option (QN ⊕ Jj) := (bif (decide (a.h0.P < ((a.h0.S.size : Nat) : Int))) then (bif (decide (0 ≤ a.h0.P ∧ a.h0.P < ((a.h0.S.size : Nat) : Int))) then (bif (decide (((a.h0.S.data.getD (Int.toNat a.h0.P) 0).toNat : Int) ≥ 97)) then (bif (decide (((a.h0.S.data.getD (Int.toNat a.h0.P) 0).toNat : Int) ≤ 122)) then (some (.inl (QN.mk a.x3 (Qf.mk a.h0.S (w64 (a.h0.P + 1)) a.h0.Deep a.h0.Bad) a.h1))) else (bif (decide (((a.h0.S.data.getD (Int.toNat a.h0.P) 0).toNat : Int) ≥ 48)) then (bif (decide (((a.h0.S.data.getD (Int.toNat a.h0.P) 0).toNat : Int) ≤ 57)) then (some (.inl (QN.mk a.x3 (Qf.mk a.h0.S (w64 (a.h0.P + 1)) a.h0.Deep a.h0.Bad) a.h1))) else (bif (((a.h0.S.data.getD (Int.toNat a.h0.P) 0).toNat : Int) == 95) then (some (.inl (QN.mk a.x3 (Qf.mk a.h0.S (w64 (a.h0.P + 1)) a.h0.Deep a.h0.Bad) a.h1))) else (some (.inr (Jj.mk a.x3 a.h0 a.h1))))) else (bif (((a.h0.S.data.getD (Int.toNat a.h0.P) 0).toNat : Int) == 95) then (some (.inl (QN.mk a.x3 (Qf.mk a.h0.S (w64 (a.h0.P + 1)) a.h0.Deep a.h0.Bad) a.h1))) else (some (.inr (Jj.mk a.x3 a.h0 a.h1)))))) else (bif (decide (((a.h0.S.data.getD (Int.toNat a.h0.P) 0).toNat : Int) ≥ 48)) then (bif (decide (((a.h0.S.data.getD (Int.toNat a.h0.P) 0).toNat : Int) ≤ 57)) then (some (.inl (QN.mk a.x3 (Qf.mk a.h0.S (w64 (a.h0.P + 1)) a.h0.Deep a.h0.Bad) a.h1))) else (bif (((a.h0.S.data.getD (Int.toNat a.h0.P) 0).toNat : Int) == 95) then (some (.inl (QN.mk a.x3 (Qf.mk a.h0.S (w64 (a.h0.P + 1)) a.h0.Deep a.h0.Bad) a.h1))) else (some (.inr (Jj.mk a.x3 a.h0 a.h1))))) else (bif (((a.h0.S.data.getD (Int.toNat a.h0.P) 0).toNat : Int) == 95) then (some (.inl (QN.mk a.x3 (Qf.mk a.h0.S (w64 (a.h0.P + 1)) a.h0.Deep a.h0.Bad) a.h1))) else (some (.inr (Jj.mk a.x3 a.h0 a.h1)))))) else none) else (some (.inr (Jj.mk a.x3 a.h0 a.h1))))
noncomputable def Us : SB := loopW (Y0 )
theorem Us.eq (a : QN) : Us a = (Y0 a).bind (Sum.elim Us some) := Jf _ _
noncomputable abbrev Qe5 {ρ R : Type} (a : QN) (k0 : Jj → Tr ρ R) : Tr ρ R := .loop (loopAt pp 237 2) (Vs a) (Us a) WD k0
noncomputable def Qe6 (a : QN) : Tr (QN ⊕ Jj) XS := (let u118 := (decide (a.h0.P < (zz a.h0.S))); .as u118 (yesN 8 u118 (let u117 := (in1 a.h0.P (zz a.h0.S)); .as u117 (yesN 2 u118 (let u116 := (decide ((gb a.h0.S a.h0.P) ≥ 97)); .as u116 (yesN 8 u116 (.yes u117 (.yes u116 (.yes u118 (.yes u116 (.yes u118 (let u113 := (decide ((gb a.h0.S a.h0.P) ≤ 122)); .as u113 (yesN 11 u113 (.yes u118 (.yes u113 (.yes u118 (yesN 10 true (.yes u118 (.yes true (.yes u118 (.yes true (lf Vs (QN.mk a.x3 (Qf.mk a.h0.S (w64 (a.h0.P + 1)) a.h0.Deep a.h0.Bad) a.h1))))))))))) (noN 8 u113 (.yes u117 (noN 2 u113 (let u112 := (decide ((gb a.h0.S a.h0.P) ≥ 48)); .as u112 (yesN 8 u112 (.yes u117 (.yes u112 (.no u113 (.yes u112 (.yes u118 (.no u113 (.yes u118 (let u111 := (decide ((gb a.h0.S a.h0.P) ≤ 57)); .as u111 (yesN 9 u111 (.yes u118 (.yes u111 (.yes u118 (.yes true (lf Vs (QN.mk a.x3 (Qf.mk a.h0.S (w64 (a.h0.P + 1)) a.h0.Deep a.h0.Bad) a.h1))))))) (noN 8 u111 (.yes u117 (.no u111 (.yes u118 (.no u111 (.yes u118 (.as ((gb a.h0.S a.h0.P) == 95) (lf Vs (QN.mk a.x3 (Qf.mk a.h0.S (w64 (a.h0.P + 1)) a.h0.Deep a.h0.Bad) a.h1)) (rx WD (Jj.mk a.x3 a.h0 a.h1)))))))))))))))))) (noN 9 u112 (.no u113 (.no u112 (.yes u118 (.no u113 (.yes u118 (noN 9 false (.yes u117 (.no false (.yes u118 (.no false (.yes u118 (.as ((gb a.h0.S a.h0.P) == 95) (lf Vs (QN.mk a.x3 (Qf.mk a.h0.S (w64 (a.h0.P + 1)) a.h0.Deep a.h0.Bad) a.h1)) (rx WD (Jj.mk a.x3 a.h0 a.h1)))))))))))))))))))))))))) (noN 9 u116 (.yes u118 (.no u116 (.yes u118 (noN 9 false (.yes u117 (noN 2 false (let u115 := (decide ((gb a.h0.S a.h0.P) ≥ 48)); .as u115 (yesN 8 u115 (.yes u117 (.yes u115 (.no false (.yes u115 (.yes u118 (.no false (.yes u118 (let u114 := (decide ((gb a.h0.S a.h0.P) ≤ 57)); .as u114 (yesN 9 u114 (.yes u118 (.yes u114 (.yes u118 (.yes true (lf Vs (QN.mk a.x3 (Qf.mk a.h0.S (w64 (a.h0.P + 1)) a.h0.Deep a.h0.Bad) a.h1))))))) (noN 8 u114 (.yes u117 (.no u114 (.yes u118 (.no u114 (.yes u118 (.as ((gb a.h0.S a.h0.P) == 95) (lf Vs (QN.mk a.x3 (Qf.mk a.h0.S (w64 (a.h0.P + 1)) a.h0.Deep a.h0.Bad) a.h1)) (rx WD (Jj.mk a.x3 a.h0 a.h1)))))))))))))))))) (noN 9 u115 (.no false (.no u115 (.yes u118 (.no false (.yes u118 (noN 9 false (.yes u117 (.no false (.yes u118 (.no false (.yes u118 (.as ((gb a.h0.S a.h0.P) == 95) (lf Vs (QN.mk a.x3 (Qf.mk a.h0.S (w64 (a.h0.P + 1)) a.h0.Deep a.h0.Bad) a.h1)) (rx WD (Jj.mk a.x3 a.h0 a.h1))))))))))))))))))))))))) .fail)) (noN 16 u118 (.no false (rx WD (Jj.mk a.x3 a.h0 a.h1)))))
end Go.Ab
