/- LineMany: part 2 of the proof that, whatever the input, the law returns true and the input reads as it did; its conditions are those of the given row. -/
import Derived.Test.YtblfhkldljfhiaaGreatDoorZLineMany1
import Derived.Test.YtblfhkldljfhiaaGreatDoorProg
set_option linter.unusedVariables false
set_option linter.unusedSimpArgs false
namespace Go.Ab
open Go.Proofs
def Vf (x : ByteArray) : List AV := [.sc (.string x)]
def Qh (l : List ByteArray) : List (List AV) := l.map Vf
theorem Un (l : List ByteArray) : l.map Vf = Qh l := rfl
theorem Yt (l m : List ByteArray) : Qh l ++ Qh m = Qh (l ++ m) := by simp only [← Un, List.map_append]
theorem Qmp (l : List ByteArray) (i : Nat) (a : ByteArray) : (Qh l).set i (Vf a) = Qh (l.set i a) := by simp only [← Un, List.map_set]
theorem Qk2 (l : List ByteArray) (i n : Nat) : ((Qh l).drop i).take n = Qh ((l.drop i).take n) := by simp only [← Un, List.map_take, List.map_drop]
theorem VP {l : List ByteArray} {n : Nat} {a : ByteArray} (h : l[n]? = some a) : (Qh l)[n]? = some (Vf a) := by rw [← Un]; exact rows_get h
theorem Y8 (l : List ByteArray) : (Qh l).all (fun r => r.length == 1) = true := by rw [← Un]; exact rows_all (C := Vf) (fun _ => rfl) l
theorem Qr (l : List ByteArray) : (Qh l).length = l.length := by rw [← Un, List.length_map]
def C_u8 (x : Int) : List AV := [.sc (.int .u8 x)]
def R_u8 (l : List Int) : List (List AV) := l.map C_u8
theorem Qmq (l : List Int) : l.map C_u8 = R_u8 l := rfl
def Qmo (x : Int) : List AV := [.sc (.int .i64 x)]
def EM (l : List Int) : List (List AV) := l.map Qmo
theorem Sw (l : List Int) : l.map Qmo = EM l := rfl
theorem QoQ {l : List Int} {n : Nat} {a : Int} (h : l[n]? = some a) : (EM l)[n]? = some (Qmo a) := by rw [← Sw]; exact rows_get h
theorem QoR (l : List Int) : (EM l).length = l.length := by rw [← Sw, List.length_map]
structure Qb where
  Kind : Int
  N : Int
  Name : ByteArray
  L : (List Qb)
deriving Inhabited
mutual
def Qkl : Qb → List AV
  | ⟨x0, x1, x2, x3⟩ => [.sc (.int .i64 x0), .sc (.int .i64 x1), .sc (.string x2), .sl (Uj x3)]
def Uj : List Qb → List (List AV)
  | [] => []
  | x :: l => Qkl x :: Uj l
end
def Q7 (x : Qb) : List AV := [.sc (.int .i64 x.Kind), .sc (.int .i64 x.N), .sc (.string x.Name), .sl (Uj x.L)]
theorem El (l : List Qb) : l.map Q7 = Uj l := by
  induction l with
  | nil => rw [Uj]; rfl
  | cons x l ih => rw [Uj, List.map_cons, ih]; congr 1; cases x; rw [Qkl]; rfl
theorem Qgv {l : List Qb} {n : Nat} {a : Qb} (h : l[n]? = some a) : (Uj l)[n]? = some (Q7 a) := by rw [← El]; exact rows_get h
theorem QcQ (l : List Qb) : (Uj l).length = l.length := by rw [← El, List.length_map]
structure Qg where
  Reg : Int
  E : Qb
deriving Inhabited
def Ef (x : Qg) : List AV := [.sc (.int .i64 x.Reg), .sc (.int .i64 x.E.Kind), .sc (.int .i64 x.E.N), .sc (.string x.E.Name), .sl (Uj x.E.L)]
def Qo (l : List Qg) : List (List AV) := l.map Ef
theorem XZ (l : List Qg) : l.map Ef = Qo l := rfl
theorem Px (l m : List Qg) : Qo l ++ Qo m = Qo (l ++ m) := by simp only [← XZ, List.map_append]
theorem Qa1 {l : List Qg} {n : Nat} {a : Qg} (h : l[n]? = some a) : (Qo l)[n]? = some (Ef a) := by rw [← XZ]; exact rows_get h
theorem Qa2 (l : List Qg) : (Qo l).all (fun r => r.length == 5) = true := by rw [← XZ]; exact rows_all (C := Ef) (fun _ => rfl) l
theorem Wc (l : List Qg) : (Qo l).length = l.length := by rw [← XZ, List.length_map]
structure Qf where
  Line : Int
  Label : ByteArray
  Kind : Int
  Op : Int
  Text : ByteArray
  Args : (List Qg)
deriving Inhabited
def Ga (x : Qf) : List AV := [.sc (.int .i64 x.Line), .sc (.string x.Label), .sc (.int .i64 x.Kind), .sc (.int .i64 x.Op), .sc (.string x.Text), .sl (Qo x.Args)]
structure Qc where
  x : Qf
deriving Inhabited
structure Qe where
  name : ByteArray
  bits : Int
  kinds : ByteArray
deriving Inhabited
def Sx (x : Qe) : List AV := [.sc (.string x.name), .sc (.int .u32 x.bits), .sc (.string x.kinds)]
def Gl (l : List Qe) : List (List AV) := l.map Sx
theorem Qd1 (l : List Qe) : l.map Sx = Gl l := rfl
theorem QhH {l : List Qe} {n : Nat} {a : Qe} (h : l[n]? = some a) : (Gl l)[n]? = some (Sx a) := by rw [← Qd1]; exact rows_get h
theorem QhI (l : List Qe) : (Gl l).length = l.length := by rw [← Qd1, List.length_map]
def Qir (x : Nat) : List AV := [.fn (.func x) [] []]
def US (l : List Nat) : List (List AV) := l.map Qir
theorem Fb (l : List Nat) : l.map Qir = US l := rfl
theorem Qd2 (l m : List Nat) : US l ++ US m = US (l ++ m) := by simp only [← Fb, List.map_append]
theorem Qoe {l : List Nat} {n : Nat} {a : Nat} (h : l[n]? = some a) : (US l)[n]? = some (Qir a) := by rw [← Fb]; exact rows_get h
theorem Qha (l : List Nat) : (US l).all (fun r => r.length == 1) = true := by rw [← Fb]; exact rows_all (C := Qir) (fun _ => rfl) l
theorem G4 (l : List Nat) : (US l).length = l.length := by rw [← Fb, List.length_map]
structure Qa where
  left : ByteArray
  deep : Int
  bad : Bool
deriving Inhabited
def Q0 (x : Qa) : List AV := [.sc (.string x.left), .sc (.int .i64 x.deep), .sc (.bool x.bad)]
def Qis (x : (List Int)) : List AV := [.sl (EM x)]
def Qdy (l : List (List Int)) : List (List AV) := l.map Qis
theorem Qhb (l : List (List Int)) : l.map Qis = Qdy l := rfl
theorem Qkm {l : List (List Int)} {n : Nat} {a : (List Int)} (h : l[n]? = some a) : (Qdy l)[n]? = some (Qis a) := by rw [← Qhb]; exact rows_get h
theorem Qof (l : List (List Int)) : (Qdy l).length = l.length := by rw [← Qhb, List.length_map]
structure QA where
  Name : ByteArray
  Bits : ByteArray
  Kinds : ByteArray
deriving Inhabited
def Qhc (x : QA) : List AV := [.sc (.string x.Name), .sc (.string x.Bits), .sc (.string x.Kinds)]
structure Qd where
  S : ByteArray
  P : Int
  Deep : Int
  Bad : Bool
deriving Inhabited
def J1 (x : Qd) : List AV := [.sc (.string x.S), .sc (.int .i64 x.P), .sc (.int .i64 x.Deep), .sc (.bool x.Bad)]
def listB (l : List Int) : List UInt8 := l.map fun n => UInt8.ofNat n.toNat
theorem QlC (l : List Int) : bytesOfRows (R_u8 l) = some (listB l) := by
  induction l with
  | nil => rfl
  | cons x l ih => simp only [R_u8, listB, List.map_cons] at ih ⊢; simp only [bytesOfRows, C_u8, rowByte, ih, Option.bind_some, Option.map_some]
def h_20 : ByteArray := ⟨#[32]⟩
def Xw : ByteArray := ⟨#[32, 9]⟩
def UV : ByteArray := ⟨#[32, 88, 32, 89, 32, 68, 32, 65, 32, 66, 32]⟩
def h_22 : ByteArray := ⟨#[34]⟩
def h_26 : ByteArray := ⟨#[38]⟩
def h_28 : ByteArray := ⟨#[40]⟩
def h_29 : ByteArray := ⟨#[41]⟩
def h_2a : ByteArray := ⟨#[42]⟩
def h_2b : ByteArray := ⟨#[43]⟩
def h_2c : ByteArray := ⟨#[44]⟩
def h_2d : ByteArray := ⟨#[45]⟩
def h_2e : ByteArray := ⟨#[46]⟩
def Jg : ByteArray := ⟨#[46, 97, 108, 105, 103, 110]⟩
def VM : ByteArray := ⟨#[46, 97, 115, 99, 105, 105]⟩
def QQ : ByteArray := ⟨#[46, 97, 115, 99, 105, 105, 32, 34]⟩
def QD : ByteArray := ⟨#[46, 98, 121, 116, 101]⟩
def X7 : ByteArray := ⟨#[46, 101, 113, 117]⟩
def QE : ByteArray := ⟨#[46, 104, 97, 108, 102]⟩
def QF : ByteArray := ⟨#[46, 108, 111, 110, 103]⟩
def Jh : ByteArray := ⟨#[46, 115, 112, 97, 99, 101]⟩
def QeQ : ByteArray := ⟨#[60, 60]⟩
def QeR : ByteArray := ⟨#[62, 62]⟩
def VQ : ByteArray := ⟨#[65, 32, 68, 32, 66]⟩
def Vg : ByteArray := ⟨#[65, 32, 68, 32, 67, 56]⟩
def VR : ByteArray := ⟨#[68, 32, 65, 32, 66]⟩
def Pc : ByteArray := ⟨#[68, 32, 65, 32, 67, 56]⟩
def Es : ByteArray := ⟨#[68, 32, 65, 32, 83, 49, 54]⟩
def Sy : ByteArray := ⟨#[68, 32, 76, 50, 48]⟩
def Qv : ByteArray := ⟨#[68, 32, 83, 49, 54, 32, 65]⟩
def Gm : ByteArray := ⟨#[79, 49, 32, 73, 50, 32, 84, 56]⟩
def Vr : ByteArray := ⟨#[79, 50, 32, 73, 52, 32, 84, 49, 53]⟩
def WV : ByteArray := ⟨#[88, 32, 79, 53]⟩
def J5 : ByteArray := ⟨#[88, 32, 85, 53]⟩
def Qbw : ByteArray := ⟨#[88, 32, 85, 55]⟩
def Jp : ByteArray := ⟨#[88, 32, 89]⟩
def W9 : ByteArray := ⟨#[89, 32, 77, 49, 32, 88]⟩
def Xa : ByteArray := ⟨#[89, 32, 77, 50, 32, 88]⟩
def Xb : ByteArray := ⟨#[89, 32, 77, 52, 32, 88]⟩
def h_7c : ByteArray := ⟨#[124]⟩
def Qj : ByteArray := ⟨#[115, 101, 95, 105, 108, 108, 101, 103, 97, 108, 58, 48, 48, 48, 48, 58, 124, 115, 101, 95, 105, 115, 121, 110, 99, 58, 48, 48, 48, 49, 58, 124, 115, 101, 95, 115, 99, 58, 48, 48, 48, 50, 58, 124, 115, 101, 95, 98, 108, 114, 58, 48, 48, 48, 52, 58, 124, 115, 101, 95, 98, 99, 116, 114, 58, 48, 48, 48, 54, 58, 124, 115, 101, 95, 110, 111, 116, 58, 48, 48, 50, 48, 58, 88, 124, 115, 101, 95, 110, 101, 103, 58, 48, 48, 51, 48, 58, 88, 124, 115, 101, 95, 109, 102, 108, 114, 58, 48, 48, 56, 48, 58, 88, 124, 115, 101, 95, 109, 116, 108, 114, 58, 48, 48, 57, 48, 58, 88, 124, 115, 101, 95, 109, 102, 99, 116, 114, 58, 48, 48, 97, 48, 58, 88, 124, 115, 101, 95, 109, 116, 99, 116, 114, 58, 48, 48, 98, 48, 58, 88, 124, 115, 101, 95, 101, 120, 116, 122, 98, 58, 48, 48, 99, 48, 58, 88, 124, 115, 101, 95, 101, 120, 116, 115, 98, 58, 48, 48, 100, 48, 58, 88, 124, 115, 101, 95, 101, 120, 116, 122, 104, 58, 48, 48, 101, 48, 58, 88, 124, 115, 101, 95, 101, 120, 116, 115, 104, 58, 48, 48, 102, 48, 58, 88, 124, 115, 101, 95, 109, 114, 58, 48, 49, 48, 48, 58, 88, 32, 89, 124, 115, 101, 95, 97, 100, 100, 58, 48, 52, 48, 48, 58, 88, 32, 89, 124, 115, 101, 95, 109, 117, 108, 108, 119, 58, 48, 53, 48, 48, 58, 88, 32, 89, 124, 115, 101, 95, 115, 117, 98, 58, 48, 54, 48, 48, 58, 88, 32, 89, 124, 115, 101, 95, 99, 109, 112, 58, 48, 99, 48, 48, 58, 88, 32, 89, 124, 115, 101, 95, 99, 109, 112, 108, 58, 48, 100, 48, 48, 58, 88, 32, 89, 124, 115, 101, 95, 97, 100, 100, 105, 58, 50, 48, 48, 48, 58, 88, 32, 79, 53, 124, 115, 101, 95, 99, 109, 112, 108, 105, 58, 50, 50, 48, 48, 58, 88, 32, 79, 53, 124, 115, 101, 95, 115, 117, 98, 105, 58, 50, 52, 48, 48, 58, 88, 32, 79, 53, 124, 115, 101, 95, 99, 109, 112, 105, 58, 50, 97, 48, 48, 58, 88, 32, 85, 53, 124, 115, 101, 95, 111, 114, 58, 52, 52, 48, 48, 58, 88, 32, 89, 124, 115, 101, 95, 97, 110, 100, 99, 58, 52, 53, 48, 48, 58, 88, 32, 89, 124, 115, 101, 95, 97, 110, 100, 58, 52, 54, 48, 48, 58, 88, 32, 89, 124, 115, 101, 95, 108, 105, 58, 52, 56, 48, 48, 58, 88, 32, 85, 55, 124, 115, 101, 95, 98, 99, 108, 114, 105, 58, 54, 48, 48, 48, 58, 88, 32, 85, 53, 124, 115, 101, 95, 98, 115, 101, 116, 105, 58, 54, 52, 48, 48, 58, 88, 32, 85, 53, 124, 115, 101, 95, 98, 116, 115, 116, 105, 58, 54, 54, 48, 48, 58, 88, 32, 85, 53, 124, 115, 101, 95, 115, 114, 119, 105, 58, 54, 56, 48, 48, 58, 88, 32, 85, 53, 124, 115, 101, 95, 115, 108, 119, 105, 58, 54, 99, 48, 48, 58, 88, 32, 85, 53, 124, 115, 101, 95, 108, 98, 122, 58, 56, 48, 48, 48, 58, 89, 32, 77, 49, 32, 88, 124, 115, 101, 95, 115, 116, 98, 58, 57, 48, 48, 48, 58, 89, 32, 77, 49, 32, 88, 124, 115, 101, 95, 108, 104, 122, 58, 97, 48, 48, 48, 58, 89, 32, 77, 50, 32, 88, 124, 115, 101, 95, 115, 116, 104, 58, 98, 48, 48, 48, 58, 89, 32, 77, 50, 32, 88, 124, 115, 101, 95, 108, 119, 122, 58, 99, 48, 48, 48, 58, 89, 32, 77, 52, 32, 88, 124, 115, 101, 95, 115, 116, 119, 58, 100, 48, 48, 48, 58, 89, 32, 77, 52, 32, 88, 124, 115, 101, 95, 98, 99, 58, 101, 48, 48, 48, 58, 79, 49, 32, 73, 50, 32, 84, 56, 124, 115, 101, 95, 98, 58, 101, 56, 48, 48, 58, 84, 56, 124, 115, 101, 95, 98, 108, 58, 101, 57, 48, 48, 58, 84, 56, 124, 101, 95, 97, 100, 100, 49, 54, 105, 58, 49, 99, 48, 48, 48, 48, 48, 48, 58, 68, 32, 65, 32, 83, 49, 54, 124, 101, 95, 97, 100, 100, 105, 58, 49, 56, 48, 48, 56, 48, 48, 48, 58, 68, 32, 65, 32, 67, 56, 124, 101, 95, 97, 110, 100, 105, 58, 49, 56, 48, 48, 99, 48, 48, 48, 58, 65, 32, 68, 32, 67, 56, 124, 101, 95, 111, 114, 105, 58, 49, 56, 48, 48, 100, 48, 48, 48, 58, 65, 32, 68, 32, 67, 56, 124, 101, 95, 120, 111, 114, 105, 58, 49, 56, 48, 48, 101, 48, 48, 48, 58, 65, 32, 68, 32, 67, 56, 124, 101, 95, 108, 105, 58, 55, 48, 48, 48, 48, 48, 48, 48, 58, 68, 32, 76, 50, 48, 124, 101, 95, 108, 98, 122, 58, 51, 48, 48, 48, 48, 48, 48, 48, 58, 68, 32, 83, 49, 54, 32, 65, 124, 101, 95, 115, 116, 98, 58, 51, 52, 48, 48, 48, 48, 48, 48, 58, 68, 32, 83, 49, 54, 32, 65, 124, 101, 95, 108, 104, 97, 58, 51, 56, 48, 48, 48, 48, 48, 48, 58, 68, 32, 83, 49, 54, 32, 65, 124, 101, 95, 108, 119, 122, 58, 53, 48, 48, 48, 48, 48, 48, 48, 58, 68, 32, 83, 49, 54, 32, 65, 124, 101, 95, 115, 116, 119, 58, 53, 52, 48, 48, 48, 48, 48, 48, 58, 68, 32, 83, 49, 54, 32, 65, 124, 101, 95, 108, 104, 122, 58, 53, 56, 48, 48, 48, 48, 48, 48, 58, 68, 32, 83, 49, 54, 32, 65, 124, 101, 95, 115, 116, 104, 58, 53, 99, 48, 48, 48, 48, 48, 48, 58, 68, 32, 83, 49, 54, 32, 65, 124, 101, 95, 98, 58, 55, 56, 48, 48, 48, 48, 48, 48, 58, 84, 50, 52, 124, 101, 95, 98, 108, 58, 55, 56, 48, 48, 48, 48, 48, 49, 58, 84, 50, 52, 124, 101, 95, 98, 99, 58, 55, 97, 48, 48, 48, 48, 48, 48, 58, 79, 50, 32, 73, 52, 32, 84, 49, 53, 124, 101, 95, 98, 99, 108, 58, 55, 97, 48, 48, 48, 48, 48, 49, 58, 79, 50, 32, 73, 52, 32, 84, 49, 53, 124, 97, 100, 100, 58, 55, 99, 48, 48, 48, 50, 49, 52, 58, 68, 32, 65, 32, 66, 124, 115, 117, 98, 102, 58, 55, 99, 48, 48, 48, 48, 53, 48, 58, 68, 32, 65, 32, 66, 124, 109, 117, 108, 108, 119, 58, 55, 99, 48, 48, 48, 49, 100, 54, 58, 68, 32, 65, 32, 66, 124, 97, 110, 100, 58, 55, 99, 48, 48, 48, 48, 51, 56, 58, 65, 32, 68, 32, 66, 124, 111, 114, 58, 55, 99, 48, 48, 48, 51, 55, 56, 58, 65, 32, 68, 32, 66, 124, 120, 111, 114, 58, 55, 99, 48, 48, 48, 50, 55, 56, 58, 65, 32, 68, 32, 66, 124]⟩
def s_ : ByteArray := ⟨#[]⟩
def s_0x : ByteArray := ⟨#[48, 120]⟩
def Qc4 : ByteArray := ⟨#[84, 50, 52]⟩
def s_T8 : ByteArray := ⟨#[84, 56]⟩
def s_X : ByteArray := ⟨#[88]⟩
def s_a : ByteArray := ⟨#[97]⟩
def Qkn : ByteArray := ⟨#[97, 100, 100]⟩
def Qko : ByteArray := ⟨#[97, 110, 100]⟩
def s_b : ByteArray := ⟨#[98]⟩
def s_bc : ByteArray := ⟨#[98, 99]⟩
def s_bl : ByteArray := ⟨#[98, 108]⟩
def Qbx : ByteArray := ⟨#[101, 95, 97, 100, 100, 49, 54, 105]⟩
def QeS : ByteArray := ⟨#[101, 95, 97, 100, 100, 105]⟩
def QeT : ByteArray := ⟨#[101, 95, 97, 110, 100, 105]⟩
def Qkp : ByteArray := ⟨#[101, 95, 98]⟩
def Qit : ByteArray := ⟨#[101, 95, 98, 99]⟩
def Qgw : ByteArray := ⟨#[101, 95, 98, 99, 108]⟩
def Qiu : ByteArray := ⟨#[101, 95, 98, 108]⟩
def Qgx : ByteArray := ⟨#[101, 95, 108, 98, 122]⟩
def Qgy : ByteArray := ⟨#[101, 95, 108, 104, 97]⟩
def Qgz : ByteArray := ⟨#[101, 95, 108, 104, 122]⟩
def Qiv : ByteArray := ⟨#[101, 95, 108, 105]⟩
def QgA : ByteArray := ⟨#[101, 95, 108, 119, 122]⟩
def QgB : ByteArray := ⟨#[101, 95, 111, 114, 105]⟩
def QgC : ByteArray := ⟨#[101, 95, 115, 116, 98]⟩
def QgD : ByteArray := ⟨#[101, 95, 115, 116, 104]⟩
def QgE : ByteArray := ⟨#[101, 95, 115, 116, 119]⟩
def QeU : ByteArray := ⟨#[101, 95, 120, 111, 114, 105]⟩
def QgF : ByteArray := ⟨#[109, 117, 108, 108, 119]⟩
def s_or : ByteArray := ⟨#[111, 114]⟩
def QeV : ByteArray := ⟨#[115, 101, 95, 97, 100, 100]⟩
def Qdz : ByteArray := ⟨#[115, 101, 95, 97, 100, 100, 105]⟩
def QeW : ByteArray := ⟨#[115, 101, 95, 97, 110, 100]⟩
def QdA : ByteArray := ⟨#[115, 101, 95, 97, 110, 100, 99]⟩
def Qiw : ByteArray := ⟨#[115, 101, 95, 98]⟩
def QgG : ByteArray := ⟨#[115, 101, 95, 98, 99]⟩
def Qby : ByteArray := ⟨#[115, 101, 95, 98, 99, 108, 114, 105]⟩
def QdB : ByteArray := ⟨#[115, 101, 95, 98, 99, 116, 114]⟩
def QgH : ByteArray := ⟨#[115, 101, 95, 98, 108]⟩
def QeX : ByteArray := ⟨#[115, 101, 95, 98, 108, 114]⟩
def Qbz : ByteArray := ⟨#[115, 101, 95, 98, 115, 101, 116, 105]⟩
def QbA : ByteArray := ⟨#[115, 101, 95, 98, 116, 115, 116, 105]⟩
def QeY : ByteArray := ⟨#[115, 101, 95, 99, 109, 112]⟩
def QdC : ByteArray := ⟨#[115, 101, 95, 99, 109, 112, 105]⟩
def QdD : ByteArray := ⟨#[115, 101, 95, 99, 109, 112, 108]⟩
def QbB : ByteArray := ⟨#[115, 101, 95, 99, 109, 112, 108, 105]⟩
def QbC : ByteArray := ⟨#[115, 101, 95, 101, 120, 116, 115, 98]⟩
def QbD : ByteArray := ⟨#[115, 101, 95, 101, 120, 116, 115, 104]⟩
def QbE : ByteArray := ⟨#[115, 101, 95, 101, 120, 116, 122, 98]⟩
def QbF : ByteArray := ⟨#[115, 101, 95, 101, 120, 116, 122, 104]⟩
def Sz : ByteArray := ⟨#[115, 101, 95, 105, 108, 108, 101, 103, 97, 108]⟩
def QbG : ByteArray := ⟨#[115, 101, 95, 105, 115, 121, 110, 99]⟩
def QeZ : ByteArray := ⟨#[115, 101, 95, 108, 98, 122]⟩
def Qe0 : ByteArray := ⟨#[115, 101, 95, 108, 104, 122]⟩
def QgI : ByteArray := ⟨#[115, 101, 95, 108, 105]⟩
def Qe1 : ByteArray := ⟨#[115, 101, 95, 108, 119, 122]⟩
def QbH : ByteArray := ⟨#[115, 101, 95, 109, 102, 99, 116, 114]⟩
def QdE : ByteArray := ⟨#[115, 101, 95, 109, 102, 108, 114]⟩
def QgJ : ByteArray := ⟨#[115, 101, 95, 109, 114]⟩
def QbI : ByteArray := ⟨#[115, 101, 95, 109, 116, 99, 116, 114]⟩
def QdF : ByteArray := ⟨#[115, 101, 95, 109, 116, 108, 114]⟩
def QbJ : ByteArray := ⟨#[115, 101, 95, 109, 117, 108, 108, 119]⟩
def Qe2 : ByteArray := ⟨#[115, 101, 95, 110, 101, 103]⟩
def Qe3 : ByteArray := ⟨#[115, 101, 95, 110, 111, 116]⟩
def QgK : ByteArray := ⟨#[115, 101, 95, 111, 114]⟩
def QgL : ByteArray := ⟨#[115, 101, 95, 115, 99]⟩
def QdG : ByteArray := ⟨#[115, 101, 95, 115, 108, 119, 105]⟩
def QdH : ByteArray := ⟨#[115, 101, 95, 115, 114, 119, 105]⟩
def Qe4 : ByteArray := ⟨#[115, 101, 95, 115, 116, 98]⟩
def Qe5 : ByteArray := ⟨#[115, 101, 95, 115, 116, 104]⟩
def Qe6 : ByteArray := ⟨#[115, 101, 95, 115, 116, 119]⟩
def Qe7 : ByteArray := ⟨#[115, 101, 95, 115, 117, 98]⟩
def QdI : ByteArray := ⟨#[115, 101, 95, 115, 117, 98, 105]⟩
def Qix : ByteArray := ⟨#[115, 117, 98, 102]⟩
def Qkq : ByteArray := ⟨#[120, 111, 114]⟩
def anT : List (Nat × List (Nat × Ann)) := [
  (14, [(6, { keep := [2, 7, 8, 9], out := [2, 7, 8], res := [6], own := [], full := false }), (14, { keep := [2, 7, 10, 11, 12, 13], out := [2, 7, 10, 11, 12], res := [6], own := [], full := false })]),
  (20, [(2, { keep := [0, 2, 4], out := [0, 2], res := [2, 3], own := [], full := false }), (12, { keep := [2, 5, 6, 7], out := [2, 5, 6, 7], res := [2, 3], own := [], full := false })]),
  (28, [(4, { keep := [2, 3, 5], out := [], res := [4], own := [], full := false })]),
  (36, [(4, { keep := [0, 3, 4, 5], out := [3], res := [2], own := [(3, 1)], full := false })]),
  (39, [(2, { keep := [0, 3], out := [], res := [2], own := [], full := false })]),
  (52, [(2, { keep := [0, 4], out := [0], res := [2, 3], own := [], full := false })]),
  (53, [(1, { keep := [0], out := [0], res := [2], own := [], full := false }), (3, { keep := [0], out := [0], res := [2], own := [], full := false })]),
  (54, [(3, { keep := [0, 3, 4], out := [0], res := [2], own := [], full := false })]),
  (55, [(4, { keep := [0, 3, 4, 5, 6], out := [3], res := [2], own := [(3, 1)], full := false })]),
  (58, [(5, { keep := [0, 1, 4, 7, 8, 9, 10, 11], out := [4], res := [4, 5, 6], own := [], full := false })]),
  (71, [(3, { keep := [0, 3, 4], out := [], res := [2], own := [], full := false })]),
  (72, [(2, { keep := [0, 1, 5], out := [5], res := [4], own := [], full := false })]),
  (78, [(4, { keep := [2, 3, 5], out := [], res := [4], own := [], full := false })]),
  (83, [(5, { keep := [0, 3, 4], out := [3], res := [2], own := [], full := false })]),
  (100, [(4, { keep := [0, 4], out := [0], res := [2, 3], own := [], full := false })]),
  (101, [(3, { keep := [0, 1, 6, 7], out := [6], res := [4, 5], own := [(6, 5)], full := false })]),
  (116, [(1, { keep := [0, 1], out := [0], res := [4], own := [], full := false })]),
  (123, [(5, { keep := [3, 10, 11], out := [3], res := [2], own := [(3, 1)], full := true })]),
  (125, [(3, { keep := [0, 1, 5, 14, 15, 16], out := [1, 5], res := [4], own := [(5, 200)], full := false })]),
  (126, [(2, { keep := [0, 1, 7, 8], out := [], res := [4], own := [], full := false })]),
  (127, [(3, { keep := [0, 1, 5, 6], out := [5], res := [4], own := [], full := false })]),
  (128, [(3, { keep := [0, 5, 6, 7], out := [5], res := [4], own := [(5, 200)], full := false })]),
  (159, [(4, { keep := [0, 1, 4, 5], out := [], res := [4], own := [], full := false })]),
  (160, [(0, { keep := [0], out := [], res := [], own := [], full := false })]),
  (175, [(2, { keep := [0, 1, 7, 8], out := [], res := [4], own := [], full := false })]),
  (205, [(5, { keep := [0, 3, 4], out := [3], res := [2], own := [], full := false })]),
  (207, [(2, { keep := [0, 1, 5], out := [], res := [4], own := [], full := false })]),
  (215, [(5, { keep := [0, 1, 4, 5, 6], out := [4, 5], res := [4], own := [], full := false })]),
  (235, [(2, { keep := [0, 1, 4, 5, 6], out := [0, 4, 5, 6], res := [4], own := [], full := false })]),
  (237, [(2, { keep := [0, 2, 3], out := [0, 2, 3], res := [2], own := [], full := false })]),
  (244, [(2, { keep := [0, 7, 8, 9], out := [], res := [4], own := [], full := false })]),
  (266, [(2, { keep := [0, 1, 8], out := [0], res := [4], own := [], full := false })]),
  (269, [(3, { keep := [0, 1, 2, 6, 7, 12], out := [0, 1, 6, 7], res := [6], own := [], full := false })])]
def kdT : List (Nat × List Nat) := [(37, [0, 0, 0, 0, 0, 5]), (56, [129, 131, 178]), (60, [0, 1]), (113, [0, 0, 0, 0, 0, 5])]
def extT : List (Nat × (List AV → Heap → Option (AV × Heap))) := [(23, knownX), (70, indexByteX), (74, trimX), (77, (cloneF 5 64)), (79, splitX), (145, fieldsX), (177, containsX), (241, atoiX)]
def G : Cfg := { ext := fun f => get f extT, an := fun f r => ((get f anT).bind (get r)).getD {}, kd := fun t => (get t kdT).getD [] }
def anT0 : List (Nat × List (Nat × Ann)) := [
  (26, [(15, { keep := [1, 3, 4, 40, 41, 42], out := [1, 3, 4], res := [2], own := [(4, 1)], full := false })]),
  (31, [(2, { keep := [2, 3, 9, 10, 11], out := [2, 3], res := [2, 3], own := [(2, 6), (3, 1)], full := false })]),
  (71, [(3, { keep := [0, 3, 4], out := [], res := [2], own := [], full := false })]),
  (72, [(2, { keep := [0, 1, 5], out := [5], res := [4], own := [], full := false })]),
  (116, [(1, { keep := [0, 1], out := [0], res := [4], own := [], full := false })]),
  (123, [(5, { keep := [3, 10, 11], out := [3], res := [2], own := [(3, 1)], full := true })]),
  (125, [(3, { keep := [0, 1, 5, 14, 15, 16], out := [1, 5], res := [4], own := [(5, 200)], full := false })]),
  (126, [(2, { keep := [0, 1, 7, 8], out := [], res := [4], own := [], full := false })]),
  (127, [(3, { keep := [0, 1, 5, 6], out := [5], res := [4], own := [], full := false })]),
  (128, [(3, { keep := [0, 5, 6, 7], out := [5], res := [4], own := [(5, 200)], full := false })]),
  (175, [(2, { keep := [0, 1, 7, 8], out := [], res := [4], own := [], full := false })]),
  (215, [(5, { keep := [0, 1, 4, 5, 6], out := [4, 5], res := [4], own := [], full := false })]),
  (244, [(2, { keep := [0, 7, 8, 9], out := [], res := [4], own := [], full := false })]),
  (266, [(2, { keep := [0, 1, 8], out := [0], res := [4], own := [], full := false })]),
  (269, [(3, { keep := [0, 1, 2, 6, 7, 12], out := [0, 1, 6, 7], res := [6], own := [], full := false })])]
def kdT0 : List (Nat × List Nat) := [(37, [0, 0, 0, 0, 0, 5]), (56, [129, 131, 178]), (113, [0, 0, 0, 0, 0, 5])]
def extT0 : List (Nat × (List AV → Heap → Option (AV × Heap))) := [(69, joinX), (70, indexByteX), (74, trimX), (77, (cloneF 5 64)), (79, splitX), (80, (cloneF 6 80)), (81, (cloneV 8)), (93, itoaX), (145, fieldsX), (177, containsX), (241, atoiX)]
def G0 : Cfg := { ext := fun f => get f extT0, an := fun f r => ((get f anT0).bind (get r)).getD {}, kd := fun t => (get t kdT0).getD [] }
theorem Qog : evalFn Tryz.prog G0 2000 23 [] [] = some (.sc (.bool true), []) := by kernel_rfl
noncomputable abbrev pp : Program := Tryz.prog
noncomputable abbrev ev (k : Nat) : CallF := evalFn Tryz.prog G k
abbrev Cf := CallF
abbrev Pg := Program
abbrev AH := AV × Heap
abbrev XS := Ex × St
abbrev Lo := Loops
def Qhd (r : Bool) : AV × Heap := (.sc (.bool r), [])
def XE.s : Nat → Option Bool
  | 0 => none
  | _ + 1 => (some true)
theorem XE.ok : ∀ (k : Nat), ∀  (r : Bool), XE.s k  = some r → evalFn pp G k 23 [] [] = some (Qhd r)
  | 0, _, h => (nomatch h)
  | k + 1, r, h => known_ok h
abbrev SA := Option Bool
abbrev Qkr  : List AV × Heap := ([], [])
abbrev Qks (w : Cf)  : Option AH := w 23 (Qkr ).1 (Qkr ).2
abbrev QoS (w : Cf) (c : SA) : Prop := ∀  (r : Bool), c = some r → Qks w  = some (Qhd r)
noncomputable def XE  : Option Bool := (some true)
theorem XE.mono (k : Nat)  : Le (XE.s k ) (XE.s (k + 1) ) := by
  cases k with
  | zero => exact fun r h => nomatch h
  | succ k => exact Le.refl _
theorem XE.cv  : Cv (fun k => XE.s k ) (XE ) := ⟨fun k => XE.mono k , fun r => ⟨fun h => ⟨1, h⟩, fun ⟨k, h⟩ => by
  cases k with
  | zero => cases h
  | succ k => exact h⟩⟩
def Sb (r : Int) : AV × Heap := (xi r, [])
abbrev Py := Int → Int → Option Int
abbrev Qc5 (a0 : Int) (a1 : Int) : List AV × Heap := ([xi a0, xi a1], [])
abbrev Qf8 (w : Cf) (a0 : Int) (a1 : Int) : Option AH := w 29 (Qc5 a0 a1).1 (Qc5 a0 a1).2
abbrev Qkt (w : Cf) (c : Py) : Prop := ∀ (a0 : Int) (a1 : Int) (r : Int), c a0 a1 = some r → Qf8 w a0 a1 = some (Sb r)
def Qf9  (a0 : Int) (a1 : Int) : Option Int := (bif (decide (a1 ≠ 0)) then (bif (decide ((Int.tmod a0 a1) < 0)) then (some (w64 ((Int.tmod a0 a1) + a1))) else (some (Int.tmod a0 a1))) else none)
def Qc6 (P : Pg) (w : Cf)  (a0 : Int) (a1 : Int) : Tr Int AH := (.as (decide (a1 ≠ 0)) (.as (decide ((Int.tmod a0 a1) < 0)) (rt Sb (w64 ((Int.tmod a0 a1) + a1))) (rt Sb (Int.tmod a0 a1))) .fail)
theorem Qnr (w : Cf)  (a0 : Int) (a1 : Int) : (Qc6 pp w  a0 a1).norm (bodyT pp w G 29 (Qc5 a0 a1).1 (Qc5 a0 a1).2) = Qc6 pp w  a0 a1 := by kernel_rfl
theorem Qns (P : Pg) (w : Cf) (lp : Lo)   (a0 : Int) (a1 : Int) : (Qc6 P w  a0 a1).ok lp Sb := ⟨rfl, fun hq0 => ⟨rfl, fun hq1 => rfl, fun hq1 => rfl⟩, fun hq0 => trivial⟩
def Xe.s : Nat → Int → Int → Option Int
  | 0, _, _ => none
  | k + 1, a0, a1 => Qf9  a0 a1
theorem Xe.ok : ∀ (k : Nat), Qkt (ev k) (Xe.s k)
  | 0, _, _, _, h => (nomatch h)
  | k + 1, a0, a1, r, h => fn_ok rfl (Qc6 pp (ev k)  a0 a1) (Qnr _  a0 a1) (Qns _ _ _    a0 a1) h
noncomputable def Xe (a0 : Int) (a1 : Int) : Option Int := Qf9  a0 a1
theorem Xe.cv (a0 : Int) (a1 : Int) : Cv (fun k => Xe.s k a0 a1) (Xe a0 a1) := .un rfl (by exact .const _)
theorem Xe.eq (a0 : Int) (a1 : Int) : Xe a0 a1 = Qf9  a0 a1 := rfl
def Gn (r : Bool) : AV × Heap := (xo r, [])
abbrev Uq := Int → Option Bool
abbrev QbK (a0 : Int) : List AV × Heap := ([xb a0], [])
abbrev SB (w : Cf) (a0 : Int) : Option AH := w 82 (QbK a0).1 (QbK a0).2
abbrev QaI (w : Cf) (c : Uq) : Prop := ∀ (a0 : Int) (r : Bool), c a0 = some r → SB w a0 = some (Gn r)
def QbL  (a0 : Int) : Option Bool := (bif (decide (a0 ≥ 48)) then (some (decide (a0 ≤ (57 : Int)))) else (some false))
def QbM (P : Pg) (w : Cf)  (a0 : Int) : Tr Bool AH := (let u1 := (decide (a0 ≥ 48)); .as u1 (yesN 2 u1 (rt Gn (decide (a0 ≤ (zi 57))))) (noN 2 u1 (rt Gn false)))
theorem Qmr (w : Cf)  (a0 : Int) : (QbM pp w  a0).norm (bodyT pp w G 82 (QbK a0).1 (QbK a0).2) = QbM pp w  a0 := by kernel_rfl
theorem Qms (P : Pg) (w : Cf) (lp : Lo)   (a0 : Int) : (QbM P w  a0).ok lp Gn := ⟨rfl, fun hq0 => yesN_ok 2 (hq0) (rfl), fun hq0 => noN_ok 2 (hq0) (rfl)⟩
def J6.s : Nat → Int → Option Bool
  | 0, _ => none
  | k + 1, a0 => QbL  a0
theorem J6.ok : ∀ (k : Nat), QaI (ev k) (J6.s k)
  | 0, _, _, h => (nomatch h)
  | k + 1, a0, r, h => fn_ok rfl (QbM pp (ev k)  a0) (Qmr _  a0) (Qms _ _ _    a0) h
noncomputable def J6 (a0 : Int) : Option Bool := QbL  a0
theorem J6.cv (a0 : Int) : Cv (fun k => J6.s k a0) (J6 a0) := .un rfl (by exact .const _)
theorem J6.eq (a0 : Int) : J6 a0 = QbL  a0 := rfl
def Gp (r : Bool) : AV × Heap := (xo r, [])
abbrev X0 := Int → Option Bool
abbrev QbN (a0 : Int) : List AV × Heap := ([xb a0], [])
abbrev Qiy (w : Cf) (a0 : Int) : Option AH := w 73 (QbN a0).1 (QbN a0).2
abbrev Qga (w : Cf) (c : X0) : Prop := ∀ (a0 : Int) (r : Bool), c a0 = some r → Qiy w a0 = some (Gp r)
def Et (C0 : Uq) (a0 : Int) : Option Bool := (bif (decide (a0 ≥ 97)) then (bif (decide (a0 ≤ (122 : Int))) then (some true) else (bif (a0 == 95) then (some true) else ((C0 a0).bind fun r1 => (some r1)))) else (bif (a0 == 95) then (some true) else ((C0 a0).bind fun r2 => (some r2))))
def QbO (P : Pg) (w : Cf) (C0 : Uq) (a0 : Int) : Tr Bool AH := (let u5 := (decide (a0 ≥ 97)); .as u5 (yesN 2 u5 (let u3 := (decide (a0 ≤ (zi 122))); .as u3 (yesN 2 u3 (yesN 3 true (rt Gp true))) (noN 2 u3 (let u2 := (a0 == 95); .as u2 (yesN 2 u2 (rt Gp true)) (.no u2 (.call (SB w a0) (C0 a0) Gn fun r1 => (.no u2 (rt Gp r1)))))))) (noN 2 u5 (noN 3 false (let u4 := (a0 == 95); .as u4 (yesN 2 u4 (rt Gp true)) (.no u4 (.call (SB w a0) (C0 a0) Gn fun r2 => (.no u4 (rt Gp r2))))))))
theorem Qmt (w : Cf) (C0 : Uq) (a0 : Int) : (QbO pp w C0 a0).norm (bodyT pp w G 73 (QbN a0).1 (QbN a0).2) = QbO pp w C0 a0 := by kernel_rfl
theorem Qmu (P : Pg) (w : Cf) (lp : Lo) (C0 : Uq) (K0 : QaI w C0) (a0 : Int) : (QbO P w C0 a0).ok lp Gp := ⟨rfl, fun hq0 => yesN_ok 2 (hq0) (⟨rfl, fun hq1 => yesN_ok 2 (hq1) (yesN_ok 3 (rfl) (rfl)), fun hq1 => noN_ok 2 (hq1) (⟨rfl, fun hq2 => yesN_ok 2 (hq2) (rfl), fun hq2 => ⟨hq2, fun r1 hr1 => ⟨K0 _ _ hr1, ⟨hq2, rfl⟩⟩⟩⟩)⟩), fun hq0 => noN_ok 2 (hq0) (noN_ok 3 (rfl) (⟨rfl, fun hq1 => yesN_ok 2 (hq1) (rfl), fun hq1 => ⟨hq1, fun r2 hr2 => ⟨K0 _ _ hr2, ⟨hq1, rfl⟩⟩⟩⟩))⟩
theorem Qmv {C0 : Nat → Uq} {D0 : Uq} (H0 : Cv1 C0 D0) (a0 : Int) : Cv (fun k => Et (C0 k) a0) (Et D0 a0) := by
  unfold Et
  exact .cond (.cond (by exact .const _) (.cond (by exact .const _) (.bind (H0 _) fun r1 => by exact .const _))) (.cond (by exact .const _) (.bind (H0 _) fun r2 => by exact .const _))
def VW.s : Nat → Int → Option Bool
  | 0, _ => none
  | k + 1, a0 => Et (J6.s k) a0
theorem VW.ok : ∀ (k : Nat), Qga (ev k) (VW.s k)
  | 0, _, _, h => (nomatch h)
  | k + 1, a0, r, h => fn_ok rfl (QbO pp (ev k) (J6.s k) a0) (Qmt _ _ a0) (Qmu _ _ _ _ (J6.ok k)  a0) h
noncomputable def VW (a0 : Int) : Option Bool := Et J6 a0
theorem VW.cv (a0 : Int) : Cv (fun k => VW.s k a0) (VW a0) := .un rfl (Qmv J6.cv a0)
theorem VW.eq (a0 : Int) : VW a0 = Et J6 a0 := rfl
def SC (r : Int) : AV × Heap := (xi r, [])
abbrev Xc := ByteArray → Option Int
abbrev QbP (a0 : ByteArray) : List AV × Heap := ([xs a0, .fn (.func 73) [] []], [])
abbrev Qe8 (w : Cf) (a0 : ByteArray) : Option AH := w 72 (QbP a0).1 (QbP a0).2
abbrev Qgb (w : Cf) (c : Xc) : Prop := ∀ (a0 : ByteArray) (r : Int), c a0 = some r → Qe8 w a0 = some (SC r)
structure JK where
  x0 : ByteArray
  x5 : Int
def Gz (a : JK) : St := { n := 20, nx := 0, env := [(0, xs a.x0), (1, .fn (.func 73) [] []), (5, xi a.x5)], heap := [] }
def GA (a : Int) : Ex × St := (.exit 0, { n := 20, nx := 0, env := [(5, xi a)], heap := [] })
abbrev ZO := JK → Option Int
abbrev Qk3 (P : Pg) (lp : Lo) (l : ZO) : Prop := ∀ (a : JK) (r : Int), l a = some r → lp (loopAt P 72 2) (Gz a) = some (GA r)
def Y9 (C0 : X0) (a : JK) : Option (JK ⊕ Int) := (bif (decide (a.x5 < ((a.x0.size : Nat) : Int))) then (bif (decide (0 ≤ a.x5 ∧ a.x5 < ((a.x0.size : Nat) : Int))) then ((C0 ((a.x0.data.getD (Int.toNat a.x5) 0).toNat : Int)).bind fun r1 => (bif r1 then (some (.inl (JK.mk a.x0 (w64 (a.x5 + 1))))) else (some (.inr a.x5)))) else none) else (some (.inr a.x5)))
def Sk (P : Pg) (w : Cf) (C0 : X0) (a : JK) : Tr (JK ⊕ Int) XS := (let u6 := (decide (a.x5 < (zz a.x0))); .as u6 (yesN 3 u6 (.as (in1 a.x5 (zz a.x0)) (.yes u6 (.call (Qiy w (gb a.x0 a.x5)) (C0 (gb a.x0 a.x5)) Gp fun r1 => (.yes u6 (.as r1 (lf Gz (JK.mk a.x0 (w64 (a.x5 + 1)))) (rx GA a.x5))))) .fail)) (noN 5 u6 (.no false (rx GA a.x5))))
theorem Qku (w : Cf) (C0 : X0) (a : JK) : (Sk pp w C0 a).norm (roundT pp G.kd w 0 (G.an 72) (loopAt pp 72 2) (Gz a)) = Sk pp w C0 a := by kernel_rfl
theorem Qkv (P : Pg) (w : Cf) (lp : Lo) (C0 : X0) (K0 : Qga w C0) (a : JK) : (Sk P w C0 a).ok lp (Sum.elim (fun a => (.norm, Gz a)) GA) := ⟨rfl, fun hq0 => yesN_ok 3 (hq0) (⟨rfl, fun hq1 => ⟨hq0, fun r1 hr1 => ⟨K0 _ _ hr1, ⟨hq0, ⟨rfl, fun hq2 => rfl, fun hq2 => rfl⟩⟩⟩⟩, fun hq1 => trivial⟩), fun hq0 => noN_ok 5 (hq0) (⟨rfl, rfl⟩)⟩
theorem Qkw {C0 : Nat → X0} {D0 : X0} (H0 : Cv1 C0 D0) (a : JK) : Cv (fun k => Y9 (C0 k) a) (Y9 D0 a) := by
  unfold Y9
  exact .cond (.cond (.bind (H0 _) fun r1 => by exact .const _) (by exact .const _)) (by exact .const _)
def Vm.s (k : Nat) (C0 : X0) : JK → Option Int := iter (Y9 C0) k
theorem QjV (w : Cf) (k : Nat) (C0 : X0) (K0 : Qga w C0) (a : JK) (r : Int) (h : Vm.s k C0 a = some r) : loopsF pp G.kd w 0 (G.an 72) k (loopAt pp 72 2) (Gz a) = some (GA r) :=
  loop_ok (fun a => Sk pp w C0 a) (fun _ => rfl) (fun a => Qku w _ a) (fun a => Qkv _ w _ _ K0 a) (fun r => nofun) h
noncomputable def Vm.w (C0 : X0) : JK → Option Int := loopW (Y9 C0)
theorem Vm.cv (C0 : Nat → X0) (D0 : X0) (H0 : Cv1 C0 D0) (a : JK) : Cv (fun k => Vm.s k (C0 k) a) (Vm.w D0 a) := Cv.iter (fun a => Qkw H0 a) a
def Eu (L0 : ZO) (a0 : ByteArray) : Option Int := ((L0 (JK.mk a0 (0 : Int))).bind (fun (o1 : Int) => (some o1)))
def QbQ (P : Pg) (w : Cf) (L0 : ZO) (a0 : ByteArray) : Tr Int AH := (.loop (loopAt P 72 2) (Gz (JK.mk a0 (zi 0))) (L0 (JK.mk a0 (zi 0))) GA (fun (o1 : Int) => (rt SC o1)))
theorem Qmw (w : Cf) (L0 : ZO) (a0 : ByteArray) : (QbQ pp w L0 a0).norm (bodyT pp w G 72 (QbP a0).1 (QbP a0).2) = QbQ pp w L0 a0 := by kernel_rfl
theorem Qmx (P : Pg) (w : Cf) (lp : Lo) (L0 : ZO) (N0 : Qk3 P lp L0) (a0 : ByteArray) : (QbQ P w L0 a0).ok lp SC := fun o1 ho1 => ⟨N0 _ _ ho1, rfl⟩
theorem Qmy {L0 : Nat → ZO} {M0 : ZO} (N0 : Cv1 L0 M0) (a0 : ByteArray) : Cv (fun k => Eu (L0 k) a0) (Eu M0 a0) := by
  unfold Eu
  exact .bind (N0 _) (fun o1 => by exact .const _)
def U7.s : Nat → ByteArray → Option Int
  | 0, _ => none
  | k + 1, a0 => Eu (Vm.s k (VW.s k)) a0
theorem U7.ok : ∀ (k : Nat), Qgb (ev k) (U7.s k)
  | 0, _, _, h => (nomatch h)
  | k + 1, a0, r, h => fn_ok rfl (QbQ pp (ev k) (Vm.s k (VW.s k)) a0) (Qmw _ _ a0) (Qmx _ _ _ _  (QjV _ k _ (VW.ok k)) a0) h
noncomputable def Vm : JK → Option Int := Vm.w VW
theorem Vm.eq (a : JK) : Vm a = (Y9 VW a).bind (Sum.elim Vm some) := loopW_eq _ _
noncomputable def U7 (a0 : ByteArray) : Option Int := Eu Vm a0
theorem U7.cv (a0 : ByteArray) : Cv (fun k => U7.s k a0) (U7 a0) := .un rfl (Qmy (Vm.cv (fun k => VW.s k) VW VW.cv) a0)
theorem U7.eq (a0 : ByteArray) : U7 a0 = Eu Vm a0 := rfl
def Pd (r : Int) : AV × Heap := (xi r, [])
abbrev Wd := ByteArray → Option Int
abbrev Qaj (a0 : ByteArray) : List AV × Heap := ([xs a0, .fn (.func 82) [] []], [])
abbrev QcR (w : Cf) (a0 : ByteArray) : Option AH := w 72 (Qaj a0).1 (Qaj a0).2
abbrev Qd3 (w : Cf) (c : Wd) : Prop := ∀ (a0 : ByteArray) (r : Int), c a0 = some r → QcR w a0 = some (Pd r)
structure Jj where
  x0 : ByteArray
  x5 : Int
def Zp (a : Jj) : St := { n := 20, nx := 0, env := [(0, xs a.x0), (1, .fn (.func 82) [] []), (5, xi a.x5)], heap := [] }
def Zq (a : Int) : Ex × St := (.exit 0, { n := 20, nx := 0, env := [(5, xi a)], heap := [] })
abbrev YG := Jj → Option Int
abbrev QjW (P : Pg) (lp : Lo) (l : YG) : Prop := ∀ (a : Jj) (r : Int), l a = some r → lp (loopAt P 72 2) (Zp a) = some (Zq r)
def Yh (C0 : Uq) (a : Jj) : Option (Jj ⊕ Int) := (bif (decide (a.x5 < ((a.x0.size : Nat) : Int))) then (bif (decide (0 ≤ a.x5 ∧ a.x5 < ((a.x0.size : Nat) : Int))) then ((C0 ((a.x0.data.getD (Int.toNat a.x5) 0).toNat : Int)).bind fun r1 => (bif r1 then (some (.inl (Jj.mk a.x0 (w64 (a.x5 + 1))))) else (some (.inr a.x5)))) else none) else (some (.inr a.x5)))
def F1 (P : Pg) (w : Cf) (C0 : Uq) (a : Jj) : Tr (Jj ⊕ Int) XS := (let u7 := (decide (a.x5 < (zz a.x0))); .as u7 (yesN 3 u7 (.as (in1 a.x5 (zz a.x0)) (.yes u7 (.call (SB w (gb a.x0 a.x5)) (C0 (gb a.x0 a.x5)) Gn fun r1 => (.yes u7 (.as r1 (lf Zp (Jj.mk a.x0 (w64 (a.x5 + 1)))) (rx Zq a.x5))))) .fail)) (noN 5 u7 (.no false (rx Zq a.x5))))
theorem Qjr (w : Cf) (C0 : Uq) (a : Jj) : (F1 pp w C0 a).norm (roundT pp G.kd w 0 (G.an 72) (loopAt pp 72 2) (Zp a)) = F1 pp w C0 a := by kernel_rfl
theorem Qjs (P : Pg) (w : Cf) (lp : Lo) (C0 : Uq) (K0 : QaI w C0) (a : Jj) : (F1 P w C0 a).ok lp (Sum.elim (fun a => (.norm, Zp a)) Zq) := ⟨rfl, fun hq0 => yesN_ok 3 (hq0) (⟨rfl, fun hq1 => ⟨hq0, fun r1 hr1 => ⟨K0 _ _ hr1, ⟨hq0, ⟨rfl, fun hq2 => rfl, fun hq2 => rfl⟩⟩⟩⟩, fun hq1 => trivial⟩), fun hq0 => noN_ok 5 (hq0) (⟨rfl, rfl⟩)⟩
theorem Qjt {C0 : Nat → Uq} {D0 : Uq} (H0 : Cv1 C0 D0) (a : Jj) : Cv (fun k => Yh (C0 k) a) (Yh D0 a) := by
  unfold Yh
  exact .cond (.cond (.bind (H0 _) fun r1 => by exact .const _) (by exact .const _)) (by exact .const _)
def UG.s (k : Nat) (C0 : Uq) : Jj → Option Int := iter (Yh C0) k
theorem Qiz (w : Cf) (k : Nat) (C0 : Uq) (K0 : QaI w C0) (a : Jj) (r : Int) (h : UG.s k C0 a = some r) : loopsF pp G.kd w 0 (G.an 72) k (loopAt pp 72 2) (Zp a) = some (Zq r) :=
  loop_ok (fun a => F1 pp w C0 a) (fun _ => rfl) (fun a => Qjr w _ a) (fun a => Qjs _ w _ _ K0 a) (fun r => nofun) h
noncomputable def UG.w (C0 : Uq) : Jj → Option Int := loopW (Yh C0)
theorem UG.cv (C0 : Nat → Uq) (D0 : Uq) (H0 : Cv1 C0 D0) (a : Jj) : Cv (fun k => UG.s k (C0 k) a) (UG.w D0 a) := Cv.iter (fun a => Qjt H0 a) a
def ZP (L0 : YG) (a0 : ByteArray) : Option Int := ((L0 (Jj.mk a0 (0 : Int))).bind (fun (o1 : Int) => (some o1)))
def Qak (P : Pg) (w : Cf) (L0 : YG) (a0 : ByteArray) : Tr Int AH := (.loop (loopAt P 72 2) (Zp (Jj.mk a0 (zi 0))) (L0 (Jj.mk a0 (zi 0))) Zq (fun (o1 : Int) => (rt Pd o1)))
theorem Qk4 (w : Cf) (L0 : YG) (a0 : ByteArray) : (Qak pp w L0 a0).norm (bodyT pp w G 72 (Qaj a0).1 (Qaj a0).2) = Qak pp w L0 a0 := by kernel_rfl
theorem Qk5 (P : Pg) (w : Cf) (lp : Lo) (L0 : YG) (N0 : QjW P lp L0) (a0 : ByteArray) : (Qak P w L0 a0).ok lp Pd := fun o1 ho1 => ⟨N0 _ _ ho1, rfl⟩
theorem Qk6 {L0 : Nat → YG} {M0 : YG} (N0 : Cv1 L0 M0) (a0 : ByteArray) : Cv (fun k => ZP (L0 k) a0) (ZP M0 a0) := by
  unfold ZP
  exact .bind (N0 _) (fun o1 => by exact .const _)
def Uo.s : Nat → ByteArray → Option Int
  | 0, _ => none
  | k + 1, a0 => ZP (UG.s k (J6.s k)) a0
theorem Uo.ok : ∀ (k : Nat), Qd3 (ev k) (Uo.s k)
  | 0, _, _, h => (nomatch h)
  | k + 1, a0, r, h => fn_ok rfl (Qak pp (ev k) (UG.s k (J6.s k)) a0) (Qk4 _ _ a0) (Qk5 _ _ _ _  (Qiz _ k _ (J6.ok k)) a0) h
noncomputable def UG : Jj → Option Int := UG.w J6
theorem UG.eq (a : Jj) : UG a = (Yh J6 a).bind (Sum.elim UG some) := loopW_eq _ _
noncomputable def Uo (a0 : ByteArray) : Option Int := ZP UG a0
theorem Uo.cv (a0 : ByteArray) : Cv (fun k => Uo.s k a0) (Uo a0) := .un rfl (Qk6 (UG.cv (fun k => J6.s k) J6 J6.cv) a0)
theorem Uo.eq (a0 : ByteArray) : Uo a0 = ZP UG a0 := rfl
def YB (r : Bool) : AV × Heap := (xo r, [])
abbrev X8 := ByteArray → Option Bool
abbrev Qc7 (a0 : ByteArray) : List AV × Heap := ([xs a0], [])
abbrev Qgc (w : Cf) (a0 : ByteArray) : Option AH := w 33 (Qc7 a0).1 (Qc7 a0).2
abbrev Qhe (w : Cf) (c : X8) : Prop := ∀ (a0 : ByteArray) (r : Bool), c a0 = some r → Qgc w a0 = some (YB r)
def FC (C0 : Uq) (C1 : Xc) (C2 : Wd) (a0 : ByteArray) : Option Bool := (bif (eqS a0 s_) then (some false) else (bif (decide (((a0.size : Nat) : Int) > 12)) then (some false) else (bif (decide (0 ≤ (0 : Int) ∧ (0 : Int) < ((a0.size : Nat) : Int))) then ((C0 ((a0.data.getD (Int.toNat 0) 0).toNat : Int)).bind fun r1 => (bif r1 then (some false) else ((C1 a0).bind fun r2 => (bif (r2 != ((a0.size : Nat) : Int)) then (some false) else (bif (((a0.data.getD (Int.toNat 0) 0).toNat : Int) != 114) then (some true) else (bif (((a0.size : Nat) : Int) == 1) then (some true) else (bif (decide (0 ≤ (1 : Int) ∧ (1 : Int) ≤ ((a0.size : Nat) : Int) ∧ ((a0.size : Nat) : Int) ≤ ((a0.size : Nat) : Int))) then ((C2 (a0.extract (Int.toNat 1) (Int.toNat ((a0.size : Nat) : Int)))).bind fun r3 => (some (r3 != (w64 (((a0.size : Nat) : Int) - 1))))) else none))))))) else none)))
def Qc8 (P : Pg) (w : Cf) (C0 : Uq) (C1 : Xc) (C2 : Wd) (a0 : ByteArray) : Tr Bool AH := (let u12 := (eqS a0 s_); .as u12 (yesN 3 u12 (yesN 11 true (rt YB false))) (noN 3 u12 (let u11 := (decide ((zz a0) > 12)); .as u11 (yesN 3 u11 (yesN 7 true (rt YB false))) (.no u11 (let u10 := (in1 (zi 0) (zz a0)); .as u10 (.no u11 (.call (SB w (gb a0 (zi 0))) (C0 (gb a0 (zi 0))) Gn fun r1 => (.no u11 (.as r1 (yesN 5 r1 (.yes true (rt YB false))) (.no r1 (.call (Qe8 w a0) (C1 a0) SC fun r2 => (noN 4 r1 (.as (r2 != (zz a0)) (rt YB false) (.yes u10 (let u9 := ((gb a0 (zi 0)) != 114); .as u9 (yesN 3 u9 (yesN 8 true (rt YB true))) (noN 3 u9 (let u8 := ((zz a0) == 1); .as u8 (yesN 7 u8 (rt YB true)) (.no u8 (.as (in2 (zi 1) (zz a0) (zz a0)) (.no u8 (.call (QcR w (cu a0 (zi 1) (zz a0))) (C2 (cu a0 (zi 1) (zz a0))) Pd fun r3 => (noN 5 u8 (rt YB (r3 != (w64 ((zz a0) - 1))))))) .fail)))))))))))))) .fail)))))
theorem Qnt (w : Cf) (C0 : Uq) (C1 : Xc) (C2 : Wd) (a0 : ByteArray) : (Qc8 pp w C0 C1 C2 a0).norm (bodyT pp w G 33 (Qc7 a0).1 (Qc7 a0).2) = Qc8 pp w C0 C1 C2 a0 := by kernel_rfl
theorem Qnu (P : Pg) (w : Cf) (lp : Lo) (C0 : Uq) (C1 : Xc) (C2 : Wd) (K0 : QaI w C0) (K1 : Qgb w C1) (K2 : Qd3 w C2) (a0 : ByteArray) : (Qc8 P w C0 C1 C2 a0).ok lp YB := ⟨rfl, fun hq0 => yesN_ok 3 (hq0) (yesN_ok 11 (rfl) (rfl)), fun hq0 => noN_ok 3 (hq0) (⟨rfl, fun hq1 => yesN_ok 3 (hq1) (yesN_ok 7 (rfl) (rfl)), fun hq1 => ⟨hq1, ⟨rfl, fun hq2 => ⟨hq1, fun r1 hr1 => ⟨K0 _ _ hr1, ⟨hq1, ⟨rfl, fun hq3 => yesN_ok 5 (hq3) (⟨rfl, rfl⟩), fun hq3 => ⟨hq3, fun r2 hr2 => ⟨K1 _ _ hr2, noN_ok 4 (hq3) (⟨rfl, fun hq4 => rfl, fun hq4 => ⟨hq2, ⟨rfl, fun hq5 => yesN_ok 3 (hq5) (yesN_ok 8 (rfl) (rfl)), fun hq5 => noN_ok 3 (hq5) (⟨rfl, fun hq6 => yesN_ok 7 (hq6) (rfl), fun hq6 => ⟨hq6, ⟨rfl, fun hq7 => ⟨hq6, fun r3 hr3 => ⟨K2 _ _ hr3, noN_ok 5 (hq6) (rfl)⟩⟩, fun hq7 => trivial⟩⟩⟩)⟩⟩⟩)⟩⟩⟩⟩⟩⟩, fun hq2 => trivial⟩⟩⟩)⟩
theorem Qnv {C0 : Nat → Uq} {D0 : Uq} (H0 : Cv1 C0 D0) {C1 : Nat → Xc} {D1 : Xc} (H1 : Cv1 C1 D1) {C2 : Nat → Wd} {D2 : Wd} (H2 : Cv1 C2 D2) (a0 : ByteArray) : Cv (fun k => FC (C0 k) (C1 k) (C2 k) a0) (FC D0 D1 D2 a0) := by
  unfold FC
  exact .cond (by exact .const _) (.cond (by exact .const _) (.cond (.bind (H0 _) fun r1 => .cond (by exact .const _) (.bind (H1 _) fun r2 => .cond (by exact .const _) (.cond (by exact .const _) (.cond (by exact .const _) (.cond (.bind (H2 _) fun r3 => by exact .const _) (by exact .const _)))))) (by exact .const _)))
def VC.s : Nat → ByteArray → Option Bool
  | 0, _ => none
  | k + 1, a0 => FC (J6.s k) (U7.s k) (Uo.s k) a0
theorem VC.ok : ∀ (k : Nat), Qhe (ev k) (VC.s k)
  | 0, _, _, h => (nomatch h)
  | k + 1, a0, r, h => fn_ok rfl (Qc8 pp (ev k) (J6.s k) (U7.s k) (Uo.s k) a0) (Qnt _ _ _ _ a0) (Qnu _ _ _ _ _ _ (J6.ok k) (U7.ok k) (Uo.ok k)  a0) h
noncomputable def VC (a0 : ByteArray) : Option Bool := FC J6 U7 Uo a0
theorem VC.cv (a0 : ByteArray) : Cv (fun k => VC.s k a0) (VC a0) := .un rfl (Qnv J6.cv U7.cv Uo.cv a0)
theorem VC.eq (a0 : ByteArray) : VC a0 = FC J6 U7 Uo a0 := rfl
def Eg (r : Bool) : AV × Heap := (xo r, [])
abbrev ZQ := ByteArray → Option Bool
abbrev Qfu (a0 : ByteArray) : List AV × Heap := ([xs a0], [])
abbrev QiA (w : Cf) (a0 : ByteArray) : Option AH := w 83 (Qfu a0).1 (Qfu a0).2
abbrev QjX (w : Cf) (c : ZQ) : Prop := ∀ (a0 : ByteArray) (r : Bool), c a0 = some r → QiA w a0 = some (Eg r)
structure Qp where
  x0 : ByteArray
  x3 : Bool
  x4 : Int
def J2 (a : Qp) : St := { n := 65, nx := 0, env := [(0, xs a.x0), (3, xo a.x3), (4, xi a.x4)], heap := [] }
def Qd4 (a : Bool) : Ex × St := (.ret, { n := 65, nx := 0, env := [(2, xo a)], heap := [] })
def Qd5 (a : Bool) : Ex × St := (.exit 0, { n := 65, nx := 0, env := [(3, xo a)], heap := [] })
def W7 (a : (Bool ⊕ Bool)) : Ex × St := Sum.elim Qd4 Qd5 a
abbrev FD := Qp → Option (Bool ⊕ Bool)
abbrev Qnw (P : Pg) (lp : Lo) (l : FD) : Prop := ∀ (a : Qp) (r : (Bool ⊕ Bool)), l a = some r → lp (loopAt P 83 5) (J2 a) = some (W7 r)
def Ev  (a : Qp) : Option (Qp ⊕ (Bool ⊕ Bool)) := (bif (decide (a.x4 < ((a.x0.size : Nat) : Int))) then (bif (decide (0 ≤ a.x4 ∧ a.x4 < ((a.x0.size : Nat) : Int))) then (bif (decide (((a.x0.data.getD (Int.toNat a.x4) 0).toNat : Int) ≥ 48)) then (bif (decide (((a.x0.data.getD (Int.toNat a.x4) 0).toNat : Int) ≥ 97)) then (bif (!(decide (((a.x0.data.getD (Int.toNat a.x4) 0).toNat : Int) ≤ 122))) then (bif (((a.x0.data.getD (Int.toNat a.x4) 0).toNat : Int) != 95) then (bif (a.x4 == 0) then (some (.inr (.inl false))) else (bif (!(decide (((a.x0.data.getD (Int.toNat a.x4) 0).toNat : Int) ≤ 57))) then (some (.inr (.inl false))) else (bif (decide (a.x4 > 0)) then (some (.inl (Qp.mk a.x0 a.x3 (w64 (a.x4 + 1))))) else (some (.inl (Qp.mk a.x0 a.x3 (w64 (a.x4 + 1)))))))) else (bif (decide (a.x4 > 0)) then (bif (!(decide (((a.x0.data.getD (Int.toNat a.x4) 0).toNat : Int) ≤ 57))) then (some (.inl (Qp.mk a.x0 false (w64 (a.x4 + 1))))) else (some (.inl (Qp.mk a.x0 a.x3 (w64 (a.x4 + 1)))))) else (some (.inl (Qp.mk a.x0 a.x3 (w64 (a.x4 + 1))))))) else (bif (decide (a.x4 > 0)) then (bif (!(decide (((a.x0.data.getD (Int.toNat a.x4) 0).toNat : Int) ≤ 57))) then (some (.inl (Qp.mk a.x0 false (w64 (a.x4 + 1))))) else (some (.inl (Qp.mk a.x0 a.x3 (w64 (a.x4 + 1)))))) else (some (.inl (Qp.mk a.x0 a.x3 (w64 (a.x4 + 1))))))) else (bif (((a.x0.data.getD (Int.toNat a.x4) 0).toNat : Int) != 95) then (bif (a.x4 == 0) then (some (.inr (.inl false))) else (bif (!(decide (((a.x0.data.getD (Int.toNat a.x4) 0).toNat : Int) ≤ 57))) then (some (.inr (.inl false))) else (bif (decide (a.x4 > 0)) then (some (.inl (Qp.mk a.x0 a.x3 (w64 (a.x4 + 1))))) else (some (.inl (Qp.mk a.x0 a.x3 (w64 (a.x4 + 1)))))))) else (bif (decide (a.x4 > 0)) then (bif (!(decide (((a.x0.data.getD (Int.toNat a.x4) 0).toNat : Int) ≤ 57))) then (some (.inl (Qp.mk a.x0 false (w64 (a.x4 + 1))))) else (some (.inl (Qp.mk a.x0 a.x3 (w64 (a.x4 + 1)))))) else (some (.inl (Qp.mk a.x0 a.x3 (w64 (a.x4 + 1)))))))) else (bif (decide (((a.x0.data.getD (Int.toNat a.x4) 0).toNat : Int) ≥ 97)) then (bif (!(decide (((a.x0.data.getD (Int.toNat a.x4) 0).toNat : Int) ≤ 122))) then (bif (((a.x0.data.getD (Int.toNat a.x4) 0).toNat : Int) != 95) then (bif (a.x4 == 0) then (some (.inr (.inl false))) else (some (.inr (.inl false)))) else (bif (decide (a.x4 > 0)) then (some (.inl (Qp.mk a.x0 false (w64 (a.x4 + 1))))) else (some (.inl (Qp.mk a.x0 a.x3 (w64 (a.x4 + 1))))))) else (bif (decide (a.x4 > 0)) then (some (.inl (Qp.mk a.x0 false (w64 (a.x4 + 1))))) else (some (.inl (Qp.mk a.x0 a.x3 (w64 (a.x4 + 1))))))) else (bif (((a.x0.data.getD (Int.toNat a.x4) 0).toNat : Int) != 95) then (bif (a.x4 == 0) then (some (.inr (.inl false))) else (some (.inr (.inl false)))) else (bif (decide (a.x4 > 0)) then (some (.inl (Qp.mk a.x0 false (w64 (a.x4 + 1))))) else (some (.inl (Qp.mk a.x0 a.x3 (w64 (a.x4 + 1))))))))) else none) else (some (.inr (.inr a.x3))))
def QbR (P : Pg) (w : Cf)  (a : Qp) : Tr (Qp ⊕ (Bool ⊕ Bool)) XS := (.as (decide (a.x4 < (zz a.x0))) (.as (in1 a.x4 (zz a.x0)) (let u35 := (decide ((gb a.x0 a.x4) ≥ 48)); .as u35 (yesN 2 u35 (let u25 := (decide ((gb a.x0 a.x4) ≥ 97)); .as u25 (yesN 2 u25 (let u19 := (!(decide ((gb a.x0 a.x4) ≤ 122))); .as u19 (yesN 2 u19 (let u17 := ((gb a.x0 a.x4) != 95); .as u17 (yesN 2 u17 (let u15 := (a.x4 == 0); .as u15 (.yes u15 (.yes u17 (.yes u15 (.yes u17 (.yes true (rx W7 (.inl false))))))) (.no u15 (.yes u17 (.no u15 (.yes u17 (let u14 := (!(decide ((gb a.x0 a.x4) ≤ 57))); .as u14 (rx W7 (.inl false)) (let u13 := (decide (a.x4 > 0)); .as u13 (yesN 2 u13 (.no u14 (lf J2 (Qp.mk a.x0 a.x3 (w64 (a.x4 + 1)))))) (noN 2 u13 (.no false (lf J2 (Qp.mk a.x0 a.x3 (w64 (a.x4 + 1)))))))))))))) (noN 4 u17 (.no false (let u16 := (decide (a.x4 > 0)); .as u16 (yesN 2 u16 (.as (!(decide ((gb a.x0 a.x4) ≤ 57))) (lf J2 (Qp.mk a.x0 false (w64 (a.x4 + 1)))) (lf J2 (Qp.mk a.x0 a.x3 (w64 (a.x4 + 1)))))) (noN 2 u16 (.no false (lf J2 (Qp.mk a.x0 a.x3 (w64 (a.x4 + 1))))))))))) (noN 2 u19 (noN 6 false (let u18 := (decide (a.x4 > 0)); .as u18 (yesN 2 u18 (.as (!(decide ((gb a.x0 a.x4) ≤ 57))) (lf J2 (Qp.mk a.x0 false (w64 (a.x4 + 1)))) (lf J2 (Qp.mk a.x0 a.x3 (w64 (a.x4 + 1)))))) (noN 2 u18 (.no false (lf J2 (Qp.mk a.x0 a.x3 (w64 (a.x4 + 1))))))))))) (noN 2 u25 (yesN 3 true (let u24 := ((gb a.x0 a.x4) != 95); .as u24 (yesN 2 u24 (let u22 := (a.x4 == 0); .as u22 (.yes u22 (.yes u24 (.yes u22 (.yes u24 (.yes true (rx W7 (.inl false))))))) (.no u22 (.yes u24 (.no u22 (.yes u24 (let u21 := (!(decide ((gb a.x0 a.x4) ≤ 57))); .as u21 (rx W7 (.inl false)) (let u20 := (decide (a.x4 > 0)); .as u20 (yesN 2 u20 (.no u21 (lf J2 (Qp.mk a.x0 a.x3 (w64 (a.x4 + 1)))))) (noN 2 u20 (.no false (lf J2 (Qp.mk a.x0 a.x3 (w64 (a.x4 + 1)))))))))))))) (noN 4 u24 (.no false (let u23 := (decide (a.x4 > 0)); .as u23 (yesN 2 u23 (.as (!(decide ((gb a.x0 a.x4) ≤ 57))) (lf J2 (Qp.mk a.x0 false (w64 (a.x4 + 1)))) (lf J2 (Qp.mk a.x0 a.x3 (w64 (a.x4 + 1)))))) (noN 2 u23 (.no false (lf J2 (Qp.mk a.x0 a.x3 (w64 (a.x4 + 1)))))))))))))) (noN 2 u35 (let u34 := (decide ((gb a.x0 a.x4) ≥ 97)); .as u34 (yesN 2 u34 (let u30 := (!(decide ((gb a.x0 a.x4) ≤ 122))); .as u30 (yesN 2 u30 (let u28 := ((gb a.x0 a.x4) != 95); .as u28 (yesN 2 u28 (let u26 := (a.x4 == 0); .as u26 (.yes u26 (.yes u28 (.yes u26 (.yes u28 (.yes true (rx W7 (.inl false))))))) (.no u26 (.yes u28 (.no u26 (.yes u28 (.yes true (rx W7 (.inl false))))))))) (noN 4 u28 (.no false (let u27 := (decide (a.x4 > 0)); .as u27 (yesN 2 u27 (.yes true (lf J2 (Qp.mk a.x0 false (w64 (a.x4 + 1)))))) (noN 2 u27 (.no false (lf J2 (Qp.mk a.x0 a.x3 (w64 (a.x4 + 1))))))))))) (noN 2 u30 (noN 6 false (let u29 := (decide (a.x4 > 0)); .as u29 (yesN 2 u29 (.yes true (lf J2 (Qp.mk a.x0 false (w64 (a.x4 + 1)))))) (noN 2 u29 (.no false (lf J2 (Qp.mk a.x0 a.x3 (w64 (a.x4 + 1))))))))))) (noN 2 u34 (yesN 3 true (let u33 := ((gb a.x0 a.x4) != 95); .as u33 (yesN 2 u33 (let u31 := (a.x4 == 0); .as u31 (.yes u31 (.yes u33 (.yes u31 (.yes u33 (.yes true (rx W7 (.inl false))))))) (.no u31 (.yes u33 (.no u31 (.yes u33 (.yes true (rx W7 (.inl false))))))))) (noN 4 u33 (.no false (let u32 := (decide (a.x4 > 0)); .as u32 (yesN 2 u32 (.yes true (lf J2 (Qp.mk a.x0 false (w64 (a.x4 + 1)))))) (noN 2 u32 (.no false (lf J2 (Qp.mk a.x0 a.x3 (w64 (a.x4 + 1))))))))))))))) .fail) (rx W7 (.inr a.x3)))
theorem Qmz (w : Cf)  (a : Qp) : (QbR pp w  a).norm (roundT pp G.kd w 0 (G.an 83) (loopAt pp 83 5) (J2 a)) = QbR pp w  a := by kernel_rfl
theorem QmA (P : Pg) (w : Cf) (lp : Lo)   (a : Qp) : (QbR P w  a).ok lp (Sum.elim (fun a => (.norm, J2 a)) W7) := ⟨rfl, fun hq0 => ⟨rfl, fun hq1 => ⟨rfl, fun hq2 => yesN_ok 2 (hq2) (⟨rfl, fun hq3 => yesN_ok 2 (hq3) (⟨rfl, fun hq4 => yesN_ok 2 (hq4) (⟨rfl, fun hq5 => yesN_ok 2 (hq5) (⟨rfl, fun hq6 => ⟨hq6, ⟨hq5, ⟨hq6, ⟨hq5, ⟨rfl, rfl⟩⟩⟩⟩⟩, fun hq6 => ⟨hq6, ⟨hq5, ⟨hq6, ⟨hq5, ⟨rfl, fun hq7 => rfl, fun hq7 => ⟨rfl, fun hq8 => yesN_ok 2 (hq8) (⟨hq7, rfl⟩), fun hq8 => noN_ok 2 (hq8) (⟨rfl, rfl⟩)⟩⟩⟩⟩⟩⟩⟩), fun hq5 => noN_ok 4 (hq5) (⟨rfl, ⟨rfl, fun hq6 => yesN_ok 2 (hq6) (⟨rfl, fun hq7 => rfl, fun hq7 => rfl⟩), fun hq6 => noN_ok 2 (hq6) (⟨rfl, rfl⟩)⟩⟩)⟩), fun hq4 => noN_ok 2 (hq4) (noN_ok 6 (rfl) (⟨rfl, fun hq5 => yesN_ok 2 (hq5) (⟨rfl, fun hq6 => rfl, fun hq6 => rfl⟩), fun hq5 => noN_ok 2 (hq5) (⟨rfl, rfl⟩)⟩))⟩), fun hq3 => noN_ok 2 (hq3) (yesN_ok 3 (rfl) (⟨rfl, fun hq4 => yesN_ok 2 (hq4) (⟨rfl, fun hq5 => ⟨hq5, ⟨hq4, ⟨hq5, ⟨hq4, ⟨rfl, rfl⟩⟩⟩⟩⟩, fun hq5 => ⟨hq5, ⟨hq4, ⟨hq5, ⟨hq4, ⟨rfl, fun hq6 => rfl, fun hq6 => ⟨rfl, fun hq7 => yesN_ok 2 (hq7) (⟨hq6, rfl⟩), fun hq7 => noN_ok 2 (hq7) (⟨rfl, rfl⟩)⟩⟩⟩⟩⟩⟩⟩), fun hq4 => noN_ok 4 (hq4) (⟨rfl, ⟨rfl, fun hq5 => yesN_ok 2 (hq5) (⟨rfl, fun hq6 => rfl, fun hq6 => rfl⟩), fun hq5 => noN_ok 2 (hq5) (⟨rfl, rfl⟩)⟩⟩)⟩))⟩), fun hq2 => noN_ok 2 (hq2) (⟨rfl, fun hq3 => yesN_ok 2 (hq3) (⟨rfl, fun hq4 => yesN_ok 2 (hq4) (⟨rfl, fun hq5 => yesN_ok 2 (hq5) (⟨rfl, fun hq6 => ⟨hq6, ⟨hq5, ⟨hq6, ⟨hq5, ⟨rfl, rfl⟩⟩⟩⟩⟩, fun hq6 => ⟨hq6, ⟨hq5, ⟨hq6, ⟨hq5, ⟨rfl, rfl⟩⟩⟩⟩⟩⟩), fun hq5 => noN_ok 4 (hq5) (⟨rfl, ⟨rfl, fun hq6 => yesN_ok 2 (hq6) (⟨rfl, rfl⟩), fun hq6 => noN_ok 2 (hq6) (⟨rfl, rfl⟩)⟩⟩)⟩), fun hq4 => noN_ok 2 (hq4) (noN_ok 6 (rfl) (⟨rfl, fun hq5 => yesN_ok 2 (hq5) (⟨rfl, rfl⟩), fun hq5 => noN_ok 2 (hq5) (⟨rfl, rfl⟩)⟩))⟩), fun hq3 => noN_ok 2 (hq3) (yesN_ok 3 (rfl) (⟨rfl, fun hq4 => yesN_ok 2 (hq4) (⟨rfl, fun hq5 => ⟨hq5, ⟨hq4, ⟨hq5, ⟨hq4, ⟨rfl, rfl⟩⟩⟩⟩⟩, fun hq5 => ⟨hq5, ⟨hq4, ⟨hq5, ⟨hq4, ⟨rfl, rfl⟩⟩⟩⟩⟩⟩), fun hq4 => noN_ok 4 (hq4) (⟨rfl, ⟨rfl, fun hq5 => yesN_ok 2 (hq5) (⟨rfl, rfl⟩), fun hq5 => noN_ok 2 (hq5) (⟨rfl, rfl⟩)⟩⟩)⟩))⟩)⟩, fun hq1 => trivial⟩, fun hq0 => rfl⟩
def Vv.s (k : Nat)  : Qp → Option (Bool ⊕ Bool) := iter (Ev ) k
theorem QlP (w : Cf) (k : Nat)   (a : Qp) (r : (Bool ⊕ Bool)) (h : Vv.s k  a = some r) : loopsF pp G.kd w 0 (G.an 83) k (loopAt pp 83 5) (J2 a) = some (W7 r) :=
  loop_ok (fun a => QbR pp w  a) (fun _ => rfl) (fun a => Qmz w  a) (fun a => QmA _ w _   a) (fun r => by cases r <;> nofun) h
noncomputable def Vv.w  : Qp → Option (Bool ⊕ Bool) := loopW (Ev )
theorem Vv.cv    (a : Qp) : Cv (fun k => Vv.s k  a) (Vv.w  a) := Cv.iter (fun a => by exact .const _) a
def SD (L0 : FD) (a0 : ByteArray) : Option Bool := (bif (decide (((a0.size : Nat) : Int) < 1)) then (some false) else (bif (decide (((a0.size : Nat) : Int) > 12)) then (some false) else (bif (decide (0 ≤ (0 : Int) ∧ (0 : Int) < ((a0.size : Nat) : Int))) then (bif (((a0.data.getD (Int.toNat 0) 0).toNat : Int) == 114) then ((L0 (Qp.mk a0 (decide (((a0.size : Nat) : Int) > 1)) (0 : Int))).bind fun x => Sum.elim (fun (o1 : Bool) => (some o1)) (fun (o2 : Bool) => (some (!o2))) x) else ((L0 (Qp.mk a0 false (0 : Int))).bind fun x => Sum.elim (fun (o3 : Bool) => (some o3)) (fun (o4 : Bool) => (some (!o4))) x)) else none)))
def Qfv (P : Pg) (w : Cf) (L0 : FD) (a0 : ByteArray) : Tr Bool AH := (let u37 := (decide ((zz a0) < 1)); .as u37 (yesN 3 u37 (.yes true (rt Eg false))) (noN 3 u37 (.as (decide ((zz a0) > 12)) (rt Eg false) (.as (in1 (zi 0) (zz a0)) (let u36 := ((gb a0 (zi 0)) == 114); .as u36 (yesN 3 u36 (.loop2 (loopAt P 83 5) (J2 (Qp.mk a0 (decide ((zz a0) > 1)) (zi 0))) (L0 (Qp.mk a0 (decide ((zz a0) > 1)) (zi 0))) Qd4 Qd5 (fun (o1 : Bool) => (rt Eg o1)) (fun (o2 : Bool) => (rt Eg (!o2))))) (noN 3 u36 (.loop2 (loopAt P 83 5) (J2 (Qp.mk a0 false (zi 0))) (L0 (Qp.mk a0 false (zi 0))) Qd4 Qd5 (fun (o3 : Bool) => (rt Eg o3)) (fun (o4 : Bool) => (rt Eg (!o4)))))) .fail))))
theorem QoT (w : Cf) (L0 : FD) (a0 : ByteArray) : (Qfv pp w L0 a0).norm (bodyT pp w G 83 (Qfu a0).1 (Qfu a0).2) = Qfv pp w L0 a0 := by kernel_rfl
theorem QoU (P : Pg) (w : Cf) (lp : Lo) (L0 : FD) (N0 : Qnw P lp L0) (a0 : ByteArray) : (Qfv P w L0 a0).ok lp Eg := ⟨rfl, fun hq0 => yesN_ok 3 (hq0) (⟨rfl, rfl⟩), fun hq0 => noN_ok 3 (hq0) (⟨rfl, fun hq1 => rfl, fun hq1 => ⟨rfl, fun hq2 => ⟨rfl, fun hq3 => yesN_ok 3 (hq3) (⟨fun o1 ho1 => ⟨N0 _ (.inl _) ho1, rfl⟩, fun o2 ho2 => ⟨N0 _ (.inr _) ho2, rfl⟩⟩), fun hq3 => noN_ok 3 (hq3) (⟨fun o3 ho3 => ⟨N0 _ (.inl _) ho3, rfl⟩, fun o4 ho4 => ⟨N0 _ (.inr _) ho4, rfl⟩⟩)⟩, fun hq2 => trivial⟩⟩)⟩
theorem QoV {L0 : Nat → FD} {M0 : FD} (N0 : Cv1 L0 M0) (a0 : ByteArray) : Cv (fun k => SD (L0 k) a0) (SD M0 a0) := by
  unfold SD
  exact .cond (by exact .const _) (.cond (by exact .const _) (.cond (.cond (.bind (N0 _) fun x => .sum (fun o1 => by exact .const _) (fun o2 => by exact .const _) x) (.bind (N0 _) fun x => .sum (fun o3 => by exact .const _) (fun o4 => by exact .const _) x)) (by exact .const _)))
def WR.s : Nat → ByteArray → Option Bool
  | 0, _ => none
  | k + 1, a0 => SD (Vv.s k) a0
theorem WR.ok : ∀ (k : Nat), QjX (ev k) (WR.s k)
  | 0, _, _, h => (nomatch h)
  | k + 1, a0, r, h => fn_ok rfl (Qfv pp (ev k) (Vv.s k) a0) (QoT _ _ a0) (QoU _ _ _ _  (QlP _ k) a0) h
noncomputable def Vv : Qp → Option (Bool ⊕ Bool) := Vv.w 
theorem Vv.eq (a : Qp) : Vv a = (Ev  a).bind (Sum.elim Vv some) := loopW_eq _ _
noncomputable def WR (a0 : ByteArray) : Option Bool := SD Vv a0
theorem WR.cv (a0 : ByteArray) : Cv (fun k => WR.s k a0) (WR a0) := .un rfl (QoV (Vv.cv) a0)
theorem WR.eq (a0 : ByteArray) : WR a0 = SD Vv a0 := rfl
def QdJ (r : Bool) : AV × Heap := (xo r, [])
abbrev Xm := ByteArray → Option Bool
abbrev Qfw (a0 : ByteArray) : List AV × Heap := ([xs a0], [])
abbrev QiB (w : Cf) (a0 : ByteArray) : Option AH := w 34 (Qfw a0).1 (Qfw a0).2
abbrev Qhf (w : Cf) (c : Xm) : Prop := ∀ (a0 : ByteArray) (r : Bool), c a0 = some r → QiB w a0 = some (QdJ r)
def SE (C0 : ZQ) (a0 : ByteArray) : Option Bool := ((C0 a0).bind fun r1 => (some r1))
def Qfx (P : Pg) (w : Cf) (C0 : ZQ) (a0 : ByteArray) : Tr Bool AH := (.call (QiA w a0) (C0 a0) Eg fun r1 => (rt QdJ r1))
theorem QoW (w : Cf) (C0 : ZQ) (a0 : ByteArray) : (Qfx pp w C0 a0).norm (bodyT pp w G 34 (Qfw a0).1 (Qfw a0).2) = Qfx pp w C0 a0 := by kernel_rfl
theorem QoX (P : Pg) (w : Cf) (lp : Lo) (C0 : ZQ) (K0 : QjX w C0) (a0 : ByteArray) : (Qfx P w C0 a0).ok lp QdJ := fun r1 hr1 => ⟨K0 _ _ hr1, rfl⟩
theorem QoY {C0 : Nat → ZQ} {D0 : ZQ} (H0 : Cv1 C0 D0) (a0 : ByteArray) : Cv (fun k => SE (C0 k) a0) (SE D0 a0) := by
  unfold SE
  exact .bind (H0 _) fun r1 => by exact .const _
def Wq.s : Nat → ByteArray → Option Bool
  | 0, _ => none
  | k + 1, a0 => SE (WR.s k) a0
theorem Wq.ok : ∀ (k : Nat), Qhf (ev k) (Wq.s k)
  | 0, _, _, h => (nomatch h)
  | k + 1, a0, r, h => fn_ok rfl (Qfx pp (ev k) (WR.s k) a0) (QoW _ _ a0) (QoX _ _ _ _ (WR.ok k)  a0) h
noncomputable def Wq (a0 : ByteArray) : Option Bool := SE WR a0
theorem Wq.cv (a0 : ByteArray) : Cv (fun k => Wq.s k a0) (Wq a0) := .un rfl (QoY WR.cv a0)
theorem Wq.eq (a0 : ByteArray) : Wq a0 = SE WR a0 := rfl
def Si (r : Int) : AV × Heap := (.sc (.int .i64 r), [])
def Uc.s : Nat → ByteArray → Int → Option Int
  | 0, _, _ => none
  | _ + 1, a0, a1 => indexByteS a0 a1
theorem Uc.ok : ∀ (k : Nat), ∀ (a0 : ByteArray) (a1 : Int) (r : Int), Uc.s k a0 a1 = some r → evalFn pp G k 70 [.sc (.string a0), .sc (.int .u8 a1)] [] = some (Si r)
  | 0, _, _, _, h => (nomatch h)
  | k + 1, a0, a1, r, h => indexByte_ok h
abbrev XF := ByteArray → Int → Option Int
abbrev QcE (a0 : ByteArray) (a1 : Int) : List AV × Heap := ([xs a0, xb a1], [])
abbrev QcF (w : Cf) (a0 : ByteArray) (a1 : Int) : Option AH := w 70 (QcE a0 a1).1 (QcE a0 a1).2
abbrev QiC (w : Cf) (c : XF) : Prop := ∀ (a0 : ByteArray) (a1 : Int) (r : Int), c a0 a1 = some r → QcF w a0 a1 = some (Si r)
noncomputable def Uc (a0 : ByteArray) (a1 : Int) : Option Int := indexByteS a0 a1
theorem Uc.mono (k : Nat) (a0 : ByteArray) (a1 : Int) : Le (Uc.s k a0 a1) (Uc.s (k + 1) a0 a1) := by
  cases k with
  | zero => exact fun r h => nomatch h
  | succ k => exact Le.refl _
theorem Uc.cv (a0 : ByteArray) (a1 : Int) : Cv (fun k => Uc.s k a0 a1) (Uc a0 a1) := ⟨fun k => Uc.mono k a0 a1, fun r => ⟨fun h => ⟨1, h⟩, fun ⟨k, h⟩ => by
  cases k with
  | zero => cases h
  | succ k => exact h⟩⟩
def X9 (r : ByteArray) : AV × Heap := (.sc (.string r), [])
def Q3.s : Nat → ByteArray → ByteArray → Option ByteArray
  | 0, _, _ => none
  | _ + 1, a0, a1 => trimS2 a0 a1
theorem Q3.ok : ∀ (k : Nat), ∀ (a0 : ByteArray) (a1 : ByteArray) (r : ByteArray), Q3.s k a0 a1 = some r → evalFn pp G k 74 [.sc (.string a0), .sc (.string a1)] [] = some (X9 r)
  | 0, _, _, _, h => (nomatch h)
  | k + 1, a0, a1, r, h => trim_ok h
abbrev Jd := ByteArray → ByteArray → Option ByteArray
abbrev QgM (a0 : ByteArray) (a1 : ByteArray) : List AV × Heap := ([xs a0, xs a1], [])
abbrev YP (w : Cf) (a0 : ByteArray) (a1 : ByteArray) : Option AH := w 74 (QgM a0 a1).1 (QgM a0 a1).2
abbrev P4 (w : Cf) (c : Jd) : Prop := ∀ (a0 : ByteArray) (a1 : ByteArray) (r : ByteArray), c a0 a1 = some r → YP w a0 a1 = some (X9 r)
noncomputable def Q3 (a0 : ByteArray) (a1 : ByteArray) : Option ByteArray := trimS2 a0 a1
theorem Q3.mono (k : Nat) (a0 : ByteArray) (a1 : ByteArray) : Le (Q3.s k a0 a1) (Q3.s (k + 1) a0 a1) := by
  cases k with
  | zero => exact fun r h => nomatch h
  | succ k => exact Le.refl _
theorem Q3.cv (a0 : ByteArray) (a1 : ByteArray) : Cv (fun k => Q3.s k a0 a1) (Q3 a0 a1) := ⟨fun k => Q3.mono k a0 a1, fun r => ⟨fun h => ⟨1, h⟩, fun ⟨k, h⟩ => by
  cases k with
  | zero => cases h
  | succ k => exact h⟩⟩
def Qc9 (r : ByteArray) : AV × Heap := (xs r, [])
abbrev Pz := ByteArray → Option ByteArray
abbrev Qda (a0 : ByteArray) : List AV × Heap := ([xs a0], [])
abbrev QjN (w : Cf) (a0 : ByteArray) : Option AH := w 71 (Qda a0).1 (Qda a0).2
abbrev Qkx (w : Cf) (c : Pz) : Prop := ∀ (a0 : ByteArray) (r : ByteArray), c a0 = some r → QjN w a0 = some (Qc9 r)
structure Jb where
  x0 : ByteArray
  x3 : Bool
  x4 : Int
def Ya (a : Jb) : St := { n := 31, nx := 0, env := [(0, xs a.x0), (3, xo a.x3), (4, xi a.x4)], heap := [] }
def Em (a : ByteArray) : Ex × St := (.ret, { n := 31, nx := 0, env := [(2, xs a)], heap := [] })
abbrev GK := Jb → Option ByteArray
abbrev QlQ (P : Pg) (lp : Lo) (l : GK) : Prop := ∀ (a : Jb) (r : ByteArray), l a = some r → lp (loopAt P 71 3) (Ya a) = some (Em r)
def YQ (C0 : Jd) (a : Jb) : Option (Jb ⊕ ByteArray) := (bif (a.x4 == ((a.x0.size : Nat) : Int)) then (bif (decide (0 ≤ (0 : Int) ∧ (0 : Int) ≤ a.x4 ∧ a.x4 ≤ ((a.x0.size : Nat) : Int))) then ((C0 (a.x0.extract (Int.toNat 0) (Int.toNat a.x4)) Xw).bind fun r1 => (some (.inr r1))) else none) else (bif (decide (0 ≤ a.x4 ∧ a.x4 < ((a.x0.size : Nat) : Int))) then (bif (((a.x0.data.getD (Int.toNat a.x4) 0).toNat : Int) == 35) then (bif (!a.x3) then (bif (decide (0 ≤ (0 : Int) ∧ (0 : Int) ≤ a.x4 ∧ a.x4 ≤ ((a.x0.size : Nat) : Int))) then ((C0 (a.x0.extract (Int.toNat 0) (Int.toNat a.x4)) Xw).bind fun r2 => (some (.inr r2))) else none) else (bif (((a.x0.data.getD (Int.toNat a.x4) 0).toNat : Int) == 34) then (some (.inl (Jb.mk a.x0 (!a.x3) (w64 (a.x4 + 1))))) else (some (.inl (Jb.mk a.x0 a.x3 (w64 (a.x4 + 1))))))) else (bif (((a.x0.data.getD (Int.toNat a.x4) 0).toNat : Int) == 34) then (some (.inl (Jb.mk a.x0 (!a.x3) (w64 (a.x4 + 1))))) else (some (.inl (Jb.mk a.x0 a.x3 (w64 (a.x4 + 1))))))) else none))
def Qal (P : Pg) (w : Cf) (C0 : Jd) (a : Jb) : Tr (Jb ⊕ ByteArray) XS := (let u40 := (a.x4 == (zz a.x0)); .as u40 (yesN 6 u40 (.yes true (.as (in2 (zi 0) a.x4 (zz a.x0)) (.call (YP w (cu a.x0 (zi 0) a.x4) Xw) (C0 (cu a.x0 (zi 0) a.x4) Xw) X9 fun r1 => (rx Em r1)) .fail))) (noN 2 u40 (let u39 := (in1 a.x4 (zz a.x0)); .as u39 (noN 2 u40 (let u38 := ((gb a.x0 a.x4) == 35); .as u38 (.yes u38 (.no u40 (.yes u38 (.no u40 (.as (!a.x3) (.as (in2 (zi 0) a.x4 (zz a.x0)) (.call (YP w (cu a.x0 (zi 0) a.x4) Xw) (C0 (cu a.x0 (zi 0) a.x4) Xw) X9 fun r2 => (rx Em r2)) .fail) (.yes u39 (.as ((gb a.x0 a.x4) == 34) (lf Ya (Jb.mk a.x0 (!a.x3) (w64 (a.x4 + 1)))) (lf Ya (Jb.mk a.x0 a.x3 (w64 (a.x4 + 1))))))))))) (.no u38 (.no u40 (.no u38 (.no u40 (.no false (.yes u39 (.as ((gb a.x0 a.x4) == 34) (lf Ya (Jb.mk a.x0 (!a.x3) (w64 (a.x4 + 1)))) (lf Ya (Jb.mk a.x0 a.x3 (w64 (a.x4 + 1))))))))))))) .fail)))
theorem Qk7 (w : Cf) (C0 : Jd) (a : Jb) : (Qal pp w C0 a).norm (roundT pp G.kd w 0 (G.an 71) (loopAt pp 71 3) (Ya a)) = Qal pp w C0 a := by kernel_rfl
theorem Qk8 (P : Pg) (w : Cf) (lp : Lo) (C0 : Jd) (K0 : P4 w C0) (a : Jb) : (Qal P w C0 a).ok lp (Sum.elim (fun a => (.norm, Ya a)) Em) := ⟨rfl, fun hq0 => yesN_ok 6 (hq0) (⟨rfl, ⟨rfl, fun hq1 => fun r1 hr1 => ⟨K0 _ _ _ hr1, rfl⟩, fun hq1 => trivial⟩⟩), fun hq0 => noN_ok 2 (hq0) (⟨rfl, fun hq1 => noN_ok 2 (hq0) (⟨rfl, fun hq2 => ⟨hq2, ⟨hq0, ⟨hq2, ⟨hq0, ⟨rfl, fun hq3 => ⟨rfl, fun hq4 => fun r2 hr2 => ⟨K0 _ _ _ hr2, rfl⟩, fun hq4 => trivial⟩, fun hq3 => ⟨hq1, ⟨rfl, fun hq4 => rfl, fun hq4 => rfl⟩⟩⟩⟩⟩⟩⟩, fun hq2 => ⟨hq2, ⟨hq0, ⟨hq2, ⟨hq0, ⟨rfl, ⟨hq1, ⟨rfl, fun hq3 => rfl, fun hq3 => rfl⟩⟩⟩⟩⟩⟩⟩⟩), fun hq1 => trivial⟩)⟩
theorem Qk9 {C0 : Nat → Jd} {D0 : Jd} (H0 : Cv2 C0 D0) (a : Jb) : Cv (fun k => YQ (C0 k) a) (YQ D0 a) := by
  unfold YQ
  exact .cond (.cond (.bind (H0 _ _) fun r1 => by exact .const _) (by exact .const _)) (.cond (.cond (.cond (.cond (.bind (H0 _ _) fun r2 => by exact .const _) (by exact .const _)) (by exact .const _)) (by exact .const _)) (by exact .const _))
def UJ.s (k : Nat) (C0 : Jd) : Jb → Option ByteArray := iter (YQ C0) k
theorem Qky (w : Cf) (k : Nat) (C0 : Jd) (K0 : P4 w C0) (a : Jb) (r : ByteArray) (h : UJ.s k C0 a = some r) : loopsF pp G.kd w 0 (G.an 71) k (loopAt pp 71 3) (Ya a) = some (Em r) :=
  loop_ok (fun a => Qal pp w C0 a) (fun _ => rfl) (fun a => Qk7 w _ a) (fun a => Qk8 _ w _ _ K0 a) (fun r => nofun) h
noncomputable def UJ.w (C0 : Jd) : Jb → Option ByteArray := loopW (YQ C0)
theorem UJ.cv (C0 : Nat → Jd) (D0 : Jd) (H0 : Cv2 C0 D0) (a : Jb) : Cv (fun k => UJ.s k (C0 k) a) (UJ.w D0 a) := Cv.iter (fun a => Qk9 H0 a) a
def FE (L0 : GK) (a0 : ByteArray) : Option ByteArray := ((L0 (Jb.mk a0 false (0 : Int))).bind (fun (o1 : ByteArray) => (some o1)))
def Qdb (P : Pg) (w : Cf) (L0 : GK) (a0 : ByteArray) : Tr ByteArray AH := (.loop (loopAt P 71 3) (Ya (Jb.mk a0 false (zi 0))) (L0 (Jb.mk a0 false (zi 0))) Em (fun (o1 : ByteArray) => (rt Qc9 o1)))
theorem Qnx (w : Cf) (L0 : GK) (a0 : ByteArray) : (Qdb pp w L0 a0).norm (bodyT pp w G 71 (Qda a0).1 (Qda a0).2) = Qdb pp w L0 a0 := by kernel_rfl
theorem Qny (P : Pg) (w : Cf) (lp : Lo) (L0 : GK) (N0 : QlQ P lp L0) (a0 : ByteArray) : (Qdb P w L0 a0).ok lp Qc9 := fun o1 ho1 => ⟨N0 _ _ ho1, rfl⟩
theorem Qnz {L0 : Nat → GK} {M0 : GK} (N0 : Cv1 L0 M0) (a0 : ByteArray) : Cv (fun k => FE (L0 k) a0) (FE M0 a0) := by
  unfold FE
  exact .bind (N0 _) (fun o1 => by exact .const _)
def Xf.s : Nat → ByteArray → Option ByteArray
  | 0, _ => none
  | k + 1, a0 => FE (UJ.s k (Q3.s k)) a0
theorem Xf.ok : ∀ (k : Nat), Qkx (ev k) (Xf.s k)
  | 0, _, _, h => (nomatch h)
  | k + 1, a0, r, h => fn_ok rfl (Qdb pp (ev k) (UJ.s k (Q3.s k)) a0) (Qnx _ _ a0) (Qny _ _ _ _  (Qky _ k _ (Q3.ok k)) a0) h
noncomputable def UJ : Jb → Option ByteArray := UJ.w Q3
theorem UJ.eq (a : Jb) : UJ a = (YQ Q3 a).bind (Sum.elim UJ some) := loopW_eq _ _
noncomputable def Xf (a0 : ByteArray) : Option ByteArray := FE UJ a0
theorem Xf.cv (a0 : ByteArray) : Cv (fun k => Xf.s k a0) (Xf a0) := .un rfl (Qnz (UJ.cv (fun k => Q3.s k) Q3 Q3.cv) a0)
theorem Xf.eq (a0 : ByteArray) : Xf a0 = FE UJ a0 := rfl
def SF (r : Bool) : AV × Heap := (xo r, [])
abbrev X1 := Int → Option Bool
abbrev QbS (a0 : Int) : List AV × Heap := ([xb a0], [])
abbrev QiD (w : Cf) (a0 : Int) : Option AH := w 75 (QbS a0).1 (QbS a0).2
abbrev Qgd (w : Cf) (c : X1) : Prop := ∀ (a0 : Int) (r : Bool), c a0 = some r → QiD w a0 = some (SF r)
def QbT  (a0 : Int) : Option Bool := (bif (a0 != 32) then (some (a0 != 9)) else (some false))
def QbU (P : Pg) (w : Cf)  (a0 : Int) : Tr Bool AH := (let u41 := (a0 != 32); .as u41 (yesN 2 u41 (rt SF (a0 != 9))) (noN 2 u41 (rt SF false)))
theorem QmB (w : Cf)  (a0 : Int) : (QbU pp w  a0).norm (bodyT pp w G 75 (QbS a0).1 (QbS a0).2) = QbU pp w  a0 := by kernel_rfl
theorem QmC (P : Pg) (w : Cf) (lp : Lo)   (a0 : Int) : (QbU P w  a0).ok lp SF := ⟨rfl, fun hq0 => yesN_ok 2 (hq0) (rfl), fun hq0 => noN_ok 2 (hq0) (rfl)⟩
def VX.s : Nat → Int → Option Bool
  | 0, _ => none
  | k + 1, a0 => QbT  a0
theorem VX.ok : ∀ (k : Nat), Qgd (ev k) (VX.s k)
  | 0, _, _, h => (nomatch h)
  | k + 1, a0, r, h => fn_ok rfl (QbU pp (ev k)  a0) (QmB _  a0) (QmC _ _ _    a0) h
noncomputable def VX (a0 : Int) : Option Bool := QbT  a0
theorem VX.cv (a0 : Int) : Cv (fun k => VX.s k a0) (VX a0) := .un rfl (by exact .const _)
theorem VX.eq (a0 : Int) : VX a0 = QbT  a0 := rfl
def En (r : Int) : AV × Heap := (xi r, [])
abbrev GL := ByteArray → Option Int
abbrev Qam (a0 : ByteArray) : List AV × Heap := ([xs a0, .fn (.func 75) [] []], [])
abbrev Qan (w : Cf) (a0 : ByteArray) : Option AH := w 72 (Qam a0).1 (Qam a0).2
abbrev QhJ (w : Cf) (c : GL) : Prop := ∀ (a0 : ByteArray) (r : Int), c a0 = some r → Qan w a0 = some (En r)
structure Jk where
  x0 : ByteArray
  x5 : Int
def Zr (a : Jk) : St := { n := 20, nx := 0, env := [(0, xs a.x0), (1, .fn (.func 75) [] []), (5, xi a.x5)], heap := [] }
def Zs (a : Int) : Ex × St := (.exit 0, { n := 20, nx := 0, env := [(5, xi a)], heap := [] })
abbrev YH := Jk → Option Int
abbrev QjY (P : Pg) (lp : Lo) (l : YH) : Prop := ∀ (a : Jk) (r : Int), l a = some r → lp (loopAt P 72 2) (Zr a) = some (Zs r)
def Yi (C0 : X1) (a : Jk) : Option (Jk ⊕ Int) := (bif (decide (a.x5 < ((a.x0.size : Nat) : Int))) then (bif (decide (0 ≤ a.x5 ∧ a.x5 < ((a.x0.size : Nat) : Int))) then ((C0 ((a.x0.data.getD (Int.toNat a.x5) 0).toNat : Int)).bind fun r1 => (bif r1 then (some (.inl (Jk.mk a.x0 (w64 (a.x5 + 1))))) else (some (.inr a.x5)))) else none) else (some (.inr a.x5)))
def F2 (P : Pg) (w : Cf) (C0 : X1) (a : Jk) : Tr (Jk ⊕ Int) XS := (let u42 := (decide (a.x5 < (zz a.x0))); .as u42 (yesN 3 u42 (.as (in1 a.x5 (zz a.x0)) (.yes u42 (.call (QiD w (gb a.x0 a.x5)) (C0 (gb a.x0 a.x5)) SF fun r1 => (.yes u42 (.as r1 (lf Zr (Jk.mk a.x0 (w64 (a.x5 + 1)))) (rx Zs a.x5))))) .fail)) (noN 5 u42 (.no false (rx Zs a.x5))))
theorem Qju (w : Cf) (C0 : X1) (a : Jk) : (F2 pp w C0 a).norm (roundT pp G.kd w 0 (G.an 72) (loopAt pp 72 2) (Zr a)) = F2 pp w C0 a := by kernel_rfl
theorem Qjv (P : Pg) (w : Cf) (lp : Lo) (C0 : X1) (K0 : Qgd w C0) (a : Jk) : (F2 P w C0 a).ok lp (Sum.elim (fun a => (.norm, Zr a)) Zs) := ⟨rfl, fun hq0 => yesN_ok 3 (hq0) (⟨rfl, fun hq1 => ⟨hq0, fun r1 hr1 => ⟨K0 _ _ hr1, ⟨hq0, ⟨rfl, fun hq2 => rfl, fun hq2 => rfl⟩⟩⟩⟩, fun hq1 => trivial⟩), fun hq0 => noN_ok 5 (hq0) (⟨rfl, rfl⟩)⟩
theorem Qjw {C0 : Nat → X1} {D0 : X1} (H0 : Cv1 C0 D0) (a : Jk) : Cv (fun k => Yi (C0 k) a) (Yi D0 a) := by
  unfold Yi
  exact .cond (.cond (.bind (H0 _) fun r1 => by exact .const _) (by exact .const _)) (by exact .const _)
def UH.s (k : Nat) (C0 : X1) : Jk → Option Int := iter (Yi C0) k
theorem QiE (w : Cf) (k : Nat) (C0 : X1) (K0 : Qgd w C0) (a : Jk) (r : Int) (h : UH.s k C0 a = some r) : loopsF pp G.kd w 0 (G.an 72) k (loopAt pp 72 2) (Zr a) = some (Zs r) :=
  loop_ok (fun a => F2 pp w C0 a) (fun _ => rfl) (fun a => Qju w _ a) (fun a => Qjv _ w _ _ K0 a) (fun r => nofun) h
noncomputable def UH.w (C0 : X1) : Jk → Option Int := loopW (Yi C0)
theorem UH.cv (C0 : Nat → X1) (D0 : X1) (H0 : Cv1 C0 D0) (a : Jk) : Cv (fun k => UH.s k (C0 k) a) (UH.w D0 a) := Cv.iter (fun a => Qjw H0 a) a
def ZR (L0 : YH) (a0 : ByteArray) : Option Int := ((L0 (Jk.mk a0 (0 : Int))).bind (fun (o1 : Int) => (some o1)))
def Qao (P : Pg) (w : Cf) (L0 : YH) (a0 : ByteArray) : Tr Int AH := (.loop (loopAt P 72 2) (Zr (Jk.mk a0 (zi 0))) (L0 (Jk.mk a0 (zi 0))) Zs (fun (o1 : Int) => (rt En o1)))
theorem Qla (w : Cf) (L0 : YH) (a0 : ByteArray) : (Qao pp w L0 a0).norm (bodyT pp w G 72 (Qam a0).1 (Qam a0).2) = Qao pp w L0 a0 := by kernel_rfl
theorem Qlb (P : Pg) (w : Cf) (lp : Lo) (L0 : YH) (N0 : QjY P lp L0) (a0 : ByteArray) : (Qao P w L0 a0).ok lp En := fun o1 ho1 => ⟨N0 _ _ ho1, rfl⟩
theorem Qlc {L0 : Nat → YH} {M0 : YH} (N0 : Cv1 L0 M0) (a0 : ByteArray) : Cv (fun k => ZR (L0 k) a0) (ZR M0 a0) := by
  unfold ZR
  exact .bind (N0 _) (fun o1 => by exact .const _)
def U8.s : Nat → ByteArray → Option Int
  | 0, _ => none
  | k + 1, a0 => ZR (UH.s k (VX.s k)) a0
theorem U8.ok : ∀ (k : Nat), QhJ (ev k) (U8.s k)
  | 0, _, _, h => (nomatch h)
  | k + 1, a0, r, h => fn_ok rfl (Qao pp (ev k) (UH.s k (VX.s k)) a0) (Qla _ _ a0) (Qlb _ _ _ _  (QiE _ k _ (VX.ok k)) a0) h
noncomputable def UH : Jk → Option Int := UH.w VX
theorem UH.eq (a : Jk) : UH a = (Yi VX a).bind (Sum.elim UH some) := loopW_eq _ _
noncomputable def U8 (a0 : ByteArray) : Option Int := ZR UH a0
theorem U8.cv (a0 : ByteArray) : Cv (fun k => U8.s k a0) (U8 a0) := .un rfl (Qlc (UH.cv (fun k => VX.s k) VX VX.cv) a0)
theorem U8.eq (a0 : ByteArray) : U8 a0 = ZR UH a0 := rfl
def QbV (r : (List ByteArray)) : AV × Heap := (.arr 0, [(0, .arr false 1 (Qh r))])
def U1.s : Nat → ByteArray → ByteArray → Option (List ByteArray)
  | 0, _, _ => none
  | _ + 1, a0, a1 => splitS a0 a1
theorem U1.ok : ∀ (k : Nat), ∀ (a0 : ByteArray) (a1 : ByteArray) (r : (List ByteArray)), U1.s k a0 a1 = some r → evalFn pp G k 79 [.sc (.string a0), .sc (.string a1)] [] = some (QbV r)
  | 0, _, _, _, h => (nomatch h)
  | k + 1, a0, a1, r, h => split_ok h
abbrev ZS := ByteArray → ByteArray → Option (List ByteArray)
abbrev Qfy (a0 : ByteArray) (a1 : ByteArray) : List AV × Heap := ([xs a0, xs a1], [])
abbrev Qfz (w : Cf) (a0 : ByteArray) (a1 : ByteArray) : Option AH := w 79 (Qfy a0 a1).1 (Qfy a0 a1).2
abbrev Qld (w : Cf) (c : ZS) : Prop := ∀ (a0 : ByteArray) (a1 : ByteArray) (r : (List ByteArray)), c a0 a1 = some r → Qfz w a0 a1 = some (QbV r)
noncomputable def U1 (a0 : ByteArray) (a1 : ByteArray) : Option (List ByteArray) := splitS a0 a1
theorem U1.mono (k : Nat) (a0 : ByteArray) (a1 : ByteArray) : Le (U1.s k a0 a1) (U1.s (k + 1) a0 a1) := by
  cases k with
  | zero => exact fun r h => nomatch h
  | succ k => exact Le.refl _
theorem U1.cv (a0 : ByteArray) (a1 : ByteArray) : Cv (fun k => U1.s k a0 a1) (U1 a0 a1) := ⟨fun k => U1.mono k a0 a1, fun r => ⟨fun h => ⟨1, h⟩, fun ⟨k, h⟩ => by
  cases k with
  | zero => cases h
  | succ k => exact h⟩⟩
def Fc (r : (List ByteArray)) : AV × Heap := (.sl (Qh r), [])
abbrev ZT := ByteArray → Option (List ByteArray)
abbrev Sl (a0 : ByteArray) : List AV × Heap := ([xs a0], [])
abbrev QfA (w : Cf) (a0 : ByteArray) : Option AH := w 123 (Sl a0).1 (Sl a0).2
abbrev QgN (w : Cf) (c : ZT) : Prop := ∀ (a0 : ByteArray) (r : (List ByteArray)), c a0 = some r → QfA w a0 = some (Fc r)
structure Ja where
  x10 : Int
  x11 : Int
  r0 : (List ByteArray)
def YR (a : Ja) : St := { n := 24, nx := 1, env := [(3, .arr 0), (10, xi a.x10), (11, xi a.x11)], heap := [(0, .arr false 1 (Qh a.r0))] }
def Gq (a : (List ByteArray)) : Ex × St := (.exit 0, { n := 24, nx := 1, env := [(3, .arr 0)], heap := [(0, .arr false 1 (Qh a))] })
abbrev Yj := Ja → Option (List ByteArray)
abbrev Qjx (P : Pg) (lp : Lo) (l : Yj) : Prop := ∀ (a : Ja) (r : (List ByteArray)), l a = some r → lp (loopAt P 123 5) (YR a) = some (Gq r)
def WN (C0 : Jd) (a : Ja) : Option (Ja ⊕ (List ByteArray)) := (bif (decide (a.x11 < a.x10)) then (bif (decide (0 ≤ a.x11 ∧ a.x11 < ((a.r0.length : Nat) : Int))) then ((a.r0[(Int.toNat a.x11)]?).bind fun e1 => ((C0 e1 Xw).bind fun r2 => ((a.r0[(Int.toNat a.x11)]?).bind fun e3 => (some (.inl (Ja.mk a.x10 (w64 (a.x11 + 1)) (a.r0.set (Int.toNat a.x11) r2))))))) else none) else (some (.inr a.r0)))
def Fd (P : Pg) (w : Cf) (C0 : Jd) (a : Ja) : Tr (Ja ⊕ (List ByteArray)) XS := (.as (decide (a.x11 < a.x10)) (let u43 := (in1 a.x11 (((Qh a.r0).length : Nat) : Int)); .ask u43 (in1 a.x11 ((a.r0.length : Nat) : Int)) (.row ((Qh a.r0)[(Int.toNat a.x11)]?) (a.r0[(Int.toNat a.x11)]?) Vf fun (e1 : ByteArray) => (.call (YP w e1 Xw) (C0 e1 Xw) X9 fun r2 => (.yes u43 (.row ((Qh a.r0)[(Int.toNat a.x11)]?) (a.r0[(Int.toNat a.x11)]?) Vf fun (e3 : ByteArray) => (.rows ((Qh a.r0).set (Int.toNat a.x11) [xs r2]) (Qh (a.r0.set (Int.toNat a.x11) r2)) (lf YR (Ja.mk a.x10 (w64 (a.x11 + 1)) (a.r0.set (Int.toNat a.x11) r2)))))))) .fail) (rx Gq a.r0))
theorem QiF (w : Cf) (C0 : Jd) (a : Ja) : (Fd pp w C0 a).norm (roundT pp G.kd w 0 (G.an 123) (loopAt pp 123 5) (YR a)) = Fd pp w C0 a := by kernel_rfl
theorem QiG (P : Pg) (w : Cf) (lp : Lo) (C0 : Jd) (K0 : P4 w C0) (a : Ja) : (Fd P w C0 a).ok lp (Sum.elim (fun a => (.norm, YR a)) Gq) := ⟨rfl, fun hq0 => ⟨(by rw [Qr]), fun hq1 => fun e1 he1 => ⟨VP he1, fun r2 hr2 => ⟨K0 _ _ _ hr2, ⟨(show (decide (0 ≤ a.x11 ∧ a.x11 < (((Qh a.r0).length : Nat) : Int))) = (decide (0 ≤ a.x11 ∧ a.x11 < ((a.r0.length : Nat) : Int))) from (by rw [Qr])).trans hq1, fun e3 he3 => ⟨VP he3, ⟨(Qmp a.r0 (Int.toNat a.x11) r2), rfl⟩⟩⟩⟩⟩, fun hq1 => trivial⟩, fun hq0 => rfl⟩
theorem QiH {C0 : Nat → Jd} {D0 : Jd} (H0 : Cv2 C0 D0) (a : Ja) : Cv (fun k => WN (C0 k) a) (WN D0 a) := by
  unfold WN
  exact .cond (.cond (.bind (.const _) fun e1 => .bind (H0 _ _) fun r2 => by exact .const _) (by exact .const _)) (by exact .const _)
def JX.s (k : Nat) (C0 : Jd) : Ja → Option (List ByteArray) := iter (WN C0) k
theorem Qh1 (w : Cf) (k : Nat) (C0 : Jd) (K0 : P4 w C0) (a : Ja) (r : (List ByteArray)) (h : JX.s k C0 a = some r) : loopsF pp G.kd w 0 (G.an 123) k (loopAt pp 123 5) (YR a) = some (Gq r) :=
  loop_ok (fun a => Fd pp w C0 a) (fun _ => rfl) (fun a => QiF w _ a) (fun a => QiG _ w _ _ K0 a) (fun r => nofun) h
noncomputable def JX.w (C0 : Jd) : Ja → Option (List ByteArray) := loopW (WN C0)
theorem JX.cv (C0 : Nat → Jd) (D0 : Jd) (H0 : Cv2 C0 D0) (a : Ja) : Cv (fun k => JX.s k (C0 k) a) (JX.w D0 a) := Cv.iter (fun a => QiH H0 a) a
def Za (C0 : ZS) (L1 : Yj) (a0 : ByteArray) : Option (List ByteArray) := (bif (eqS a0 s_) then (some ([] : List ByteArray)) else ((C0 a0 h_2c).bind fun r1 => ((L1 (Ja.mk (((r1.length) : Nat) : Int) (0 : Int) r1)).bind (fun (o2 : (List ByteArray)) => (some o2)))))
def Sm (P : Pg) (w : Cf) (C0 : ZS) (L1 : Yj) (a0 : ByteArray) : Tr (List ByteArray) AH := (.as (eqS a0 s_) (rt Fc ([] : List ByteArray)) (.call (Qfz w a0 h_2c) (C0 a0 h_2c) QbV fun r1 => (.num ((Qh r1).length) (r1.length) (.loop (loopAt P 123 5) (YR (Ja.mk (((r1.length) : Nat) : Int) (zi 0) r1)) (L1 (Ja.mk (((r1.length) : Nat) : Int) (zi 0) r1)) Gq (fun (o2 : (List ByteArray)) => (rt Fc o2))))))
theorem Qkz (w : Cf) (C0 : ZS) (L1 : Yj) (a0 : ByteArray) : (Sm pp w C0 L1 a0).norm (bodyT pp w G 123 (Sl a0).1 (Sl a0).2) = Sm pp w C0 L1 a0 := by kernel_rfl
theorem QkA (P : Pg) (w : Cf) (lp : Lo) (C0 : ZS) (L1 : Yj) (K0 : Qld w C0) (N1 : Qjx P lp L1) (a0 : ByteArray) : (Sm P w C0 L1 a0).ok lp Fc := ⟨rfl, fun hq0 => rfl, fun hq0 => fun r1 hr1 => ⟨K0 _ _ _ hr1, ⟨(Qr _), fun o2 ho2 => ⟨N1 _ _ ho2, rfl⟩⟩⟩⟩
theorem QkB {C0 : Nat → ZS} {D0 : ZS} (H0 : Cv2 C0 D0) {L1 : Nat → Yj} {M1 : Yj} (N1 : Cv1 L1 M1) (a0 : ByteArray) : Cv (fun k => Za (C0 k) (L1 k) a0) (Za D0 M1 a0) := by
  unfold Za
  exact .cond (by exact .const _) (.bind (H0 _ _) fun r1 => .bind (N1 _) (fun o2 => by exact .const _))
def Vn.s : Nat → ByteArray → Option (List ByteArray)
  | 0, _ => none
  | k + 1, a0 => Za (U1.s k) (JX.s k (Q3.s k)) a0
theorem Vn.ok : ∀ (k : Nat), QgN (ev k) (Vn.s k)
  | 0, _, _, h => (nomatch h)
  | k + 1, a0, r, h => fn_ok rfl (Sm pp (ev k) (U1.s k) (JX.s k (Q3.s k)) a0) (Qkz _ _ _ a0) (QkA _ _ _ _ _ (U1.ok k) (Qh1 _ k _ (Q3.ok k)) a0) h
noncomputable def JX : Ja → Option (List ByteArray) := JX.w Q3
theorem JX.eq (a : Ja) : JX a = (WN Q3 a).bind (Sum.elim JX some) := loopW_eq _ _
noncomputable def Vn (a0 : ByteArray) : Option (List ByteArray) := Za U1 JX a0
theorem Vn.cv (a0 : ByteArray) : Cv (fun k => Vn.s k a0) (Vn a0) := .un rfl (QkB U1.cv (JX.cv (fun k => Q3.s k) Q3 Q3.cv) a0)
theorem Vn.eq (a0 : ByteArray) : Vn a0 = Za U1 JX a0 := rfl
def QaJ (r : (List Qe)) : AV × Heap := (.sl (Gl r), [])
abbrev Yb := Option (List Qe)
abbrev Qdc  : List AV × Heap := ([], [])
abbrev Qge (w : Cf)  : Option AH := w 139 (Qdc ).1 (Qdc ).2
abbrev Qhg (w : Cf) (c : Yb) : Prop := ∀  (r : (List Qe)), c = some r → Qge w  = some (QaJ r)
def QjO   : Option (List Qe) := (some [(Qe.mk Sz (0 : Int) s_), (Qe.mk QbG (1 : Int) s_), (Qe.mk QgL (2 : Int) s_), (Qe.mk QeX (4 : Int) s_), (Qe.mk QdB (6 : Int) s_), (Qe.mk Qe3 (32 : Int) s_X), (Qe.mk Qe2 (48 : Int) s_X), (Qe.mk QdE (128 : Int) s_X), (Qe.mk QdF (144 : Int) s_X), (Qe.mk QbH (160 : Int) s_X), (Qe.mk QbI (176 : Int) s_X), (Qe.mk QbE (192 : Int) s_X), (Qe.mk QbC (208 : Int) s_X), (Qe.mk QbF (224 : Int) s_X), (Qe.mk QbD (240 : Int) s_X), (Qe.mk QgJ (256 : Int) Jp), (Qe.mk QeV (1024 : Int) Jp), (Qe.mk QbJ (1280 : Int) Jp), (Qe.mk Qe7 (1536 : Int) Jp), (Qe.mk QeY (3072 : Int) Jp), (Qe.mk QdD (3328 : Int) Jp), (Qe.mk Qdz (8192 : Int) WV), (Qe.mk QbB (8704 : Int) WV), (Qe.mk QdI (9216 : Int) WV), (Qe.mk QdC (10752 : Int) J5), (Qe.mk QgK (17408 : Int) Jp), (Qe.mk QdA (17664 : Int) Jp), (Qe.mk QeW (17920 : Int) Jp), (Qe.mk QgI (18432 : Int) Qbw), (Qe.mk Qby (24576 : Int) J5), (Qe.mk Qbz (25600 : Int) J5), (Qe.mk QbA (26112 : Int) J5), (Qe.mk QdH (26624 : Int) J5), (Qe.mk QdG (27648 : Int) J5), (Qe.mk QeZ (32768 : Int) W9), (Qe.mk Qe4 (36864 : Int) W9), (Qe.mk Qe0 (40960 : Int) Xa), (Qe.mk Qe5 (45056 : Int) Xa), (Qe.mk Qe1 (49152 : Int) Xb), (Qe.mk Qe6 (53248 : Int) Xb), (Qe.mk QgG (57344 : Int) Gm), (Qe.mk Qiw (59392 : Int) s_T8), (Qe.mk QgH (59648 : Int) s_T8), (Qe.mk Qbx (469762048 : Int) Es), (Qe.mk QeS (402685952 : Int) Pc), (Qe.mk QeT (402702336 : Int) Vg), (Qe.mk QgB (402706432 : Int) Vg), (Qe.mk QeU (402710528 : Int) Vg), (Qe.mk Qiv (1879048192 : Int) Sy), (Qe.mk Qgx (805306368 : Int) Qv), (Qe.mk QgC (872415232 : Int) Qv), (Qe.mk Qgy (939524096 : Int) Qv), (Qe.mk QgA (1342177280 : Int) Qv), (Qe.mk QgE (1409286144 : Int) Qv), (Qe.mk Qgz (1476395008 : Int) Qv), (Qe.mk QgD (1543503872 : Int) Qv), (Qe.mk Qkp (2013265920 : Int) Qc4), (Qe.mk Qiu (2013265921 : Int) Qc4), (Qe.mk Qit (2046820352 : Int) Vr), (Qe.mk Qgw (2046820353 : Int) Vr), (Qe.mk Qkn (2080375316 : Int) VR), (Qe.mk Qix (2080374864 : Int) VR), (Qe.mk QgF (2080375254 : Int) VR), (Qe.mk Qko (2080374840 : Int) VQ), (Qe.mk s_or (2080375672 : Int) VQ), (Qe.mk Qkq (2080375416 : Int) VQ)])
def Qdd (P : Pg) (w : Cf)   : Tr (List Qe) AH := (.rows [[xs Sz, .sc (.int .u32 (zi 0)), xs s_], [xs QbG, .sc (.int .u32 (zi 1)), xs s_], [xs QgL, .sc (.int .u32 (zi 2)), xs s_], [xs QeX, .sc (.int .u32 (zi 4)), xs s_], [xs QdB, .sc (.int .u32 (zi 6)), xs s_], [xs Qe3, .sc (.int .u32 (zi 32)), xs s_X], [xs Qe2, .sc (.int .u32 (zi 48)), xs s_X], [xs QdE, .sc (.int .u32 (zi 128)), xs s_X], [xs QdF, .sc (.int .u32 (zi 144)), xs s_X], [xs QbH, .sc (.int .u32 (zi 160)), xs s_X], [xs QbI, .sc (.int .u32 (zi 176)), xs s_X], [xs QbE, .sc (.int .u32 (zi 192)), xs s_X], [xs QbC, .sc (.int .u32 (zi 208)), xs s_X], [xs QbF, .sc (.int .u32 (zi 224)), xs s_X], [xs QbD, .sc (.int .u32 (zi 240)), xs s_X], [xs QgJ, .sc (.int .u32 (zi 256)), xs Jp], [xs QeV, .sc (.int .u32 (zi 1024)), xs Jp], [xs QbJ, .sc (.int .u32 (zi 1280)), xs Jp], [xs Qe7, .sc (.int .u32 (zi 1536)), xs Jp], [xs QeY, .sc (.int .u32 (zi 3072)), xs Jp], [xs QdD, .sc (.int .u32 (zi 3328)), xs Jp], [xs Qdz, .sc (.int .u32 (zi 8192)), xs WV], [xs QbB, .sc (.int .u32 (zi 8704)), xs WV], [xs QdI, .sc (.int .u32 (zi 9216)), xs WV], [xs QdC, .sc (.int .u32 (zi 10752)), xs J5], [xs QgK, .sc (.int .u32 (zi 17408)), xs Jp], [xs QdA, .sc (.int .u32 (zi 17664)), xs Jp], [xs QeW, .sc (.int .u32 (zi 17920)), xs Jp], [xs QgI, .sc (.int .u32 (zi 18432)), xs Qbw], [xs Qby, .sc (.int .u32 (zi 24576)), xs J5], [xs Qbz, .sc (.int .u32 (zi 25600)), xs J5], [xs QbA, .sc (.int .u32 (zi 26112)), xs J5], [xs QdH, .sc (.int .u32 (zi 26624)), xs J5], [xs QdG, .sc (.int .u32 (zi 27648)), xs J5], [xs QeZ, .sc (.int .u32 (zi 32768)), xs W9], [xs Qe4, .sc (.int .u32 (zi 36864)), xs W9], [xs Qe0, .sc (.int .u32 (zi 40960)), xs Xa], [xs Qe5, .sc (.int .u32 (zi 45056)), xs Xa], [xs Qe1, .sc (.int .u32 (zi 49152)), xs Xb], [xs Qe6, .sc (.int .u32 (zi 53248)), xs Xb], [xs QgG, .sc (.int .u32 (zi 57344)), xs Gm], [xs Qiw, .sc (.int .u32 (zi 59392)), xs s_T8], [xs QgH, .sc (.int .u32 (zi 59648)), xs s_T8], [xs Qbx, .sc (.int .u32 (zi 469762048)), xs Es], [xs QeS, .sc (.int .u32 (zi 402685952)), xs Pc], [xs QeT, .sc (.int .u32 (zi 402702336)), xs Vg], [xs QgB, .sc (.int .u32 (zi 402706432)), xs Vg], [xs QeU, .sc (.int .u32 (zi 402710528)), xs Vg], [xs Qiv, .sc (.int .u32 (zi 1879048192)), xs Sy], [xs Qgx, .sc (.int .u32 (zi 805306368)), xs Qv], [xs QgC, .sc (.int .u32 (zi 872415232)), xs Qv], [xs Qgy, .sc (.int .u32 (zi 939524096)), xs Qv], [xs QgA, .sc (.int .u32 (zi 1342177280)), xs Qv], [xs QgE, .sc (.int .u32 (zi 1409286144)), xs Qv], [xs Qgz, .sc (.int .u32 (zi 1476395008)), xs Qv], [xs QgD, .sc (.int .u32 (zi 1543503872)), xs Qv], [xs Qkp, .sc (.int .u32 (zi 2013265920)), xs Qc4], [xs Qiu, .sc (.int .u32 (zi 2013265921)), xs Qc4], [xs Qit, .sc (.int .u32 (zi 2046820352)), xs Vr], [xs Qgw, .sc (.int .u32 (zi 2046820353)), xs Vr], [xs Qkn, .sc (.int .u32 (zi 2080375316)), xs VR], [xs Qix, .sc (.int .u32 (zi 2080374864)), xs VR], [xs QgF, .sc (.int .u32 (zi 2080375254)), xs VR], [xs Qko, .sc (.int .u32 (zi 2080374840)), xs VQ], [xs s_or, .sc (.int .u32 (zi 2080375672)), xs VQ], [xs Qkq, .sc (.int .u32 (zi 2080375416)), xs VQ]] (Gl [(Qe.mk Sz (zi 0) s_), (Qe.mk QbG (zi 1) s_), (Qe.mk QgL (zi 2) s_), (Qe.mk QeX (zi 4) s_), (Qe.mk QdB (zi 6) s_), (Qe.mk Qe3 (zi 32) s_X), (Qe.mk Qe2 (zi 48) s_X), (Qe.mk QdE (zi 128) s_X), (Qe.mk QdF (zi 144) s_X), (Qe.mk QbH (zi 160) s_X), (Qe.mk QbI (zi 176) s_X), (Qe.mk QbE (zi 192) s_X), (Qe.mk QbC (zi 208) s_X), (Qe.mk QbF (zi 224) s_X), (Qe.mk QbD (zi 240) s_X), (Qe.mk QgJ (zi 256) Jp), (Qe.mk QeV (zi 1024) Jp), (Qe.mk QbJ (zi 1280) Jp), (Qe.mk Qe7 (zi 1536) Jp), (Qe.mk QeY (zi 3072) Jp), (Qe.mk QdD (zi 3328) Jp), (Qe.mk Qdz (zi 8192) WV), (Qe.mk QbB (zi 8704) WV), (Qe.mk QdI (zi 9216) WV), (Qe.mk QdC (zi 10752) J5), (Qe.mk QgK (zi 17408) Jp), (Qe.mk QdA (zi 17664) Jp), (Qe.mk QeW (zi 17920) Jp), (Qe.mk QgI (zi 18432) Qbw), (Qe.mk Qby (zi 24576) J5), (Qe.mk Qbz (zi 25600) J5), (Qe.mk QbA (zi 26112) J5), (Qe.mk QdH (zi 26624) J5), (Qe.mk QdG (zi 27648) J5), (Qe.mk QeZ (zi 32768) W9), (Qe.mk Qe4 (zi 36864) W9), (Qe.mk Qe0 (zi 40960) Xa), (Qe.mk Qe5 (zi 45056) Xa), (Qe.mk Qe1 (zi 49152) Xb), (Qe.mk Qe6 (zi 53248) Xb), (Qe.mk QgG (zi 57344) Gm), (Qe.mk Qiw (zi 59392) s_T8), (Qe.mk QgH (zi 59648) s_T8), (Qe.mk Qbx (zi 469762048) Es), (Qe.mk QeS (zi 402685952) Pc), (Qe.mk QeT (zi 402702336) Vg), (Qe.mk QgB (zi 402706432) Vg), (Qe.mk QeU (zi 402710528) Vg), (Qe.mk Qiv (zi 1879048192) Sy), (Qe.mk Qgx (zi 805306368) Qv), (Qe.mk QgC (zi 872415232) Qv), (Qe.mk Qgy (zi 939524096) Qv), (Qe.mk QgA (zi 1342177280) Qv), (Qe.mk QgE (zi 1409286144) Qv), (Qe.mk Qgz (zi 1476395008) Qv), (Qe.mk QgD (zi 1543503872) Qv), (Qe.mk Qkp (zi 2013265920) Qc4), (Qe.mk Qiu (zi 2013265921) Qc4), (Qe.mk Qit (zi 2046820352) Vr), (Qe.mk Qgw (zi 2046820353) Vr), (Qe.mk Qkn (zi 2080375316) VR), (Qe.mk Qix (zi 2080374864) VR), (Qe.mk QgF (zi 2080375254) VR), (Qe.mk Qko (zi 2080374840) VQ), (Qe.mk s_or (zi 2080375672) VQ), (Qe.mk Qkq (zi 2080375416) VQ)]) (rt QaJ [(Qe.mk Sz (zi 0) s_), (Qe.mk QbG (zi 1) s_), (Qe.mk QgL (zi 2) s_), (Qe.mk QeX (zi 4) s_), (Qe.mk QdB (zi 6) s_), (Qe.mk Qe3 (zi 32) s_X), (Qe.mk Qe2 (zi 48) s_X), (Qe.mk QdE (zi 128) s_X), (Qe.mk QdF (zi 144) s_X), (Qe.mk QbH (zi 160) s_X), (Qe.mk QbI (zi 176) s_X), (Qe.mk QbE (zi 192) s_X), (Qe.mk QbC (zi 208) s_X), (Qe.mk QbF (zi 224) s_X), (Qe.mk QbD (zi 240) s_X), (Qe.mk QgJ (zi 256) Jp), (Qe.mk QeV (zi 1024) Jp), (Qe.mk QbJ (zi 1280) Jp), (Qe.mk Qe7 (zi 1536) Jp), (Qe.mk QeY (zi 3072) Jp), (Qe.mk QdD (zi 3328) Jp), (Qe.mk Qdz (zi 8192) WV), (Qe.mk QbB (zi 8704) WV), (Qe.mk QdI (zi 9216) WV), (Qe.mk QdC (zi 10752) J5), (Qe.mk QgK (zi 17408) Jp), (Qe.mk QdA (zi 17664) Jp), (Qe.mk QeW (zi 17920) Jp), (Qe.mk QgI (zi 18432) Qbw), (Qe.mk Qby (zi 24576) J5), (Qe.mk Qbz (zi 25600) J5), (Qe.mk QbA (zi 26112) J5), (Qe.mk QdH (zi 26624) J5), (Qe.mk QdG (zi 27648) J5), (Qe.mk QeZ (zi 32768) W9), (Qe.mk Qe4 (zi 36864) W9), (Qe.mk Qe0 (zi 40960) Xa), (Qe.mk Qe5 (zi 45056) Xa), (Qe.mk Qe1 (zi 49152) Xb), (Qe.mk Qe6 (zi 53248) Xb), (Qe.mk QgG (zi 57344) Gm), (Qe.mk Qiw (zi 59392) s_T8), (Qe.mk QgH (zi 59648) s_T8), (Qe.mk Qbx (zi 469762048) Es), (Qe.mk QeS (zi 402685952) Pc), (Qe.mk QeT (zi 402702336) Vg), (Qe.mk QgB (zi 402706432) Vg), (Qe.mk QeU (zi 402710528) Vg), (Qe.mk Qiv (zi 1879048192) Sy), (Qe.mk Qgx (zi 805306368) Qv), (Qe.mk QgC (zi 872415232) Qv), (Qe.mk Qgy (zi 939524096) Qv), (Qe.mk QgA (zi 1342177280) Qv), (Qe.mk QgE (zi 1409286144) Qv), (Qe.mk Qgz (zi 1476395008) Qv), (Qe.mk QgD (zi 1543503872) Qv), (Qe.mk Qkp (zi 2013265920) Qc4), (Qe.mk Qiu (zi 2013265921) Qc4), (Qe.mk Qit (zi 2046820352) Vr), (Qe.mk Qgw (zi 2046820353) Vr), (Qe.mk Qkn (zi 2080375316) VR), (Qe.mk Qix (zi 2080374864) VR), (Qe.mk QgF (zi 2080375254) VR), (Qe.mk Qko (zi 2080374840) VQ), (Qe.mk s_or (zi 2080375672) VQ), (Qe.mk Qkq (zi 2080375416) VQ)]))
theorem QnA (w : Cf)   : (Qdd pp w  ).norm (bodyT pp w G 139 (Qdc ).1 (Qdc ).2) = Qdd pp w   := by kernel_rfl
theorem QnB (P : Pg) (w : Cf) (lp : Lo)    : (Qdd P w  ).ok lp QaJ := ⟨(Qd1 [(Qe.mk Sz (0 : Int) s_), (Qe.mk QbG (1 : Int) s_), (Qe.mk QgL (2 : Int) s_), (Qe.mk QeX (4 : Int) s_), (Qe.mk QdB (6 : Int) s_), (Qe.mk Qe3 (32 : Int) s_X), (Qe.mk Qe2 (48 : Int) s_X), (Qe.mk QdE (128 : Int) s_X), (Qe.mk QdF (144 : Int) s_X), (Qe.mk QbH (160 : Int) s_X), (Qe.mk QbI (176 : Int) s_X), (Qe.mk QbE (192 : Int) s_X), (Qe.mk QbC (208 : Int) s_X), (Qe.mk QbF (224 : Int) s_X), (Qe.mk QbD (240 : Int) s_X), (Qe.mk QgJ (256 : Int) Jp), (Qe.mk QeV (1024 : Int) Jp), (Qe.mk QbJ (1280 : Int) Jp), (Qe.mk Qe7 (1536 : Int) Jp), (Qe.mk QeY (3072 : Int) Jp), (Qe.mk QdD (3328 : Int) Jp), (Qe.mk Qdz (8192 : Int) WV), (Qe.mk QbB (8704 : Int) WV), (Qe.mk QdI (9216 : Int) WV), (Qe.mk QdC (10752 : Int) J5), (Qe.mk QgK (17408 : Int) Jp), (Qe.mk QdA (17664 : Int) Jp), (Qe.mk QeW (17920 : Int) Jp), (Qe.mk QgI (18432 : Int) Qbw), (Qe.mk Qby (24576 : Int) J5), (Qe.mk Qbz (25600 : Int) J5), (Qe.mk QbA (26112 : Int) J5), (Qe.mk QdH (26624 : Int) J5), (Qe.mk QdG (27648 : Int) J5), (Qe.mk QeZ (32768 : Int) W9), (Qe.mk Qe4 (36864 : Int) W9), (Qe.mk Qe0 (40960 : Int) Xa), (Qe.mk Qe5 (45056 : Int) Xa), (Qe.mk Qe1 (49152 : Int) Xb), (Qe.mk Qe6 (53248 : Int) Xb), (Qe.mk QgG (57344 : Int) Gm), (Qe.mk Qiw (59392 : Int) s_T8), (Qe.mk QgH (59648 : Int) s_T8), (Qe.mk Qbx (469762048 : Int) Es), (Qe.mk QeS (402685952 : Int) Pc), (Qe.mk QeT (402702336 : Int) Vg), (Qe.mk QgB (402706432 : Int) Vg), (Qe.mk QeU (402710528 : Int) Vg), (Qe.mk Qiv (1879048192 : Int) Sy), (Qe.mk Qgx (805306368 : Int) Qv), (Qe.mk QgC (872415232 : Int) Qv), (Qe.mk Qgy (939524096 : Int) Qv), (Qe.mk QgA (1342177280 : Int) Qv), (Qe.mk QgE (1409286144 : Int) Qv), (Qe.mk Qgz (1476395008 : Int) Qv), (Qe.mk QgD (1543503872 : Int) Qv), (Qe.mk Qkp (2013265920 : Int) Qc4), (Qe.mk Qiu (2013265921 : Int) Qc4), (Qe.mk Qit (2046820352 : Int) Vr), (Qe.mk Qgw (2046820353 : Int) Vr), (Qe.mk Qkn (2080375316 : Int) VR), (Qe.mk Qix (2080374864 : Int) VR), (Qe.mk QgF (2080375254 : Int) VR), (Qe.mk Qko (2080374840 : Int) VQ), (Qe.mk s_or (2080375672 : Int) VQ), (Qe.mk Qkq (2080375416 : Int) VQ)]), rfl⟩
def V5.s : Nat → Option (List Qe)
  | 0 => none
  | k + 1 => QjO  
theorem V5.ok : ∀ (k : Nat), Qhg (ev k) (V5.s k)
  | 0, _, h => (nomatch h)
  | k + 1, r, h => fn_ok rfl (Qdd pp (ev k)  ) (QnA _  ) (QnB _ _ _    ) h
noncomputable def V5  : Option (List Qe) := QjO  
theorem V5.cv  : Cv (fun k => V5.s k ) (V5 ) := .un rfl (by exact .const _)
def QbW (r : (Bool × ByteArray)) : AV × Heap := (xo r.1, [(0, .box [] (Vf r.2))])
abbrev X2 := Qe → ByteArray → Option (Bool × ByteArray)
abbrev QbX (a0 : Qe) (h0 : ByteArray) : List AV × Heap := ([.agg (Sx a0), .ptr 0 0], [(0, .box [] (Vf h0))])
abbrev QiI (w : Cf) (a0 : Qe) (h0 : ByteArray) : Option AH := w 176 (QbX a0 h0).1 (QbX a0 h0).2
abbrev Qgf (w : Cf) (c : X2) : Prop := ∀ (a0 : Qe) (h0 : ByteArray) (r : (Bool × ByteArray)), c a0 h0 = some r → QiI w a0 h0 = some (QbW r)
def QbY  (a0 : Qe) (h0 : ByteArray) : Option (Bool × ByteArray) := (some ((eqS a0.name h0), h0))
def QbZ (P : Pg) (w : Cf)  (a0 : Qe) (h0 : ByteArray) : Tr (Bool × ByteArray) AH := (rt QbW ((eqS a0.name h0), h0))
theorem QmD (w : Cf)  (a0 : Qe) (h0 : ByteArray) : (QbZ pp w  a0 h0).norm (bodyT pp w G 176 (QbX a0 h0).1 (QbX a0 h0).2) = QbZ pp w  a0 h0 := by kernel_rfl
theorem QmE (P : Pg) (w : Cf) (lp : Lo)   (a0 : Qe) (h0 : ByteArray) : (QbZ P w  a0 h0).ok lp QbW := rfl
def We.s : Nat → Qe → ByteArray → Option (Bool × ByteArray)
  | 0, _, _ => none
  | k + 1, a0, h0 => QbY  a0 h0
theorem We.ok : ∀ (k : Nat), Qgf (ev k) (We.s k)
  | 0, _, _, _, h => (nomatch h)
  | k + 1, a0, h0, r, h => fn_ok rfl (QbZ pp (ev k)  a0 h0) (QmD _  a0 h0) (QmE _ _ _    a0 h0) h
noncomputable def We (a0 : Qe) (h0 : ByteArray) : Option (Bool × ByteArray) := QbY  a0 h0
theorem We.cv (a0 : Qe) (h0 : ByteArray) : Cv (fun k => We.s k a0 h0) (We a0 h0) := .un rfl (by exact .const _)
theorem We.eq (a0 : Qe) (h0 : ByteArray) : We a0 h0 = QbY  a0 h0 := rfl
def Gr (r : (Int × ByteArray)) : AV × Heap := (xi r.1, [(0, .box [] (Vf r.2))])
abbrev Yk := (List Qe) → ByteArray → Option (Int × ByteArray)
abbrev Fe (a0 : (List Qe)) (h0 : ByteArray) : List AV × Heap := ([.sl (Gl a0), .fn (.func 176) [] [.ptr 0 0]], [(0, .box [] (Vf h0))])
abbrev QdK (w : Cf) (a0 : (List Qe)) (h0 : ByteArray) : Option AH := w 175 (Fe a0 h0).1 (Fe a0 h0).2
abbrev Qd8 (w : Cf) (c : Yk) : Prop := ∀ (a0 : (List Qe)) (h0 : ByteArray) (r : (Int × ByteArray)), c a0 h0 = some r → QdK w a0 h0 = some (Gr r)
structure QS where
  x0 : (List Qe)
  x7 : Int
  x8 : Int
  h0 : ByteArray
structure JL where
  x4 : Int
  h0 : ByteArray
def Xz (a : QS) : St := { n := 19, nx := 1, env := [(0, .sl (Gl a.x0)), (1, .fn (.func 176) [] [.ptr 0 0]), (7, xi a.x7), (8, xi a.x8)], heap := [(0, .box [] (Vf a.h0))] }
def QaK (a : JL) : Ex × St := (.ret, { n := 19, nx := 1, env := [(4, xi a.x4)], heap := [(0, .box [] (Vf a.h0))] })
def QaL (a : ByteArray) : Ex × St := (.exit 0, { n := 19, nx := 1, env := [], heap := [(0, .box [] (Vf a))] })
def YS (a : (JL ⊕ ByteArray)) : Ex × St := Sum.elim QaK QaL a
abbrev WW := QS → Option (JL ⊕ ByteArray)
abbrev Qhh (P : Pg) (lp : Lo) (l : WW) : Prop := ∀ (a : QS) (r : (JL ⊕ ByteArray)), l a = some r → lp (loopAt P 175 2) (Xz a) = some (YS r)
def WE (C0 : X2) (a : QS) : Option (QS ⊕ (JL ⊕ ByteArray)) := (bif (decide (a.x8 < a.x7)) then (bif (decide (0 ≤ a.x8)) then ((a.x0[(Int.toNat a.x8)]?).bind fun e1 => ((C0 e1 a.h0).bind fun r2 => (bif r2.1 then (some (.inr (.inl (JL.mk a.x8 r2.2)))) else (some (.inl (QS.mk a.x0 a.x7 (w64 (a.x8 + 1)) r2.2)))))) else none) else (some (.inr (.inr a.h0))))
def GB (P : Pg) (w : Cf) (C0 : X2) (a : QS) : Tr (QS ⊕ (JL ⊕ ByteArray)) XS := (.as (decide (a.x8 < a.x7)) (.as (decide (0 ≤ a.x8)) (.row ((Gl a.x0)[(Int.toNat a.x8)]?) (a.x0[(Int.toNat a.x8)]?) Sx fun (e1 : Qe) => (.call (QiI w e1 a.h0) (C0 e1 a.h0) QbW fun r2 => (.as r2.1 (rx YS (.inl (JL.mk a.x8 r2.2))) (lf Xz (QS.mk a.x0 a.x7 (w64 (a.x8 + 1)) r2.2))))) .fail) (rx YS (.inr a.h0)))
theorem QgO (w : Cf) (C0 : X2) (a : QS) : (GB pp w C0 a).norm (roundT pp G.kd w 1 (G.an 175) (loopAt pp 175 2) (Xz a)) = GB pp w C0 a := by kernel_rfl
theorem QgP (P : Pg) (w : Cf) (lp : Lo) (C0 : X2) (K0 : Qgf w C0) (a : QS) : (GB P w C0 a).ok lp (Sum.elim (fun a => (.norm, Xz a)) YS) := ⟨rfl, fun hq0 => ⟨rfl, fun hq1 => fun e1 he1 => ⟨QhH he1, fun r2 hr2 => ⟨K0 _ _ _ hr2, ⟨rfl, fun hq2 => rfl, fun hq2 => rfl⟩⟩⟩, fun hq1 => trivial⟩, fun hq0 => rfl⟩
theorem QgQ {C0 : Nat → X2} {D0 : X2} (H0 : Cv2 C0 D0) (a : QS) : Cv (fun k => WE (C0 k) a) (WE D0 a) := by
  unfold WE
  exact .cond (.cond (.bind (.const _) fun e1 => .bind (H0 _ _) fun r2 => by exact .const _) (by exact .const _)) (by exact .const _)
def Jz.s (k : Nat) (C0 : X2) : QS → Option (JL ⊕ ByteArray) := iter (WE C0) k
theorem Qgg (w : Cf) (k : Nat) (C0 : X2) (K0 : Qgf w C0) (a : QS) (r : (JL ⊕ ByteArray)) (h : Jz.s k C0 a = some r) : loopsF pp G.kd w 1 (G.an 175) k (loopAt pp 175 2) (Xz a) = some (YS r) :=
  loop_ok (fun a => GB pp w C0 a) (fun _ => rfl) (fun a => QgO w _ a) (fun a => QgP _ w _ _ K0 a) (fun r => by cases r <;> nofun) h
noncomputable def Jz.w (C0 : X2) : QS → Option (JL ⊕ ByteArray) := loopW (WE C0)
theorem Jz.cv (C0 : Nat → X2) (D0 : X2) (H0 : Cv2 C0 D0) (a : QS) : Cv (fun k => Jz.s k (C0 k) a) (Jz.w D0 a) := Cv.iter (fun a => QgQ H0 a) a
def XG (L0 : WW) (a0 : (List Qe)) (h0 : ByteArray) : Option (Int × ByteArray) := ((L0 (QS.mk a0 (((a0.length) : Nat) : Int) (0 : Int) h0)).bind fun x => Sum.elim (fun (o1 : JL) => (some (o1.x4, o1.h0))) (fun (o2 : ByteArray) => (some ((-1 : Int), o2))) x)
def Ff (P : Pg) (w : Cf) (L0 : WW) (a0 : (List Qe)) (h0 : ByteArray) : Tr (Int × ByteArray) AH := (.num ((Gl a0).length) (a0.length) (.loop2 (loopAt P 175 2) (Xz (QS.mk a0 (((a0.length) : Nat) : Int) (zi 0) h0)) (L0 (QS.mk a0 (((a0.length) : Nat) : Int) (zi 0) h0)) QaK QaL (fun (o1 : JL) => (rt Gr (o1.x4, o1.h0))) (fun (o2 : ByteArray) => (rt Gr ((-1 : Int), o2)))))
theorem QiJ (w : Cf) (L0 : WW) (a0 : (List Qe)) (h0 : ByteArray) : (Ff pp w L0 a0 h0).norm (bodyT pp w G 175 (Fe a0 h0).1 (Fe a0 h0).2) = Ff pp w L0 a0 h0 := by kernel_rfl
theorem QiK (P : Pg) (w : Cf) (lp : Lo) (L0 : WW) (N0 : Qhh P lp L0) (a0 : (List Qe)) (h0 : ByteArray) : (Ff P w L0 a0 h0).ok lp Gr := ⟨(QhI _), ⟨fun o1 ho1 => ⟨N0 _ (.inl _) ho1, rfl⟩, fun o2 ho2 => ⟨N0 _ (.inr _) ho2, rfl⟩⟩⟩
theorem QiL {L0 : Nat → WW} {M0 : WW} (N0 : Cv1 L0 M0) (a0 : (List Qe)) (h0 : ByteArray) : Cv (fun k => XG (L0 k) a0 h0) (XG M0 a0 h0) := by
  unfold XG
  exact .bind (N0 _) fun x => .sum (fun o1 => by exact .const _) (fun o2 => by exact .const _) x
def UE.s : Nat → (List Qe) → ByteArray → Option (Int × ByteArray)
  | 0, _, _ => none
  | k + 1, a0, h0 => XG (Jz.s k (We.s k)) a0 h0
theorem UE.ok : ∀ (k : Nat), Qd8 (ev k) (UE.s k)
  | 0, _, _, _, h => (nomatch h)
  | k + 1, a0, h0, r, h => fn_ok rfl (Ff pp (ev k) (Jz.s k (We.s k)) a0 h0) (QiJ _ _ a0 h0) (QiK _ _ _ _  (Qgg _ k _ (We.ok k)) a0 h0) h
noncomputable def Jz : QS → Option (JL ⊕ ByteArray) := Jz.w We
theorem Jz.eq (a : QS) : Jz a = (WE We a).bind (Sum.elim Jz some) := loopW_eq _ _
noncomputable def UE (a0 : (List Qe)) (h0 : ByteArray) : Option (Int × ByteArray) := XG Jz a0 h0
theorem UE.cv (a0 : (List Qe)) (h0 : ByteArray) : Cv (fun k => UE.s k a0 h0) (UE a0 h0) := .un rfl (QiL (Jz.cv (fun k => We.s k) We We.cv) a0 h0)
theorem UE.eq (a0 : (List Qe)) (h0 : ByteArray) : UE a0 h0 = XG Jz a0 h0 := rfl
def Qei (r : (Int × Bool)) : AV × Heap := (.tup [xi r.1, xo r.2], [])
abbrev SG := ByteArray → Option (Int × Bool)
abbrev Qej (a0 : ByteArray) : List AV × Heap := ([xs a0], [])
abbrev QkC (w : Cf) (a0 : ByteArray) : Option AH := w 124 (Qej a0).1 (Qej a0).2
abbrev QlD (w : Cf) (c : SG) : Prop := ∀ (a0 : ByteArray) (r : (Int × Bool)), c a0 = some r → QkC w a0 = some (Qei r)
def PB (C0 : Yb) (C1 : Yk) (a0 : ByteArray) : Option (Int × Bool) := ((C0).bind fun r1 => ((C1 r1 a0).bind fun r2 => (some ((if (0 : Int) > r2.1 then (0 : Int) else r2.1), (decide (r2.1 ≥ 0))))))
def Qek (P : Pg) (w : Cf) (C0 : Yb) (C1 : Yk) (a0 : ByteArray) : Tr (Int × Bool) AH := (.call (Qge w) (C0) QaJ fun r1 => (.call (QdK w r1 a0) (C1 r1 a0) Gr fun r2 => (rt Qei ((if (zi 0) > r2.1 then (zi 0) else r2.1), (decide (r2.1 ≥ 0))))))
theorem Qoh (w : Cf) (C0 : Yb) (C1 : Yk) (a0 : ByteArray) : (Qek pp w C0 C1 a0).norm (bodyT pp w G 124 (Qej a0).1 (Qej a0).2) = Qek pp w C0 C1 a0 := by kernel_rfl
theorem Qoi (P : Pg) (w : Cf) (lp : Lo) (C0 : Yb) (C1 : Yk) (K0 : Qhg w C0) (K1 : Qd8 w C1) (a0 : ByteArray) : (Qek P w C0 C1 a0).ok lp Qei := fun r1 hr1 => ⟨K0 _ hr1, fun r2 hr2 => ⟨K1 _ _ _ hr2, rfl⟩⟩
theorem Qoj {C0 : Nat → Yb} {D0 : Yb} (H0 : Cv C0 D0) {C1 : Nat → Yk} {D1 : Yk} (H1 : Cv2 C1 D1) (a0 : ByteArray) : Cv (fun k => PB (C0 k) (C1 k) a0) (PB D0 D1 a0) := by
  unfold PB
  exact .bind (H0) fun r1 => .bind (H1 _ _) fun r2 => by exact .const _
def WX.s : Nat → ByteArray → Option (Int × Bool)
  | 0, _ => none
  | k + 1, a0 => PB (V5.s k) (UE.s k) a0
theorem WX.ok : ∀ (k : Nat), QlD (ev k) (WX.s k)
  | 0, _, _, h => (nomatch h)
  | k + 1, a0, r, h => fn_ok rfl (Qek pp (ev k) (V5.s k) (UE.s k) a0) (Qoh _ _ _ a0) (Qoi _ _ _ _ _ (V5.ok k) (UE.ok k)  a0) h
noncomputable def WX (a0 : ByteArray) : Option (Int × Bool) := PB V5 UE a0
theorem WX.cv (a0 : ByteArray) : Cv (fun k => WX.s k a0) (WX a0) := .un rfl (Qoj V5.cv UE.cv a0)
theorem WX.eq (a0 : ByteArray) : WX a0 = PB V5 UE a0 := rfl
def Fg (r : ByteArray) : AV × Heap := (xs r, [])
abbrev Yl := Qe → Option ByteArray
abbrev Fh (a0 : Qe) : List AV × Heap := ([.agg (Sx a0)], [])
abbrev QdL (w : Cf) (a0 : Qe) : Option AH := w 200 (Fh a0).1 (Fh a0).2
abbrev Qd9 (w : Cf) (c : Yl) : Prop := ∀ (a0 : Qe) (r : ByteArray), c a0 = some r → QdL w a0 = some (Fg r)
def QdM  (a0 : Qe) : Option ByteArray := (some a0.kinds)
def Fi (P : Pg) (w : Cf)  (a0 : Qe) : Tr ByteArray AH := (rt Fg a0.kinds)
theorem QiM (w : Cf)  (a0 : Qe) : (Fi pp w  a0).norm (bodyT pp w G 200 (Fh a0).1 (Fh a0).2) = Fi pp w  a0 := by kernel_rfl
theorem QiN (P : Pg) (w : Cf) (lp : Lo)   (a0 : Qe) : (Fi P w  a0).ok lp Fg := rfl
def VS.s : Nat → Qe → Option ByteArray
  | 0, _ => none
  | k + 1, a0 => QdM  a0
theorem VS.ok : ∀ (k : Nat), Qd9 (ev k) (VS.s k)
  | 0, _, _, h => (nomatch h)
  | k + 1, a0, r, h => fn_ok rfl (Fi pp (ev k)  a0) (QiM _  a0) (QiN _ _ _    a0) h
noncomputable def VS (a0 : Qe) : Option ByteArray := QdM  a0
theorem VS.cv (a0 : Qe) : Cv (fun k => VS.s k a0) (VS a0) := .un rfl (by exact .const _)
def QcS (r : ByteArray) : AV × Heap := (xs r, [])
abbrev QcT := Int → Option ByteArray
abbrev Qhi (a0 : Int) : List AV × Heap := ([xi a0, .fn (.func 200) [] []], [])
abbrev QmF (w : Cf) (a0 : Int) : Option AH := w 166 (Qhi a0).1 (Qhi a0).2
abbrev Qob (w : Cf) (c : QcT) : Prop := ∀ (a0 : Int) (r : ByteArray), c a0 = some r → QmF w a0 = some (QcS r)
def Qe9 (C0 : Yb) (C1 : Yl) (a0 : Int) : Option ByteArray := ((C0).bind fun r1 => (bif (decide (a0 ≥ 0)) then (bif (decide (a0 < (((r1.length) : Nat) : Int))) then (bif (decide (0 ≤ a0)) then ((r1[(Int.toNat a0)]?).bind fun e2 => ((C1 e2).bind fun r3 => (some r3))) else none) else (some s_)) else (some s_)))
def Qhj (P : Pg) (w : Cf) (C0 : Yb) (C1 : Yl) (a0 : Int) : Tr ByteArray AH := (.call (Qge w) (C0) QaJ fun r1 => (let u44 := (decide (a0 ≥ 0)); .as u44 (yesN 2 u44 (.num ((Gl r1).length) (r1.length) (yesN 2 u44 (.as (decide (a0 < (((r1.length) : Nat) : Int))) (.as (decide (0 ≤ a0)) (.row ((Gl r1)[(Int.toNat a0)]?) (r1[(Int.toNat a0)]?) Sx fun (e2 : Qe) => (.call (QdL w e2) (C1 e2) Fg fun r3 => (rt QcS r3))) .fail) (rt QcS s_))))) (noN 4 u44 (.no false (rt QcS s_)))))
theorem Qpr (w : Cf) (C0 : Yb) (C1 : Yl) (a0 : Int) : (Qhj pp w C0 C1 a0).norm (bodyT pp w G 166 (Qhi a0).1 (Qhi a0).2) = Qhj pp w C0 C1 a0 := by kernel_rfl
theorem Qps (P : Pg) (w : Cf) (lp : Lo) (C0 : Yb) (C1 : Yl) (K0 : Qhg w C0) (K1 : Qd9 w C1) (a0 : Int) : (Qhj P w C0 C1 a0).ok lp QcS := fun r1 hr1 => ⟨K0 _ hr1, ⟨rfl, fun hq0 => yesN_ok 2 (hq0) (⟨(QhI _), yesN_ok 2 (hq0) (⟨rfl, fun hq1 => ⟨rfl, fun hq2 => fun e2 he2 => ⟨QhH he2, fun r3 hr3 => ⟨K1 _ _ hr3, rfl⟩⟩, fun hq2 => trivial⟩, fun hq1 => rfl⟩)⟩), fun hq0 => noN_ok 4 (hq0) (⟨rfl, rfl⟩)⟩⟩
theorem Qpt {C0 : Nat → Yb} {D0 : Yb} (H0 : Cv C0 D0) {C1 : Nat → Yl} {D1 : Yl} (H1 : Cv1 C1 D1) (a0 : Int) : Cv (fun k => Qe9 (C0 k) (C1 k) a0) (Qe9 D0 D1 a0) := by
  unfold Qe9
  exact .bind (H0) fun r1 => .cond (.cond (.cond (.bind (.const _) fun e2 => .bind (H1 _) fun r3 => by exact .const _) (by exact .const _)) (by exact .const _)) (by exact .const _)
def SH.s : Nat → Int → Option ByteArray
  | 0, _ => none
  | k + 1, a0 => Qe9 (V5.s k) (VS.s k) a0
theorem SH.ok : ∀ (k : Nat), Qob (ev k) (SH.s k)
  | 0, _, _, h => (nomatch h)
  | k + 1, a0, r, h => fn_ok rfl (Qhj pp (ev k) (V5.s k) (VS.s k) a0) (Qpr _ _ _ a0) (Qps _ _ _ _ _ (V5.ok k) (VS.ok k)  a0) h
noncomputable def SH (a0 : Int) : Option ByteArray := Qe9 V5 VS a0
theorem SH.cv (a0 : Int) : Cv (fun k => SH.s k a0) (SH a0) := .un rfl (Qpt V5.cv VS.cv a0)
def Qde (r : ByteArray) : AV × Heap := (xs r, [])
abbrev PC := Int → Option ByteArray
abbrev Qdf (a0 : Int) : List AV × Heap := ([xi a0], [])
abbrev QjP (w : Cf) (a0 : Int) : Option AH := w 146 (Qdf a0).1 (Qdf a0).2
abbrev QkD (w : Cf) (c : PC) : Prop := ∀ (a0 : Int) (r : ByteArray), c a0 = some r → QjP w a0 = some (Qde r)
def QaM (C0 : QcT) (a0 : Int) : Option ByteArray := ((C0 a0).bind fun r1 => (some r1))
def Qdg (P : Pg) (w : Cf) (C0 : QcT) (a0 : Int) : Tr ByteArray AH := (.call (QmF w a0) (C0 a0) QcS fun r1 => (rt Qde r1))
theorem QnC (w : Cf) (C0 : QcT) (a0 : Int) : (Qdg pp w C0 a0).norm (bodyT pp w G 146 (Qdf a0).1 (Qdf a0).2) = Qdg pp w C0 a0 := by kernel_rfl
theorem QnD (P : Pg) (w : Cf) (lp : Lo) (C0 : QcT) (K0 : Qob w C0) (a0 : Int) : (Qdg P w C0 a0).ok lp Qde := fun r1 hr1 => ⟨K0 _ _ hr1, rfl⟩
theorem QnE {C0 : Nat → QcT} {D0 : QcT} (H0 : Cv1 C0 D0) (a0 : Int) : Cv (fun k => QaM (C0 k) a0) (QaM D0 a0) := by
  unfold QaM
  exact .bind (H0 _) fun r1 => by exact .const _
def Xg.s : Nat → Int → Option ByteArray
  | 0, _ => none
  | k + 1, a0 => QaM (SH.s k) a0
theorem Xg.ok : ∀ (k : Nat), QkD (ev k) (Xg.s k)
  | 0, _, _, h => (nomatch h)
  | k + 1, a0, r, h => fn_ok rfl (Qdg pp (ev k) (SH.s k) a0) (QnC _ _ a0) (QnD _ _ _ _ (SH.ok k)  a0) h
noncomputable def Xg (a0 : Int) : Option ByteArray := QaM SH a0
theorem Xg.cv (a0 : Int) : Cv (fun k => Xg.s k a0) (Xg a0) := .un rfl (QnE SH.cv a0)
def Qbd (r : (List ByteArray)) : AV × Heap := (.sl (Qh r), [])
def UK.s : Nat → ByteArray → Option (List ByteArray)
  | 0, _ => none
  | _ + 1, a0 => fieldsS a0
theorem UK.ok : ∀ (k : Nat), ∀ (a0 : ByteArray) (r : (List ByteArray)), UK.s k a0 = some r → evalFn pp G k 145 [.sc (.string a0)] [] = some (Qbd r)
  | 0, _, _, h => (nomatch h)
  | k + 1, a0, r, h => fields_ok h
abbrev Zb := ByteArray → Option (List ByteArray)
abbrev Qfa (a0 : ByteArray) : List AV × Heap := ([xs a0], [])
abbrev Qfb (w : Cf) (a0 : ByteArray) : Option AH := w 145 (Qfa a0).1 (Qfa a0).2
abbrev QkE (w : Cf) (c : Zb) : Prop := ∀ (a0 : ByteArray) (r : (List ByteArray)), c a0 = some r → Qfb w a0 = some (Qbd r)
noncomputable def UK (a0 : ByteArray) : Option (List ByteArray) := fieldsS a0
theorem UK.mono (k : Nat) (a0 : ByteArray) : Le (UK.s k a0) (UK.s (k + 1) a0) := by
  cases k with
  | zero => exact fun r h => nomatch h
  | succ k => exact Le.refl _
theorem UK.cv (a0 : ByteArray) : Cv (fun k => UK.s k a0) (UK a0) := ⟨fun k => UK.mono k a0, fun r => ⟨fun h => ⟨1, h⟩, fun ⟨k, h⟩ => by
  cases k with
  | zero => cases h
  | succ k => exact h⟩⟩
def SI (r : Bool) : AV × Heap := (.sc (.bool r), [])
def JY.s : Nat → ByteArray → ByteArray → Option Bool
  | 0, _, _ => none
  | _ + 1, a0, a1 => containsS a0 a1
theorem JY.ok : ∀ (k : Nat), ∀ (a0 : ByteArray) (a1 : ByteArray) (r : Bool), JY.s k a0 a1 = some r → evalFn pp G k 177 [.sc (.string a0), .sc (.string a1)] [] = some (SI r)
  | 0, _, _, _, h => (nomatch h)
  | k + 1, a0, a1, r, h => contains_ok h
abbrev Vo := ByteArray → ByteArray → Option Bool
abbrev QdN (a0 : ByteArray) (a1 : ByteArray) : List AV × Heap := ([xs a0, xs a1], [])
abbrev QdO (w : Cf) (a0 : ByteArray) (a1 : ByteArray) : Option AH := w 177 (QdN a0 a1).1 (QdN a0 a1).2
abbrev Qea (w : Cf) (c : Vo) : Prop := ∀ (a0 : ByteArray) (a1 : ByteArray) (r : Bool), c a0 a1 = some r → QdO w a0 a1 = some (SI r)
noncomputable def JY (a0 : ByteArray) (a1 : ByteArray) : Option Bool := containsS a0 a1
theorem JY.mono (k : Nat) (a0 : ByteArray) (a1 : ByteArray) : Le (JY.s k a0 a1) (JY.s (k + 1) a0 a1) := by
  cases k with
  | zero => exact fun r h => nomatch h
  | succ k => exact Le.refl _
theorem JY.cv (a0 : ByteArray) (a1 : ByteArray) : Cv (fun k => JY.s k a0 a1) (JY a0 a1) := ⟨fun k => JY.mono k a0 a1, fun r => ⟨fun h => ⟨1, h⟩, fun ⟨k, h⟩ => by
  cases k with
  | zero => cases h
  | succ k => exact h⟩⟩
def E8 (r : (List (List Int))) : AV × Heap := (.sl (Qdy r), [])
abbrev UL := Option (List (List Int))
abbrev Qa3  : List AV × Heap := ([], [])
abbrev Qa4 (w : Cf)  : Option AH := w 242 (Qa3 ).1 (Qa3 ).2
abbrev Qb0 (w : Cf) (c : UL) : Prop := ∀  (r : (List (List Int))), c = some r → Qa4 w  = some (E8 r)
def Qd6   : Option (List (List Int)) := (some [[(9 : Int)], [(8 : Int)], [(10 : Int), (11 : Int)], [(5 : Int), (6 : Int)], [(7 : Int)]])
def Qa5 (P : Pg) (w : Cf)   : Tr (List (List Int)) AH := (.rows [[xi (zi 9)]] (EM [(zi 9)]) (.rows [[xi (zi 8)]] (EM [(zi 8)]) (.rows [[xi (zi 10)], [xi (zi 11)]] (EM [(zi 10), (zi 11)]) (.rows [[xi (zi 5)], [xi (zi 6)]] (EM [(zi 5), (zi 6)]) (.rows [[xi (zi 7)]] (EM [(zi 7)]) (.rows [[.sl (EM [(zi 9)])], [.sl (EM [(zi 8)])], [.sl (EM [(zi 10), (zi 11)])], [.sl (EM [(zi 5), (zi 6)])], [.sl (EM [(zi 7)])]] (Qdy [[(zi 9)], [(zi 8)], [(zi 10), (zi 11)], [(zi 5), (zi 6)], [(zi 7)]]) (rt E8 [[(zi 9)], [(zi 8)], [(zi 10), (zi 11)], [(zi 5), (zi 6)], [(zi 7)]])))))))
theorem QlR (w : Cf)   : (Qa5 pp w  ).norm (bodyT pp w G 242 (Qa3 ).1 (Qa3 ).2) = Qa5 pp w   := by kernel_rfl
theorem QlS (P : Pg) (w : Cf) (lp : Lo)    : (Qa5 P w  ).ok lp E8 := ⟨(Sw [(9 : Int)]), ⟨(Sw [(8 : Int)]), ⟨(Sw [(10 : Int), (11 : Int)]), ⟨(Sw [(5 : Int), (6 : Int)]), ⟨(Sw [(7 : Int)]), ⟨(Qhb [[(9 : Int)], [(8 : Int)], [(10 : Int), (11 : Int)], [(5 : Int), (6 : Int)], [(7 : Int)]]), rfl⟩⟩⟩⟩⟩⟩
def J7.s : Nat → Option (List (List Int))
  | 0 => none
  | k + 1 => Qd6  
theorem J7.ok : ∀ (k : Nat), Qb0 (ev k) (J7.s k)
  | 0, _, h => (nomatch h)
  | k + 1, r, h => fn_ok rfl (Qa5 pp (ev k)  ) (QlR _  ) (QlS _ _ _    ) h
noncomputable def J7  : Option (List (List Int)) := Qd6  
theorem J7.cv  : Cv (fun k => J7.s k ) (J7 ) := .un rfl (by exact .const _)
theorem J7.eq  : J7  = Qd6   := rfl
def Gb (r : ByteArray) : AV × Heap := (xs r, [])
abbrev WF := ByteArray → Int → Option ByteArray
abbrev Gc (a0 : ByteArray) (a1 : Int) : List AV × Heap := ([xs a0, xb a1], [])
abbrev QaN (w : Cf) (a0 : ByteArray) (a1 : Int) : Option AH := w 116 (Gc a0 a1).1 (Gc a0 a1).2
abbrev Qbp (w : Cf) (c : WF) : Prop := ∀ (a0 : ByteArray) (a1 : Int) (r : ByteArray), c a0 a1 = some r → QaN w a0 a1 = some (Gb r)
structure QC where
  x0 : ByteArray
  x1 : Int
def Wr (a : QC) : St := { n := 17, nx := 0, env := [(0, xs a.x0), (1, xb a.x1)], heap := [] }
def Ws (a : ByteArray) : Ex × St := (.exit 0, { n := 17, nx := 0, env := [(0, xs a)], heap := [] })
abbrev VT := QC → Option ByteArray
abbrev Qfc (P : Pg) (lp : Lo) (l : VT) : Prop := ∀ (a : QC) (r : ByteArray), l a = some r → lp (loopAt P 116 1) (Wr a) = some (Ws r)
def Y2  (a : QC) : Option (QC ⊕ ByteArray) := (bif (decide (((a.x0.size : Nat) : Int) > 0)) then (bif (decide (0 ≤ (0 : Int) ∧ (0 : Int) < ((a.x0.size : Nat) : Int))) then (bif (((a.x0.data.getD (Int.toNat 0) 0).toNat : Int) == a.x1) then (bif (decide (0 ≤ (1 : Int) ∧ (1 : Int) ≤ ((a.x0.size : Nat) : Int) ∧ ((a.x0.size : Nat) : Int) ≤ ((a.x0.size : Nat) : Int))) then (some (.inl (QC.mk (a.x0.extract (Int.toNat 1) (Int.toNat ((a.x0.size : Nat) : Int))) a.x1))) else none) else (some (.inr a.x0))) else none) else (some (.inr a.x0)))
def Y3 (P : Pg) (w : Cf)  (a : QC) : Tr (QC ⊕ ByteArray) XS := (let u45 := (decide ((zz a.x0) > 0)); .as u45 (.yes u45 (.as (in1 (zi 0) (zz a.x0)) (yesN 3 u45 (.as ((gb a.x0 (zi 0)) == a.x1) (.as (in2 (zi 1) (zz a.x0) (zz a.x0)) (lf Wr (QC.mk (cu a.x0 (zi 1) (zz a.x0)) a.x1)) .fail) (rx Ws a.x0))) .fail)) (noN 4 u45 (.no false (rx Ws a.x0))))
theorem Qel (w : Cf)  (a : QC) : (Y3 pp w  a).norm (roundT pp G.kd w 0 (G.an 116) (loopAt pp 116 1) (Wr a)) = Y3 pp w  a := by kernel_rfl
theorem Qem (P : Pg) (w : Cf) (lp : Lo)   (a : QC) : (Y3 P w  a).ok lp (Sum.elim (fun a => (.norm, Wr a)) Ws) := ⟨rfl, fun hq0 => ⟨hq0, ⟨rfl, fun hq1 => yesN_ok 3 (hq0) (⟨rfl, fun hq2 => ⟨rfl, fun hq3 => rfl, fun hq3 => trivial⟩, fun hq2 => rfl⟩), fun hq1 => trivial⟩⟩, fun hq0 => noN_ok 4 (hq0) (⟨rfl, rfl⟩)⟩
def QZ.s (k : Nat)  : QC → Option ByteArray := iter (Y2 ) k
theorem Qd7 (w : Cf) (k : Nat)   (a : QC) (r : ByteArray) (h : QZ.s k  a = some r) : loopsF pp G.kd w 0 (G.an 116) k (loopAt pp 116 1) (Wr a) = some (Ws r) :=
  loop_ok (fun a => Y3 pp w  a) (fun _ => rfl) (fun a => Qel w  a) (fun a => Qem _ w _   a) (fun r => nofun) h
noncomputable def QZ.w  : QC → Option ByteArray := loopW (Y2 )
theorem QZ.cv    (a : QC) : Cv (fun k => QZ.s k  a) (QZ.w  a) := Cv.iter (fun a => by exact .const _) a
def Wj (L0 : VT) (a0 : ByteArray) (a1 : Int) : Option ByteArray := ((L0 (QC.mk a0 a1)).bind (fun (o1 : ByteArray) => (some o1)))
def Gd (P : Pg) (w : Cf) (L0 : VT) (a0 : ByteArray) (a1 : Int) : Tr ByteArray AH := (.loop (loopAt P 116 1) (Wr (QC.mk a0 a1)) (L0 (QC.mk a0 a1)) Ws (fun (o1 : ByteArray) => (rt Gb o1)))
theorem Qgh (w : Cf) (L0 : VT) (a0 : ByteArray) (a1 : Int) : (Gd pp w L0 a0 a1).norm (bodyT pp w G 116 (Gc a0 a1).1 (Gc a0 a1).2) = Gd pp w L0 a0 a1 := by kernel_rfl
theorem Qgi (P : Pg) (w : Cf) (lp : Lo) (L0 : VT) (N0 : Qfc P lp L0) (a0 : ByteArray) (a1 : Int) : (Gd P w L0 a0 a1).ok lp Gb := fun o1 ho1 => ⟨N0 _ _ ho1, rfl⟩
theorem Qgj {L0 : Nat → VT} {M0 : VT} (N0 : Cv1 L0 M0) (a0 : ByteArray) (a1 : Int) : Cv (fun k => Wj (L0 k) a0 a1) (Wj M0 a0 a1) := by
  unfold Wj
  exact .bind (N0 _) (fun o1 => by exact .const _)
def JZ.s : Nat → ByteArray → Int → Option ByteArray
  | 0, _, _ => none
  | k + 1, a0, a1 => Wj (QZ.s k) a0 a1
theorem JZ.ok : ∀ (k : Nat), Qbp (ev k) (JZ.s k)
  | 0, _, _, _, h => (nomatch h)
  | k + 1, a0, a1, r, h => fn_ok rfl (Gd pp (ev k) (QZ.s k) a0 a1) (Qgh _ _ a0 a1) (Qgi _ _ _ _  (Qd7 _ k) a0 a1) h
noncomputable def QZ : QC → Option ByteArray := QZ.w 
theorem QZ.eq (a : QC) : QZ a = (Y2  a).bind (Sum.elim QZ some) := loopW_eq _ _
noncomputable def JZ (a0 : ByteArray) (a1 : Int) : Option ByteArray := Wj QZ a0 a1
theorem JZ.cv (a0 : ByteArray) (a1 : Int) : Cv (fun k => JZ.s k a0 a1) (JZ a0 a1) := .un rfl (Qgj (QZ.cv) a0 a1)
theorem JZ.eq (a0 : ByteArray) (a1 : Int) : JZ a0 a1 = Wj QZ a0 a1 := rfl
def Gs (r : ByteArray) : AV × Heap := (xs r, [])
abbrev Ym := ByteArray → Option ByteArray
abbrev Fj (a0 : ByteArray) : List AV × Heap := ([xs a0, xs h_20], [])
abbrev QdP (w : Cf) (a0 : ByteArray) : Option AH := w 245 (Fj a0).1 (Fj a0).2
abbrev Qeb (w : Cf) (c : Ym) : Prop := ∀ (a0 : ByteArray) (r : ByteArray), c a0 = some r → QdP w a0 = some (Gs r)
def XH (C0 : WF) (a0 : ByteArray) : Option ByteArray := (bif (eqS a0 s_) then (some a0) else ((C0 a0 (32 : Int)).bind fun r1 => (some r1)))
def Fk (P : Pg) (w : Cf) (C0 : WF) (a0 : ByteArray) : Tr ByteArray AH := (let u46 := (eqS a0 s_); .as u46 (yesN 2 u46 (.yes true (rt Gs a0))) (noN 2 u46 (.no false (yesN 2 true (.yes (in1 (zi 0) (zz h_20)) (yesN 3 true (.yes (in1 (zi 0) (zz h_20)) (.call (QaN w a0 (zi 32)) (C0 a0 (zi 32)) Gb fun r1 => (rt Gs r1)))))))))
theorem QiO (w : Cf) (C0 : WF) (a0 : ByteArray) : (Fk pp w C0 a0).norm (bodyT pp w G 245 (Fj a0).1 (Fj a0).2) = Fk pp w C0 a0 := by kernel_rfl
theorem QiP (P : Pg) (w : Cf) (lp : Lo) (C0 : WF) (K0 : Qbp w C0) (a0 : ByteArray) : (Fk P w C0 a0).ok lp Gs := ⟨rfl, fun hq0 => yesN_ok 2 (hq0) (⟨rfl, rfl⟩), fun hq0 => noN_ok 2 (hq0) (⟨rfl, yesN_ok 2 (rfl) (⟨(by decide), yesN_ok 3 (rfl) (⟨(by decide), fun r1 hr1 => ⟨K0 _ _ _ hr1, rfl⟩⟩)⟩)⟩)⟩
theorem QiQ {C0 : Nat → WF} {D0 : WF} (H0 : Cv2 C0 D0) (a0 : ByteArray) : Cv (fun k => XH (C0 k) a0) (XH D0 a0) := by
  unfold XH
  exact .cond (by exact .const _) (.bind (H0 _ _) fun r1 => by exact .const _)
def Us.s : Nat → ByteArray → Option ByteArray
  | 0, _ => none
  | k + 1, a0 => XH (JZ.s k) a0
theorem Us.ok : ∀ (k : Nat), Qeb (ev k) (Us.s k)
  | 0, _, _, h => (nomatch h)
  | k + 1, a0, r, h => fn_ok rfl (Fk pp (ev k) (JZ.s k) a0) (QiO _ _ a0) (QiP _ _ _ _ (JZ.ok k)  a0) h
noncomputable def Us (a0 : ByteArray) : Option ByteArray := XH JZ a0
theorem Us.cv (a0 : ByteArray) : Cv (fun k => Us.s k a0) (Us a0) := .un rfl (QiQ JZ.cv a0)
theorem Us.eq (a0 : ByteArray) : Us a0 = XH JZ a0 := rfl
def Zc (r : Qa) : AV × Heap := (.tup [], [(0, .box [] (Q0 r))])
abbrev Uu := Qa → Option Qa
abbrev G5 (h0 : Qa) : List AV × Heap := ([.ptr 0 0], [(0, .box [] (Q0 h0))])
abbrev PD (w : Cf) (h0 : Qa) : Option AH := w 216 (G5 h0).1 (G5 h0).2
abbrev Sj (w : Cf) (c : Uu) : Prop := ∀ (h0 : Qa) (r : Qa), c h0 = some r → PD w h0 = some (Zc r)
def WY (C0 : Ym) (h0 : Qa) : Option Qa := ((C0 h0.left).bind fun r1 => (some (Qa.mk r1 h0.deep h0.bad)))
def G6 (P : Pg) (w : Cf) (C0 : Ym) (h0 : Qa) : Tr Qa AH := (.call (QdP w h0.left) (C0 h0.left) Gs fun r1 => (rt Zc (Qa.mk r1 h0.deep h0.bad)))
theorem Qhk (w : Cf) (C0 : Ym) (h0 : Qa) : (G6 pp w C0 h0).norm (bodyT pp w G 216 (G5 h0).1 (G5 h0).2) = G6 pp w C0 h0 := by kernel_rfl
theorem Qhl (P : Pg) (w : Cf) (lp : Lo) (C0 : Ym) (K0 : Qeb w C0) (h0 : Qa) : (G6 P w C0 h0).ok lp Zc := fun r1 hr1 => ⟨K0 _ _ hr1, rfl⟩
theorem Qhm {C0 : Nat → Ym} {D0 : Ym} (H0 : Cv1 C0 D0) (h0 : Qa) : Cv (fun k => WY (C0 k) h0) (WY D0 h0) := by
  unfold WY
  exact .bind (H0 _) fun r1 => by exact .const _
def Q4.s : Nat → Qa → Option Qa
  | 0, _ => none
  | k + 1, h0 => WY (Us.s k) h0
theorem Q4.ok : ∀ (k : Nat), Sj (ev k) (Q4.s k)
  | 0, _, _, h => (nomatch h)
  | k + 1, h0, r, h => fn_ok rfl (G6 pp (ev k) (Us.s k) h0) (Qhk _ _ h0) (Qhl _ _ _ _ (Us.ok k)  h0) h
noncomputable def Q4 (h0 : Qa) : Option Qa := WY Us h0
theorem Q4.cv (h0 : Qa) : Cv (fun k => Q4.s k h0) (Q4 h0) := .un rfl (Qhm Us.cv h0)
theorem Q4.eq (h0 : Qa) : Q4 h0 = WY Us h0 := rfl
def WS (r : Bool) : AV × Heap := (xo r, [])
abbrev J8 := ByteArray → ByteArray → Option Bool
abbrev ZC (a0 : ByteArray) (a1 : ByteArray) : List AV × Heap := ([xs a0, xs a1], [])
abbrev E7 (w : Cf) (a0 : ByteArray) (a1 : ByteArray) : Option AH := w 284 (ZC a0 a1).1 (ZC a0 a1).2
abbrev FF (w : Cf) (c : J8) : Prop := ∀ (a0 : ByteArray) (a1 : ByteArray) (r : Bool), c a0 a1 = some r → E7 w a0 a1 = some (WS r)
def ZD  (a0 : ByteArray) (a1 : ByteArray) : Option Bool := (bif (decide (((a0.size : Nat) : Int) ≥ ((a1.size : Nat) : Int))) then (bif (decide (0 ≤ (0 : Int) ∧ (0 : Int) ≤ ((a1.size : Nat) : Int) ∧ ((a1.size : Nat) : Int) ≤ ((a0.size : Nat) : Int))) then (some (eqS (a0.extract (Int.toNat 0) (Int.toNat ((a1.size : Nat) : Int))) a1)) else none) else (some false))
def ZE (P : Pg) (w : Cf)  (a0 : ByteArray) (a1 : ByteArray) : Tr Bool AH := (let u47 := (decide ((zz a0) ≥ (zz a1))); .as u47 (yesN 3 u47 (.as (in2 (zi 0) (zz a1) (zz a0)) (yesN 3 u47 (rt WS (eqS (cu a0 (zi 0) (zz a1)) a1))) .fail)) (noN 6 u47 (rt WS false)))
theorem Qfm (w : Cf)  (a0 : ByteArray) (a1 : ByteArray) : (ZE pp w  a0 a1).norm (bodyT pp w G 284 (ZC a0 a1).1 (ZC a0 a1).2) = ZE pp w  a0 a1 := by kernel_rfl
theorem Qfn (P : Pg) (w : Cf) (lp : Lo)   (a0 : ByteArray) (a1 : ByteArray) : (ZE P w  a0 a1).ok lp WS := ⟨rfl, fun hq0 => yesN_ok 3 (hq0) (⟨rfl, fun hq1 => yesN_ok 3 (hq0) (rfl), fun hq1 => trivial⟩), fun hq0 => noN_ok 6 (hq0) (rfl)⟩
def QT.s : Nat → ByteArray → ByteArray → Option Bool
  | 0, _, _ => none
  | k + 1, a0, a1 => ZD  a0 a1
theorem QT.ok : ∀ (k : Nat), FF (ev k) (QT.s k)
  | 0, _, _, _, h => (nomatch h)
  | k + 1, a0, a1, r, h => fn_ok rfl (ZE pp (ev k)  a0 a1) (Qfm _  a0 a1) (Qfn _ _ _    a0 a1) h
noncomputable def QT (a0 : ByteArray) (a1 : ByteArray) : Option Bool := ZD  a0 a1
theorem QT.cv (a0 : ByteArray) (a1 : ByteArray) : Cv (fun k => QT.s k a0 a1) (QT a0 a1) := .un rfl (by exact .const _)
theorem QT.eq (a0 : ByteArray) (a1 : ByteArray) : QT a0 a1 = ZD  a0 a1 := rfl
def EN (r : Bool) : AV × Heap := (xo r, [])
abbrev XI := ByteArray → ByteArray → Option Bool
abbrev EO (a0 : ByteArray) (a1 : ByteArray) : List AV × Heap := ([xs a0, xs a1], [])
abbrev QcG (w : Cf) (a0 : ByteArray) (a1 : ByteArray) : Option AH := w 265 (EO a0 a1).1 (EO a0 a1).2
abbrev QdQ (w : Cf) (c : XI) : Prop := ∀ (a0 : ByteArray) (a1 : ByteArray) (r : Bool), c a0 a1 = some r → QcG w a0 a1 = some (EN r)
def Wt (C0 : J8) (a0 : ByteArray) (a1 : ByteArray) : Option Bool := ((C0 a0 a1).bind fun r1 => (some r1))
def EP (P : Pg) (w : Cf) (C0 : J8) (a0 : ByteArray) (a1 : ByteArray) : Tr Bool AH := (.call (E7 w a0 a1) (C0 a0 a1) WS fun r1 => (rt EN r1))
theorem Qh2 (w : Cf) (C0 : J8) (a0 : ByteArray) (a1 : ByteArray) : (EP pp w C0 a0 a1).norm (bodyT pp w G 265 (EO a0 a1).1 (EO a0 a1).2) = EP pp w C0 a0 a1 := by kernel_rfl
theorem Qh3 (P : Pg) (w : Cf) (lp : Lo) (C0 : J8) (K0 : FF w C0) (a0 : ByteArray) (a1 : ByteArray) : (EP P w C0 a0 a1).ok lp EN := fun r1 hr1 => ⟨K0 _ _ _ hr1, rfl⟩
theorem Qh4 {C0 : Nat → J8} {D0 : J8} (H0 : Cv2 C0 D0) (a0 : ByteArray) (a1 : ByteArray) : Cv (fun k => Wt (C0 k) a0 a1) (Wt D0 a0 a1) := by
  unfold Wt
  exact .bind (H0 _ _) fun r1 => by exact .const _
def Ud.s : Nat → ByteArray → ByteArray → Option Bool
  | 0, _, _ => none
  | k + 1, a0, a1 => Wt (QT.s k) a0 a1
theorem Ud.ok : ∀ (k : Nat), QdQ (ev k) (Ud.s k)
  | 0, _, _, _, h => (nomatch h)
  | k + 1, a0, a1, r, h => fn_ok rfl (EP pp (ev k) (QT.s k) a0 a1) (Qh2 _ _ a0 a1) (Qh3 _ _ _ _ (QT.ok k)  a0 a1) h
noncomputable def Ud (a0 : ByteArray) (a1 : ByteArray) : Option Bool := Wt QT a0 a1
theorem Ud.cv (a0 : ByteArray) (a1 : ByteArray) : Cv (fun k => Ud.s k a0 a1) (Ud a0 a1) := .un rfl (Qh4 QT.cv a0 a1)
theorem Ud.eq (a0 : ByteArray) (a1 : ByteArray) : Ud a0 a1 = Wt QT a0 a1 := rfl
def VL (r : (Bool × Qa)) : AV × Heap := (xo r.1, [(0, .box [] (Q0 r.2))])
abbrev Q2 := ByteArray → Qa → Option (Bool × Qa)
abbrev Fl (a1 : ByteArray) (h0 : Qa) : List AV × Heap := ([.ptr 0 0, xs a1], [(0, .box [] (Q0 h0))])
abbrev YT (w : Cf) (a1 : ByteArray) (h0 : Qa) : Option AH := w 261 (Fl a1 h0).1 (Fl a1 h0).2
abbrev GX (w : Cf) (c : Q2) : Prop := ∀ (a1 : ByteArray) (h0 : Qa) (r : (Bool × Qa)), c a1 h0 = some r → YT w a1 h0 = some (VL r)
def XJ (C0 : Uu) (C1 : XI) (a1 : ByteArray) (h0 : Qa) : Option (Bool × Qa) := ((C0 h0).bind fun r1 => (bif r1.bad then (some (false, r1)) else ((C1 r1.left a1).bind fun r2 => (bif (!r2) then (some (false, r1)) else (bif (decide (0 ≤ ((a1.size : Nat) : Int) ∧ ((a1.size : Nat) : Int) ≤ ((r1.left.size : Nat) : Int) ∧ ((r1.left.size : Nat) : Int) ≤ ((r1.left.size : Nat) : Int))) then (some (true, (Qa.mk (r1.left.extract (Int.toNat ((a1.size : Nat) : Int)) (Int.toNat ((r1.left.size : Nat) : Int))) r1.deep r1.bad))) else none)))))
def Fm (P : Pg) (w : Cf) (C0 : Uu) (C1 : XI) (a1 : ByteArray) (h0 : Qa) : Tr (Bool × Qa) AH := (.call (PD w h0) (C0 h0) Zc fun r1 => (.as r1.bad (yesN 7 r1.bad (.yes true (rt VL (false, r1)))) (noN 5 r1.bad (.call (QcG w r1.left a1) (C1 r1.left a1) EN fun r2 => (noN 2 r1.bad (.as (!r2) (rt VL (false, r1)) (.as (in2 (zz a1) (zz r1.left) (zz r1.left)) (rt VL (true, (Qa.mk (cu r1.left (zz a1) (zz r1.left)) r1.deep r1.bad))) .fail)))))))
theorem QiR (w : Cf) (C0 : Uu) (C1 : XI) (a1 : ByteArray) (h0 : Qa) : (Fm pp w C0 C1 a1 h0).norm (bodyT pp w G 261 (Fl a1 h0).1 (Fl a1 h0).2) = Fm pp w C0 C1 a1 h0 := by kernel_rfl
theorem QiS (P : Pg) (w : Cf) (lp : Lo) (C0 : Uu) (C1 : XI) (K0 : Sj w C0) (K1 : QdQ w C1) (a1 : ByteArray) (h0 : Qa) : (Fm P w C0 C1 a1 h0).ok lp VL := fun r1 hr1 => ⟨K0 _ _ hr1, ⟨rfl, fun hq0 => yesN_ok 7 (hq0) (⟨rfl, rfl⟩), fun hq0 => noN_ok 5 (hq0) (fun r2 hr2 => ⟨K1 _ _ _ hr2, noN_ok 2 (hq0) (⟨rfl, fun hq1 => rfl, fun hq1 => ⟨rfl, fun hq2 => rfl, fun hq2 => trivial⟩⟩)⟩)⟩⟩
theorem QiT {C0 : Nat → Uu} {D0 : Uu} (H0 : Cv1 C0 D0) {C1 : Nat → XI} {D1 : XI} (H1 : Cv2 C1 D1) (a1 : ByteArray) (h0 : Qa) : Cv (fun k => XJ (C0 k) (C1 k) a1 h0) (XJ D0 D1 a1 h0) := by
  unfold XJ
  exact .bind (H0 _) fun r1 => .cond (by exact .const _) (.bind (H1 _ _) fun r2 => by exact .const _)
def QH.s : Nat → ByteArray → Qa → Option (Bool × Qa)
  | 0, _, _ => none
  | k + 1, a1, h0 => XJ (Q4.s k) (Ud.s k) a1 h0
theorem QH.ok : ∀ (k : Nat), GX (ev k) (QH.s k)
  | 0, _, _, _, h => (nomatch h)
  | k + 1, a1, h0, r, h => fn_ok rfl (Fm pp (ev k) (Q4.s k) (Ud.s k) a1 h0) (QiR _ _ _ a1 h0) (QiS _ _ _ _ _ (Q4.ok k) (Ud.ok k)  a1 h0) h
noncomputable def QH (a1 : ByteArray) (h0 : Qa) : Option (Bool × Qa) := XJ Q4 Ud a1 h0
theorem QH.cv (a1 : ByteArray) (h0 : Qa) : Cv (fun k => QH.s k a1 h0) (QH a1 h0) := .un rfl (QiT Q4.cv Ud.cv a1 h0)
theorem QH.eq (a1 : ByteArray) (h0 : Qa) : QH a1 h0 = XJ Q4 Ud a1 h0 := rfl
def Vt (r : (Qb × Qa)) : AV × Heap := (.agg (Q7 r.1), [(0, .box [] (Q0 r.2))])
abbrev Qm := Qa → Option (Qb × Qa)
abbrev Fo (h0 : Qa) : List AV × Heap := ([.ptr 0 0], [(0, .box [] (Q0 h0))])
abbrev Wf (w : Cf) (h0 : Qa) : Option AH := w 273 (Fo h0).1 (Fo h0).2
abbrev Xh (w : Cf) (c : Qm) : Prop := ∀ (h0 : Qa) (r : (Qb × Qa)), c h0 = some r → Wf w h0 = some (Vt r)
def SJ  (h0 : Qa) : Option (Qb × Qa) := (some ((Qb.mk (0 : Int) (0 : Int) s_ ([] : List Qb)), (Qa.mk h0.left h0.deep true)))
def Fp (P : Pg) (w : Cf)  (h0 : Qa) : Tr (Qb × Qa) AH := (rt Vt ((Qb.mk (zi 0) (zi 0) s_ ([] : List Qb)), (Qa.mk h0.left h0.deep true)))
theorem QiU (w : Cf)  (h0 : Qa) : (Fp pp w  h0).norm (bodyT pp w G 273 (Fo h0).1 (Fo h0).2) = Fp pp w  h0 := by kernel_rfl
theorem QiV (P : Pg) (w : Cf) (lp : Lo)   (h0 : Qa) : (Fp P w  h0).ok lp Vt := rfl
def Qk.s : Nat → Qa → Option (Qb × Qa)
  | 0, _ => none
  | k + 1, h0 => SJ  h0
theorem Qk.ok : ∀ (k : Nat), Xh (ev k) (Qk.s k)
  | 0, _, _, h => (nomatch h)
  | k + 1, h0, r, h => fn_ok rfl (Fp pp (ev k)  h0) (QiU _  h0) (QiV _ _ _    h0) h
noncomputable def Qk (h0 : Qa) : Option (Qb × Qa) := SJ  h0
theorem Qk.cv (h0 : Qa) : Cv (fun k => Qk.s k h0) (Qk h0) := .un rfl (by exact .const _)
theorem Qk.eq (h0 : Qa) : Qk h0 = SJ  h0 := rfl
def GC (r : Bool) : AV × Heap := (xo r, [])
abbrev WZ := ByteArray → Option Bool
abbrev GD (a0 : ByteArray) : List AV × Heap := ([xs a0, xs s_0x], [])
abbrev Qbq (w : Cf) (a0 : ByteArray) : Option AH := w 265 (GD a0).1 (GD a0).2
abbrev Qb1 (w : Cf) (c : WZ) : Prop := ∀ (a0 : ByteArray) (r : Bool), c a0 = some r → Qbq w a0 = some (GC r)
def WG (C0 : J8) (a0 : ByteArray) : Option Bool := ((C0 a0 s_0x).bind fun r1 => (some r1))
def GE (P : Pg) (w : Cf) (C0 : J8) (a0 : ByteArray) : Tr Bool AH := (.call (E7 w a0 s_0x) (C0 a0 s_0x) WS fun r1 => (rt GC r1))
theorem QgR (w : Cf) (C0 : J8) (a0 : ByteArray) : (GE pp w C0 a0).norm (bodyT pp w G 265 (GD a0).1 (GD a0).2) = GE pp w C0 a0 := by kernel_rfl
theorem QgS (P : Pg) (w : Cf) (lp : Lo) (C0 : J8) (K0 : FF w C0) (a0 : ByteArray) : (GE P w C0 a0).ok lp GC := fun r1 hr1 => ⟨K0 _ _ _ hr1, rfl⟩
theorem QgT {C0 : Nat → J8} {D0 : J8} (H0 : Cv2 C0 D0) (a0 : ByteArray) : Cv (fun k => WG (C0 k) a0) (WG D0 a0) := by
  unfold WG
  exact .bind (H0 _ _) fun r1 => by exact .const _
def JS.s : Nat → ByteArray → Option Bool
  | 0, _ => none
  | k + 1, a0 => WG (QT.s k) a0
theorem JS.ok : ∀ (k : Nat), Qb1 (ev k) (JS.s k)
  | 0, _, _, h => (nomatch h)
  | k + 1, a0, r, h => fn_ok rfl (GE pp (ev k) (QT.s k) a0) (QgR _ _ a0) (QgS _ _ _ _ (QT.ok k)  a0) h
noncomputable def JS (a0 : ByteArray) : Option Bool := WG QT a0
theorem JS.cv (a0 : ByteArray) : Cv (fun k => JS.s k a0) (JS a0) := .un rfl (QgT QT.cv a0)
theorem JS.eq (a0 : ByteArray) : JS a0 = WG QT a0 := rfl
def Gt (r : Bool) : AV × Heap := (xo r, [])
abbrev JB := Int → Option Bool
abbrev Qb2 (a0 : Int) : List AV × Heap := ([.sc (.int .i32 a0)], [])
abbrev SK (w : Cf) (a0 : Int) : Option AH := w 270 (Qb2 a0).1 (Qb2 a0).2
abbrev Sc (w : Cf) (c : JB) : Prop := ∀ (a0 : Int) (r : Bool), c a0 = some r → SK w a0 = some (Gt r)
def Qb3  (a0 : Int) : Option Bool := (bif (decide (a0 ≥ 48)) then (some (decide (a0 ≤ (57 : Int)))) else (some false))
def Qb4 (P : Pg) (w : Cf)  (a0 : Int) : Tr Bool AH := (let u48 := (decide (a0 ≥ 48)); .as u48 (yesN 2 u48 (rt Gt (decide (a0 ≤ (zi 57))))) (noN 2 u48 (rt Gt false)))
theorem QmG (w : Cf)  (a0 : Int) : (Qb4 pp w  a0).norm (bodyT pp w G 270 (Qb2 a0).1 (Qb2 a0).2) = Qb4 pp w  a0 := by kernel_rfl
theorem QmH (P : Pg) (w : Cf) (lp : Lo)   (a0 : Int) : (Qb4 P w  a0).ok lp Gt := ⟨rfl, fun hq0 => yesN_ok 2 (hq0) (rfl), fun hq0 => noN_ok 2 (hq0) (rfl)⟩
def Jo.s : Nat → Int → Option Bool
  | 0, _ => none
  | k + 1, a0 => Qb3  a0
theorem Jo.ok : ∀ (k : Nat), Sc (ev k) (Jo.s k)
  | 0, _, _, h => (nomatch h)
  | k + 1, a0, r, h => fn_ok rfl (Qb4 pp (ev k)  a0) (QmG _  a0) (QmH _ _ _    a0) h
noncomputable def Jo (a0 : Int) : Option Bool := Qb3  a0
theorem Jo.cv (a0 : Int) : Cv (fun k => Jo.s k a0) (Jo a0) := .un rfl (by exact .const _)
theorem Jo.eq (a0 : Int) : Jo a0 = Qb3  a0 := rfl
def Qap (r : Bool) : AV × Heap := (xo r, [])
abbrev Zy := Int → Option Bool
abbrev Qen (a0 : Int) : List AV × Heap := ([.sc (.int .i32 a0)], [])
abbrev QkF (w : Cf) (a0 : Int) : Option AH := w 267 (Qen a0).1 (Qen a0).2
abbrev QiW (w : Cf) (c : Zy) : Prop := ∀ (a0 : Int) (r : Bool), c a0 = some r → QkF w a0 = some (Qap r)
def PE (C0 : JB) (a0 : Int) : Option Bool := ((C0 a0).bind fun r1 => (bif r1 then (some true) else (bif (decide (a0 ≥ 97)) then (some (decide (a0 ≤ (102 : Int)))) else (some false))))
def Qeo (P : Pg) (w : Cf) (C0 : JB) (a0 : Int) : Tr Bool AH := (.call (SK w a0) (C0 a0) Gt fun r1 => (.as r1 (yesN 4 r1 (rt Qap true)) (noN 2 r1 (let u49 := (decide (a0 ≥ 97)); .as u49 (.yes u49 (.no r1 (.yes u49 (.no r1 (rt Qap (decide (a0 ≤ (zi 102)))))))) (.no u49 (.no r1 (.no u49 (.no r1 (rt Qap false)))))))))
theorem Qok (w : Cf) (C0 : JB) (a0 : Int) : (Qeo pp w C0 a0).norm (bodyT pp w G 267 (Qen a0).1 (Qen a0).2) = Qeo pp w C0 a0 := by kernel_rfl
theorem Qol (P : Pg) (w : Cf) (lp : Lo) (C0 : JB) (K0 : Sc w C0) (a0 : Int) : (Qeo P w C0 a0).ok lp Qap := fun r1 hr1 => ⟨K0 _ _ hr1, ⟨rfl, fun hq0 => yesN_ok 4 (hq0) (rfl), fun hq0 => noN_ok 2 (hq0) (⟨rfl, fun hq1 => ⟨hq1, ⟨hq0, ⟨hq1, ⟨hq0, rfl⟩⟩⟩⟩, fun hq1 => ⟨hq1, ⟨hq0, ⟨hq1, ⟨hq0, rfl⟩⟩⟩⟩⟩)⟩⟩
theorem Qom {C0 : Nat → JB} {D0 : JB} (H0 : Cv1 C0 D0) (a0 : Int) : Cv (fun k => PE (C0 k) a0) (PE D0 a0) := by
  unfold PE
  exact .bind (H0 _) fun r1 => by exact .const _
def Xn.s : Nat → Int → Option Bool
  | 0, _ => none
  | k + 1, a0 => PE (Jo.s k) a0
theorem Xn.ok : ∀ (k : Nat), QiW (ev k) (Xn.s k)
  | 0, _, _, h => (nomatch h)
  | k + 1, a0, r, h => fn_ok rfl (Qeo pp (ev k) (Jo.s k) a0) (Qok _ _ a0) (Qol _ _ _ _ (Jo.ok k)  a0) h
noncomputable def Xn (a0 : Int) : Option Bool := PE Jo a0
theorem Xn.cv (a0 : Int) : Cv (fun k => Xn.s k a0) (Xn a0) := .un rfl (Qom Jo.cv a0)
theorem Xn.eq (a0 : Int) : Xn a0 = PE Jo a0 := rfl
def Qbr (r : ByteArray) : AV × Heap := (xs r, [])
abbrev Qbe := ByteArray → Option ByteArray
abbrev QfB (a0 : ByteArray) : List AV × Heap := ([xs a0, .fn (.func 267) [] []], [])
abbrev QiX (w : Cf) (a0 : ByteArray) : Option AH := w 266 (QfB a0).1 (QfB a0).2
abbrev QmI (w : Cf) (c : Qbe) : Prop := ∀ (a0 : ByteArray) (r : ByteArray), c a0 = some r → QiX w a0 = some (Qbr r)
structure Uw where
  x0 : ByteArray
  i0s : ByteArray
  i0p : Nat
def Pe (a : Uw) : St := { n := 21, nx := 1, env := [(0, xs a.x0), (1, .fn (.func 267) [] []), (8, .it 0)], heap := [(0, .iter a.i0s a.i0p)] }
def QhK (a : ByteArray) : Ex × St := (.ret, { n := 21, nx := 0, env := [(4, xs a)], heap := [] })
def QhL (a : ByteArray) : Ex × St := (.exit 0, { n := 21, nx := 0, env := [(0, xs a)], heap := [] })
def SL (a : (ByteArray ⊕ ByteArray)) : Ex × St := Sum.elim QhK QhL a
abbrev FG := Uw → Option (ByteArray ⊕ ByteArray)
abbrev QnF (P : Pg) (lp : Lo) (l : FG) : Prop := ∀ (a : Uw) (r : (ByteArray ⊕ ByteArray)), l a = some r → lp (loopAt P 266 2) (Pe a) = some (SL r)
def Ew (C0 : Zy) (a : Uw) : Option (Uw ⊕ (ByteArray ⊕ ByteArray)) := (bif (decide (a.i0p < a.i0s.size)) then ((C0 (((Utf8.decode a.i0s a.i0p).1 : Nat) : Int)).bind fun r1 => (bif (!r1) then (bif (decide (0 ≤ (0 : Int) ∧ (0 : Int) ≤ ((a.i0p : Nat) : Int) ∧ ((a.i0p : Nat) : Int) ≤ ((a.x0.size : Nat) : Int))) then (some (.inr (.inl (a.x0.extract (Int.toNat 0) (Int.toNat ((a.i0p : Nat) : Int)))))) else none) else (some (.inl (Uw.mk a.x0 a.i0s (a.i0p + (Utf8.decode a.i0s a.i0p).2)))))) else (some (.inr (.inr a.x0))))
def Qb5 (P : Pg) (w : Cf) (C0 : Zy) (a : Uw) : Tr (Uw ⊕ (ByteArray ⊕ ByteArray)) XS := (.as (decide (a.i0p < a.i0s.size)) (.yes true (.call (QkF w (((Utf8.decode a.i0s a.i0p).1 : Nat) : Int)) (C0 (((Utf8.decode a.i0s a.i0p).1 : Nat) : Int)) Qap fun r1 => (.as (!r1) (.as (in2 (zi 0) ((a.i0p : Nat) : Int) (zz a.x0)) (rx SL (.inl (cu a.x0 (zi 0) ((a.i0p : Nat) : Int)))) .fail) (lf Pe (Uw.mk a.x0 a.i0s (a.i0p + (Utf8.decode a.i0s a.i0p).2)))))) (.no false (rx SL (.inr a.x0))))
theorem QmJ (w : Cf) (C0 : Zy) (a : Uw) : (Qb5 pp w C0 a).norm (roundT pp G.kd w 0 (G.an 266) (loopAt pp 266 2) (Pe a)) = Qb5 pp w C0 a := by kernel_rfl
theorem QmK (P : Pg) (w : Cf) (lp : Lo) (C0 : Zy) (K0 : QiW w C0) (a : Uw) : (Qb5 P w C0 a).ok lp (Sum.elim (fun a => (.norm, Pe a)) SL) := ⟨rfl, fun hq0 => ⟨rfl, fun r1 hr1 => ⟨K0 _ _ hr1, ⟨rfl, fun hq1 => ⟨rfl, fun hq2 => rfl, fun hq2 => trivial⟩, fun hq1 => rfl⟩⟩⟩, fun hq0 => ⟨rfl, rfl⟩⟩
theorem QmL {C0 : Nat → Zy} {D0 : Zy} (H0 : Cv1 C0 D0) (a : Uw) : Cv (fun k => Ew (C0 k) a) (Ew D0 a) := by
  unfold Ew
  exact .cond (.bind (H0 _) fun r1 => by exact .const _) (by exact .const _)
def Wz.s (k : Nat) (C0 : Zy) : Uw → Option (ByteArray ⊕ ByteArray) := iter (Ew C0) k
theorem QlT (w : Cf) (k : Nat) (C0 : Zy) (K0 : QiW w C0) (a : Uw) (r : (ByteArray ⊕ ByteArray)) (h : Wz.s k C0 a = some r) : loopsF pp G.kd w 0 (G.an 266) k (loopAt pp 266 2) (Pe a) = some (SL r) :=
  loop_ok (fun a => Qb5 pp w C0 a) (fun _ => rfl) (fun a => QmJ w _ a) (fun a => QmK _ w _ _ K0 a) (fun r => by cases r <;> nofun) h
noncomputable def Wz.w (C0 : Zy) : Uw → Option (ByteArray ⊕ ByteArray) := loopW (Ew C0)
theorem Wz.cv (C0 : Nat → Zy) (D0 : Zy) (H0 : Cv1 C0 D0) (a : Uw) : Cv (fun k => Wz.s k (C0 k) a) (Wz.w D0 a) := Cv.iter (fun a => QmL H0 a) a
def SM (L0 : FG) (a0 : ByteArray) : Option ByteArray := ((L0 (Uw.mk a0 a0 0)).bind fun x => Sum.elim (fun (o1 : ByteArray) => (some o1)) (fun (o2 : ByteArray) => (some o2)) x)
def QfC (P : Pg) (w : Cf) (L0 : FG) (a0 : ByteArray) : Tr ByteArray AH := (.loop2 (loopAt P 266 2) (Pe (Uw.mk a0 a0 0)) (L0 (Uw.mk a0 a0 0)) QhK QhL (fun (o1 : ByteArray) => (rt Qbr o1)) (fun (o2 : ByteArray) => (rt Qbr o2)))
theorem QoZ (w : Cf) (L0 : FG) (a0 : ByteArray) : (QfC pp w L0 a0).norm (bodyT pp w G 266 (QfB a0).1 (QfB a0).2) = QfC pp w L0 a0 := by kernel_rfl
theorem Qo0 (P : Pg) (w : Cf) (lp : Lo) (L0 : FG) (N0 : QnF P lp L0) (a0 : ByteArray) : (QfC P w L0 a0).ok lp Qbr := ⟨fun o1 ho1 => ⟨N0 _ (.inl _) ho1, rfl⟩, fun o2 ho2 => ⟨N0 _ (.inr _) ho2, rfl⟩⟩
theorem Qo1 {L0 : Nat → FG} {M0 : FG} (N0 : Cv1 L0 M0) (a0 : ByteArray) : Cv (fun k => SM (L0 k) a0) (SM M0 a0) := by
  unfold SM
  exact .bind (N0 _) fun x => .sum (fun o1 => by exact .const _) (fun o2 => by exact .const _) x
def Zt.s : Nat → ByteArray → Option ByteArray
  | 0, _ => none
  | k + 1, a0 => SM (Wz.s k (Xn.s k)) a0
theorem Zt.ok : ∀ (k : Nat), QmI (ev k) (Zt.s k)
  | 0, _, _, h => (nomatch h)
  | k + 1, a0, r, h => fn_ok rfl (QfC pp (ev k) (Wz.s k (Xn.s k)) a0) (QoZ _ _ a0) (Qo0 _ _ _ _  (QlT _ k _ (Xn.ok k)) a0) h
noncomputable def Wz : Uw → Option (ByteArray ⊕ ByteArray) := Wz.w Xn
theorem Wz.eq (a : Uw) : Wz a = (Ew Xn a).bind (Sum.elim Wz some) := loopW_eq _ _
noncomputable def Zt (a0 : ByteArray) : Option ByteArray := SM Wz a0
theorem Zt.cv (a0 : ByteArray) : Cv (fun k => Zt.s k a0) (Zt a0) := .un rfl (Qo1 (Wz.cv (fun k => Xn.s k) Xn Xn.cv) a0)
theorem Zt.eq (a0 : ByteArray) : Zt a0 = SM Wz a0 := rfl
def W0 (r : (Qb × Qa)) : AV × Heap := (.agg (Q7 r.1), [(0, .box [] (Q0 r.2))])
abbrev Xo := ByteArray → Int → Qa → Option (Qb × Qa)
abbrev G7 (a1 : ByteArray) (a2 : Int) (h0 : Qa) : List AV × Heap := ([.ptr 0 0, xs a1, xi a2], [(0, .box [] (Q0 h0))])
abbrev G8 (w : Cf) (a1 : ByteArray) (a2 : Int) (h0 : Qa) : Option AH := w 269 (G7 a1 a2 h0).1 (G7 a1 a2 h0).2
abbrev QcH (w : Cf) (c : Xo) : Prop := ∀ (a1 : ByteArray) (a2 : Int) (h0 : Qa) (r : (Qb × Qa)), c a1 a2 h0 = some r → G8 w a1 a2 h0 = some (W0 r)
structure Qy where
  x1 : ByteArray
  x2 : Int
  x7 : Int
  h0 : Qa
  h1 : Qb
  i2s : ByteArray
  i2p : Nat
structure Q8 where
  h0 : Qa
  h1 : Qb
structure Js where
  x1 : ByteArray
  x7 : Int
  h0 : Qa
  h1 : Qb
def V9 (a : Qy) : St := { n := 46, nx := 3, env := [(0, .ptr 0 0), (1, xs a.x1), (2, xi a.x2), (6, .ptr 1 0), (7, xi a.x7), (12, .it 2)], heap := [(0, .box [] (Q0 a.h0)), (1, .box [] (Q7 a.h1)), (2, .iter a.i2s a.i2p)] }
def SN (a : Q8) : Ex × St := (.ret, { n := 46, nx := 2, env := [(6, .ptr 1 0)], heap := [(0, .box [] (Q0 a.h0)), (1, .box [] (Q7 a.h1))] })
def SO (a : Js) : Ex × St := (.exit 0, { n := 46, nx := 2, env := [(0, .ptr 0 0), (1, xs a.x1), (6, .ptr 1 0), (7, xi a.x7)], heap := [(0, .box [] (Q0 a.h0)), (1, .box [] (Q7 a.h1))] })
def WT (a : (Q8 ⊕ Js)) : Ex × St := Sum.elim SN SO a
abbrev Wk := Qy → Option (Q8 ⊕ Js)
abbrev Qgk (P : Pg) (lp : Lo) (l : Wk) : Prop := ∀ (a : Qy) (r : (Q8 ⊕ Js)), l a = some r → lp (loopAt P 269 3) (V9 a) = some (WT r)
def Wa (C0 : Qm) (a : Qy) : Option (Qy ⊕ (Q8 ⊕ Js)) := (bif (decide (a.i2p < a.i2s.size)) then (bif (decide ((((Utf8.decode a.i2s a.i2p).1 : Nat) : Int) ≥ 97)) then (bif (decide ((w64 ((w64 (a.x7 * a.x2)) + (w64 ((w64 (IntKind.i32.wrap ((((Utf8.decode a.i2s a.i2p).1 : Nat) : Int) - 97))) + 10)))) ≥ 4294967296)) then ((C0 a.h0).bind fun r1 => (some (.inr (.inl (Q8.mk r1.2 r1.1))))) else (some (.inl (Qy.mk a.x1 a.x2 (w64 ((w64 (a.x7 * a.x2)) + (w64 ((w64 (IntKind.i32.wrap ((((Utf8.decode a.i2s a.i2p).1 : Nat) : Int) - 97))) + 10)))) a.h0 a.h1 a.i2s (a.i2p + (Utf8.decode a.i2s a.i2p).2))))) else (bif (decide ((w64 ((w64 (a.x7 * a.x2)) + (w64 (IntKind.i32.wrap ((((Utf8.decode a.i2s a.i2p).1 : Nat) : Int) - 48))))) ≥ 4294967296)) then ((C0 a.h0).bind fun r2 => (some (.inr (.inl (Q8.mk r2.2 r2.1))))) else (some (.inl (Qy.mk a.x1 a.x2 (w64 ((w64 (a.x7 * a.x2)) + (w64 (IntKind.i32.wrap ((((Utf8.decode a.i2s a.i2p).1 : Nat) : Int) - 48))))) a.h0 a.h1 a.i2s (a.i2p + (Utf8.decode a.i2s a.i2p).2)))))) else (some (.inr (.inr (Js.mk a.x1 a.x7 a.h0 a.h1)))))
def ZF (P : Pg) (w : Cf) (C0 : Qm) (a : Qy) : Tr (Qy ⊕ (Q8 ⊕ Js)) XS := (.as (decide (a.i2p < a.i2s.size)) (.yes true (.as (decide ((((Utf8.decode a.i2s a.i2p).1 : Nat) : Int) ≥ 97)) (.as (decide ((w64 ((w64 (a.x7 * a.x2)) + (w64 ((w64 (IntKind.i32.wrap ((((Utf8.decode a.i2s a.i2p).1 : Nat) : Int) - 97))) + 10)))) ≥ 4294967296)) (.call (Wf w a.h0) (C0 a.h0) Vt fun r1 => (rx WT (.inl (Q8.mk r1.2 r1.1)))) (lf V9 (Qy.mk a.x1 a.x2 (w64 ((w64 (a.x7 * a.x2)) + (w64 ((w64 (IntKind.i32.wrap ((((Utf8.decode a.i2s a.i2p).1 : Nat) : Int) - 97))) + 10)))) a.h0 a.h1 a.i2s (a.i2p + (Utf8.decode a.i2s a.i2p).2)))) (.as (decide ((w64 ((w64 (a.x7 * a.x2)) + (w64 (IntKind.i32.wrap ((((Utf8.decode a.i2s a.i2p).1 : Nat) : Int) - 48))))) ≥ 4294967296)) (.call (Wf w a.h0) (C0 a.h0) Vt fun r2 => (rx WT (.inl (Q8.mk r2.2 r2.1)))) (lf V9 (Qy.mk a.x1 a.x2 (w64 ((w64 (a.x7 * a.x2)) + (w64 (IntKind.i32.wrap ((((Utf8.decode a.i2s a.i2p).1 : Nat) : Int) - 48))))) a.h0 a.h1 a.i2s (a.i2p + (Utf8.decode a.i2s a.i2p).2)))))) (.no false (rx WT (.inr (Js.mk a.x1 a.x7 a.h0 a.h1)))))
theorem Qfo (w : Cf) (C0 : Qm) (a : Qy) : (ZF pp w C0 a).norm (roundT pp G.kd w 1 (G.an 269) (loopAt pp 269 3) (V9 a)) = ZF pp w C0 a := by kernel_rfl
theorem Qfp (P : Pg) (w : Cf) (lp : Lo) (C0 : Qm) (K0 : Xh w C0) (a : Qy) : (ZF P w C0 a).ok lp (Sum.elim (fun a => (.norm, V9 a)) WT) := ⟨rfl, fun hq0 => ⟨rfl, ⟨rfl, fun hq1 => ⟨rfl, fun hq2 => fun r1 hr1 => ⟨K0 _ _ hr1, rfl⟩, fun hq2 => rfl⟩, fun hq1 => ⟨rfl, fun hq2 => fun r2 hr2 => ⟨K0 _ _ hr2, rfl⟩, fun hq2 => rfl⟩⟩⟩, fun hq0 => ⟨rfl, rfl⟩⟩
theorem Qfq {C0 : Nat → Qm} {D0 : Qm} (H0 : Cv1 C0 D0) (a : Qy) : Cv (fun k => Wa (C0 k) a) (Wa D0 a) := by
  unfold Wa
  exact .cond (.cond (.cond (.bind (H0 _) fun r1 => by exact .const _) (by exact .const _)) (.cond (.bind (H0 _) fun r2 => by exact .const _) (by exact .const _))) (by exact .const _)
def Jt.s (k : Nat) (C0 : Qm) : Qy → Option (Q8 ⊕ Js) := iter (Wa C0) k
theorem Qfd (w : Cf) (k : Nat) (C0 : Qm) (K0 : Xh w C0) (a : Qy) (r : (Q8 ⊕ Js)) (h : Jt.s k C0 a = some r) : loopsF pp G.kd w 1 (G.an 269) k (loopAt pp 269 3) (V9 a) = some (WT r) :=
  loop_ok (fun a => ZF pp w C0 a) (fun _ => rfl) (fun a => Qfo w _ a) (fun a => Qfp _ w _ _ K0 a) (fun r => by cases r <;> nofun) h
noncomputable def Jt.w (C0 : Qm) : Qy → Option (Q8 ⊕ Js) := loopW (Wa C0)
theorem Jt.cv (C0 : Nat → Qm) (D0 : Qm) (H0 : Cv1 C0 D0) (a : Qy) : Cv (fun k => Jt.s k (C0 k) a) (Jt.w D0 a) := Cv.iter (fun a => Qfq H0 a) a
def W1 (L0 : Wk) (a1 : ByteArray) (a2 : Int) (h0 : Qa) : Option (Qb × Qa) := ((L0 (Qy.mk a1 a2 (0 : Int) h0 (Qb.mk (0 : Int) (0 : Int) s_ ([] : List Qb)) a1 0)).bind fun x => Sum.elim (fun (o1 : Q8) => (some (o1.h1, o1.h0))) (fun (o2 : Js) => (bif (decide (0 ≤ ((o2.x1.size : Nat) : Int) ∧ ((o2.x1.size : Nat) : Int) ≤ ((o2.h0.left.size : Nat) : Int) ∧ ((o2.h0.left.size : Nat) : Int) ≤ ((o2.h0.left.size : Nat) : Int))) then (some ((Qb.mk (1 : Int) o2.x7 s_ ([] : List Qb)), (Qa.mk (o2.h0.left.extract (Int.toNat ((o2.x1.size : Nat) : Int)) (Int.toNat ((o2.h0.left.size : Nat) : Int))) o2.h0.deep o2.h0.bad))) else none)) x)
def G9 (P : Pg) (w : Cf) (L0 : Wk) (a1 : ByteArray) (a2 : Int) (h0 : Qa) : Tr (Qb × Qa) AH := (.loop2 (loopAt P 269 3) (V9 (Qy.mk a1 a2 (zi 0) h0 (Qb.mk (zi 0) (zi 0) s_ ([] : List Qb)) a1 0)) (L0 (Qy.mk a1 a2 (zi 0) h0 (Qb.mk (zi 0) (zi 0) s_ ([] : List Qb)) a1 0)) SN SO (fun (o1 : Q8) => (rt W0 (o1.h1, o1.h0))) (fun (o2 : Js) => (.as (in2 (zz o2.x1) (zz o2.h0.left) (zz o2.h0.left)) (rt W0 ((Qb.mk (zi 1) o2.x7 s_ ([] : List Qb)), (Qa.mk (cu o2.h0.left (zz o2.x1) (zz o2.h0.left)) o2.h0.deep o2.h0.bad))) .fail)))
theorem Qhn (w : Cf) (L0 : Wk) (a1 : ByteArray) (a2 : Int) (h0 : Qa) : (G9 pp w L0 a1 a2 h0).norm (bodyT pp w G 269 (G7 a1 a2 h0).1 (G7 a1 a2 h0).2) = G9 pp w L0 a1 a2 h0 := by kernel_rfl
theorem Qho (P : Pg) (w : Cf) (lp : Lo) (L0 : Wk) (N0 : Qgk P lp L0) (a1 : ByteArray) (a2 : Int) (h0 : Qa) : (G9 P w L0 a1 a2 h0).ok lp W0 := ⟨fun o1 ho1 => ⟨N0 _ (.inl _) ho1, rfl⟩, fun o2 ho2 => ⟨N0 _ (.inr _) ho2, ⟨rfl, fun hq0 => rfl, fun hq0 => trivial⟩⟩⟩
theorem Qhp {L0 : Nat → Wk} {M0 : Wk} (N0 : Cv1 L0 M0) (a1 : ByteArray) (a2 : Int) (h0 : Qa) : Cv (fun k => W1 (L0 k) a1 a2 h0) (W1 M0 a1 a2 h0) := by
  unfold W1
  exact .bind (N0 _) fun x => .sum (fun o1 => by exact .const _) (fun o2 => by exact .const _) x
def JA.s : Nat → ByteArray → Int → Qa → Option (Qb × Qa)
  | 0, _, _, _ => none
  | k + 1, a1, a2, h0 => W1 (Jt.s k (Qk.s k)) a1 a2 h0
theorem JA.ok : ∀ (k : Nat), QcH (ev k) (JA.s k)
  | 0, _, _, _, _, h => (nomatch h)
  | k + 1, a1, a2, h0, r, h => fn_ok rfl (G9 pp (ev k) (Jt.s k (Qk.s k)) a1 a2 h0) (Qhn _ _ a1 a2 h0) (Qho _ _ _ _  (Qfd _ k _ (Qk.ok k)) a1 a2 h0) h
noncomputable def Jt : Qy → Option (Q8 ⊕ Js) := Jt.w Qk
theorem Jt.eq (a : Qy) : Jt a = (Wa Qk a).bind (Sum.elim Jt some) := loopW_eq _ _
noncomputable def JA (a1 : ByteArray) (a2 : Int) (h0 : Qa) : Option (Qb × Qa) := W1 Jt a1 a2 h0
theorem JA.cv (a1 : ByteArray) (a2 : Int) (h0 : Qa) : Cv (fun k => JA.s k a1 a2 h0) (JA a1 a2 h0) := .un rfl (Qhp (Jt.cv (fun k => Qk.s k) Qk Qk.cv) a1 a2 h0)
theorem JA.eq (a1 : ByteArray) (a2 : Int) (h0 : Qa) : JA a1 a2 h0 = W1 Jt a1 a2 h0 := rfl
def Pf (r : Bool) : AV × Heap := (xo r, [])
abbrev FH := Int → Option Bool
abbrev Qb6 (a0 : Int) : List AV × Heap := ([.sc (.int .i32 a0)], [])
abbrev QiY (w : Cf) (a0 : Int) : Option AH := w 285 (Qb6 a0).1 (Qb6 a0).2
abbrev QjQ (w : Cf) (c : FH) : Prop := ∀ (a0 : Int) (r : Bool), c a0 = some r → QiY w a0 = some (Pf r)
def Qb7  (a0 : Int) : Option Bool := (bif (decide (a0 ≥ 97)) then (bif (decide (a0 ≤ (122 : Int))) then (some true) else (some (a0 == 95))) else (some (a0 == 95)))
def Qb8 (P : Pg) (w : Cf)  (a0 : Int) : Tr Bool AH := (let u51 := (decide (a0 ≥ 97)); .as u51 (yesN 2 u51 (let u50 := (decide (a0 ≤ (zi 122))); .as u50 (yesN 2 u50 (rt Pf true)) (noN 2 u50 (rt Pf (a0 == 95))))) (noN 2 u51 (noN 3 false (rt Pf (a0 == 95)))))
theorem QmM (w : Cf)  (a0 : Int) : (Qb8 pp w  a0).norm (bodyT pp w G 285 (Qb6 a0).1 (Qb6 a0).2) = Qb8 pp w  a0 := by kernel_rfl
theorem QmN (P : Pg) (w : Cf) (lp : Lo)   (a0 : Int) : (Qb8 P w  a0).ok lp Pf := ⟨rfl, fun hq0 => yesN_ok 2 (hq0) (⟨rfl, fun hq1 => yesN_ok 2 (hq1) (rfl), fun hq1 => noN_ok 2 (hq1) (rfl)⟩), fun hq0 => noN_ok 2 (hq0) (noN_ok 3 (rfl) (rfl))⟩
def WA.s : Nat → Int → Option Bool
  | 0, _ => none
  | k + 1, a0 => Qb7  a0
theorem WA.ok : ∀ (k : Nat), QjQ (ev k) (WA.s k)
  | 0, _, _, h => (nomatch h)
  | k + 1, a0, r, h => fn_ok rfl (Qb8 pp (ev k)  a0) (QmM _  a0) (QmN _ _ _    a0) h
noncomputable def WA (a0 : Int) : Option Bool := Qb7  a0
theorem WA.cv (a0 : Int) : Cv (fun k => WA.s k a0) (WA a0) := .un rfl (by exact .const _)
theorem WA.eq (a0 : Int) : WA a0 = Qb7  a0 := rfl
def SP (r : Bool) : AV × Heap := (xo r, [])
abbrev X4 := Int → Option Bool
abbrev Qb9 (a0 : Int) : List AV × Heap := ([.sc (.int .i32 a0)], [])
abbrev QiZ (w : Cf) (a0 : Int) : Option AH := w 271 (Qb9 a0).1 (Qb9 a0).2
abbrev Qgl (w : Cf) (c : X4) : Prop := ∀ (a0 : Int) (r : Bool), c a0 = some r → QiZ w a0 = some (SP r)
def Ey (C0 : FH) (C1 : JB) (a0 : Int) : Option Bool := ((C0 a0).bind fun r1 => (bif r1 then (some true) else ((C1 a0).bind fun r2 => (some r2))))
def Qca (P : Pg) (w : Cf) (C0 : FH) (C1 : JB) (a0 : Int) : Tr Bool AH := (.call (QiY w a0) (C0 a0) Pf fun r1 => (.as r1 (yesN 2 r1 (rt SP true)) (.no r1 (.call (SK w a0) (C1 a0) Gt fun r2 => (.no r1 (rt SP r2))))))
theorem QmO (w : Cf) (C0 : FH) (C1 : JB) (a0 : Int) : (Qca pp w C0 C1 a0).norm (bodyT pp w G 271 (Qb9 a0).1 (Qb9 a0).2) = Qca pp w C0 C1 a0 := by kernel_rfl
theorem QmP (P : Pg) (w : Cf) (lp : Lo) (C0 : FH) (C1 : JB) (K0 : QjQ w C0) (K1 : Sc w C1) (a0 : Int) : (Qca P w C0 C1 a0).ok lp SP := fun r1 hr1 => ⟨K0 _ _ hr1, ⟨rfl, fun hq0 => yesN_ok 2 (hq0) (rfl), fun hq0 => ⟨hq0, fun r2 hr2 => ⟨K1 _ _ hr2, ⟨hq0, rfl⟩⟩⟩⟩⟩
theorem QmQ {C0 : Nat → FH} {D0 : FH} (H0 : Cv1 C0 D0) {C1 : Nat → JB} {D1 : JB} (H1 : Cv1 C1 D1) (a0 : Int) : Cv (fun k => Ey (C0 k) (C1 k) a0) (Ey D0 D1 a0) := by
  unfold Ey
  exact .bind (H0 _) fun r1 => .cond (by exact .const _) (.bind (H1 _) fun r2 => by exact .const _)
def VY.s : Nat → Int → Option Bool
  | 0, _ => none
  | k + 1, a0 => Ey (WA.s k) (Jo.s k) a0
theorem VY.ok : ∀ (k : Nat), Qgl (ev k) (VY.s k)
  | 0, _, _, h => (nomatch h)
  | k + 1, a0, r, h => fn_ok rfl (Qca pp (ev k) (WA.s k) (Jo.s k) a0) (QmO _ _ _ a0) (QmP _ _ _ _ _ (WA.ok k) (Jo.ok k)  a0) h
noncomputable def VY (a0 : Int) : Option Bool := Ey WA Jo a0
theorem VY.cv (a0 : Int) : Cv (fun k => VY.s k a0) (VY a0) := .un rfl (QmQ WA.cv Jo.cv a0)
theorem VY.eq (a0 : Int) : VY a0 = Ey WA Jo a0 := rfl
def Eh (r : ByteArray) : AV × Heap := (xs r, [])
abbrev VI := ByteArray → Option ByteArray
abbrev Qdh (a0 : ByteArray) : List AV × Heap := ([xs a0, .fn (.func 271) [] []], [])
abbrev QaO (w : Cf) (a0 : ByteArray) : Option AH := w 266 (Qdh a0).1 (Qdh a0).2
abbrev Qep (w : Cf) (c : VI) : Prop := ∀ (a0 : ByteArray) (r : ByteArray), c a0 = some r → QaO w a0 = some (Eh r)
structure J9 where
  x0 : ByteArray
  i0s : ByteArray
  i0p : Nat
def Eo (a : J9) : St := { n := 21, nx := 1, env := [(0, xs a.x0), (1, .fn (.func 271) [] []), (8, .it 0)], heap := [(0, .iter a.i0s a.i0p)] }
def QfD (a : ByteArray) : Ex × St := (.ret, { n := 21, nx := 0, env := [(4, xs a)], heap := [] })
def QfE (a : ByteArray) : Ex × St := (.exit 0, { n := 21, nx := 0, env := [(0, xs a)], heap := [] })
def Ph (a : (ByteArray ⊕ ByteArray)) : Ex × St := Sum.elim QfD QfE a
abbrev GM := J9 → Option (ByteArray ⊕ ByteArray)
abbrev QlU (P : Pg) (lp : Lo) (l : GM) : Prop := ∀ (a : J9) (r : (ByteArray ⊕ ByteArray)), l a = some r → lp (loopAt P 266 2) (Eo a) = some (Ph r)
def ZU (C0 : X4) (a : J9) : Option (J9 ⊕ (ByteArray ⊕ ByteArray)) := (bif (decide (a.i0p < a.i0s.size)) then ((C0 (((Utf8.decode a.i0s a.i0p).1 : Nat) : Int)).bind fun r1 => (bif (!r1) then (bif (decide (0 ≤ (0 : Int) ∧ (0 : Int) ≤ ((a.i0p : Nat) : Int) ∧ ((a.i0p : Nat) : Int) ≤ ((a.x0.size : Nat) : Int))) then (some (.inr (.inl (a.x0.extract (Int.toNat 0) (Int.toNat ((a.i0p : Nat) : Int)))))) else none) else (some (.inl (J9.mk a.x0 a.i0s (a.i0p + (Utf8.decode a.i0s a.i0p).2)))))) else (some (.inr (.inr a.x0))))
def Qaq (P : Pg) (w : Cf) (C0 : X4) (a : J9) : Tr (J9 ⊕ (ByteArray ⊕ ByteArray)) XS := (.as (decide (a.i0p < a.i0s.size)) (.yes true (.call (QiZ w (((Utf8.decode a.i0s a.i0p).1 : Nat) : Int)) (C0 (((Utf8.decode a.i0s a.i0p).1 : Nat) : Int)) SP fun r1 => (.as (!r1) (.as (in2 (zi 0) ((a.i0p : Nat) : Int) (zz a.x0)) (rx Ph (.inl (cu a.x0 (zi 0) ((a.i0p : Nat) : Int)))) .fail) (lf Eo (J9.mk a.x0 a.i0s (a.i0p + (Utf8.decode a.i0s a.i0p).2)))))) (.no false (rx Ph (.inr a.x0))))
theorem Qle (w : Cf) (C0 : X4) (a : J9) : (Qaq pp w C0 a).norm (roundT pp G.kd w 0 (G.an 266) (loopAt pp 266 2) (Eo a)) = Qaq pp w C0 a := by kernel_rfl
theorem Qlf (P : Pg) (w : Cf) (lp : Lo) (C0 : X4) (K0 : Qgl w C0) (a : J9) : (Qaq P w C0 a).ok lp (Sum.elim (fun a => (.norm, Eo a)) Ph) := ⟨rfl, fun hq0 => ⟨rfl, fun r1 hr1 => ⟨K0 _ _ hr1, ⟨rfl, fun hq1 => ⟨rfl, fun hq2 => rfl, fun hq2 => trivial⟩, fun hq1 => rfl⟩⟩⟩, fun hq0 => ⟨rfl, rfl⟩⟩
theorem Qlg {C0 : Nat → X4} {D0 : X4} (H0 : Cv1 C0 D0) (a : J9) : Cv (fun k => ZU (C0 k) a) (ZU D0 a) := by
  unfold ZU
  exact .cond (.bind (H0 _) fun r1 => by exact .const _) (by exact .const _)
def VE.s (k : Nat) (C0 : X4) : J9 → Option (ByteArray ⊕ ByteArray) := iter (ZU C0) k
theorem QkG (w : Cf) (k : Nat) (C0 : X4) (K0 : Qgl w C0) (a : J9) (r : (ByteArray ⊕ ByteArray)) (h : VE.s k C0 a = some r) : loopsF pp G.kd w 0 (G.an 266) k (loopAt pp 266 2) (Eo a) = some (Ph r) :=
  loop_ok (fun a => Qaq pp w C0 a) (fun _ => rfl) (fun a => Qle w _ a) (fun a => Qlf _ w _ _ K0 a) (fun r => by cases r <;> nofun) h
noncomputable def VE.w (C0 : X4) : J9 → Option (ByteArray ⊕ ByteArray) := loopW (ZU C0)
theorem VE.cv (C0 : Nat → X4) (D0 : X4) (H0 : Cv1 C0 D0) (a : J9) : Cv (fun k => VE.s k (C0 k) a) (VE.w D0 a) := Cv.iter (fun a => Qlg H0 a) a
def FJ (L0 : GM) (a0 : ByteArray) : Option ByteArray := ((L0 (J9.mk a0 a0 0)).bind fun x => Sum.elim (fun (o1 : ByteArray) => (some o1)) (fun (o2 : ByteArray) => (some o2)) x)
def Qdi (P : Pg) (w : Cf) (L0 : GM) (a0 : ByteArray) : Tr ByteArray AH := (.loop2 (loopAt P 266 2) (Eo (J9.mk a0 a0 0)) (L0 (J9.mk a0 a0 0)) QfD QfE (fun (o1 : ByteArray) => (rt Eh o1)) (fun (o2 : ByteArray) => (rt Eh o2)))
theorem QnG (w : Cf) (L0 : GM) (a0 : ByteArray) : (Qdi pp w L0 a0).norm (bodyT pp w G 266 (Qdh a0).1 (Qdh a0).2) = Qdi pp w L0 a0 := by kernel_rfl
theorem QnH (P : Pg) (w : Cf) (lp : Lo) (L0 : GM) (N0 : QlU P lp L0) (a0 : ByteArray) : (Qdi P w L0 a0).ok lp Eh := ⟨fun o1 ho1 => ⟨N0 _ (.inl _) ho1, rfl⟩, fun o2 ho2 => ⟨N0 _ (.inr _) ho2, rfl⟩⟩
theorem QnI {L0 : Nat → GM} {M0 : GM} (N0 : Cv1 L0 M0) (a0 : ByteArray) : Cv (fun k => FJ (L0 k) a0) (FJ M0 a0) := by
  unfold FJ
  exact .bind (N0 _) fun x => .sum (fun o1 => by exact .const _) (fun o2 => by exact .const _) x
def UA.s : Nat → ByteArray → Option ByteArray
  | 0, _ => none
  | k + 1, a0 => FJ (VE.s k (VY.s k)) a0
theorem UA.ok : ∀ (k : Nat), Qep (ev k) (UA.s k)
  | 0, _, _, h => (nomatch h)
  | k + 1, a0, r, h => fn_ok rfl (Qdi pp (ev k) (VE.s k (VY.s k)) a0) (QnG _ _ a0) (QnH _ _ _ _  (QkG _ k _ (VY.ok k)) a0) h
noncomputable def VE : J9 → Option (ByteArray ⊕ ByteArray) := VE.w VY
theorem VE.eq (a : J9) : VE a = (ZU VY a).bind (Sum.elim VE some) := loopW_eq _ _
noncomputable def UA (a0 : ByteArray) : Option ByteArray := FJ VE a0
theorem UA.cv (a0 : ByteArray) : Cv (fun k => UA.s k a0) (UA a0) := .un rfl (QnI (VE.cv (fun k => VY.s k) VY VY.cv) a0)
theorem UA.eq (a0 : ByteArray) : UA a0 = FJ VE a0 := rfl
def Xp (r : (Qb × Qa)) : AV × Heap := (.agg (Q7 r.1), [(0, .box [] (Q0 r.2))])
abbrev XK := Qb → Qa → Option (Qb × Qa)
abbrev EQ (a1 : Qb) (h0 : Qa) : List AV × Heap := ([.ptr 0 0, .agg (Q7 a1)], [(0, .box [] (Q0 h0))])
abbrev ER (w : Cf) (a1 : Qb) (h0 : Qa) : Option AH := w 268 (EQ a1 h0).1 (EQ a1 h0).2
abbrev QdR (w : Cf) (c : XK) : Prop := ∀ (a1 : Qb) (h0 : Qa) (r : (Qb × Qa)), c a1 h0 = some r → ER w a1 h0 = some (Xp r)
def Xq (C0 : VI) (C1 : Qm) (a1 : Qb) (h0 : Qa) : Option (Qb × Qa) := ((C0 h0.left).bind fun r1 => (bif (!(eqS r1 s_)) then ((C1 h0).bind fun r2 => (some (r2.1, r2.2))) else (some (a1, h0))))
def ES (P : Pg) (w : Cf) (C0 : VI) (C1 : Qm) (a1 : Qb) (h0 : Qa) : Tr (Qb × Qa) AH := (.call (QaO w h0.left) (C0 h0.left) Eh fun r1 => (.as (!(eqS r1 s_)) (.call (Wf w h0) (C1 h0) Vt fun r2 => (rt Xp (r2.1, r2.2))) (rt Xp (a1, h0))))
theorem Qh5 (w : Cf) (C0 : VI) (C1 : Qm) (a1 : Qb) (h0 : Qa) : (ES pp w C0 C1 a1 h0).norm (bodyT pp w G 268 (EQ a1 h0).1 (EQ a1 h0).2) = ES pp w C0 C1 a1 h0 := by kernel_rfl
theorem Qh6 (P : Pg) (w : Cf) (lp : Lo) (C0 : VI) (C1 : Qm) (K0 : Qep w C0) (K1 : Xh w C1) (a1 : Qb) (h0 : Qa) : (ES P w C0 C1 a1 h0).ok lp Xp := fun r1 hr1 => ⟨K0 _ _ hr1, ⟨rfl, fun hq0 => fun r2 hr2 => ⟨K1 _ _ hr2, rfl⟩, fun hq0 => rfl⟩⟩
theorem Qh7 {C0 : Nat → VI} {D0 : VI} (H0 : Cv1 C0 D0) {C1 : Nat → Qm} {D1 : Qm} (H1 : Cv1 C1 D1) (a1 : Qb) (h0 : Qa) : Cv (fun k => Xq (C0 k) (C1 k) a1 h0) (Xq D0 D1 a1 h0) := by
  unfold Xq
  exact .bind (H0 _) fun r1 => .cond (.bind (H1 _) fun r2 => by exact .const _) (by exact .const _)
def JT.s : Nat → Qb → Qa → Option (Qb × Qa)
  | 0, _, _ => none
  | k + 1, a1, h0 => Xq (UA.s k) (Qk.s k) a1 h0
theorem JT.ok : ∀ (k : Nat), QdR (ev k) (JT.s k)
  | 0, _, _, _, h => (nomatch h)
  | k + 1, a1, h0, r, h => fn_ok rfl (ES pp (ev k) (UA.s k) (Qk.s k) a1 h0) (Qh5 _ _ _ a1 h0) (Qh6 _ _ _ _ _ (UA.ok k) (Qk.ok k)  a1 h0) h
noncomputable def JT (a1 : Qb) (h0 : Qa) : Option (Qb × Qa) := Xq UA Qk a1 h0
theorem JT.cv (a1 : Qb) (h0 : Qa) : Cv (fun k => JT.s k a1 h0) (JT a1 h0) := .un rfl (Qh7 UA.cv Qk.cv a1 h0)
theorem JT.eq (a1 : Qb) (h0 : Qa) : JT a1 h0 = Xq UA Qk a1 h0 := rfl
def FK (r : ByteArray) : AV × Heap := (xs r, [])
abbrev Yc := ByteArray → Option ByteArray
abbrev Qdj (a0 : ByteArray) : List AV × Heap := ([xs a0, .fn (.func 270) [] []], [])
abbrev Qdk (w : Cf) (a0 : ByteArray) : Option AH := w 266 (Qdj a0).1 (Qdj a0).2
abbrev Qhq (w : Cf) (c : Yc) : Prop := ∀ (a0 : ByteArray) (r : ByteArray), c a0 = some r → Qdk w a0 = some (FK r)
structure Ua where
  x0 : ByteArray
  i0s : ByteArray
  i0p : Nat
def Ep (a : Ua) : St := { n := 21, nx := 1, env := [(0, xs a.x0), (1, .fn (.func 270) [] []), (8, .it 0)], heap := [(0, .iter a.i0s a.i0p)] }
def QfF (a : ByteArray) : Ex × St := (.ret, { n := 21, nx := 0, env := [(4, xs a)], heap := [] })
def QfG (a : ByteArray) : Ex × St := (.exit 0, { n := 21, nx := 0, env := [(0, xs a)], heap := [] })
def Pi (a : (ByteArray ⊕ ByteArray)) : Ex × St := Sum.elim QfF QfG a
abbrev GN := Ua → Option (ByteArray ⊕ ByteArray)
abbrev QlV (P : Pg) (lp : Lo) (l : GN) : Prop := ∀ (a : Ua) (r : (ByteArray ⊕ ByteArray)), l a = some r → lp (loopAt P 266 2) (Ep a) = some (Pi r)
def ZV (C0 : JB) (a : Ua) : Option (Ua ⊕ (ByteArray ⊕ ByteArray)) := (bif (decide (a.i0p < a.i0s.size)) then ((C0 (((Utf8.decode a.i0s a.i0p).1 : Nat) : Int)).bind fun r1 => (bif (!r1) then (bif (decide (0 ≤ (0 : Int) ∧ (0 : Int) ≤ ((a.i0p : Nat) : Int) ∧ ((a.i0p : Nat) : Int) ≤ ((a.x0.size : Nat) : Int))) then (some (.inr (.inl (a.x0.extract (Int.toNat 0) (Int.toNat ((a.i0p : Nat) : Int)))))) else none) else (some (.inl (Ua.mk a.x0 a.i0s (a.i0p + (Utf8.decode a.i0s a.i0p).2)))))) else (some (.inr (.inr a.x0))))
def Qar (P : Pg) (w : Cf) (C0 : JB) (a : Ua) : Tr (Ua ⊕ (ByteArray ⊕ ByteArray)) XS := (.as (decide (a.i0p < a.i0s.size)) (.yes true (.call (SK w (((Utf8.decode a.i0s a.i0p).1 : Nat) : Int)) (C0 (((Utf8.decode a.i0s a.i0p).1 : Nat) : Int)) Gt fun r1 => (.as (!r1) (.as (in2 (zi 0) ((a.i0p : Nat) : Int) (zz a.x0)) (rx Pi (.inl (cu a.x0 (zi 0) ((a.i0p : Nat) : Int)))) .fail) (lf Ep (Ua.mk a.x0 a.i0s (a.i0p + (Utf8.decode a.i0s a.i0p).2)))))) (.no false (rx Pi (.inr a.x0))))
theorem Qlh (w : Cf) (C0 : JB) (a : Ua) : (Qar pp w C0 a).norm (roundT pp G.kd w 0 (G.an 266) (loopAt pp 266 2) (Ep a)) = Qar pp w C0 a := by kernel_rfl
theorem Qli (P : Pg) (w : Cf) (lp : Lo) (C0 : JB) (K0 : Sc w C0) (a : Ua) : (Qar P w C0 a).ok lp (Sum.elim (fun a => (.norm, Ep a)) Pi) := ⟨rfl, fun hq0 => ⟨rfl, fun r1 hr1 => ⟨K0 _ _ hr1, ⟨rfl, fun hq1 => ⟨rfl, fun hq2 => rfl, fun hq2 => trivial⟩, fun hq1 => rfl⟩⟩⟩, fun hq0 => ⟨rfl, rfl⟩⟩
theorem Qlj {C0 : Nat → JB} {D0 : JB} (H0 : Cv1 C0 D0) (a : Ua) : Cv (fun k => ZV (C0 k) a) (ZV D0 a) := by
  unfold ZV
  exact .cond (.bind (H0 _) fun r1 => by exact .const _) (by exact .const _)
def VF.s (k : Nat) (C0 : JB) : Ua → Option (ByteArray ⊕ ByteArray) := iter (ZV C0) k
theorem QkH (w : Cf) (k : Nat) (C0 : JB) (K0 : Sc w C0) (a : Ua) (r : (ByteArray ⊕ ByteArray)) (h : VF.s k C0 a = some r) : loopsF pp G.kd w 0 (G.an 266) k (loopAt pp 266 2) (Ep a) = some (Pi r) :=
  loop_ok (fun a => Qar pp w C0 a) (fun _ => rfl) (fun a => Qlh w _ a) (fun a => Qli _ w _ _ K0 a) (fun r => by cases r <;> nofun) h
noncomputable def VF.w (C0 : JB) : Ua → Option (ByteArray ⊕ ByteArray) := loopW (ZV C0)
theorem VF.cv (C0 : Nat → JB) (D0 : JB) (H0 : Cv1 C0 D0) (a : Ua) : Cv (fun k => VF.s k (C0 k) a) (VF.w D0 a) := Cv.iter (fun a => Qlj H0 a) a
def FL (L0 : GN) (a0 : ByteArray) : Option ByteArray := ((L0 (Ua.mk a0 a0 0)).bind fun x => Sum.elim (fun (o1 : ByteArray) => (some o1)) (fun (o2 : ByteArray) => (some o2)) x)
def Qdl (P : Pg) (w : Cf) (L0 : GN) (a0 : ByteArray) : Tr ByteArray AH := (.loop2 (loopAt P 266 2) (Ep (Ua.mk a0 a0 0)) (L0 (Ua.mk a0 a0 0)) QfF QfG (fun (o1 : ByteArray) => (rt FK o1)) (fun (o2 : ByteArray) => (rt FK o2)))
theorem QnJ (w : Cf) (L0 : GN) (a0 : ByteArray) : (Qdl pp w L0 a0).norm (bodyT pp w G 266 (Qdj a0).1 (Qdj a0).2) = Qdl pp w L0 a0 := by kernel_rfl
theorem QnK (P : Pg) (w : Cf) (lp : Lo) (L0 : GN) (N0 : QlV P lp L0) (a0 : ByteArray) : (Qdl P w L0 a0).ok lp FK := ⟨fun o1 ho1 => ⟨N0 _ (.inl _) ho1, rfl⟩, fun o2 ho2 => ⟨N0 _ (.inr _) ho2, rfl⟩⟩
theorem QnL {L0 : Nat → GN} {M0 : GN} (N0 : Cv1 L0 M0) (a0 : ByteArray) : Cv (fun k => FL (L0 k) a0) (FL M0 a0) := by
  unfold FL
  exact .bind (N0 _) fun x => .sum (fun o1 => by exact .const _) (fun o2 => by exact .const _) x
def VD.s : Nat → ByteArray → Option ByteArray
  | 0, _ => none
  | k + 1, a0 => FL (VF.s k (Jo.s k)) a0
theorem VD.ok : ∀ (k : Nat), Qhq (ev k) (VD.s k)
  | 0, _, _, h => (nomatch h)
  | k + 1, a0, r, h => fn_ok rfl (Qdl pp (ev k) (VF.s k (Jo.s k)) a0) (QnJ _ _ a0) (QnK _ _ _ _  (QkH _ k _ (Jo.ok k)) a0) h
noncomputable def VF : Ua → Option (ByteArray ⊕ ByteArray) := VF.w Jo
theorem VF.eq (a : Ua) : VF a = (ZV Jo a).bind (Sum.elim VF some) := loopW_eq _ _
noncomputable def VD (a0 : ByteArray) : Option ByteArray := FL VF a0
theorem VD.cv (a0 : ByteArray) : Cv (fun k => VD.s k a0) (VD a0) := .un rfl (QnL (VF.cv (fun k => Jo.s k) Jo Jo.cv) a0)
theorem VD.eq (a0 : ByteArray) : VD a0 = FL VF a0 := rfl
def YC (r : Bool) : AV × Heap := (xo r, [])
abbrev PF := ByteArray → Option Bool
abbrev Qdm (a0 : ByteArray) : List AV × Heap := ([xs a0], [])
abbrev Qgm (w : Cf) (a0 : ByteArray) : Option AH := w 272 (Qdm a0).1 (Qdm a0).2
abbrev QkI (w : Cf) (c : PF) : Prop := ∀ (a0 : ByteArray) (r : Bool), c a0 = some r → Qgm w a0 = some (YC r)
def FM (C0 : JB) (C1 : VI) (C2 : Yc) (a0 : ByteArray) : Option Bool := (bif (eqS a0 s_) then (some false) else (bif (decide (((a0.size : Nat) : Int) > 12)) then (some false) else (bif (decide (0 ≤ (0 : Int) ∧ (0 : Int) < ((a0.size : Nat) : Int))) then ((C0 (IntKind.i32.wrap ((a0.data.getD (Int.toNat 0) 0).toNat : Int))).bind fun r1 => (bif r1 then (some false) else ((C1 a0).bind fun r2 => (bif (!(eqS r2 a0)) then (some false) else (bif (((a0.data.getD (Int.toNat 0) 0).toNat : Int) != 114) then (some true) else (bif (((a0.size : Nat) : Int) == 1) then (some true) else (bif (decide (0 ≤ (1 : Int) ∧ (1 : Int) ≤ ((a0.size : Nat) : Int) ∧ ((a0.size : Nat) : Int) ≤ ((a0.size : Nat) : Int))) then ((C2 (a0.extract (Int.toNat 1) (Int.toNat ((a0.size : Nat) : Int)))).bind fun r3 => (some (!(eqS r3 (a0.extract (Int.toNat 1) (Int.toNat ((a0.size : Nat) : Int))))))) else none))))))) else none)))
def Qdn (P : Pg) (w : Cf) (C0 : JB) (C1 : VI) (C2 : Yc) (a0 : ByteArray) : Tr Bool AH := (let u57 := (eqS a0 s_); .as u57 (yesN 3 u57 (yesN 11 true (rt YC false))) (noN 3 u57 (let u56 := (decide ((zz a0) > 12)); .as u56 (yesN 4 u56 (yesN 6 true (rt YC false))) (.no u56 (let u55 := (in1 (zi 0) (zz a0)); .as u55 (noN 2 u56 (.call (SK w (IntKind.i32.wrap (gb a0 (zi 0)))) (C0 (IntKind.i32.wrap (gb a0 (zi 0)))) Gt fun r1 => (.no u56 (.as r1 (yesN 4 r1 (.yes true (rt YC false))) (.no r1 (.call (QaO w a0) (C1 a0) Eh fun r2 => (noN 3 r1 (.as (!(eqS r2 a0)) (rt YC false) (.yes u55 (let u54 := ((gb a0 (zi 0)) != 114); .as u54 (yesN 3 u54 (yesN 7 true (rt YC true))) (noN 3 u54 (let u53 := ((zz a0) == 1); .as u53 (yesN 6 u53 (rt YC true)) (.no u53 (let u52 := (in2 (zi 1) (zz a0) (zz a0)); .as u52 (.no u53 (.call (Qdk w (cu a0 (zi 1) (zz a0))) (C2 (cu a0 (zi 1) (zz a0))) FK fun r3 => (noN 2 u53 (.yes u52 (noN 2 u53 (rt YC (!(eqS r3 (cu a0 (zi 1) (zz a0)))))))))) .fail)))))))))))))) .fail)))))
theorem QnM (w : Cf) (C0 : JB) (C1 : VI) (C2 : Yc) (a0 : ByteArray) : (Qdn pp w C0 C1 C2 a0).norm (bodyT pp w G 272 (Qdm a0).1 (Qdm a0).2) = Qdn pp w C0 C1 C2 a0 := by kernel_rfl
theorem QnN (P : Pg) (w : Cf) (lp : Lo) (C0 : JB) (C1 : VI) (C2 : Yc) (K0 : Sc w C0) (K1 : Qep w C1) (K2 : Qhq w C2) (a0 : ByteArray) : (Qdn P w C0 C1 C2 a0).ok lp YC := ⟨rfl, fun hq0 => yesN_ok 3 (hq0) (yesN_ok 11 (rfl) (rfl)), fun hq0 => noN_ok 3 (hq0) (⟨rfl, fun hq1 => yesN_ok 4 (hq1) (yesN_ok 6 (rfl) (rfl)), fun hq1 => ⟨hq1, ⟨rfl, fun hq2 => noN_ok 2 (hq1) (fun r1 hr1 => ⟨K0 _ _ hr1, ⟨hq1, ⟨rfl, fun hq3 => yesN_ok 4 (hq3) (⟨rfl, rfl⟩), fun hq3 => ⟨hq3, fun r2 hr2 => ⟨K1 _ _ hr2, noN_ok 3 (hq3) (⟨rfl, fun hq4 => rfl, fun hq4 => ⟨hq2, ⟨rfl, fun hq5 => yesN_ok 3 (hq5) (yesN_ok 7 (rfl) (rfl)), fun hq5 => noN_ok 3 (hq5) (⟨rfl, fun hq6 => yesN_ok 6 (hq6) (rfl), fun hq6 => ⟨hq6, ⟨rfl, fun hq7 => ⟨hq6, fun r3 hr3 => ⟨K2 _ _ hr3, noN_ok 2 (hq6) (⟨hq7, noN_ok 2 (hq6) (rfl)⟩)⟩⟩, fun hq7 => trivial⟩⟩⟩)⟩⟩⟩)⟩⟩⟩⟩⟩), fun hq2 => trivial⟩⟩⟩)⟩
theorem QnO {C0 : Nat → JB} {D0 : JB} (H0 : Cv1 C0 D0) {C1 : Nat → VI} {D1 : VI} (H1 : Cv1 C1 D1) {C2 : Nat → Yc} {D2 : Yc} (H2 : Cv1 C2 D2) (a0 : ByteArray) : Cv (fun k => FM (C0 k) (C1 k) (C2 k) a0) (FM D0 D1 D2 a0) := by
  unfold FM
  exact .cond (by exact .const _) (.cond (by exact .const _) (.cond (.bind (H0 _) fun r1 => .cond (by exact .const _) (.bind (H1 _) fun r2 => .cond (by exact .const _) (.cond (by exact .const _) (.cond (by exact .const _) (.cond (.bind (H2 _) fun r3 => by exact .const _) (by exact .const _)))))) (by exact .const _)))
def Xi.s : Nat → ByteArray → Option Bool
  | 0, _ => none
  | k + 1, a0 => FM (Jo.s k) (UA.s k) (VD.s k) a0
theorem Xi.ok : ∀ (k : Nat), QkI (ev k) (Xi.s k)
  | 0, _, _, h => (nomatch h)
  | k + 1, a0, r, h => fn_ok rfl (Qdn pp (ev k) (Jo.s k) (UA.s k) (VD.s k) a0) (QnM _ _ _ _ a0) (QnN _ _ _ _ _ _ (Jo.ok k) (UA.ok k) (VD.ok k)  a0) h
noncomputable def Xi (a0 : ByteArray) : Option Bool := FM Jo UA VD a0
theorem Xi.cv (a0 : ByteArray) : Cv (fun k => Xi.s k a0) (Xi a0) := .un rfl (QnO Jo.cv UA.cv VD.cv a0)
theorem Xi.eq (a0 : ByteArray) : Xi a0 = FM Jo UA VD a0 := rfl
def Qcb (r : (List ByteArray)) : AV × Heap := (.sl (Qh r), [])
abbrev X5 := Option (List ByteArray)
abbrev Qcc  : List AV × Heap := ([], [])
abbrev Qi0 (w : Cf)  : Option AH := w 208 (Qcc ).1 (Qcc ).2
abbrev Qgn (w : Cf) (c : X5) : Prop := ∀  (r : (List ByteArray)), c = some r → Qi0 w  = some (Qcb r)
def Qfe   : Option (List ByteArray) := (some [s_, s_, s_, h_2e, h_2d, h_2b, h_2d, h_2a, h_26, h_7c, QeQ, QeR])
def Qcd (P : Pg) (w : Cf)   : Tr (List ByteArray) AH := (.rows [[xs s_], [xs s_], [xs s_], [xs h_2e], [xs h_2d], [xs h_2b], [xs h_2d], [xs h_2a], [xs h_26], [xs h_7c], [xs QeQ], [xs QeR]] (Qh [s_, s_, s_, h_2e, h_2d, h_2b, h_2d, h_2a, h_26, h_7c, QeQ, QeR]) (rt Qcb [s_, s_, s_, h_2e, h_2d, h_2b, h_2d, h_2a, h_26, h_7c, QeQ, QeR]))
theorem QmR (w : Cf)   : (Qcd pp w  ).norm (bodyT pp w G 208 (Qcc ).1 (Qcc ).2) = Qcd pp w   := by kernel_rfl
theorem QmS (P : Pg) (w : Cf) (lp : Lo)    : (Qcd P w  ).ok lp Qcb := ⟨(Un [s_, s_, s_, h_2e, h_2d, h_2b, h_2d, h_2a, h_26, h_7c, QeQ, QeR]), rfl⟩
def VZ.s : Nat → Option (List ByteArray)
  | 0 => none
  | k + 1 => Qfe  
theorem VZ.ok : ∀ (k : Nat), Qgn (ev k) (VZ.s k)
  | 0, _, h => (nomatch h)
  | k + 1, r, h => fn_ok rfl (Qcd pp (ev k)  ) (QmR _  ) (QmS _ _ _    ) h
noncomputable def VZ  : Option (List ByteArray) := Qfe  
theorem VZ.cv  : Cv (fun k => VZ.s k ) (VZ ) := .un rfl (by exact .const _)
theorem VZ.eq  : VZ  = Qfe   := rfl
def YU (r : (Int × Qa)) : AV × Heap := (xi r.1, [(0, .box [] (Q0 r.2))])
abbrev Ju := (List Int) → Qa → Option (Int × Qa)
abbrev Fq (a1 : (List Int)) (h0 : Qa) : List AV × Heap := ([.ptr 0 0, .sl (EM a1)], [(0, .box [] (Q0 h0))])
abbrev SS (w : Cf) (a1 : (List Int)) (h0 : Qa) : Option AH := w 244 (Fq a1 h0).1 (Fq a1 h0).2
abbrev F3 (w : Cf) (c : Ju) : Prop := ∀ (a1 : (List Int)) (h0 : Qa) (r : (Int × Qa)), c a1 h0 = some r → SS w a1 h0 = some (YU r)
structure QU where
  x7 : (List Int)
  x8 : Int
  x9 : Int
  h0 : Qa
structure JM where
  x4 : Int
  h0 : Qa
def XA (a : QU) : St := { n := 21, nx := 1, env := [(0, .ptr 0 0), (7, .sl (EM a.x7)), (8, xi a.x8), (9, xi a.x9)], heap := [(0, .box [] (Q0 a.h0))] }
def QaP (a : JM) : Ex × St := (.ret, { n := 21, nx := 1, env := [(4, xi a.x4)], heap := [(0, .box [] (Q0 a.h0))] })
def QaQ (a : Qa) : Ex × St := (.exit 0, { n := 21, nx := 1, env := [], heap := [(0, .box [] (Q0 a))] })
def YV (a : (JM ⊕ Qa)) : Ex × St := Sum.elim QaP QaQ a
abbrev W2 := QU → Option (JM ⊕ Qa)
abbrev Qhr (P : Pg) (lp : Lo) (l : W2) : Prop := ∀ (a : QU) (r : (JM ⊕ Qa)), l a = some r → lp (loopAt P 244 2) (XA a) = some (YV r)
def WH (C0 : X5) (C1 : Q2) (a : QU) : Option (QU ⊕ (JM ⊕ Qa)) := (bif (decide (a.x9 < a.x8)) then (bif (decide (0 ≤ a.x9)) then ((a.x7[(Int.toNat a.x9)]?).bind fun e1 => ((C0).bind fun r2 => (bif (decide (0 ≤ e1)) then ((r2[(Int.toNat e1)]?).bind fun e3 => ((C1 e3 a.h0).bind fun r4 => (bif r4.1 then (some (.inr (.inl (JM.mk e1 r4.2)))) else (some (.inl (QU.mk a.x7 a.x8 (w64 (a.x9 + 1)) r4.2)))))) else none))) else none) else (some (.inr (.inr a.h0))))
def GF (P : Pg) (w : Cf) (C0 : X5) (C1 : Q2) (a : QU) : Tr (QU ⊕ (JM ⊕ Qa)) XS := (.as (decide (a.x9 < a.x8)) (.as (decide (0 ≤ a.x9)) (.row ((EM a.x7)[(Int.toNat a.x9)]?) (a.x7[(Int.toNat a.x9)]?) Qmo fun (e1 : Int) => (.call (Qi0 w) (C0) Qcb fun r2 => (.as (decide (0 ≤ e1)) (.row ((Qh r2)[(Int.toNat e1)]?) (r2[(Int.toNat e1)]?) Vf fun (e3 : ByteArray) => (.call (YT w e3 a.h0) (C1 e3 a.h0) VL fun r4 => (.as r4.1 (rx YV (.inl (JM.mk e1 r4.2))) (lf XA (QU.mk a.x7 a.x8 (w64 (a.x9 + 1)) r4.2))))) .fail))) .fail) (rx YV (.inr a.h0)))
theorem QgU (w : Cf) (C0 : X5) (C1 : Q2) (a : QU) : (GF pp w C0 C1 a).norm (roundT pp G.kd w 1 (G.an 244) (loopAt pp 244 2) (XA a)) = GF pp w C0 C1 a := by kernel_rfl
theorem QgV (P : Pg) (w : Cf) (lp : Lo) (C0 : X5) (C1 : Q2) (K0 : Qgn w C0) (K1 : GX w C1) (a : QU) : (GF P w C0 C1 a).ok lp (Sum.elim (fun a => (.norm, XA a)) YV) := ⟨rfl, fun hq0 => ⟨rfl, fun hq1 => fun e1 he1 => ⟨QoQ he1, fun r2 hr2 => ⟨K0 _ hr2, ⟨rfl, fun hq2 => fun e3 he3 => ⟨VP he3, fun r4 hr4 => ⟨K1 _ _ _ hr4, ⟨rfl, fun hq3 => rfl, fun hq3 => rfl⟩⟩⟩, fun hq2 => trivial⟩⟩⟩, fun hq1 => trivial⟩, fun hq0 => rfl⟩
theorem QgW {C0 : Nat → X5} {D0 : X5} (H0 : Cv C0 D0) {C1 : Nat → Q2} {D1 : Q2} (H1 : Cv2 C1 D1) (a : QU) : Cv (fun k => WH (C0 k) (C1 k) a) (WH D0 D1 a) := by
  unfold WH
  exact .cond (.cond (.bind (.const _) fun e1 => .bind (H0) fun r2 => .cond (.bind (.const _) fun e3 => .bind (H1 _ _) fun r4 => by exact .const _) (by exact .const _)) (by exact .const _)) (by exact .const _)
def JU.s (k : Nat) (C0 : X5) (C1 : Q2) : QU → Option (JM ⊕ Qa) := iter (WH C0 C1) k
theorem Qgo (w : Cf) (k : Nat) (C0 : X5) (C1 : Q2) (K0 : Qgn w C0) (K1 : GX w C1) (a : QU) (r : (JM ⊕ Qa)) (h : JU.s k C0 C1 a = some r) : loopsF pp G.kd w 1 (G.an 244) k (loopAt pp 244 2) (XA a) = some (YV r) :=
  loop_ok (fun a => GF pp w C0 C1 a) (fun _ => rfl) (fun a => QgU w _ _ a) (fun a => QgV _ w _ _ _ K0 K1 a) (fun r => by cases r <;> nofun) h
noncomputable def JU.w (C0 : X5) (C1 : Q2) : QU → Option (JM ⊕ Qa) := loopW (WH C0 C1)
theorem JU.cv (C0 : Nat → X5) (C1 : Nat → Q2) (D0 : X5) (D1 : Q2) (H0 : Cv C0 D0) (H1 : Cv2 C1 D1) (a : QU) : Cv (fun k => JU.s k (C0 k) (C1 k) a) (JU.w D0 D1 a) := Cv.iter (fun a => QgW H0 H1 a) a
def XL (L0 : W2) (a1 : (List Int)) (h0 : Qa) : Option (Int × Qa) := ((L0 (QU.mk a1 (((a1.length) : Nat) : Int) (0 : Int) h0)).bind fun x => Sum.elim (fun (o1 : JM) => (some (o1.x4, o1.h0))) (fun (o2 : Qa) => (some ((0 : Int), o2))) x)
def Fr (P : Pg) (w : Cf) (L0 : W2) (a1 : (List Int)) (h0 : Qa) : Tr (Int × Qa) AH := (.num ((EM a1).length) (a1.length) (.loop2 (loopAt P 244 2) (XA (QU.mk a1 (((a1.length) : Nat) : Int) (zi 0) h0)) (L0 (QU.mk a1 (((a1.length) : Nat) : Int) (zi 0) h0)) QaP QaQ (fun (o1 : JM) => (rt YU (o1.x4, o1.h0))) (fun (o2 : Qa) => (rt YU ((zi 0), o2)))))
theorem Qi1 (w : Cf) (L0 : W2) (a1 : (List Int)) (h0 : Qa) : (Fr pp w L0 a1 h0).norm (bodyT pp w G 244 (Fq a1 h0).1 (Fq a1 h0).2) = Fr pp w L0 a1 h0 := by kernel_rfl
theorem Qi2 (P : Pg) (w : Cf) (lp : Lo) (L0 : W2) (N0 : Qhr P lp L0) (a1 : (List Int)) (h0 : Qa) : (Fr P w L0 a1 h0).ok lp YU := ⟨(QoR _), ⟨fun o1 ho1 => ⟨N0 _ (.inl _) ho1, rfl⟩, fun o2 ho2 => ⟨N0 _ (.inr _) ho2, rfl⟩⟩⟩
theorem Qi3 {L0 : Nat → W2} {M0 : W2} (N0 : Cv1 L0 M0) (a1 : (List Int)) (h0 : Qa) : Cv (fun k => XL (L0 k) a1 h0) (XL M0 a1 h0) := by
  unfold XL
  exact .bind (N0 _) fun x => .sum (fun o1 => by exact .const _) (fun o2 => by exact .const _) x
def QN.s : Nat → (List Int) → Qa → Option (Int × Qa)
  | 0, _, _ => none
  | k + 1, a1, h0 => XL (JU.s k (VZ.s k) (QH.s k)) a1 h0
theorem QN.ok : ∀ (k : Nat), F3 (ev k) (QN.s k)
  | 0, _, _, _, h => (nomatch h)
  | k + 1, a1, h0, r, h => fn_ok rfl (Fr pp (ev k) (JU.s k (VZ.s k) (QH.s k)) a1 h0) (Qi1 _ _ a1 h0) (Qi2 _ _ _ _  (Qgo _ k _ _ (VZ.ok k) (QH.ok k)) a1 h0) h
noncomputable def JU : QU → Option (JM ⊕ Qa) := JU.w VZ QH
theorem JU.eq (a : QU) : JU a = (WH VZ QH a).bind (Sum.elim JU some) := loopW_eq _ _
noncomputable def QN (a1 : (List Int)) (h0 : Qa) : Option (Int × Qa) := XL JU a1 h0
theorem QN.cv (a1 : (List Int)) (h0 : Qa) : Cv (fun k => QN.s k a1 h0) (QN a1 h0) := .un rfl (Qi3 (JU.cv (fun k => VZ.s k) (fun k => QH.s k) VZ QH VZ.cv QH.cv) a1 h0)
theorem QN.eq (a1 : (List Int)) (h0 : Qa) : QN a1 h0 = XL JU a1 h0 := rfl
def ZJ (r : (Qb × Qa)) : AV × Heap := (.agg (Q7 r.1), [(0, .box [] (Q0 r.2))])
def Zd (r : (Qb × Qa)) : AV × Heap := (.agg (Q7 r.1), [(0, .box [] (Q0 r.2))])
def ET (r : (Qb × Qa)) : AV × Heap := (.agg (Q7 r.1), [(0, .box [] (Q0 r.2))])
def YD (r : (Qb × Qa)) : AV × Heap := (.agg (Q7 r.1), [(0, .box [] (Q0 r.2))])
def Ut (r : (Qb × Qa)) : AV × Heap := (.agg (Q7 r.1), [(0, .box [] (Q0 r.2))])
def Xj (r : (Qb × Qa)) : AV × Heap := (.agg (Q7 r.1), [(0, .box [] (Q0 r.2))])
abbrev XM := Qa → Option (Qb × Qa)
abbrev EU (h0 : Qa) : List AV × Heap := ([.ptr 0 0], [(0, .box [] (Q0 h0))])
abbrev QcI (w : Cf) (h0 : Qa) : Option AH := w 263 (EU h0).1 (EU h0).2
abbrev QdS (w : Cf) (c : XM) : Prop := ∀ (h0 : Qa) (r : (Qb × Qa)), c h0 = some r → QcI w h0 = some (ZJ r)
abbrev Xr := Qa → Option (Qb × Qa)
abbrev Ea (h0 : Qa) : List AV × Heap := ([.ptr 0 0, .fn (.func 263) [.ptr 0 0] []], [(0, .box [] (Q0 h0))])
abbrev Qce (w : Cf) (h0 : Qa) : Option AH := w 262 (Ea h0).1 (Ea h0).2
abbrev QcJ (w : Cf) (c : Xr) : Prop := ∀ (h0 : Qa) (r : (Qb × Qa)), c h0 = some r → Qce w h0 = some (Zd r)
abbrev XN := Qa → Option (Qb × Qa)
abbrev EV (h0 : Qa) : List AV × Heap := ([.ptr 0 0], [(0, .box [] (Q0 h0))])
abbrev QcK (w : Cf) (h0 : Qa) : Option AH := w 264 (EV h0).1 (EV h0).2
abbrev QdT (w : Cf) (c : XN) : Prop := ∀ (h0 : Qa) (r : (Qb × Qa)), c h0 = some r → QcK w h0 = some (ET r)
abbrev WI := Qa → Option (Qb × Qa)
abbrev Ge (h0 : Qa) : List AV × Heap := ([.ptr 0 0, .fn (.func 264) [.ptr 0 0] []], [(0, .box [] (Q0 h0))])
abbrev QaR (w : Cf) (h0 : Qa) : Option AH := w 262 (Ge h0).1 (Ge h0).2
abbrev Qbs (w : Cf) (c : WI) : Prop := ∀ (h0 : Qa) (r : (Qb × Qa)), c h0 = some r → QaR w h0 = some (YD r)
abbrev Vh := Qa → Option (Qb × Qa)
abbrev F4 (h0 : Qa) : List AV × Heap := ([.ptr 0 0], [(0, .box [] (Q0 h0))])
abbrev QaF (w : Cf) (h0 : Qa) : Option AH := w 243 (F4 h0).1 (F4 h0).2
abbrev Qbf (w : Cf) (c : Vh) : Prop := ∀ (h0 : Qa) (r : (Qb × Qa)), c h0 = some r → QaF w h0 = some (Ut r)
abbrev QB := Int → Qa → Option (Qb × Qa)
abbrev F5 (a1 : Int) (h0 : Qa) : List AV × Heap := ([.ptr 0 0, xi a1], [(0, .box [] (Q0 h0))])
abbrev GY (w : Cf) (a1 : Int) (h0 : Qa) : Option AH := w 215 (F5 a1 h0).1 (F5 a1 h0).2
abbrev YI (w : Cf) (c : QB) : Prop := ∀ (a1 : Int) (h0 : Qa) (r : (Qb × Qa)), c a1 h0 = some r → GY w a1 h0 = some (Xj r)
def Yw (C0 : QB) (C1 : Q2) (C2 : Qm) (h0 : Qa) : Option (Qb × Qa) := ((C0 (0 : Int) h0).bind fun r1 => ((C1 h_29 r1.2).bind fun r2 => (bif (!r2.1) then ((C2 r2.2).bind fun r3 => (some (r3.1, r3.2))) else (some (r1.1, r2.2)))))
def EW (P : Pg) (w : Cf) (C0 : QB) (C1 : Q2) (C2 : Qm) (h0 : Qa) : Tr (Qb × Qa) AH := (.call (GY w (zi 0) h0) (C0 (zi 0) h0) Xj fun r1 => (.call (YT w h_29 r1.2) (C1 h_29 r1.2) VL fun r2 => (.as (!r2.1) (.call (Wf w r2.2) (C2 r2.2) Vt fun r3 => (rt ZJ (r3.1, r3.2))) (rt ZJ (r1.1, r2.2)))))
theorem Qh8 (w : Cf) (C0 : QB) (C1 : Q2) (C2 : Qm) (h0 : Qa) : (EW pp w C0 C1 C2 h0).norm (bodyT pp w G 263 (EU h0).1 (EU h0).2) = EW pp w C0 C1 C2 h0 := by kernel_rfl
theorem Qh9 (P : Pg) (w : Cf) (lp : Lo) (C0 : QB) (C1 : Q2) (C2 : Qm) (K0 : YI w C0) (K1 : GX w C1) (K2 : Xh w C2) (h0 : Qa) : (EW P w C0 C1 C2 h0).ok lp ZJ := fun r1 hr1 => ⟨K0 _ _ _ hr1, fun r2 hr2 => ⟨K1 _ _ _ hr2, ⟨rfl, fun hq0 => fun r3 hr3 => ⟨K2 _ _ hr3, rfl⟩, fun hq0 => rfl⟩⟩⟩
theorem QcL {C0 : Nat → QB} {D0 : QB} (H0 : Cv2 C0 D0) {C1 : Nat → Q2} {D1 : Q2} (H1 : Cv2 C1 D1) {C2 : Nat → Qm} {D2 : Qm} (H2 : Cv1 C2 D2) (h0 : Qa) : Cv (fun k => Yw (C0 k) (C1 k) (C2 k) h0) (Yw D0 D1 D2 h0) := by
  unfold Yw
  exact .bind (H0 _ _) fun r1 => .bind (H1 _ _) fun r2 => .cond (.bind (H2 _) fun r3 => by exact .const _) (by exact .const _)
def W3 (C0 : Qm) (C1 : XM) (h0 : Qa) : Option (Qb × Qa) := (bif (decide (h0.deep ≥ 12)) then ((C0 h0).bind fun r1 => (some (r1.1, r1.2))) else ((C1 (Qa.mk h0.left (w64 (h0.deep + 1)) h0.bad)).bind fun r2 => (some (r2.1, (Qa.mk r2.2.left (w64 (r2.2.deep - 1)) r2.2.bad)))))
def Eb (P : Pg) (w : Cf) (C0 : Qm) (C1 : XM) (h0 : Qa) : Tr (Qb × Qa) AH := (.as (decide (h0.deep ≥ 12)) (.call (Wf w h0) (C0 h0) Vt fun r1 => (rt Zd (r1.1, r1.2))) (.call (QcI w (Qa.mk h0.left (w64 (h0.deep + 1)) h0.bad)) (C1 (Qa.mk h0.left (w64 (h0.deep + 1)) h0.bad)) ZJ fun r2 => (rt Zd (r2.1, (Qa.mk r2.2.left (w64 (r2.2.deep - 1)) r2.2.bad)))))
theorem Qhs (w : Cf) (C0 : Qm) (C1 : XM) (h0 : Qa) : (Eb pp w C0 C1 h0).norm (bodyT pp w G 262 (Ea h0).1 (Ea h0).2) = Eb pp w C0 C1 h0 := by kernel_rfl
theorem Qht (P : Pg) (w : Cf) (lp : Lo) (C0 : Qm) (C1 : XM) (K0 : Xh w C0) (K1 : QdS w C1) (h0 : Qa) : (Eb P w C0 C1 h0).ok lp Zd := ⟨rfl, fun hq0 => fun r1 hr1 => ⟨K0 _ _ hr1, rfl⟩, fun hq0 => fun r2 hr2 => ⟨K1 _ _ hr2, rfl⟩⟩
theorem Qcf {C0 : Nat → Qm} {D0 : Qm} (H0 : Cv1 C0 D0) {C1 : Nat → XM} {D1 : XM} (H1 : Cv1 C1 D1) (h0 : Qa) : Cv (fun k => W3 (C0 k) (C1 k) h0) (W3 D0 D1 h0) := by
  unfold W3
  exact .cond (.bind (H0 _) fun r1 => by exact .const _) (.bind (H1 _) fun r2 => by exact .const _)
def Yx (C0 : Vh) (h0 : Qa) : Option (Qb × Qa) := ((C0 h0).bind fun r1 => (some ((Qb.mk (4 : Int) (0 : Int) s_ [r1.1]), r1.2)))
def EX (P : Pg) (w : Cf) (C0 : Vh) (h0 : Qa) : Tr (Qb × Qa) AH := (.call (QaF w h0) (C0 h0) Ut fun r1 => (.rows [[xi r1.1.Kind, xi r1.1.N, xs r1.1.Name, .sl (Uj r1.1.L)]] (Uj [r1.1]) (rt ET ((Qb.mk (zi 4) (zi 0) s_ [r1.1]), r1.2))))
theorem Qia (w : Cf) (C0 : Vh) (h0 : Qa) : (EX pp w C0 h0).norm (bodyT pp w G 264 (EV h0).1 (EV h0).2) = EX pp w C0 h0 := by kernel_rfl
theorem Qib (P : Pg) (w : Cf) (lp : Lo) (C0 : Vh) (K0 : Qbf w C0) (h0 : Qa) : (EX P w C0 h0).ok lp ET := fun r1 hr1 => ⟨K0 _ _ hr1, ⟨(El [r1.1]), rfl⟩⟩
theorem QcM {C0 : Nat → Vh} {D0 : Vh} (H0 : Cv1 C0 D0) (h0 : Qa) : Cv (fun k => Yx (C0 k) h0) (Yx D0 h0) := by
  unfold Yx
  exact .bind (H0 _) fun r1 => by exact .const _
def Wl (C0 : Qm) (C1 : XN) (h0 : Qa) : Option (Qb × Qa) := (bif (decide (h0.deep ≥ 12)) then ((C0 h0).bind fun r1 => (some (r1.1, r1.2))) else ((C1 (Qa.mk h0.left (w64 (h0.deep + 1)) h0.bad)).bind fun r2 => (some (r2.1, (Qa.mk r2.2.left (w64 (r2.2.deep - 1)) r2.2.bad)))))
def Gf (P : Pg) (w : Cf) (C0 : Qm) (C1 : XN) (h0 : Qa) : Tr (Qb × Qa) AH := (.as (decide (h0.deep ≥ 12)) (.call (Wf w h0) (C0 h0) Vt fun r1 => (rt YD (r1.1, r1.2))) (.call (QcK w (Qa.mk h0.left (w64 (h0.deep + 1)) h0.bad)) (C1 (Qa.mk h0.left (w64 (h0.deep + 1)) h0.bad)) ET fun r2 => (rt YD (r2.1, (Qa.mk r2.2.left (w64 (r2.2.deep - 1)) r2.2.bad)))))
theorem Qgp (w : Cf) (C0 : Qm) (C1 : XN) (h0 : Qa) : (Gf pp w C0 C1 h0).norm (bodyT pp w G 262 (Ge h0).1 (Ge h0).2) = Gf pp w C0 C1 h0 := by kernel_rfl
theorem Qgq (P : Pg) (w : Cf) (lp : Lo) (C0 : Qm) (C1 : XN) (K0 : Xh w C0) (K1 : QdT w C1) (h0 : Qa) : (Gf P w C0 C1 h0).ok lp YD := ⟨rfl, fun hq0 => fun r1 hr1 => ⟨K0 _ _ hr1, rfl⟩, fun hq0 => fun r2 hr2 => ⟨K1 _ _ hr2, rfl⟩⟩
theorem QaS {C0 : Nat → Qm} {D0 : Qm} (H0 : Cv1 C0 D0) {C1 : Nat → XN} {D1 : XN} (H1 : Cv1 C1 D1) (h0 : Qa) : Cv (fun k => Wl (C0 k) (C1 k) h0) (Wl D0 D1 h0) := by
  unfold Wl
  exact .cond (.bind (H0 _) fun r1 => by exact .const _) (.bind (H1 _) fun r2 => by exact .const _)
def WB (C0 : Q2) (C1 : Xr) (C2 : WI) (C3 : WZ) (C4 : Qbe) (C5 : Xo) (C6 : XK) (C7 : Yc) (C8 : VI) (C9 : PF) (C10 : Qm) (h0 : Qa) : Option (Qb × Qa) := ((C0 h_28 h0).bind fun r1 => (bif r1.1 then ((C1 r1.2).bind fun r2 => (some (r2.1, r2.2))) else ((C0 h_2d r1.2).bind fun r3 => (bif r3.1 then ((C2 r3.2).bind fun r4 => (some (r4.1, r4.2))) else ((C0 h_2e r3.2).bind fun r5 => (bif r5.1 then (some ((Qb.mk (3 : Int) (0 : Int) s_ ([] : List Qb)), r5.2)) else (bif r5.2.bad then (some ((Qb.mk (0 : Int) (0 : Int) s_ ([] : List Qb)), r5.2)) else ((C3 r5.2.left).bind fun r6 => (bif r6 then (bif (decide (0 ≤ (2 : Int) ∧ (2 : Int) ≤ ((r5.2.left.size : Nat) : Int) ∧ ((r5.2.left.size : Nat) : Int) ≤ ((r5.2.left.size : Nat) : Int))) then ((C4 (r5.2.left.extract (Int.toNat 2) (Int.toNat ((r5.2.left.size : Nat) : Int)))).bind fun r7 => (bif (!(eqS r7 s_)) then ((C4 (r5.2.left.extract (Int.toNat 2) (Int.toNat ((r5.2.left.size : Nat) : Int)))).bind fun r8 => ((C5 r8 (16 : Int) (Qa.mk (r5.2.left.extract (Int.toNat 2) (Int.toNat ((r5.2.left.size : Nat) : Int))) r5.2.deep r5.2.bad)).bind fun r9 => ((C6 r9.1 r9.2).bind fun r10 => (some (r10.1, r10.2))))) else ((C7 r5.2.left).bind fun r11 => (bif (!(eqS r11 s_)) then ((C5 r11 (10 : Int) r5.2).bind fun r12 => ((C6 r12.1 r12.2).bind fun r13 => (some (r13.1, r13.2)))) else ((C8 r5.2.left).bind fun r14 => ((C9 r14).bind fun r15 => (bif r15 then (bif (decide (0 ≤ ((r14.size : Nat) : Int) ∧ ((r14.size : Nat) : Int) ≤ ((r5.2.left.size : Nat) : Int) ∧ ((r5.2.left.size : Nat) : Int) ≤ ((r5.2.left.size : Nat) : Int))) then (some ((Qb.mk (2 : Int) (0 : Int) r14 ([] : List Qb)), (Qa.mk (r5.2.left.extract (Int.toNat ((r14.size : Nat) : Int)) (Int.toNat ((r5.2.left.size : Nat) : Int))) r5.2.deep r5.2.bad))) else none) else ((C10 r5.2).bind fun r16 => (some (r16.1, r16.2)))))))))) else none) else ((C7 r5.2.left).bind fun r17 => (bif (!(eqS r17 s_)) then ((C5 r17 (10 : Int) r5.2).bind fun r18 => ((C6 r18.1 r18.2).bind fun r19 => (some (r19.1, r19.2)))) else ((C8 r5.2.left).bind fun r20 => ((C9 r20).bind fun r21 => (bif r21 then (bif (decide (0 ≤ ((r20.size : Nat) : Int) ∧ ((r20.size : Nat) : Int) ≤ ((r5.2.left.size : Nat) : Int) ∧ ((r5.2.left.size : Nat) : Int) ≤ ((r5.2.left.size : Nat) : Int))) then (some ((Qb.mk (2 : Int) (0 : Int) r20 ([] : List Qb)), (Qa.mk (r5.2.left.extract (Int.toNat ((r20.size : Nat) : Int)) (Int.toNat ((r5.2.left.size : Nat) : Int))) r5.2.deep r5.2.bad))) else none) else ((C10 r5.2).bind fun r22 => (some (r22.1, r22.2)))))))))))))))))
def F6 (P : Pg) (w : Cf) (C0 : Q2) (C1 : Xr) (C2 : WI) (C3 : WZ) (C4 : Qbe) (C5 : Xo) (C6 : XK) (C7 : Yc) (C8 : VI) (C9 : PF) (C10 : Qm) (h0 : Qa) : Tr (Qb × Qa) AH := (.call (YT w h_28 h0) (C0 h_28 h0) VL fun r1 => (.as r1.1 (.call (Qce w r1.2) (C1 r1.2) Zd fun r2 => (rt Ut (r2.1, r2.2))) (.call (YT w h_2d r1.2) (C0 h_2d r1.2) VL fun r3 => (.as r3.1 (.call (QaR w r3.2) (C2 r3.2) YD fun r4 => (rt Ut (r4.1, r4.2))) (.call (YT w h_2e r3.2) (C0 h_2e r3.2) VL fun r5 => (.as r5.1 (rt Ut ((Qb.mk (zi 3) (zi 0) s_ ([] : List Qb)), r5.2)) (.as r5.2.bad (rt Ut ((Qb.mk (zi 0) (zi 0) s_ ([] : List Qb)), r5.2)) (.call (Qbq w r5.2.left) (C3 r5.2.left) GC fun r6 => (.as r6 (yesN 4 r6 (let u58 := (in2 (zi 2) (zz r5.2.left) (zz r5.2.left)); .as u58 (.yes r6 (.call (QiX w (cu r5.2.left (zi 2) (zz r5.2.left))) (C4 (cu r5.2.left (zi 2) (zz r5.2.left))) Qbr fun r7 => (yesN 2 r6 (.as (!(eqS r7 s_)) (.yes u58 (.call (QiX w (cu r5.2.left (zi 2) (zz r5.2.left))) (C4 (cu r5.2.left (zi 2) (zz r5.2.left))) Qbr fun r8 => (.call (G8 w r8 (zi 16) (Qa.mk (cu r5.2.left (zi 2) (zz r5.2.left)) r5.2.deep r5.2.bad)) (C5 r8 (zi 16) (Qa.mk (cu r5.2.left (zi 2) (zz r5.2.left)) r5.2.deep r5.2.bad)) W0 fun r9 => (.call (ER w r9.1 r9.2) (C6 r9.1 r9.2) Xp fun r10 => (rt Ut (r10.1, r10.2)))))) (.call (Qdk w r5.2.left) (C7 r5.2.left) FK fun r11 => (.as (!(eqS r11 s_)) (.call (G8 w r11 (zi 10) r5.2) (C5 r11 (zi 10) r5.2) W0 fun r12 => (.call (ER w r12.1 r12.2) (C6 r12.1 r12.2) Xp fun r13 => (rt Ut (r13.1, r13.2)))) (.call (QaO w r5.2.left) (C8 r5.2.left) Eh fun r14 => (.call (Qgm w r14) (C9 r14) YC fun r15 => (.as r15 (.as (in2 (zz r14) (zz r5.2.left) (zz r5.2.left)) (rt Ut ((Qb.mk (zi 2) (zi 0) r14 ([] : List Qb)), (Qa.mk (cu r5.2.left (zz r14) (zz r5.2.left)) r5.2.deep r5.2.bad))) .fail) (.call (Wf w r5.2) (C10 r5.2) Vt fun r16 => (rt Ut (r16.1, r16.2)))))))))))) .fail)) (noN 7 r6 (.no false (.call (Qdk w r5.2.left) (C7 r5.2.left) FK fun r17 => (.as (!(eqS r17 s_)) (.call (G8 w r17 (zi 10) r5.2) (C5 r17 (zi 10) r5.2) W0 fun r18 => (.call (ER w r18.1 r18.2) (C6 r18.1 r18.2) Xp fun r19 => (rt Ut (r19.1, r19.2)))) (.call (QaO w r5.2.left) (C8 r5.2.left) Eh fun r20 => (.call (Qgm w r20) (C9 r20) YC fun r21 => (.as r21 (.as (in2 (zz r20) (zz r5.2.left) (zz r5.2.left)) (rt Ut ((Qb.mk (zi 2) (zi 0) r20 ([] : List Qb)), (Qa.mk (cu r5.2.left (zz r20) (zz r5.2.left)) r5.2.deep r5.2.bad))) .fail) (.call (Wf w r5.2) (C10 r5.2) Vt fun r22 => (rt Ut (r22.1, r22.2)))))))))))))))))))
theorem Qjy (w : Cf) (C0 : Q2) (C1 : Xr) (C2 : WI) (C3 : WZ) (C4 : Qbe) (C5 : Xo) (C6 : XK) (C7 : Yc) (C8 : VI) (C9 : PF) (C10 : Qm) (h0 : Qa) : (F6 pp w C0 C1 C2 C3 C4 C5 C6 C7 C8 C9 C10 h0).norm (bodyT pp w G 243 (F4 h0).1 (F4 h0).2) = F6 pp w C0 C1 C2 C3 C4 C5 C6 C7 C8 C9 C10 h0 := by kernel_rfl
theorem Qjz (P : Pg) (w : Cf) (lp : Lo) (C0 : Q2) (C1 : Xr) (C2 : WI) (C3 : WZ) (C4 : Qbe) (C5 : Xo) (C6 : XK) (C7 : Yc) (C8 : VI) (C9 : PF) (C10 : Qm) (K0 : GX w C0) (K1 : QcJ w C1) (K2 : Qbs w C2) (K3 : Qb1 w C3) (K4 : QmI w C4) (K5 : QcH w C5) (K6 : QdR w C6) (K7 : Qhq w C7) (K8 : Qep w C8) (K9 : QkI w C9) (K10 : Xh w C10) (h0 : Qa) : (F6 P w C0 C1 C2 C3 C4 C5 C6 C7 C8 C9 C10 h0).ok lp Ut := fun r1 hr1 => ⟨K0 _ _ _ hr1, ⟨rfl, fun hq0 => fun r2 hr2 => ⟨K1 _ _ hr2, rfl⟩, fun hq0 => fun r3 hr3 => ⟨K0 _ _ _ hr3, ⟨rfl, fun hq1 => fun r4 hr4 => ⟨K2 _ _ hr4, rfl⟩, fun hq1 => fun r5 hr5 => ⟨K0 _ _ _ hr5, ⟨rfl, fun hq2 => rfl, fun hq2 => ⟨rfl, fun hq3 => rfl, fun hq3 => fun r6 hr6 => ⟨K3 _ _ hr6, ⟨rfl, fun hq4 => yesN_ok 4 (hq4) (⟨rfl, fun hq5 => ⟨hq4, fun r7 hr7 => ⟨K4 _ _ hr7, yesN_ok 2 (hq4) (⟨rfl, fun hq6 => ⟨hq5, fun r8 hr8 => ⟨K4 _ _ hr8, fun r9 hr9 => ⟨K5 _ _ _ _ hr9, fun r10 hr10 => ⟨K6 _ _ _ hr10, rfl⟩⟩⟩⟩, fun hq6 => fun r11 hr11 => ⟨K7 _ _ hr11, ⟨rfl, fun hq7 => fun r12 hr12 => ⟨K5 _ _ _ _ hr12, fun r13 hr13 => ⟨K6 _ _ _ hr13, rfl⟩⟩, fun hq7 => fun r14 hr14 => ⟨K8 _ _ hr14, fun r15 hr15 => ⟨K9 _ _ hr15, ⟨rfl, fun hq8 => ⟨rfl, fun hq9 => rfl, fun hq9 => trivial⟩, fun hq8 => fun r16 hr16 => ⟨K10 _ _ hr16, rfl⟩⟩⟩⟩⟩⟩⟩)⟩⟩, fun hq5 => trivial⟩), fun hq4 => noN_ok 7 (hq4) (⟨rfl, fun r17 hr17 => ⟨K7 _ _ hr17, ⟨rfl, fun hq5 => fun r18 hr18 => ⟨K5 _ _ _ _ hr18, fun r19 hr19 => ⟨K6 _ _ _ hr19, rfl⟩⟩, fun hq5 => fun r20 hr20 => ⟨K8 _ _ hr20, fun r21 hr21 => ⟨K9 _ _ hr21, ⟨rfl, fun hq6 => ⟨rfl, fun hq7 => rfl, fun hq7 => trivial⟩, fun hq6 => fun r22 hr22 => ⟨K10 _ _ hr22, rfl⟩⟩⟩⟩⟩⟩⟩)⟩⟩⟩⟩⟩⟩⟩⟩⟩
theorem Qec {C0 : Nat → Q2} {D0 : Q2} (H0 : Cv2 C0 D0) {C1 : Nat → Xr} {D1 : Xr} (H1 : Cv1 C1 D1) {C2 : Nat → WI} {D2 : WI} (H2 : Cv1 C2 D2) {C3 : Nat → WZ} {D3 : WZ} (H3 : Cv1 C3 D3) {C4 : Nat → Qbe} {D4 : Qbe} (H4 : Cv1 C4 D4) {C5 : Nat → Xo} {D5 : Xo} (H5 : Cv3 C5 D5) {C6 : Nat → XK} {D6 : XK} (H6 : Cv2 C6 D6) {C7 : Nat → Yc} {D7 : Yc} (H7 : Cv1 C7 D7) {C8 : Nat → VI} {D8 : VI} (H8 : Cv1 C8 D8) {C9 : Nat → PF} {D9 : PF} (H9 : Cv1 C9 D9) {C10 : Nat → Qm} {D10 : Qm} (H10 : Cv1 C10 D10) (h0 : Qa) : Cv (fun k => WB (C0 k) (C1 k) (C2 k) (C3 k) (C4 k) (C5 k) (C6 k) (C7 k) (C8 k) (C9 k) (C10 k) h0) (WB D0 D1 D2 D3 D4 D5 D6 D7 D8 D9 D10 h0) := by
  unfold WB
  exact .bind (H0 _ _) fun r1 => .cond (.bind (H1 _) fun r2 => by exact .const _) (.bind (H0 _ _) fun r3 => .cond (.bind (H2 _) fun r4 => by exact .const _) (.bind (H0 _ _) fun r5 => .cond (by exact .const _) (.cond (by exact .const _) (.bind (H3 _) fun r6 => .cond (.cond (.bind (H4 _) fun r7 => .cond (.bind (H4 _) fun r8 => .bind (H5 _ _ _) fun r9 => .bind (H6 _ _) fun r10 => by exact .const _) (.bind (H7 _) fun r11 => .cond (.bind (H5 _ _ _) fun r12 => .bind (H6 _ _) fun r13 => by exact .const _) (.bind (H8 _) fun r14 => .bind (H9 _) fun r15 => .cond (by exact .const _) (.bind (H10 _) fun r16 => by exact .const _)))) (by exact .const _)) (.bind (H7 _) fun r17 => .cond (.bind (H5 _ _ _) fun r18 => .bind (H6 _ _) fun r19 => by exact .const _) (.bind (H8 _) fun r20 => .bind (H9 _) fun r21 => .cond (by exact .const _) (.bind (H10 _) fun r22 => by exact .const _)))))))
structure QX where
  x1 : Int
  x6 : Int
  h0 : Qa
  h1 : Qb
  h2 : Qb
structure JE where
  h0 : Qa
  h1 : Qb
  h2 : Qb
def Yd (a : QX) : St := { n := 47, nx := 3, env := [(0, .ptr 0 0), (1, xi a.x1), (4, .ptr 1 0), (5, .ptr 2 0), (6, xi a.x6)], heap := [(0, .box [] (Q0 a.h0)), (1, .box [] (Q7 a.h1)), (2, .box [] (Q7 a.h2))] }
def Ye (a : JE) : Ex × St := (.exit 0, { n := 47, nx := 3, env := [(4, .ptr 1 0), (5, .ptr 2 0)], heap := [(0, .box [] (Q0 a.h0)), (1, .box [] (Q7 a.h1)), (2, .box [] (Q7 a.h2))] })
abbrev Xs := QX → Option JE
abbrev Qic (P : Pg) (lp : Lo) (l : Xs) : Prop := ∀ (a : QX) (r : JE), l a = some r → lp (loopAt P 215 5) (Yd a) = some (Ye r)
def W4 (C0 : QB) (C1 : UL) (C2 : Ju) (a : QX) : Option (QX ⊕ JE) := (bif (a.x6 != 0) then (bif (!a.h0.bad) then ((C0 (w64 (a.x1 + 1)) a.h0).bind fun r1 => ((C1).bind fun r2 => (bif (decide (0 ≤ a.x1)) then ((r2[(Int.toNat a.x1)]?).bind fun e3 => ((C2 e3 r1.2).bind fun r4 => (some (.inl (QX.mk a.x1 r4.1 r4.2 a.h1 (Qb.mk a.x6 (0 : Int) s_ [a.h2, r1.1])))))) else none))) else (some (.inr (JE.mk a.h0 a.h1 a.h2)))) else (some (.inr (JE.mk a.h0 a.h1 a.h2))))
def Ec (P : Pg) (w : Cf) (C0 : QB) (C1 : UL) (C2 : Ju) (a : QX) : Tr (QX ⊕ JE) XS := (let u59 := (a.x6 != 0); .as u59 (yesN 5 u59 (.as (!a.h0.bad) (.call (GY w (w64 (a.x1 + 1)) a.h0) (C0 (w64 (a.x1 + 1)) a.h0) Xj fun r1 => (.rows [[xi a.h2.Kind, xi a.h2.N, xs a.h2.Name, .sl (Uj a.h2.L)], [xi r1.1.Kind, xi r1.1.N, xs r1.1.Name, .sl (Uj r1.1.L)]] (Uj [a.h2, r1.1]) (.call (Qa4 w) (C1) E8 fun r2 => (.as (decide (0 ≤ a.x1)) (.row ((Qdy r2)[(Int.toNat a.x1)]?) (r2[(Int.toNat a.x1)]?) Qis fun (e3 : (List Int)) => (.call (SS w e3 r1.2) (C2 e3 r1.2) YU fun r4 => (lf Yd (QX.mk a.x1 r4.1 r4.2 a.h1 (Qb.mk a.x6 (zi 0) s_ [a.h2, r1.1]))))) .fail)))) (rx Ye (JE.mk a.h0 a.h1 a.h2)))) (noN 5 u59 (.no false (rx Ye (JE.mk a.h0 a.h1 a.h2)))))
theorem Qhu (w : Cf) (C0 : QB) (C1 : UL) (C2 : Ju) (a : QX) : (Ec pp w C0 C1 C2 a).norm (roundT pp G.kd w 1 (G.an 215) (loopAt pp 215 5) (Yd a)) = Ec pp w C0 C1 C2 a := by kernel_rfl
theorem Qhv (P : Pg) (w : Cf) (lp : Lo) (C0 : QB) (C1 : UL) (C2 : Ju) (K0 : YI w C0) (K1 : Qb0 w C1) (K2 : F3 w C2) (a : QX) : (Ec P w C0 C1 C2 a).ok lp (Sum.elim (fun a => (.norm, Yd a)) Ye) := ⟨rfl, fun hq0 => yesN_ok 5 (hq0) (⟨rfl, fun hq1 => fun r1 hr1 => ⟨K0 _ _ _ hr1, ⟨(El [a.h2, r1.1]), fun r2 hr2 => ⟨K1 _ hr2, ⟨rfl, fun hq2 => fun e3 he3 => ⟨Qkm he3, fun r4 hr4 => ⟨K2 _ _ _ hr4, rfl⟩⟩, fun hq2 => trivial⟩⟩⟩⟩, fun hq1 => rfl⟩), fun hq0 => noN_ok 5 (hq0) (⟨rfl, rfl⟩)⟩
theorem Qcg {C0 : Nat → QB} {D0 : QB} (H0 : Cv2 C0 D0) {C1 : Nat → UL} {D1 : UL} (H1 : Cv C1 D1) {C2 : Nat → Ju} {D2 : Ju} (H2 : Cv2 C2 D2) (a : QX) : Cv (fun k => W4 (C0 k) (C1 k) (C2 k) a) (W4 D0 D1 D2 a) := by
  unfold W4
  exact .cond (.cond (.bind (H0 _ _) fun r1 => .bind (H1) fun r2 => .cond (.bind (.const _) fun e3 => .bind (H2 _ _) fun r4 => by exact .const _) (by exact .const _)) (by exact .const _)) (by exact .const _)
def Q5.s (k : Nat) (C0 : QB) (C1 : UL) (C2 : Ju) : QX → Option JE := iter (W4 C0 C1 C2) k
theorem QgX (w : Cf) (k : Nat) (C0 : QB) (C1 : UL) (C2 : Ju) (K0 : YI w C0) (K1 : Qb0 w C1) (K2 : F3 w C2) (a : QX) (r : JE) (h : Q5.s k C0 C1 C2 a = some r) : loopsF pp G.kd w 1 (G.an 215) k (loopAt pp 215 5) (Yd a) = some (Ye r) :=
  loop_ok (fun a => Ec pp w C0 C1 C2 a) (fun _ => rfl) (fun a => Qhu w _ _ _ a) (fun a => Qhv _ w _ _ _ _ K0 K1 K2 a) (fun r => nofun) h
theorem Q5.m {j k : Nat} (hj : j ≤ k) (C0 : QB) (C1 : UL) (C2 : Ju) (D0 : QB) (D1 : UL) (D2 : Ju) (H0 : Le2 C0 D0) (H1 : Le C1 D1) (H2 : Le2 C2 D2) (a : QX) : Le (Q5.s j C0 C1 C2 a) (Q5.s k D0 D1 D2 a) := Le.iter (fun a => (Qcg (tw2 H0) (.two H1) (tw2 H2) a).1 0) hj a
noncomputable def Q5.w (C0 : QB) (C1 : UL) (C2 : Ju) : QX → Option JE := loopW (W4 C0 C1 C2)
theorem Q5.cv (C0 : Nat → QB) (C1 : Nat → UL) (C2 : Nat → Ju) (D0 : QB) (D1 : UL) (D2 : Ju) (H0 : Cv2 C0 D0) (H1 : Cv C1 D1) (H2 : Cv2 C2 D2) (a : QX) : Cv (fun k => Q5.s k (C0 k) (C1 k) (C2 k) a) (Q5.w D0 D1 D2 a) := Cv.iter (fun a => Qcg H0 H1 H2 a) a
def Yn (C0 : UL) (C1 : Vh) (C2 : QB) (C3 : Ju) (L4 : Xs) (a1 : Int) (h0 : Qa) : Option (Qb × Qa) := ((C0).bind fun r1 => (bif (a1 == (((r1.length) : Nat) : Int)) then ((C1 h0).bind fun r2 => (some (r2.1, r2.2))) else ((C2 (w64 (a1 + 1)) h0).bind fun r3 => ((C0).bind fun r4 => (bif (decide (0 ≤ a1)) then ((r4[(Int.toNat a1)]?).bind fun e5 => ((C3 e5 r3.2).bind fun r6 => ((L4 (QX.mk a1 r6.1 r6.2 (Qb.mk (0 : Int) (0 : Int) s_ ([] : List Qb)) r3.1)).bind (fun (o7 : JE) => (some (o7.h2, o7.h0)))))) else none)))))
def F7 (P : Pg) (w : Cf) (C0 : UL) (C1 : Vh) (C2 : QB) (C3 : Ju) (L4 : Xs) (a1 : Int) (h0 : Qa) : Tr (Qb × Qa) AH := (.call (Qa4 w) (C0) E8 fun r1 => (.num ((Qdy r1).length) (r1.length) (.as (a1 == (((r1.length) : Nat) : Int)) (.call (QaF w h0) (C1 h0) Ut fun r2 => (rt Xj (r2.1, r2.2))) (.call (GY w (w64 (a1 + 1)) h0) (C2 (w64 (a1 + 1)) h0) Xj fun r3 => (.call (Qa4 w) (C0) E8 fun r4 => (.as (decide (0 ≤ a1)) (.row ((Qdy r4)[(Int.toNat a1)]?) (r4[(Int.toNat a1)]?) Qis fun (e5 : (List Int)) => (.call (SS w e5 r3.2) (C3 e5 r3.2) YU fun r6 => (.loop (loopAt P 215 5) (Yd (QX.mk a1 r6.1 r6.2 (Qb.mk (zi 0) (zi 0) s_ ([] : List Qb)) r3.1)) (L4 (QX.mk a1 r6.1 r6.2 (Qb.mk (zi 0) (zi 0) s_ ([] : List Qb)) r3.1)) Ye (fun (o7 : JE) => (rt Xj (o7.h2, o7.h0)))))) .fail))))))
theorem QjA (w : Cf) (C0 : UL) (C1 : Vh) (C2 : QB) (C3 : Ju) (L4 : Xs) (a1 : Int) (h0 : Qa) : (F7 pp w C0 C1 C2 C3 L4 a1 h0).norm (bodyT pp w G 215 (F5 a1 h0).1 (F5 a1 h0).2) = F7 pp w C0 C1 C2 C3 L4 a1 h0 := by kernel_rfl
theorem QjB (P : Pg) (w : Cf) (lp : Lo) (C0 : UL) (C1 : Vh) (C2 : QB) (C3 : Ju) (L4 : Xs) (K0 : Qb0 w C0) (K1 : Qbf w C1) (K2 : YI w C2) (K3 : F3 w C3) (N4 : Qic P lp L4) (a1 : Int) (h0 : Qa) : (F7 P w C0 C1 C2 C3 L4 a1 h0).ok lp Xj := fun r1 hr1 => ⟨K0 _ hr1, ⟨(Qof _), ⟨rfl, fun hq0 => fun r2 hr2 => ⟨K1 _ _ hr2, rfl⟩, fun hq0 => fun r3 hr3 => ⟨K2 _ _ _ hr3, fun r4 hr4 => ⟨K0 _ hr4, ⟨rfl, fun hq1 => fun e5 he5 => ⟨Qkm he5, fun r6 hr6 => ⟨K3 _ _ _ hr6, fun o7 ho7 => ⟨N4 _ _ ho7, rfl⟩⟩⟩, fun hq1 => trivial⟩⟩⟩⟩⟩⟩
theorem Qed {C0 : Nat → UL} {D0 : UL} (H0 : Cv C0 D0) {C1 : Nat → Vh} {D1 : Vh} (H1 : Cv1 C1 D1) {C2 : Nat → QB} {D2 : QB} (H2 : Cv2 C2 D2) {C3 : Nat → Ju} {D3 : Ju} (H3 : Cv2 C3 D3) {L4 : Nat → Xs} {M4 : Xs} (N4 : Cv1 L4 M4) (a1 : Int) (h0 : Qa) : Cv (fun k => Yn (C0 k) (C1 k) (C2 k) (C3 k) (L4 k) a1 h0) (Yn D0 D1 D2 D3 M4 a1 h0) := by
  unfold Yn
  exact .bind (H0) fun r1 => .cond (.bind (H1 _) fun r2 => by exact .const _) (.bind (H2 _ _) fun r3 => .bind (H0) fun r4 => .cond (.bind (.const _) fun e5 => .bind (H3 _ _) fun r6 => .bind (N4 _) (fun o7 => by exact .const _)) (by exact .const _))
mutual
def Jv.s : Nat → Qa → Option (Qb × Qa)
  | 0, _ => none
  | k + 1, h0 => Yw (fun a1 h0 => Qi.s k a1 h0) (QH.s k) (Qk.s k) h0
termination_by structural k => k
def QM.s : Nat → Qa → Option (Qb × Qa)
  | 0, _ => none
  | k + 1, h0 => W3 (Qk.s k) (fun h0 => Jv.s k h0) h0
termination_by structural k => k
def Jw.s : Nat → Qa → Option (Qb × Qa)
  | 0, _ => none
  | k + 1, h0 => Yx (fun h0 => Qu.s k h0) h0
termination_by structural k => k
def Qz.s : Nat → Qa → Option (Qb × Qa)
  | 0, _ => none
  | k + 1, h0 => Wl (Qk.s k) (fun h0 => Jw.s k h0) h0
termination_by structural k => k
def Qu.s : Nat → Qa → Option (Qb × Qa)
  | 0, _ => none
  | k + 1, h0 => WB (QH.s k) (fun h0 => QM.s k h0) (fun h0 => Qz.s k h0) (JS.s k) (Zt.s k) (JA.s k) (JT.s k) (VD.s k) (UA.s k) (Xi.s k) (Qk.s k) h0
termination_by structural k => k
def Qi.s : Nat → Int → Qa → Option (Qb × Qa)
  | 0, _, _ => none
  | k + 1, a1, h0 => Yn (J7.s k) (fun h0 => Qu.s k h0) (fun a1 h0 => Qi.s k a1 h0) (QN.s k) (Q5.s k (fun a1 h0 => Qi.s k a1 h0) (J7.s k) (QN.s k)) a1 h0
termination_by structural k => k
end
theorem Qbt : ∀ (k : Nat), (QdS (ev k) (Jv.s k)) ∧ (QcJ (ev k) (QM.s k)) ∧ (QdT (ev k) (Jw.s k)) ∧ (Qbs (ev k) (Qz.s k)) ∧ (Qbf (ev k) (Qu.s k)) ∧ (YI (ev k) (Qi.s k))
  | 0 => ⟨fun _ _ h => (nomatch h), fun _ _ h => (nomatch h), fun _ _ h => (nomatch h), fun _ _ h => (nomatch h), fun _ _ h => (nomatch h), fun _ _ _ h => (nomatch h)⟩
  | k + 1 => by
    obtain ⟨i_expr_parser_group, i_expr_parser_within, i_expr_parser_minus, i_expr_parser_within_2, i_expr_parser_one, i_expr_parser_two⟩ := Qbt k
    exact ⟨fun h0 r h => fn_ok rfl (EW pp (ev k) (Qi.s k) (QH.s k) (Qk.s k) h0) (Qh8 _ _ _ _ h0) (Qh9 _ _ _ _ _ _ (i_expr_parser_two) (QH.ok k) (Qk.ok k)  h0) h,
      fun h0 r h => fn_ok rfl (Eb pp (ev k) (Qk.s k) (Jv.s k) h0) (Qhs _ _ _ h0) (Qht _ _ _ _ _ (Qk.ok k) (i_expr_parser_group)  h0) h,
      fun h0 r h => fn_ok rfl (EX pp (ev k) (Qu.s k) h0) (Qia _ _ h0) (Qib _ _ _ _ (i_expr_parser_one)  h0) h,
      fun h0 r h => fn_ok rfl (Gf pp (ev k) (Qk.s k) (Jw.s k) h0) (Qgp _ _ _ h0) (Qgq _ _ _ _ _ (Qk.ok k) (i_expr_parser_minus)  h0) h,
      fun h0 r h => fn_ok rfl (F6 pp (ev k) (QH.s k) (QM.s k) (Qz.s k) (JS.s k) (Zt.s k) (JA.s k) (JT.s k) (VD.s k) (UA.s k) (Xi.s k) (Qk.s k) h0) (Qjy _ _ _ _ _ _ _ _ _ _ _ _ h0) (Qjz _ _ _ _ _ _ _ _ _ _ _ _ _ _ (QH.ok k) (i_expr_parser_within) (i_expr_parser_within_2) (JS.ok k) (Zt.ok k) (JA.ok k) (JT.ok k) (VD.ok k) (UA.ok k) (Xi.ok k) (Qk.ok k)  h0) h,
      fun a1 h0 r h => fn_ok rfl (F7 pp (ev k) (J7.s k) (Qu.s k) (Qi.s k) (QN.s k) (Q5.s k (Qi.s k) (J7.s k) (QN.s k)) a1 h0) (QjA _ _ _ _ _ _ a1 h0) (QjB _ _ _ _ _ _ _ _ (J7.ok k) (i_expr_parser_one) (i_expr_parser_two) (QN.ok k) (QgX _ k _ _ _ (i_expr_parser_two) (J7.ok k) (QN.ok k)) a1 h0) h⟩
theorem Qi.ok (k : Nat) : YI (ev k) (Qi.s k) := (Qbt k).2.2.2.2.2
theorem Wm : ∀ (k : Nat), (∀ (h0 : Qa), Le (Jv.s k h0) (Jv.s (k + 1) h0)) ∧ (∀ (h0 : Qa), Le (QM.s k h0) (QM.s (k + 1) h0)) ∧ (∀ (h0 : Qa), Le (Jw.s k h0) (Jw.s (k + 1) h0)) ∧ (∀ (h0 : Qa), Le (Qz.s k h0) (Qz.s (k + 1) h0)) ∧ (∀ (h0 : Qa), Le (Qu.s k h0) (Qu.s (k + 1) h0)) ∧ (∀ (a1 : Int) (h0 : Qa), Le (Qi.s k a1 h0) (Qi.s (k + 1) a1 h0))
  | 0 => ⟨fun _ _ h => (nomatch h), fun _ _ h => (nomatch h), fun _ _ h => (nomatch h), fun _ _ h => (nomatch h), fun _ _ h => (nomatch h), fun _ _ _ h => (nomatch h)⟩
  | k + 1 => by
    obtain ⟨i_expr_parser_group, i_expr_parser_within, i_expr_parser_minus, i_expr_parser_within_2, i_expr_parser_one, i_expr_parser_two⟩ := Wm k
    exact ⟨fun h0 => (QcL (tw2 (i_expr_parser_two)) (tw2 (fun a1 h0 => (QH.cv a1 h0).1 k)) (tw1 (fun h0 => (Qk.cv h0).1 k)) h0).1 0,
      fun h0 => (Qcf (tw1 (fun h0 => (Qk.cv h0).1 k)) (tw1 (i_expr_parser_group)) h0).1 0,
      fun h0 => (QcM (tw1 (i_expr_parser_one)) h0).1 0,
      fun h0 => (QaS (tw1 (fun h0 => (Qk.cv h0).1 k)) (tw1 (i_expr_parser_minus)) h0).1 0,
      fun h0 => (Qec (tw2 (fun a1 h0 => (QH.cv a1 h0).1 k)) (tw1 (i_expr_parser_within)) (tw1 (i_expr_parser_within_2)) (tw1 (fun a0 => (JS.cv a0).1 k)) (tw1 (fun a0 => (Zt.cv a0).1 k)) (tw3 (fun a1 a2 h0 => (JA.cv a1 a2 h0).1 k)) (tw2 (fun a1 h0 => (JT.cv a1 h0).1 k)) (tw1 (fun a0 => (VD.cv a0).1 k)) (tw1 (fun a0 => (UA.cv a0).1 k)) (tw1 (fun a0 => (Xi.cv a0).1 k)) (tw1 (fun h0 => (Qk.cv h0).1 k)) h0).1 0,
      fun a1 h0 => (Qed (.two (J7.cv.1 k)) (tw1 (i_expr_parser_one)) (tw2 (i_expr_parser_two)) (tw2 (fun a1 h0 => (QN.cv a1 h0).1 k)) (tw1 (Q5.m (Nat.le_succ k) (Qi.s k) (J7.s k) (QN.s k) (Qi.s (k + 1)) (J7.s (k + 1)) (QN.s (k + 1)) (i_expr_parser_two) (J7.cv.1 k) (fun a1 h0 => (QN.cv a1 h0).1 k))) a1 h0).1 0⟩
theorem Jv.mono (k : Nat) : ∀ (h0 : Qa), Le (Jv.s k h0) (Jv.s (k + 1) h0) := (Wm k).1
theorem QM.mono (k : Nat) : ∀ (h0 : Qa), Le (QM.s k h0) (QM.s (k + 1) h0) := (Wm k).2.1
theorem Jw.mono (k : Nat) : ∀ (h0 : Qa), Le (Jw.s k h0) (Jw.s (k + 1) h0) := (Wm k).2.2.1
theorem Qz.mono (k : Nat) : ∀ (h0 : Qa), Le (Qz.s k h0) (Qz.s (k + 1) h0) := (Wm k).2.2.2.1
theorem Qu.mono (k : Nat) : ∀ (h0 : Qa), Le (Qu.s k h0) (Qu.s (k + 1) h0) := (Wm k).2.2.2.2.1
theorem Qi.mono (k : Nat) : ∀ (a1 : Int) (h0 : Qa), Le (Qi.s k a1 h0) (Qi.s (k + 1) a1 h0) := (Wm k).2.2.2.2.2
noncomputable def Jv (h0 : Qa) : Option (Qb × Qa) := lim fun k => Jv.s k h0
theorem Jv.cv (h0 : Qa) : Cv (fun k => Jv.s k h0) (Jv h0) := .lim fun k => Jv.mono k h0
noncomputable def QM (h0 : Qa) : Option (Qb × Qa) := lim fun k => QM.s k h0
theorem QM.cv (h0 : Qa) : Cv (fun k => QM.s k h0) (QM h0) := .lim fun k => QM.mono k h0
noncomputable def Jw (h0 : Qa) : Option (Qb × Qa) := lim fun k => Jw.s k h0
theorem Jw.cv (h0 : Qa) : Cv (fun k => Jw.s k h0) (Jw h0) := .lim fun k => Jw.mono k h0
noncomputable def Qz (h0 : Qa) : Option (Qb × Qa) := lim fun k => Qz.s k h0
theorem Qz.cv (h0 : Qa) : Cv (fun k => Qz.s k h0) (Qz h0) := .lim fun k => Qz.mono k h0
noncomputable def Qu (h0 : Qa) : Option (Qb × Qa) := lim fun k => Qu.s k h0
theorem Qu.cv (h0 : Qa) : Cv (fun k => Qu.s k h0) (Qu h0) := .lim fun k => Qu.mono k h0
noncomputable def Qi (a1 : Int) (h0 : Qa) : Option (Qb × Qa) := lim fun k => Qi.s k a1 h0
theorem Qi.cv (a1 : Int) (h0 : Qa) : Cv (fun k => Qi.s k a1 h0) (Qi a1 h0) := .lim fun k => Qi.mono k a1 h0
noncomputable def Q5 : QX → Option JE := Q5.w Qi J7 QN
theorem Q5.eq (a : QX) : Q5 a = (W4 Qi J7 QN a).bind (Sum.elim Q5 some) := loopW_eq _ _
theorem Jv.eq (h0 : Qa) : Jv h0 = Yw Qi QH Qk h0 := Cv.uniq (Jv.cv h0).shift (QcL Qi.cv QH.cv Qk.cv h0)
theorem QM.eq (h0 : Qa) : QM h0 = W3 Qk Jv h0 := Cv.uniq (QM.cv h0).shift (Qcf Qk.cv Jv.cv h0)
theorem Jw.eq (h0 : Qa) : Jw h0 = Yx Qu h0 := Cv.uniq (Jw.cv h0).shift (QcM Qu.cv h0)
theorem Qz.eq (h0 : Qa) : Qz h0 = Wl Qk Jw h0 := Cv.uniq (Qz.cv h0).shift (QaS Qk.cv Jw.cv h0)
theorem Qu.eq (h0 : Qa) : Qu h0 = WB QH QM Qz JS Zt JA JT VD UA Xi Qk h0 := Cv.uniq (Qu.cv h0).shift (Qec QH.cv QM.cv Qz.cv JS.cv Zt.cv JA.cv JT.cv VD.cv UA.cv Xi.cv Qk.cv h0)
theorem Qi.eq (a1 : Int) (h0 : Qa) : Qi a1 h0 = Yn J7 Qu Qi QN Q5 a1 h0 := Cv.uniq (Qi.cv a1 h0).shift (Qed J7.cv Qu.cv Qi.cv QN.cv (Q5.cv (fun k => Qi.s k) (fun k => J7.s k) (fun k => QN.s k) Qi J7 QN Qi.cv J7.cv QN.cv) a1 h0)
def Pj (r : (Qb × Bool)) : AV × Heap := (.tup [.agg (Q7 r.1), xo r.2], [])
abbrev FN := ByteArray → Option (Qb × Bool)
abbrev Qch (a0 : ByteArray) : List AV × Heap := ([xs a0], [])
abbrev Qi4 (w : Cf) (a0 : ByteArray) : Option AH := w 179 (Qch a0).1 (Qch a0).2
abbrev QjR (w : Cf) (c : FN) : Prop := ∀ (a0 : ByteArray) (r : (Qb × Bool)), c a0 = some r → Qi4 w a0 = some (Pj r)
def Ez (C0 : QB) (C1 : Uu) (a0 : ByteArray) : Option (Qb × Bool) := ((C0 (0 : Int) (Qa.mk a0 (0 : Int) false)).bind fun r1 => ((C1 r1.2).bind fun r2 => (bif r2.bad then (some ((Qb.mk (0 : Int) (0 : Int) s_ ([] : List Qb)), false)) else (bif (!(eqS r2.left s_)) then (some ((Qb.mk (0 : Int) (0 : Int) s_ ([] : List Qb)), false)) else (some (r1.1, true))))))
def Qci (P : Pg) (w : Cf) (C0 : QB) (C1 : Uu) (a0 : ByteArray) : Tr (Qb × Bool) AH := (.call (GY w (zi 0) (Qa.mk a0 (zi 0) false)) (C0 (zi 0) (Qa.mk a0 (zi 0) false)) Xj fun r1 => (.call (PD w r1.2) (C1 r1.2) Zc fun r2 => (.as r2.bad (yesN 5 r2.bad (.yes true (rt Pj ((Qb.mk (zi 0) (zi 0) s_ ([] : List Qb)), false)))) (noN 5 r2.bad (.as (!(eqS r2.left s_)) (rt Pj ((Qb.mk (zi 0) (zi 0) s_ ([] : List Qb)), false)) (rt Pj (r1.1, true)))))))
theorem QmT (w : Cf) (C0 : QB) (C1 : Uu) (a0 : ByteArray) : (Qci pp w C0 C1 a0).norm (bodyT pp w G 179 (Qch a0).1 (Qch a0).2) = Qci pp w C0 C1 a0 := by kernel_rfl
theorem QmU (P : Pg) (w : Cf) (lp : Lo) (C0 : QB) (C1 : Uu) (K0 : YI w C0) (K1 : Sj w C1) (a0 : ByteArray) : (Qci P w C0 C1 a0).ok lp Pj := fun r1 hr1 => ⟨K0 _ _ _ hr1, fun r2 hr2 => ⟨K1 _ _ hr2, ⟨rfl, fun hq0 => yesN_ok 5 (hq0) (⟨rfl, rfl⟩), fun hq0 => noN_ok 5 (hq0) (⟨rfl, fun hq1 => rfl, fun hq1 => rfl⟩)⟩⟩⟩
theorem QmV {C0 : Nat → QB} {D0 : QB} (H0 : Cv2 C0 D0) {C1 : Nat → Uu} {D1 : Uu} (H1 : Cv1 C1 D1) (a0 : ByteArray) : Cv (fun k => Ez (C0 k) (C1 k) a0) (Ez D0 D1 a0) := by
  unfold Ez
  exact .bind (H0 _ _) fun r1 => .bind (H1 _) fun r2 => by exact .const _
def Vw.s : Nat → ByteArray → Option (Qb × Bool)
  | 0, _ => none
  | k + 1, a0 => Ez (Qi.s k) (Q4.s k) a0
theorem Vw.ok : ∀ (k : Nat), QjR (ev k) (Vw.s k)
  | 0, _, _, h => (nomatch h)
  | k + 1, a0, r, h => fn_ok rfl (Qci pp (ev k) (Qi.s k) (Q4.s k) a0) (QmT _ _ _ a0) (QmU _ _ _ _ _ (Qi.ok k) (Q4.ok k)  a0) h
noncomputable def Vw (a0 : ByteArray) : Option (Qb × Bool) := Ez Qi Q4 a0
theorem Vw.cv (a0 : ByteArray) : Cv (fun k => Vw.s k a0) (Vw a0) := .un rfl (QmV Qi.cv Q4.cv a0)
theorem Vw.eq (a0 : ByteArray) : Vw a0 = Ez Qi Q4 a0 := rfl
def EY (r : (Bool × Qc)) : AV × Heap := (xo r.1, [(0, .box [0, 0, 0, 0, 0, 5] [xi r.2.x.Line, xs r.2.x.Label, xi r.2.x.Kind, xi r.2.x.Op, xs r.2.x.Text, .arr 2]), (2, .arr true 5 (Qo r.2.x.Args))])
abbrev U2 := ByteArray → Qc → Option (Bool × Qc)
abbrev EZ (a1 : ByteArray) (h0 : Qc) : List AV × Heap := ([.ptr 0 0, xs a1], [(0, .box [0, 0, 0, 0, 0, 5] [xi h0.x.Line, xs h0.x.Label, xi h0.x.Kind, xi h0.x.Op, xs h0.x.Text, .arr 1]), (1, .arr true 5 (Qo h0.x.Args))])
abbrev QcN (w : Cf) (a1 : ByteArray) (h0 : Qc) : Option AH := w 129 (EZ a1 h0).1 (EZ a1 h0).2
abbrev ST (w : Cf) (c : U2) : Prop := ∀ (a1 : ByteArray) (h0 : Qc) (r : (Bool × Qc)), c a1 h0 = some r → QcN w a1 h0 = some (EY r)
def Xt (C0 : FN) (a1 : ByteArray) (h0 : Qc) : Option (Bool × Qc) := ((C0 a1).bind fun r1 => (bif (decide ((h0.x.Args.length + [(Qg.mk (-1 : Int) r1.1)].length) * 64 ≤ most)) then (some (r1.2, (Qc.mk (Qf.mk h0.x.Line h0.x.Label h0.x.Kind h0.x.Op h0.x.Text (h0.x.Args ++ [(Qg.mk (-1 : Int) r1.1)]))))) else none))
def E1 (P : Pg) (w : Cf) (C0 : FN) (a1 : ByteArray) (h0 : Qc) : Tr (Bool × Qc) AH := (.call (Qi4 w a1) (C0 a1) Pj fun r1 => (.rows [[xi (-1 : Int), xi r1.1.Kind, xi r1.1.N, xs r1.1.Name, .sl (Uj r1.1.L)]] (Qo [(Qg.mk (-1 : Int) r1.1)]) (.yes (decide ((Qo [(Qg.mk (-1 : Int) r1.1)]).all (fun r => r.length == 5) = true)) (.ask (decide (((Qo h0.x.Args).length + (Qo [(Qg.mk (-1 : Int) r1.1)]).length) * 64 ≤ most)) (decide ((h0.x.Args.length + [(Qg.mk (-1 : Int) r1.1)].length) * 64 ≤ most)) (.rows ((Qo h0.x.Args) ++ (Qo [(Qg.mk (-1 : Int) r1.1)])) (Qo (h0.x.Args ++ [(Qg.mk (-1 : Int) r1.1)])) (rt EY (r1.2, (Qc.mk (Qf.mk h0.x.Line h0.x.Label h0.x.Kind h0.x.Op h0.x.Text (h0.x.Args ++ [(Qg.mk (-1 : Int) r1.1)])))))) .fail))))
theorem Qid (w : Cf) (C0 : FN) (a1 : ByteArray) (h0 : Qc) : (E1 pp w C0 a1 h0).norm (bodyT pp w G 129 (EZ a1 h0).1 (EZ a1 h0).2) = E1 pp w C0 a1 h0 := by kernel_rfl
theorem Qie (P : Pg) (w : Cf) (lp : Lo) (C0 : FN) (K0 : QjR w C0) (a1 : ByteArray) (h0 : Qc) : (E1 P w C0 a1 h0).ok lp EY := fun r1 hr1 => ⟨K0 _ _ hr1, ⟨(XZ [(Qg.mk (-1 : Int) r1.1)]), ⟨(decide_eq_true (Qa2 _)), ⟨(by rw [Wc, Wc]), fun hq0 => ⟨(Px _ _), rfl⟩, fun hq0 => trivial⟩⟩⟩⟩
theorem Qif {C0 : Nat → FN} {D0 : FN} (H0 : Cv1 C0 D0) (a1 : ByteArray) (h0 : Qc) : Cv (fun k => Xt (C0 k) a1 h0) (Xt D0 a1 h0) := by
  unfold Xt
  exact .bind (H0 _) fun r1 => by exact .const _
def JV.s : Nat → ByteArray → Qc → Option (Bool × Qc)
  | 0, _, _ => none
  | k + 1, a1, h0 => Xt (Vw.s k) a1 h0
theorem JV.ok : ∀ (k : Nat), ST (ev k) (JV.s k)
  | 0, _, _, _, h => (nomatch h)
  | k + 1, a1, h0, r, h => fn_ok rfl (E1 pp (ev k) (Vw.s k) a1 h0) (Qid _ _ a1 h0) (Qie _ _ _ _ (Vw.ok k)  a1 h0) h
noncomputable def JV (a1 : ByteArray) (h0 : Qc) : Option (Bool × Qc) := Xt Vw a1 h0
theorem JV.cv (a1 : ByteArray) (h0 : Qc) : Cv (fun k => JV.s k a1 h0) (JV a1 h0) := .un rfl (Qif Vw.cv a1 h0)
theorem JV.eq (a1 : ByteArray) (h0 : Qc) : JV a1 h0 = Xt Vw a1 h0 := rfl
def Fs (r : (Bool × Qc)) : AV × Heap := (xo r.1, [(0, .box [0, 0, 0, 0, 0, 5] [xi r.2.x.Line, xs r.2.x.Label, xi r.2.x.Kind, xi r.2.x.Op, xs r.2.x.Text, .arr 2]), (2, .arr true 5 (Qo r.2.x.Args))])
abbrev Vp := ByteArray → Qc → Option (Bool × Qc)
abbrev Ft (a1 : ByteArray) (h0 : Qc) : List AV × Heap := ([.ptr 0 0, xs a1], [(0, .box [0, 0, 0, 0, 0, 5] [xi h0.x.Line, xs h0.x.Label, xi h0.x.Kind, xi h0.x.Op, xs h0.x.Text, .arr 1]), (1, .arr true 5 (Qo h0.x.Args))])
abbrev QdU (w : Cf) (a1 : ByteArray) (h0 : Qc) : Option AH := w 131 (Ft a1 h0).1 (Ft a1 h0).2
abbrev QaG (w : Cf) (c : Vp) : Prop := ∀ (a1 : ByteArray) (h0 : Qc) (r : (Bool × Qc)), c a1 h0 = some r → QdU w a1 h0 = some (Fs r)
def XO (C0 : X8) (a1 : ByteArray) (h0 : Qc) : Option (Bool × Qc) := ((C0 a1).bind fun r1 => (some (r1, (Qc.mk (Qf.mk h0.x.Line h0.x.Label h0.x.Kind h0.x.Op a1 h0.x.Args)))))
def Fu (P : Pg) (w : Cf) (C0 : X8) (a1 : ByteArray) (h0 : Qc) : Tr (Bool × Qc) AH := (.call (Qgc w a1) (C0 a1) YB fun r1 => (rt Fs (r1, (Qc.mk (Qf.mk h0.x.Line h0.x.Label h0.x.Kind h0.x.Op a1 h0.x.Args)))))
theorem Qi5 (w : Cf) (C0 : X8) (a1 : ByteArray) (h0 : Qc) : (Fu pp w C0 a1 h0).norm (bodyT pp w G 131 (Ft a1 h0).1 (Ft a1 h0).2) = Fu pp w C0 a1 h0 := by kernel_rfl
theorem Qi6 (P : Pg) (w : Cf) (lp : Lo) (C0 : X8) (K0 : Qhe w C0) (a1 : ByteArray) (h0 : Qc) : (Fu P w C0 a1 h0).ok lp Fs := fun r1 hr1 => ⟨K0 _ _ hr1, rfl⟩
theorem Qi7 {C0 : Nat → X8} {D0 : X8} (H0 : Cv1 C0 D0) (a1 : ByteArray) (h0 : Qc) : Cv (fun k => XO (C0 k) a1 h0) (XO D0 a1 h0) := by
  unfold XO
  exact .bind (H0 _) fun r1 => by exact .const _
def Ue.s : Nat → ByteArray → Qc → Option (Bool × Qc)
  | 0, _, _ => none
  | k + 1, a1, h0 => XO (VC.s k) a1 h0
theorem Ue.ok : ∀ (k : Nat), QaG (ev k) (Ue.s k)
  | 0, _, _, _, h => (nomatch h)
  | k + 1, a1, h0, r, h => fn_ok rfl (Fu pp (ev k) (VC.s k) a1 h0) (Qi5 _ _ a1 h0) (Qi6 _ _ _ _ (VC.ok k)  a1 h0) h
noncomputable def Ue (a1 : ByteArray) (h0 : Qc) : Option (Bool × Qc) := XO VC a1 h0
theorem Ue.cv (a1 : ByteArray) (h0 : Qc) : Cv (fun k => Ue.s k a1 h0) (Ue a1 h0) := .un rfl (Qi7 VC.cv a1 h0)
theorem Ue.eq (a1 : ByteArray) (h0 : Qc) : Ue a1 h0 = XO VC a1 h0 := rfl
def Qas (r : Int) : AV × Heap := (.tup [.sc (.int .i64 r), .sc .nilIface], [])
def U9.s : Nat → ByteArray → Option Int
  | 0, _ => none
  | _ + 1, a0 => atoiS a0
theorem U9.ok : ∀ (k : Nat), ∀ (a0 : ByteArray) (r : Int), U9.s k a0 = some r → evalFn pp G k 241 [.sc (.string a0)] [] = some (Qas r)
  | 0, _, _, h => (nomatch h)
  | k + 1, a0, r, h => atoi_ok h
abbrev GO := ByteArray → Option Int
abbrev QgY (a0 : ByteArray) : List AV × Heap := ([xs a0], [])
abbrev QcU (w : Cf) (a0 : ByteArray) : Option AH := w 241 (QgY a0).1 (QgY a0).2
abbrev QlW (w : Cf) (c : GO) : Prop := ∀ (a0 : ByteArray) (r : Int), c a0 = some r → QcU w a0 = some (Qas r)
noncomputable def U9 (a0 : ByteArray) : Option Int := atoiS a0
theorem U9.mono (k : Nat) (a0 : ByteArray) : Le (U9.s k a0) (U9.s (k + 1) a0) := by
  cases k with
  | zero => exact fun r h => nomatch h
  | succ k => exact Le.refl _
theorem U9.cv (a0 : ByteArray) : Cv (fun k => U9.s k a0) (U9 a0) := ⟨fun k => U9.mono k a0, fun r => ⟨fun h => ⟨1, h⟩, fun ⟨k, h⟩ => by
  cases k with
  | zero => cases h
  | succ k => exact h⟩⟩
def WM (r : (Int × Bool)) : AV × Heap := (.tup [xi r.1, xo r.2], [])
abbrev ZW := ByteArray → Option (Int × Bool)
abbrev Sn (a0 : ByteArray) : List AV × Heap := ([xs a0], [])
abbrev QfH (w : Cf) (a0 : ByteArray) : Option AH := w 214 (Sn a0).1 (Sn a0).2
abbrev QgZ (w : Cf) (c : ZW) : Prop := ∀ (a0 : ByteArray) (r : (Int × Bool)), c a0 = some r → QfH w a0 = some (WM r)
def Ze (C0 : Wd) (C1 : GO) (a0 : ByteArray) : Option (Int × Bool) := (bif (decide (((a0.size : Nat) : Int) < 2)) then (some ((0 : Int), false)) else (bif (decide (((a0.size : Nat) : Int) > 3)) then (some ((0 : Int), false)) else (bif (decide (0 ≤ (0 : Int) ∧ (0 : Int) < ((a0.size : Nat) : Int))) then (bif (((a0.data.getD (Int.toNat 0) 0).toNat : Int) != 114) then (some ((0 : Int), false)) else (bif (decide (0 ≤ (1 : Int) ∧ (1 : Int) ≤ ((a0.size : Nat) : Int) ∧ ((a0.size : Nat) : Int) ≤ ((a0.size : Nat) : Int))) then ((C0 (a0.extract (Int.toNat 1) (Int.toNat ((a0.size : Nat) : Int)))).bind fun r1 => (bif (r1 != (w64 (((a0.size : Nat) : Int) - 1))) then (some ((0 : Int), false)) else (bif (((a0.size : Nat) : Int) == 3) then (bif (decide (0 ≤ (1 : Int) ∧ (1 : Int) < ((a0.size : Nat) : Int))) then (bif (((a0.data.getD (Int.toNat 1) 0).toNat : Int) == 48) then (some ((0 : Int), false)) else ((C1 (a0.extract (Int.toNat 1) (Int.toNat ((a0.size : Nat) : Int)))).bind fun r2 => (some (r2, (decide (r2 < 32)))))) else none) else ((C1 (a0.extract (Int.toNat 1) (Int.toNat ((a0.size : Nat) : Int)))).bind fun r3 => (some (r3, (decide (r3 < 32)))))))) else none)) else none)))
def So (P : Pg) (w : Cf) (C0 : Wd) (C1 : GO) (a0 : ByteArray) : Tr (Int × Bool) AH := (let u65 := (decide ((zz a0) < 2)); .as u65 (yesN 3 u65 (yesN 19 true (rt WM ((zi 0), false)))) (noN 3 u65 (let u64 := (decide ((zz a0) > 3)); .as u64 (yesN 3 u64 (yesN 15 true (rt WM ((zi 0), false)))) (.no u64 (.as (in1 (zi 0) (zz a0)) (noN 2 u64 (let u63 := ((gb a0 (zi 0)) != 114); .as u63 (yesN 7 u63 (yesN 7 true (rt WM ((zi 0), false)))) (.no u63 (let u62 := (in2 (zi 1) (zz a0) (zz a0)); .as u62 (.no u63 (.call (QcR w (cu a0 (zi 1) (zz a0))) (C0 (cu a0 (zi 1) (zz a0))) Pd fun r1 => (noN 5 u63 (let u61 := (r1 != (w64 ((zz a0) - 1))); .as u61 (yesN 5 u61 (.yes true (rt WM ((zi 0), false)))) (noN 3 u61 (let u60 := ((zz a0) == 3); .as u60 (.yes u60 (.as (in1 (zi 1) (zz a0)) (.yes u60 (.no u61 (.yes u60 (.no u61 (.as ((gb a0 (zi 1)) == 48) (rt WM ((zi 0), false)) (.yes u62 (.call (QcU w (cu a0 (zi 1) (zz a0))) (C1 (cu a0 (zi 1) (zz a0))) Qas fun r2 => (rt WM (r2, (decide (r2 < 32))))))))))) .fail)) (noN 2 u60 (.no u61 (.no u60 (.no u61 (.no false (.yes u62 (.call (QcU w (cu a0 (zi 1) (zz a0))) (C1 (cu a0 (zi 1) (zz a0))) Qas fun r3 => (rt WM (r3, (decide (r3 < 32))))))))))))))))) .fail)))) .fail)))))
theorem QkJ (w : Cf) (C0 : Wd) (C1 : GO) (a0 : ByteArray) : (So pp w C0 C1 a0).norm (bodyT pp w G 214 (Sn a0).1 (Sn a0).2) = So pp w C0 C1 a0 := by kernel_rfl
theorem QkK (P : Pg) (w : Cf) (lp : Lo) (C0 : Wd) (C1 : GO) (K0 : Qd3 w C0) (K1 : QlW w C1) (a0 : ByteArray) : (So P w C0 C1 a0).ok lp WM := ⟨rfl, fun hq0 => yesN_ok 3 (hq0) (yesN_ok 19 (rfl) (rfl)), fun hq0 => noN_ok 3 (hq0) (⟨rfl, fun hq1 => yesN_ok 3 (hq1) (yesN_ok 15 (rfl) (rfl)), fun hq1 => ⟨hq1, ⟨rfl, fun hq2 => noN_ok 2 (hq1) (⟨rfl, fun hq3 => yesN_ok 7 (hq3) (yesN_ok 7 (rfl) (rfl)), fun hq3 => ⟨hq3, ⟨rfl, fun hq4 => ⟨hq3, fun r1 hr1 => ⟨K0 _ _ hr1, noN_ok 5 (hq3) (⟨rfl, fun hq5 => yesN_ok 5 (hq5) (⟨rfl, rfl⟩), fun hq5 => noN_ok 3 (hq5) (⟨rfl, fun hq6 => ⟨hq6, ⟨rfl, fun hq7 => ⟨hq6, ⟨hq5, ⟨hq6, ⟨hq5, ⟨rfl, fun hq8 => rfl, fun hq8 => ⟨hq4, fun r2 hr2 => ⟨K1 _ _ hr2, rfl⟩⟩⟩⟩⟩⟩⟩, fun hq7 => trivial⟩⟩, fun hq6 => noN_ok 2 (hq6) (⟨hq5, ⟨hq6, ⟨hq5, ⟨rfl, ⟨hq4, fun r3 hr3 => ⟨K1 _ _ hr3, rfl⟩⟩⟩⟩⟩⟩)⟩)⟩)⟩⟩, fun hq4 => trivial⟩⟩⟩), fun hq2 => trivial⟩⟩⟩)⟩
theorem QkL {C0 : Nat → Wd} {D0 : Wd} (H0 : Cv1 C0 D0) {C1 : Nat → GO} {D1 : GO} (H1 : Cv1 C1 D1) (a0 : ByteArray) : Cv (fun k => Ze (C0 k) (C1 k) a0) (Ze D0 D1 a0) := by
  unfold Ze
  exact .cond (by exact .const _) (.cond (by exact .const _) (.cond (.cond (by exact .const _) (.cond (.bind (H0 _) fun r1 => .cond (by exact .const _) (.cond (.cond (.cond (by exact .const _) (.bind (H1 _) fun r2 => by exact .const _)) (by exact .const _)) (.bind (H1 _) fun r3 => by exact .const _))) (by exact .const _))) (by exact .const _)))
def Vq.s : Nat → ByteArray → Option (Int × Bool)
  | 0, _ => none
  | k + 1, a0 => Ze (Uo.s k) (U9.s k) a0
theorem Vq.ok : ∀ (k : Nat), QgZ (ev k) (Vq.s k)
  | 0, _, _, h => (nomatch h)
  | k + 1, a0, r, h => fn_ok rfl (So pp (ev k) (Uo.s k) (U9.s k) a0) (QkJ _ _ _ a0) (QkK _ _ _ _ _ (Uo.ok k) (U9.ok k)  a0) h
noncomputable def Vq (a0 : ByteArray) : Option (Int × Bool) := Ze Uo U9 a0
theorem Vq.cv (a0 : ByteArray) : Cv (fun k => Vq.s k a0) (Vq a0) := .un rfl (QkL Uo.cv U9.cv a0)
theorem Vq.eq (a0 : ByteArray) : Vq a0 = Ze Uo U9 a0 := rfl
def Gg (r : (Bool × Qc)) : AV × Heap := (xo r.1, [(0, .box [0, 0, 0, 0, 0, 5] [xi r.2.x.Line, xs r.2.x.Label, xi r.2.x.Kind, xi r.2.x.Op, xs r.2.x.Text, .arr 2]), (2, .arr true 5 (Qo r.2.x.Args))])
abbrev Ur := ByteArray → Qc → Option (Bool × Qc)
abbrev Gh (a1 : ByteArray) (h0 : Qc) : List AV × Heap := ([.ptr 0 0, xs a1], [(0, .box [0, 0, 0, 0, 0, 5] [xi h0.x.Line, xs h0.x.Label, xi h0.x.Kind, xi h0.x.Op, xs h0.x.Text, .arr 1]), (1, .arr true 5 (Qo h0.x.Args))])
abbrev QaT (w : Cf) (a1 : ByteArray) (h0 : Qc) : Option AH := w 178 (Gh a1 h0).1 (Gh a1 h0).2
abbrev Pk (w : Cf) (c : Ur) : Prop := ∀ (a1 : ByteArray) (h0 : Qc) (r : (Bool × Qc)), c a1 h0 = some r → QaT w a1 h0 = some (Gg r)
def Wn (C0 : ZW) (a1 : ByteArray) (h0 : Qc) : Option (Bool × Qc) := ((C0 a1).bind fun r1 => (bif (decide ((h0.x.Args.length + [(Qg.mk r1.1 (Qb.mk (0 : Int) (0 : Int) s_ ([] : List Qb)))].length) * 64 ≤ most)) then (some (r1.2, (Qc.mk (Qf.mk h0.x.Line h0.x.Label h0.x.Kind h0.x.Op h0.x.Text (h0.x.Args ++ [(Qg.mk r1.1 (Qb.mk (0 : Int) (0 : Int) s_ ([] : List Qb)))]))))) else none))
def Gi (P : Pg) (w : Cf) (C0 : ZW) (a1 : ByteArray) (h0 : Qc) : Tr (Bool × Qc) AH := (.call (QfH w a1) (C0 a1) WM fun r1 => (.rows [[xi r1.1, xi (zi 0), xi (zi 0), xs s_, .sl (Uj ([] : List Qb))]] (Qo [(Qg.mk r1.1 (Qb.mk (zi 0) (zi 0) s_ ([] : List Qb)))]) (.yes (decide ((Qo [(Qg.mk r1.1 (Qb.mk (zi 0) (zi 0) s_ ([] : List Qb)))]).all (fun r => r.length == 5) = true)) (.ask (decide (((Qo h0.x.Args).length + (Qo [(Qg.mk r1.1 (Qb.mk (zi 0) (zi 0) s_ ([] : List Qb)))]).length) * 64 ≤ most)) (decide ((h0.x.Args.length + [(Qg.mk r1.1 (Qb.mk (zi 0) (zi 0) s_ ([] : List Qb)))].length) * 64 ≤ most)) (.rows ((Qo h0.x.Args) ++ (Qo [(Qg.mk r1.1 (Qb.mk (zi 0) (zi 0) s_ ([] : List Qb)))])) (Qo (h0.x.Args ++ [(Qg.mk r1.1 (Qb.mk (zi 0) (zi 0) s_ ([] : List Qb)))])) (rt Gg (r1.2, (Qc.mk (Qf.mk h0.x.Line h0.x.Label h0.x.Kind h0.x.Op h0.x.Text (h0.x.Args ++ [(Qg.mk r1.1 (Qb.mk (zi 0) (zi 0) s_ ([] : List Qb)))])))))) .fail))))
theorem Qgr (w : Cf) (C0 : ZW) (a1 : ByteArray) (h0 : Qc) : (Gi pp w C0 a1 h0).norm (bodyT pp w G 178 (Gh a1 h0).1 (Gh a1 h0).2) = Gi pp w C0 a1 h0 := by kernel_rfl
theorem Qgs (P : Pg) (w : Cf) (lp : Lo) (C0 : ZW) (K0 : QgZ w C0) (a1 : ByteArray) (h0 : Qc) : (Gi P w C0 a1 h0).ok lp Gg := fun r1 hr1 => ⟨K0 _ _ hr1, ⟨(XZ [(Qg.mk r1.1 (Qb.mk (0 : Int) (0 : Int) s_ ([] : List Qb)))]), ⟨(decide_eq_true (Qa2 _)), ⟨(by rw [Wc, Wc]), fun hq0 => ⟨(Px _ _), rfl⟩, fun hq0 => trivial⟩⟩⟩⟩
theorem Qgt {C0 : Nat → ZW} {D0 : ZW} (H0 : Cv1 C0 D0) (a1 : ByteArray) (h0 : Qc) : Cv (fun k => Wn (C0 k) a1 h0) (Wn D0 a1 h0) := by
  unfold Wn
  exact .bind (H0 _) fun r1 => by exact .const _
def Jf.s : Nat → ByteArray → Qc → Option (Bool × Qc)
  | 0, _, _ => none
  | k + 1, a1, h0 => Wn (Vq.s k) a1 h0
theorem Jf.ok : ∀ (k : Nat), Pk (ev k) (Jf.s k)
  | 0, _, _, _, h => (nomatch h)
  | k + 1, a1, h0, r, h => fn_ok rfl (Gi pp (ev k) (Vq.s k) a1 h0) (Qgr _ _ a1 h0) (Qgs _ _ _ _ (Vq.ok k)  a1 h0) h
noncomputable def Jf (a1 : ByteArray) (h0 : Qc) : Option (Bool × Qc) := Wn Vq a1 h0
theorem Jf.cv (a1 : ByteArray) (h0 : Qc) : Cv (fun k => Jf.s k a1 h0) (Jf a1 h0) := .un rfl (Qgt Vq.cv a1 h0)
theorem Jf.eq (a1 : ByteArray) (h0 : Qc) : Jf a1 h0 = Wn Vq a1 h0 := rfl
def Zf (r : (Bool × Qc)) : AV × Heap := (xo r.1, [(1, .box [0, 0, 0, 0, 0, 5] [xi r.2.x.Line, xs r.2.x.Label, xi r.2.x.Kind, xi r.2.x.Op, xs r.2.x.Text, .arr 3]), (3, .arr true 5 (Qo r.2.x.Args))])
abbrev YW := (List ByteArray) → Qc → (List Nat) → Option (Bool × Qc)
abbrev Qeq (a0 : (List ByteArray)) (h1 : Qc) (r0 : (List Nat)) : List AV × Heap := ([.sl (Qh a0), .arr 0], [(0, .fs (some 1) (US r0)), (1, .box [0, 0, 0, 0, 0, 5] [xi h1.x.Line, xs h1.x.Label, xi h1.x.Kind, xi h1.x.Op, xs h1.x.Text, .arr 2]), (2, .arr true 5 (Qo h1.x.Args))])
abbrev Ed (w : Cf) (a0 : (List ByteArray)) (h1 : Qc) (r0 : (List Nat)) : Option AH := w 127 (Qeq a0 h1 r0).1 (Qeq a0 h1 r0).2
abbrev Qi8 (w : Cf) (c : YW) : Prop := ∀ (a0 : (List ByteArray)) (h1 : Qc) (r0 : (List Nat)) (r : (Bool × Qc)), c a0 h1 r0 = some r → Ed w a0 h1 r0 = some (Zf r)
structure JD where
  x0 : (List ByteArray)
  x5 : Bool
  x6 : Int
  h1 : Qc
  r4 : (List Nat)
structure Vi where
  x5 : Bool
  h1 : Qc
def Zz (a : JD) : St := { n := 31, nx := 5, env := [(0, .sl (Qh a.x0)), (1, .arr 4), (5, xo a.x5), (6, xi a.x6)], heap := [(1, .box [0, 0, 0, 0, 0, 5] [xi a.h1.x.Line, xs a.h1.x.Label, xi a.h1.x.Kind, xi a.h1.x.Op, xs a.h1.x.Text, .arr 3]), (3, .arr true 5 (Qo a.h1.x.Args)), (4, .fs (some 1) (US a.r4))] }
def E9 (a : Vi) : Ex × St := (.exit 0, { n := 31, nx := 4, env := [(5, xo a.x5)], heap := [(1, .box [0, 0, 0, 0, 0, 5] [xi a.h1.x.Line, xs a.h1.x.Label, xi a.h1.x.Kind, xi a.h1.x.Op, xs a.h1.x.Text, .arr 3]), (3, .arr true 5 (Qo a.h1.x.Args))] })
abbrev EA := JD → Option Vi
abbrev QmW (P : Pg) (lp : Lo) (l : EA) : Prop := ∀ (a : JD) (r : Vi), l a = some r → lp (loopAt P 127 3) (Zz a) = some (E9 r)
def WD (C0 : U2) (C1 : Vp) (C2 : Ur) (a : JD) : Option (JD ⊕ Vi) := (bif (decide (a.x6 < (((a.r4.length) : Nat) : Int))) then (bif a.x5 then (bif (decide (0 ≤ a.x6 ∧ a.x6 < ((a.r4.length : Nat) : Int))) then ((a.r4[(Int.toNat a.x6)]?).bind fun e1 => (bif (decide (e1 = 129)) then (bif (decide (0 ≤ a.x6)) then ((a.x0[(Int.toNat a.x6)]?).bind fun e2 => ((C0 e2 a.h1).bind fun r3 => (some (.inl (JD.mk a.x0 r3.1 (w64 (a.x6 + 1)) r3.2 a.r4))))) else none) else (bif (decide (e1 = 131)) then (bif (decide (0 ≤ a.x6)) then ((a.x0[(Int.toNat a.x6)]?).bind fun e4 => ((C1 e4 a.h1).bind fun r5 => (some (.inl (JD.mk a.x0 r5.1 (w64 (a.x6 + 1)) r5.2 a.r4))))) else none) else (bif (decide (e1 = 178)) then (bif (decide (0 ≤ a.x6)) then ((a.x0[(Int.toNat a.x6)]?).bind fun e6 => ((C2 e6 a.h1).bind fun r7 => (some (.inl (JD.mk a.x0 r7.1 (w64 (a.x6 + 1)) r7.2 a.r4))))) else none) else none)))) else none) else (some (.inr (Vi.mk a.x5 a.h1)))) else (some (.inr (Vi.mk a.x5 a.h1))))
def Qa6 (P : Pg) (w : Cf) (C0 : U2) (C1 : Vp) (C2 : Ur) (a : JD) : Tr (JD ⊕ Vi) XS := (.num ((US a.r4).length) (a.r4.length) (let u66 := (decide (a.x6 < (((a.r4.length) : Nat) : Int))); .as u66 (.yes u66 (.as a.x5 (.ask (in1 a.x6 (((US a.r4).length : Nat) : Int)) (in1 a.x6 ((a.r4.length : Nat) : Int)) (.row ((US a.r4)[(Int.toNat a.x6)]?) (a.r4[(Int.toNat a.x6)]?) Qir fun (e1 : Nat) => (.as (decide (e1 = 129)) (.as (decide (0 ≤ a.x6)) (.row ((Qh a.x0)[(Int.toNat a.x6)]?) (a.x0[(Int.toNat a.x6)]?) Vf fun (e2 : ByteArray) => (.call (QcN w e2 a.h1) (C0 e2 a.h1) EY fun r3 => (lf Zz (JD.mk a.x0 r3.1 (w64 (a.x6 + 1)) r3.2 a.r4)))) .fail) (.as (decide (e1 = 131)) (.as (decide (0 ≤ a.x6)) (.row ((Qh a.x0)[(Int.toNat a.x6)]?) (a.x0[(Int.toNat a.x6)]?) Vf fun (e4 : ByteArray) => (.call (QdU w e4 a.h1) (C1 e4 a.h1) Fs fun r5 => (lf Zz (JD.mk a.x0 r5.1 (w64 (a.x6 + 1)) r5.2 a.r4)))) .fail) (.as (decide (e1 = 178)) (.as (decide (0 ≤ a.x6)) (.row ((Qh a.x0)[(Int.toNat a.x6)]?) (a.x0[(Int.toNat a.x6)]?) Vf fun (e6 : ByteArray) => (.call (QaT w e6 a.h1) (C2 e6 a.h1) Gg fun r7 => (lf Zz (JD.mk a.x0 r7.1 (w64 (a.x6 + 1)) r7.2 a.r4)))) .fail) .fail)))) .fail) (rx E9 (Vi.mk a.x5 a.h1)))) (.no u66 (.no false (rx E9 (Vi.mk a.x5 a.h1))))))
theorem QlX (w : Cf) (C0 : U2) (C1 : Vp) (C2 : Ur) (a : JD) : (Qa6 pp w C0 C1 C2 a).norm (roundT pp G.kd w 3 (G.an 127) (loopAt pp 127 3) (Zz a)) = Qa6 pp w C0 C1 C2 a := by kernel_rfl
theorem QlY (P : Pg) (w : Cf) (lp : Lo) (C0 : U2) (C1 : Vp) (C2 : Ur) (K0 : ST w C0) (K1 : QaG w C1) (K2 : Pk w C2) (a : JD) : (Qa6 P w C0 C1 C2 a).ok lp (Sum.elim (fun a => (.norm, Zz a)) E9) := ⟨(G4 _), ⟨rfl, fun hq0 => ⟨hq0, ⟨rfl, fun hq1 => ⟨(by rw [G4]), fun hq2 => fun e1 he1 => ⟨Qoe he1, ⟨rfl, fun hq3 => ⟨rfl, fun hq4 => fun e2 he2 => ⟨VP he2, fun r3 hr3 => ⟨K0 _ _ _ hr3, rfl⟩⟩, fun hq4 => trivial⟩, fun hq3 => ⟨rfl, fun hq4 => ⟨rfl, fun hq5 => fun e4 he4 => ⟨VP he4, fun r5 hr5 => ⟨K1 _ _ _ hr5, rfl⟩⟩, fun hq5 => trivial⟩, fun hq4 => ⟨rfl, fun hq5 => ⟨rfl, fun hq6 => fun e6 he6 => ⟨VP he6, fun r7 hr7 => ⟨K2 _ _ _ hr7, rfl⟩⟩, fun hq6 => trivial⟩, fun hq5 => trivial⟩⟩⟩⟩, fun hq2 => trivial⟩, fun hq1 => rfl⟩⟩, fun hq0 => ⟨hq0, ⟨rfl, rfl⟩⟩⟩⟩
theorem QlZ {C0 : Nat → U2} {D0 : U2} (H0 : Cv2 C0 D0) {C1 : Nat → Vp} {D1 : Vp} (H1 : Cv2 C1 D1) {C2 : Nat → Ur} {D2 : Ur} (H2 : Cv2 C2 D2) (a : JD) : Cv (fun k => WD (C0 k) (C1 k) (C2 k) a) (WD D0 D1 D2 a) := by
  unfold WD
  exact .cond (.cond (.cond (.bind (.const _) fun e1 => .cond (.cond (.bind (.const _) fun e2 => .bind (H0 _ _) fun r3 => by exact .const _) (by exact .const _)) (.cond (.cond (.bind (.const _) fun e4 => .bind (H1 _ _) fun r5 => by exact .const _) (by exact .const _)) (.cond (.cond (.bind (.const _) fun e6 => .bind (H2 _ _) fun r7 => by exact .const _) (by exact .const _)) (by exact .const _)))) (by exact .const _)) (by exact .const _)) (by exact .const _)
def JN.s (k : Nat) (C0 : U2) (C1 : Vp) (C2 : Ur) : JD → Option Vi := iter (WD C0 C1 C2) k
theorem Qlk (w : Cf) (k : Nat) (C0 : U2) (C1 : Vp) (C2 : Ur) (K0 : ST w C0) (K1 : QaG w C1) (K2 : Pk w C2) (a : JD) (r : Vi) (h : JN.s k C0 C1 C2 a = some r) : loopsF pp G.kd w 3 (G.an 127) k (loopAt pp 127 3) (Zz a) = some (E9 r) :=
  loop_ok (fun a => Qa6 pp w C0 C1 C2 a) (fun _ => rfl) (fun a => QlX w _ _ _ a) (fun a => QlY _ w _ _ _ _ K0 K1 K2 a) (fun r => nofun) h
noncomputable def JN.w (C0 : U2) (C1 : Vp) (C2 : Ur) : JD → Option Vi := loopW (WD C0 C1 C2)
theorem JN.cv (C0 : Nat → U2) (C1 : Nat → Vp) (C2 : Nat → Ur) (D0 : U2) (D1 : Vp) (D2 : Ur) (H0 : Cv2 C0 D0) (H1 : Cv2 C1 D1) (H2 : Cv2 C2 D2) (a : JD) : Cv (fun k => JN.s k (C0 k) (C1 k) (C2 k) a) (JN.w D0 D1 D2 a) := Cv.iter (fun a => QlZ H0 H1 H2 a) a
def Fv (L0 : EA) (a0 : (List ByteArray)) (h1 : Qc) (r0 : (List Nat)) : Option (Bool × Qc) := ((L0 (JD.mk a0 ((((a0.length) : Nat) : Int) == (((r0.length) : Nat) : Int)) (0 : Int) h1 r0)).bind (fun (o1 : Vi) => (some (o1.x5, o1.h1))))
def Qer (P : Pg) (w : Cf) (L0 : EA) (a0 : (List ByteArray)) (h1 : Qc) (r0 : (List Nat)) : Tr (Bool × Qc) AH := (.num ((Qh a0).length) (a0.length) (.num ((US r0).length) (r0.length) (.loop (loopAt P 127 3) (Zz (JD.mk a0 ((((a0.length) : Nat) : Int) == (((r0.length) : Nat) : Int)) (zi 0) h1 r0)) (L0 (JD.mk a0 ((((a0.length) : Nat) : Int) == (((r0.length) : Nat) : Int)) (zi 0) h1 r0)) E9 (fun (o1 : Vi) => (rt Zf (o1.x5, o1.h1))))))
theorem Qon (w : Cf) (L0 : EA) (a0 : (List ByteArray)) (h1 : Qc) (r0 : (List Nat)) : (Qer pp w L0 a0 h1 r0).norm (bodyT pp w G 127 (Qeq a0 h1 r0).1 (Qeq a0 h1 r0).2) = Qer pp w L0 a0 h1 r0 := by kernel_rfl
theorem Qoo (P : Pg) (w : Cf) (lp : Lo) (L0 : EA) (N0 : QmW P lp L0) (a0 : (List ByteArray)) (h1 : Qc) (r0 : (List Nat)) : (Qer P w L0 a0 h1 r0).ok lp Zf := ⟨(Qr _), ⟨(G4 _), fun o1 ho1 => ⟨N0 _ _ ho1, rfl⟩⟩⟩
theorem Qop {L0 : Nat → EA} {M0 : EA} (N0 : Cv1 L0 M0) (a0 : (List ByteArray)) (h1 : Qc) (r0 : (List Nat)) : Cv (fun k => Fv (L0 k) a0 h1 r0) (Fv M0 a0 h1 r0) := by
  unfold Fv
  exact .bind (N0 _) (fun o1 => by exact .const _)
def Vj.s : Nat → (List ByteArray) → Qc → (List Nat) → Option (Bool × Qc)
  | 0, _, _, _ => none
  | k + 1, a0, h1, r0 => Fv (JN.s k (JV.s k) (Ue.s k) (Jf.s k)) a0 h1 r0
theorem Vj.ok : ∀ (k : Nat), Qi8 (ev k) (Vj.s k)
  | 0, _, _, _, _, h => (nomatch h)
  | k + 1, a0, h1, r0, r, h => fn_ok rfl (Qer pp (ev k) (JN.s k (JV.s k) (Ue.s k) (Jf.s k)) a0 h1 r0) (Qon _ _ a0 h1 r0) (Qoo _ _ _ _  (Qlk _ k _ _ _ (JV.ok k) (Ue.ok k) (Jf.ok k)) a0 h1 r0) h
noncomputable def JN : JD → Option Vi := JN.w JV Ue Jf
theorem JN.eq (a : JD) : JN a = (WD JV Ue Jf a).bind (Sum.elim JN some) := loopW_eq _ _
noncomputable def Vj (a0 : (List ByteArray)) (h1 : Qc) (r0 : (List Nat)) : Option (Bool × Qc) := Fv JN a0 h1 r0
theorem Vj.cv (a0 : (List ByteArray)) (h1 : Qc) (r0 : (List Nat)) : Cv (fun k => Vj.s k a0 h1 r0) (Vj a0 h1 r0) := .un rfl (Qop (JN.cv (fun k => JV.s k) (fun k => Ue.s k) (fun k => Jf.s k) JV Ue Jf JV.cv Ue.cv Jf.cv) a0 h1 r0)
theorem Vj.eq (a0 : (List ByteArray)) (h1 : Qc) (r0 : (List Nat)) : Vj a0 h1 r0 = Fv JN a0 h1 r0 := rfl
def Y4 (r : (Bool × Qc)) : AV × Heap := (xo r.1, [(0, .box [0, 0, 0, 0, 0, 5] [xi r.2.x.Line, xs r.2.x.Label, xi r.2.x.Kind, xi r.2.x.Op, xs r.2.x.Text, .arr 2]), (2, .arr true 5 (Qo r.2.x.Args))])
abbrev VU := (List ByteArray) → Qc → Option (Bool × Qc)
abbrev Y5 (a1 : (List ByteArray)) (h0 : Qc) : List AV × Heap := ([.ptr 0 0, .sl (Qh a1)], [(0, .box [0, 0, 0, 0, 0, 5] [xi h0.x.Line, xs h0.x.Label, xi h0.x.Kind, xi h0.x.Op, xs h0.x.Text, .arr 1]), (1, .arr true 5 (Qo h0.x.Args))])
abbrev Sq (w : Cf) (a1 : (List ByteArray)) (h0 : Qc) : Option AH := w 125 (Y5 a1 h0).1 (Y5 a1 h0).2
abbrev SU (w : Cf) (c : VU) : Prop := ∀ (a1 : (List ByteArray)) (h0 : Qc) (r : (Bool × Qc)), c a1 h0 = some r → Sq w a1 h0 = some (Y4 r)
structure Qq where
  x1 : (List ByteArray)
  x14 : (List ByteArray)
  x15 : Int
  x16 : Int
  h0 : Qc
  r3 : (List Nat)
structure Q9 where
  x1 : (List ByteArray)
  h0 : Qc
  r3 : (List Nat)
def Vk (a : Qq) : St := { n := 38, nx := 4, env := [(0, .ptr 0 0), (1, .sl (Qh a.x1)), (5, .arr 3), (14, .sl (Qh a.x14)), (15, xi a.x15), (16, xi a.x16)], heap := [(0, .box [0, 0, 0, 0, 0, 5] [xi a.h0.x.Line, xs a.h0.x.Label, xi a.h0.x.Kind, xi a.h0.x.Op, xs a.h0.x.Text, .arr 2]), (2, .arr true 5 (Qo a.h0.x.Args)), (3, .fs (some 0) (US a.r3))] }
def WJ (a : Q9) : Ex × St := (.exit 0, { n := 38, nx := 4, env := [(1, .sl (Qh a.x1)), (5, .arr 3)], heap := [(0, .box [0, 0, 0, 0, 0, 5] [xi a.h0.x.Line, xs a.h0.x.Label, xi a.h0.x.Kind, xi a.h0.x.Op, xs a.h0.x.Text, .arr 2]), (2, .arr true 5 (Qo a.h0.x.Args)), (3, .fs (some 0) (US a.r3))] })
abbrev Vu := Qq → Option Q9
abbrev QdV (P : Pg) (lp : Lo) (l : Vu) : Prop := ∀ (a : Qq) (r : Q9), l a = some r → lp (loopAt P 125 3) (Vk a) = some (WJ r)
def UM (C0 : Vo) (a : Qq) : Option (Qq ⊕ Q9) := (bif (decide (a.x16 < a.x15)) then (bif (decide (0 ≤ a.x16)) then ((a.x14[(Int.toNat a.x16)]?).bind fun e1 => (bif (decide (((h_20.size + e1.size : Nat) : Int) ≤ IntKind.i64.max)) then (bif (decide ((((h_20 ++ e1).size + h_20.size : Nat) : Int) ≤ IntKind.i64.max)) then ((C0 UV ((h_20 ++ e1) ++ h_20)).bind fun r2 => (bif r2 then (bif (decide ((a.r3.length + [178].length) * 8 ≤ most)) then (some (.inl (Qq.mk a.x1 a.x14 a.x15 (w64 (a.x16 + 1)) a.h0 (a.r3 ++ [178])))) else none) else (bif (decide ((a.r3.length + [129].length) * 8 ≤ most)) then (some (.inl (Qq.mk a.x1 a.x14 a.x15 (w64 (a.x16 + 1)) a.h0 (a.r3 ++ [129])))) else none))) else none) else none)) else none) else (some (.inr (Q9.mk a.x1 a.h0 a.r3))))
def Yf (P : Pg) (w : Cf) (C0 : Vo) (a : Qq) : Tr (Qq ⊕ Q9) XS := (.as (decide (a.x16 < a.x15)) (.as (decide (0 ≤ a.x16)) (.row ((Qh a.x14)[(Int.toNat a.x16)]?) (a.x14[(Int.toNat a.x16)]?) Vf fun (e1 : ByteArray) => (.as (decide (((h_20.size + e1.size : Nat) : Int) ≤ IntKind.i64.max)) (.as (decide ((((h_20 ++ e1).size + h_20.size : Nat) : Int) ≤ IntKind.i64.max)) (.call (QdO w UV ((h_20 ++ e1) ++ h_20)) (C0 UV ((h_20 ++ e1) ++ h_20)) SI fun r2 => (.as r2 (.rows [[.fn (.func 178) [] []]] (US [178]) (.yes (decide ((US [178]).all (fun r => r.length == 1) = true)) (.ask (decide (((US a.r3).length + (US [178]).length) * 8 ≤ most)) (decide ((a.r3.length + [178].length) * 8 ≤ most)) (.rows ((US a.r3) ++ (US [178])) (US (a.r3 ++ [178])) (lf Vk (Qq.mk a.x1 a.x14 a.x15 (w64 (a.x16 + 1)) a.h0 (a.r3 ++ [178])))) .fail))) (.rows [[.fn (.func 129) [] []]] (US [129]) (.yes (decide ((US [129]).all (fun r => r.length == 1) = true)) (.ask (decide (((US a.r3).length + (US [129]).length) * 8 ≤ most)) (decide ((a.r3.length + [129].length) * 8 ≤ most)) (.rows ((US a.r3) ++ (US [129])) (US (a.r3 ++ [129])) (lf Vk (Qq.mk a.x1 a.x14 a.x15 (w64 (a.x16 + 1)) a.h0 (a.r3 ++ [129])))) .fail))))) .fail) .fail)) .fail) (rx WJ (Q9.mk a.x1 a.h0 a.r3)))
theorem QcV (w : Cf) (C0 : Vo) (a : Qq) : (Yf pp w C0 a).norm (roundT pp G.kd w 2 (G.an 125) (loopAt pp 125 3) (Vk a)) = Yf pp w C0 a := by kernel_rfl
theorem QcW (P : Pg) (w : Cf) (lp : Lo) (C0 : Vo) (K0 : Qea w C0) (a : Qq) : (Yf P w C0 a).ok lp (Sum.elim (fun a => (.norm, Vk a)) WJ) := ⟨rfl, fun hq0 => ⟨rfl, fun hq1 => fun e1 he1 => ⟨VP he1, ⟨rfl, fun hq2 => ⟨rfl, fun hq3 => fun r2 hr2 => ⟨K0 _ _ _ hr2, ⟨rfl, fun hq4 => ⟨(Fb [178]), ⟨(decide_eq_true (Qha _)), ⟨(by rw [G4, G4]), fun hq5 => ⟨(Qd2 _ _), rfl⟩, fun hq5 => trivial⟩⟩⟩, fun hq4 => ⟨(Fb [129]), ⟨(decide_eq_true (Qha _)), ⟨(by rw [G4, G4]), fun hq5 => ⟨(Qd2 _ _), rfl⟩, fun hq5 => trivial⟩⟩⟩⟩⟩, fun hq3 => trivial⟩, fun hq2 => trivial⟩⟩, fun hq1 => trivial⟩, fun hq0 => rfl⟩
theorem QcX {C0 : Nat → Vo} {D0 : Vo} (H0 : Cv2 C0 D0) (a : Qq) : Cv (fun k => UM (C0 k) a) (UM D0 a) := by
  unfold UM
  exact .cond (.cond (.bind (.const _) fun e1 => .cond (.cond (.bind (H0 _ _) fun r2 => by exact .const _) (by exact .const _)) (by exact .const _)) (by exact .const _)) (by exact .const _)
def Qw.s (k : Nat) (C0 : Vo) : Qq → Option Q9 := iter (UM C0) k
theorem QcD (w : Cf) (k : Nat) (C0 : Vo) (K0 : Qea w C0) (a : Qq) (r : Q9) (h : Qw.s k C0 a = some r) : loopsF pp G.kd w 2 (G.an 125) k (loopAt pp 125 3) (Vk a) = some (WJ r) :=
  loop_ok (fun a => Yf pp w C0 a) (fun _ => rfl) (fun a => QcV w _ a) (fun a => QcW _ w _ _ K0 a) (fun r => nofun) h
noncomputable def Qw.w (C0 : Vo) : Qq → Option Q9 := loopW (UM C0)
theorem Qw.cv (C0 : Nat → Vo) (D0 : Vo) (H0 : Cv2 C0 D0) (a : Qq) : Cv (fun k => Qw.s k (C0 k) a) (Qw.w D0 a) := Cv.iter (fun a => QcX H0 a) a
def VJ (C0 : PC) (C1 : Zb) (C2 : YW) (L3 : Vu) (a1 : (List ByteArray)) (h0 : Qc) : Option (Bool × Qc) := ((C0 h0.x.Op).bind fun r1 => ((C1 r1).bind fun r2 => ((L3 (Qq.mk a1 r2 (((r2.length) : Nat) : Int) (0 : Int) h0 ([] : List Nat))).bind (fun (o3 : Q9) => ((C2 o3.x1 o3.h0 o3.r3).bind fun r4 => (some (r4.1, r4.2)))))))
def Y6 (P : Pg) (w : Cf) (C0 : PC) (C1 : Zb) (C2 : YW) (L3 : Vu) (a1 : (List ByteArray)) (h0 : Qc) : Tr (Bool × Qc) AH := (.call (QjP w h0.x.Op) (C0 h0.x.Op) Qde fun r1 => (.call (Qfb w r1) (C1 r1) Qbd fun r2 => (.num ((Qh r2).length) (r2.length) (.loop (loopAt P 125 3) (Vk (Qq.mk a1 r2 (((r2.length) : Nat) : Int) (zi 0) h0 ([] : List Nat))) (L3 (Qq.mk a1 r2 (((r2.length) : Nat) : Int) (zi 0) h0 ([] : List Nat))) WJ (fun (o3 : Q9) => (.call (Ed w o3.x1 o3.h0 o3.r3) (C2 o3.x1 o3.h0 o3.r3) Zf fun r4 => (rt Y4 (r4.1, r4.2))))))))
theorem Qes (w : Cf) (C0 : PC) (C1 : Zb) (C2 : YW) (L3 : Vu) (a1 : (List ByteArray)) (h0 : Qc) : (Y6 pp w C0 C1 C2 L3 a1 h0).norm (bodyT pp w G 125 (Y5 a1 h0).1 (Y5 a1 h0).2) = Y6 pp w C0 C1 C2 L3 a1 h0 := by kernel_rfl
theorem Qet (P : Pg) (w : Cf) (lp : Lo) (C0 : PC) (C1 : Zb) (C2 : YW) (L3 : Vu) (K0 : QkD w C0) (K1 : QkE w C1) (K2 : Qi8 w C2) (N3 : QdV P lp L3) (a1 : (List ByteArray)) (h0 : Qc) : (Y6 P w C0 C1 C2 L3 a1 h0).ok lp Y4 := fun r1 hr1 => ⟨K0 _ _ hr1, fun r2 hr2 => ⟨K1 _ _ hr2, ⟨(Qr _), fun o3 ho3 => ⟨N3 _ _ ho3, fun r4 hr4 => ⟨K2 _ _ _ _ hr4, rfl⟩⟩⟩⟩⟩
theorem Qeu {C0 : Nat → PC} {D0 : PC} (H0 : Cv1 C0 D0) {C1 : Nat → Zb} {D1 : Zb} (H1 : Cv1 C1 D1) {C2 : Nat → YW} {D2 : YW} (H2 : Cv3 C2 D2) {L3 : Nat → Vu} {M3 : Vu} (N3 : Cv1 L3 M3) (a1 : (List ByteArray)) (h0 : Qc) : Cv (fun k => VJ (C0 k) (C1 k) (C2 k) (L3 k) a1 h0) (VJ D0 D1 D2 M3 a1 h0) := by
  unfold VJ
  exact .bind (H0 _) fun r1 => .bind (H1 _) fun r2 => .bind (N3 _) (fun o3 => .bind (H2 _ _ _) fun r4 => by exact .const _)
def Jc.s : Nat → (List ByteArray) → Qc → Option (Bool × Qc)
  | 0, _, _ => none
  | k + 1, a1, h0 => VJ (Xg.s k) (UK.s k) (Vj.s k) (Qw.s k (JY.s k)) a1 h0
theorem Jc.ok : ∀ (k : Nat), SU (ev k) (Jc.s k)
  | 0, _, _, _, h => (nomatch h)
  | k + 1, a1, h0, r, h => fn_ok rfl (Y6 pp (ev k) (Xg.s k) (UK.s k) (Vj.s k) (Qw.s k (JY.s k)) a1 h0) (Qes _ _ _ _ _ a1 h0) (Qet _ _ _ _ _ _ _ (Xg.ok k) (UK.ok k) (Vj.ok k) (QcD _ k _ (JY.ok k)) a1 h0) h
noncomputable def Qw : Qq → Option Q9 := Qw.w JY
theorem Qw.eq (a : Qq) : Qw a = (UM JY a).bind (Sum.elim Qw some) := loopW_eq _ _
noncomputable def Jc (a1 : (List ByteArray)) (h0 : Qc) : Option (Bool × Qc) := VJ Xg UK Vj Qw a1 h0
theorem Jc.cv (a1 : (List ByteArray)) (h0 : Qc) : Cv (fun k => Jc.s k a1 h0) (Jc a1 h0) := .un rfl (Qeu Xg.cv UK.cv Vj.cv (Qw.cv (fun k => JY.s k) JY JY.cv) a1 h0)
theorem Jc.eq (a1 : (List ByteArray)) (h0 : Qc) : Jc a1 h0 = VJ Xg UK Vj Qw a1 h0 := rfl
def Qcj (r : (List ByteArray)) : AV × Heap := (.sl (Qh r), [])
abbrev FO := Option (List ByteArray)
abbrev Qck  : List AV × Heap := ([], [])
abbrev Qi9 (w : Cf)  : Option AH := w 111 (Qck ).1 (Qck ).2
abbrev QjS (w : Cf) (c : FO) : Prop := ∀  (r : (List ByteArray)), c = some r → Qi9 w  = some (Qcj r)
def Qff   : Option (List ByteArray) := (some [s_b, s_bl, s_bc])
def Qcl (P : Pg) (w : Cf)   : Tr (List ByteArray) AH := (.rows [[xs s_b], [xs s_bl], [xs s_bc]] (Qh [s_b, s_bl, s_bc]) (rt Qcj [s_b, s_bl, s_bc]))
theorem QmX (w : Cf)   : (Qcl pp w  ).norm (bodyT pp w G 111 (Qck ).1 (Qck ).2) = Qcl pp w   := by kernel_rfl
theorem QmY (P : Pg) (w : Cf) (lp : Lo)    : (Qcl P w  ).ok lp Qcj := ⟨(Un [s_b, s_bl, s_bc]), rfl⟩
def WC.s : Nat → Option (List ByteArray)
  | 0 => none
  | k + 1 => Qff  
theorem WC.ok : ∀ (k : Nat), QjS (ev k) (WC.s k)
  | 0, _, h => (nomatch h)
  | k + 1, r, h => fn_ok rfl (Qcl pp (ev k)  ) (QmX _  ) (QmY _ _ _    ) h
noncomputable def WC  : Option (List ByteArray) := Qff  
theorem WC.cv  : Cv (fun k => WC.s k ) (WC ) := .un rfl (by exact .const _)
theorem WC.eq  : WC  = Qff   := rfl
def Xd (r : Int) : AV × Heap := (xi r, [])
abbrev GP := (List ByteArray) → ByteArray → Option Int
abbrev Qat (a0 : (List ByteArray)) (a1 : ByteArray) : List AV × Heap := ([.sl (Qh a0), xs a1], [])
abbrev ZX (w : Cf) (a0 : (List ByteArray)) (a1 : ByteArray) : Option AH := w 126 (Qat a0 a1).1 (Qat a0 a1).2
abbrev QhM (w : Cf) (c : GP) : Prop := ∀ (a0 : (List ByteArray)) (a1 : ByteArray) (r : Int), c a0 a1 = some r → ZX w a0 a1 = some (Xd r)
structure Jx where
  x0 : (List ByteArray)
  x1 : ByteArray
  x7 : Int
  x8 : Int
def Zu (a : Jx) : St := { n := 19, nx := 0, env := [(0, .sl (Qh a.x0)), (1, xs a.x1), (7, xi a.x7), (8, xi a.x8)], heap := [] }
def QdW (a : Int) : Ex × St := (.ret, { n := 19, nx := 0, env := [(4, xi a)], heap := [] })
def QdX (a : Unit) : Ex × St := (.exit 0, { n := 19, nx := 0, env := [], heap := [] })
def GZ (a : (Int ⊕ Unit)) : Ex × St := Sum.elim QdW QdX a
abbrev YJ := Jx → Option (Int ⊕ Unit)
abbrev QjZ (P : Pg) (lp : Lo) (l : YJ) : Prop := ∀ (a : Jx) (r : (Int ⊕ Unit)), l a = some r → lp (loopAt P 126 2) (Zu a) = some (GZ r)
def G2  (a : Jx) : Option (Jx ⊕ (Int ⊕ Unit)) := (bif (decide (a.x8 < a.x7)) then (bif (decide (0 ≤ a.x8)) then ((a.x0[(Int.toNat a.x8)]?).bind fun e1 => (bif (eqS a.x1 e1) then (some (.inr (.inl a.x8))) else (some (.inl (Jx.mk a.x0 a.x1 a.x7 (w64 (a.x8 + 1))))))) else none) else (some (.inr (.inr ()))))
def F8 (P : Pg) (w : Cf)  (a : Jx) : Tr (Jx ⊕ (Int ⊕ Unit)) XS := (.as (decide (a.x8 < a.x7)) (.as (decide (0 ≤ a.x8)) (.row ((Qh a.x0)[(Int.toNat a.x8)]?) (a.x0[(Int.toNat a.x8)]?) Vf fun (e1 : ByteArray) => (.as (eqS a.x1 e1) (rx GZ (.inl a.x8)) (lf Zu (Jx.mk a.x0 a.x1 a.x7 (w64 (a.x8 + 1)))))) .fail) (rx GZ (.inr ())))
theorem QjC (w : Cf)  (a : Jx) : (F8 pp w  a).norm (roundT pp G.kd w 0 (G.an 126) (loopAt pp 126 2) (Zu a)) = F8 pp w  a := by kernel_rfl
theorem QjD (P : Pg) (w : Cf) (lp : Lo)   (a : Jx) : (F8 P w  a).ok lp (Sum.elim (fun a => (.norm, Zu a)) GZ) := ⟨rfl, fun hq0 => ⟨rfl, fun hq1 => fun e1 he1 => ⟨VP he1, ⟨rfl, fun hq2 => rfl, fun hq2 => rfl⟩⟩, fun hq1 => trivial⟩, fun hq0 => rfl⟩
def QR.s (k : Nat)  : Jx → Option (Int ⊕ Unit) := iter (G2 ) k
theorem Qja (w : Cf) (k : Nat)   (a : Jx) (r : (Int ⊕ Unit)) (h : QR.s k  a = some r) : loopsF pp G.kd w 0 (G.an 126) k (loopAt pp 126 2) (Zu a) = some (GZ r) :=
  loop_ok (fun a => F8 pp w  a) (fun _ => rfl) (fun a => QjC w  a) (fun a => QjD _ w _   a) (fun r => by cases r <;> nofun) h
noncomputable def QR.w  : Jx → Option (Int ⊕ Unit) := loopW (G2 )
theorem QR.cv    (a : Jx) : Cv (fun k => QR.s k  a) (QR.w  a) := Cv.iter (fun a => by exact .const _) a
def YX (L0 : YJ) (a0 : (List ByteArray)) (a1 : ByteArray) : Option Int := ((L0 (Jx.mk a0 a1 (((a0.length) : Nat) : Int) (0 : Int))).bind fun x => Sum.elim (fun (o1 : Int) => (some o1)) (fun (o2 : Unit) => (some (-1 : Int))) x)
def Qau (P : Pg) (w : Cf) (L0 : YJ) (a0 : (List ByteArray)) (a1 : ByteArray) : Tr Int AH := (.num ((Qh a0).length) (a0.length) (.loop2 (loopAt P 126 2) (Zu (Jx.mk a0 a1 (((a0.length) : Nat) : Int) (zi 0))) (L0 (Jx.mk a0 a1 (((a0.length) : Nat) : Int) (zi 0))) QdW QdX (fun (o1 : Int) => (rt Xd o1)) (fun (o2 : Unit) => (rt Xd (-1 : Int)))))
theorem Qll (w : Cf) (L0 : YJ) (a0 : (List ByteArray)) (a1 : ByteArray) : (Qau pp w L0 a0 a1).norm (bodyT pp w G 126 (Qat a0 a1).1 (Qat a0 a1).2) = Qau pp w L0 a0 a1 := by kernel_rfl
theorem Qlm (P : Pg) (w : Cf) (lp : Lo) (L0 : YJ) (N0 : QjZ P lp L0) (a0 : (List ByteArray)) (a1 : ByteArray) : (Qau P w L0 a0 a1).ok lp Xd := ⟨(Qr _), ⟨fun o1 ho1 => ⟨N0 _ (.inl _) ho1, rfl⟩, fun o2 ho2 => ⟨N0 _ (.inr _) ho2, rfl⟩⟩⟩
theorem Qln {L0 : Nat → YJ} {M0 : YJ} (N0 : Cv1 L0 M0) (a0 : (List ByteArray)) (a1 : ByteArray) : Cv (fun k => YX (L0 k) a0 a1) (YX M0 a0 a1) := by
  unfold YX
  exact .bind (N0 _) fun x => .sum (fun o1 => by exact .const _) (fun o2 => by exact .const _) x
def Va.s : Nat → (List ByteArray) → ByteArray → Option Int
  | 0, _, _ => none
  | k + 1, a0, a1 => YX (QR.s k) a0 a1
theorem Va.ok : ∀ (k : Nat), QhM (ev k) (Va.s k)
  | 0, _, _, _, h => (nomatch h)
  | k + 1, a0, a1, r, h => fn_ok rfl (Qau pp (ev k) (QR.s k) a0 a1) (Qll _ _ a0 a1) (Qlm _ _ _ _  (Qja _ k) a0 a1) h
noncomputable def QR : Jx → Option (Int ⊕ Unit) := QR.w 
theorem QR.eq (a : Jx) : QR a = (G2  a).bind (Sum.elim QR some) := loopW_eq _ _
noncomputable def Va (a0 : (List ByteArray)) (a1 : ByteArray) : Option Int := YX QR a0 a1
theorem Va.cv (a0 : (List ByteArray)) (a1 : ByteArray) : Cv (fun k => Va.s k a0 a1) (Va a0 a1) := .un rfl (Qln (QR.cv) a0 a1)
theorem Va.eq (a0 : (List ByteArray)) (a1 : ByteArray) : Va a0 a1 = YX QR a0 a1 := rfl
def Gj (r : (Qc × (List Nat))) : AV × Heap := (.arr 3, [(0, .box [0, 0, 0, 0, 0, 5] [xi r.1.x.Line, xs r.1.x.Label, xi r.1.x.Kind, xi r.1.x.Op, xs r.1.x.Text, .arr 2]), (2, .arr true 5 (Qo r.1.x.Args)), (3, .fs (some 0) (US r.2))])
abbrev PG := Int → Qc → Option (Qc × (List Nat))
abbrev Qdo (a1 : Int) (h0 : Qc) : List AV × Heap := ([.fn (.func 129) [.ptr 0 0] [], xi a1], [(0, .box [0, 0, 0, 0, 0, 5] [xi h0.x.Line, xs h0.x.Label, xi h0.x.Kind, xi h0.x.Op, xs h0.x.Text, .arr 1]), (1, .arr true 5 (Qo h0.x.Args))])
abbrev FP (w : Cf) (a1 : Int) (h0 : Qc) : Option AH := w 128 (Qdo a1 h0).1 (Qdo a1 h0).2
abbrev QkM (w : Cf) (c : PG) : Prop := ∀ (a1 : Int) (h0 : Qc) (r : (Qc × (List Nat))), c a1 h0 = some r → FP w a1 h0 = some (Gj r)
structure Ug where
  x6 : Int
  x7 : Int
  h0 : Qc
  r3 : (List Nat)
structure Vx where
  h0 : Qc
  r3 : (List Nat)
def Eq (a : Ug) : St := { n := 15, nx := 4, env := [(0, .fn (.func 129) [.ptr 0 0] []), (5, .arr 3), (6, xi a.x6), (7, xi a.x7)], heap := [(0, .box [0, 0, 0, 0, 0, 5] [xi a.h0.x.Line, xs a.h0.x.Label, xi a.h0.x.Kind, xi a.h0.x.Op, xs a.h0.x.Text, .arr 2]), (2, .arr true 5 (Qo a.h0.x.Args)), (3, .fs (some 0) (US a.r3))] }
def Pl (a : Vx) : Ex × St := (.exit 0, { n := 15, nx := 4, env := [(5, .arr 3)], heap := [(0, .box [0, 0, 0, 0, 0, 5] [xi a.h0.x.Line, xs a.h0.x.Label, xi a.h0.x.Kind, xi a.h0.x.Op, xs a.h0.x.Text, .arr 2]), (2, .arr true 5 (Qo a.h0.x.Args)), (3, .fs (some 0) (US a.r3))] })
abbrev GQ := Ug → Option Vx
abbrev Ql0 (P : Pg) (lp : Lo) (l : GQ) : Prop := ∀ (a : Ug) (r : Vx), l a = some r → lp (loopAt P 128 3) (Eq a) = some (Pl r)
def Pm  (a : Ug) : Option (Ug ⊕ Vx) := (bif (decide (a.x7 < a.x6)) then (bif (decide ((a.r3.length + [129].length) * 8 ≤ most)) then (some (.inl (Ug.mk a.x6 (w64 (a.x7 + 1)) a.h0 (a.r3 ++ [129])))) else none) else (some (.inr (Vx.mk a.h0 a.r3))))
def Qav (P : Pg) (w : Cf)  (a : Ug) : Tr (Ug ⊕ Vx) XS := (.as (decide (a.x7 < a.x6)) (.rows [[.fn (.func 129) [] []]] (US [129]) (.yes (decide ((US [129]).all (fun r => r.length == 1) = true)) (.ask (decide (((US a.r3).length + (US [129]).length) * 8 ≤ most)) (decide ((a.r3.length + [129].length) * 8 ≤ most)) (.rows ((US a.r3) ++ (US [129])) (US (a.r3 ++ [129])) (lf Eq (Ug.mk a.x6 (w64 (a.x7 + 1)) a.h0 (a.r3 ++ [129])))) .fail))) (rx Pl (Vx.mk a.h0 a.r3)))
theorem Qlo (w : Cf)  (a : Ug) : (Qav pp w  a).norm (roundT pp G.kd w 2 (G.an 128) (loopAt pp 128 3) (Eq a)) = Qav pp w  a := by kernel_rfl
theorem Qlp (P : Pg) (w : Cf) (lp : Lo)   (a : Ug) : (Qav P w  a).ok lp (Sum.elim (fun a => (.norm, Eq a)) Pl) := ⟨rfl, fun hq0 => ⟨(Fb [129]), ⟨(decide_eq_true (Qha _)), ⟨(by rw [G4, G4]), fun hq1 => ⟨(Qd2 _ _), rfl⟩, fun hq1 => trivial⟩⟩⟩, fun hq0 => rfl⟩
def UW.s (k : Nat)  : Ug → Option Vx := iter (Pm ) k
theorem QkN (w : Cf) (k : Nat)   (a : Ug) (r : Vx) (h : UW.s k  a = some r) : loopsF pp G.kd w 2 (G.an 128) k (loopAt pp 128 3) (Eq a) = some (Pl r) :=
  loop_ok (fun a => Qav pp w  a) (fun _ => rfl) (fun a => Qlo w  a) (fun a => Qlp _ w _   a) (fun r => nofun) h
noncomputable def UW.w  : Ug → Option Vx := loopW (Pm )
theorem UW.cv    (a : Ug) : Cv (fun k => UW.s k  a) (UW.w  a) := Cv.iter (fun a => by exact .const _) a
def FQ (L0 : GQ) (a1 : Int) (h0 : Qc) : Option (Qc × (List Nat)) := ((L0 (Ug.mk a1 (0 : Int) h0 ([] : List Nat))).bind (fun (o1 : Vx) => (some (o1.h0, o1.r3))))
def Qdp (P : Pg) (w : Cf) (L0 : GQ) (a1 : Int) (h0 : Qc) : Tr (Qc × (List Nat)) AH := (.loop (loopAt P 128 3) (Eq (Ug.mk a1 (zi 0) h0 ([] : List Nat))) (L0 (Ug.mk a1 (zi 0) h0 ([] : List Nat))) Pl (fun (o1 : Vx) => (rt Gj (o1.h0, o1.r3))))
theorem QnP (w : Cf) (L0 : GQ) (a1 : Int) (h0 : Qc) : (Qdp pp w L0 a1 h0).norm (bodyT pp w G 128 (Qdo a1 h0).1 (Qdo a1 h0).2) = Qdp pp w L0 a1 h0 := by kernel_rfl
theorem QnQ (P : Pg) (w : Cf) (lp : Lo) (L0 : GQ) (N0 : Ql0 P lp L0) (a1 : Int) (h0 : Qc) : (Qdp P w L0 a1 h0).ok lp Gj := fun o1 ho1 => ⟨N0 _ _ ho1, rfl⟩
theorem QnR {L0 : Nat → GQ} {M0 : GQ} (N0 : Cv1 L0 M0) (a1 : Int) (h0 : Qc) : Cv (fun k => FQ (L0 k) a1 h0) (FQ M0 a1 h0) := by
  unfold FQ
  exact .bind (N0 _) (fun o1 => by exact .const _)
def Wu.s : Nat → Int → Qc → Option (Qc × (List Nat))
  | 0, _, _ => none
  | k + 1, a1, h0 => FQ (UW.s k) a1 h0
theorem Wu.ok : ∀ (k : Nat), QkM (ev k) (Wu.s k)
  | 0, _, _, _, h => (nomatch h)
  | k + 1, a1, h0, r, h => fn_ok rfl (Qdp pp (ev k) (UW.s k) a1 h0) (QnP _ _ a1 h0) (QnQ _ _ _ _  (QkN _ k) a1 h0) h
noncomputable def UW : Ug → Option Vx := UW.w 
theorem UW.eq (a : Ug) : UW a = (Pm  a).bind (Sum.elim UW some) := loopW_eq _ _
noncomputable def Wu (a1 : Int) (h0 : Qc) : Option (Qc × (List Nat)) := FQ UW a1 h0
theorem Wu.cv (a1 : Int) (h0 : Qc) : Cv (fun k => Wu.s k a1 h0) (Wu a1 h0) := .un rfl (QnR (UW.cv) a1 h0)
theorem Wu.eq (a1 : Int) (h0 : Qc) : Wu a1 h0 = FQ UW a1 h0 := rfl
def XB (r : Bool) : AV × Heap := (xo r, [])
abbrev UC := Int → Option Bool
abbrev GG (a0 : Int) : List AV × Heap := ([xb a0], [])
abbrev Qbu (w : Cf) (a0 : Int) : Option AH := w 180 (GG a0).1 (GG a0).2
abbrev PH (w : Cf) (c : UC) : Prop := ∀ (a0 : Int) (r : Bool), c a0 = some r → Qbu w a0 = some (XB r)
def GH  (a0 : Int) : Option Bool := (bif (decide (a0 ≥ 32)) then (bif (decide (a0 ≤ (126 : Int))) then (some (a0 != 34)) else (some false)) else (some false))
def GI (P : Pg) (w : Cf)  (a0 : Int) : Tr Bool AH := (let u68 := (decide (a0 ≥ 32)); .as u68 (yesN 2 u68 (let u67 := (decide (a0 ≤ (zi 126))); .as u67 (yesN 2 u67 (rt XB (a0 != 34))) (noN 2 u67 (rt XB false)))) (noN 2 u68 (noN 3 false (rt XB false))))
theorem Qg0 (w : Cf)  (a0 : Int) : (GI pp w  a0).norm (bodyT pp w G 180 (GG a0).1 (GG a0).2) = GI pp w  a0 := by kernel_rfl
theorem Qg1 (P : Pg) (w : Cf) (lp : Lo)   (a0 : Int) : (GI P w  a0).ok lp XB := ⟨rfl, fun hq0 => yesN_ok 2 (hq0) (⟨rfl, fun hq1 => yesN_ok 2 (hq1) (rfl), fun hq1 => noN_ok 2 (hq1) (rfl)⟩), fun hq0 => noN_ok 2 (hq0) (noN_ok 3 (rfl) (rfl))⟩
def Jr.s : Nat → Int → Option Bool
  | 0, _ => none
  | k + 1, a0 => GH  a0
theorem Jr.ok : ∀ (k : Nat), PH (ev k) (Jr.s k)
  | 0, _, _, h => (nomatch h)
  | k + 1, a0, r, h => fn_ok rfl (GI pp (ev k)  a0) (Qg0 _  a0) (Qg1 _ _ _    a0) h
noncomputable def Jr (a0 : Int) : Option Bool := GH  a0
theorem Jr.cv (a0 : Int) : Cv (fun k => Jr.s k a0) (Jr a0) := .un rfl (by exact .const _)
theorem Jr.eq (a0 : Int) : Jr a0 = GH  a0 := rfl
def Qaw (r : Int) : AV × Heap := (xi r, [])
abbrev GR := ByteArray → Option Int
abbrev Qax (a0 : ByteArray) : List AV × Heap := ([xs a0, .fn (.func 180) [] []], [])
abbrev Qg2 (w : Cf) (a0 : ByteArray) : Option AH := w 72 (Qax a0).1 (Qax a0).2
abbrev QhN (w : Cf) (c : GR) : Prop := ∀ (a0 : ByteArray) (r : Int), c a0 = some r → Qg2 w a0 = some (Qaw r)
structure Jl where
  x0 : ByteArray
  x5 : Int
def Zv (a : Jl) : St := { n := 20, nx := 0, env := [(0, xs a.x0), (1, .fn (.func 180) [] []), (5, xi a.x5)], heap := [] }
def Zw (a : Int) : Ex × St := (.exit 0, { n := 20, nx := 0, env := [(5, xi a)], heap := [] })
abbrev YK := Jl → Option Int
abbrev Qj0 (P : Pg) (lp : Lo) (l : YK) : Prop := ∀ (a : Jl) (r : Int), l a = some r → lp (loopAt P 72 2) (Zv a) = some (Zw r)
def Yo (C0 : UC) (a : Jl) : Option (Jl ⊕ Int) := (bif (decide (a.x5 < ((a.x0.size : Nat) : Int))) then (bif (decide (0 ≤ a.x5 ∧ a.x5 < ((a.x0.size : Nat) : Int))) then ((C0 ((a.x0.data.getD (Int.toNat a.x5) 0).toNat : Int)).bind fun r1 => (bif r1 then (some (.inl (Jl.mk a.x0 (w64 (a.x5 + 1))))) else (some (.inr a.x5)))) else none) else (some (.inr a.x5)))
def F9 (P : Pg) (w : Cf) (C0 : UC) (a : Jl) : Tr (Jl ⊕ Int) XS := (let u69 := (decide (a.x5 < (zz a.x0))); .as u69 (yesN 3 u69 (.as (in1 a.x5 (zz a.x0)) (.yes u69 (.call (Qbu w (gb a.x0 a.x5)) (C0 (gb a.x0 a.x5)) XB fun r1 => (.yes u69 (.as r1 (lf Zv (Jl.mk a.x0 (w64 (a.x5 + 1)))) (rx Zw a.x5))))) .fail)) (noN 5 u69 (.no false (rx Zw a.x5))))
theorem QjE (w : Cf) (C0 : UC) (a : Jl) : (F9 pp w C0 a).norm (roundT pp G.kd w 0 (G.an 72) (loopAt pp 72 2) (Zv a)) = F9 pp w C0 a := by kernel_rfl
theorem QjF (P : Pg) (w : Cf) (lp : Lo) (C0 : UC) (K0 : PH w C0) (a : Jl) : (F9 P w C0 a).ok lp (Sum.elim (fun a => (.norm, Zv a)) Zw) := ⟨rfl, fun hq0 => yesN_ok 3 (hq0) (⟨rfl, fun hq1 => ⟨hq0, fun r1 hr1 => ⟨K0 _ _ hr1, ⟨hq0, ⟨rfl, fun hq2 => rfl, fun hq2 => rfl⟩⟩⟩⟩, fun hq1 => trivial⟩), fun hq0 => noN_ok 5 (hq0) (⟨rfl, rfl⟩)⟩
theorem QjG {C0 : Nat → UC} {D0 : UC} (H0 : Cv1 C0 D0) (a : Jl) : Cv (fun k => Yo (C0 k) a) (Yo D0 a) := by
  unfold Yo
  exact .cond (.cond (.bind (H0 _) fun r1 => by exact .const _) (by exact .const _)) (by exact .const _)
def UI.s (k : Nat) (C0 : UC) : Jl → Option Int := iter (Yo C0) k
theorem Qjb (w : Cf) (k : Nat) (C0 : UC) (K0 : PH w C0) (a : Jl) (r : Int) (h : UI.s k C0 a = some r) : loopsF pp G.kd w 0 (G.an 72) k (loopAt pp 72 2) (Zv a) = some (Zw r) :=
  loop_ok (fun a => F9 pp w C0 a) (fun _ => rfl) (fun a => QjE w _ a) (fun a => QjF _ w _ _ K0 a) (fun r => nofun) h
noncomputable def UI.w (C0 : UC) : Jl → Option Int := loopW (Yo C0)
theorem UI.cv (C0 : Nat → UC) (D0 : UC) (H0 : Cv1 C0 D0) (a : Jl) : Cv (fun k => UI.s k (C0 k) a) (UI.w D0 a) := Cv.iter (fun a => QjG H0 a) a
def ZY (L0 : YK) (a0 : ByteArray) : Option Int := ((L0 (Jl.mk a0 (0 : Int))).bind (fun (o1 : Int) => (some o1)))
def Qay (P : Pg) (w : Cf) (L0 : YK) (a0 : ByteArray) : Tr Int AH := (.loop (loopAt P 72 2) (Zv (Jl.mk a0 (zi 0))) (L0 (Jl.mk a0 (zi 0))) Zw (fun (o1 : Int) => (rt Qaw o1)))
theorem Qlq (w : Cf) (L0 : YK) (a0 : ByteArray) : (Qay pp w L0 a0).norm (bodyT pp w G 72 (Qax a0).1 (Qax a0).2) = Qay pp w L0 a0 := by kernel_rfl
theorem Qlr (P : Pg) (w : Cf) (lp : Lo) (L0 : YK) (N0 : Qj0 P lp L0) (a0 : ByteArray) : (Qay P w L0 a0).ok lp Qaw := fun o1 ho1 => ⟨N0 _ _ ho1, rfl⟩
theorem Qls {L0 : Nat → YK} {M0 : YK} (N0 : Cv1 L0 M0) (a0 : ByteArray) : Cv (fun k => ZY (L0 k) a0) (ZY M0 a0) := by
  unfold ZY
  exact .bind (N0 _) (fun o1 => by exact .const _)
def VG.s : Nat → ByteArray → Option Int
  | 0, _ => none
  | k + 1, a0 => ZY (UI.s k (Jr.s k)) a0
theorem VG.ok : ∀ (k : Nat), QhN (ev k) (VG.s k)
  | 0, _, _, h => (nomatch h)
  | k + 1, a0, r, h => fn_ok rfl (Qay pp (ev k) (UI.s k (Jr.s k)) a0) (Qlq _ _ a0) (Qlr _ _ _ _  (Qjb _ k _ (Jr.ok k)) a0) h
noncomputable def UI : Jl → Option Int := UI.w Jr
theorem UI.eq (a : Jl) : UI a = (Yo Jr a).bind (Sum.elim UI some) := loopW_eq _ _
noncomputable def VG (a0 : ByteArray) : Option Int := ZY UI a0
theorem VG.cv (a0 : ByteArray) : Cv (fun k => VG.s k a0) (VG a0) := .un rfl (Qls (UI.cv (fun k => Jr.s k) Jr Jr.cv) a0)
theorem VG.eq (a0 : ByteArray) : VG a0 = ZY UI a0 := rfl
def Wv (r : (Bool × Qc)) : AV × Heap := (xo r.1, [(0, .box [0, 0, 0, 0, 0, 5] [xi r.2.x.Line, xs r.2.x.Label, xi r.2.x.Kind, xi r.2.x.Op, xs r.2.x.Text, .arr 2]), (2, .arr true 5 (Qo r.2.x.Args))])
abbrev XP := ByteArray → Qc → Option (Bool × Qc)
abbrev E2 (a1 : ByteArray) (h0 : Qc) : List AV × Heap := ([.ptr 0 0, xs a1], [(0, .box [0, 0, 0, 0, 0, 5] [xi h0.x.Line, xs h0.x.Label, xi h0.x.Kind, xi h0.x.Op, xs h0.x.Text, .arr 1]), (1, .arr true 5 (Qo h0.x.Args))])
abbrev QcO (w : Cf) (a1 : ByteArray) (h0 : Qc) : Option AH := w 130 (E2 a1 h0).1 (E2 a1 h0).2
abbrev QdY (w : Cf) (c : XP) : Prop := ∀ (a1 : ByteArray) (h0 : Qc) (r : (Bool × Qc)), c a1 h0 = some r → QcO w a1 h0 = some (Wv r)
def Xu (C0 : GR) (a1 : ByteArray) (h0 : Qc) : Option (Bool × Qc) := (bif (decide (((a1.size : Nat) : Int) < 2)) then (some (false, h0)) else (bif (decide (((a1.size : Nat) : Int) > 62)) then (some (false, h0)) else (bif (decide (0 ≤ (0 : Int) ∧ (0 : Int) < ((a1.size : Nat) : Int))) then (bif (((a1.data.getD (Int.toNat 0) 0).toNat : Int) != 34) then (some (false, h0)) else (bif (decide (0 ≤ (w64 (((a1.size : Nat) : Int) - 1)) ∧ (w64 (((a1.size : Nat) : Int) - 1)) < ((a1.size : Nat) : Int))) then (bif (((a1.data.getD (Int.toNat (w64 (((a1.size : Nat) : Int) - 1))) 0).toNat : Int) != 34) then (some (false, h0)) else (bif (decide (0 ≤ (1 : Int) ∧ (1 : Int) ≤ (w64 (((a1.size : Nat) : Int) - 1)) ∧ (w64 (((a1.size : Nat) : Int) - 1)) ≤ ((a1.size : Nat) : Int))) then ((C0 (a1.extract (Int.toNat 1) (Int.toNat (w64 (((a1.size : Nat) : Int) - 1))))).bind fun r1 => (some ((r1 == (((a1.extract (Int.toNat 1) (Int.toNat (w64 (((a1.size : Nat) : Int) - 1)))).size : Nat) : Int)), (Qc.mk (Qf.mk h0.x.Line h0.x.Label h0.x.Kind h0.x.Op (a1.extract (Int.toNat 1) (Int.toNat (w64 (((a1.size : Nat) : Int) - 1)))) h0.x.Args))))) else none)) else none)) else none)))
def E3 (P : Pg) (w : Cf) (C0 : GR) (a1 : ByteArray) (h0 : Qc) : Tr (Bool × Qc) AH := (let u72 := (decide ((zz a1) < 2)); .as u72 (yesN 3 u72 (yesN 12 true (rt Wv (false, h0)))) (noN 3 u72 (let u71 := (decide ((zz a1) > 62)); .as u71 (yesN 3 u71 (yesN 8 true (rt Wv (false, h0)))) (.no u71 (.as (in1 (zi 0) (zz a1)) (noN 2 u71 (let u70 := ((gb a1 (zi 0)) != 34); .as u70 (yesN 6 u70 (.yes true (rt Wv (false, h0)))) (noN 4 u70 (.as (in1 (w64 ((zz a1) - 1)) (zz a1)) (noN 2 u70 (.as ((gb a1 (w64 ((zz a1) - 1))) != 34) (rt Wv (false, h0)) (.as (in2 (zi 1) (w64 ((zz a1) - 1)) (zz a1)) (.call (Qg2 w (cu a1 (zi 1) (w64 ((zz a1) - 1)))) (C0 (cu a1 (zi 1) (w64 ((zz a1) - 1)))) Qaw fun r1 => (rt Wv ((r1 == (zz (cu a1 (zi 1) (w64 ((zz a1) - 1))))), (Qc.mk (Qf.mk h0.x.Line h0.x.Label h0.x.Kind h0.x.Op (cu a1 (zi 1) (w64 ((zz a1) - 1))) h0.x.Args))))) .fail))) .fail)))) .fail)))))
theorem Qig (w : Cf) (C0 : GR) (a1 : ByteArray) (h0 : Qc) : (E3 pp w C0 a1 h0).norm (bodyT pp w G 130 (E2 a1 h0).1 (E2 a1 h0).2) = E3 pp w C0 a1 h0 := by kernel_rfl
theorem Qih (P : Pg) (w : Cf) (lp : Lo) (C0 : GR) (K0 : QhN w C0) (a1 : ByteArray) (h0 : Qc) : (E3 P w C0 a1 h0).ok lp Wv := ⟨rfl, fun hq0 => yesN_ok 3 (hq0) (yesN_ok 12 (rfl) (rfl)), fun hq0 => noN_ok 3 (hq0) (⟨rfl, fun hq1 => yesN_ok 3 (hq1) (yesN_ok 8 (rfl) (rfl)), fun hq1 => ⟨hq1, ⟨rfl, fun hq2 => noN_ok 2 (hq1) (⟨rfl, fun hq3 => yesN_ok 6 (hq3) (⟨rfl, rfl⟩), fun hq3 => noN_ok 4 (hq3) (⟨rfl, fun hq4 => noN_ok 2 (hq3) (⟨rfl, fun hq5 => rfl, fun hq5 => ⟨rfl, fun hq6 => fun r1 hr1 => ⟨K0 _ _ hr1, rfl⟩, fun hq6 => trivial⟩⟩), fun hq4 => trivial⟩)⟩), fun hq2 => trivial⟩⟩⟩)⟩
theorem Qii {C0 : Nat → GR} {D0 : GR} (H0 : Cv1 C0 D0) (a1 : ByteArray) (h0 : Qc) : Cv (fun k => Xu (C0 k) a1 h0) (Xu D0 a1 h0) := by
  unfold Xu
  exact .cond (by exact .const _) (.cond (by exact .const _) (.cond (.cond (by exact .const _) (.cond (.cond (by exact .const _) (.cond (.bind (H0 _) fun r1 => by exact .const _) (by exact .const _))) (by exact .const _))) (by exact .const _)))
def Uk.s : Nat → ByteArray → Qc → Option (Bool × Qc)
  | 0, _, _ => none
  | k + 1, a1, h0 => Xu (VG.s k) a1 h0
theorem Uk.ok : ∀ (k : Nat), QdY (ev k) (Uk.s k)
  | 0, _, _, _, h => (nomatch h)
  | k + 1, a1, h0, r, h => fn_ok rfl (E3 pp (ev k) (VG.s k) a1 h0) (Qig _ _ a1 h0) (Qih _ _ _ _ (VG.ok k)  a1 h0) h
noncomputable def Uk (a1 : ByteArray) (h0 : Qc) : Option (Bool × Qc) := Xu VG a1 h0
theorem Uk.cv (a1 : ByteArray) (h0 : Qc) : Cv (fun k => Uk.s k a1 h0) (Uk a1 h0) := .un rfl (Qii VG.cv a1 h0)
theorem Uk.eq (a1 : ByteArray) (h0 : Qc) : Uk a1 h0 = Xu VG a1 h0 := rfl
def QG (r : (Bool × Qc)) : AV × Heap := (xo r.1, [(0, .box [0, 0, 0, 0, 0, 5] [xi r.2.x.Line, xs r.2.x.Label, xi r.2.x.Kind, xi r.2.x.Op, xs r.2.x.Text, .arr 2]), (2, .arr true 5 (Qo r.2.x.Args))])
abbrev Wo := ByteArray → ByteArray → Qc → Option (Bool × Qc)
abbrev ZG (a1 : ByteArray) (a2 : ByteArray) (h0 : Qc) : List AV × Heap := ([.ptr 0 0, xs a1, xs a2], [(0, .box [0, 0, 0, 0, 0, 5] [xi h0.x.Line, xs h0.x.Label, xi h0.x.Kind, xi h0.x.Op, xs h0.x.Text, .arr 1]), (1, .arr true 5 (Qo h0.x.Args))])
abbrev ZH (w : Cf) (a1 : ByteArray) (a2 : ByteArray) (h0 : Qc) : Option AH := w 76 (ZG a1 a2 h0).1 (ZG a1 a2 h0).2
abbrev QaU (w : Cf) (c : Wo) : Prop := ∀ (a1 : ByteArray) (a2 : ByteArray) (h0 : Qc) (r : (Bool × Qc)), c a1 a2 h0 = some r → ZH w a1 a2 h0 = some (QG r)
def Wb (C0 : ZT) (C1 : SG) (C2 : VU) (C3 : FO) (C4 : GP) (C5 : PG) (C6 : YW) (C7 : XP) (a1 : ByteArray) (a2 : ByteArray) (h0 : Qc) : Option (Bool × Qc) := ((C0 a2).bind fun r1 => ((C1 a1).bind fun r2 => (bif r2.2 then ((C2 r1 (Qc.mk (Qf.mk h0.x.Line h0.x.Label (1 : Int) r2.1 h0.x.Text h0.x.Args))).bind fun r3 => (some (r3.1, r3.2))) else ((C3).bind fun r4 => ((C4 r4 a1).bind fun r5 => (bif (decide (r5 ≥ 0)) then ((C5 (w64 ((1 : Int) + (w64 ((w64 (Int.tdiv r5 (2 : Int))) * (2 : Int))))) (Qc.mk (Qf.mk h0.x.Line h0.x.Label (2 : Int) r5 h0.x.Text h0.x.Args))).bind fun r6 => ((C6 r1 r6.1 r6.2).bind fun r7 => (some (r7.1, r7.2)))) else (bif (eqS a1 QD) then ((C4 [QD, QE, QF] a1).bind fun r8 => (bif (decide ((((r1.length) : Nat) : Int) ≥ 1)) then (bif (decide ((((r1.length) : Nat) : Int) ≤ 16)) then ((C5 (((r1.length) : Nat) : Int) (Qc.mk (Qf.mk h0.x.Line h0.x.Label (w64 ((3 : Int) + r8)) h0.x.Op h0.x.Text h0.x.Args))).bind fun r9 => ((C6 r1 r9.1 r9.2).bind fun r10 => (some (r10.1, r10.2)))) else (some (false, (Qc.mk (Qf.mk h0.x.Line h0.x.Label (w64 ((3 : Int) + r8)) h0.x.Op h0.x.Text h0.x.Args))))) else (some (false, (Qc.mk (Qf.mk h0.x.Line h0.x.Label (w64 ((3 : Int) + r8)) h0.x.Op h0.x.Text h0.x.Args)))))) else (bif (eqS a1 QE) then ((C4 [QD, QE, QF] a1).bind fun r11 => (bif (decide ((((r1.length) : Nat) : Int) ≥ 1)) then (bif (decide ((((r1.length) : Nat) : Int) ≤ 16)) then ((C5 (((r1.length) : Nat) : Int) (Qc.mk (Qf.mk h0.x.Line h0.x.Label (w64 ((3 : Int) + r11)) h0.x.Op h0.x.Text h0.x.Args))).bind fun r12 => ((C6 r1 r12.1 r12.2).bind fun r13 => (some (r13.1, r13.2)))) else (some (false, (Qc.mk (Qf.mk h0.x.Line h0.x.Label (w64 ((3 : Int) + r11)) h0.x.Op h0.x.Text h0.x.Args))))) else (some (false, (Qc.mk (Qf.mk h0.x.Line h0.x.Label (w64 ((3 : Int) + r11)) h0.x.Op h0.x.Text h0.x.Args)))))) else (bif (eqS a1 QF) then ((C4 [QD, QE, QF] a1).bind fun r14 => (bif (decide ((((r1.length) : Nat) : Int) ≥ 1)) then (bif (decide ((((r1.length) : Nat) : Int) ≤ 16)) then ((C5 (((r1.length) : Nat) : Int) (Qc.mk (Qf.mk h0.x.Line h0.x.Label (w64 ((3 : Int) + r14)) h0.x.Op h0.x.Text h0.x.Args))).bind fun r15 => ((C6 r1 r15.1 r15.2).bind fun r16 => (some (r16.1, r16.2)))) else (some (false, (Qc.mk (Qf.mk h0.x.Line h0.x.Label (w64 ((3 : Int) + r14)) h0.x.Op h0.x.Text h0.x.Args))))) else (some (false, (Qc.mk (Qf.mk h0.x.Line h0.x.Label (w64 ((3 : Int) + r14)) h0.x.Op h0.x.Text h0.x.Args)))))) else (bif (eqS a1 VM) then ((C7 a2 (Qc.mk (Qf.mk h0.x.Line h0.x.Label (6 : Int) h0.x.Op h0.x.Text h0.x.Args))).bind fun r17 => (some (r17.1, r17.2))) else (bif (eqS a1 Jg) then ((C4 [Jg, Jh] a1).bind fun r18 => ((C5 (1 : Int) (Qc.mk (Qf.mk h0.x.Line h0.x.Label (w64 ((7 : Int) + r18)) h0.x.Op h0.x.Text h0.x.Args))).bind fun r19 => ((C6 r1 r19.1 r19.2).bind fun r20 => (some (r20.1, r20.2))))) else (bif (eqS a1 Jh) then ((C4 [Jg, Jh] a1).bind fun r21 => ((C5 (1 : Int) (Qc.mk (Qf.mk h0.x.Line h0.x.Label (w64 ((7 : Int) + r21)) h0.x.Op h0.x.Text h0.x.Args))).bind fun r22 => ((C6 r1 r22.1 r22.2).bind fun r23 => (some (r23.1, r23.2))))) else (bif (eqS a1 X7) then ((C6 r1 (Qc.mk (Qf.mk h0.x.Line h0.x.Label (9 : Int) h0.x.Op h0.x.Text h0.x.Args)) [131, 129]).bind fun r24 => (some (r24.1, r24.2))) else (some (false, h0)))))))))))))))
def ZI (P : Pg) (w : Cf) (C0 : ZT) (C1 : SG) (C2 : VU) (C3 : FO) (C4 : GP) (C5 : PG) (C6 : YW) (C7 : XP) (a1 : ByteArray) (a2 : ByteArray) (h0 : Qc) : Tr (Bool × Qc) AH := (.call (QfA w a2) (C0 a2) Fc fun r1 => (.call (QkC w a1) (C1 a1) Qei fun r2 => (.as r2.2 (.call (Sq w r1 (Qc.mk (Qf.mk h0.x.Line h0.x.Label (zi 1) r2.1 h0.x.Text h0.x.Args))) (C2 r1 (Qc.mk (Qf.mk h0.x.Line h0.x.Label (zi 1) r2.1 h0.x.Text h0.x.Args))) Y4 fun r3 => (rt QG (r3.1, r3.2))) (.call (Qi9 w) (C3) Qcj fun r4 => (.call (ZX w r4 a1) (C4 r4 a1) Xd fun r5 => (.as (decide (r5 ≥ 0)) (.yes (decide ((zi 2) ≠ 0)) (.call (FP w (w64 ((zi 1) + (w64 ((w64 (Int.tdiv r5 (zi 2))) * (zi 2))))) (Qc.mk (Qf.mk h0.x.Line h0.x.Label (zi 2) r5 h0.x.Text h0.x.Args))) (C5 (w64 ((zi 1) + (w64 ((w64 (Int.tdiv r5 (zi 2))) * (zi 2))))) (Qc.mk (Qf.mk h0.x.Line h0.x.Label (zi 2) r5 h0.x.Text h0.x.Args))) Gj fun r6 => (.call (Ed w r1 r6.1 r6.2) (C6 r1 r6.1 r6.2) Zf fun r7 => (rt QG (r7.1, r7.2))))) (let u81 := (eqS a1 QD); .as u81 (.yes u81 (.rows [[xs QD], [xs QE], [xs QF]] (Qh [QD, QE, QF]) (.call (ZX w [QD, QE, QF] a1) (C4 [QD, QE, QF] a1) Xd fun r8 => (.num ((Qh r1).length) (r1.length) (let u74 := (decide ((((r1.length) : Nat) : Int) ≥ 1)); .as u74 (.yes u74 (.num ((Qh r1).length) (r1.length) (yesN 2 u74 (let u73 := (decide ((((r1.length) : Nat) : Int) ≤ 16)); .as u73 (yesN 4 u73 (.num ((Qh r1).length) (r1.length) (.yes u73 (.call (FP w (((r1.length) : Nat) : Int) (Qc.mk (Qf.mk h0.x.Line h0.x.Label (w64 ((zi 3) + r8)) h0.x.Op h0.x.Text h0.x.Args))) (C5 (((r1.length) : Nat) : Int) (Qc.mk (Qf.mk h0.x.Line h0.x.Label (w64 ((zi 3) + r8)) h0.x.Op h0.x.Text h0.x.Args))) Gj fun r9 => (.yes u73 (.call (Ed w r1 r9.1 r9.2) (C6 r1 r9.1 r9.2) Zf fun r10 => (.yes u73 (rt QG (r10.1, r10.2))))))))) (noN 7 u73 (rt QG (false, (Qc.mk (Qf.mk h0.x.Line h0.x.Label (w64 ((zi 3) + r8)) h0.x.Op h0.x.Text h0.x.Args))))))))) (noN 3 u74 (noN 8 false (rt QG (false, (Qc.mk (Qf.mk h0.x.Line h0.x.Label (w64 ((zi 3) + r8)) h0.x.Op h0.x.Text h0.x.Args))))))))))) (let u80 := (eqS a1 QE); .as u80 (.yes u80 (.rows [[xs QD], [xs QE], [xs QF]] (Qh [QD, QE, QF]) (.call (ZX w [QD, QE, QF] a1) (C4 [QD, QE, QF] a1) Xd fun r11 => (.num ((Qh r1).length) (r1.length) (let u76 := (decide ((((r1.length) : Nat) : Int) ≥ 1)); .as u76 (.yes u76 (.num ((Qh r1).length) (r1.length) (yesN 2 u76 (let u75 := (decide ((((r1.length) : Nat) : Int) ≤ 16)); .as u75 (yesN 4 u75 (.num ((Qh r1).length) (r1.length) (.yes u75 (.call (FP w (((r1.length) : Nat) : Int) (Qc.mk (Qf.mk h0.x.Line h0.x.Label (w64 ((zi 3) + r11)) h0.x.Op h0.x.Text h0.x.Args))) (C5 (((r1.length) : Nat) : Int) (Qc.mk (Qf.mk h0.x.Line h0.x.Label (w64 ((zi 3) + r11)) h0.x.Op h0.x.Text h0.x.Args))) Gj fun r12 => (.yes u75 (.call (Ed w r1 r12.1 r12.2) (C6 r1 r12.1 r12.2) Zf fun r13 => (.yes u75 (rt QG (r13.1, r13.2))))))))) (noN 7 u75 (rt QG (false, (Qc.mk (Qf.mk h0.x.Line h0.x.Label (w64 ((zi 3) + r11)) h0.x.Op h0.x.Text h0.x.Args))))))))) (noN 3 u76 (noN 8 false (rt QG (false, (Qc.mk (Qf.mk h0.x.Line h0.x.Label (w64 ((zi 3) + r11)) h0.x.Op h0.x.Text h0.x.Args))))))))))) (.as (eqS a1 QF) (.rows [[xs QD], [xs QE], [xs QF]] (Qh [QD, QE, QF]) (.call (ZX w [QD, QE, QF] a1) (C4 [QD, QE, QF] a1) Xd fun r14 => (.num ((Qh r1).length) (r1.length) (let u78 := (decide ((((r1.length) : Nat) : Int) ≥ 1)); .as u78 (.yes u78 (.num ((Qh r1).length) (r1.length) (yesN 2 u78 (let u77 := (decide ((((r1.length) : Nat) : Int) ≤ 16)); .as u77 (yesN 4 u77 (.num ((Qh r1).length) (r1.length) (.yes u77 (.call (FP w (((r1.length) : Nat) : Int) (Qc.mk (Qf.mk h0.x.Line h0.x.Label (w64 ((zi 3) + r14)) h0.x.Op h0.x.Text h0.x.Args))) (C5 (((r1.length) : Nat) : Int) (Qc.mk (Qf.mk h0.x.Line h0.x.Label (w64 ((zi 3) + r14)) h0.x.Op h0.x.Text h0.x.Args))) Gj fun r15 => (.yes u77 (.call (Ed w r1 r15.1 r15.2) (C6 r1 r15.1 r15.2) Zf fun r16 => (.yes u77 (rt QG (r16.1, r16.2))))))))) (noN 7 u77 (rt QG (false, (Qc.mk (Qf.mk h0.x.Line h0.x.Label (w64 ((zi 3) + r14)) h0.x.Op h0.x.Text h0.x.Args))))))))) (noN 3 u78 (noN 8 false (rt QG (false, (Qc.mk (Qf.mk h0.x.Line h0.x.Label (w64 ((zi 3) + r14)) h0.x.Op h0.x.Text h0.x.Args)))))))))) (.as (eqS a1 VM) (.call (QcO w a2 (Qc.mk (Qf.mk h0.x.Line h0.x.Label (zi 6) h0.x.Op h0.x.Text h0.x.Args))) (C7 a2 (Qc.mk (Qf.mk h0.x.Line h0.x.Label (zi 6) h0.x.Op h0.x.Text h0.x.Args))) Wv fun r17 => (rt QG (r17.1, r17.2))) (let u79 := (eqS a1 Jg); .as u79 (.yes u79 (.rows [[xs Jg], [xs Jh]] (Qh [Jg, Jh]) (.call (ZX w [Jg, Jh] a1) (C4 [Jg, Jh] a1) Xd fun r18 => (.call (FP w (zi 1) (Qc.mk (Qf.mk h0.x.Line h0.x.Label (w64 ((zi 7) + r18)) h0.x.Op h0.x.Text h0.x.Args))) (C5 (zi 1) (Qc.mk (Qf.mk h0.x.Line h0.x.Label (w64 ((zi 7) + r18)) h0.x.Op h0.x.Text h0.x.Args))) Gj fun r19 => (.call (Ed w r1 r19.1 r19.2) (C6 r1 r19.1 r19.2) Zf fun r20 => (rt QG (r20.1, r20.2))))))) (.as (eqS a1 Jh) (.rows [[xs Jg], [xs Jh]] (Qh [Jg, Jh]) (.call (ZX w [Jg, Jh] a1) (C4 [Jg, Jh] a1) Xd fun r21 => (.call (FP w (zi 1) (Qc.mk (Qf.mk h0.x.Line h0.x.Label (w64 ((zi 7) + r21)) h0.x.Op h0.x.Text h0.x.Args))) (C5 (zi 1) (Qc.mk (Qf.mk h0.x.Line h0.x.Label (w64 ((zi 7) + r21)) h0.x.Op h0.x.Text h0.x.Args))) Gj fun r22 => (.call (Ed w r1 r22.1 r22.2) (C6 r1 r22.1 r22.2) Zf fun r23 => (rt QG (r23.1, r23.2)))))) (.as (eqS a1 X7) (.rows [[.fn (.func 131) [] []], [.fn (.func 129) [] []]] (US [131, 129]) (.call (Ed w r1 (Qc.mk (Qf.mk h0.x.Line h0.x.Label (zi 9) h0.x.Op h0.x.Text h0.x.Args)) [131, 129]) (C6 r1 (Qc.mk (Qf.mk h0.x.Line h0.x.Label (zi 9) h0.x.Op h0.x.Text h0.x.Args)) [131, 129]) Zf fun r24 => (rt QG (r24.1, r24.2)))) (rt QG (false, h0)))))))))))))))
theorem Qfr (w : Cf) (C0 : ZT) (C1 : SG) (C2 : VU) (C3 : FO) (C4 : GP) (C5 : PG) (C6 : YW) (C7 : XP) (a1 : ByteArray) (a2 : ByteArray) (h0 : Qc) : (ZI pp w C0 C1 C2 C3 C4 C5 C6 C7 a1 a2 h0).norm (bodyT pp w G 76 (ZG a1 a2 h0).1 (ZG a1 a2 h0).2) = ZI pp w C0 C1 C2 C3 C4 C5 C6 C7 a1 a2 h0 := by kernel_rfl
theorem Qfs (P : Pg) (w : Cf) (lp : Lo) (C0 : ZT) (C1 : SG) (C2 : VU) (C3 : FO) (C4 : GP) (C5 : PG) (C6 : YW) (C7 : XP) (K0 : QgN w C0) (K1 : QlD w C1) (K2 : SU w C2) (K3 : QjS w C3) (K4 : QhM w C4) (K5 : QkM w C5) (K6 : Qi8 w C6) (K7 : QdY w C7) (a1 : ByteArray) (a2 : ByteArray) (h0 : Qc) : (ZI P w C0 C1 C2 C3 C4 C5 C6 C7 a1 a2 h0).ok lp QG := fun r1 hr1 => ⟨K0 _ _ hr1, fun r2 hr2 => ⟨K1 _ _ hr2, ⟨rfl, fun hq0 => fun r3 hr3 => ⟨K2 _ _ _ hr3, rfl⟩, fun hq0 => fun r4 hr4 => ⟨K3 _ hr4, fun r5 hr5 => ⟨K4 _ _ _ hr5, ⟨rfl, fun hq1 => ⟨rfl, fun r6 hr6 => ⟨K5 _ _ _ hr6, fun r7 hr7 => ⟨K6 _ _ _ _ hr7, rfl⟩⟩⟩, fun hq1 => ⟨rfl, fun hq2 => ⟨hq2, ⟨(Un [QD, QE, QF]), fun r8 hr8 => ⟨K4 _ _ _ hr8, ⟨(Qr _), ⟨rfl, fun hq3 => ⟨hq3, ⟨(Qr _), yesN_ok 2 (hq3) (⟨rfl, fun hq4 => yesN_ok 4 (hq4) (⟨(Qr _), ⟨hq4, fun r9 hr9 => ⟨K5 _ _ _ hr9, ⟨hq4, fun r10 hr10 => ⟨K6 _ _ _ _ hr10, ⟨hq4, rfl⟩⟩⟩⟩⟩⟩), fun hq4 => noN_ok 7 (hq4) (rfl)⟩)⟩⟩, fun hq3 => noN_ok 3 (hq3) (noN_ok 8 (rfl) (rfl))⟩⟩⟩⟩⟩, fun hq2 => ⟨rfl, fun hq3 => ⟨hq3, ⟨(Un [QD, QE, QF]), fun r11 hr11 => ⟨K4 _ _ _ hr11, ⟨(Qr _), ⟨rfl, fun hq4 => ⟨hq4, ⟨(Qr _), yesN_ok 2 (hq4) (⟨rfl, fun hq5 => yesN_ok 4 (hq5) (⟨(Qr _), ⟨hq5, fun r12 hr12 => ⟨K5 _ _ _ hr12, ⟨hq5, fun r13 hr13 => ⟨K6 _ _ _ _ hr13, ⟨hq5, rfl⟩⟩⟩⟩⟩⟩), fun hq5 => noN_ok 7 (hq5) (rfl)⟩)⟩⟩, fun hq4 => noN_ok 3 (hq4) (noN_ok 8 (rfl) (rfl))⟩⟩⟩⟩⟩, fun hq3 => ⟨rfl, fun hq4 => ⟨(Un [QD, QE, QF]), fun r14 hr14 => ⟨K4 _ _ _ hr14, ⟨(Qr _), ⟨rfl, fun hq5 => ⟨hq5, ⟨(Qr _), yesN_ok 2 (hq5) (⟨rfl, fun hq6 => yesN_ok 4 (hq6) (⟨(Qr _), ⟨hq6, fun r15 hr15 => ⟨K5 _ _ _ hr15, ⟨hq6, fun r16 hr16 => ⟨K6 _ _ _ _ hr16, ⟨hq6, rfl⟩⟩⟩⟩⟩⟩), fun hq6 => noN_ok 7 (hq6) (rfl)⟩)⟩⟩, fun hq5 => noN_ok 3 (hq5) (noN_ok 8 (rfl) (rfl))⟩⟩⟩⟩, fun hq4 => ⟨rfl, fun hq5 => fun r17 hr17 => ⟨K7 _ _ _ hr17, rfl⟩, fun hq5 => ⟨rfl, fun hq6 => ⟨hq6, ⟨(Un [Jg, Jh]), fun r18 hr18 => ⟨K4 _ _ _ hr18, fun r19 hr19 => ⟨K5 _ _ _ hr19, fun r20 hr20 => ⟨K6 _ _ _ _ hr20, rfl⟩⟩⟩⟩⟩, fun hq6 => ⟨rfl, fun hq7 => ⟨(Un [Jg, Jh]), fun r21 hr21 => ⟨K4 _ _ _ hr21, fun r22 hr22 => ⟨K5 _ _ _ hr22, fun r23 hr23 => ⟨K6 _ _ _ _ hr23, rfl⟩⟩⟩⟩, fun hq7 => ⟨rfl, fun hq8 => ⟨(Fb [131, 129]), fun r24 hr24 => ⟨K6 _ _ _ _ hr24, rfl⟩⟩, fun hq8 => rfl⟩⟩⟩⟩⟩⟩⟩⟩⟩⟩⟩⟩⟩
theorem Qft {C0 : Nat → ZT} {D0 : ZT} (H0 : Cv1 C0 D0) {C1 : Nat → SG} {D1 : SG} (H1 : Cv1 C1 D1) {C2 : Nat → VU} {D2 : VU} (H2 : Cv2 C2 D2) {C3 : Nat → FO} {D3 : FO} (H3 : Cv C3 D3) {C4 : Nat → GP} {D4 : GP} (H4 : Cv2 C4 D4) {C5 : Nat → PG} {D5 : PG} (H5 : Cv2 C5 D5) {C6 : Nat → YW} {D6 : YW} (H6 : Cv3 C6 D6) {C7 : Nat → XP} {D7 : XP} (H7 : Cv2 C7 D7) (a1 : ByteArray) (a2 : ByteArray) (h0 : Qc) : Cv (fun k => Wb (C0 k) (C1 k) (C2 k) (C3 k) (C4 k) (C5 k) (C6 k) (C7 k) a1 a2 h0) (Wb D0 D1 D2 D3 D4 D5 D6 D7 a1 a2 h0) := by
  unfold Wb
  exact .bind (H0 _) fun r1 => .bind (H1 _) fun r2 => .cond (.bind (H2 _ _) fun r3 => by exact .const _) (.bind (H3) fun r4 => .bind (H4 _ _) fun r5 => .cond (.bind (H5 _ _) fun r6 => .bind (H6 _ _ _) fun r7 => by exact .const _) (.cond (.bind (H4 _ _) fun r8 => .cond (.cond (.bind (H5 _ _) fun r9 => .bind (H6 _ _ _) fun r10 => by exact .const _) (by exact .const _)) (by exact .const _)) (.cond (.bind (H4 _ _) fun r11 => .cond (.cond (.bind (H5 _ _) fun r12 => .bind (H6 _ _ _) fun r13 => by exact .const _) (by exact .const _)) (by exact .const _)) (.cond (.bind (H4 _ _) fun r14 => .cond (.cond (.bind (H5 _ _) fun r15 => .bind (H6 _ _ _) fun r16 => by exact .const _) (by exact .const _)) (by exact .const _)) (.cond (.bind (H7 _ _) fun r17 => by exact .const _) (.cond (.bind (H4 _ _) fun r18 => .bind (H5 _ _) fun r19 => .bind (H6 _ _ _) fun r20 => by exact .const _) (.cond (.bind (H4 _ _) fun r21 => .bind (H5 _ _) fun r22 => .bind (H6 _ _ _) fun r23 => by exact .const _) (.cond (.bind (H6 _ _ _) fun r24 => by exact .const _) (by exact .const _)))))))))
def Ji.s : Nat → ByteArray → ByteArray → Qc → Option (Bool × Qc)
  | 0, _, _, _ => none
  | k + 1, a1, a2, h0 => Wb (Vn.s k) (WX.s k) (Jc.s k) (WC.s k) (Va.s k) (Wu.s k) (Vj.s k) (Uk.s k) a1 a2 h0
theorem Ji.ok : ∀ (k : Nat), QaU (ev k) (Ji.s k)
  | 0, _, _, _, _, h => (nomatch h)
  | k + 1, a1, a2, h0, r, h => fn_ok rfl (ZI pp (ev k) (Vn.s k) (WX.s k) (Jc.s k) (WC.s k) (Va.s k) (Wu.s k) (Vj.s k) (Uk.s k) a1 a2 h0) (Qfr _ _ _ _ _ _ _ _ _ a1 a2 h0) (Qfs _ _ _ _ _ _ _ _ _ _ _ (Vn.ok k) (WX.ok k) (Jc.ok k) (WC.ok k) (Va.ok k) (Wu.ok k) (Vj.ok k) (Uk.ok k)  a1 a2 h0) h
noncomputable def Ji (a1 : ByteArray) (a2 : ByteArray) (h0 : Qc) : Option (Bool × Qc) := Wb Vn WX Jc WC Va Wu Vj Uk a1 a2 h0
theorem Ji.cv (a1 : ByteArray) (a2 : ByteArray) (h0 : Qc) : Cv (fun k => Ji.s k a1 a2 h0) (Ji a1 a2 h0) := .un rfl (Qft Vn.cv WX.cv Jc.cv WC.cv Va.cv Wu.cv Vj.cv Uk.cv a1 a2 h0)
theorem Ji.eq (a1 : ByteArray) (a2 : ByteArray) (h0 : Qc) : Ji a1 a2 h0 = Wb Vn WX Jc WC Va Wu Vj Uk a1 a2 h0 := rfl
def Pn (r : (List Qg)) : AV × Heap := (.sl (Qo r), [])
def Vb.s : Nat → (List Qg) → Option (List Qg)
  | 0, _ => none
  | _ + 1, a0 => cloneT 64 a0
theorem Vb.ok : ∀ (k : Nat), ∀ (a0 : (List Qg)) (r : (List Qg)), Vb.s k a0 = some r → evalFn pp G k 77 [.sl (Qo a0)] [] = some (Pn r)
  | 0, _, _, h => (nomatch h)
  | k + 1, a0, r, h => cloneF_ok Ef (fun _ => rfl) (fun _ => rfl) (XZ _) (XZ _) h
abbrev GS := (List Qg) → Option (List Qg)
abbrev Qg3 (a0 : (List Qg)) : List AV × Heap := ([.sl (Qo a0)], [])
abbrev Qaz (w : Cf) (a0 : (List Qg)) : Option AH := w 77 (Qg3 a0).1 (Qg3 a0).2
abbrev Ql1 (w : Cf) (c : GS) : Prop := ∀ (a0 : (List Qg)) (r : (List Qg)), c a0 = some r → Qaz w a0 = some (Pn r)
noncomputable def Vb (a0 : (List Qg)) : Option (List Qg) := cloneT 64 a0
theorem Vb.mono (k : Nat) (a0 : (List Qg)) : Le (Vb.s k a0) (Vb.s (k + 1) a0) := by
  cases k with
  | zero => exact fun r h => nomatch h
  | succ k => exact Le.refl _
theorem Vb.cv (a0 : (List Qg)) : Cv (fun k => Vb.s k a0) (Vb a0) := ⟨fun k => Vb.mono k a0, fun r => ⟨fun h => ⟨1, h⟩, fun ⟨k, h⟩ => by
  cases k with
  | zero => cases h
  | succ k => exact h⟩⟩
def Wg (r : (Qf × Bool)) : AV × Heap := (.tup [.agg (Ga r.1), xo r.2], [])
abbrev SV := ByteArray → Option (Qf × Bool)
abbrev Qev (a0 : ByteArray) : List AV × Heap := ([xs a0], [])
abbrev Qew (w : Cf) (a0 : ByteArray) : Option AH := w 27 (Qev a0).1 (Qev a0).2
abbrev QlE (w : Cf) (c : SV) : Prop := ∀ (a0 : ByteArray) (r : (Qf × Bool)), c a0 = some r → Qew w a0 = some (Wg r)
def PI (C0 : XF) (C1 : Pz) (C2 : Xc) (C3 : X8) (C4 : Jd) (C5 : GL) (C6 : Wo) (C7 : GS) (a0 : ByteArray) : Option (Qf × Bool) := ((C0 a0 (10 : Int)).bind fun r1 => (bif (decide (r1 ≥ 0)) then (some ((Qf.mk (0 : Int) s_ (0 : Int) (0 : Int) s_ ([] : List Qg)), false)) else ((C1 a0).bind fun r2 => ((C2 r2).bind fun r3 => (bif (decide (r3 < ((r2.size : Nat) : Int))) then (bif (decide (0 ≤ r3 ∧ r3 < ((r2.size : Nat) : Int))) then (bif (((r2.data.getD (Int.toNat r3) 0).toNat : Int) == 58) then (bif (decide (0 ≤ (0 : Int) ∧ (0 : Int) ≤ r3 ∧ r3 ≤ ((r2.size : Nat) : Int))) then ((C3 (r2.extract (Int.toNat 0) (Int.toNat r3))).bind fun r4 => (bif (!r4) then (some ((Qf.mk (0 : Int) s_ (0 : Int) (0 : Int) s_ ([] : List Qg)), false)) else (bif (decide (0 ≤ (w64 (r3 + 1)) ∧ (w64 (r3 + 1)) ≤ ((r2.size : Nat) : Int) ∧ ((r2.size : Nat) : Int) ≤ ((r2.size : Nat) : Int))) then ((C4 (r2.extract (Int.toNat (w64 (r3 + 1))) (Int.toNat ((r2.size : Nat) : Int))) Xw).bind fun r5 => (bif (eqS r5 s_) then (bif (eqS (r2.extract (Int.toNat 0) (Int.toNat r3)) s_) then (some ((Qf.mk (0 : Int) s_ (0 : Int) (0 : Int) s_ ([] : List Qg)), true)) else (some ((Qf.mk (1 : Int) (r2.extract (Int.toNat 0) (Int.toNat r3)) (0 : Int) (0 : Int) s_ ([] : List Qg)), true))) else ((C5 r5).bind fun r6 => (bif (decide (0 ≤ (0 : Int) ∧ (0 : Int) ≤ r6 ∧ r6 ≤ ((r5.size : Nat) : Int))) then (bif (decide (0 ≤ r6 ∧ r6 ≤ ((r5.size : Nat) : Int) ∧ ((r5.size : Nat) : Int) ≤ ((r5.size : Nat) : Int))) then ((C4 (r5.extract (Int.toNat r6) (Int.toNat ((r5.size : Nat) : Int))) Xw).bind fun r7 => ((C6 (r5.extract (Int.toNat 0) (Int.toNat r6)) r7 (Qc.mk (Qf.mk (1 : Int) (r2.extract (Int.toNat 0) (Int.toNat r3)) (0 : Int) (0 : Int) s_ ([] : List Qg)))).bind fun r8 => (bif (!r8.1) then (some ((Qf.mk (0 : Int) s_ (0 : Int) (0 : Int) s_ ([] : List Qg)), false)) else ((C7 r8.2.x.Args).bind fun r9 => (some ((Qf.mk r8.2.x.Line r8.2.x.Label r8.2.x.Kind r8.2.x.Op r8.2.x.Text r9), true)))))) else none) else none)))) else none))) else none) else (bif (eqS r2 s_) then (some ((Qf.mk (0 : Int) s_ (0 : Int) (0 : Int) s_ ([] : List Qg)), true)) else ((C5 r2).bind fun r10 => (bif (decide (0 ≤ (0 : Int) ∧ (0 : Int) ≤ r10 ∧ r10 ≤ ((r2.size : Nat) : Int))) then (bif (decide (0 ≤ r10 ∧ r10 ≤ ((r2.size : Nat) : Int) ∧ ((r2.size : Nat) : Int) ≤ ((r2.size : Nat) : Int))) then ((C4 (r2.extract (Int.toNat r10) (Int.toNat ((r2.size : Nat) : Int))) Xw).bind fun r11 => ((C6 (r2.extract (Int.toNat 0) (Int.toNat r10)) r11 (Qc.mk (Qf.mk (1 : Int) s_ (0 : Int) (0 : Int) s_ ([] : List Qg)))).bind fun r12 => (bif (!r12.1) then (some ((Qf.mk (0 : Int) s_ (0 : Int) (0 : Int) s_ ([] : List Qg)), false)) else ((C7 r12.2.x.Args).bind fun r13 => (some ((Qf.mk r12.2.x.Line r12.2.x.Label r12.2.x.Kind r12.2.x.Op r12.2.x.Text r13), true)))))) else none) else none)))) else none) else (bif (eqS r2 s_) then (some ((Qf.mk (0 : Int) s_ (0 : Int) (0 : Int) s_ ([] : List Qg)), true)) else ((C5 r2).bind fun r14 => (bif (decide (0 ≤ (0 : Int) ∧ (0 : Int) ≤ r14 ∧ r14 ≤ ((r2.size : Nat) : Int))) then (bif (decide (0 ≤ r14 ∧ r14 ≤ ((r2.size : Nat) : Int) ∧ ((r2.size : Nat) : Int) ≤ ((r2.size : Nat) : Int))) then ((C4 (r2.extract (Int.toNat r14) (Int.toNat ((r2.size : Nat) : Int))) Xw).bind fun r15 => ((C6 (r2.extract (Int.toNat 0) (Int.toNat r14)) r15 (Qc.mk (Qf.mk (1 : Int) s_ (0 : Int) (0 : Int) s_ ([] : List Qg)))).bind fun r16 => (bif (!r16.1) then (some ((Qf.mk (0 : Int) s_ (0 : Int) (0 : Int) s_ ([] : List Qg)), false)) else ((C7 r16.2.x.Args).bind fun r17 => (some ((Qf.mk r16.2.x.Line r16.2.x.Label r16.2.x.Kind r16.2.x.Op r16.2.x.Text r17), true)))))) else none) else none))))))))
def Qex (P : Pg) (w : Cf) (C0 : XF) (C1 : Pz) (C2 : Xc) (C3 : X8) (C4 : Jd) (C5 : GL) (C6 : Wo) (C7 : GS) (a0 : ByteArray) : Tr (Qf × Bool) AH := (.call (QcF w a0 (zi 10)) (C0 a0 (zi 10)) Si fun r1 => (.as (decide (r1 ≥ 0)) (rt Wg ((Qf.mk (zi 0) s_ (zi 0) (zi 0) s_ ([] : List Qg)), false)) (.call (QjN w a0) (C1 a0) Qc9 fun r2 => (.call (Qe8 w r2) (C2 r2) SC fun r3 => (let u83 := (decide (r3 < (zz r2))); .as u83 (yesN 2 u83 (.as (in1 r3 (zz r2)) (yesN 2 u83 (.as ((gb r2 r3) == 58) (let u82 := (in2 (zi 0) r3 (zz r2)); .as u82 (.call (Qgc w (cu r2 (zi 0) r3)) (C3 (cu r2 (zi 0) r3)) YB fun r4 => (.as (!r4) (rt Wg ((Qf.mk (zi 0) s_ (zi 0) (zi 0) s_ ([] : List Qg)), false)) (.yes u82 (.as (in2 (w64 (r3 + 1)) (zz r2) (zz r2)) (.call (YP w (cu r2 (w64 (r3 + 1)) (zz r2)) Xw) (C4 (cu r2 (w64 (r3 + 1)) (zz r2)) Xw) X9 fun r5 => (.as (eqS r5 s_) (.as (eqS (cu r2 (zi 0) r3) s_) (rt Wg ((Qf.mk (zi 0) s_ (zi 0) (zi 0) s_ ([] : List Qg)), true)) (rt Wg ((Qf.mk (zi 1) (cu r2 (zi 0) r3) (zi 0) (zi 0) s_ ([] : List Qg)), true))) (.call (Qan w r5) (C5 r5) En fun r6 => (.as (in2 (zi 0) r6 (zz r5)) (.as (in2 r6 (zz r5) (zz r5)) (.call (YP w (cu r5 r6 (zz r5)) Xw) (C4 (cu r5 r6 (zz r5)) Xw) X9 fun r7 => (.call (ZH w (cu r5 (zi 0) r6) r7 (Qc.mk (Qf.mk (zi 1) (cu r2 (zi 0) r3) (zi 0) (zi 0) s_ ([] : List Qg)))) (C6 (cu r5 (zi 0) r6) r7 (Qc.mk (Qf.mk (zi 1) (cu r2 (zi 0) r3) (zi 0) (zi 0) s_ ([] : List Qg)))) QG fun r8 => (.as (!r8.1) (rt Wg ((Qf.mk (zi 0) s_ (zi 0) (zi 0) s_ ([] : List Qg)), false)) (.call (Qaz w r8.2.x.Args) (C7 r8.2.x.Args) Pn fun r9 => (rt Wg ((Qf.mk r8.2.x.Line r8.2.x.Label r8.2.x.Kind r8.2.x.Op r8.2.x.Text r9), true)))))) .fail) .fail)))) .fail)))) .fail) (.as (eqS r2 s_) (.yes true (rt Wg ((Qf.mk (zi 0) s_ (zi 0) (zi 0) s_ ([] : List Qg)), true))) (.call (Qan w r2) (C5 r2) En fun r10 => (.as (in2 (zi 0) r10 (zz r2)) (.as (in2 r10 (zz r2) (zz r2)) (.call (YP w (cu r2 r10 (zz r2)) Xw) (C4 (cu r2 r10 (zz r2)) Xw) X9 fun r11 => (.call (ZH w (cu r2 (zi 0) r10) r11 (Qc.mk (Qf.mk (zi 1) s_ (zi 0) (zi 0) s_ ([] : List Qg)))) (C6 (cu r2 (zi 0) r10) r11 (Qc.mk (Qf.mk (zi 1) s_ (zi 0) (zi 0) s_ ([] : List Qg)))) QG fun r12 => (.as (!r12.1) (rt Wg ((Qf.mk (zi 0) s_ (zi 0) (zi 0) s_ ([] : List Qg)), false)) (.call (Qaz w r12.2.x.Args) (C7 r12.2.x.Args) Pn fun r13 => (rt Wg ((Qf.mk r12.2.x.Line r12.2.x.Label r12.2.x.Kind r12.2.x.Op r12.2.x.Text r13), true)))))) .fail) .fail))))) .fail)) (noN 4 u83 (.no false (.as (eqS r2 s_) (.yes true (rt Wg ((Qf.mk (zi 0) s_ (zi 0) (zi 0) s_ ([] : List Qg)), true))) (.call (Qan w r2) (C5 r2) En fun r14 => (.as (in2 (zi 0) r14 (zz r2)) (.as (in2 r14 (zz r2) (zz r2)) (.call (YP w (cu r2 r14 (zz r2)) Xw) (C4 (cu r2 r14 (zz r2)) Xw) X9 fun r15 => (.call (ZH w (cu r2 (zi 0) r14) r15 (Qc.mk (Qf.mk (zi 1) s_ (zi 0) (zi 0) s_ ([] : List Qg)))) (C6 (cu r2 (zi 0) r14) r15 (Qc.mk (Qf.mk (zi 1) s_ (zi 0) (zi 0) s_ ([] : List Qg)))) QG fun r16 => (.as (!r16.1) (rt Wg ((Qf.mk (zi 0) s_ (zi 0) (zi 0) s_ ([] : List Qg)), false)) (.call (Qaz w r16.2.x.Args) (C7 r16.2.x.Args) Pn fun r17 => (rt Wg ((Qf.mk r16.2.x.Line r16.2.x.Label r16.2.x.Kind r16.2.x.Op r16.2.x.Text r17), true)))))) .fail) .fail))))))))))
theorem Qoq (w : Cf) (C0 : XF) (C1 : Pz) (C2 : Xc) (C3 : X8) (C4 : Jd) (C5 : GL) (C6 : Wo) (C7 : GS) (a0 : ByteArray) : (Qex pp w C0 C1 C2 C3 C4 C5 C6 C7 a0).norm (bodyT pp w G 27 (Qev a0).1 (Qev a0).2) = Qex pp w C0 C1 C2 C3 C4 C5 C6 C7 a0 := by kernel_rfl
theorem Qor (P : Pg) (w : Cf) (lp : Lo) (C0 : XF) (C1 : Pz) (C2 : Xc) (C3 : X8) (C4 : Jd) (C5 : GL) (C6 : Wo) (C7 : GS) (K0 : QiC w C0) (K1 : Qkx w C1) (K2 : Qgb w C2) (K3 : Qhe w C3) (K4 : P4 w C4) (K5 : QhJ w C5) (K6 : QaU w C6) (K7 : Ql1 w C7) (a0 : ByteArray) : (Qex P w C0 C1 C2 C3 C4 C5 C6 C7 a0).ok lp Wg := fun r1 hr1 => ⟨K0 _ _ _ hr1, ⟨rfl, fun hq0 => rfl, fun hq0 => fun r2 hr2 => ⟨K1 _ _ hr2, fun r3 hr3 => ⟨K2 _ _ hr3, ⟨rfl, fun hq1 => yesN_ok 2 (hq1) (⟨rfl, fun hq2 => yesN_ok 2 (hq1) (⟨rfl, fun hq3 => ⟨rfl, fun hq4 => fun r4 hr4 => ⟨K3 _ _ hr4, ⟨rfl, fun hq5 => rfl, fun hq5 => ⟨hq4, ⟨rfl, fun hq6 => fun r5 hr5 => ⟨K4 _ _ _ hr5, ⟨rfl, fun hq7 => ⟨rfl, fun hq8 => rfl, fun hq8 => rfl⟩, fun hq7 => fun r6 hr6 => ⟨K5 _ _ hr6, ⟨rfl, fun hq8 => ⟨rfl, fun hq9 => fun r7 hr7 => ⟨K4 _ _ _ hr7, fun r8 hr8 => ⟨K6 _ _ _ _ hr8, ⟨rfl, fun hq10 => rfl, fun hq10 => fun r9 hr9 => ⟨K7 _ _ hr9, rfl⟩⟩⟩⟩, fun hq9 => trivial⟩, fun hq8 => trivial⟩⟩⟩⟩, fun hq6 => trivial⟩⟩⟩⟩, fun hq4 => trivial⟩, fun hq3 => ⟨rfl, fun hq4 => ⟨rfl, rfl⟩, fun hq4 => fun r10 hr10 => ⟨K5 _ _ hr10, ⟨rfl, fun hq5 => ⟨rfl, fun hq6 => fun r11 hr11 => ⟨K4 _ _ _ hr11, fun r12 hr12 => ⟨K6 _ _ _ _ hr12, ⟨rfl, fun hq7 => rfl, fun hq7 => fun r13 hr13 => ⟨K7 _ _ hr13, rfl⟩⟩⟩⟩, fun hq6 => trivial⟩, fun hq5 => trivial⟩⟩⟩⟩), fun hq2 => trivial⟩), fun hq1 => noN_ok 4 (hq1) (⟨rfl, ⟨rfl, fun hq2 => ⟨rfl, rfl⟩, fun hq2 => fun r14 hr14 => ⟨K5 _ _ hr14, ⟨rfl, fun hq3 => ⟨rfl, fun hq4 => fun r15 hr15 => ⟨K4 _ _ _ hr15, fun r16 hr16 => ⟨K6 _ _ _ _ hr16, ⟨rfl, fun hq5 => rfl, fun hq5 => fun r17 hr17 => ⟨K7 _ _ hr17, rfl⟩⟩⟩⟩, fun hq4 => trivial⟩, fun hq3 => trivial⟩⟩⟩⟩)⟩⟩⟩⟩⟩
theorem Qos {C0 : Nat → XF} {D0 : XF} (H0 : Cv2 C0 D0) {C1 : Nat → Pz} {D1 : Pz} (H1 : Cv1 C1 D1) {C2 : Nat → Xc} {D2 : Xc} (H2 : Cv1 C2 D2) {C3 : Nat → X8} {D3 : X8} (H3 : Cv1 C3 D3) {C4 : Nat → Jd} {D4 : Jd} (H4 : Cv2 C4 D4) {C5 : Nat → GL} {D5 : GL} (H5 : Cv1 C5 D5) {C6 : Nat → Wo} {D6 : Wo} (H6 : Cv3 C6 D6) {C7 : Nat → GS} {D7 : GS} (H7 : Cv1 C7 D7) (a0 : ByteArray) : Cv (fun k => PI (C0 k) (C1 k) (C2 k) (C3 k) (C4 k) (C5 k) (C6 k) (C7 k) a0) (PI D0 D1 D2 D3 D4 D5 D6 D7 a0) := by
  unfold PI
  exact .bind (H0 _ _) fun r1 => .cond (by exact .const _) (.bind (H1 _) fun r2 => .bind (H2 _) fun r3 => .cond (.cond (.cond (.cond (.bind (H3 _) fun r4 => .cond (by exact .const _) (.cond (.bind (H4 _ _) fun r5 => .cond (by exact .const _) (.bind (H5 _) fun r6 => .cond (.cond (.bind (H4 _ _) fun r7 => .bind (H6 _ _ _) fun r8 => .cond (by exact .const _) (.bind (H7 _) fun r9 => by exact .const _)) (by exact .const _)) (by exact .const _))) (by exact .const _))) (by exact .const _)) (.cond (by exact .const _) (.bind (H5 _) fun r10 => .cond (.cond (.bind (H4 _ _) fun r11 => .bind (H6 _ _ _) fun r12 => .cond (by exact .const _) (.bind (H7 _) fun r13 => by exact .const _)) (by exact .const _)) (by exact .const _)))) (by exact .const _)) (.cond (by exact .const _) (.bind (H5 _) fun r14 => .cond (.cond (.bind (H4 _ _) fun r15 => .bind (H6 _ _ _) fun r16 => .cond (by exact .const _) (.bind (H7 _) fun r17 => by exact .const _)) (by exact .const _)) (by exact .const _))))
def VV.s : Nat → ByteArray → Option (Qf × Bool)
  | 0, _ => none
  | k + 1, a0 => PI (Uc.s k) (Xf.s k) (U7.s k) (VC.s k) (Q3.s k) (U8.s k) (Ji.s k) (Vb.s k) a0
theorem VV.ok : ∀ (k : Nat), QlE (ev k) (VV.s k)
  | 0, _, _, h => (nomatch h)
  | k + 1, a0, r, h => fn_ok rfl (Qex pp (ev k) (Uc.s k) (Xf.s k) (U7.s k) (VC.s k) (Q3.s k) (U8.s k) (Ji.s k) (Vb.s k) a0) (Qoq _ _ _ _ _ _ _ _ _ a0) (Qor _ _ _ _ _ _ _ _ _ _ _ (Uc.ok k) (Xf.ok k) (U7.ok k) (VC.ok k) (Q3.ok k) (U8.ok k) (Ji.ok k) (Vb.ok k)  a0) h
noncomputable def VV (a0 : ByteArray) : Option (Qf × Bool) := PI Uc Xf U7 VC Q3 U8 Ji Vb a0
theorem VV.cv (a0 : ByteArray) : Cv (fun k => VV.s k a0) (VV a0) := .un rfl (Qos Uc.cv Xf.cv U7.cv VC.cv Q3.cv U8.cv Ji.cv Vb.cv a0)
theorem VV.eq (a0 : ByteArray) : VV a0 = PI Uc Xf U7 VC Q3 U8 Ji Vb a0 := rfl
def Qbv (r : (QA × Int × Bool)) : AV × Heap := (.tup [.agg (Qhc r.1), xi r.2.1, xo r.2.2], [])
abbrev ZZ := Int → ByteArray → Option (QA × Int × Bool)
abbrev QfI (a0 : Int) (a1 : ByteArray) : List AV × Heap := ([xi a0, xs a1], [])
abbrev Qjc (w : Cf) (a0 : Int) (a1 : ByteArray) : Option AH := w 58 (QfI a0 a1).1 (QfI a0 a1).2
abbrev Qj1 (w : Cf) (c : ZZ) : Prop := ∀ (a0 : Int) (a1 : ByteArray) (r : (QA × Int × Bool)), c a0 a1 = some r → Qjc w a0 a1 = some (Qbv r)
structure Qt where
  x0 : Int
  x1 : ByteArray
  x7 : Int
  x8 : Int
  x10 : Int
  x11 : Int
  h0 : QA
  h1_0 : ByteArray
  h1_1 : ByteArray
  h1_2 : ByteArray
structure QI where
  x5 : Int
  x6 : Bool
  h0 : QA
def Vc (a : Qt) : St := { n := 56, nx := 2, env := [(0, xi a.x0), (1, xs a.x1), (4, .ptr 0 0), (7, xi a.x7), (8, xi a.x8), (9, .ptr 1 0), (10, xi a.x10), (11, xi a.x11)], heap := [(0, .box [] (Qhc a.h0)), (1, .box [] [xs a.h1_0, xs a.h1_1, xs a.h1_2])] }
def QhO (a : QI) : Ex × St := (.ret, { n := 56, nx := 1, env := [(4, .ptr 0 0), (5, xi a.x5), (6, xo a.x6)], heap := [(0, .box [] (Qhc a.h0))] })
def QhP (a : QA) : Ex × St := (.exit 0, { n := 56, nx := 1, env := [(4, .ptr 0 0)], heap := [(0, .box [] (Qhc a))] })
def VH (a : (QI ⊕ QA)) : Ex × St := Sum.elim QhO QhP a
abbrev FR := Qt → Option (QI ⊕ QA)
abbrev QnS (P : Pg) (lp : Lo) (l : FR) : Prop := ∀ (a : Qt) (r : (QI ⊕ QA)), l a = some r → lp (loopAt P 58 5) (Vc a) = some (VH r)
end Go.Ab
